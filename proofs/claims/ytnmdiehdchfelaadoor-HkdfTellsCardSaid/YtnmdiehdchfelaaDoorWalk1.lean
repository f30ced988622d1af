/- What is proved: each function of the seat's program does what its contract says, wherever it is called; no condition. -/
import Derived.Test.YtnmdiehdchfelaaDoorWalk0
import Derived.Test.YtnmdiehdchfelaaDoorPure0
set_option linter.unusedVariables false
set_option linter.unusedSimpArgs false
set_option linter.unusedVariables false
set_option linter.unusedSimpArgs false
namespace Go.Vh
open Go Go.Vc Go.Proofs

/-! ### sodality/hkdf.Label -/
def hlabelSp : Sp := ⟨[], mkE (α := (List UInt8) × (List UInt8) × (List UInt8) × Int) (fun (k, m, c, n) => [.p (.bs (k)), .p (.str (m)), .p (.bs (c)), .p (.v (.int .i64 (n)))]) (fun (k, m, c, n) => []) (fun (k, m, c, n) => k.length ≤ 1000000000) (fun (k, m, c, n) => [.own 2 (0) ((labelF k m c n).length)]) (fun (k, m, c, n) => [(2, ⟨5, 1, (labelF k m c n).length, true, .bs (labelF k m c n)⟩)])⟩
def S_hlabel : FuncId → Option Sp := fun f => if f = 24 then some longSp else if f = 23 then some concatSp else if f = 12 then some hexpandSp else none
theorem S_hlabel_ok : ∀ f s, S_hlabel f = some s → FOK Tryd.prog gl f s := fun f s h => by
  unfold S_hlabel at h
  split at h
  · rename_i e; cases h; subst e; exact long_ok
  split at h
  · rename_i e; cases h; subst e; exact concat_ok
  split at h
  · rename_i e; cases h; subst e; exact hexpand_ok
  cases h
theorem S_hlabel_det : ∀ f s, S_hlabel f = some s → SpDet s.sp := fun f s h => by
  unfold S_hlabel at h
  split at h
  · cases h; exact mkE_det _ _ _ _ _
  split at h
  · cases h; exact mkE_det _ _ _ _ _
  split at h
  · cases h; exact mkE_det _ _ _ _ _
  cases h
set_option maxHeartbeats 1000000 in
set_option maxRecDepth 20000 in
theorem hlabel_ok : FOK Tryd.prog gl 14 hlabelSp := by
  refine FOK.ofE (tyOf_ok Tryd.prog) (slots := [8]) (nt := 42) Tryd.func14 rfl rfl rfl rfl (by decide) 4 (fun ⟨_, _, _, _⟩ => rfl) (by decide) (fun ⟨_, _, _, _⟩ => ⟨trivial, trivial, trivial, trivial, trivial⟩) ?_
  rintro ⟨k, m, c, n⟩ kk hlen hpre h
  have hl0 : (k).length ≤ 9223372036854775807 := hlen.1
  have hl2 : (c).length ≤ 9223372036854775807 := hlen.2.2.1
  replace hpre : k.length ≤ 1000000000 := hpre
  show HT (cx Tryd.prog 42 (tyOf Tryd.prog) gl []) _ [(0, .p (.bs (k))), (1, .p (.str (m))), (2, .p (.bs (c))), (3, .p (.v (.int .i64 (n))))] [] _
  have hl1 := longF_len (lbl ++ m)
  have hl2 := longF_len c
  have hl3 : (lbl ++ m).length = 8 + m.length := by rw [List.length_append]; rfl
  have hl4 := congrArg List.length (infoG_cat m c n)
  have hl5 : (infoG m c n).length = 2 + (longF (lbl ++ m)).length + (longF c).length := by unfold infoG; simp; omega
  refine HT.seq ?_
  refine HT.region S_hlabel_ok ?_
  refine So.n (Nat.le_of_ble_eq_true rfl) (A.v rfl (V.as (v := .p (.v (.slice none 0 0))) rfl ?_))
  refine So.e ?_
  show HT _ _ _ _ _
  refine HT.seq ?_
  refine HT.seq ?_
  refine HT.region S_hlabel_ok ?_
  refine So.n (Nat.le_of_ble_eq_true rfl) (A.v rfl (V.mv (v := .p (.v (.int .i64 _))) rfl ?_))
  refine So.n (Nat.le_of_ble_eq_true rfl) (A.v rfl (V.bin (a := (.v (.int .i64 _))) (b := (.v (.int .i64 (0)))) (r := .v (.bool _)) rfl rfl rfl trivial ?_))
  refine So.n (Nat.le_of_ble_eq_true rfl) (A.v rfl (V.mv (v := .p (.v (.bool _))) rfl ?_))
  refine So.gd rfl rfl (Nat.le_of_ble_eq_true rfl) (Nat.le_of_ble_eq_true rfl) (fun h1 => ?_) (fun h1 => ?_)
  · have h1 := of_decide_eq_false h1
    refine A.v rfl (V.mv (v := .p (.v (.int .i64 _))) rfl ?_)
    refine So.gy rfl rfl (Nat.le_of_ble_eq_true rfl) (Nat.le_of_ble_eq_true rfl) ?_
    refine A.v rfl (V.bin (a := (.v (.int .i64 _))) (b := (.v (.int .i64 (8160)))) (r := .v (.bool _)) rfl rfl rfl trivial ?_)
    refine So.n (Nat.le_of_ble_eq_true rfl) (A.v rfl (V.pkFalse (u := .p (.v (.bool _))) rfl rfl ?_))
    refine So.n (Nat.le_of_ble_eq_true rfl) (A.v rfl (V.mv (v := .p (.v (.bool _))) rfl ?_))
    refine So.gd rfl rfl (Nat.le_of_ble_eq_true rfl) (Nat.le_of_ble_eq_true rfl) (fun h2 => ?_) (fun h2 => ?_)
    · have h2 := of_decide_eq_false h2
      refine A.v rfl (V.mv (v := .p (.str _)) rfl ?_)
      refine So.gy rfl rfl (Nat.le_of_ble_eq_true rfl) (Nat.le_of_ble_eq_true rfl) ?_
      refine A.v rfl (V.lenStr ty9 rfl ?_)
      refine So.gy rfl rfl (Nat.le_of_ble_eq_true rfl) (Nat.le_of_ble_eq_true rfl) ?_
      refine A.v rfl (V.bin (a := (.v (.int .i64 _))) (b := (.v (.int .i64 (40)))) (r := .v (.bool _)) rfl rfl rfl trivial ?_)
      refine So.n (Nat.le_of_ble_eq_true rfl) (A.v rfl (V.pkFalse (u := .p (.v (.bool _))) rfl rfl ?_))
      refine So.n (Nat.le_of_ble_eq_true rfl) (A.v rfl (V.mv (v := .p (.v (.bool _))) rfl ?_))
      refine So.gd rfl rfl (Nat.le_of_ble_eq_true rfl) (Nat.le_of_ble_eq_true rfl) (fun h3 => ?_) (fun h3 => ?_)
      · have h3 := of_decide_eq_false h3
        refine A.v rfl (V.mv (v := .p (.bs _)) rfl ?_)
        refine So.gy rfl rfl (Nat.le_of_ble_eq_true rfl) (Nat.le_of_ble_eq_true rfl) ?_
        refine A.v rfl (V.len ty22 (v := .p (.bs _)) rfl rfl ?_)
        refine So.gy rfl rfl (Nat.le_of_ble_eq_true rfl) (Nat.le_of_ble_eq_true rfl) ?_
        refine A.v rfl (V.bin (a := (.v (.int .i64 _))) (b := (.v (.int .i64 (16000)))) (r := .v (.bool _)) rfl rfl rfl trivial ?_)
        refine So.n (Nat.le_of_ble_eq_true rfl) (A.v rfl (V.pkFalse (u := .p (.v (.bool _))) rfl rfl ?_))
        refine So.e ?_
        show HT _ _ _ _ _
        refine R.cond rfl rfl (fun h4 => ?_) (fun h4 => ?_)
        · have h4 := of_decide_eq_true h4
          refine HT.seq ?_
          refine HT.region S_hlabel_ok ?_
          refine So.n (Nat.le_of_ble_eq_true rfl) (A.v rfl (V.as (v := .p (.v (.slice none 0 0))) rfl ?_))
          refine So.e ?_
          show HT _ _ _ _ _
          refine R.phan 8 1 5 1 (.bs []) rfl rfl rfl ⟨rfl, rfl⟩ ?_
          refine HT.ret ?_
          exact ret_ok (sg [(2, 1)]) h rfl rfl rfl ⟨trivial, trivial⟩ ⟨rfl, trivial⟩ rfl ⟨⟨⟨le_own2 (by first | rfl | omega) (by first | (show (_ : Nat) = _; first | (rw [labelF_no (by omega)]; rfl) | (rw [labelF_yes (by omega)])) | (show (_ : List UInt8) = _; first | (rw [labelF_no (by omega)]; done) | (rw [labelF_yes (by omega)])) | rfl), rfl⟩, trivial⟩, ⟨⟨_, rfl, .inl (ob_bs (by first | rfl | ((try dsimp only); (first | (show (_ : Nat) = _; first | (rw [labelF_no (by omega)]; rfl) | (rw [labelF_yes (by omega)])) | (show (_ : List UInt8) = _; first | (rw [labelF_no (by omega)]; done) | (rw [labelF_yes (by omega)])) | rfl))) (by first | rfl | ((try dsimp only); (first | (show (_ : Nat) = _; first | (rw [labelF_no (by omega)]; rfl) | (rw [labelF_yes (by omega)])) | (show (_ : List UInt8) = _; first | (rw [labelF_no (by omega)]; done) | (rw [labelF_yes (by omega)])) | rfl)))), trivial⟩, trivial⟩⟩
        · have h4 := of_decide_eq_false h4
          refine HT.skip ?_
          show HT _ _ _ _ _
          refine HT.seq ?_
          refine HT.region S_hlabel_ok ?_
          refine So.n (Nat.le_of_ble_eq_true rfl) (A.v rfl (V.mv (v := .p (.bs _)) rfl ?_))
          refine So.n (Nat.le_of_ble_eq_true rfl) (A.v rfl (V.mv (v := .p (.v (.int .i64 _))) rfl ?_))
          refine So.n (Nat.le_of_ble_eq_true rfl) (A.v rfl (V.shrI (n := 8) (M := 256) rfl rfl rfl (by decide) ?_))
          refine So.n (Nat.le_of_ble_eq_true rfl) (A.v rfl (V.cvN ty5 ty3 (a := (.v (.int .i64 _))) (r := (.u8 _)) rfl rfl ?_))
          refine So.n (Nat.le_of_ble_eq_true rfl) (A.v rfl (V.mv (v := .p (.v (.int .i64 _))) rfl ?_))
          refine So.n (Nat.le_of_ble_eq_true rfl) (A.v rfl (V.cvN ty5 ty3 (a := (.v (.int .i64 _))) (r := (.u8 _)) rfl rfl ?_))
          refine So.n (Nat.le_of_ble_eq_true rfl) (A.bsl 1 ty22 ty5 rfl (Nat.le_of_ble_eq_true rfl) (Nat.le_of_ble_eq_true rfl) (fun _ => rfl) rfl rfl trivial ⟨trivial, trivial, trivial⟩ rfl (N := 2) rfl (c := .bs [_, _]) rfl ?_)
          refine So.n (Nat.le_of_ble_eq_true rfl) (A.v rfl (V.mv (v := .p (.str _)) rfl ?_))
          refine So.n (Nat.le_of_ble_eq_true rfl) (A.v rfl (V.bin (a := (.str [71, 75, 65, 32, 49, 46, 48, 32])) (b := (.str _)) (r := .str _) rfl rfl rfl (by first | rfl | omega | (simp; done) | (simp; omega) | (simp [maxLen]; omega)) ?_))
          refine So.n (Nat.le_of_ble_eq_true rfl) (A.cvS 2 ty22 ty5 ty9 rfl rfl (by first | rfl | omega | (simp; done) | (simp; omega) | (simp [maxLen]; omega)) rfl trivial ?_)
          refine So.n (Nat.le_of_ble_eq_true rfl) (A.call0 [.p (.bs _)] 3 rfl rfl rfl rfl ⟨trivial, trivial⟩ trivial (lbl ++ m) ⟨le_bs (by rw [take_full]; rfl), trivial⟩ trivial (by first | omega | (simp; done) | (simp; omega)) (Φ := fun _ => True) (fun _ _ => trivial) (.inr ⟨trivial, by simp [Hp.scal, OC.scal, PV.scal, BV.scal]⟩) (v := .own 5 0 _) rfl (O' := (5, ⟨5, 1, _, true, .bs _⟩) :: _) rfl (fun h5 => ?_))
          refine So.n (Nat.le_of_ble_eq_true rfl) (A.v rfl (V.mv (v := .p (.bs _)) rfl ?_))
          refine So.n (Nat.le_of_ble_eq_true rfl) (A.call0 [.p (.bs _)] 6 rfl rfl rfl rfl ⟨trivial, trivial⟩ trivial _ ⟨.refl _, trivial⟩ trivial (by first | omega | (simp; done) | (simp; omega)) (Φ := fun _ => True) (fun _ _ => trivial) (.inl rfl) (v := .own 8 0 _) rfl (O' := (8, ⟨5, 1, _, true, .bs _⟩) :: _) rfl (fun h6 => ?_))
          refine So.n (Nat.le_of_ble_eq_true rfl) (A.bsl 3 ty45 ty22 rfl (Nat.le_of_ble_eq_true rfl) (Nat.le_of_ble_eq_true rfl) (fun _ => rfl) rfl rfl trivial ⟨trivial, trivial, trivial, trivial⟩ rfl (N := 3) rfl (c := .rows _) rfl ?_)
          refine So.n (Nat.le_of_ble_eq_true rfl) (A.call0 [.p (.sl _ _ _)] 4 rfl rfl rfl rfl ⟨trivial, trivial⟩ trivial [[UInt8.ofInt (n / 256), UInt8.ofInt n], longF (lbl ++ m), longF c] ⟨le_sl rfl (by intro j hj; match j, hj with | 0, _ => rfl | 1, _ => exact congrArg PV.bs (take_full _) | 2, _ => exact congrArg PV.bs (take_full _)), trivial⟩ trivial (by first | omega | (simp; done) | (simp; omega)) (Φ := fun _ => True) (fun _ _ => trivial) (.inr ⟨trivial, by simp [Hp.scal, OC.scal, PV.scal, BV.scal]⟩) (v := .own 6 0 _) rfl (O' := (6, ⟨5, 1, _, true, .bs _⟩) :: _) rfl (fun h7 => ?_))
          refine So.n (Nat.le_of_ble_eq_true rfl) (A.v rfl (V.mv (v := .p (.v (.int .i64 _))) rfl ?_))
          refine So.n (Nat.le_of_ble_eq_true rfl) (A.call0 [.p (.bs _), .p (.bs _), .p (.v (.int .i64 _))] 7 rfl rfl rfl rfl ⟨trivial, trivial, trivial, trivial⟩ trivial (k, infoG m c n, n) ⟨.refl _, le_bs (by rw [take_full]; exact infoG_cat m c n), .refl _, trivial⟩ trivial (by first | omega | (simp; done) | (simp; omega)) (Φ := fun _ => True) (fun _ _ => trivial) (.inr ⟨trivial, by simp [Hp.scal, OC.scal, PV.scal, BV.scal]⟩) (v := .own 9 0 _) rfl (O' := (9, ⟨5, 1, _, true, .bs _⟩) :: _) rfl (fun h8 => ?_))
          refine So.n (Nat.le_of_ble_eq_true rfl) (A.v rfl (V.as (v := .own 9 0 _) rfl ?_))
          refine So.e ?_
          show HT _ _ _ _ _
          refine HT.ret ?_
          exact ret_ok (sg [(2, 9)]) h rfl rfl rfl ⟨trivial, trivial⟩ ⟨rfl, trivial⟩ rfl ⟨⟨⟨le_own2 (by first | rfl | omega) (by first | (show (_ : Nat) = _; first | (rw [labelF_no (by omega)]; rfl) | (rw [labelF_yes (by omega)])) | (show (_ : List UInt8) = _; first | (rw [labelF_no (by omega)]; done) | (rw [labelF_yes (by omega)])) | rfl), rfl⟩, trivial⟩, ⟨⟨_, rfl, .inl (ob_bs (by first | rfl | ((try dsimp only); (first | (show (_ : Nat) = _; first | (rw [labelF_no (by omega)]; rfl) | (rw [labelF_yes (by omega)])) | (show (_ : List UInt8) = _; first | (rw [labelF_no (by omega)]; done) | (rw [labelF_yes (by omega)])) | rfl))) (by first | rfl | ((try dsimp only); (first | (show (_ : Nat) = _; first | (rw [labelF_no (by omega)]; rfl) | (rw [labelF_yes (by omega)])) | (show (_ : List UInt8) = _; first | (rw [labelF_no (by omega)]; done) | (rw [labelF_yes (by omega)])) | rfl)))), trivial⟩, trivial⟩⟩
      · have h3 := of_decide_eq_true h3
        refine So.gn (b := true) rfl rfl rfl (Nat.le_of_ble_eq_true rfl) (Nat.le_of_ble_eq_true rfl) ?_
        refine So.gn (b := true) rfl rfl rfl (Nat.le_of_ble_eq_true rfl) (Nat.le_of_ble_eq_true rfl) ?_
        refine So.n (Nat.le_of_ble_eq_true rfl) (A.v rfl (V.pkTrue (u := .p (.v (.bool true))) rfl rfl ?_))
        refine So.e ?_
        show HT _ _ _ _ _
        refine R.condT rfl ?_
        refine HT.seq ?_
        refine HT.region S_hlabel_ok ?_
        refine So.n (Nat.le_of_ble_eq_true rfl) (A.v rfl (V.as (v := .p (.v (.slice none 0 0))) rfl ?_))
        refine So.e ?_
        show HT _ _ _ _ _
        refine R.phan 8 1 5 1 (.bs []) rfl rfl rfl ⟨rfl, rfl⟩ ?_
        refine HT.ret ?_
        exact ret_ok (sg [(2, 1)]) h rfl rfl rfl ⟨trivial, trivial⟩ ⟨rfl, trivial⟩ rfl ⟨⟨⟨le_own2 (by first | rfl | omega) (by first | (show (_ : Nat) = _; first | (rw [labelF_no (by omega)]; rfl) | (rw [labelF_yes (by omega)])) | (show (_ : List UInt8) = _; first | (rw [labelF_no (by omega)]; done) | (rw [labelF_yes (by omega)])) | rfl), rfl⟩, trivial⟩, ⟨⟨_, rfl, .inl (ob_bs (by first | rfl | ((try dsimp only); (first | (show (_ : Nat) = _; first | (rw [labelF_no (by omega)]; rfl) | (rw [labelF_yes (by omega)])) | (show (_ : List UInt8) = _; first | (rw [labelF_no (by omega)]; done) | (rw [labelF_yes (by omega)])) | rfl))) (by first | rfl | ((try dsimp only); (first | (show (_ : Nat) = _; first | (rw [labelF_no (by omega)]; rfl) | (rw [labelF_yes (by omega)])) | (show (_ : List UInt8) = _; first | (rw [labelF_no (by omega)]; done) | (rw [labelF_yes (by omega)])) | rfl)))), trivial⟩, trivial⟩⟩
    · have h2 := of_decide_eq_true h2
      refine So.gn (b := true) rfl rfl rfl (Nat.le_of_ble_eq_true rfl) (Nat.le_of_ble_eq_true rfl) ?_
      refine So.gn (b := true) rfl rfl rfl (Nat.le_of_ble_eq_true rfl) (Nat.le_of_ble_eq_true rfl) ?_
      refine So.n (Nat.le_of_ble_eq_true rfl) (A.v rfl (V.pkTrue (u := .p (.v (.bool true))) rfl rfl ?_))
      refine So.n (Nat.le_of_ble_eq_true rfl) (A.v rfl (V.mv (v := .p (.v (.bool true))) rfl ?_))
      refine So.gn (b := true) rfl rfl rfl (Nat.le_of_ble_eq_true rfl) (Nat.le_of_ble_eq_true rfl) ?_
      refine So.gn (b := true) rfl rfl rfl (Nat.le_of_ble_eq_true rfl) (Nat.le_of_ble_eq_true rfl) ?_
      refine So.gn (b := true) rfl rfl rfl (Nat.le_of_ble_eq_true rfl) (Nat.le_of_ble_eq_true rfl) ?_
      refine So.n (Nat.le_of_ble_eq_true rfl) (A.v rfl (V.pkTrue (u := .p (.v (.bool true))) rfl rfl ?_))
      refine So.e ?_
      show HT _ _ _ _ _
      refine R.condT rfl ?_
      refine HT.seq ?_
      refine HT.region S_hlabel_ok ?_
      refine So.n (Nat.le_of_ble_eq_true rfl) (A.v rfl (V.as (v := .p (.v (.slice none 0 0))) rfl ?_))
      refine So.e ?_
      show HT _ _ _ _ _
      refine R.phan 8 1 5 1 (.bs []) rfl rfl rfl ⟨rfl, rfl⟩ ?_
      refine HT.ret ?_
      exact ret_ok (sg [(2, 1)]) h rfl rfl rfl ⟨trivial, trivial⟩ ⟨rfl, trivial⟩ rfl ⟨⟨⟨le_own2 (by first | rfl | omega) (by first | (show (_ : Nat) = _; first | (rw [labelF_no (by omega)]; rfl) | (rw [labelF_yes (by omega)])) | (show (_ : List UInt8) = _; first | (rw [labelF_no (by omega)]; done) | (rw [labelF_yes (by omega)])) | rfl), rfl⟩, trivial⟩, ⟨⟨_, rfl, .inl (ob_bs (by first | rfl | ((try dsimp only); (first | (show (_ : Nat) = _; first | (rw [labelF_no (by omega)]; rfl) | (rw [labelF_yes (by omega)])) | (show (_ : List UInt8) = _; first | (rw [labelF_no (by omega)]; done) | (rw [labelF_yes (by omega)])) | rfl))) (by first | rfl | ((try dsimp only); (first | (show (_ : Nat) = _; first | (rw [labelF_no (by omega)]; rfl) | (rw [labelF_yes (by omega)])) | (show (_ : List UInt8) = _; first | (rw [labelF_no (by omega)]; done) | (rw [labelF_yes (by omega)])) | rfl)))), trivial⟩, trivial⟩⟩
  · have h1 := of_decide_eq_true h1
    refine So.gn (b := true) rfl rfl rfl (Nat.le_of_ble_eq_true rfl) (Nat.le_of_ble_eq_true rfl) ?_
    refine So.n (Nat.le_of_ble_eq_true rfl) (A.v rfl (V.pkTrue (u := .p (.v (.bool true))) rfl rfl ?_))
    refine So.n (Nat.le_of_ble_eq_true rfl) (A.v rfl (V.mv (v := .p (.v (.bool true))) rfl ?_))
    refine So.gn (b := true) rfl rfl rfl (Nat.le_of_ble_eq_true rfl) (Nat.le_of_ble_eq_true rfl) ?_
    refine So.gn (b := true) rfl rfl rfl (Nat.le_of_ble_eq_true rfl) (Nat.le_of_ble_eq_true rfl) ?_
    refine So.gn (b := true) rfl rfl rfl (Nat.le_of_ble_eq_true rfl) (Nat.le_of_ble_eq_true rfl) ?_
    refine So.n (Nat.le_of_ble_eq_true rfl) (A.v rfl (V.pkTrue (u := .p (.v (.bool true))) rfl rfl ?_))
    refine So.n (Nat.le_of_ble_eq_true rfl) (A.v rfl (V.mv (v := .p (.v (.bool true))) rfl ?_))
    refine So.gn (b := true) rfl rfl rfl (Nat.le_of_ble_eq_true rfl) (Nat.le_of_ble_eq_true rfl) ?_
    refine So.gn (b := true) rfl rfl rfl (Nat.le_of_ble_eq_true rfl) (Nat.le_of_ble_eq_true rfl) ?_
    refine So.gn (b := true) rfl rfl rfl (Nat.le_of_ble_eq_true rfl) (Nat.le_of_ble_eq_true rfl) ?_
    refine So.n (Nat.le_of_ble_eq_true rfl) (A.v rfl (V.pkTrue (u := .p (.v (.bool true))) rfl rfl ?_))
    refine So.e ?_
    show HT _ _ _ _ _
    refine R.condT rfl ?_
    refine HT.seq ?_
    refine HT.region S_hlabel_ok ?_
    refine So.n (Nat.le_of_ble_eq_true rfl) (A.v rfl (V.as (v := .p (.v (.slice none 0 0))) rfl ?_))
    refine So.e ?_
    show HT _ _ _ _ _
    refine R.phan 8 1 5 1 (.bs []) rfl rfl rfl ⟨rfl, rfl⟩ ?_
    refine HT.ret ?_
    exact ret_ok (sg [(2, 1)]) h rfl rfl rfl ⟨trivial, trivial⟩ ⟨rfl, trivial⟩ rfl ⟨⟨⟨le_own2 (by first | rfl | omega) (by first | (show (_ : Nat) = _; first | (rw [labelF_no (by omega)]; rfl) | (rw [labelF_yes (by omega)])) | (show (_ : List UInt8) = _; first | (rw [labelF_no (by omega)]; done) | (rw [labelF_yes (by omega)])) | rfl), rfl⟩, trivial⟩, ⟨⟨_, rfl, .inl (ob_bs (by first | rfl | ((try dsimp only); (first | (show (_ : Nat) = _; first | (rw [labelF_no (by omega)]; rfl) | (rw [labelF_yes (by omega)])) | (show (_ : List UInt8) = _; first | (rw [labelF_no (by omega)]; done) | (rw [labelF_yes (by omega)])) | rfl))) (by first | rfl | ((try dsimp only); (first | (show (_ : Nat) = _; first | (rw [labelF_no (by omega)]; rfl) | (rw [labelF_yes (by omega)])) | (show (_ : List UInt8) = _; first | (rw [labelF_no (by omega)]; done) | (rw [labelF_yes (by omega)])) | rfl)))), trivial⟩, trivial⟩⟩

end Go.Vh

set_option linter.unusedVariables false
set_option linter.unusedSimpArgs false
namespace Go.Vh
open Go Go.Vc Go.Proofs

/-! ### sodality/sodalitylaw03.great -/
def greatSp : Sp := ⟨[], mkE (α := (List UInt8)) (fun b => [.p (.bs (b))]) (fun b => []) (fun b => True) (fun b => [.p (.v (.bool (decide (17000 < (b.length : Int)))))]) (fun b => [])⟩
def S_great : FuncId → Option Sp := fun _ => none
theorem S_great_ok : ∀ f s, S_great f = some s → FOK Tryd.prog gl f s := fun f s h => by cases h
theorem S_great_det : ∀ f s, S_great f = some s → SpDet s.sp := fun f s h => by cases h
set_option maxHeartbeats 1000000 in
set_option maxRecDepth 1000 in
theorem great_ok : FOK Tryd.prog gl 11 greatSp := by
  refine FOK.ofE (tyOf_ok Tryd.prog) (slots := [2]) (nt := 6) Tryd.func11 rfl rfl rfl rfl (by decide) 1 (fun _ => rfl) (by decide) (fun _ => ⟨trivial, trivial⟩) ?_
  rintro b kk hlen hpre h
  have hl0 : (b).length ≤ 9223372036854775807 := hlen.1
  replace hpre : True := hpre
  show HT (cx Tryd.prog 6 (tyOf Tryd.prog) gl []) _ [(0, .p (.bs (b)))] [] _
  refine HT.seq ?_
  refine HT.region S_great_ok ?_
  refine So.n (Nat.le_of_ble_eq_true rfl) (A.v rfl (V.as (v := .p (.v (.bool false))) rfl ?_))
  refine So.e ?_
  show HT _ _ _ _ _
  refine HT.seq ?_
  refine HT.region S_great_ok ?_
  refine So.n (Nat.le_of_ble_eq_true rfl) (A.v rfl (V.mv (v := .p (.bs _)) rfl ?_))
  refine So.n (Nat.le_of_ble_eq_true rfl) (A.v rfl (V.len ty22 (v := .p (.bs _)) rfl rfl ?_))
  refine So.n (Nat.le_of_ble_eq_true rfl) (A.v rfl (V.bin (a := (.v (.int .i64 _))) (b := (.v (.int .i64 (17000)))) (r := .v (.bool _)) rfl rfl rfl trivial ?_))
  refine So.n (Nat.le_of_ble_eq_true rfl) (A.v rfl (V.as (v := .p (.v (.bool _))) rfl ?_))
  refine So.e ?_
  show HT _ _ _ _ _
  refine HT.ret ?_
  exact ret_ok (sg []) h rfl rfl rfl trivial ⟨trivial, trivial⟩ rfl ⟨⟨⟨le_bool (by first | rfl | omega | (simp; done) | (simp; omega)), trivial⟩, trivial⟩, trivial⟩

/-! ### sodality/sodalitylaw03.head -/
def headSp : Sp := ⟨[], mkE (α := Unit) (fun _ => []) (fun _ => []) (fun _ => True) (fun _ => [.p (.v (.bool true))]) (fun _ => [])⟩
def S_head : FuncId → Option Sp := fun f => if f = 15 then some hmacSp else if f = 10 then some equalSp else if f = 12 then some hexpandSp else if f = 14 then some hlabelSp else none
theorem S_head_ok : ∀ f s, S_head f = some s → FOK Tryd.prog gl f s := fun f s h => by
  unfold S_head at h
  split at h
  · rename_i e; cases h; subst e; exact hmac_ok
  split at h
  · rename_i e; cases h; subst e; exact equal_ok
  split at h
  · rename_i e; cases h; subst e; exact hexpand_ok
  split at h
  · rename_i e; cases h; subst e; exact hlabel_ok
  cases h
theorem S_head_det : ∀ f s, S_head f = some s → SpDet s.sp := fun f s h => by
  unfold S_head at h
  split at h
  · cases h; exact mkE_det _ _ _ _ _
  split at h
  · cases h; exact mkE_det _ _ _ _ _
  split at h
  · cases h; exact mkE_det _ _ _ _ _
  split at h
  · cases h; exact mkE_det _ _ _ _ _
  cases h
set_option maxHeartbeats 1000000 in
set_option maxRecDepth 20000 in
theorem head_ok : FOK Tryd.prog gl 9 headSp := by
  refine FOK.ofE (tyOf_ok Tryd.prog) (slots := [0]) (nt := 33) Tryd.func9 rfl rfl rfl rfl (by decide) 0 (fun _ => rfl) (by decide) (fun _ => trivial) ?_
  rintro _ kk hlen hpre h
  replace hpre : True := hpre
  show HT (cx Tryd.prog 33 (tyOf Tryd.prog) gl []) _ [] [] _
  have hen := expandN_len (k := nl) (i := nl) (n := 33) (by omega) (by omega)
  have hlb := labelF_no (k := nl) (nm := [120]) (c := nl) (n := 8161) (by omega)
  refine HT.seq ?_
  refine HT.region S_head_ok ?_
  refine So.n (Nat.le_of_ble_eq_true rfl) (A.v rfl (V.as (v := .p (.v (.bool false))) rfl ?_))
  refine So.e ?_
  show HT _ _ _ _ _
  refine HT.seq ?_
  refine HT.region S_head_ok ?_
  refine So.n (Nat.le_of_ble_eq_true rfl) (A.bsl 1 ty22 ty5 rfl (Nat.le_of_ble_eq_true rfl) (Nat.le_of_ble_eq_true rfl) (fun _ => rfl) rfl rfl trivial ⟨trivial, trivial, trivial, trivial⟩ rfl (N := 3) rfl (c := .bs [_, _, _]) rfl ?_)
  refine So.n (Nat.le_of_ble_eq_true rfl) (A.cvM ty22 ty5 rfl (by first | rfl | omega | (simp; done)) rfl rfl ?_)
  refine So.n (Nat.le_of_ble_eq_true rfl) (A.bsl 2 ty22 ty5 rfl (Nat.le_of_ble_eq_true rfl) (Nat.le_of_ble_eq_true rfl) (fun _ => rfl) rfl rfl trivial ⟨trivial, trivial, trivial, trivial, trivial, trivial, trivial, trivial, trivial, trivial, trivial, trivial, trivial, trivial, trivial, trivial, trivial, trivial, trivial, trivial, trivial, trivial, trivial, trivial, trivial, trivial, trivial, trivial, trivial, trivial, trivial, trivial, trivial, trivial, trivial, trivial, trivial, trivial, trivial, trivial, trivial, trivial, trivial, trivial⟩ rfl (N := 43) rfl (c := .bs [_, _, _, _, _, _, _, _, _, _, _, _, _, _, _, _, _, _, _, _, _, _, _, _, _, _, _, _, _, _, _, _, _, _, _, _, _, _, _, _, _, _, _]) rfl ?_)
  refine So.n (Nat.le_of_ble_eq_true rfl) (A.cvM ty22 ty5 rfl (by first | rfl | omega | (simp; done)) rfl rfl ?_)
  refine So.n (Nat.le_of_ble_eq_true rfl) (A.call0 [.p (.bs _), .p (.bs _)] 3 rfl rfl rfl rfl ⟨trivial, trivial, trivial⟩ trivial (_, _) ⟨.refl _, .refl _, trivial⟩ trivial (by first | omega | (simp only [List.drop_zero, List.take_length]; omega) | (simp; done) | (simp; omega)) (Φ := fun _ => True) (fun _ _ => trivial) (.inr ⟨trivial, by simp [Hp.scal, OC.scal, PV.scal, BV.scal]⟩) (v := .own 5 0 _) rfl (O' := (5, ⟨5, 1, _, true, .bs _⟩) :: _) rfl (fun h1 => ?_))
  refine So.n (Nat.le_of_ble_eq_true rfl) (A.v rfl (V.as (v := .own 5 0 _) rfl ?_))
  refine So.e ?_
  show HT _ _ _ _ _
  refine HT.seq ?_
  refine HT.region S_head_ok ?_
  refine So.n (Nat.le_of_ble_eq_true rfl) (A.v rfl (V.mv (v := .own 5 0 _) rfl ?_))
  refine So.n (Nat.le_of_ble_eq_true rfl) (A.v rfl (V.len ty22 (v := .own 5 0 _) rfl rfl ?_))
  refine So.n (Nat.le_of_ble_eq_true rfl) (A.v rfl (V.bin (a := (.v (.int .i64 _))) (b := (.v (.int .i64 (32)))) (r := .v (.bool _)) rfl rfl rfl trivial ?_))
  refine So.n (Nat.le_of_ble_eq_true rfl) (A.v rfl (V.mv (v := .p (.v (.bool _))) rfl ?_))
  refine So.gd rfl rfl (Nat.le_of_ble_eq_true rfl) (Nat.le_of_ble_eq_true rfl) (fun h2 => ?_) (fun h2 => ?_)
  · have h2 := of_decide_eq_true h2
    refine A.v rfl (V.mv (v := .own 5 0 _) rfl ?_)
    refine So.gy rfl rfl (Nat.le_of_ble_eq_true rfl) (Nat.le_of_ble_eq_true rfl) ?_
    refine A.v rfl (V.cutOwnH ty22 ty5 rfl rfl rfl rfl (by omega) (.inl rfl) rfl ?_)
    refine So.gy rfl rfl (Nat.le_of_ble_eq_true rfl) (Nat.le_of_ble_eq_true rfl) ?_
    refine A.v rfl (V.cvOwn ty9 rfl rfl rfl rfl ?_)
    refine So.gy rfl rfl (Nat.le_of_ble_eq_true rfl) (Nat.le_of_ble_eq_true rfl) ?_
    refine A.v rfl (V.bin (a := (.str _)) (b := (.str [247, 188, 131, 244])) (r := .v (.bool _)) rfl rfl rfl trivial ?_)
    refine So.n (Nat.le_of_ble_eq_true rfl) (A.v rfl (V.pkTrue (u := .p (.v (.bool _))) rfl rfl ?_))
    refine So.n (Nat.le_of_ble_eq_true rfl) (A.v rfl (V.mv (v := .p (.v (.bool _))) rfl ?_))
    refine So.gd rfl rfl (Nat.le_of_ble_eq_true rfl) (Nat.le_of_ble_eq_true rfl) (fun h3 => ?_) (fun h3 => ?_)
    · have h3 := of_decide_eq_true h3
      refine A.bsl 6 ty22 ty5 rfl (Nat.le_of_ble_eq_true rfl) (Nat.le_of_ble_eq_true rfl) (fun _ => rfl) rfl rfl trivial ⟨trivial, trivial⟩ rfl (N := 1) rfl (c := .bs [_]) rfl ?_
      refine So.gy rfl rfl (Nat.le_of_ble_eq_true rfl) (Nat.le_of_ble_eq_true rfl) ?_
      refine A.cvM ty22 ty5 rfl (by first | rfl | omega | (simp; done)) rfl rfl ?_
      refine So.gy rfl rfl (Nat.le_of_ble_eq_true rfl) (Nat.le_of_ble_eq_true rfl) ?_
      refine A.bsl 7 ty22 ty5 rfl (Nat.le_of_ble_eq_true rfl) (Nat.le_of_ble_eq_true rfl) (fun _ => rfl) rfl rfl trivial ⟨trivial, trivial⟩ rfl (N := 1) rfl (c := .bs [_]) rfl ?_
      refine So.gy rfl rfl (Nat.le_of_ble_eq_true rfl) (Nat.le_of_ble_eq_true rfl) ?_
      refine A.cvM ty22 ty5 rfl (by first | rfl | omega | (simp; done)) rfl rfl ?_
      refine So.gy rfl rfl (Nat.le_of_ble_eq_true rfl) (Nat.le_of_ble_eq_true rfl) ?_
      refine A.call0 [.p (.bs _), .p (.bs _)] 8 rfl rfl rfl rfl ⟨trivial, trivial, trivial⟩ trivial (_, _) ⟨.refl _, .refl _, trivial⟩ trivial (by trivial) (Φ := fun _ => True) (fun _ _ => trivial) (.inr ⟨trivial, by simp [Hp.scal, OC.scal, PV.scal, BV.scal]⟩) (v := .p (.v (.bool _))) rfl (O' := _) rfl (fun h4 => ?_)
      refine So.n (Nat.le_of_ble_eq_true rfl) (A.v rfl (V.pkTrue (u := .p (.v (.bool _))) rfl rfl ?_))
      refine So.n (Nat.le_of_ble_eq_true rfl) (A.v rfl (V.mv (v := .p (.v (.bool _))) rfl ?_))
      refine So.gd rfl rfl (Nat.le_of_ble_eq_true rfl) (Nat.le_of_ble_eq_true rfl) (fun h5 => ?_) (fun h5 => ?_)
      · have h5 := of_decide_eq_true h5
        refine A.call0 [.p (.v (.slice none 0 0)), .p (.v (.slice none 0 0)), .p (.v (.int .i64 _))] 8 rfl rfl rfl rfl ⟨trivial, trivial, trivial, trivial⟩ trivial (_, _, _) ⟨le_nil rfl, le_nil rfl, .refl _, trivial⟩ trivial (by first | omega | (simp; done) | (simp; omega)) (Φ := fun _ => True) (fun _ _ => trivial) (.inl rfl) (v := .own 10 0 _) rfl (O' := (10, ⟨5, 1, _, true, .bs _⟩) :: _) rfl (fun h6 => ?_)
        refine So.gy rfl rfl (Nat.le_of_ble_eq_true rfl) (Nat.le_of_ble_eq_true rfl) ?_
        refine A.v rfl (V.len ty22 (v := .own 10 0 _) rfl rfl ?_)
        refine So.gy rfl rfl (Nat.le_of_ble_eq_true rfl) (Nat.le_of_ble_eq_true rfl) ?_
        refine A.v rfl (V.bin (a := (.v (.int .i64 _))) (b := (.v (.int .i64 (33)))) (r := .v (.bool _)) rfl rfl rfl trivial ?_)
        refine So.n (Nat.le_of_ble_eq_true rfl) (A.v rfl (V.pkTrue (u := .p (.v (.bool _))) rfl rfl ?_))
        refine So.n (Nat.le_of_ble_eq_true rfl) (A.v rfl (V.mv (v := .p (.v (.bool _))) rfl ?_))
        refine So.gd rfl rfl (Nat.le_of_ble_eq_true rfl) (Nat.le_of_ble_eq_true rfl) (fun h7 => ?_) (fun h7 => ?_)
        · have h7 := of_decide_eq_true h7
          refine A.call0 [.p (.v (.slice none 0 0)), .p (.str _), .p (.v (.slice none 0 0)), .p (.v (.int .i64 _))] 11 rfl rfl rfl rfl ⟨trivial, trivial, trivial, trivial, trivial⟩ trivial (_, _, _, _) ⟨le_nil rfl, .refl _, le_nil rfl, .refl _, trivial⟩ trivial (by first | omega | (simp; done) | (simp; omega)) (Φ := fun _ => True) (fun _ _ => trivial) (.inl rfl) (v := .own 13 0 _) rfl (O' := (13, ⟨5, 1, _, true, .bs _⟩) :: _) rfl (fun h8 => ?_)
          refine So.gy rfl rfl (Nat.le_of_ble_eq_true rfl) (Nat.le_of_ble_eq_true rfl) ?_
          refine A.v rfl (V.len ty22 (v := .own 13 0 _) rfl rfl ?_)
          refine So.gy rfl rfl (Nat.le_of_ble_eq_true rfl) (Nat.le_of_ble_eq_true rfl) ?_
          refine A.v rfl (V.bin (a := (.v (.int .i64 _))) (b := (.v (.int .i64 (0)))) (r := .v (.bool _)) rfl rfl rfl trivial ?_)
          refine So.n (Nat.le_of_ble_eq_true rfl) (A.v rfl (V.pkTrue (u := .p (.v (.bool _))) rfl rfl ?_))
          refine So.n (Nat.le_of_ble_eq_true rfl) (A.v rfl (V.as (v := .p (.v (.bool _))) rfl ?_))
          refine So.e ?_
          show HT _ _ _ _ _
          refine HT.ret ?_
          exact ret_ok (sg []) h rfl rfl rfl trivial ⟨trivial, trivial⟩ rfl ⟨⟨⟨le_bool (by first | rfl), trivial⟩, trivial⟩, trivial⟩
        · have h7 := of_decide_eq_false h7
          first | exact absurd (by first | rfl | exact head_mac | (rw [hen]; rfl) | (rw [hlb]; rfl) | (simp; done)) h7 | exact absurd h7 (by first | rfl | exact head_mac | (rw [hen]; rfl) | (rw [hlb]; rfl) | (simp; done))
      · have h5 := of_decide_eq_false h5
        first | exact absurd (by first | rfl | exact head_mac | (rw [hen]; rfl) | (rw [hlb]; rfl) | (simp; done)) h5 | exact absurd h5 (by first | rfl | exact head_mac | (rw [hen]; rfl) | (rw [hlb]; rfl) | (simp; done))
    · have h3 := of_decide_eq_false h3
      first | exact absurd (by first | rfl | exact head_mac | (rw [hen]; rfl) | (rw [hlb]; rfl) | (simp; done)) h3 | exact absurd h3 (by first | rfl | exact head_mac | (rw [hen]; rfl) | (rw [hlb]; rfl) | (simp; done))
  · have h2 := of_decide_eq_false h2
    first | exact absurd (by first | rfl | exact head_mac | (rw [hen]; rfl) | (rw [hlb]; rfl) | (simp; done)) h2 | exact absurd h2 (by first | rfl | exact head_mac | (rw [hen]; rfl) | (rw [hlb]; rfl) | (simp; done))

end Go.Vh

set_option linter.unusedVariables false
set_option linter.unusedSimpArgs false
namespace Go.Vh
open Go Go.Vc Go.Proofs

/-! ### sodality/hkdf.Extract -/
def extractSp : Sp := ⟨[], mkE (α := (List UInt8) × (List UInt8)) (fun (k, t) => [.p (.bs (k)), .p (.bs (t))]) (fun (k, t) => []) (fun (k, t) => k.length ≤ 1000000000 ∧ t.length ≤ 1000000000) (fun (k, t) => [.own 2 (0) (32)]) (fun (k, t) => [(2, ⟨5, 1, 32, true, .bs (mac k t)⟩)])⟩
def S_extract : FuncId → Option Sp := fun f => if f = 15 then some hmacSp else none
theorem S_extract_ok : ∀ f s, S_extract f = some s → FOK Tryd.prog gl f s := fun f s h => by
  unfold S_extract at h
  split at h
  · rename_i e; cases h; subst e; exact hmac_ok
  cases h
theorem S_extract_det : ∀ f s, S_extract f = some s → SpDet s.sp := fun f s h => by
  unfold S_extract at h
  split at h
  · cases h; exact mkE_det _ _ _ _ _
  cases h
set_option maxHeartbeats 1000000 in
set_option maxRecDepth 1000 in
theorem extract_ok : FOK Tryd.prog gl 16 extractSp := by
  refine FOK.ofE (tyOf_ok Tryd.prog) (slots := [4]) (nt := 8) Tryd.func16 rfl rfl rfl rfl (by decide) 2 (fun ⟨_, _⟩ => rfl) (by decide) (fun ⟨_, _⟩ => ⟨trivial, trivial, trivial⟩) ?_
  rintro ⟨k, t⟩ kk hlen hpre h
  have hl0 : (k).length ≤ 9223372036854775807 := hlen.1
  have hl1 : (t).length ≤ 9223372036854775807 := hlen.2.1
  replace hpre : k.length ≤ 1000000000 ∧ t.length ≤ 1000000000 := hpre
  show HT (cx Tryd.prog 8 (tyOf Tryd.prog) gl []) _ [(0, .p (.bs (k))), (1, .p (.bs (t)))] [] _
  refine HT.seq ?_
  refine HT.region S_extract_ok ?_
  refine So.n (Nat.le_of_ble_eq_true rfl) (A.v rfl (V.as (v := .p (.v (.slice none 0 0))) rfl ?_))
  refine So.e ?_
  show HT _ _ _ _ _
  refine HT.seq ?_
  refine HT.region S_extract_ok ?_
  refine So.n (Nat.le_of_ble_eq_true rfl) (A.v rfl (V.mv (v := .p (.bs _)) rfl ?_))
  refine So.n (Nat.le_of_ble_eq_true rfl) (A.v rfl (V.mv (v := .p (.bs _)) rfl ?_))
  refine So.n (Nat.le_of_ble_eq_true rfl) (A.call0 [.p (.bs _), .p (.bs _)] 1 rfl rfl rfl rfl ⟨trivial, trivial, trivial⟩ trivial (_, _) ⟨.refl _, .refl _, trivial⟩ trivial (by first | omega | (simp only [List.drop_zero, List.take_length]; omega) | (simp; done) | (simp; omega)) (Φ := fun _ => True) (fun _ _ => trivial) (.inl rfl) (v := .own 3 0 _) rfl (O' := (3, ⟨5, 1, _, true, .bs _⟩) :: _) rfl (fun h1 => ?_))
  refine So.n (Nat.le_of_ble_eq_true rfl) (A.v rfl (V.as (v := .own 3 0 _) rfl ?_))
  refine So.e ?_
  show HT _ _ _ _ _
  refine HT.ret ?_
  exact ret_ok (sg [(2, 3)]) h rfl rfl rfl ⟨trivial, trivial⟩ ⟨rfl, trivial⟩ rfl ⟨⟨⟨le_own2 (by first | rfl | omega) (by first | rfl | omega | (simp; done) | (simp; omega)), rfl⟩, trivial⟩, ⟨⟨_, rfl, .inl (ob_bs (by first | rfl | ((try dsimp only); (first | rfl | omega | (simp; done) | (simp; omega)))) (by first | rfl | ((try dsimp only); (first | rfl | omega | (simp; done) | (simp; omega))))), trivial⟩, trivial⟩⟩

end Go.Vh

set_option linter.unusedVariables false
set_option linter.unusedSimpArgs false
namespace Go.Vh
open Go Go.Vc Go.Proofs

/-! ### sodality/sodalityref03.Info -/
def rinfoSp : Sp := ⟨[], mkE (α := (List UInt8) × (List UInt8) × Int) (fun (m, c, n) => [.p (.str (m)), .p (.bs (c)), .p (.v (.int .i64 (n)))]) (fun (m, c, n) => []) (fun (m, c, n) => True) (fun (m, c, n) => [.own 2 (0) ((infoF m c n).length)]) (fun (m, c, n) => [(2, ⟨5, 1, (infoF m c n).length, true, .bs (infoF m c n)⟩)])⟩
def S_rinfo : FuncId → Option Sp := fun f => if f = 22 then some rlongSp else none
theorem S_rinfo_ok : ∀ f s, S_rinfo f = some s → FOK Tryd.prog gl f s := fun f s h => by
  unfold S_rinfo at h
  split at h
  · rename_i e; cases h; subst e; exact rlong_ok
  cases h
theorem S_rinfo_det : ∀ f s, S_rinfo f = some s → SpDet s.sp := fun f s h => by
  unfold S_rinfo at h
  split at h
  · cases h; exact mkE_det _ _ _ _ _
  cases h
set_option maxHeartbeats 1000000 in
set_option maxRecDepth 20000 in
theorem rinfo_ok : FOK Tryd.prog gl 13 rinfoSp := by
  refine FOK.ofE (tyOf_ok Tryd.prog) (slots := [6]) (nt := 40) Tryd.func13 rfl rfl rfl rfl (by decide) 3 (fun ⟨_, _, _⟩ => rfl) (by decide) (fun ⟨_, _, _⟩ => ⟨trivial, trivial, trivial, trivial⟩) ?_
  rintro ⟨m, c, n⟩ kk hlen hpre h
  have hl1 : (c).length ≤ 9223372036854775807 := hlen.2.1
  replace hpre : True := hpre
  show HT (cx Tryd.prog 40 (tyOf Tryd.prog) gl []) _ [(0, .p (.str (m))), (1, .p (.bs (c))), (2, .p (.v (.int .i64 (n))))] [] _
  have hl1 := longF_len (lbl ++ m)
  have hl2 := longF_len c
  have hl3 : (lbl ++ m).length = 8 + m.length := by rw [List.length_append]; rfl
  refine HT.seq ?_
  refine HT.region S_rinfo_ok ?_
  refine So.n (Nat.le_of_ble_eq_true rfl) (A.v rfl (V.as (v := .p (.v (.slice none 0 0))) rfl ?_))
  refine So.e ?_
  show HT _ _ _ _ _
  refine HT.seq ?_
  refine HT.seq ?_
  refine HT.region S_rinfo_ok ?_
  refine So.n (Nat.le_of_ble_eq_true rfl) (A.v rfl (V.mv (v := .p (.v (.int .i64 _))) rfl ?_))
  refine So.n (Nat.le_of_ble_eq_true rfl) (A.v rfl (V.bin (a := (.v (.int .i64 _))) (b := (.v (.int .i64 (0)))) (r := .v (.bool _)) rfl rfl rfl trivial ?_))
  refine So.n (Nat.le_of_ble_eq_true rfl) (A.v rfl (V.mv (v := .p (.v (.bool _))) rfl ?_))
  refine So.gd rfl rfl (Nat.le_of_ble_eq_true rfl) (Nat.le_of_ble_eq_true rfl) (fun h1 => ?_) (fun h1 => ?_)
  · have h1 := of_decide_eq_false h1
    refine A.v rfl (V.mv (v := .p (.v (.int .i64 _))) rfl ?_)
    refine So.gy rfl rfl (Nat.le_of_ble_eq_true rfl) (Nat.le_of_ble_eq_true rfl) ?_
    refine A.v rfl (V.bin (a := (.v (.int .i64 _))) (b := (.v (.int .i64 (8160)))) (r := .v (.bool _)) rfl rfl rfl trivial ?_)
    refine So.n (Nat.le_of_ble_eq_true rfl) (A.v rfl (V.pkFalse (u := .p (.v (.bool _))) rfl rfl ?_))
    refine So.n (Nat.le_of_ble_eq_true rfl) (A.v rfl (V.mv (v := .p (.v (.bool _))) rfl ?_))
    refine So.gd rfl rfl (Nat.le_of_ble_eq_true rfl) (Nat.le_of_ble_eq_true rfl) (fun h2 => ?_) (fun h2 => ?_)
    · have h2 := of_decide_eq_false h2
      refine A.v rfl (V.mv (v := .p (.str _)) rfl ?_)
      refine So.gy rfl rfl (Nat.le_of_ble_eq_true rfl) (Nat.le_of_ble_eq_true rfl) ?_
      refine A.v rfl (V.lenStr ty9 rfl ?_)
      refine So.gy rfl rfl (Nat.le_of_ble_eq_true rfl) (Nat.le_of_ble_eq_true rfl) ?_
      refine A.v rfl (V.bin (a := (.v (.int .i64 _))) (b := (.v (.int .i64 (40)))) (r := .v (.bool _)) rfl rfl rfl trivial ?_)
      refine So.n (Nat.le_of_ble_eq_true rfl) (A.v rfl (V.pkFalse (u := .p (.v (.bool _))) rfl rfl ?_))
      refine So.n (Nat.le_of_ble_eq_true rfl) (A.v rfl (V.mv (v := .p (.v (.bool _))) rfl ?_))
      refine So.gd rfl rfl (Nat.le_of_ble_eq_true rfl) (Nat.le_of_ble_eq_true rfl) (fun h3 => ?_) (fun h3 => ?_)
      · have h3 := of_decide_eq_false h3
        refine A.v rfl (V.mv (v := .p (.bs _)) rfl ?_)
        refine So.gy rfl rfl (Nat.le_of_ble_eq_true rfl) (Nat.le_of_ble_eq_true rfl) ?_
        refine A.v rfl (V.len ty22 (v := .p (.bs _)) rfl rfl ?_)
        refine So.gy rfl rfl (Nat.le_of_ble_eq_true rfl) (Nat.le_of_ble_eq_true rfl) ?_
        refine A.v rfl (V.bin (a := (.v (.int .i64 _))) (b := (.v (.int .i64 (16000)))) (r := .v (.bool _)) rfl rfl rfl trivial ?_)
        refine So.n (Nat.le_of_ble_eq_true rfl) (A.v rfl (V.pkFalse (u := .p (.v (.bool _))) rfl rfl ?_))
        refine So.e ?_
        show HT _ _ _ _ _
        refine R.cond rfl rfl (fun h4 => ?_) (fun h4 => ?_)
        · have h4 := of_decide_eq_true h4
          refine HT.seq ?_
          refine HT.region S_rinfo_ok ?_
          refine So.n (Nat.le_of_ble_eq_true rfl) (A.v rfl (V.as (v := .p (.v (.slice none 0 0))) rfl ?_))
          refine So.e ?_
          show HT _ _ _ _ _
          refine R.phan 6 1 5 1 (.bs []) rfl rfl rfl ⟨rfl, rfl⟩ ?_
          refine HT.ret ?_
          exact ret_ok (sg [(2, 1)]) h rfl rfl rfl ⟨trivial, trivial⟩ ⟨rfl, trivial⟩ rfl ⟨⟨⟨le_own2 (by first | rfl | omega) (by first | (show (_ : Nat) = _; first | (rw [infoF_no (by omega)]; rfl) | (rw [infoF_yes (by omega)]; unfold infoG; simp; omega)) | (show (_ : List UInt8) = _; first | (rw [infoF_no (by omega)]; done) | (rw [infoF_yes (by omega)]; done)) | rfl), rfl⟩, trivial⟩, ⟨⟨_, rfl, .inl (ob_bs (by first | rfl | ((try dsimp only); (first | (show (_ : Nat) = _; first | (rw [infoF_no (by omega)]; rfl) | (rw [infoF_yes (by omega)]; unfold infoG; simp; omega)) | (show (_ : List UInt8) = _; first | (rw [infoF_no (by omega)]; done) | (rw [infoF_yes (by omega)]; done)) | rfl))) (by first | rfl | ((try dsimp only); (first | (show (_ : Nat) = _; first | (rw [infoF_no (by omega)]; rfl) | (rw [infoF_yes (by omega)]; unfold infoG; simp; omega)) | (show (_ : List UInt8) = _; first | (rw [infoF_no (by omega)]; done) | (rw [infoF_yes (by omega)]; done)) | rfl)))), trivial⟩, trivial⟩⟩
        · have h4 := of_decide_eq_false h4
          refine HT.skip ?_
          show HT _ _ _ _ _
          refine HT.seq ?_
          refine HT.region S_rinfo_ok ?_
          refine So.n (Nat.le_of_ble_eq_true rfl) (A.v rfl (V.mv (v := .p (.v (.int .i64 _))) rfl ?_))
          refine So.n (Nat.le_of_ble_eq_true rfl) (A.v rfl (V.shrI (n := 8) (M := 256) rfl rfl rfl (by decide) ?_))
          refine So.n (Nat.le_of_ble_eq_true rfl) (A.v rfl (V.cvN ty5 ty3 (a := (.v (.int .i64 _))) (r := (.u8 _)) rfl rfl ?_))
          refine So.n (Nat.le_of_ble_eq_true rfl) (A.v rfl (V.mv (v := .p (.v (.int .i64 _))) rfl ?_))
          refine So.n (Nat.le_of_ble_eq_true rfl) (A.v rfl (V.cvN ty5 ty3 (a := (.v (.int .i64 _))) (r := (.u8 _)) rfl rfl ?_))
          refine So.n (Nat.le_of_ble_eq_true rfl) (A.bsl 1 ty22 ty5 rfl (Nat.le_of_ble_eq_true rfl) (Nat.le_of_ble_eq_true rfl) (fun _ => rfl) rfl rfl trivial ⟨trivial, trivial, trivial⟩ rfl (N := 2) rfl (c := .bs [_, _]) rfl ?_)
          refine So.n (Nat.le_of_ble_eq_true rfl) (A.v rfl (V.as (v := .own 1 0 _) rfl ?_))
          refine So.e ?_
          show HT _ _ _ _ _
          refine HT.seq ?_
          refine HT.region S_rinfo_ok ?_
          refine So.n (Nat.le_of_ble_eq_true rfl) (A.v rfl (V.mv (v := .own 1 0 _) rfl ?_))
          refine So.n (Nat.le_of_ble_eq_true rfl) (A.v rfl (V.mv (v := .p (.str _)) rfl ?_))
          refine So.n (Nat.le_of_ble_eq_true rfl) (A.v rfl (V.bin (a := (.str [71, 75, 65, 32, 49, 46, 48, 32])) (b := (.str _)) (r := .str _) rfl rfl rfl (by first | rfl | omega | (simp; done) | (simp; omega) | (simp [maxLen]; omega)) ?_))
          refine So.n (Nat.le_of_ble_eq_true rfl) (A.cvS 2 ty22 ty5 ty9 rfl rfl (by first | rfl | omega | (simp; done) | (simp; omega) | (simp [maxLen]; omega)) rfl trivial ?_)
          refine So.n (Nat.le_of_ble_eq_true rfl) (A.call0 [.p (.bs _)] 3 rfl rfl rfl rfl ⟨trivial, trivial⟩ trivial (lbl ++ m) ⟨le_bs (by rw [take_full]; rfl), trivial⟩ trivial (by first | omega | (simp; done) | (simp; omega)) (Φ := fun _ => True) (fun _ _ => trivial) (.inr ⟨trivial, by simp [Hp.scal, OC.scal, PV.scal, BV.scal]⟩) (v := .own 5 0 _) rfl (O' := (5, ⟨5, 1, _, true, .bs _⟩) :: _) rfl (fun h5 => ?_))
          refine So.n (Nat.le_of_ble_eq_true rfl) (A.apOwn ty22 ty5 rfl rfl rfl rfl (u := .own 5 0 _) rfl rfl (l' := [UInt8.ofInt (n / 256), UInt8.ofInt n] ++ longF (lbl ++ m)) (by first | rfl | simp) (mn := 2 + (longF (lbl ++ m)).length) (by first | rfl | simp) (by first | rfl | omega | (simp; done) | (simp; omega) | (simp [maxLen]; omega)) rfl rfl rfl ?_)
          refine So.n (Nat.le_of_ble_eq_true rfl) (A.v rfl (V.as (v := .own 1 0 _) rfl ?_))
          refine So.e ?_
          show HT _ _ _ _ _
          refine HT.seq ?_
          refine HT.region S_rinfo_ok ?_
          refine So.n (Nat.le_of_ble_eq_true rfl) (A.v rfl (V.mv (v := .own 1 0 _) rfl ?_))
          refine So.n (Nat.le_of_ble_eq_true rfl) (A.v rfl (V.mv (v := .p (.bs _)) rfl ?_))
          refine So.n (Nat.le_of_ble_eq_true rfl) (A.call0 [.p (.bs _)] 6 rfl rfl rfl rfl ⟨trivial, trivial⟩ trivial _ ⟨.refl _, trivial⟩ trivial (by first | omega | (simp; done) | (simp; omega)) (Φ := fun _ => True) (fun _ _ => trivial) (.inl rfl) (v := .own 8 0 _) rfl (O' := (8, ⟨5, 1, _, true, .bs _⟩) :: _) rfl (fun h6 => ?_))
          refine So.n (Nat.le_of_ble_eq_true rfl) (A.apOwn ty22 ty5 rfl rfl rfl rfl (u := .own 8 0 _) rfl rfl (l' := infoG m c n) (by rw [ap_full (by simp; omega), take_full (longF c)]; unfold infoG; rfl) (mn := 2 + (longF (lbl ++ m)).length + (longF c).length) (by first | rfl | simp) (by first | rfl | omega | (simp; done) | (simp; omega) | (simp [maxLen]; omega)) rfl rfl rfl ?_)
          refine So.n (Nat.le_of_ble_eq_true rfl) (A.v rfl (V.as (v := .own 1 0 _) rfl ?_))
          refine So.e ?_
          show HT _ _ _ _ _
          refine HT.ret ?_
          exact ret_ok (sg [(2, 1)]) h rfl rfl rfl ⟨trivial, trivial⟩ ⟨rfl, trivial⟩ rfl ⟨⟨⟨le_own2 (by first | rfl | omega) (by first | (show (_ : Nat) = _; first | (rw [infoF_no (by omega)]; rfl) | (rw [infoF_yes (by omega)]; unfold infoG; simp; omega)) | (show (_ : List UInt8) = _; first | (rw [infoF_no (by omega)]; done) | (rw [infoF_yes (by omega)]; done)) | rfl), rfl⟩, trivial⟩, ⟨⟨_, rfl, .inl (ob_bs (by first | rfl | ((try dsimp only); (first | (show (_ : Nat) = _; first | (rw [infoF_no (by omega)]; rfl) | (rw [infoF_yes (by omega)]; unfold infoG; simp; omega)) | (show (_ : List UInt8) = _; first | (rw [infoF_no (by omega)]; done) | (rw [infoF_yes (by omega)]; done)) | rfl))) (by first | rfl | ((try dsimp only); (first | (show (_ : Nat) = _; first | (rw [infoF_no (by omega)]; rfl) | (rw [infoF_yes (by omega)]; unfold infoG; simp; omega)) | (show (_ : List UInt8) = _; first | (rw [infoF_no (by omega)]; done) | (rw [infoF_yes (by omega)]; done)) | rfl)))), trivial⟩, trivial⟩⟩
      · have h3 := of_decide_eq_true h3
        refine So.gn (b := true) rfl rfl rfl (Nat.le_of_ble_eq_true rfl) (Nat.le_of_ble_eq_true rfl) ?_
        refine So.gn (b := true) rfl rfl rfl (Nat.le_of_ble_eq_true rfl) (Nat.le_of_ble_eq_true rfl) ?_
        refine So.n (Nat.le_of_ble_eq_true rfl) (A.v rfl (V.pkTrue (u := .p (.v (.bool true))) rfl rfl ?_))
        refine So.e ?_
        show HT _ _ _ _ _
        refine R.condT rfl ?_
        refine HT.seq ?_
        refine HT.region S_rinfo_ok ?_
        refine So.n (Nat.le_of_ble_eq_true rfl) (A.v rfl (V.as (v := .p (.v (.slice none 0 0))) rfl ?_))
        refine So.e ?_
        show HT _ _ _ _ _
        refine R.phan 6 1 5 1 (.bs []) rfl rfl rfl ⟨rfl, rfl⟩ ?_
        refine HT.ret ?_
        exact ret_ok (sg [(2, 1)]) h rfl rfl rfl ⟨trivial, trivial⟩ ⟨rfl, trivial⟩ rfl ⟨⟨⟨le_own2 (by first | rfl | omega) (by first | (show (_ : Nat) = _; first | (rw [infoF_no (by omega)]; rfl) | (rw [infoF_yes (by omega)]; unfold infoG; simp; omega)) | (show (_ : List UInt8) = _; first | (rw [infoF_no (by omega)]; done) | (rw [infoF_yes (by omega)]; done)) | rfl), rfl⟩, trivial⟩, ⟨⟨_, rfl, .inl (ob_bs (by first | rfl | ((try dsimp only); (first | (show (_ : Nat) = _; first | (rw [infoF_no (by omega)]; rfl) | (rw [infoF_yes (by omega)]; unfold infoG; simp; omega)) | (show (_ : List UInt8) = _; first | (rw [infoF_no (by omega)]; done) | (rw [infoF_yes (by omega)]; done)) | rfl))) (by first | rfl | ((try dsimp only); (first | (show (_ : Nat) = _; first | (rw [infoF_no (by omega)]; rfl) | (rw [infoF_yes (by omega)]; unfold infoG; simp; omega)) | (show (_ : List UInt8) = _; first | (rw [infoF_no (by omega)]; done) | (rw [infoF_yes (by omega)]; done)) | rfl)))), trivial⟩, trivial⟩⟩
    · have h2 := of_decide_eq_true h2
      refine So.gn (b := true) rfl rfl rfl (Nat.le_of_ble_eq_true rfl) (Nat.le_of_ble_eq_true rfl) ?_
      refine So.gn (b := true) rfl rfl rfl (Nat.le_of_ble_eq_true rfl) (Nat.le_of_ble_eq_true rfl) ?_
      refine So.n (Nat.le_of_ble_eq_true rfl) (A.v rfl (V.pkTrue (u := .p (.v (.bool true))) rfl rfl ?_))
      refine So.n (Nat.le_of_ble_eq_true rfl) (A.v rfl (V.mv (v := .p (.v (.bool true))) rfl ?_))
      refine So.gn (b := true) rfl rfl rfl (Nat.le_of_ble_eq_true rfl) (Nat.le_of_ble_eq_true rfl) ?_
      refine So.gn (b := true) rfl rfl rfl (Nat.le_of_ble_eq_true rfl) (Nat.le_of_ble_eq_true rfl) ?_
      refine So.gn (b := true) rfl rfl rfl (Nat.le_of_ble_eq_true rfl) (Nat.le_of_ble_eq_true rfl) ?_
      refine So.n (Nat.le_of_ble_eq_true rfl) (A.v rfl (V.pkTrue (u := .p (.v (.bool true))) rfl rfl ?_))
      refine So.e ?_
      show HT _ _ _ _ _
      refine R.condT rfl ?_
      refine HT.seq ?_
      refine HT.region S_rinfo_ok ?_
      refine So.n (Nat.le_of_ble_eq_true rfl) (A.v rfl (V.as (v := .p (.v (.slice none 0 0))) rfl ?_))
      refine So.e ?_
      show HT _ _ _ _ _
      refine R.phan 6 1 5 1 (.bs []) rfl rfl rfl ⟨rfl, rfl⟩ ?_
      refine HT.ret ?_
      exact ret_ok (sg [(2, 1)]) h rfl rfl rfl ⟨trivial, trivial⟩ ⟨rfl, trivial⟩ rfl ⟨⟨⟨le_own2 (by first | rfl | omega) (by first | (show (_ : Nat) = _; first | (rw [infoF_no (by omega)]; rfl) | (rw [infoF_yes (by omega)]; unfold infoG; simp; omega)) | (show (_ : List UInt8) = _; first | (rw [infoF_no (by omega)]; done) | (rw [infoF_yes (by omega)]; done)) | rfl), rfl⟩, trivial⟩, ⟨⟨_, rfl, .inl (ob_bs (by first | rfl | ((try dsimp only); (first | (show (_ : Nat) = _; first | (rw [infoF_no (by omega)]; rfl) | (rw [infoF_yes (by omega)]; unfold infoG; simp; omega)) | (show (_ : List UInt8) = _; first | (rw [infoF_no (by omega)]; done) | (rw [infoF_yes (by omega)]; done)) | rfl))) (by first | rfl | ((try dsimp only); (first | (show (_ : Nat) = _; first | (rw [infoF_no (by omega)]; rfl) | (rw [infoF_yes (by omega)]; unfold infoG; simp; omega)) | (show (_ : List UInt8) = _; first | (rw [infoF_no (by omega)]; done) | (rw [infoF_yes (by omega)]; done)) | rfl)))), trivial⟩, trivial⟩⟩
  · have h1 := of_decide_eq_true h1
    refine So.gn (b := true) rfl rfl rfl (Nat.le_of_ble_eq_true rfl) (Nat.le_of_ble_eq_true rfl) ?_
    refine So.n (Nat.le_of_ble_eq_true rfl) (A.v rfl (V.pkTrue (u := .p (.v (.bool true))) rfl rfl ?_))
    refine So.n (Nat.le_of_ble_eq_true rfl) (A.v rfl (V.mv (v := .p (.v (.bool true))) rfl ?_))
    refine So.gn (b := true) rfl rfl rfl (Nat.le_of_ble_eq_true rfl) (Nat.le_of_ble_eq_true rfl) ?_
    refine So.gn (b := true) rfl rfl rfl (Nat.le_of_ble_eq_true rfl) (Nat.le_of_ble_eq_true rfl) ?_
    refine So.gn (b := true) rfl rfl rfl (Nat.le_of_ble_eq_true rfl) (Nat.le_of_ble_eq_true rfl) ?_
    refine So.n (Nat.le_of_ble_eq_true rfl) (A.v rfl (V.pkTrue (u := .p (.v (.bool true))) rfl rfl ?_))
    refine So.n (Nat.le_of_ble_eq_true rfl) (A.v rfl (V.mv (v := .p (.v (.bool true))) rfl ?_))
    refine So.gn (b := true) rfl rfl rfl (Nat.le_of_ble_eq_true rfl) (Nat.le_of_ble_eq_true rfl) ?_
    refine So.gn (b := true) rfl rfl rfl (Nat.le_of_ble_eq_true rfl) (Nat.le_of_ble_eq_true rfl) ?_
    refine So.gn (b := true) rfl rfl rfl (Nat.le_of_ble_eq_true rfl) (Nat.le_of_ble_eq_true rfl) ?_
    refine So.n (Nat.le_of_ble_eq_true rfl) (A.v rfl (V.pkTrue (u := .p (.v (.bool true))) rfl rfl ?_))
    refine So.e ?_
    show HT _ _ _ _ _
    refine R.condT rfl ?_
    refine HT.seq ?_
    refine HT.region S_rinfo_ok ?_
    refine So.n (Nat.le_of_ble_eq_true rfl) (A.v rfl (V.as (v := .p (.v (.slice none 0 0))) rfl ?_))
    refine So.e ?_
    show HT _ _ _ _ _
    refine R.phan 6 1 5 1 (.bs []) rfl rfl rfl ⟨rfl, rfl⟩ ?_
    refine HT.ret ?_
    exact ret_ok (sg [(2, 1)]) h rfl rfl rfl ⟨trivial, trivial⟩ ⟨rfl, trivial⟩ rfl ⟨⟨⟨le_own2 (by first | rfl | omega) (by first | (show (_ : Nat) = _; first | (rw [infoF_no (by omega)]; rfl) | (rw [infoF_yes (by omega)]; unfold infoG; simp; omega)) | (show (_ : List UInt8) = _; first | (rw [infoF_no (by omega)]; done) | (rw [infoF_yes (by omega)]; done)) | rfl), rfl⟩, trivial⟩, ⟨⟨_, rfl, .inl (ob_bs (by first | rfl | ((try dsimp only); (first | (show (_ : Nat) = _; first | (rw [infoF_no (by omega)]; rfl) | (rw [infoF_yes (by omega)]; unfold infoG; simp; omega)) | (show (_ : List UInt8) = _; first | (rw [infoF_no (by omega)]; done) | (rw [infoF_yes (by omega)]; done)) | rfl))) (by first | rfl | ((try dsimp only); (first | (show (_ : Nat) = _; first | (rw [infoF_no (by omega)]; rfl) | (rw [infoF_yes (by omega)]; unfold infoG; simp; omega)) | (show (_ : List UInt8) = _; first | (rw [infoF_no (by omega)]; done) | (rw [infoF_yes (by omega)]; done)) | rfl)))), trivial⟩, trivial⟩⟩

end Go.Vh

set_option linter.unusedVariables false
set_option linter.unusedSimpArgs false
namespace Go.Vh
open Go Go.Vc Go.Proofs

/-! ### sodality/sodalityref02.block -/
def rblockSp : Sp := ⟨[], mkE (α := (Nat → UInt32) × (List UInt8)) (fun (g, b) => [.agg 8 (fun j => .u32 (g j)), .p (.bs (b))]) (fun (g, b) => []) (fun (g, b) => 64 ≤ b.length) (fun (g, b) => [.agg 8 (fun j => .u32 (comp g b j))]) (fun (g, b) => [])⟩
def S_rblock : FuncId → Option Sp := fun f => if f = 38 then some constantsSp else if f = 39 then some turnedSp else none
theorem S_rblock_ok : ∀ f s, S_rblock f = some s → FOK Tryd.prog gl f s := fun f s h => by
  unfold S_rblock at h
  split at h
  · rename_i e; cases h; subst e; exact constants_ok
  split at h
  · rename_i e; cases h; subst e; exact turned_ok
  cases h
theorem S_rblock_det : ∀ f s, S_rblock f = some s → SpDet s.sp := fun f s h => by
  unfold S_rblock at h
  split at h
  · cases h; exact mkE_det _ _ _ _ _
  split at h
  · cases h; exact mkE_det _ _ _ _ _
  cases h
set_option maxHeartbeats 1000000 in
set_option maxRecDepth 20000 in
theorem rblock_ok : FOK Tryd.prog gl 35 rblockSp := by
  refine FOK.ofEC (tyOf_ok Tryd.prog) (rvs := [.cell 4 48]) (nt := 196) Tryd.func35 rfl rfl rfl rfl (by decide) 2 (fun ⟨_, _⟩ => rfl) (by decide) (fun ⟨_, _⟩ => ⟨trivial, trivial, trivial⟩) ?_
  rintro ⟨g, b⟩ kk hlen hpre h
  have hl1 : (b).length ≤ 9223372036854775807 := hlen.2.1
  replace hpre : 64 ≤ b.length := hpre
  show HT (cx Tryd.prog 196 (tyOf Tryd.prog) gl []) _ [(0, .agg 8 (fun j => .u32 (g j))), (1, .p (.bs (b)))] [] _
  refine HT.seq ?_
  refine HT.region S_rblock_ok ?_
  refine So.n (Nat.le_of_ble_eq_true rfl) (A.boxAg 1 1 (n := 8) rfl (by intro j hj; first | rfl | trivial | (split <;> first | rfl | trivial | (split <;> first | rfl | trivial))) rfl trivial ?_)
  refine So.n (Nat.le_of_ble_eq_true rfl) (A.alloc 2 1 ty48 rfl trivial (f := fun _ => .u32 0) (fun _ _ => rfl) ?_)
  refine So.e ?_
  show HT _ _ _ _ _
  refine HT.seq ?_
  refine HT.region S_rblock_ok ?_
  refine So.n (Nat.le_of_ble_eq_true rfl) (A.call0 [] 3 rfl rfl rfl rfl trivial trivial () trivial trivial (by trivial) (Φ := fun _ => True) (fun _ _ => trivial) (.inl rfl) (v := .agg 64 _) rfl (O' := _) rfl (fun h1 => ?_))
  refine So.n (Nat.le_of_ble_eq_true rfl) (A.alloc 3 1 ty56 rfl trivial (f := fun _ => .u32 0) (fun _ _ => rfl) ?_)
  refine So.s (A.stoAg ty56 rfl (n := 64) rfl (by decide) (by intro j hj; first | rfl | trivial) rfl rfl rfl ?_)
  refine So.e ?_
  show HT _ _ _ _ _
  refine HT.seq ?_
  refine HT.region S_rblock_ok ?_
  refine So.n (Nat.le_of_ble_eq_true rfl) (A.alloc 4 1 ty56 rfl trivial (f := fun _ => .u32 0) (fun _ _ => rfl) ?_)
  refine So.e ?_
  show HT _ _ _ _ _
  refine HT.seq ?_
  refine HT.seq ?_
  refine HT.region S_rblock_ok ?_
  refine So.n (Nat.le_of_ble_eq_true rfl) (A.v rfl (V.as (v := .p (.v (.int .i64 (0)))) rfl ?_))
  refine So.e ?_
  show HT _ _ _ _ _
  refine HT.block ?_
  refine R.loop (σ := Nat) (fun s => [(7, .p (.v (.int .i64 ((s : Int)))))]) (fun s => [(4, ⟨56, 1, 64, true, .rows (fun j => .u32 (if j < s then be b j else 0))⟩)]) [1, 2, 4, 5, 6] [1, 2, 3] (fun s => s ≤ 16) (fun s => 16 - s) (0) (fr0 := [(1, .p (.bs _)), (2, .ptr 1 0), (4, .ptr 2 0), (5, .ptr 3 0), (6, .ptr 4 0)]) (O0 := [(1, ⟨_, _, _, _, .rows _⟩), (2, ⟨_, _, _, _, .rows _⟩), (3, ⟨_, _, _, _, .rows _⟩)]) rfl rfl (by first | rfl | omega | (simp; done) | (simp; omega)) ⟨⟨⟨le_int (by first | rfl | omega | (simp; done)), trivial⟩, ⟨.refl _, trivial⟩, ⟨.refl _, rfl⟩, ⟨.refl _, rfl⟩, ⟨.refl _, rfl⟩, ⟨.refl _, rfl⟩, trivial⟩, ⟨⟨_, rfl, .inr (ob_rows (by first | rfl | ((try dsimp only); first | rfl | omega | (simp; done))) (by first | rfl | ((try dsimp only); first | rfl | omega | (simp; done)))), trivial⟩, ⟨_, rfl, .inl rfl, trivial⟩, ⟨_, rfl, .inl rfl, trivial⟩, ⟨_, rfl, .inl rfl, trivial⟩, trivial⟩⟩ (fun s hP0 => ?_)
  refine HT.seq ?_
  refine HT.seq ?_
  refine HT.region S_rblock_ok ?_
  refine So.n (Nat.le_of_ble_eq_true rfl) (A.v rfl (V.mv (v := .p (.v (.int .i64 ((_ : Nat) : Int)))) rfl ?_))
  refine So.n (Nat.le_of_ble_eq_true rfl) (A.v rfl (V.bin (a := (.v (.int .i64 ((_ : Nat) : Int)))) (b := (.v (.int .i64 (16)))) (r := .v (.bool _)) rfl rfl rfl trivial ?_))
  refine So.e ?_
  show HT _ _ _ _ _
  refine R.cond rfl rfl (fun h2 => ?_) (fun h2 => ?_)
  · have h2 := of_decide_eq_true h2
    refine HT.skip ?_
    show HT _ _ _ _ _
    refine HT.seq ?_
    refine HT.block ?_
    refine HT.tail S_rblock_ok mixed 35 (by kernel_rfl) (by kernel_rfl) ?_
    refine So.n (Nat.le_of_ble_eq_true rfl) (A.v rfl (V.mv (v := .p (.v (.int .i64 ((_ : Nat) : Int)))) rfl ?_))
    refine So.n (Nat.le_of_ble_eq_true rfl) (A.v rfl (V.mv (v := .p (.bs _)) rfl ?_))
    refine So.n (Nat.le_of_ble_eq_true rfl) (A.v rfl (V.mv (v := .p (.v (.int .i64 ((_ : Nat) : Int)))) rfl ?_))
    refine So.n (Nat.le_of_ble_eq_true rfl) (A.v rfl (V.mulI rfl rfl (by omega) ?_))
    refine So.n (Nat.le_of_ble_eq_true rfl) (A.v rfl (V.ixBs (mi := 4 * s) ty22 ty5 rfl rfl rfl (by omega) (by omega) ?_))
    refine So.n (Nat.le_of_ble_eq_true rfl) (A.v rfl (V.ldRp ty5 rfl rfl (Nat.le_of_ble_eq_true rfl) (v := (.u8 _)) rfl ?_))
    refine So.n (Nat.le_of_ble_eq_true rfl) (A.v rfl (V.cvN ty47 ty5 (a := (.u8 _)) (r := (.u32 _)) rfl rfl ?_))
    refine So.n (Nat.le_of_ble_eq_true rfl) (A.v rfl (V.shlC (n := 24) (a := (.u32 _)) (b := (.u64 24)) (r := .u32 (u32Shl _ 24)) rfl rfl rfl rfl ?_))
    refine So.n (Nat.le_of_ble_eq_true rfl) (A.v rfl (V.mv (v := .p (.bs _)) rfl ?_))
    refine So.n (Nat.le_of_ble_eq_true rfl) (A.v rfl (V.mv (v := .p (.v (.int .i64 ((_ : Nat) : Int)))) rfl ?_))
    refine So.n (Nat.le_of_ble_eq_true rfl) (A.v rfl (V.mulI rfl rfl (by omega) ?_))
    refine So.n (Nat.le_of_ble_eq_true rfl) (A.v rfl (V.addI rfl rfl (by omega) ?_))
    refine So.n (Nat.le_of_ble_eq_true rfl) (A.v rfl (V.ixBs (mi := 4 * s + 1) ty22 ty5 rfl rfl rfl (by omega) (by omega) ?_))
    refine So.n (Nat.le_of_ble_eq_true rfl) (A.v rfl (V.ldRp ty5 rfl rfl (Nat.le_of_ble_eq_true rfl) (v := (.u8 _)) rfl ?_))
    refine So.n (Nat.le_of_ble_eq_true rfl) (A.v rfl (V.cvN ty47 ty5 (a := (.u8 _)) (r := (.u32 _)) rfl rfl ?_))
    refine So.n (Nat.le_of_ble_eq_true rfl) (A.v rfl (V.shlC (n := 16) (a := (.u32 _)) (b := (.u64 16)) (r := .u32 (u32Shl _ 16)) rfl rfl rfl rfl ?_))
    refine So.n (Nat.le_of_ble_eq_true rfl) (A.v rfl (V.bin (a := (.u32 _)) (b := (.u32 _)) (r := .u32 _) rfl rfl rfl trivial ?_))
    refine So.n (Nat.le_of_ble_eq_true rfl) (A.v rfl (V.mv (v := .p (.bs _)) rfl ?_))
    refine So.n (Nat.le_of_ble_eq_true rfl) (A.v rfl (V.mv (v := .p (.v (.int .i64 ((_ : Nat) : Int)))) rfl ?_))
    refine So.n (Nat.le_of_ble_eq_true rfl) (A.v rfl (V.mulI rfl rfl (by omega) ?_))
    refine So.n (Nat.le_of_ble_eq_true rfl) (A.v rfl (V.addI rfl rfl (by omega) ?_))
    refine So.n (Nat.le_of_ble_eq_true rfl) (A.v rfl (V.ixBs (mi := 4 * s + 2) ty22 ty5 rfl rfl rfl (by omega) (by omega) ?_))
    refine So.n (Nat.le_of_ble_eq_true rfl) (A.v rfl (V.ldRp ty5 rfl rfl (Nat.le_of_ble_eq_true rfl) (v := (.u8 _)) rfl ?_))
    refine So.n (Nat.le_of_ble_eq_true rfl) (A.v rfl (V.cvN ty47 ty5 (a := (.u8 _)) (r := (.u32 _)) rfl rfl ?_))
    refine So.n (Nat.le_of_ble_eq_true rfl) (A.v rfl (V.shlC (n := 8) (a := (.u32 _)) (b := (.u64 8)) (r := .u32 (u32Shl _ 8)) rfl rfl rfl rfl ?_))
    refine So.n (Nat.le_of_ble_eq_true rfl) (A.v rfl (V.bin (a := (.u32 _)) (b := (.u32 _)) (r := .u32 _) rfl rfl rfl trivial ?_))
    refine So.n (Nat.le_of_ble_eq_true rfl) (A.v rfl (V.mv (v := .p (.bs _)) rfl ?_))
    refine So.n (Nat.le_of_ble_eq_true rfl) (A.v rfl (V.mv (v := .p (.v (.int .i64 ((_ : Nat) : Int)))) rfl ?_))
    refine So.n (Nat.le_of_ble_eq_true rfl) (A.v rfl (V.mulI rfl rfl (by omega) ?_))
    refine So.n (Nat.le_of_ble_eq_true rfl) (A.v rfl (V.addI rfl rfl (by omega) ?_))
    refine So.n (Nat.le_of_ble_eq_true rfl) (A.v rfl (V.ixBs (mi := 4 * s + 3) ty22 ty5 rfl rfl rfl (by omega) (by omega) ?_))
    refine So.n (Nat.le_of_ble_eq_true rfl) (A.v rfl (V.ldRp ty5 rfl rfl (Nat.le_of_ble_eq_true rfl) (v := (.u8 _)) rfl ?_))
    refine So.n (Nat.le_of_ble_eq_true rfl) (A.v rfl (V.cvN ty47 ty5 (a := (.u8 _)) (r := (.u32 _)) rfl rfl ?_))
    refine So.n (Nat.le_of_ble_eq_true rfl) (A.v rfl (V.bin (a := (.u32 _)) (b := (.u32 _)) (r := .u32 _) rfl rfl rfl trivial ?_))
    refine So.n (Nat.le_of_ble_eq_true rfl) (A.v rfl (V.ixArrP10 (mi := s) ty56 ty47 rfl rfl rfl (by first | rfl | omega | (simp; done) | (simp; omega)) rfl (by omega) (by omega) ?_))
    refine So.s (A.sto ty47 rfl rfl rfl (v := .p (.u32 _)) rfl trivial rfl (by first | rfl | omega | (simp; done) | (simp; omega)) (c' := .rows (fun j => .u32 (if j = s then be b s else if j < s then be b j else 0))) (congrArg (fun g => some (OC.rows g)) (funext fun j => by by_cases h9 : j = s <;> simp [h9, be])) rfl ?_)
    refine So.e ?_
    show HT _ _ _ _ _
    refine HT.region S_rblock_ok ?_
    refine So.n (Nat.le_of_ble_eq_true rfl) (A.v rfl (V.mv (v := .p (.v (.int .i64 ((_ : Nat) : Int)))) rfl ?_))
    refine So.n (Nat.le_of_ble_eq_true rfl) (A.v rfl (V.addI rfl rfl (by omega) ?_))
    refine So.n (Nat.le_of_ble_eq_true rfl) (A.v rfl (V.as (v := .p (.v (.int .i64 _))) rfl ?_))
    refine So.e ?_
    refine ⟨s + 1, by first | rfl | omega | (simp; done) | (simp; omega), by omega, ⟨⟨⟨le_int (by first | rfl | omega | (simp; done) | (simp; omega)), trivial⟩, ⟨.refl _, trivial⟩, ⟨.refl _, rfl⟩, ⟨.refl _, rfl⟩, ⟨.refl _, rfl⟩, ⟨.refl _, rfl⟩, trivial⟩, ⟨⟨_, rfl, .inr (ob_rows (by first | rfl | ((try dsimp only); (intro j hj; by_cases h9 : j = s <;> simp [h9] <;> (try rw [if_pos (by omega)]) <;> (try (by_cases h8 : j < s <;> simp [h8] <;> omega))))) (by first | rfl | ((try dsimp only); (intro j hj; by_cases h9 : j = s <;> simp [h9] <;> (try rw [if_pos (by omega)]) <;> (try (by_cases h8 : j < s <;> simp [h8] <;> omega)))))), trivial⟩, ⟨_, rfl, .inl rfl, trivial⟩, ⟨_, rfl, .inl rfl, trivial⟩, ⟨_, rfl, .inl rfl, trivial⟩, trivial⟩⟩⟩
  · have h2 := of_decide_eq_false h2
    refine HT.exit ?_
    show HT _ _ _ _ _
    refine HT.seq ?_
    refine HT.seq ?_
    refine HT.region S_rblock_ok ?_
    refine So.n (Nat.le_of_ble_eq_true rfl) (A.v rfl (V.as (v := .p (.v (.int .i64 (16)))) rfl ?_))
    refine So.e ?_
    show HT _ _ _ _ _
    refine HT.block ?_
    refine R.loop (σ := Nat) (fun s => [(8, .p (.v (.int .i64 (((16 + s : Nat) : Int)))))]) (fun s => [(4, ⟨56, 1, 64, true, .rows (fun j => .u32 (wdN b s j))⟩)]) [2, 4, 5, 6] [1, 2, 3] (fun s => s ≤ 48) (fun s => 48 - s) (0) (fr0 := [(2, .ptr 1 0), (4, .ptr 2 0), (5, .ptr 3 0), (6, .ptr 4 0)]) (O0 := [(1, ⟨_, _, _, _, .rows _⟩), (2, ⟨_, _, _, _, .rows _⟩), (3, ⟨_, _, _, _, .rows _⟩)]) rfl rfl (by first | rfl | omega | (simp; done) | (simp; omega)) ⟨⟨⟨le_int (by first | rfl | omega | (intro j _; rw [show s = 16 by omega]; rfl)), trivial⟩, ⟨.refl _, rfl⟩, ⟨.refl _, rfl⟩, ⟨.refl _, rfl⟩, ⟨.refl _, rfl⟩, trivial⟩, ⟨⟨_, rfl, .inr (ob_rows (by first | rfl | ((try dsimp only); first | rfl | omega | (intro j _; rw [show s = 16 by omega]; rfl))) (by first | rfl | ((try dsimp only); first | rfl | omega | (intro j _; rw [show s = 16 by omega]; rfl)))), trivial⟩, ⟨_, rfl, .inl rfl, trivial⟩, ⟨_, rfl, .inl rfl, trivial⟩, ⟨_, rfl, .inl rfl, trivial⟩, trivial⟩⟩ (fun s hP1 => ?_)
    refine HT.seq ?_
    refine HT.seq ?_
    refine HT.region S_rblock_ok ?_
    refine So.n (Nat.le_of_ble_eq_true rfl) (A.v rfl (V.mv (v := .p (.v (.int .i64 _))) rfl ?_))
    refine So.n (Nat.le_of_ble_eq_true rfl) (A.v rfl (V.bin (a := (.v (.int .i64 _))) (b := (.v (.int .i64 (64)))) (r := .v (.bool _)) rfl rfl rfl trivial ?_))
    refine So.e ?_
    show HT _ _ _ _ _
    refine R.cond rfl rfl (fun h3 => ?_) (fun h3 => ?_)
    · have h3 := of_decide_eq_true h3
      refine HT.skip ?_
      show HT _ _ _ _ _
      refine HT.seq ?_
      refine HT.block ?_
      refine HT.seq ?_
      refine HT.region S_rblock_ok ?_
      refine So.n (Nat.le_of_ble_eq_true rfl) (A.v rfl (V.mv (v := .p (.v (.int .i64 _))) rfl ?_))
      refine So.n (Nat.le_of_ble_eq_true rfl) (A.v rfl (V.subI rfl rfl (by omega) ?_))
      refine So.n (Nat.le_of_ble_eq_true rfl) (A.v rfl (V.ixArrP10 (mi := s + 1) ty56 ty47 rfl rfl rfl (by first | rfl | omega | (simp; done) | (simp; omega)) rfl (by omega) (by omega) ?_))
      refine So.n (Nat.le_of_ble_eq_true rfl) (A.v rfl (V.ldPtr ty47 rfl rfl rfl (by first | rfl | omega | (simp; done) | (simp; omega)) (v := .p (.u32 _)) rfl ?_))
      refine So.n (Nat.le_of_ble_eq_true rfl) (A.v rfl (V.as (v := .p (.u32 _)) rfl ?_))
      refine So.e ?_
      show HT _ _ _ _ _
      refine HT.seq ?_
      refine HT.region S_rblock_ok ?_
      refine So.n (Nat.le_of_ble_eq_true rfl) (A.v rfl (V.mv (v := .p (.v (.int .i64 _))) rfl ?_))
      refine So.n (Nat.le_of_ble_eq_true rfl) (A.v rfl (V.subI rfl rfl (by omega) ?_))
      refine So.n (Nat.le_of_ble_eq_true rfl) (A.v rfl (V.ixArrP10 (mi := s + 14) ty56 ty47 rfl rfl rfl (by first | rfl | omega | (simp; done) | (simp; omega)) rfl (by omega) (by omega) ?_))
      refine So.n (Nat.le_of_ble_eq_true rfl) (A.v rfl (V.ldPtr ty47 rfl rfl rfl (by first | rfl | omega | (simp; done) | (simp; omega)) (v := .p (.u32 _)) rfl ?_))
      refine So.n (Nat.le_of_ble_eq_true rfl) (A.v rfl (V.as (v := .p (.u32 _)) rfl ?_))
      refine So.e ?_
      show HT _ _ _ _ _
      refine HT.planS S_rblock_ok S_rblock_det mixed [] [⟨[0, 1, 2, 3, 4, 5, 6, 7, 8, 9, 10, 11, 12, 13, 14, 15, 16, 17, 18, 19, 20, 21, 22, 23, 24, 25, 26, 27, 28], 29, []⟩] (by kernel_rfl) ?_
      refine Pl.l0 ?_
      refine Si.n rfl (Nat.le_of_ble_eq_true rfl) (V.mv (v := .p (.v (.int .i64 _))) rfl ?_)
      refine Si.n rfl (Nat.le_of_ble_eq_true rfl) (V.mv (v := .p (.v (.int .i64 _))) rfl ?_)
      refine Si.n rfl (Nat.le_of_ble_eq_true rfl) (V.subI rfl rfl (by omega) ?_)
      refine Si.n rfl (Nat.le_of_ble_eq_true rfl) (V.ixArrP10 (mi := s) ty56 ty47 rfl rfl rfl (by first | rfl | omega | (simp; done) | (simp; omega)) rfl (by omega) (by omega) ?_)
      refine Si.n rfl (Nat.le_of_ble_eq_true rfl) (V.ldPtr ty47 rfl rfl rfl (by first | rfl | omega | (simp; done) | (simp; omega)) (v := .p (.u32 _)) rfl ?_)
      refine Si.n rfl (Nat.le_of_ble_eq_true rfl) (V.mv (v := .p (.u32 _)) rfl ?_)
      refine Si.n rfl (Nat.le_of_ble_eq_true rfl) (V.call [.p (.u32 _), .p (.v (.int .i64 _))] 5 rfl rfl rfl rfl ⟨trivial, trivial, trivial⟩ trivial (_, _) ⟨.refl _, .refl _, trivial⟩ trivial (by first | omega | decide) (Φ := fun _ => True) (fun _ _ => trivial) (.inl ⟨trivial, trivial, trivial⟩) (v := .p (.u32 _)) rfl (fun h4 => ?_))
      refine Si.n rfl (Nat.le_of_ble_eq_true rfl) (V.mv (v := .p (.u32 _)) rfl ?_)
      refine Si.n rfl (Nat.le_of_ble_eq_true rfl) (V.call [.p (.u32 _), .p (.v (.int .i64 _))] 5 rfl rfl rfl rfl ⟨trivial, trivial, trivial⟩ trivial (_, _) ⟨.refl _, .refl _, trivial⟩ trivial (by first | omega | decide) (Φ := fun _ => True) (fun _ _ => trivial) (.inl ⟨trivial, trivial, trivial⟩) (v := .p (.u32 _)) rfl (fun h5 => ?_))
      refine Si.n rfl (Nat.le_of_ble_eq_true rfl) (V.bin (a := (.u32 _)) (b := (.u32 _)) (r := .u32 _) rfl rfl rfl trivial ?_)
      refine Si.n rfl (Nat.le_of_ble_eq_true rfl) (V.mv (v := .p (.u32 _)) rfl ?_)
      refine Si.n rfl (Nat.le_of_ble_eq_true rfl) (V.shrC (n := 3) (a := (.u32 _)) (b := (.u64 3)) (r := .u32 (u32Shr _ 3)) rfl rfl rfl rfl ?_)
      refine Si.n rfl (Nat.le_of_ble_eq_true rfl) (V.bin (a := (.u32 _)) (b := (.u32 _)) (r := .u32 _) rfl rfl rfl trivial ?_)
      refine Si.n rfl (Nat.le_of_ble_eq_true rfl) (V.bin (a := (.u32 _)) (b := (.u32 _)) (r := .u32 _) rfl rfl rfl trivial ?_)
      refine Si.n rfl (Nat.le_of_ble_eq_true rfl) (V.mv (v := .p (.v (.int .i64 _))) rfl ?_)
      refine Si.n rfl (Nat.le_of_ble_eq_true rfl) (V.subI rfl rfl (by omega) ?_)
      refine Si.n rfl (Nat.le_of_ble_eq_true rfl) (V.ixArrP10 (mi := s + 9) ty56 ty47 rfl rfl rfl (by first | rfl | omega | (simp; done) | (simp; omega)) rfl (by omega) (by omega) ?_)
      refine Si.n rfl (Nat.le_of_ble_eq_true rfl) (V.ldPtr ty47 rfl rfl rfl (by first | rfl | omega | (simp; done) | (simp; omega)) (v := .p (.u32 _)) rfl ?_)
      refine Si.n rfl (Nat.le_of_ble_eq_true rfl) (V.bin (a := (.u32 _)) (b := (.u32 _)) (r := .u32 _) rfl rfl rfl trivial ?_)
      refine Si.n rfl (Nat.le_of_ble_eq_true rfl) (V.mv (v := .p (.u32 _)) rfl ?_)
      refine Si.n rfl (Nat.le_of_ble_eq_true rfl) (V.call [.p (.u32 _), .p (.v (.int .i64 _))] 5 rfl rfl rfl rfl ⟨trivial, trivial, trivial⟩ trivial (_, _) ⟨.refl _, .refl _, trivial⟩ trivial (by first | omega | decide) (Φ := fun _ => True) (fun _ _ => trivial) (.inl ⟨trivial, trivial, trivial⟩) (v := .p (.u32 _)) rfl (fun h6 => ?_))
      refine Si.n rfl (Nat.le_of_ble_eq_true rfl) (V.mv (v := .p (.u32 _)) rfl ?_)
      refine Si.n rfl (Nat.le_of_ble_eq_true rfl) (V.call [.p (.u32 _), .p (.v (.int .i64 _))] 5 rfl rfl rfl rfl ⟨trivial, trivial, trivial⟩ trivial (_, _) ⟨.refl _, .refl _, trivial⟩ trivial (by first | omega | decide) (Φ := fun _ => True) (fun _ _ => trivial) (.inl ⟨trivial, trivial, trivial⟩) (v := .p (.u32 _)) rfl (fun h7 => ?_))
      refine Si.n rfl (Nat.le_of_ble_eq_true rfl) (V.bin (a := (.u32 _)) (b := (.u32 _)) (r := .u32 _) rfl rfl rfl trivial ?_)
      refine Si.n rfl (Nat.le_of_ble_eq_true rfl) (V.mv (v := .p (.u32 _)) rfl ?_)
      refine Si.n rfl (Nat.le_of_ble_eq_true rfl) (V.shrC (n := 10) (a := (.u32 _)) (b := (.u64 10)) (r := .u32 (u32Shr _ 10)) rfl rfl rfl rfl ?_)
      refine Si.n rfl (Nat.le_of_ble_eq_true rfl) (V.bin (a := (.u32 _)) (b := (.u32 _)) (r := .u32 _) rfl rfl rfl trivial ?_)
      refine Si.n rfl (Nat.le_of_ble_eq_true rfl) (V.bin (a := (.u32 _)) (b := (.u32 _)) (r := .u32 _) rfl rfl rfl trivial ?_)
      refine Si.n rfl (Nat.le_of_ble_eq_true rfl) (V.ixArrP10 (mi := 16 + s) ty56 ty47 rfl rfl rfl (by first | rfl | omega | (simp; done) | (simp; omega)) rfl (by omega) (by omega) ?_)
      refine Si.e ?_
      refine ⟨flEq_nil, ?_⟩
      refine Lo.s rfl (A.sto ty47 rfl rfl rfl (v := .p (.u32 _)) rfl trivial rfl (by first | rfl | omega | (simp; done) | (simp; omega)) (c' := .rows (fun j => .u32 (wdN b (s + 1) j))) (congrArg (fun g => some (OC.rows g)) (funext fun j => by by_cases h9 : j = 16 + s <;> simp [h9] <;> first | (rw [← wd_ref]; simp [sg0, sg1]; done) | (simp [wdN, h9]; done))) rfl ?_)
      refine Pl.e ?_
      refine Si.e ?_
      refine ⟨flEq_nil, ?_⟩
      show HT _ _ _ _ _
      refine HT.region S_rblock_ok ?_
      refine So.n (Nat.le_of_ble_eq_true rfl) (A.v rfl (V.mv (v := .p (.v (.int .i64 _))) rfl ?_))
      refine So.n (Nat.le_of_ble_eq_true rfl) (A.v rfl (V.addI rfl rfl (by omega) ?_))
      refine So.n (Nat.le_of_ble_eq_true rfl) (A.v rfl (V.as (v := .p (.v (.int .i64 _))) rfl ?_))
      refine So.e ?_
      refine ⟨s + 1, by first | rfl | omega | (simp; done) | (simp; omega), by omega, ⟨⟨⟨le_int (by first | rfl | omega | (simp; done) | (simp; omega)), trivial⟩, ⟨.refl _, rfl⟩, ⟨.refl _, rfl⟩, ⟨.refl _, rfl⟩, ⟨.refl _, rfl⟩, trivial⟩, ⟨⟨_, rfl, .inr (ob_rows (by first | rfl | ((try dsimp only); first | rfl | omega | (simp; done) | (simp; omega))) (by first | rfl | ((try dsimp only); first | rfl | omega | (simp; done) | (simp; omega)))), trivial⟩, ⟨_, rfl, .inl rfl, trivial⟩, ⟨_, rfl, .inl rfl, trivial⟩, ⟨_, rfl, .inl rfl, trivial⟩, trivial⟩⟩⟩
    · have h3 := of_decide_eq_false h3
      refine HT.exit ?_
      show HT _ _ _ _ _
      refine HT.seq ?_
      refine HT.region S_rblock_ok ?_
      have hs : s = 48 := by omega
      subst hs
      refine So.n (Nat.le_of_ble_eq_true rfl) (A.v rfl (V.ldPtrA ty48 rfl rfl rfl rfl (by first | rfl | omega | (simp; done) | (simp; omega)) ?_))
      refine So.n (Nat.le_of_ble_eq_true rfl) (A.alloc 5 1 ty48 rfl trivial (f := fun _ => .u32 0) (fun _ _ => rfl) ?_)
      refine So.s (A.stoAg ty48 rfl (n := 8) rfl (by decide) (by intro j hj; first | rfl | trivial | (match j, hj with | 0, _ => trivial | 1, _ => trivial | 2, _ => trivial | 3, _ => trivial | 4, _ => trivial | 5, _ => trivial | 6, _ => trivial | 7, _ => trivial)) rfl rfl rfl ?_)
      refine So.e ?_
      show HT _ _ _ _ _
      refine HT.seq ?_
      refine HT.seq ?_
      refine HT.region S_rblock_ok ?_
      refine So.n (Nat.le_of_ble_eq_true rfl) (A.v rfl (V.as (v := .p (.v (.int .i64 (0)))) rfl ?_))
      refine So.e ?_
      show HT _ _ _ _ _
      refine HT.block ?_
      refine R.loop (σ := Nat) (fun q => [(12, .p (.v (.int .i64 ((q : Int)))))]) (fun q => [(5, ⟨48, 1, 8, true, .rows (fun j => .u32 (rounds g (wd b) q j))⟩)]) [2, 4, 5, 6, 11] [1, 2, 3, 4] (fun q => q ≤ 64) (fun q => 64 - q) (0) (fr0 := [(2, .ptr 1 0), (4, .ptr 2 0), (5, .ptr 3 0), (6, .ptr 4 0), (11, .ptr 5 0)]) (O0 := [(1, ⟨_, _, _, _, .rows _⟩), (2, ⟨_, _, _, _, .rows _⟩), (3, ⟨_, _, _, _, .rows _⟩), (4, ⟨_, _, _, _, .rows _⟩)]) rfl rfl (by first | rfl | omega | (intro j hj; rfl)) ⟨⟨⟨le_int (by first | rfl | omega | (intro j hj; first | rfl | (rw [Nat.zero_add]; rfl))), trivial⟩, ⟨.refl _, rfl⟩, ⟨.refl _, rfl⟩, ⟨.refl _, rfl⟩, ⟨.refl _, rfl⟩, ⟨.refl _, rfl⟩, trivial⟩, ⟨⟨_, rfl, .inr (ob_rows (by first | rfl | ((try dsimp only); first | rfl | omega | (intro j hj; first | rfl | (rw [Nat.zero_add]; rfl)))) (by first | rfl | ((try dsimp only); first | rfl | omega | (intro j hj; first | rfl | (rw [Nat.zero_add]; rfl))))), trivial⟩, ⟨_, rfl, .inl rfl, trivial⟩, ⟨_, rfl, .inl rfl, trivial⟩, ⟨_, rfl, .inl rfl, trivial⟩, ⟨_, rfl, .inl rfl, trivial⟩, trivial⟩⟩ (fun q hP2 => ?_)
      refine HT.seq ?_
      refine HT.seq ?_
      refine HT.region S_rblock_ok ?_
      refine So.n (Nat.le_of_ble_eq_true rfl) (A.v rfl (V.mv (v := .p (.v (.int .i64 ((_ : Nat) : Int)))) rfl ?_))
      refine So.n (Nat.le_of_ble_eq_true rfl) (A.v rfl (V.bin (a := (.v (.int .i64 ((_ : Nat) : Int)))) (b := (.v (.int .i64 (64)))) (r := .v (.bool _)) rfl rfl rfl trivial ?_))
      refine So.e ?_
      show HT _ _ _ _ _
      refine R.cond rfl rfl (fun h8 => ?_) (fun h8 => ?_)
      · have h8 := of_decide_eq_true h8
        refine HT.skip ?_
        show HT _ _ _ _ _
        refine HT.seq ?_
        refine HT.block ?_
        refine HT.seq ?_
        refine HT.region S_rblock_ok ?_
        refine So.n (Nat.le_of_ble_eq_true rfl) (A.v rfl (V.ixArrP10 ty48 ty47 rfl rfl rfl (by first | rfl | omega | (simp; done) | (simp; omega)) rfl (by omega) rfl ?_))
        refine So.n (Nat.le_of_ble_eq_true rfl) (A.v rfl (V.ldPtr ty47 rfl rfl rfl (by first | rfl | omega | (simp; done) | (simp; omega)) (v := .p (.u32 _)) rfl ?_))
        refine So.n (Nat.le_of_ble_eq_true rfl) (A.v rfl (V.as (v := .p (.u32 _)) rfl ?_))
        refine So.e ?_
        show HT _ _ _ _ _
        refine HT.seq ?_
        refine HT.region S_rblock_ok ?_
        refine So.n (Nat.le_of_ble_eq_true rfl) (A.v rfl (V.ixArrP10 ty48 ty47 rfl rfl rfl (by first | rfl | omega | (simp; done) | (simp; omega)) rfl (by omega) rfl ?_))
        refine So.n (Nat.le_of_ble_eq_true rfl) (A.v rfl (V.ldPtr ty47 rfl rfl rfl (by first | rfl | omega | (simp; done) | (simp; omega)) (v := .p (.u32 _)) rfl ?_))
        refine So.n (Nat.le_of_ble_eq_true rfl) (A.v rfl (V.as (v := .p (.u32 _)) rfl ?_))
        refine So.e ?_
        show HT _ _ _ _ _
        refine HT.seq ?_
        refine HT.drawn S_rblock_ok S_rblock_det mixed (by kernel_rfl) ?_
        refine Sd.n (Nat.le_of_ble_eq_true rfl) (V.ixArrP10 ty48 ty47 rfl rfl rfl (by first | rfl | omega | (simp; done) | (simp; omega)) rfl (by omega) rfl ?_)
        refine Sd.n (Nat.le_of_ble_eq_true rfl) (V.ldPtr ty47 rfl rfl rfl (by first | rfl | omega | (simp; done) | (simp; omega)) (v := .p (.u32 _)) rfl ?_)
        refine Sd.n (Nat.le_of_ble_eq_true rfl) (V.mv (v := .p (.u32 _)) rfl ?_)
        refine Sd.n (Nat.le_of_ble_eq_true rfl) (V.call [.p (.u32 _), .p (.v (.int .i64 _))] 6 rfl rfl rfl rfl ⟨trivial, trivial, trivial⟩ trivial (_, _) ⟨.refl _, .refl _, trivial⟩ trivial (by first | omega | decide) (Φ := fun _ => True) (fun _ _ => trivial) (.inl ⟨trivial, trivial, trivial⟩) (v := .p (.u32 _)) rfl (fun h9 => ?_))
        refine Sd.n (Nat.le_of_ble_eq_true rfl) (V.mv (v := .p (.u32 _)) rfl ?_)
        refine Sd.n (Nat.le_of_ble_eq_true rfl) (V.call [.p (.u32 _), .p (.v (.int .i64 _))] 6 rfl rfl rfl rfl ⟨trivial, trivial, trivial⟩ trivial (_, _) ⟨.refl _, .refl _, trivial⟩ trivial (by first | omega | decide) (Φ := fun _ => True) (fun _ _ => trivial) (.inl ⟨trivial, trivial, trivial⟩) (v := .p (.u32 _)) rfl (fun h10 => ?_))
        refine Sd.n (Nat.le_of_ble_eq_true rfl) (V.bin (a := (.u32 _)) (b := (.u32 _)) (r := .u32 _) rfl rfl rfl trivial ?_)
        refine Sd.n (Nat.le_of_ble_eq_true rfl) (V.mv (v := .p (.u32 _)) rfl ?_)
        refine Sd.n (Nat.le_of_ble_eq_true rfl) (V.call [.p (.u32 _), .p (.v (.int .i64 _))] 6 rfl rfl rfl rfl ⟨trivial, trivial, trivial⟩ trivial (_, _) ⟨.refl _, .refl _, trivial⟩ trivial (by first | omega | decide) (Φ := fun _ => True) (fun _ _ => trivial) (.inl ⟨trivial, trivial, trivial⟩) (v := .p (.u32 _)) rfl (fun h11 => ?_))
        refine Sd.n (Nat.le_of_ble_eq_true rfl) (V.bin (a := (.u32 _)) (b := (.u32 _)) (r := .u32 _) rfl rfl rfl trivial ?_)
        refine Sd.n (Nat.le_of_ble_eq_true rfl) (V.bin (a := (.u32 _)) (b := (.u32 _)) (r := .u32 _) rfl rfl rfl trivial ?_)
        refine Sd.n (Nat.le_of_ble_eq_true rfl) (V.mv (v := .p (.u32 _)) rfl ?_)
        refine Sd.n (Nat.le_of_ble_eq_true rfl) (V.ixArrP10 ty48 ty47 rfl rfl rfl (by first | rfl | omega | (simp; done) | (simp; omega)) rfl (by omega) rfl ?_)
        refine Sd.n (Nat.le_of_ble_eq_true rfl) (V.ldPtr ty47 rfl rfl rfl (by first | rfl | omega | (simp; done) | (simp; omega)) (v := .p (.u32 _)) rfl ?_)
        refine Sd.n (Nat.le_of_ble_eq_true rfl) (V.bin (a := (.u32 _)) (b := (.u32 _)) (r := .u32 _) rfl rfl rfl trivial ?_)
        refine Sd.n (Nat.le_of_ble_eq_true rfl) (V.mv (v := .p (.u32 _)) rfl ?_)
        refine Sd.n (Nat.le_of_ble_eq_true rfl) (V.xor32 rfl ?_)
        refine Sd.n (Nat.le_of_ble_eq_true rfl) (V.ixArrP10 ty48 ty47 rfl rfl rfl (by first | rfl | omega | (simp; done) | (simp; omega)) rfl (by omega) rfl ?_)
        refine Sd.n (Nat.le_of_ble_eq_true rfl) (V.ldPtr ty47 rfl rfl rfl (by first | rfl | omega | (simp; done) | (simp; omega)) (v := .p (.u32 _)) rfl ?_)
        refine Sd.n (Nat.le_of_ble_eq_true rfl) (V.bin (a := (.u32 _)) (b := (.u32 _)) (r := .u32 _) rfl rfl rfl trivial ?_)
        refine Sd.n (Nat.le_of_ble_eq_true rfl) (V.bin (a := (.u32 _)) (b := (.u32 _)) (r := .u32 _) rfl rfl rfl trivial ?_)
        refine Sd.n (Nat.le_of_ble_eq_true rfl) (V.bin (a := (.u32 _)) (b := (.u32 _)) (r := .u32 _) rfl rfl rfl trivial ?_)
        refine Sd.n (Nat.le_of_ble_eq_true rfl) (V.mv (v := .p (.v (.int .i64 ((_ : Nat) : Int)))) rfl ?_)
        refine Sd.n (Nat.le_of_ble_eq_true rfl) (V.ixArrP10 (mi := q) ty56 ty47 rfl rfl rfl (by first | rfl | omega | (simp; done) | (simp; omega)) rfl (by omega) (by omega) ?_)
        refine Sd.n (Nat.le_of_ble_eq_true rfl) (V.ldPtr ty47 rfl rfl rfl (by first | rfl | omega | (simp; done) | (simp; omega)) (v := .p (.u32 _)) rfl ?_)
        refine Sd.n (Nat.le_of_ble_eq_true rfl) (V.bin (a := (.u32 _)) (b := (.u32 _)) (r := .u32 _) rfl rfl rfl trivial ?_)
        refine Sd.n (Nat.le_of_ble_eq_true rfl) (V.mv (v := .p (.v (.int .i64 ((_ : Nat) : Int)))) rfl ?_)
        refine Sd.n (Nat.le_of_ble_eq_true rfl) (V.ixArrP10 (mi := q) ty56 ty47 rfl rfl rfl (by first | rfl | omega | (simp; done) | (simp; omega)) rfl (by omega) (by omega) ?_)
        refine Sd.n (Nat.le_of_ble_eq_true rfl) (V.ldPtr ty47 rfl rfl rfl (by first | rfl | omega | (simp; done) | (simp; omega)) (v := .p (.u32 _)) rfl ?_)
        refine Sd.n (Nat.le_of_ble_eq_true rfl) (V.bin (a := (.u32 _)) (b := (.u32 _)) (r := .u32 _) rfl rfl rfl trivial ?_)
        refine Sd.n (Nat.le_of_ble_eq_true rfl) (V.as (v := .p (.u32 _)) rfl ?_)
        refine Sd.e ?_
        show HT _ _ _ _ _
        refine HT.seq ?_
        refine HT.drawn S_rblock_ok S_rblock_det mixed (by kernel_rfl) ?_
        refine Sd.n (Nat.le_of_ble_eq_true rfl) (V.mv (v := .p (.u32 _)) rfl ?_)
        refine Sd.n (Nat.le_of_ble_eq_true rfl) (V.call [.p (.u32 _), .p (.v (.int .i64 _))] 6 rfl rfl rfl rfl ⟨trivial, trivial, trivial⟩ trivial (_, _) ⟨.refl _, .refl _, trivial⟩ trivial (by first | omega | decide) (Φ := fun _ => True) (fun _ _ => trivial) (.inl ⟨trivial, trivial, trivial⟩) (v := .p (.u32 _)) rfl (fun h12 => ?_))
        refine Sd.n (Nat.le_of_ble_eq_true rfl) (V.mv (v := .p (.u32 _)) rfl ?_)
        refine Sd.n (Nat.le_of_ble_eq_true rfl) (V.call [.p (.u32 _), .p (.v (.int .i64 _))] 6 rfl rfl rfl rfl ⟨trivial, trivial, trivial⟩ trivial (_, _) ⟨.refl _, .refl _, trivial⟩ trivial (by first | omega | decide) (Φ := fun _ => True) (fun _ _ => trivial) (.inl ⟨trivial, trivial, trivial⟩) (v := .p (.u32 _)) rfl (fun h13 => ?_))
        refine Sd.n (Nat.le_of_ble_eq_true rfl) (V.bin (a := (.u32 _)) (b := (.u32 _)) (r := .u32 _) rfl rfl rfl trivial ?_)
        refine Sd.n (Nat.le_of_ble_eq_true rfl) (V.mv (v := .p (.u32 _)) rfl ?_)
        refine Sd.n (Nat.le_of_ble_eq_true rfl) (V.call [.p (.u32 _), .p (.v (.int .i64 _))] 6 rfl rfl rfl rfl ⟨trivial, trivial, trivial⟩ trivial (_, _) ⟨.refl _, .refl _, trivial⟩ trivial (by first | omega | decide) (Φ := fun _ => True) (fun _ _ => trivial) (.inl ⟨trivial, trivial, trivial⟩) (v := .p (.u32 _)) rfl (fun h14 => ?_))
        refine Sd.n (Nat.le_of_ble_eq_true rfl) (V.bin (a := (.u32 _)) (b := (.u32 _)) (r := .u32 _) rfl rfl rfl trivial ?_)
        refine Sd.n (Nat.le_of_ble_eq_true rfl) (V.mv (v := .p (.u32 _)) rfl ?_)
        refine Sd.n (Nat.le_of_ble_eq_true rfl) (V.ixArrP10 ty48 ty47 rfl rfl rfl (by first | rfl | omega | (simp; done) | (simp; omega)) rfl (by omega) rfl ?_)
        refine Sd.n (Nat.le_of_ble_eq_true rfl) (V.ldPtr ty47 rfl rfl rfl (by first | rfl | omega | (simp; done) | (simp; omega)) (v := .p (.u32 _)) rfl ?_)
        refine Sd.n (Nat.le_of_ble_eq_true rfl) (V.bin (a := (.u32 _)) (b := (.u32 _)) (r := .u32 _) rfl rfl rfl trivial ?_)
        refine Sd.n (Nat.le_of_ble_eq_true rfl) (V.mv (v := .p (.u32 _)) rfl ?_)
        refine Sd.n (Nat.le_of_ble_eq_true rfl) (V.ixArrP10 ty48 ty47 rfl rfl rfl (by first | rfl | omega | (simp; done) | (simp; omega)) rfl (by omega) rfl ?_)
        refine Sd.n (Nat.le_of_ble_eq_true rfl) (V.ldPtr ty47 rfl rfl rfl (by first | rfl | omega | (simp; done) | (simp; omega)) (v := .p (.u32 _)) rfl ?_)
        refine Sd.n (Nat.le_of_ble_eq_true rfl) (V.bin (a := (.u32 _)) (b := (.u32 _)) (r := .u32 _) rfl rfl rfl trivial ?_)
        refine Sd.n (Nat.le_of_ble_eq_true rfl) (V.bin (a := (.u32 _)) (b := (.u32 _)) (r := .u32 _) rfl rfl rfl trivial ?_)
        refine Sd.n (Nat.le_of_ble_eq_true rfl) (V.ixArrP10 ty48 ty47 rfl rfl rfl (by first | rfl | omega | (simp; done) | (simp; omega)) rfl (by omega) rfl ?_)
        refine Sd.n (Nat.le_of_ble_eq_true rfl) (V.ldPtr ty47 rfl rfl rfl (by first | rfl | omega | (simp; done) | (simp; omega)) (v := .p (.u32 _)) rfl ?_)
        refine Sd.n (Nat.le_of_ble_eq_true rfl) (V.ixArrP10 ty48 ty47 rfl rfl rfl (by first | rfl | omega | (simp; done) | (simp; omega)) rfl (by omega) rfl ?_)
        refine Sd.n (Nat.le_of_ble_eq_true rfl) (V.ldPtr ty47 rfl rfl rfl (by first | rfl | omega | (simp; done) | (simp; omega)) (v := .p (.u32 _)) rfl ?_)
        refine Sd.n (Nat.le_of_ble_eq_true rfl) (V.bin (a := (.u32 _)) (b := (.u32 _)) (r := .u32 _) rfl rfl rfl trivial ?_)
        refine Sd.n (Nat.le_of_ble_eq_true rfl) (V.bin (a := (.u32 _)) (b := (.u32 _)) (r := .u32 _) rfl rfl rfl trivial ?_)
        refine Sd.n (Nat.le_of_ble_eq_true rfl) (V.bin (a := (.u32 _)) (b := (.u32 _)) (r := .u32 _) rfl rfl rfl trivial ?_)
        refine Sd.n (Nat.le_of_ble_eq_true rfl) (V.as (v := .p (.u32 _)) rfl ?_)
        refine Sd.e ?_
        show HT _ _ _ _ _
        refine HT.region S_rblock_ok ?_
        refine So.n (Nat.le_of_ble_eq_true rfl) (A.v rfl (V.mv (v := .p (.u32 _)) rfl ?_))
        refine So.n (Nat.le_of_ble_eq_true rfl) (A.v rfl (V.mv (v := .p (.u32 _)) rfl ?_))
        refine So.n (Nat.le_of_ble_eq_true rfl) (A.v rfl (V.bin (a := (.u32 _)) (b := (.u32 _)) (r := .u32 _) rfl rfl rfl trivial ?_))
        refine So.n (Nat.le_of_ble_eq_true rfl) (A.v rfl (V.ixArrP10 ty48 ty47 rfl rfl rfl (by first | rfl | omega | (simp; done) | (simp; omega)) rfl (by omega) rfl ?_))
        refine So.n (Nat.le_of_ble_eq_true rfl) (A.v rfl (V.ldPtr ty47 rfl rfl rfl (by first | rfl | omega | (simp; done) | (simp; omega)) (v := .p (.u32 _)) rfl ?_))
        refine So.n (Nat.le_of_ble_eq_true rfl) (A.v rfl (V.ixArrP10 ty48 ty47 rfl rfl rfl (by first | rfl | omega | (simp; done) | (simp; omega)) rfl (by omega) rfl ?_))
        refine So.n (Nat.le_of_ble_eq_true rfl) (A.v rfl (V.ldPtr ty47 rfl rfl rfl (by first | rfl | omega | (simp; done) | (simp; omega)) (v := .p (.u32 _)) rfl ?_))
        refine So.n (Nat.le_of_ble_eq_true rfl) (A.v rfl (V.ixArrP10 ty48 ty47 rfl rfl rfl (by first | rfl | omega | (simp; done) | (simp; omega)) rfl (by omega) rfl ?_))
        refine So.n (Nat.le_of_ble_eq_true rfl) (A.v rfl (V.ldPtr ty47 rfl rfl rfl (by first | rfl | omega | (simp; done) | (simp; omega)) (v := .p (.u32 _)) rfl ?_))
        refine So.n (Nat.le_of_ble_eq_true rfl) (A.v rfl (V.ixArrP10 ty48 ty47 rfl rfl rfl (by first | rfl | omega | (simp; done) | (simp; omega)) rfl (by omega) rfl ?_))
        refine So.n (Nat.le_of_ble_eq_true rfl) (A.v rfl (V.ldPtr ty47 rfl rfl rfl (by first | rfl | omega | (simp; done) | (simp; omega)) (v := .p (.u32 _)) rfl ?_))
        refine So.n (Nat.le_of_ble_eq_true rfl) (A.v rfl (V.mv (v := .p (.u32 _)) rfl ?_))
        refine So.n (Nat.le_of_ble_eq_true rfl) (A.v rfl (V.bin (a := (.u32 _)) (b := (.u32 _)) (r := .u32 _) rfl rfl rfl trivial ?_))
        refine So.n (Nat.le_of_ble_eq_true rfl) (A.v rfl (V.ixArrP10 ty48 ty47 rfl rfl rfl (by first | rfl | omega | (simp; done) | (simp; omega)) rfl (by omega) rfl ?_))
        refine So.n (Nat.le_of_ble_eq_true rfl) (A.v rfl (V.ldPtr ty47 rfl rfl rfl (by first | rfl | omega | (simp; done) | (simp; omega)) (v := .p (.u32 _)) rfl ?_))
        refine So.n (Nat.le_of_ble_eq_true rfl) (A.v rfl (V.ixArrP10 ty48 ty47 rfl rfl rfl (by first | rfl | omega | (simp; done) | (simp; omega)) rfl (by omega) rfl ?_))
        refine So.n (Nat.le_of_ble_eq_true rfl) (A.v rfl (V.ldPtr ty47 rfl rfl rfl (by first | rfl | omega | (simp; done) | (simp; omega)) (v := .p (.u32 _)) rfl ?_))
        refine So.n (Nat.le_of_ble_eq_true rfl) (A.v rfl (V.ixArrP10 ty48 ty47 rfl rfl rfl (by first | rfl | omega | (simp; done) | (simp; omega)) rfl (by omega) rfl ?_))
        refine So.n (Nat.le_of_ble_eq_true rfl) (A.v rfl (V.ldPtr ty47 rfl rfl rfl (by first | rfl | omega | (simp; done) | (simp; omega)) (v := .p (.u32 _)) rfl ?_))
        refine So.n (Nat.le_of_ble_eq_true rfl) (A.bldA ty48 rfl rfl ⟨by first | exact trivial | (intro j hj; first | trivial | rfl | (simp [BV.one]; done)), by first | exact trivial | (intro j hj; first | trivial | rfl | (simp [BV.one]; done)), by first | exact trivial | (intro j hj; first | trivial | rfl | (simp [BV.one]; done)), by first | exact trivial | (intro j hj; first | trivial | rfl | (simp [BV.one]; done)), by first | exact trivial | (intro j hj; first | trivial | rfl | (simp [BV.one]; done)), by first | exact trivial | (intro j hj; first | trivial | rfl | (simp [BV.one]; done)), by first | exact trivial | (intro j hj; first | trivial | rfl | (simp [BV.one]; done)), by first | exact trivial | (intro j hj; first | trivial | rfl | (simp [BV.one]; done)), trivial⟩ rfl (f := fun j => .u32 (rounds g (wd b) (q + 1) j)) (by exact allP_spec (P := fun j => _ = _) ⟨⟨⟨⟨⟨⟨⟨⟨trivial, (congrArg (fun x => BV.p (PV.u32 x)) (ref0 (rounds g (wd b) q) (K256.getD q 0) (wd b q)))⟩, rfl⟩, rfl⟩, rfl⟩, (congrArg (fun x => BV.p (PV.u32 x)) (ref4 (rounds g (wd b) q) (K256.getD q 0) (wd b q)))⟩, rfl⟩, rfl⟩, rfl⟩) ?_)
        refine So.s (A.stoAg ty48 rfl (n := 8) rfl (by decide) (by intro j hj; first | rfl | trivial | (match j, hj with | 0, _ => trivial | 1, _ => trivial | 2, _ => trivial | 3, _ => trivial | 4, _ => trivial | 5, _ => trivial | 6, _ => trivial | 7, _ => trivial)) rfl rfl rfl ?_)
        refine So.e ?_
        show HT _ _ _ _ _
        refine HT.region S_rblock_ok ?_
        refine So.n (Nat.le_of_ble_eq_true rfl) (A.v rfl (V.mv (v := .p (.v (.int .i64 ((_ : Nat) : Int)))) rfl ?_))
        refine So.n (Nat.le_of_ble_eq_true rfl) (A.v rfl (V.addI rfl rfl (by omega) ?_))
        refine So.n (Nat.le_of_ble_eq_true rfl) (A.v rfl (V.as (v := .p (.v (.int .i64 _))) rfl ?_))
        refine So.e ?_
        refine ⟨q + 1, by first | rfl | omega | (intro j hj; rfl), by omega, ⟨⟨⟨le_int (by first | rfl | omega | (intro j hj; rfl)), trivial⟩, ⟨.refl _, rfl⟩, ⟨.refl _, rfl⟩, ⟨.refl _, rfl⟩, ⟨.refl _, rfl⟩, ⟨.refl _, rfl⟩, trivial⟩, ⟨⟨_, rfl, .inr (ob_rows (by first | rfl | ((try dsimp only); first | rfl | omega | (intro j hj; rfl))) (by first | rfl | ((try dsimp only); first | rfl | omega | (intro j hj; rfl)))), trivial⟩, ⟨_, rfl, .inl rfl, trivial⟩, ⟨_, rfl, .inl rfl, trivial⟩, ⟨_, rfl, .inl rfl, trivial⟩, ⟨_, rfl, .inl rfl, trivial⟩, trivial⟩⟩⟩
      · have h8 := of_decide_eq_false h8
        refine HT.exit ?_
        show HT _ _ _ _ _
        refine HT.seq ?_
        refine HT.seq ?_
        refine HT.region S_rblock_ok ?_
        have hq : q = 64 := by omega
        subst hq
        refine So.n (Nat.le_of_ble_eq_true rfl) (A.v rfl (V.as (v := .p (.v (.int .i64 (0)))) rfl ?_))
        refine So.e ?_
        show HT _ _ _ _ _
        refine HT.block ?_
        refine R.loop (σ := Nat) (fun r => [(17, .p (.v (.int .i64 ((r : Int)))))]) (fun r => [(1, ⟨48, 1, 8, true, .rows (fun j => .u32 (if j < r then comp g b j else g j))⟩)]) [2, 4, 11] [2, 3, 4, 5] (fun r => r ≤ 8) (fun r => 8 - r) (0) (fr0 := [(2, .ptr 1 0), (4, .ptr 2 0), (11, .ptr 5 0)]) (O0 := [(2, ⟨_, _, _, _, .rows _⟩), (3, ⟨_, _, _, _, .rows _⟩), (4, ⟨_, _, _, _, .rows _⟩), (5, ⟨_, _, _, _, .rows _⟩)]) rfl rfl (by first | rfl | omega | (simp; done) | (simp; omega)) ⟨⟨⟨le_int (by first | rfl | omega | (simp; done) | (intro j hj; simp; done)), trivial⟩, ⟨.refl _, rfl⟩, ⟨.refl _, rfl⟩, ⟨.refl _, rfl⟩, trivial⟩, ⟨⟨_, rfl, .inr (ob_rows (by first | rfl | ((try dsimp only); first | rfl | omega | (simp; done) | (intro j hj; simp; done))) (by first | rfl | ((try dsimp only); first | rfl | omega | (simp; done) | (intro j hj; simp; done)))), trivial⟩, ⟨_, rfl, .inl rfl, trivial⟩, ⟨_, rfl, .inl rfl, trivial⟩, ⟨_, rfl, .inl rfl, trivial⟩, ⟨_, rfl, .inl rfl, trivial⟩, trivial⟩⟩ (fun r hP3 => ?_)
        refine HT.seq ?_
        refine HT.seq ?_
        refine HT.region S_rblock_ok ?_
        refine So.n (Nat.le_of_ble_eq_true rfl) (A.v rfl (V.mv (v := .p (.v (.int .i64 ((_ : Nat) : Int)))) rfl ?_))
        refine So.n (Nat.le_of_ble_eq_true rfl) (A.v rfl (V.bin (a := (.v (.int .i64 ((_ : Nat) : Int)))) (b := (.v (.int .i64 (8)))) (r := .v (.bool _)) rfl rfl rfl trivial ?_))
        refine So.e ?_
        show HT _ _ _ _ _
        refine R.cond rfl rfl (fun h15 => ?_) (fun h15 => ?_)
        · have h15 := of_decide_eq_true h15
          refine HT.skip ?_
          show HT _ _ _ _ _
          refine HT.seq ?_
          refine HT.block ?_
          refine HT.tail S_rblock_ok mixed 9 (by kernel_rfl) (by kernel_rfl) ?_
          refine So.n (Nat.le_of_ble_eq_true rfl) (A.v rfl (V.mv (v := .p (.v (.int .i64 ((_ : Nat) : Int)))) rfl ?_))
          refine So.n (Nat.le_of_ble_eq_true rfl) (A.v rfl (V.mv (v := .p (.v (.int .i64 ((_ : Nat) : Int)))) rfl ?_))
          refine So.n (Nat.le_of_ble_eq_true rfl) (A.v rfl (V.ixArrP10 (mi := r) ty48 ty47 rfl rfl rfl (by first | rfl | omega | (simp; done) | (simp; omega)) rfl (by omega) (by omega) ?_))
          refine So.n (Nat.le_of_ble_eq_true rfl) (A.v rfl (V.ldPtr ty47 rfl rfl rfl (by first | rfl | omega | (simp; done) | (simp; omega)) (v := .p (.u32 _)) rfl ?_))
          refine So.n (Nat.le_of_ble_eq_true rfl) (A.v rfl (V.mv (v := .p (.v (.int .i64 ((_ : Nat) : Int)))) rfl ?_))
          refine So.n (Nat.le_of_ble_eq_true rfl) (A.v rfl (V.ixArrP10 (mi := r) ty48 ty47 rfl rfl rfl (by first | rfl | omega | (simp; done) | (simp; omega)) rfl (by omega) (by omega) ?_))
          refine So.n (Nat.le_of_ble_eq_true rfl) (A.v rfl (V.ldPtr ty47 rfl rfl rfl (by first | rfl | omega | (simp; done) | (simp; omega)) (v := .p (.u32 _)) rfl ?_))
          refine So.n (Nat.le_of_ble_eq_true rfl) (A.v rfl (V.bin (a := (.u32 _)) (b := (.u32 _)) (r := .u32 _) rfl rfl rfl trivial ?_))
          refine So.n (Nat.le_of_ble_eq_true rfl) (A.v rfl (V.ixArrP10 (mi := r) ty48 ty47 rfl rfl rfl (by first | rfl | omega | (simp; done) | (simp; omega)) rfl (by omega) (by omega) ?_))
          refine So.s (A.sto ty47 rfl rfl rfl (v := .p (.u32 _)) rfl trivial rfl (by first | rfl | omega | (simp; done) | (simp; omega)) (c' := .rows (fun j => .u32 (if j = r then comp g b r else if j < r then comp g b j else g j))) (congrArg (fun g => some (OC.rows g)) (funext fun j => by by_cases h9 : j = r <;> simp [h9, comp])) rfl ?_)
          refine So.e ?_
          show HT _ _ _ _ _
          refine HT.region S_rblock_ok ?_
          refine So.n (Nat.le_of_ble_eq_true rfl) (A.v rfl (V.mv (v := .p (.v (.int .i64 ((_ : Nat) : Int)))) rfl ?_))
          refine So.n (Nat.le_of_ble_eq_true rfl) (A.v rfl (V.addI rfl rfl (by omega) ?_))
          refine So.n (Nat.le_of_ble_eq_true rfl) (A.v rfl (V.as (v := .p (.v (.int .i64 _))) rfl ?_))
          refine So.e ?_
          refine ⟨r + 1, by first | rfl | omega | (simp; done) | (simp; omega), by omega, ⟨⟨⟨le_int (by first | rfl | omega | (simp; done) | (simp; omega)), trivial⟩, ⟨.refl _, rfl⟩, ⟨.refl _, rfl⟩, ⟨.refl _, rfl⟩, trivial⟩, ⟨⟨_, rfl, .inr (ob_rows (by first | rfl | ((try dsimp only); (intro j hj; by_cases h9 : j = r <;> simp [h9] <;> (by_cases h8 : j < r <;> simp [h8] <;> omega)))) (by first | rfl | ((try dsimp only); (intro j hj; by_cases h9 : j = r <;> simp [h9] <;> (by_cases h8 : j < r <;> simp [h8] <;> omega))))), trivial⟩, ⟨_, rfl, .inl rfl, trivial⟩, ⟨_, rfl, .inl rfl, trivial⟩, ⟨_, rfl, .inl rfl, trivial⟩, ⟨_, rfl, .inl rfl, trivial⟩, trivial⟩⟩⟩
        · have h15 := of_decide_eq_false h15
          refine HT.exit ?_
          show HT _ _ _ _ _
          refine HT.seq ?_
          refine HT.region S_rblock_ok ?_
          refine So.n (Nat.le_of_ble_eq_true rfl) (A.v rfl (V.ldPtrA ty48 rfl rfl rfl rfl (by first | rfl | omega | (simp; done) | (simp; omega)) ?_))
          refine So.s (A.stoAg ty48 rfl (n := 8) rfl (by decide) (by intro j hj; first | rfl | trivial | (match j, hj with | 0, _ => trivial | 1, _ => trivial | 2, _ => trivial | 3, _ => trivial | 4, _ => trivial | 5, _ => trivial | 6, _ => trivial | 7, _ => trivial)) rfl rfl rfl ?_)
          refine So.e ?_
          show HT _ _ _ _ _
          refine HT.ret ?_
          exact retC_ok (sg []) [(4, .ptr 2 0)] [(2, ⟨48, 1, 8, true, .rows (fun j => .u32 (comp g b j))⟩)] h ⟨⟨⟨.refl _, rfl⟩, trivial⟩, ⟨⟨_, rfl, .inr (ob_rows rfl (by intro j hj; first | rfl | ((try dsimp only); (first | rfl | (intro j hj; rw [if_pos (by omega)]) | (rw [if_pos (by omega), Nat.zero_add]))))), trivial⟩, trivial⟩⟩ ⟨rvA_cell ty48 rfl rfl rfl rfl (Nat.le_refl _) (le_agg (fun j _ => by first | rfl | (dsimp only; rw [Nat.zero_add]))), trivial⟩ trivial rfl trivial ⟨trivial, trivial⟩ rfl

end Go.Vh

set_option linter.unusedVariables false
set_option linter.unusedSimpArgs false
namespace Go.Vh
open Go Go.Vc Go.Proofs

/-! ### sodality/sodalityref02.Sum -/
def rsumSp : Sp := ⟨[], mkE (α := (List UInt8)) (fun b => [.p (.bs (b))]) (fun b => []) (fun b => b.length ≤ 1099511627776) (fun b => [.own 2 (0) (32)]) (fun b => [(2, ⟨5, 1, 32, true, .bs (sha b)⟩)])⟩
def S_rsum : FuncId → Option Sp := fun f => if f = 35 then some rblockSp else none
theorem S_rsum_ok : ∀ f s, S_rsum f = some s → FOK Tryd.prog gl f s := fun f s h => by
  unfold S_rsum at h
  split at h
  · rename_i e; cases h; subst e; exact rblock_ok
  cases h
theorem S_rsum_det : ∀ f s, S_rsum f = some s → SpDet s.sp := fun f s h => by
  unfold S_rsum at h
  split at h
  · cases h; exact mkE_det _ _ _ _ _
  cases h
set_option maxHeartbeats 1000000 in
set_option maxRecDepth 20000 in
theorem rsum_ok : FOK Tryd.prog gl 30 rsumSp := by
  refine FOK.ofE (tyOf_ok Tryd.prog) (slots := [2]) (nt := 78) Tryd.func30 rfl rfl rfl rfl (by decide) 1 (fun _ => rfl) (by decide) (fun _ => ⟨trivial, trivial⟩) ?_
  rintro b kk hlen hpre h
  have hl0 : (b).length ≤ 9223372036854775807 := hlen.1
  replace hpre : b.length ≤ 1099511627776 := hpre
  show HT (cx Tryd.prog 78 (tyOf Tryd.prog) gl []) _ [(0, .p (.bs (b)))] [] _
  have hzl : zlen b.length < 64 := by unfold zlen; omega
  have hEl : (ptx b).length = b.length + (9 + zlen b.length) := by unfold ptx; rw [List.length_append, pad_len]
  have hE64 := ptx_64 b
  refine HT.seq ?_
  refine HT.region S_rsum_ok ?_
  refine So.n (Nat.le_of_ble_eq_true rfl) (A.v rfl (V.as (v := .p (.v (.slice none 0 0))) rfl ?_))
  refine So.e ?_
  show HT _ _ _ _ _
  refine HT.seq ?_
  refine HT.region S_rsum_ok ?_
  refine So.n (Nat.le_of_ble_eq_true rfl) (A.bsl 1 ty22 ty5 rfl (Nat.le_of_ble_eq_true rfl) (Nat.le_of_ble_eq_true rfl) (fun _ => rfl) rfl rfl trivial trivial rfl (N := 0) rfl (c := .bs []) rfl ?_)
  refine So.n (Nat.le_of_ble_eq_true rfl) (A.v rfl (V.mv (v := .p (.bs _)) rfl ?_))
  refine So.n (Nat.le_of_ble_eq_true rfl) (A.apOwn ty22 ty5 rfl rfl rfl rfl (u := .p (.bs _)) rfl rfl (l' := b) (by simp) (mn := b.length) (by simp) (by first | rfl | omega | (simp; done) | (simp; omega)) rfl rfl rfl ?_)
  refine So.n (Nat.le_of_ble_eq_true rfl) (A.bsl 2 ty22 ty5 rfl (Nat.le_of_ble_eq_true rfl) (Nat.le_of_ble_eq_true rfl) (fun _ => rfl) rfl rfl trivial ⟨trivial, trivial⟩ rfl (N := 1) rfl (c := .bs [_]) rfl ?_)
  refine So.n (Nat.le_of_ble_eq_true rfl) (A.apOwn ty22 ty5 rfl rfl rfl rfl (u := .own 2 0 _) rfl rfl (l' := b ++ [128]) (by simp) (mn := b.length + 1) (by simp) (by first | rfl | omega | (simp; done) | (simp; omega)) rfl rfl rfl ?_)
  refine So.n (Nat.le_of_ble_eq_true rfl) (A.v rfl (V.as (v := .own 1 0 _) rfl ?_))
  refine So.e ?_
  show HT _ _ _ _ _
  refine HT.seq ?_
  refine HT.block ?_
  refine R.loop (σ := Nat) (fun s => [(3, .own 1 (0) (b.length + 1 + s))]) (fun s => [(1, ⟨5, 1, b.length + 1 + s, true, .bs (b ++ [128] ++ List.replicate s 0)⟩)]) [0, 2] [2] (fun s => s ≤ zlen b.length) (fun s => zlen b.length - s) (0) (fr0 := [(0, .p (.bs _)), (2, .p (.v (.slice none 0 0)))]) (O0 := [(2, ⟨_, _, _, _, .bs _⟩)]) rfl rfl (by first | rfl | omega | (simp; done) | (simp; omega)) ⟨⟨⟨le_own2 (by first | rfl | omega) (by first | rfl | omega | (simp; done)), rfl⟩, ⟨.refl _, trivial⟩, ⟨.refl _, trivial⟩, trivial⟩, ⟨⟨_, rfl, .inl (ob_bs (by first | rfl | ((try dsimp only); first | rfl | omega | (simp; done))) (by first | rfl | ((try dsimp only); first | rfl | omega | (simp; done)))), trivial⟩, ⟨_, rfl, .inl rfl, trivial⟩, trivial⟩⟩ (fun s hP0 => ?_)
  refine HT.seq ?_
  refine HT.seq ?_
  refine HT.region S_rsum_ok ?_
  refine So.n (Nat.le_of_ble_eq_true rfl) (A.v rfl (V.mv (v := .own 1 0 _) rfl ?_))
  refine So.n (Nat.le_of_ble_eq_true rfl) (A.v rfl (V.len ty22 (v := .own 1 0 _) rfl rfl ?_))
  refine So.n (Nat.le_of_ble_eq_true rfl) (A.v rfl (V.remI rfl rfl (by omega) ?_))
  refine So.n (Nat.le_of_ble_eq_true rfl) (A.v rfl (V.bin (a := (.v (.int .i64 _))) (b := (.v (.int .i64 (56)))) (r := .v (.bool _)) rfl rfl rfl trivial ?_))
  refine So.e ?_
  show HT _ _ _ _ _
  refine R.cond rfl rfl (fun h1 => ?_) (fun h1 => ?_)
  · have h1 := of_decide_eq_false (bnT h1)
    refine HT.skip ?_
    show HT _ _ _ _ _
    refine HT.block ?_
    refine HT.region S_rsum_ok ?_
    refine So.n (Nat.le_of_ble_eq_true rfl) (A.v rfl (V.mv (v := .own 1 0 _) rfl ?_))
    refine So.n (Nat.le_of_ble_eq_true rfl) (A.bsl 3 ty22 ty5 rfl (Nat.le_of_ble_eq_true rfl) (Nat.le_of_ble_eq_true rfl) (fun _ => rfl) rfl rfl trivial ⟨trivial, trivial⟩ rfl (N := 1) rfl (c := .bs [_]) rfl ?_)
    refine So.n (Nat.le_of_ble_eq_true rfl) (A.apOwn ty22 ty5 rfl rfl rfl rfl (u := .own 3 0 _) rfl rfl (l' := b ++ [128] ++ List.replicate (s + 1) 0) (by rw [ap_full (by simp; omega)]; simp [List.replicate_succ']) (mn := b.length + 1 + (s + 1)) (by first | omega | (simp; done) | (simp; omega)) (by first | rfl | omega | (simp; done) | (simp; omega)) rfl rfl rfl ?_)
    refine So.n (Nat.le_of_ble_eq_true rfl) (A.v rfl (V.as (v := .own 1 0 _) rfl ?_))
    refine So.e ?_
    refine ⟨s + 1, by unfold zlen at *; omega, by unfold zlen at *; omega, ⟨⟨⟨le_own2 (by first | rfl | omega) (by first | rfl | omega | (simp; done) | (simp; omega)), rfl⟩, ⟨.refl _, trivial⟩, ⟨.refl _, trivial⟩, trivial⟩, ⟨⟨_, rfl, .inl (ob_bs (by first | rfl | ((try dsimp only); first | rfl | omega | (simp; done) | (simp; omega))) (by first | rfl | ((try dsimp only); first | rfl | omega | (simp; done) | (simp; omega)))), trivial⟩, ⟨_, rfl, .inl rfl, trivial⟩, trivial⟩⟩⟩
  · have h1 := of_decide_eq_true (bnF h1)
    refine HT.exit ?_
    show HT _ _ _ _ _
    refine HT.seq ?_
    refine HT.region S_rsum_ok ?_
    have hs : s = zlen b.length := by unfold zlen at *; omega
    refine So.n (Nat.le_of_ble_eq_true rfl) (A.v rfl (V.mv (v := .p (.bs _)) rfl ?_))
    refine So.n (Nat.le_of_ble_eq_true rfl) (A.v rfl (V.len ty22 (v := .p (.bs _)) rfl rfl ?_))
    refine So.n (Nat.le_of_ble_eq_true rfl) (A.v rfl (V.cvN ty51 ty3 (a := (.v (.int .i64 _))) (r := (.u64 _)) rfl rfl ?_))
    refine So.n (Nat.le_of_ble_eq_true rfl) (A.v rfl (V.bin (a := (.u64 _)) (b := (.u64 8)) (r := .u64 _) rfl rfl rfl trivial ?_))
    refine So.n (Nat.le_of_ble_eq_true rfl) (A.v rfl (V.as (v := .p (.u64 _)) rfl ?_))
    refine So.e ?_
    show HT _ _ _ _ _
    refine HT.seq ?_
    refine HT.seq ?_
    refine HT.region S_rsum_ok ?_
    refine So.n (Nat.le_of_ble_eq_true rfl) (A.v rfl (V.as (v := .p (.v (.int .i64 (56)))) rfl ?_))
    refine So.e ?_
    show HT _ _ _ _ _
    refine HT.block ?_
    refine R.loop (σ := Nat) (fun r => [(3, .own 1 (0) (b.length + 1 + zlen b.length + r)), (5, .p (.v (.int .i64 (56 - 8 * (r : Int)))))]) (fun r => [(1, ⟨5, 1, b.length + 1 + zlen b.length + r, true, .bs (b ++ [128] ++ List.replicate (zlen b.length) 0 ++ len8 (UInt64.ofNat b.length) r)⟩)]) [2, 4] [2] (fun r => r ≤ 8) (fun r => 8 - r) (0) (fr0 := [(2, .p (.v (.slice none 0 0))), (4, .p (.u64 _))]) (O0 := [(2, ⟨_, _, _, _, .bs _⟩)]) rfl rfl (by first | rfl | omega | (simp; done) | (simp; omega)) ⟨⟨⟨le_own2 (by first | rfl | omega) (by first | rfl | omega | (rw [hs]; simp [len8]; done) | (rw [hs])), rfl⟩, ⟨le_int (by first | rfl | omega | (rw [hs]; simp [len8]; done) | (rw [hs])), trivial⟩, ⟨.refl _, trivial⟩, ⟨.refl _, trivial⟩, trivial⟩, ⟨⟨_, rfl, .inl (ob_bs (by first | rfl | ((try dsimp only); first | rfl | omega | (rw [hs]; simp [len8]; done) | (rw [hs]))) (by first | rfl | ((try dsimp only); first | rfl | omega | (rw [hs]; simp [len8]; done) | (rw [hs])))), trivial⟩, ⟨_, rfl, .inl rfl, trivial⟩, trivial⟩⟩ (fun r hP1 => ?_)
    refine HT.seq ?_
    refine HT.seq ?_
    refine HT.region S_rsum_ok ?_
    refine So.n (Nat.le_of_ble_eq_true rfl) (A.v rfl (V.mv (v := .p (.v (.int .i64 _))) rfl ?_))
    refine So.n (Nat.le_of_ble_eq_true rfl) (A.v rfl (V.bin (a := (.v (.int .i64 _))) (b := (.v (.int .i64 (0)))) (r := .v (.bool _)) rfl rfl rfl trivial ?_))
    refine So.e ?_
    show HT _ _ _ _ _
    refine R.cond rfl rfl (fun h2 => ?_) (fun h2 => ?_)
    · have h2 := of_decide_eq_true h2
      refine HT.skip ?_
      show HT _ _ _ _ _
      refine HT.seq ?_
      refine HT.block ?_
      refine HT.region S_rsum_ok ?_
      refine So.n (Nat.le_of_ble_eq_true rfl) (A.v rfl (V.mv (v := .own 1 0 _) rfl ?_))
      refine So.n (Nat.le_of_ble_eq_true rfl) (A.v rfl (V.mv (v := .p (.u64 _)) rfl ?_))
      refine So.n (Nat.le_of_ble_eq_true rfl) (A.v rfl (V.mv (v := .p (.v (.int .i64 _))) rfl ?_))
      refine So.n (Nat.le_of_ble_eq_true rfl) (A.v rfl (V.bin (a := (.u64 _)) (b := (.v (.int .i64 _))) (r := .u64 _) rfl rfl rfl (by first | rfl | omega | (simp; done) | (simp; omega)) ?_))
      refine So.n (Nat.le_of_ble_eq_true rfl) (A.v rfl (V.cvN ty5 ty51 (a := (.u64 _)) (r := (.u8 _)) rfl rfl ?_))
      refine So.n (Nat.le_of_ble_eq_true rfl) (A.bsl 3 ty22 ty5 rfl (Nat.le_of_ble_eq_true rfl) (Nat.le_of_ble_eq_true rfl) (fun _ => rfl) rfl rfl trivial ⟨trivial, trivial⟩ rfl (N := 1) rfl (c := .bs [_]) rfl ?_)
      refine So.n (Nat.le_of_ble_eq_true rfl) (A.apOwn ty22 ty5 rfl rfl rfl rfl (u := .own 3 0 _) rfl rfl (l' := b ++ [128] ++ List.replicate (zlen b.length) 0 ++ len8 (UInt64.ofNat b.length) (r + 1)) (by rw [ap_full (by simp [len8_len]; omega)]; rw [mul_shl, u64_ofInt]; simp only [len8, show (56 - 8 * (r : Int)).toNat = 56 - 8 * r by omega]; simp) (mn := b.length + 1 + zlen b.length + (r + 1)) (by first | omega | (simp; done) | (simp; omega)) (by first | rfl | omega | (simp; done) | (simp; omega)) rfl rfl rfl ?_)
      refine So.n (Nat.le_of_ble_eq_true rfl) (A.v rfl (V.as (v := .own 1 0 _) rfl ?_))
      refine So.e ?_
      show HT _ _ _ _ _
      refine HT.region S_rsum_ok ?_
      refine So.n (Nat.le_of_ble_eq_true rfl) (A.v rfl (V.mv (v := .p (.v (.int .i64 _))) rfl ?_))
      refine So.n (Nat.le_of_ble_eq_true rfl) (A.v rfl (V.subI rfl rfl (by omega) ?_))
      refine So.n (Nat.le_of_ble_eq_true rfl) (A.v rfl (V.as (v := .p (.v (.int .i64 _))) rfl ?_))
      refine So.e ?_
      refine ⟨r + 1, by first | rfl | omega | (simp; done) | (simp; omega), by omega, ⟨⟨⟨le_own2 (by first | rfl | omega) (by first | rfl | omega | (simp; done) | (simp; omega)), rfl⟩, ⟨le_int (by first | rfl | omega | (simp; done) | (simp; omega)), trivial⟩, ⟨.refl _, trivial⟩, ⟨.refl _, trivial⟩, trivial⟩, ⟨⟨_, rfl, .inl (ob_bs (by first | rfl | ((try dsimp only); first | rfl | omega | (simp; done) | (simp; omega))) (by first | rfl | ((try dsimp only); first | rfl | omega | (simp; done) | (simp; omega)))), trivial⟩, ⟨_, rfl, .inl rfl, trivial⟩, trivial⟩⟩⟩
    · have h2 := of_decide_eq_false h2
      refine HT.exit ?_
      show HT _ _ _ _ _
      refine HT.seq ?_
      refine HT.region S_rsum_ok ?_
      refine So.n (Nat.le_of_ble_eq_true rfl) (A.bldA ty48 rfl rfl ⟨by first | exact trivial | (intro j hj; first | trivial | rfl | (simp [BV.one]; done)), by first | exact trivial | (intro j hj; first | trivial | rfl | (simp [BV.one]; done)), by first | exact trivial | (intro j hj; first | trivial | rfl | (simp [BV.one]; done)), by first | exact trivial | (intro j hj; first | trivial | rfl | (simp [BV.one]; done)), by first | exact trivial | (intro j hj; first | trivial | rfl | (simp [BV.one]; done)), by first | exact trivial | (intro j hj; first | trivial | rfl | (simp [BV.one]; done)), by first | exact trivial | (intro j hj; first | trivial | rfl | (simp [BV.one]; done)), by first | exact trivial | (intro j hj; first | trivial | rfl | (simp [BV.one]; done)), trivial⟩ rfl (f := fun j => .u32 (h0 j)) (by exact allP_spec (P := fun j => _ = _) ⟨⟨⟨⟨⟨⟨⟨⟨trivial, rfl⟩, rfl⟩, rfl⟩, rfl⟩, rfl⟩, rfl⟩, rfl⟩, rfl⟩) ?_)
      refine So.n (Nat.le_of_ble_eq_true rfl) (A.alloc 3 1 ty48 rfl trivial (f := fun _ => .u32 0) (fun _ _ => rfl) ?_)
      refine So.s (A.stoAg ty48 rfl (n := 8) rfl (by decide) (by intro j hj; first | rfl | trivial | (match j, hj with | 0, _ => trivial | 1, _ => trivial | 2, _ => trivial | 3, _ => trivial | 4, _ => trivial | 5, _ => trivial | 6, _ => trivial | 7, _ => trivial)) rfl rfl rfl ?_)
      refine So.e ?_
      show HT _ _ _ _ _
      refine HT.seq ?_
      refine HT.seq ?_
      refine HT.region S_rsum_ok ?_
      refine So.n (Nat.le_of_ble_eq_true rfl) (A.v rfl (V.as (v := .p (.v (.int .i64 (0)))) rfl ?_))
      refine So.e ?_
      show HT _ _ _ _ _
      refine HT.block ?_
      refine R.loop (σ := Nat) (fun q => [(3, .own 1 (0) ((ptx b).length)), (7, .p (.v (.int .i64 (64 * (q : Int)))))]) (fun q => [(1, ⟨5, 1, (ptx b).length, true, .bs (ptx b)⟩), (3, ⟨48, 1, 8, true, .rows (fun j => .u32 (stN (ptx b) q j))⟩)]) [2, 6] [2] (fun q => 64 * q ≤ (ptx b).length) (fun q => (ptx b).length - 64 * q) (0) (fr0 := [(2, .p (.v (.slice none 0 0))), (6, .ptr 3 0)]) (O0 := [(2, ⟨_, _, _, _, .bs _⟩)]) rfl rfl (by omega) ⟨⟨⟨le_own2 (by first | rfl | omega) (by first | rfl | omega | (intro j hj; rfl) | (replace hP1 : r = 8 := (by omega); subst hP1; simp [ptx, pad]; done)), rfl⟩, ⟨le_int (by first | rfl | omega | (intro j hj; rfl) | (replace hP1 : r = 8 := (by omega); subst hP1; simp [ptx, pad]; done)), trivial⟩, ⟨.refl _, trivial⟩, ⟨.refl _, rfl⟩, trivial⟩, ⟨⟨_, rfl, .inl (ob_bs (by first | rfl | ((try dsimp only); first | rfl | omega | (intro j hj; rfl) | (replace hP1 : r = 8 := (by omega); subst hP1; simp [ptx, pad]; done))) (by first | rfl | ((try dsimp only); first | rfl | omega | (intro j hj; rfl) | (replace hP1 : r = 8 := (by omega); subst hP1; simp [ptx, pad]; done)))), trivial⟩, ⟨_, rfl, .inr (ob_rows (by first | rfl | ((try dsimp only); first | rfl | omega | (intro j hj; rfl) | (replace hP1 : r = 8 := (by omega); subst hP1; simp [ptx, pad]; done))) (by first | rfl | ((try dsimp only); first | rfl | omega | (intro j hj; rfl) | (replace hP1 : r = 8 := (by omega); subst hP1; simp [ptx, pad]; done)))), trivial⟩, ⟨_, rfl, .inl rfl, trivial⟩, trivial⟩⟩ (fun q hP2 => ?_)
      refine HT.seq ?_
      refine HT.seq ?_
      refine HT.region S_rsum_ok ?_
      refine So.n (Nat.le_of_ble_eq_true rfl) (A.v rfl (V.mv (v := .p (.v (.int .i64 _))) rfl ?_))
      refine So.n (Nat.le_of_ble_eq_true rfl) (A.v rfl (V.mv (v := .own 1 0 _) rfl ?_))
      refine So.n (Nat.le_of_ble_eq_true rfl) (A.v rfl (V.len ty22 (v := .own 1 0 _) rfl rfl ?_))
      refine So.n (Nat.le_of_ble_eq_true rfl) (A.v rfl (V.bin (a := (.v (.int .i64 _))) (b := (.v (.int .i64 _))) (r := .v (.bool _)) rfl rfl rfl trivial ?_))
      refine So.e ?_
      show HT _ _ _ _ _
      refine R.cond rfl rfl (fun h3 => ?_) (fun h3 => ?_)
      · have h3 := of_decide_eq_true h3
        refine HT.skip ?_
        show HT _ _ _ _ _
        refine HT.seq ?_
        refine HT.block ?_
        refine HT.tail S_rsum_ok mixed 6 (by kernel_rfl) (by kernel_rfl) ?_
        refine So.n (Nat.le_of_ble_eq_true rfl) (A.v rfl (V.ldPtrA ty48 rfl rfl rfl rfl (by first | rfl | omega | (simp; done) | (simp; omega)) ?_))
        refine So.n (Nat.le_of_ble_eq_true rfl) (A.v rfl (V.mv (v := .own 1 0 _) rfl ?_))
        refine So.n (Nat.le_of_ble_eq_true rfl) (A.v rfl (V.mv (v := .p (.v (.int .i64 _))) rfl ?_))
        refine So.n (Nat.le_of_ble_eq_true rfl) (A.v rfl (V.mv (v := .p (.v (.int .i64 _))) rfl ?_))
        refine So.n (Nat.le_of_ble_eq_true rfl) (A.v rfl (V.addI rfl rfl (by omega) ?_))
        refine So.n (Nat.le_of_ble_eq_true rfl) (A.v rfl (V.cutOwn ty22 ty5 rfl rfl rfl rfl rfl (by omega) (.inl rfl) ?_))
        refine So.n (Nat.le_of_ble_eq_true rfl) (A.call0 [.agg 8 _, .p (.bs _)] 4 rfl rfl rfl rfl ⟨trivial, trivial, trivial⟩ trivial (_, _) ⟨.refl _, .refl _, trivial⟩ trivial (by first | omega | (simp; done) | (simp; omega)) (Φ := fun _ => True) (fun _ _ => trivial) (.inr ⟨(fun _ _ => trivial), by simp [Hp.scal, OC.scal, PV.scal, BV.scal]⟩) (v := .agg 8 _) rfl (O' := _) rfl (fun h4 => ?_))
        refine So.s (A.stoAg ty48 rfl (n := 8) rfl (by decide) (by intro j hj; first | rfl | trivial | (match j, hj with | 0, _ => trivial | 1, _ => trivial | 2, _ => trivial | 3, _ => trivial | 4, _ => trivial | 5, _ => trivial | 6, _ => trivial | 7, _ => trivial)) rfl rfl rfl ?_)
        refine So.e ?_
        show HT _ _ _ _ _
        refine HT.region S_rsum_ok ?_
        refine So.n (Nat.le_of_ble_eq_true rfl) (A.v rfl (V.mv (v := .p (.v (.int .i64 _))) rfl ?_))
        refine So.n (Nat.le_of_ble_eq_true rfl) (A.v rfl (V.addI rfl rfl (by omega) ?_))
        refine So.n (Nat.le_of_ble_eq_true rfl) (A.v rfl (V.as (v := .p (.v (.int .i64 _))) rfl ?_))
        refine So.e ?_
        refine ⟨q + 1, by first | rfl | omega | (simp; done) | (simp; omega), by omega, ⟨⟨⟨le_own2 (by first | rfl | omega) (by first | rfl | omega | (simp; done) | (simp; omega)), rfl⟩, ⟨le_int (by first | rfl | omega | (simp; done) | (simp; omega)), trivial⟩, ⟨.refl _, trivial⟩, ⟨.refl _, rfl⟩, trivial⟩, ⟨⟨_, rfl, .inl (ob_bs (by first | rfl | ((try dsimp only); first | rfl | omega | (simp; done) | (simp; omega))) (by first | rfl | ((try dsimp only); first | rfl | omega | (simp; done) | (simp; omega)))), trivial⟩, ⟨_, rfl, .inr (ob_rows (by first | (intro j hj; simp only [Nat.zero_add, Nat.mul_one, show (64 * (q : Int) + 64).toNat - (64 * (q : Int)).toNat = 64 by omega, show (64 * (q : Int)).toNat = 64 * q by omega]; exact congrArg PV.u32 (rs_1 (by omega) j)) | rfl) (by first | (intro j hj; simp only [Nat.zero_add, Nat.mul_one, show (64 * (q : Int) + 64).toNat - (64 * (q : Int)).toNat = 64 by omega, show (64 * (q : Int)).toNat = 64 * q by omega]; exact congrArg PV.u32 (rs_1 (by omega) j)) | rfl)), trivial⟩, ⟨_, rfl, .inl rfl, trivial⟩, trivial⟩⟩⟩
      · have h3 := of_decide_eq_false h3
        refine HT.exit ?_
        show HT _ _ _ _ _
        refine HT.seq ?_
        refine HT.region S_rsum_ok ?_
        refine So.n (Nat.le_of_ble_eq_true rfl) (A.v rfl (V.as (v := .p (.v (.slice none 0 0))) rfl ?_))
        refine So.e ?_
        show HT _ _ _ _ _
        refine HT.seq ?_
        refine HT.seq ?_
        refine HT.region S_rsum_ok ?_
        refine So.n (Nat.le_of_ble_eq_true rfl) (A.v rfl (V.as (v := .p (.v (.int .i64 (0)))) rfl ?_))
        refine So.e ?_
        show HT _ _ _ _ _
        refine HT.block ?_
        refine R.phan 8 6 5 1 (.bs []) rfl rfl rfl ⟨rfl, rfl⟩ ?_
        refine R.loop (σ := Nat) (fun r => [(8, .own 6 (0) (4 * r)), (9, .p (.v (.int .i64 ((r : Int)))))]) (fun r => [(6, ⟨5, 1, 4 * r, true, .bs (outN (stN (ptx b) q) r)⟩)]) [2, 6] [1, 2, 3] (fun r => r ≤ 8) (fun r => 8 - r) (0) (fr0 := [(2, .p (.v (.slice none 0 0))), (6, .ptr 3 0)]) (O0 := [(1, ⟨_, _, _, _, .bs _⟩), (2, ⟨_, _, _, _, .bs _⟩), (3, ⟨_, _, _, _, .rows _⟩)]) rfl rfl (by first | rfl | omega | (simp; done) | (simp; omega)) ⟨⟨⟨le_own2 (by first | rfl | omega) (by first | rfl | omega), rfl⟩, ⟨le_int (by first | rfl | omega), trivial⟩, ⟨.refl _, trivial⟩, ⟨.refl _, rfl⟩, trivial⟩, ⟨⟨_, rfl, .inl (ob_bs (by first | rfl | ((try dsimp only); first | rfl | omega)) (by first | rfl | ((try dsimp only); first | rfl | omega))), trivial⟩, ⟨_, rfl, .inl rfl, trivial⟩, ⟨_, rfl, .inl rfl, trivial⟩, ⟨_, rfl, .inl rfl, trivial⟩, trivial⟩⟩ (fun r hP3 => ?_)
        refine HT.seq ?_
        refine HT.seq ?_
        refine HT.region S_rsum_ok ?_
        refine So.n (Nat.le_of_ble_eq_true rfl) (A.v rfl (V.mv (v := .p (.v (.int .i64 ((_ : Nat) : Int)))) rfl ?_))
        refine So.n (Nat.le_of_ble_eq_true rfl) (A.v rfl (V.bin (a := (.v (.int .i64 ((_ : Nat) : Int)))) (b := (.v (.int .i64 (8)))) (r := .v (.bool _)) rfl rfl rfl trivial ?_))
        refine So.e ?_
        show HT _ _ _ _ _
        refine R.cond rfl rfl (fun h5 => ?_) (fun h5 => ?_)
        · have h5 := of_decide_eq_true h5
          refine HT.skip ?_
          show HT _ _ _ _ _
          refine HT.seq ?_
          refine HT.block ?_
          refine HT.planS S_rsum_ok S_rsum_det mixed [22] [⟨[0, 1, 2, 3, 4, 5, 6, 7, 8, 9, 10, 11, 12, 13, 14, 15, 16, 17, 18, 19], 20, [0]⟩, ⟨[0], 21, []⟩] (by kernel_rfl) ?_
          refine Pl.lk ?_
          refine Si.n rfl (Nat.le_of_ble_eq_true rfl) (V.mv (v := .own 6 0 _) rfl ?_)
          refine Si.n rfl (Nat.le_of_ble_eq_true rfl) (V.mv (v := .p (.v (.int .i64 ((_ : Nat) : Int)))) rfl ?_)
          refine Si.n rfl (Nat.le_of_ble_eq_true rfl) (V.ixArrP10 (mi := r) ty48 ty47 rfl rfl rfl (by first | rfl | omega | (simp; done) | (simp; omega)) rfl (by omega) (by omega) ?_)
          refine Si.n rfl (Nat.le_of_ble_eq_true rfl) (V.ldPtr ty47 rfl rfl rfl (by first | rfl | omega | (simp; done) | (simp; omega)) (v := .p (.u32 _)) rfl ?_)
          refine Si.n rfl (Nat.le_of_ble_eq_true rfl) (V.shrC (n := 24) (a := (.u32 _)) (b := (.u64 24)) (r := .u32 (u32Shr _ 24)) rfl rfl rfl rfl ?_)
          refine Si.n rfl (Nat.le_of_ble_eq_true rfl) (V.cvN ty5 ty47 (a := (.u32 _)) (r := (.u8 _)) rfl rfl ?_)
          refine Si.n rfl (Nat.le_of_ble_eq_true rfl) (V.mv (v := .p (.v (.int .i64 ((_ : Nat) : Int)))) rfl ?_)
          refine Si.n rfl (Nat.le_of_ble_eq_true rfl) (V.ixArrP10 (mi := r) ty48 ty47 rfl rfl rfl (by first | rfl | omega | (simp; done) | (simp; omega)) rfl (by omega) (by omega) ?_)
          refine Si.n rfl (Nat.le_of_ble_eq_true rfl) (V.ldPtr ty47 rfl rfl rfl (by first | rfl | omega | (simp; done) | (simp; omega)) (v := .p (.u32 _)) rfl ?_)
          refine Si.n rfl (Nat.le_of_ble_eq_true rfl) (V.shrC (n := 16) (a := (.u32 _)) (b := (.u64 16)) (r := .u32 (u32Shr _ 16)) rfl rfl rfl rfl ?_)
          refine Si.n rfl (Nat.le_of_ble_eq_true rfl) (V.cvN ty5 ty47 (a := (.u32 _)) (r := (.u8 _)) rfl rfl ?_)
          refine Si.n rfl (Nat.le_of_ble_eq_true rfl) (V.mv (v := .p (.v (.int .i64 ((_ : Nat) : Int)))) rfl ?_)
          refine Si.n rfl (Nat.le_of_ble_eq_true rfl) (V.ixArrP10 (mi := r) ty48 ty47 rfl rfl rfl (by first | rfl | omega | (simp; done) | (simp; omega)) rfl (by omega) (by omega) ?_)
          refine Si.n rfl (Nat.le_of_ble_eq_true rfl) (V.ldPtr ty47 rfl rfl rfl (by first | rfl | omega | (simp; done) | (simp; omega)) (v := .p (.u32 _)) rfl ?_)
          refine Si.n rfl (Nat.le_of_ble_eq_true rfl) (V.shrC (n := 8) (a := (.u32 _)) (b := (.u64 8)) (r := .u32 (u32Shr _ 8)) rfl rfl rfl rfl ?_)
          refine Si.n rfl (Nat.le_of_ble_eq_true rfl) (V.cvN ty5 ty47 (a := (.u32 _)) (r := (.u8 _)) rfl rfl ?_)
          refine Si.n rfl (Nat.le_of_ble_eq_true rfl) (V.mv (v := .p (.v (.int .i64 ((_ : Nat) : Int)))) rfl ?_)
          refine Si.n rfl (Nat.le_of_ble_eq_true rfl) (V.ixArrP10 (mi := r) ty48 ty47 rfl rfl rfl (by first | rfl | omega | (simp; done) | (simp; omega)) rfl (by omega) (by omega) ?_)
          refine Si.n rfl (Nat.le_of_ble_eq_true rfl) (V.ldPtr ty47 rfl rfl rfl (by first | rfl | omega | (simp; done) | (simp; omega)) (v := .p (.u32 _)) rfl ?_)
          refine Si.n rfl (Nat.le_of_ble_eq_true rfl) (V.cvN ty5 ty47 (a := (.u32 _)) (r := (.u8 _)) rfl rfl ?_)
          refine Si.e ?_
          refine ⟨flEq_nil, fun ff => ?_⟩
          refine Lo.n rfl (Nat.le_of_ble_eq_true rfl) (A.bsl 7 ty22 ty5 rfl (Nat.le_of_ble_eq_true rfl) (Nat.le_of_ble_eq_true rfl) (fun _ => rfl) rfl rfl trivial ⟨trivial, trivial, trivial, trivial, trivial⟩ rfl (N := 4) rfl (c := .bs [_, _, _, _]) rfl ?_)
          refine ⟨_, fun ff => ff, ap0d, rfl, FG.id, ?_⟩
          refine Pl.l0 ?_
          refine Si.n rfl (Nat.le_of_ble_eq_true rfl) (V.mv (v := .own 6 0 _) rfl ?_)
          refine Si.e ?_
          refine ⟨(flEq_cons rfl flEq_nil), ?_⟩
          refine Lo.n rfl (Nat.le_of_ble_eq_true rfl) (A.apOwn ty22 ty5 rfl rfl rfl rfl (u := .own 7 0 _) rfl rfl (l' := outN (stN (ptx b) q) (r + 1)) (by rw [ap_full (by rw [outN_len]; omega)]; simp [outN, w4]) (mn := 4 * (r + 1)) (by first | omega | (simp; done) | (simp; omega)) (by first | rfl | omega | (simp; done) | (simp; omega)) rfl rfl rfl ?_)
          refine Pl.e ?_
          refine Si.n rfl (Nat.le_of_ble_eq_true rfl) (V.as (v := .own 6 0 _) rfl ?_)
          refine Si.e ?_
          refine ⟨flEq_nil, ?_⟩
          show HT _ _ _ _ _
          refine HT.region S_rsum_ok ?_
          refine So.n (Nat.le_of_ble_eq_true rfl) (A.v rfl (V.mv (v := .p (.v (.int .i64 ((_ : Nat) : Int)))) rfl ?_))
          refine So.n (Nat.le_of_ble_eq_true rfl) (A.v rfl (V.addI rfl rfl (by omega) ?_))
          refine So.n (Nat.le_of_ble_eq_true rfl) (A.v rfl (V.as (v := .p (.v (.int .i64 _))) rfl ?_))
          refine So.e ?_
          refine ⟨r + 1, by first | rfl | omega | (simp; done) | (simp; omega), by omega, ⟨⟨⟨le_own2 (by first | rfl | omega) (by first | rfl | omega | (simp; done) | (simp; omega)), rfl⟩, ⟨le_int (by first | rfl | omega | (simp; done) | (simp; omega)), trivial⟩, ⟨.refl _, trivial⟩, ⟨.refl _, rfl⟩, trivial⟩, ⟨⟨_, rfl, .inl (ob_bs (by first | rfl | ((try dsimp only); first | rfl | omega | (simp; done) | (simp; omega))) (by first | rfl | ((try dsimp only); first | rfl | omega | (simp; done) | (simp; omega)))), trivial⟩, ⟨_, rfl, .inl rfl, trivial⟩, ⟨_, rfl, .inl rfl, trivial⟩, ⟨_, rfl, .inl rfl, trivial⟩, trivial⟩⟩⟩
        · have h5 := of_decide_eq_false h5
          refine HT.exit ?_
          show HT _ _ _ _ _
          refine HT.seq ?_
          refine HT.region S_rsum_ok ?_
          refine So.n (Nat.le_of_ble_eq_true rfl) (A.v rfl (V.mv (v := .own 6 0 _) rfl ?_))
          refine So.n (Nat.le_of_ble_eq_true rfl) (A.v rfl (V.as (v := .own 6 0 _) rfl ?_))
          refine So.e ?_
          show HT _ _ _ _ _
          refine HT.ret ?_
          exact ret_ok (sg [(2, 6)]) h rfl rfl rfl ⟨trivial, trivial⟩ ⟨rfl, trivial⟩ rfl ⟨⟨⟨le_own2 (by first | rfl | omega) (by first | rfl | (replace hP3 : r = 8 := (by omega); subst hP3; first | rfl | (unfold sha; rw [show (ptx b).length / 64 = q by omega]))), rfl⟩, trivial⟩, ⟨⟨_, rfl, .inl (ob_bs (by first | rfl | ((try dsimp only); (first | rfl | (replace hP3 : r = 8 := (by omega); subst hP3; first | rfl | (unfold sha; rw [show (ptx b).length / 64 = q by omega]))))) (by first | rfl | ((try dsimp only); (first | rfl | (replace hP3 : r = 8 := (by omega); subst hP3; first | rfl | (unfold sha; rw [show (ptx b).length / 64 = q by omega])))))), trivial⟩, trivial⟩⟩

end Go.Vh

set_option linter.unusedVariables false
set_option linter.unusedSimpArgs false
namespace Go.Vh
open Go Go.Vc Go.Proofs

/-! ### sodality/sodalityref03.Mac -/
def rmacSp : Sp := ⟨[], mkE (α := (List UInt8) × (List UInt8)) (fun (k, t) => [.p (.bs (k)), .p (.bs (t))]) (fun (k, t) => []) (fun (k, t) => k.length ≤ 1000000000 ∧ t.length ≤ 1000000000) (fun (k, t) => [.own 2 (0) (32)]) (fun (k, t) => [(2, ⟨5, 1, 32, true, .bs (mac k t)⟩)])⟩
def S_rmac : FuncId → Option Sp := fun f => if f = 30 then some rsumSp else none
theorem S_rmac_ok : ∀ f s, S_rmac f = some s → FOK Tryd.prog gl f s := fun f s h => by
  unfold S_rmac at h
  split at h
  · rename_i e; cases h; subst e; exact rsum_ok
  cases h
theorem S_rmac_det : ∀ f s, S_rmac f = some s → SpDet s.sp := fun f s h => by
  unfold S_rmac at h
  split at h
  · cases h; exact mkE_det _ _ _ _ _
  cases h
set_option maxHeartbeats 1000000 in
set_option maxRecDepth 20000 in
theorem rmac_ok : FOK Tryd.prog gl 17 rmacSp := by
  refine FOK.ofE (tyOf_ok Tryd.prog) (slots := [4]) (nt := 47) Tryd.func17 rfl rfl rfl rfl (by decide) 2 (fun ⟨_, _⟩ => rfl) (by decide) (fun ⟨_, _⟩ => ⟨trivial, trivial, trivial⟩) ?_
  rintro ⟨k, t⟩ kk hlen hpre h
  have hl0 : (k).length ≤ 9223372036854775807 := hlen.1
  have hl1 : (t).length ≤ 9223372036854775807 := hlen.2.1
  replace hpre : k.length ≤ 1000000000 ∧ t.length ≤ 1000000000 := hpre
  show HT (cx Tryd.prog 47 (tyOf Tryd.prog) gl []) _ [(0, .p (.bs (k))), (1, .p (.bs (t)))] [] _
  have hk0 := key0_le k
  have hp1 := padF_len (key0 k) 54
  have hp2 := padF_len (key0 k) 92
  have hs0 := sha_len (padF (key0 k) 54 ++ t)
  refine HT.seq ?_
  refine HT.region S_rmac_ok ?_
  refine So.n (Nat.le_of_ble_eq_true rfl) (A.v rfl (V.as (v := .p (.v (.slice none 0 0))) rfl ?_))
  refine So.e ?_
  show HT _ _ _ _ _
  refine HT.seq ?_
  refine HT.region S_rmac_ok ?_
  refine So.n (Nat.le_of_ble_eq_true rfl) (A.bsl 1 ty22 ty5 rfl (Nat.le_of_ble_eq_true rfl) (Nat.le_of_ble_eq_true rfl) (fun _ => rfl) rfl rfl trivial trivial rfl (N := 0) rfl (c := .bs []) rfl ?_)
  refine So.n (Nat.le_of_ble_eq_true rfl) (A.v rfl (V.mv (v := .p (.bs _)) rfl ?_))
  refine So.n (Nat.le_of_ble_eq_true rfl) (A.apOwn ty22 ty5 rfl rfl rfl rfl (u := .p (.bs _)) rfl rfl (l' := k) (by simp) (mn := k.length) (by simp) (by first | rfl | omega | (simp; done) | (simp; omega)) rfl rfl rfl ?_)
  refine So.n (Nat.le_of_ble_eq_true rfl) (A.v rfl (V.as (v := .own 1 0 _) rfl ?_))
  refine So.e ?_
  show HT _ _ _ _ _
  refine HT.frzS 1 rfl rfl rfl ?_
  show HT _ _ _ _ _
  refine R.cut (True) [(5, .p (.bs (key0 k)))] [] [1, 4] [] (fr0 := [(1, .p (.bs _)), (4, .p (.v (.slice none 0 0)))]) (O0 := []) rfl rfl ?_ (fun hphi => ?_)
  · refine HT.seq ?_
    refine R.tell [(5, .p (.bs (k)))] [] [1, 4] [] (fr0 := [(1, .p (.bs _)), (4, .p (.v (.slice none 0 0)))]) (O0 := []) rfl rfl ⟨⟨⟨le_bs (by first | rfl | exact take_full _), trivial⟩, ⟨.refl _, trivial⟩, ⟨.refl _, trivial⟩, trivial⟩, trivial⟩ ?_
    show HT _ _ _ _ _
    refine HT.region S_rmac_ok ?_
    refine So.n (Nat.le_of_ble_eq_true rfl) (A.v rfl (V.mv (v := .p (.bs _)) rfl ?_))
    refine So.n (Nat.le_of_ble_eq_true rfl) (A.v rfl (V.len ty22 (v := .p (.bs _)) rfl rfl ?_))
    refine So.n (Nat.le_of_ble_eq_true rfl) (A.v rfl (V.bin (a := (.v (.int .i64 _))) (b := (.v (.int .i64 (64)))) (r := .v (.bool _)) rfl rfl rfl trivial ?_))
    refine So.e ?_
    show HT _ _ _ _ _
    refine R.cond rfl rfl (fun h1 => ?_) (fun h1 => ?_)
    · have h1 := of_decide_eq_true h1
      refine HT.region S_rmac_ok ?_
      refine So.n (Nat.le_of_ble_eq_true rfl) (A.v rfl (V.mv (v := .p (.bs _)) rfl ?_))
      refine So.n (Nat.le_of_ble_eq_true rfl) (A.call0F S_rmac_ok [.p (.bs _)] 1 rfl rfl rfl rfl ⟨trivial, trivial⟩ trivial _ ⟨.refl _, trivial⟩ trivial (by first | omega | (simp; done) | (simp; omega)) (Φ := fun _ => True) (fun _ _ => trivial) (.inl rfl) (t := 3) (off := 0) rfl (O' := (3, ⟨5, 1, _, true, .bs _⟩) :: _) rfl rfl rfl (y := .p (.bs _)) rfl rfl (fun h2 => ?_))
      refine So.n (Nat.le_of_ble_eq_true rfl) (A.v rfl (V.as (v := .p (.bs _)) rfl ?_))
      refine So.e ?_
      exact ⟨by first | trivial | (unfold key0; rw [if_pos (by omega)]; rfl) | (unfold key0; rw [if_pos (by omega), ap_sha k]; done) | (unfold key0; rw [if_neg (by omega)]; done) | (unfold key0; rw [if_neg (by omega)]; simp; done), ⟨⟨⟨le_bs (by first | trivial | (unfold key0; rw [if_pos (by omega)]; rfl) | (unfold key0; rw [if_pos (by omega), ap_sha k]; done) | (unfold key0; rw [if_neg (by omega)]; done) | (unfold key0; rw [if_neg (by omega)]; simp; done)), trivial⟩, ⟨.refl _, trivial⟩, ⟨.refl _, trivial⟩, trivial⟩, trivial⟩⟩
    · have h1 := of_decide_eq_false h1
      refine HT.skip ?_
      exact ⟨by first | trivial | (unfold key0; rw [if_pos (by omega)]; rfl) | (unfold key0; rw [if_pos (by omega), ap_sha k]; done) | (unfold key0; rw [if_neg (by omega)]; done) | (unfold key0; rw [if_neg (by omega)]; simp; done), ⟨⟨⟨le_bs (by first | trivial | (unfold key0; rw [if_pos (by omega)]; rfl) | (unfold key0; rw [if_pos (by omega), ap_sha k]; done) | (unfold key0; rw [if_neg (by omega)]; done) | (unfold key0; rw [if_neg (by omega)]; simp; done)), trivial⟩, ⟨.refl _, trivial⟩, ⟨.refl _, trivial⟩, trivial⟩, trivial⟩⟩
  · refine HT.seq ?_
    refine HT.region S_rmac_ok ?_
    refine So.n (Nat.le_of_ble_eq_true rfl) (A.v rfl (V.as (v := .p (.v (.slice none 0 0))) rfl ?_))
    refine So.e ?_
    show HT _ _ _ _ _
    refine HT.seq ?_
    refine HT.region S_rmac_ok ?_
    refine So.n (Nat.le_of_ble_eq_true rfl) (A.v rfl (V.as (v := .p (.v (.slice none 0 0))) rfl ?_))
    refine So.e ?_
    show HT _ _ _ _ _
    refine HT.seq ?_
    refine HT.seq ?_
    refine HT.region S_rmac_ok ?_
    refine So.n (Nat.le_of_ble_eq_true rfl) (A.v rfl (V.as (v := .p (.v (.int .i64 (0)))) rfl ?_))
    refine So.e ?_
    show HT _ _ _ _ _
    refine HT.block ?_
    refine R.phan 6 6 5 1 (.bs []) rfl rfl rfl ⟨rfl, rfl⟩ ?_
    refine R.phan 7 7 5 1 (.bs []) rfl rfl rfl ⟨rfl, rfl⟩ ?_
    refine R.loop (σ := Nat) (fun s => [(6, .own 6 (0) (s)), (7, .own 7 (0) (s)), (8, .p (.v (.int .i64 ((s : Int)))))]) (fun s => [(6, ⟨5, 1, s, true, .bs (padN (key0 k) 54 s)⟩), (7, ⟨5, 1, s, true, .bs (padN (key0 k) 92 s)⟩)]) [1, 4, 5] [] (fun s => s ≤ 64) (fun s => 64 - s) (0) (fr0 := [(1, .p (.bs _)), (4, .p (.v (.slice none 0 0))), (5, .p (.bs _))]) (O0 := []) rfl rfl (by first | rfl | omega | (simp; done) | (simp; omega)) ⟨⟨⟨le_own2 (by first | rfl | omega) (by first | rfl | omega), rfl⟩, ⟨le_own2 (by first | rfl | omega) (by first | rfl | omega), rfl⟩, ⟨le_int (by first | rfl | omega), trivial⟩, ⟨.refl _, trivial⟩, ⟨.refl _, trivial⟩, ⟨.refl _, trivial⟩, trivial⟩, ⟨⟨_, rfl, .inl (ob_bs (by first | rfl | ((try dsimp only); first | rfl | omega)) (by first | rfl | ((try dsimp only); first | rfl | omega))), trivial⟩, ⟨_, rfl, .inl (ob_bs (by first | rfl | ((try dsimp only); first | rfl | omega)) (by first | rfl | ((try dsimp only); first | rfl | omega))), trivial⟩, trivial⟩⟩ (fun s hP0 => ?_)
    refine HT.seq ?_
    refine HT.seq ?_
    refine HT.region S_rmac_ok ?_
    refine So.n (Nat.le_of_ble_eq_true rfl) (A.v rfl (V.mv (v := .p (.v (.int .i64 ((_ : Nat) : Int)))) rfl ?_))
    refine So.n (Nat.le_of_ble_eq_true rfl) (A.v rfl (V.bin (a := (.v (.int .i64 ((_ : Nat) : Int)))) (b := (.v (.int .i64 (64)))) (r := .v (.bool _)) rfl rfl rfl trivial ?_))
    refine So.e ?_
    show HT _ _ _ _ _
    refine R.cond rfl rfl (fun h3 => ?_) (fun h3 => ?_)
    · have h3 := of_decide_eq_true h3
      refine HT.skip ?_
      show HT _ _ _ _ _
      refine HT.seq ?_
      refine HT.block ?_
      refine HT.seq ?_
      refine HT.region S_rmac_ok ?_
      refine So.n (Nat.le_of_ble_eq_true rfl) (A.v rfl (V.as (v := .p (.u8 0)) rfl ?_))
      refine So.e ?_
      show HT _ _ _ _ _
      refine R.cut (True) [(9, .p (.u8 ((key0 k).getD s 0)))] [] [1, 4, 5, 6, 7, 8, 18, 19] [6, 7] (fr0 := [(1, .p (.bs _)), (4, .p (.v (.slice none 0 0))), (5, .p (.bs _)), (6, .own 6 0 _), (7, .own 7 0 _), (8, .p (.v (.int .i64 ((_ : Nat) : Int)))), (18, .p (.v (.int .i64 ((_ : Nat) : Int)))), (19, .p (.v (.bool true)))]) (O0 := [(6, ⟨_, _, _, _, .bs _⟩), (7, ⟨_, _, _, _, .bs _⟩)]) rfl rfl ?_ (fun hphi => ?_)
      · refine HT.seq ?_
        refine HT.region S_rmac_ok ?_
        refine So.n (Nat.le_of_ble_eq_true rfl) (A.v rfl (V.mv (v := .p (.v (.int .i64 ((_ : Nat) : Int)))) rfl ?_))
        refine So.n (Nat.le_of_ble_eq_true rfl) (A.v rfl (V.mv (v := .p (.bs _)) rfl ?_))
        refine So.n (Nat.le_of_ble_eq_true rfl) (A.v rfl (V.len ty22 (v := .p (.bs _)) rfl rfl ?_))
        refine So.n (Nat.le_of_ble_eq_true rfl) (A.v rfl (V.bin (a := (.v (.int .i64 ((_ : Nat) : Int)))) (b := (.v (.int .i64 _))) (r := .v (.bool _)) rfl rfl rfl trivial ?_))
        refine So.e ?_
        show HT _ _ _ _ _
        refine R.cond rfl rfl (fun h4 => ?_) (fun h4 => ?_)
        · have h4 := of_decide_eq_true h4
          refine HT.region S_rmac_ok ?_
          refine So.n (Nat.le_of_ble_eq_true rfl) (A.v rfl (V.mv (v := .p (.bs _)) rfl ?_))
          refine So.n (Nat.le_of_ble_eq_true rfl) (A.v rfl (V.mv (v := .p (.v (.int .i64 ((_ : Nat) : Int)))) rfl ?_))
          refine So.n (Nat.le_of_ble_eq_true rfl) (A.v rfl (V.ixBs (mi := s) ty22 ty5 rfl rfl rfl (by omega) (by omega) ?_))
          refine So.n (Nat.le_of_ble_eq_true rfl) (A.v rfl (V.ldRp ty5 rfl rfl (Nat.le_of_ble_eq_true rfl) (v := (.u8 _)) rfl ?_))
          refine So.n (Nat.le_of_ble_eq_true rfl) (A.v rfl (V.as (v := .p (.u8 _)) rfl ?_))
          refine So.e ?_
          exact ⟨by first | rfl | trivial | (rw [List.getD_eq_getElem?_getD, List.getElem?_eq_none (by omega)]; rfl), ⟨⟨⟨le_u8 (by first | rfl | trivial | (rw [List.getD_eq_getElem?_getD, List.getElem?_eq_none (by omega)]; rfl)), trivial⟩, ⟨.refl _, trivial⟩, ⟨.refl _, trivial⟩, ⟨.refl _, trivial⟩, ⟨.refl _, rfl⟩, ⟨.refl _, rfl⟩, ⟨.refl _, trivial⟩, ⟨.refl _, trivial⟩, ⟨.refl _, trivial⟩, trivial⟩, ⟨⟨_, rfl, .inl rfl, trivial⟩, ⟨_, rfl, .inl rfl, trivial⟩, trivial⟩⟩⟩
        · have h4 := of_decide_eq_false h4
          refine HT.skip ?_
          exact ⟨by first | rfl | trivial | (rw [List.getD_eq_getElem?_getD, List.getElem?_eq_none (by omega)]; rfl), ⟨⟨⟨le_u8 (by first | rfl | trivial | (rw [List.getD_eq_getElem?_getD, List.getElem?_eq_none (by omega)]; rfl)), trivial⟩, ⟨.refl _, trivial⟩, ⟨.refl _, trivial⟩, ⟨.refl _, trivial⟩, ⟨.refl _, rfl⟩, ⟨.refl _, rfl⟩, ⟨.refl _, trivial⟩, ⟨.refl _, trivial⟩, ⟨.refl _, trivial⟩, trivial⟩, ⟨⟨_, rfl, .inl rfl, trivial⟩, ⟨_, rfl, .inl rfl, trivial⟩, trivial⟩⟩⟩
      · refine HT.seq ?_
        refine HT.region S_rmac_ok ?_
        refine So.n (Nat.le_of_ble_eq_true rfl) (A.v rfl (V.mv (v := .own 6 0 _) rfl ?_))
        refine So.n (Nat.le_of_ble_eq_true rfl) (A.v rfl (V.mv (v := .p (.u8 _)) rfl ?_))
        refine So.n (Nat.le_of_ble_eq_true rfl) (A.v rfl (V.bin (a := (.u8 _)) (b := (.u8 54)) (r := .u8 _) rfl rfl rfl trivial ?_))
        refine So.n (Nat.le_of_ble_eq_true rfl) (A.bsl 8 ty22 ty5 rfl (Nat.le_of_ble_eq_true rfl) (Nat.le_of_ble_eq_true rfl) (fun _ => rfl) rfl rfl trivial ⟨trivial, trivial⟩ rfl (N := 1) rfl (c := .bs [_]) rfl ?_)
        refine So.n (Nat.le_of_ble_eq_true rfl) (A.apOwn ty22 ty5 rfl rfl rfl rfl (u := .own 8 0 _) rfl rfl (l' := padN (key0 k) 54 (s + 1)) (by rw [ap_full (by rw [padN_len]; exact Nat.le_refl _)]; exact padN_succ (by first | rfl | omega)) (mn := s + 1) (by rfl) (by first | rfl | omega | (simp; done) | (simp; omega)) rfl rfl rfl ?_)
        refine So.n (Nat.le_of_ble_eq_true rfl) (A.v rfl (V.as (v := .own 6 0 _) rfl ?_))
        refine So.e ?_
        show HT _ _ _ _ _
        refine HT.region S_rmac_ok ?_
        refine So.n (Nat.le_of_ble_eq_true rfl) (A.v rfl (V.mv (v := .own 7 0 _) rfl ?_))
        refine So.n (Nat.le_of_ble_eq_true rfl) (A.v rfl (V.mv (v := .p (.u8 _)) rfl ?_))
        refine So.n (Nat.le_of_ble_eq_true rfl) (A.v rfl (V.bin (a := (.u8 _)) (b := (.u8 92)) (r := .u8 _) rfl rfl rfl trivial ?_))
        refine So.n (Nat.le_of_ble_eq_true rfl) (A.bsl 9 ty22 ty5 rfl (Nat.le_of_ble_eq_true rfl) (Nat.le_of_ble_eq_true rfl) (fun _ => rfl) rfl rfl trivial ⟨trivial, trivial⟩ rfl (N := 1) rfl (c := .bs [_]) rfl ?_)
        refine So.n (Nat.le_of_ble_eq_true rfl) (A.apOwn ty22 ty5 rfl rfl rfl rfl (u := .own 9 0 _) rfl rfl (l' := padN (key0 k) 92 (s + 1)) (by rw [ap_full (by rw [padN_len]; exact Nat.le_refl _)]; exact padN_succ (by first | rfl | omega)) (mn := s + 1) (by rfl) (by first | rfl | omega | (simp; done) | (simp; omega)) rfl rfl rfl ?_)
        refine So.n (Nat.le_of_ble_eq_true rfl) (A.v rfl (V.as (v := .own 7 0 _) rfl ?_))
        refine So.e ?_
        show HT _ _ _ _ _
        refine HT.region S_rmac_ok ?_
        refine So.n (Nat.le_of_ble_eq_true rfl) (A.v rfl (V.mv (v := .p (.v (.int .i64 ((_ : Nat) : Int)))) rfl ?_))
        refine So.n (Nat.le_of_ble_eq_true rfl) (A.v rfl (V.addI rfl rfl (by omega) ?_))
        refine So.n (Nat.le_of_ble_eq_true rfl) (A.v rfl (V.as (v := .p (.v (.int .i64 _))) rfl ?_))
        refine So.e ?_
        refine ⟨s + 1, by first | rfl | omega | (simp; done) | (simp; omega), by omega, ⟨⟨⟨le_own2 (by first | rfl | omega) (by first | rfl | omega | (simp; done) | (simp; omega)), rfl⟩, ⟨le_own2 (by first | rfl | omega) (by first | rfl | omega | (simp; done) | (simp; omega)), rfl⟩, ⟨le_int (by first | rfl | omega | (simp; done) | (simp; omega)), trivial⟩, ⟨.refl _, trivial⟩, ⟨.refl _, trivial⟩, ⟨.refl _, trivial⟩, trivial⟩, ⟨⟨_, rfl, .inl (ob_bs (by first | rfl | ((try dsimp only); first | rfl | omega | (simp; done) | (simp; omega))) (by first | rfl | ((try dsimp only); first | rfl | omega | (simp; done) | (simp; omega)))), trivial⟩, ⟨_, rfl, .inl (ob_bs (by first | rfl | ((try dsimp only); first | rfl | omega | (simp; done) | (simp; omega))) (by first | rfl | ((try dsimp only); first | rfl | omega | (simp; done) | (simp; omega)))), trivial⟩, trivial⟩⟩⟩
    · have h3 := of_decide_eq_false h3
      refine HT.exit ?_
      show HT _ _ _ _ _
      refine HT.seq ?_
      replace hP0 : s = 64 := (by omega)
      subst hP0
      refine R.tell [] [(6, ⟨5, 1, 64, true, .bs (padF (key0 k) 54)⟩), (7, ⟨5, 1, 64, true, .bs (padF (key0 k) 92)⟩)] [1, 4, 6, 7] [] (fr0 := [(1, .p (.bs _)), (4, .p (.v (.slice none 0 0))), (6, .own 6 0 _), (7, .own 7 0 _)]) (O0 := []) rfl rfl ⟨⟨⟨.refl _, trivial⟩, ⟨.refl _, trivial⟩, ⟨.refl _, rfl⟩, ⟨.refl _, rfl⟩, trivial⟩, ⟨⟨_, rfl, .inl (ob_bs (by rfl) (by exact padN_64 _ _)), trivial⟩, ⟨_, rfl, .inl (ob_bs (by rfl) (by exact padN_64 _ _)), trivial⟩, trivial⟩⟩ ?_
      show HT _ _ _ _ _
      refine HT.region S_rmac_ok ?_
      refine So.n (Nat.le_of_ble_eq_true rfl) (A.v rfl (V.mv (v := .own 7 0 _) rfl ?_))
      refine So.n (Nat.le_of_ble_eq_true rfl) (A.v rfl (V.mv (v := .own 6 0 _) rfl ?_))
      refine So.n (Nat.le_of_ble_eq_true rfl) (A.v rfl (V.mv (v := .p (.bs _)) rfl ?_))
      refine So.n (Nat.le_of_ble_eq_true rfl) (A.apOwn ty22 ty5 rfl rfl rfl rfl (u := .p (.bs _)) rfl rfl (l' := padF (key0 k) 54 ++ t) (by rw [ap_full (by rw [padF_len]; exact Nat.le_refl _)]) (mn := 64 + t.length) (by rfl) (by first | rfl | omega | (simp; done) | (simp; omega)) rfl rfl rfl ?_)
      refine So.n (Nat.le_of_ble_eq_true rfl) (A.call0 [.p (.bs _)] 8 rfl rfl rfl rfl ⟨trivial, trivial⟩ trivial (padF (key0 k) 54 ++ t) ⟨le_bs (by rw [List.drop_zero, List.take_of_length_le (by rw [List.length_append]; omega)]), trivial⟩ trivial (by first | omega | (simp; done) | (simp; omega)) (Φ := fun _ => True) (fun _ _ => trivial) (.inr ⟨trivial, by simp [Hp.scal, OC.scal, PV.scal, BV.scal]⟩) (v := .own 10 0 _) rfl (O' := (10, ⟨5, 1, _, true, .bs _⟩) :: _) rfl (fun h5 => ?_))
      refine So.n (Nat.le_of_ble_eq_true rfl) (A.apOwn ty22 ty5 rfl rfl rfl rfl (u := .own 10 0 _) rfl rfl (l' := padF (key0 k) 92 ++ sha (padF (key0 k) 54 ++ t)) (by rw [ap_full (by rw [padF_len]; exact Nat.le_refl _)]; first | rfl | (rw [List.drop_zero, List.take_of_length_le (by rw [sha_len]; omega)])) (mn := 96) (by rfl) (by first | rfl | omega | (simp; done) | (simp; omega)) rfl rfl rfl ?_)
      refine So.n (Nat.le_of_ble_eq_true rfl) (A.call0 [.p (.bs _)] 11 rfl rfl rfl rfl ⟨trivial, trivial⟩ trivial (padF (key0 k) 92 ++ sha (padF (key0 k) 54 ++ t)) ⟨le_bs (by rw [List.drop_zero, List.take_of_length_le (by rw [List.length_append]; omega)]), trivial⟩ trivial (by first | omega | (simp; done) | (simp; omega)) (Φ := fun _ => True) (fun _ _ => trivial) (.inr ⟨trivial, by simp [Hp.scal, OC.scal, PV.scal, BV.scal]⟩) (v := .own 13 0 _) rfl (O' := (13, ⟨5, 1, _, true, .bs _⟩) :: _) rfl (fun h6 => ?_))
      refine So.n (Nat.le_of_ble_eq_true rfl) (A.v rfl (V.as (v := .own 13 0 _) rfl ?_))
      refine So.e ?_
      show HT _ _ _ _ _
      refine HT.ret ?_
      exact ret_ok (sg [(2, 13)]) h rfl rfl rfl ⟨trivial, trivial⟩ ⟨rfl, trivial⟩ rfl ⟨⟨⟨le_own2 (by first | rfl | omega) (by first | rfl | (show (_ : List UInt8) = _; rw [mac_def])), rfl⟩, trivial⟩, ⟨⟨_, rfl, .inl (ob_bs (by first | rfl | ((try dsimp only); (first | rfl | (show (_ : List UInt8) = _; rw [mac_def])))) (by first | rfl | ((try dsimp only); (first | rfl | (show (_ : List UInt8) = _; rw [mac_def]))))), trivial⟩, trivial⟩⟩

/-! ### sodality/sodalityref03.Extract -/
def rextractSp : Sp := ⟨[], mkE (α := (List UInt8) × (List UInt8)) (fun (k, t) => [.p (.bs (k)), .p (.bs (t))]) (fun (k, t) => []) (fun (k, t) => k.length ≤ 1000000000 ∧ t.length ≤ 1000000000) (fun (k, t) => [.own 2 (0) (32)]) (fun (k, t) => [(2, ⟨5, 1, 32, true, .bs (mac k t)⟩)])⟩
def S_rextract : FuncId → Option Sp := fun f => if f = 17 then some rmacSp else none
theorem S_rextract_ok : ∀ f s, S_rextract f = some s → FOK Tryd.prog gl f s := fun f s h => by
  unfold S_rextract at h
  split at h
  · rename_i e; cases h; subst e; exact rmac_ok
  cases h
theorem S_rextract_det : ∀ f s, S_rextract f = some s → SpDet s.sp := fun f s h => by
  unfold S_rextract at h
  split at h
  · cases h; exact mkE_det _ _ _ _ _
  cases h
set_option maxHeartbeats 1000000 in
set_option maxRecDepth 1000 in
theorem rextract_ok : FOK Tryd.prog gl 18 rextractSp := by
  refine FOK.ofE (tyOf_ok Tryd.prog) (slots := [4]) (nt := 8) Tryd.func18 rfl rfl rfl rfl (by decide) 2 (fun ⟨_, _⟩ => rfl) (by decide) (fun ⟨_, _⟩ => ⟨trivial, trivial, trivial⟩) ?_
  rintro ⟨k, t⟩ kk hlen hpre h
  have hl0 : (k).length ≤ 9223372036854775807 := hlen.1
  have hl1 : (t).length ≤ 9223372036854775807 := hlen.2.1
  replace hpre : k.length ≤ 1000000000 ∧ t.length ≤ 1000000000 := hpre
  show HT (cx Tryd.prog 8 (tyOf Tryd.prog) gl []) _ [(0, .p (.bs (k))), (1, .p (.bs (t)))] [] _
  refine HT.seq ?_
  refine HT.region S_rextract_ok ?_
  refine So.n (Nat.le_of_ble_eq_true rfl) (A.v rfl (V.as (v := .p (.v (.slice none 0 0))) rfl ?_))
  refine So.e ?_
  show HT _ _ _ _ _
  refine HT.seq ?_
  refine HT.region S_rextract_ok ?_
  refine So.n (Nat.le_of_ble_eq_true rfl) (A.v rfl (V.mv (v := .p (.bs _)) rfl ?_))
  refine So.n (Nat.le_of_ble_eq_true rfl) (A.v rfl (V.mv (v := .p (.bs _)) rfl ?_))
  refine So.n (Nat.le_of_ble_eq_true rfl) (A.call0 [.p (.bs _), .p (.bs _)] 1 rfl rfl rfl rfl ⟨trivial, trivial, trivial⟩ trivial (_, _) ⟨.refl _, .refl _, trivial⟩ trivial (by first | omega | (simp only [List.drop_zero, List.take_length]; omega) | (simp; done) | (simp; omega)) (Φ := fun _ => True) (fun _ _ => trivial) (.inl rfl) (v := .own 3 0 _) rfl (O' := (3, ⟨5, 1, _, true, .bs _⟩) :: _) rfl (fun h1 => ?_))
  refine So.n (Nat.le_of_ble_eq_true rfl) (A.v rfl (V.as (v := .own 3 0 _) rfl ?_))
  refine So.e ?_
  show HT _ _ _ _ _
  refine HT.ret ?_
  exact ret_ok (sg [(2, 3)]) h rfl rfl rfl ⟨trivial, trivial⟩ ⟨rfl, trivial⟩ rfl ⟨⟨⟨le_own2 (by first | rfl | omega) (by first | rfl | omega | (simp; done) | (simp; omega)), rfl⟩, trivial⟩, ⟨⟨_, rfl, .inl (ob_bs (by first | rfl | ((try dsimp only); (first | rfl | omega | (simp; done) | (simp; omega)))) (by first | rfl | ((try dsimp only); (first | rfl | omega | (simp; done) | (simp; omega))))), trivial⟩, trivial⟩⟩

end Go.Vh

set_option linter.unusedVariables false
set_option linter.unusedSimpArgs false
namespace Go.Vh
open Go Go.Vc Go.Proofs

/-! ### sodality/sodalityref03.Expand -/
def rexpandSp : Sp := ⟨[], mkE (α := (List UInt8) × (List UInt8) × Int) (fun (k, i, n) => [.p (.bs (k)), .p (.bs (i)), .p (.v (.int .i64 (n)))]) (fun (k, i, n) => []) (fun (k, i, n) => k.length ≤ 1000000000 ∧ i.length ≤ 900000000) (fun (k, i, n) => [.own 2 (0) ((expandN k i n).length)]) (fun (k, i, n) => [(2, ⟨5, 1, (expandN k i n).length, true, .bs (expandN k i n)⟩)])⟩
def S_rexpand : FuncId → Option Sp := fun f => if f = 17 then some rmacSp else none
theorem S_rexpand_ok : ∀ f s, S_rexpand f = some s → FOK Tryd.prog gl f s := fun f s h => by
  unfold S_rexpand at h
  split at h
  · rename_i e; cases h; subst e; exact rmac_ok
  cases h
theorem S_rexpand_det : ∀ f s, S_rexpand f = some s → SpDet s.sp := fun f s h => by
  unfold S_rexpand at h
  split at h
  · cases h; exact mkE_det _ _ _ _ _
  cases h
set_option maxHeartbeats 1000000 in
set_option maxRecDepth 20000 in
theorem rexpand_ok : FOK Tryd.prog gl 19 rexpandSp := by
  refine FOK.ofE (tyOf_ok Tryd.prog) (slots := [6]) (nt := 41) Tryd.func19 rfl rfl rfl rfl (by decide) 3 (fun ⟨_, _, _⟩ => rfl) (by decide) (fun ⟨_, _, _⟩ => ⟨trivial, trivial, trivial, trivial⟩) ?_
  rintro ⟨k, i, n⟩ kk hlen hpre h
  have hl0 : (k).length ≤ 9223372036854775807 := hlen.1
  have hl1 : (i).length ≤ 9223372036854775807 := hlen.2.1
  replace hpre : k.length ≤ 1000000000 ∧ i.length ≤ 900000000 := hpre
  show HT (cx Tryd.prog 41 (tyOf Tryd.prog) gl []) _ [(0, .p (.bs (k))), (1, .p (.bs (i))), (2, .p (.v (.int .i64 (n))))] [] _
  refine HT.seq ?_
  refine HT.region S_rexpand_ok ?_
  refine So.n (Nat.le_of_ble_eq_true rfl) (A.v rfl (V.as (v := .p (.v (.slice none 0 0))) rfl ?_))
  refine So.e ?_
  show HT _ _ _ _ _
  refine HT.seq ?_
  refine HT.seq ?_
  refine HT.region S_rexpand_ok ?_
  refine So.n (Nat.le_of_ble_eq_true rfl) (A.v rfl (V.mv (v := .p (.v (.int .i64 _))) rfl ?_))
  refine So.n (Nat.le_of_ble_eq_true rfl) (A.v rfl (V.bin (a := (.v (.int .i64 _))) (b := (.v (.int .i64 (0)))) (r := .v (.bool _)) rfl rfl rfl trivial ?_))
  refine So.n (Nat.le_of_ble_eq_true rfl) (A.v rfl (V.mv (v := .p (.v (.bool _))) rfl ?_))
  refine So.gd rfl rfl (Nat.le_of_ble_eq_true rfl) (Nat.le_of_ble_eq_true rfl) (fun h1 => ?_) (fun h1 => ?_)
  · have h1 := of_decide_eq_false h1
    refine A.v rfl (V.mv (v := .p (.v (.int .i64 _))) rfl ?_)
    refine So.gy rfl rfl (Nat.le_of_ble_eq_true rfl) (Nat.le_of_ble_eq_true rfl) ?_
    refine A.v rfl (V.bin (a := (.v (.int .i64 _))) (b := (.v (.int .i64 (8160)))) (r := .v (.bool _)) rfl rfl rfl trivial ?_)
    refine So.n (Nat.le_of_ble_eq_true rfl) (A.v rfl (V.pkFalse (u := .p (.v (.bool _))) rfl rfl ?_))
    refine So.e ?_
    show HT _ _ _ _ _
    refine R.cond rfl rfl (fun h2 => ?_) (fun h2 => ?_)
    · have h2 := of_decide_eq_true h2
      refine HT.seq ?_
      refine HT.region S_rexpand_ok ?_
      refine So.n (Nat.le_of_ble_eq_true rfl) (A.v rfl (V.as (v := .p (.v (.slice none 0 0))) rfl ?_))
      refine So.e ?_
      show HT _ _ _ _ _
      refine R.phan 6 1 5 1 (.bs []) rfl rfl rfl ⟨rfl, rfl⟩ ?_
      refine HT.ret ?_
      exact ret_ok (sg [(2, 1)]) h rfl rfl rfl ⟨trivial, trivial⟩ ⟨rfl, trivial⟩ rfl ⟨⟨⟨le_own2 (by first | rfl | omega) (by first | (show (_ : Nat) = _; first | (rw [expandN_no (by omega)]; rfl) | rfl) | (show (_ : List UInt8) = _; first | (rw [expandN_no (by omega)]; done) | rfl) | rfl), rfl⟩, trivial⟩, ⟨⟨_, rfl, .inl (ob_bs (by first | rfl | ((try dsimp only); (first | (show (_ : Nat) = _; first | (rw [expandN_no (by omega)]; rfl) | rfl) | (show (_ : List UInt8) = _; first | (rw [expandN_no (by omega)]; done) | rfl) | rfl))) (by first | rfl | ((try dsimp only); (first | (show (_ : Nat) = _; first | (rw [expandN_no (by omega)]; rfl) | rfl) | (show (_ : List UInt8) = _; first | (rw [expandN_no (by omega)]; done) | rfl) | rfl)))), trivial⟩, trivial⟩⟩
    · have h2 := of_decide_eq_false h2
      refine HT.skip ?_
      show HT _ _ _ _ _
      refine HT.seq ?_
      refine HT.region S_rexpand_ok ?_
      refine So.n (Nat.le_of_ble_eq_true rfl) (A.v rfl (V.as (v := .p (.v (.slice none 0 0))) rfl ?_))
      refine So.e ?_
      show HT _ _ _ _ _
      refine HT.seq ?_
      refine HT.region S_rexpand_ok ?_
      refine So.n (Nat.le_of_ble_eq_true rfl) (A.v rfl (V.as (v := .p (.v (.slice none 0 0))) rfl ?_))
      refine So.e ?_
      show HT _ _ _ _ _
      refine HT.seq ?_
      refine HT.seq ?_
      refine HT.region S_rexpand_ok ?_
      refine So.n (Nat.le_of_ble_eq_true rfl) (A.v rfl (V.as (v := .p (.v (.int .i64 (1)))) rfl ?_))
      refine So.e ?_
      show HT _ _ _ _ _
      refine HT.block ?_
      refine R.phan 7 7 5 1 (.bs []) rfl rfl rfl ⟨rfl, rfl⟩ ?_
      refine R.loop (σ := Nat) (fun s => [(7, .own 7 (0) (32 * s)), (8, .p (.bs (tN k i s))), (9, .p (.v (.int .i64 ((s : Int) + 1))))]) (fun s => [(7, ⟨5, 1, 32 * s, true, .bs (okm k i s)⟩)]) [0, 1, 2, 6] [] (fun s => 32 * (s : Int) < n + 32) (fun s => n.toNat + 32 - 32 * s) (0) (fr0 := [(0, .p (.bs _)), (1, .p (.bs _)), (2, .p (.v (.int .i64 _))), (6, .p (.v (.slice none 0 0)))]) (O0 := []) rfl rfl (by first | rfl | omega | (simp; done) | (simp; omega)) ⟨⟨⟨le_own2 (by first | rfl | omega) (by first | rfl | omega), rfl⟩, ⟨le_nil (by first | rfl | omega), trivial⟩, ⟨le_int (by first | rfl | omega), trivial⟩, ⟨.refl _, trivial⟩, ⟨.refl _, trivial⟩, ⟨.refl _, trivial⟩, ⟨.refl _, trivial⟩, trivial⟩, ⟨⟨_, rfl, .inl (ob_bs (by first | rfl | ((try dsimp only); first | rfl | omega)) (by first | rfl | ((try dsimp only); first | rfl | omega))), trivial⟩, trivial⟩⟩ (fun s hP0 => ?_)
      refine HT.seq ?_
      refine HT.seq ?_
      refine HT.region S_rexpand_ok ?_
      refine So.n (Nat.le_of_ble_eq_true rfl) (A.v rfl (V.mv (v := .own 7 0 _) rfl ?_))
      refine So.n (Nat.le_of_ble_eq_true rfl) (A.v rfl (V.len ty22 (v := .own 7 0 _) rfl rfl ?_))
      refine So.n (Nat.le_of_ble_eq_true rfl) (A.v rfl (V.mv (v := .p (.v (.int .i64 _))) rfl ?_))
      refine So.n (Nat.le_of_ble_eq_true rfl) (A.v rfl (V.bin (a := (.v (.int .i64 _))) (b := (.v (.int .i64 _))) (r := .v (.bool _)) rfl rfl rfl trivial ?_))
      refine So.e ?_
      show HT _ _ _ _ _
      refine R.cond rfl rfl (fun h3 => ?_) (fun h3 => ?_)
      · have h3 := of_decide_eq_true h3
        refine HT.skip ?_
        show HT _ _ _ _ _
        refine HT.seq ?_
        refine HT.block ?_
        refine HT.seq ?_
        refine HT.region S_rexpand_ok ?_
        have hcl := cat3_len (tN k i s) i (UInt8.ofInt ((s : Int) + 1))
        have htl0 := tN_le k i s
        have htl := tN_len k i s
        refine So.n (Nat.le_of_ble_eq_true rfl) (A.v rfl (V.mv (v := .p (.bs _)) rfl ?_))
        refine So.n (Nat.le_of_ble_eq_true rfl) (A.bsl 8 ty22 ty5 rfl (Nat.le_of_ble_eq_true rfl) (Nat.le_of_ble_eq_true rfl) (fun _ => rfl) rfl rfl trivial trivial rfl (N := 0) rfl (c := .bs []) rfl ?_)
        refine So.n (Nat.le_of_ble_eq_true rfl) (A.v rfl (V.mv (v := .p (.bs _)) rfl ?_))
        refine So.n (Nat.le_of_ble_eq_true rfl) (A.apOwn ty22 ty5 rfl rfl rfl rfl (u := .p (.bs _)) rfl rfl (l' := tN k i s) (by simp) (mn := (tN k i s).length) (by simp) (by first | rfl | omega | (simp; done) | (simp; omega)) rfl rfl rfl ?_)
        refine So.n (Nat.le_of_ble_eq_true rfl) (A.v rfl (V.mv (v := .p (.bs _)) rfl ?_))
        refine So.n (Nat.le_of_ble_eq_true rfl) (A.apOwn ty22 ty5 rfl rfl rfl rfl (u := .p (.bs _)) rfl rfl (l' := tN k i s ++ i) (by simp) (mn := (tN k i s).length + i.length) (by simp) (by first | rfl | omega | (simp; done) | (simp; omega)) rfl rfl rfl ?_)
        refine So.n (Nat.le_of_ble_eq_true rfl) (A.v rfl (V.mv (v := .p (.v (.int .i64 _))) rfl ?_))
        refine So.n (Nat.le_of_ble_eq_true rfl) (A.v rfl (V.cvN ty5 ty3 (a := (.v (.int .i64 _))) (r := (.u8 _)) rfl rfl ?_))
        refine So.n (Nat.le_of_ble_eq_true rfl) (A.bsl 9 ty22 ty5 rfl (Nat.le_of_ble_eq_true rfl) (Nat.le_of_ble_eq_true rfl) (fun _ => rfl) rfl rfl trivial ⟨trivial, trivial⟩ rfl (N := 1) rfl (c := .bs [_]) rfl ?_)
        refine So.n (Nat.le_of_ble_eq_true rfl) (A.apOwn ty22 ty5 rfl rfl rfl rfl (u := .own 9 0 _) rfl rfl (l' := (cat [tN k i s, i, [UInt8.ofInt ((s : Int) + 1)]])) (by rw [ap_full (by simp)]; simp [cat]) (mn := (cat [tN k i s, i, [UInt8.ofInt ((s : Int) + 1)]]).length) (by rw [hcl]) (by first | rfl | omega | (simp; done) | (simp; omega)) rfl rfl rfl ?_)
        refine So.n (Nat.le_of_ble_eq_true rfl) (A.call0F S_rexpand_ok [.p (.bs _), .p (.bs _)] 10 rfl rfl rfl rfl ⟨trivial, trivial, trivial⟩ trivial (k, (cat [tN k i s, i, [UInt8.ofInt ((s : Int) + 1)]])) ⟨.refl _, le_bs (take_full _), trivial⟩ trivial (by first | omega | (simp only [List.drop_zero, List.take_length]; omega) | (simp; done) | (simp; omega)) (Φ := fun _ => True) (fun _ _ => trivial) (.inr ⟨trivial, by simp [Hp.scal, OC.scal, PV.scal, BV.scal]⟩) (t := 12) (off := 0) rfl (O' := (12, ⟨5, 1, _, true, .bs _⟩) :: _) rfl rfl rfl (y := .p (.bs _)) rfl rfl (fun h4 => ?_))
        refine So.n (Nat.le_of_ble_eq_true rfl) (A.v rfl (V.as (v := .p (.bs _)) rfl ?_))
        refine So.e ?_
        show HT _ _ _ _ _
        refine R.tell [(8, .p (.bs (tN k i (s + 1))))] [] [0, 1, 2, 6, 7, 9, 16, 17, 18, 19, 22, 24, 26, 28, 29, 30, 31, 32] [7, 8, 9] (fr0 := [(0, .p (.bs _)), (1, .p (.bs _)), (2, .p (.v (.int .i64 _))), (6, .p (.v (.slice none 0 0))), (7, .own 7 0 _), (9, .p (.v (.int .i64 _))), (16, .own 7 0 _), (17, .p (.v (.int .i64 _))), (18, .p (.v (.int .i64 _))), (19, .p (.v (.bool true))), (22, .p (.bs _)), (24, .p (.bs _)), (26, .p (.bs _)), (28, .p (.v (.int .i64 _))), (29, .p (.u8 _)), (30, .own 9 0 _), (31, .own 8 0 _), (32, .p (.bs _))]) (O0 := [(7, ⟨_, _, _, _, .bs _⟩), (8, ⟨_, _, _, _, .bs _⟩), (9, ⟨_, _, _, _, .bs _⟩)]) rfl rfl ⟨⟨⟨le_bs (by first | rfl | (rw [List.drop_zero, List.take_of_length_le (by rw [mac_len]; omega)]; rfl)), trivial⟩, ⟨.refl _, trivial⟩, ⟨.refl _, trivial⟩, ⟨.refl _, trivial⟩, ⟨.refl _, trivial⟩, ⟨.refl _, rfl⟩, ⟨.refl _, trivial⟩, ⟨.refl _, rfl⟩, ⟨.refl _, trivial⟩, ⟨.refl _, trivial⟩, ⟨.refl _, trivial⟩, ⟨.refl _, trivial⟩, ⟨.refl _, trivial⟩, ⟨.refl _, trivial⟩, ⟨.refl _, trivial⟩, ⟨.refl _, trivial⟩, ⟨.refl _, rfl⟩, ⟨.refl _, rfl⟩, ⟨.refl _, trivial⟩, trivial⟩, ⟨⟨_, rfl, .inl rfl, trivial⟩, ⟨_, rfl, .inl rfl, trivial⟩, ⟨_, rfl, .inl rfl, trivial⟩, trivial⟩⟩ ?_
        show HT _ _ _ _ _
        refine HT.region S_rexpand_ok ?_
        refine So.n (Nat.le_of_ble_eq_true rfl) (A.v rfl (V.mv (v := .own 7 0 _) rfl ?_))
        refine So.n (Nat.le_of_ble_eq_true rfl) (A.v rfl (V.mv (v := .p (.bs _)) rfl ?_))
        refine So.n (Nat.le_of_ble_eq_true rfl) (A.apOwn ty22 ty5 rfl rfl rfl rfl (u := .p (.bs _)) rfl rfl (l' := okm k i (s + 1)) (by rw [ap_full (by rw [okm_len]; exact Nat.le_refl _)]; rfl) (mn := 32 * (s + 1)) (by first | omega | (rw [tN_len]; omega)) (by first | rfl | omega | (simp; done) | (simp; omega)) rfl rfl rfl ?_)
        refine So.n (Nat.le_of_ble_eq_true rfl) (A.v rfl (V.as (v := .own 7 0 _) rfl ?_))
        refine So.e ?_
        show HT _ _ _ _ _
        refine HT.region S_rexpand_ok ?_
        refine So.n (Nat.le_of_ble_eq_true rfl) (A.v rfl (V.mv (v := .p (.v (.int .i64 _))) rfl ?_))
        refine So.n (Nat.le_of_ble_eq_true rfl) (A.v rfl (V.addI rfl rfl (by omega) ?_))
        refine So.n (Nat.le_of_ble_eq_true rfl) (A.v rfl (V.as (v := .p (.v (.int .i64 _))) rfl ?_))
        refine So.e ?_
        refine ⟨s + 1, by first | rfl | omega | (simp; done) | (simp; omega), by omega, ⟨⟨⟨le_own2 (by first | rfl | omega) (by first | rfl | omega | (simp; done) | (simp; omega)), rfl⟩, ⟨le_bs (by first | rfl | omega | (simp; done) | (simp; omega)), trivial⟩, ⟨le_int (by first | rfl | omega | (simp; done) | (simp; omega)), trivial⟩, ⟨.refl _, trivial⟩, ⟨.refl _, trivial⟩, ⟨.refl _, trivial⟩, ⟨.refl _, trivial⟩, trivial⟩, ⟨⟨_, rfl, .inl (ob_bs (by first | rfl | ((try dsimp only); first | rfl | omega | (simp; done) | (simp; omega))) (by first | rfl | ((try dsimp only); first | rfl | omega | (simp; done) | (simp; omega)))), trivial⟩, trivial⟩⟩⟩
      · have h3 := of_decide_eq_false h3
        refine HT.exit ?_
        show HT _ _ _ _ _
        refine HT.seq ?_
        refine HT.region S_rexpand_ok ?_
        have hol := okm_len k i s
        have hen := expandN_len (k := k) (i := i) (n := n) (by omega) (by omega)
        refine So.n (Nat.le_of_ble_eq_true rfl) (A.bsl 8 ty22 ty5 rfl (Nat.le_of_ble_eq_true rfl) (Nat.le_of_ble_eq_true rfl) (fun _ => rfl) rfl rfl trivial trivial rfl (N := 0) rfl (c := .bs []) rfl ?_)
        refine So.n (Nat.le_of_ble_eq_true rfl) (A.v rfl (V.mv (v := .own 7 0 _) rfl ?_))
        refine So.n (Nat.le_of_ble_eq_true rfl) (A.v rfl (V.mv (v := .p (.v (.int .i64 _))) rfl ?_))
        refine So.n (Nat.le_of_ble_eq_true rfl) (A.v rfl (V.cutOwnH ty22 ty5 rfl rfl rfl rfl (by omega) (.inl rfl) rfl ?_))
        refine So.n (Nat.le_of_ble_eq_true rfl) (A.apOwn ty22 ty5 rfl rfl rfl rfl (u := .own 7 0 _) rfl rfl (l' := expandN k i n) (by rw [List.take_zero, List.nil_append, List.drop_zero]; exact okm_get (by omega) (by omega) (by omega) (by omega)) (mn := (expandN k i n).length) (by first | rfl | omega | (rw [hen]; simp; done) | (rw [hen]; simp; omega)) (by first | rfl | omega | (simp; done) | (simp; omega)) rfl rfl rfl ?_)
        refine So.n (Nat.le_of_ble_eq_true rfl) (A.v rfl (V.as (v := .own 8 0 _) rfl ?_))
        refine So.e ?_
        show HT _ _ _ _ _
        refine HT.ret ?_
        exact ret_ok (sg [(2, 8)]) h rfl rfl rfl ⟨trivial, trivial⟩ ⟨rfl, trivial⟩ rfl ⟨⟨⟨le_own2 (by first | rfl | omega) (by first | (show (_ : Nat) = _; first | (rw [expandN_no (by omega)]; rfl) | rfl) | (show (_ : List UInt8) = _; first | (rw [expandN_no (by omega)]; done) | rfl) | rfl), rfl⟩, trivial⟩, ⟨⟨_, rfl, .inl (ob_bs (by first | rfl | ((try dsimp only); (first | (show (_ : Nat) = _; first | (rw [expandN_no (by omega)]; rfl) | rfl) | (show (_ : List UInt8) = _; first | (rw [expandN_no (by omega)]; done) | rfl) | rfl))) (by first | rfl | ((try dsimp only); (first | (show (_ : Nat) = _; first | (rw [expandN_no (by omega)]; rfl) | rfl) | (show (_ : List UInt8) = _; first | (rw [expandN_no (by omega)]; done) | rfl) | rfl)))), trivial⟩, trivial⟩⟩
  · have h1 := of_decide_eq_true h1
    refine So.gn (b := true) rfl rfl rfl (Nat.le_of_ble_eq_true rfl) (Nat.le_of_ble_eq_true rfl) ?_
    refine So.n (Nat.le_of_ble_eq_true rfl) (A.v rfl (V.pkTrue (u := .p (.v (.bool true))) rfl rfl ?_))
    refine So.e ?_
    show HT _ _ _ _ _
    refine R.condT rfl ?_
    refine HT.seq ?_
    refine HT.region S_rexpand_ok ?_
    refine So.n (Nat.le_of_ble_eq_true rfl) (A.v rfl (V.as (v := .p (.v (.slice none 0 0))) rfl ?_))
    refine So.e ?_
    show HT _ _ _ _ _
    refine R.phan 6 1 5 1 (.bs []) rfl rfl rfl ⟨rfl, rfl⟩ ?_
    refine HT.ret ?_
    exact ret_ok (sg [(2, 1)]) h rfl rfl rfl ⟨trivial, trivial⟩ ⟨rfl, trivial⟩ rfl ⟨⟨⟨le_own2 (by first | rfl | omega) (by first | (show (_ : Nat) = _; first | (rw [expandN_no (by omega)]; rfl) | rfl) | (show (_ : List UInt8) = _; first | (rw [expandN_no (by omega)]; done) | rfl) | rfl), rfl⟩, trivial⟩, ⟨⟨_, rfl, .inl (ob_bs (by first | rfl | ((try dsimp only); (first | (show (_ : Nat) = _; first | (rw [expandN_no (by omega)]; rfl) | rfl) | (show (_ : List UInt8) = _; first | (rw [expandN_no (by omega)]; done) | rfl) | rfl))) (by first | rfl | ((try dsimp only); (first | (show (_ : Nat) = _; first | (rw [expandN_no (by omega)]; rfl) | rfl) | (show (_ : List UInt8) = _; first | (rw [expandN_no (by omega)]; done) | rfl) | rfl)))), trivial⟩, trivial⟩⟩

end Go.Vh

set_option linter.unusedVariables false
set_option linter.unusedSimpArgs false
namespace Go.Vh
open Go Go.Vc Go.Proofs

/-! ### sodality/sodalityref03.Label -/
def rlabelSp : Sp := ⟨[], mkE (α := (List UInt8) × (List UInt8) × (List UInt8) × Int) (fun (k, m, c, n) => [.p (.bs (k)), .p (.str (m)), .p (.bs (c)), .p (.v (.int .i64 (n)))]) (fun (k, m, c, n) => []) (fun (k, m, c, n) => k.length ≤ 1000000000) (fun (k, m, c, n) => [.own 2 (0) ((labelF k m c n).length)]) (fun (k, m, c, n) => [(2, ⟨5, 1, (labelF k m c n).length, true, .bs (labelF k m c n)⟩)])⟩
def S_rlabel : FuncId → Option Sp := fun f => if f = 13 then some rinfoSp else if f = 19 then some rexpandSp else none
theorem S_rlabel_ok : ∀ f s, S_rlabel f = some s → FOK Tryd.prog gl f s := fun f s h => by
  unfold S_rlabel at h
  split at h
  · rename_i e; cases h; subst e; exact rinfo_ok
  split at h
  · rename_i e; cases h; subst e; exact rexpand_ok
  cases h
theorem S_rlabel_det : ∀ f s, S_rlabel f = some s → SpDet s.sp := fun f s h => by
  unfold S_rlabel at h
  split at h
  · cases h; exact mkE_det _ _ _ _ _
  split at h
  · cases h; exact mkE_det _ _ _ _ _
  cases h
set_option maxHeartbeats 1000000 in
set_option maxRecDepth 20000 in
theorem rlabel_ok : FOK Tryd.prog gl 20 rlabelSp := by
  refine FOK.ofE (tyOf_ok Tryd.prog) (slots := [8]) (nt := 21) Tryd.func20 rfl rfl rfl rfl (by decide) 4 (fun ⟨_, _, _, _⟩ => rfl) (by decide) (fun ⟨_, _, _, _⟩ => ⟨trivial, trivial, trivial, trivial, trivial⟩) ?_
  rintro ⟨k, m, c, n⟩ kk hlen hpre h
  have hl0 : (k).length ≤ 9223372036854775807 := hlen.1
  have hl2 : (c).length ≤ 9223372036854775807 := hlen.2.2.1
  replace hpre : k.length ≤ 1000000000 := hpre
  show HT (cx Tryd.prog 21 (tyOf Tryd.prog) gl []) _ [(0, .p (.bs (k))), (1, .p (.str (m))), (2, .p (.bs (c))), (3, .p (.v (.int .i64 (n))))] [] _
  have hil := infoF_len m c n
  refine HT.seq ?_
  refine HT.region S_rlabel_ok ?_
  refine So.n (Nat.le_of_ble_eq_true rfl) (A.v rfl (V.as (v := .p (.v (.slice none 0 0))) rfl ?_))
  refine So.e ?_
  show HT _ _ _ _ _
  refine HT.seq ?_
  refine HT.region S_rlabel_ok ?_
  refine So.n (Nat.le_of_ble_eq_true rfl) (A.v rfl (V.mv (v := .p (.str _)) rfl ?_))
  refine So.n (Nat.le_of_ble_eq_true rfl) (A.v rfl (V.mv (v := .p (.bs _)) rfl ?_))
  refine So.n (Nat.le_of_ble_eq_true rfl) (A.v rfl (V.mv (v := .p (.v (.int .i64 _))) rfl ?_))
  refine So.n (Nat.le_of_ble_eq_true rfl) (A.call0 [.p (.str _), .p (.bs _), .p (.v (.int .i64 _))] 1 rfl rfl rfl rfl ⟨trivial, trivial, trivial, trivial⟩ trivial (_, _, _) ⟨.refl _, .refl _, .refl _, trivial⟩ trivial (by trivial) (Φ := fun _ => True) (fun _ _ => trivial) (.inl rfl) (v := .own 3 0 _) rfl (O' := (3, ⟨5, 1, _, true, .bs _⟩) :: _) rfl (fun h1 => ?_))
  refine So.n (Nat.le_of_ble_eq_true rfl) (A.v rfl (V.as (v := .own 3 0 _) rfl ?_))
  refine So.e ?_
  show HT _ _ _ _ _
  refine HT.seq ?_
  refine HT.seq ?_
  refine HT.region S_rlabel_ok ?_
  refine So.n (Nat.le_of_ble_eq_true rfl) (A.v rfl (V.mv (v := .own 3 0 _) rfl ?_))
  refine So.n (Nat.le_of_ble_eq_true rfl) (A.v rfl (V.len ty22 (v := .own 3 0 _) rfl rfl ?_))
  refine So.n (Nat.le_of_ble_eq_true rfl) (A.v rfl (V.bin (a := (.v (.int .i64 _))) (b := (.v (.int .i64 (0)))) (r := .v (.bool _)) rfl rfl rfl trivial ?_))
  refine So.e ?_
  show HT _ _ _ _ _
  refine R.cond rfl rfl (fun h2 => ?_) (fun h2 => ?_)
  · have h2 := of_decide_eq_true h2
    refine HT.seq ?_
    refine HT.region S_rlabel_ok ?_
    refine So.n (Nat.le_of_ble_eq_true rfl) (A.v rfl (V.as (v := .p (.v (.slice none 0 0))) rfl ?_))
    refine So.e ?_
    show HT _ _ _ _ _
    refine R.phan 8 4 5 1 (.bs []) rfl rfl rfl ⟨rfl, rfl⟩ ?_
    refine HT.ret ?_
    exact ret_ok (sg [(2, 4)]) h rfl rfl rfl ⟨trivial, trivial⟩ ⟨rfl, trivial⟩ rfl ⟨⟨⟨le_own2 (by first | rfl | omega) (by first | (show (_ : Nat) = _; first | (rw [infoF_nil (by omega)]; rfl) | (rw [infoF_some (by omega)])) | (show (_ : List UInt8) = _; first | (rw [infoF_nil (by omega)]; done) | (rw [infoF_some (by omega)])) | rfl), rfl⟩, trivial⟩, ⟨⟨_, rfl, .inl (ob_bs (by first | rfl | ((try dsimp only); (first | (show (_ : Nat) = _; first | (rw [infoF_nil (by omega)]; rfl) | (rw [infoF_some (by omega)])) | (show (_ : List UInt8) = _; first | (rw [infoF_nil (by omega)]; done) | (rw [infoF_some (by omega)])) | rfl))) (by first | rfl | ((try dsimp only); (first | (show (_ : Nat) = _; first | (rw [infoF_nil (by omega)]; rfl) | (rw [infoF_some (by omega)])) | (show (_ : List UInt8) = _; first | (rw [infoF_nil (by omega)]; done) | (rw [infoF_some (by omega)])) | rfl)))), trivial⟩, trivial⟩⟩
  · have h2 := of_decide_eq_false h2
    refine HT.skip ?_
    show HT _ _ _ _ _
    refine HT.seq ?_
    refine HT.region S_rlabel_ok ?_
    refine So.n (Nat.le_of_ble_eq_true rfl) (A.v rfl (V.mv (v := .p (.bs _)) rfl ?_))
    refine So.n (Nat.le_of_ble_eq_true rfl) (A.v rfl (V.mv (v := .own 3 0 _) rfl ?_))
    refine So.n (Nat.le_of_ble_eq_true rfl) (A.v rfl (V.mv (v := .p (.v (.int .i64 _))) rfl ?_))
    refine So.n (Nat.le_of_ble_eq_true rfl) (A.call0 [.p (.bs _), .p (.bs _), .p (.v (.int .i64 _))] 4 rfl rfl rfl rfl ⟨trivial, trivial, trivial, trivial⟩ trivial (k, infoF m c n, n) ⟨.refl _, le_bs (take_full _), .refl _, trivial⟩ trivial (by first | omega | (simp only [List.drop_zero, List.take_length]; omega) | (simp; done) | (simp; omega)) (Φ := fun _ => True) (fun _ _ => trivial) (.inr ⟨trivial, by simp [Hp.scal, OC.scal, PV.scal, BV.scal]⟩) (v := .own 6 0 _) rfl (O' := (6, ⟨5, 1, _, true, .bs _⟩) :: _) rfl (fun h3 => ?_))
    refine So.n (Nat.le_of_ble_eq_true rfl) (A.v rfl (V.as (v := .own 6 0 _) rfl ?_))
    refine So.e ?_
    show HT _ _ _ _ _
    refine HT.ret ?_
    exact ret_ok (sg [(2, 6)]) h rfl rfl rfl ⟨trivial, trivial⟩ ⟨rfl, trivial⟩ rfl ⟨⟨⟨le_own2 (by first | rfl | omega) (by first | (show (_ : Nat) = _; first | (rw [infoF_nil (by omega)]; rfl) | (rw [infoF_some (by omega)])) | (show (_ : List UInt8) = _; first | (rw [infoF_nil (by omega)]; done) | (rw [infoF_some (by omega)])) | rfl), rfl⟩, trivial⟩, ⟨⟨_, rfl, .inl (ob_bs (by first | rfl | ((try dsimp only); (first | (show (_ : Nat) = _; first | (rw [infoF_nil (by omega)]; rfl) | (rw [infoF_some (by omega)])) | (show (_ : List UInt8) = _; first | (rw [infoF_nil (by omega)]; done) | (rw [infoF_some (by omega)])) | rfl))) (by first | rfl | ((try dsimp only); (first | (show (_ : Nat) = _; first | (rw [infoF_nil (by omega)]; rfl) | (rw [infoF_some (by omega)])) | (show (_ : List UInt8) = _; first | (rw [infoF_nil (by omega)]; done) | (rw [infoF_some (by omega)])) | rfl)))), trivial⟩, trivial⟩⟩

end Go.Vh

set_option linter.unusedVariables false
set_option linter.unusedSimpArgs false
namespace Go.Vh
open Go Go.Vc Go.Proofs

/-! ### sodality/sodalitylaw03.HkdfTells -/
def lawTellsSp : Sp := ⟨[], mkE (α := (List UInt8) × (List UInt8) × (List UInt8) × Int) (fun (k, t, m, n) => [.p (.bs (k)), .p (.bs (t)), .p (.str (m)), .p (.v (.int .i64 (n)))]) (fun (k, t, m, n) => []) (fun (k, t, m, n) => True) (fun (k, t, m, n) => [.p (.v (.bool true))]) (fun (k, t, m, n) => [])⟩
def S_lawTells : FuncId → Option Sp := fun f => if f = 9 then some headSp else if f = 11 then some greatSp else if f = 15 then some hmacSp else if f = 16 then some extractSp else if f = 12 then some hexpandSp else if f = 14 then some hlabelSp else if f = 17 then some rmacSp else if f = 18 then some rextractSp else if f = 19 then some rexpandSp else if f = 20 then some rlabelSp else none
theorem S_lawTells_ok : ∀ f s, S_lawTells f = some s → FOK Tryd.prog gl f s := fun f s h => by
  unfold S_lawTells at h
  split at h
  · rename_i e; cases h; subst e; exact head_ok
  split at h
  · rename_i e; cases h; subst e; exact great_ok
  split at h
  · rename_i e; cases h; subst e; exact hmac_ok
  split at h
  · rename_i e; cases h; subst e; exact extract_ok
  split at h
  · rename_i e; cases h; subst e; exact hexpand_ok
  split at h
  · rename_i e; cases h; subst e; exact hlabel_ok
  split at h
  · rename_i e; cases h; subst e; exact rmac_ok
  split at h
  · rename_i e; cases h; subst e; exact rextract_ok
  split at h
  · rename_i e; cases h; subst e; exact rexpand_ok
  split at h
  · rename_i e; cases h; subst e; exact rlabel_ok
  cases h
theorem S_lawTells_det : ∀ f s, S_lawTells f = some s → SpDet s.sp := fun f s h => by
  unfold S_lawTells at h
  split at h
  · cases h; exact mkE_det _ _ _ _ _
  split at h
  · cases h; exact mkE_det _ _ _ _ _
  split at h
  · cases h; exact mkE_det _ _ _ _ _
  split at h
  · cases h; exact mkE_det _ _ _ _ _
  split at h
  · cases h; exact mkE_det _ _ _ _ _
  split at h
  · cases h; exact mkE_det _ _ _ _ _
  split at h
  · cases h; exact mkE_det _ _ _ _ _
  split at h
  · cases h; exact mkE_det _ _ _ _ _
  split at h
  · cases h; exact mkE_det _ _ _ _ _
  split at h
  · cases h; exact mkE_det _ _ _ _ _
  cases h
set_option maxHeartbeats 1000000 in
set_option maxRecDepth 1000 in
theorem lawTells_ok : FOK Tryd.prog gl 6 lawTellsSp := by
  refine FOK.ofE (tyOf_ok Tryd.prog) (slots := [8]) (nt := 124) Tryd.func6 rfl rfl rfl rfl (by decide) 4 (fun ⟨_, _, _, _⟩ => rfl) (by decide) (fun ⟨_, _, _, _⟩ => ⟨trivial, trivial, trivial, trivial, trivial⟩) ?_
  rintro ⟨k, t, m, n⟩ kk hlen hpre h
  have hl0 : (k).length ≤ 9223372036854775807 := hlen.1
  have hl1 : (t).length ≤ 9223372036854775807 := hlen.2.1
  replace hpre : True := hpre
  show HT (cx Tryd.prog 124 (tyOf Tryd.prog) gl []) _ [(0, .p (.bs (k))), (1, .p (.bs (t))), (2, .p (.str (m))), (3, .p (.v (.int .i64 (n))))] [] _
  refine HT.seq ?_
  refine HT.region S_lawTells_ok ?_
  refine So.n (Nat.le_of_ble_eq_true rfl) (A.v rfl (V.as (v := .p (.v (.bool false))) rfl ?_))
  refine So.e ?_
  show HT _ _ _ _ _
  refine HT.seq ?_
  refine HT.region S_lawTells_ok ?_
  refine So.n (Nat.le_of_ble_eq_true rfl) (A.call0 [] 1 rfl rfl rfl rfl trivial trivial () trivial trivial (by trivial) (Φ := fun _ => True) (fun _ _ => trivial) (.inl rfl) (v := .p (.v (.bool true))) rfl (O' := _) rfl (fun h1 => ?_))
  refine So.n (Nat.le_of_ble_eq_true rfl) (A.v rfl (V.as (v := .p (.v (.bool true))) rfl ?_))
  refine So.e ?_
  show HT _ _ _ _ _
  refine HT.seq ?_
  refine HT.seq ?_
  refine HT.region S_lawTells_ok ?_
  refine So.n (Nat.le_of_ble_eq_true rfl) (A.v rfl (V.mv (v := .p (.bs _)) rfl ?_))
  refine So.n (Nat.le_of_ble_eq_true rfl) (A.call0 [.p (.bs _)] 1 rfl rfl rfl rfl ⟨trivial, trivial⟩ trivial _ ⟨.refl _, trivial⟩ trivial (by trivial) (Φ := fun _ => True) (fun _ _ => trivial) (.inl rfl) (v := .p (.v (.bool _))) rfl (O' := _) rfl (fun h2 => ?_))
  refine So.n (Nat.le_of_ble_eq_true rfl) (A.v rfl (V.mv (v := .p (.v (.bool _))) rfl ?_))
  refine So.gd rfl rfl (Nat.le_of_ble_eq_true rfl) (Nat.le_of_ble_eq_true rfl) (fun h3 => ?_) (fun h3 => ?_)
  · have h3 := of_decide_eq_false h3
    refine A.v rfl (V.mv (v := .p (.bs _)) rfl ?_)
    refine So.gy rfl rfl (Nat.le_of_ble_eq_true rfl) (Nat.le_of_ble_eq_true rfl) ?_
    refine A.call0 [.p (.bs _)] 1 rfl rfl rfl rfl ⟨trivial, trivial⟩ trivial _ ⟨.refl _, trivial⟩ trivial (by trivial) (Φ := fun _ => True) (fun _ _ => trivial) (.inl rfl) (v := .p (.v (.bool _))) rfl (O' := _) rfl (fun h4 => ?_)
    refine So.n (Nat.le_of_ble_eq_true rfl) (A.v rfl (V.pkFalse (u := .p (.v (.bool _))) rfl rfl ?_))
    refine So.n (Nat.le_of_ble_eq_true rfl) (A.v rfl (V.mv (v := .p (.v (.bool _))) rfl ?_))
    refine So.gd rfl rfl (Nat.le_of_ble_eq_true rfl) (Nat.le_of_ble_eq_true rfl) (fun h5 => ?_) (fun h5 => ?_)
    · have h5 := of_decide_eq_false h5
      refine A.v rfl (V.mv (v := .p (.str _)) rfl ?_)
      refine So.gy rfl rfl (Nat.le_of_ble_eq_true rfl) (Nat.le_of_ble_eq_true rfl) ?_
      refine A.v rfl (V.lenStr ty9 rfl ?_)
      refine So.gy rfl rfl (Nat.le_of_ble_eq_true rfl) (Nat.le_of_ble_eq_true rfl) ?_
      refine A.v rfl (V.bin (a := (.v (.int .i64 _))) (b := (.v (.int .i64 (1000)))) (r := .v (.bool _)) rfl rfl rfl trivial ?_)
      refine So.n (Nat.le_of_ble_eq_true rfl) (A.v rfl (V.pkFalse (u := .p (.v (.bool _))) rfl rfl ?_))
      refine So.n (Nat.le_of_ble_eq_true rfl) (A.v rfl (V.mv (v := .p (.v (.bool _))) rfl ?_))
      refine So.gd rfl rfl (Nat.le_of_ble_eq_true rfl) (Nat.le_of_ble_eq_true rfl) (fun h6 => ?_) (fun h6 => ?_)
      · have h6 := of_decide_eq_false h6
        refine A.v rfl (V.mv (v := .p (.v (.int .i64 _))) rfl ?_)
        refine So.gy rfl rfl (Nat.le_of_ble_eq_true rfl) (Nat.le_of_ble_eq_true rfl) ?_
        refine A.v rfl (V.bin (a := (.v (.int .i64 _))) (b := (.v (.int .i64 (300)))) (r := .v (.bool _)) rfl rfl rfl trivial ?_)
        refine So.gy rfl rfl (Nat.le_of_ble_eq_true rfl) (Nat.le_of_ble_eq_true rfl) ?_
        refine A.v rfl (V.mv (v := .p (.v (.bool _))) rfl ?_)
        refine So.gd rfl rfl (Nat.le_of_ble_eq_true rfl) (Nat.le_of_ble_eq_true rfl) (fun h7 => ?_) (fun h7 => ?_)
        · have h7 := of_decide_eq_true h7
          refine A.v rfl (V.mv (v := .p (.v (.int .i64 _))) rfl ?_)
          refine So.gy rfl rfl (Nat.le_of_ble_eq_true rfl) (Nat.le_of_ble_eq_true rfl) ?_
          refine A.v rfl (V.bin (a := (.v (.int .i64 _))) (b := (.v (.int .i64 (8160)))) (r := .v (.bool _)) rfl rfl rfl trivial ?_)
          refine So.gy rfl rfl (Nat.le_of_ble_eq_true rfl) (Nat.le_of_ble_eq_true rfl) ?_
          refine A.v rfl (V.pkTrue (u := .p (.v (.bool _))) rfl rfl ?_)
          refine So.n (Nat.le_of_ble_eq_true rfl) (A.v rfl (V.pkFalse (u := .p (.v (.bool _))) rfl rfl ?_))
          refine So.e ?_
          show HT _ _ _ _ _
          refine R.cond rfl rfl (fun h8 => ?_) (fun h8 => ?_)
          · have h8 := of_decide_eq_true h8
            refine HT.seq ?_
            refine HT.region S_lawTells_ok ?_
            refine So.n (Nat.le_of_ble_eq_true rfl) (A.v rfl (V.mv (v := .p (.v (.bool true))) rfl ?_))
            refine So.n (Nat.le_of_ble_eq_true rfl) (A.v rfl (V.as (v := .p (.v (.bool true))) rfl ?_))
            refine So.e ?_
            show HT _ _ _ _ _
            refine HT.ret ?_
            exact ret_ok (sg []) h rfl rfl rfl trivial ⟨trivial, trivial⟩ rfl ⟨⟨⟨le_bool (by first | rfl | (simp; done)), trivial⟩, trivial⟩, trivial⟩
          · have h8 := of_decide_eq_false h8
            refine HT.skip ?_
            show HT _ _ _ _ _
            refine HT.seq ?_
            refine HT.region S_lawTells_ok ?_
            refine So.n (Nat.le_of_ble_eq_true rfl) (A.bsl 1 ty22 ty5 rfl (Nat.le_of_ble_eq_true rfl) (Nat.le_of_ble_eq_true rfl) (fun _ => rfl) rfl rfl trivial trivial rfl (N := 0) rfl (c := .bs []) rfl ?_)
            refine So.n (Nat.le_of_ble_eq_true rfl) (A.v rfl (V.mv (v := .p (.bs _)) rfl ?_))
            refine So.n (Nat.le_of_ble_eq_true rfl) (A.apOwn ty22 ty5 rfl rfl rfl rfl (u := .p (.bs _)) rfl rfl (l' := k) (by simp) (mn := k.length) (by simp) (by first | rfl | omega | (simp; done) | (simp; omega)) rfl rfl rfl ?_)
            refine So.n (Nat.le_of_ble_eq_true rfl) (A.v rfl (V.as (v := .own 1 0 _) rfl ?_))
            refine So.e ?_
            show HT _ _ _ _ _
            refine HT.seq ?_
            refine HT.region S_lawTells_ok ?_
            refine So.n (Nat.le_of_ble_eq_true rfl) (A.bsl 2 ty22 ty5 rfl (Nat.le_of_ble_eq_true rfl) (Nat.le_of_ble_eq_true rfl) (fun _ => rfl) rfl rfl trivial trivial rfl (N := 0) rfl (c := .bs []) rfl ?_)
            refine So.n (Nat.le_of_ble_eq_true rfl) (A.v rfl (V.mv (v := .p (.bs _)) rfl ?_))
            refine So.n (Nat.le_of_ble_eq_true rfl) (A.apOwn ty22 ty5 rfl rfl rfl rfl (u := .p (.bs _)) rfl rfl (l' := t) (by simp) (mn := t.length) (by simp) (by first | rfl | omega | (simp; done) | (simp; omega)) rfl rfl rfl ?_)
            refine So.n (Nat.le_of_ble_eq_true rfl) (A.v rfl (V.as (v := .own 2 0 _) rfl ?_))
            refine So.e ?_
            show HT _ _ _ _ _
            refine HT.seq ?_
            refine HT.region S_lawTells_ok ?_
            refine So.n (Nat.le_of_ble_eq_true rfl) (A.v rfl (V.mv (v := .own 1 0 _) rfl ?_))
            refine So.n (Nat.le_of_ble_eq_true rfl) (A.v rfl (V.mv (v := .own 2 0 _) rfl ?_))
            refine So.n (Nat.le_of_ble_eq_true rfl) (A.call0 [.p (.bs _), .p (.bs _)] 3 rfl rfl rfl rfl ⟨trivial, trivial, trivial⟩ trivial (_, _) ⟨le_full, le_full, trivial⟩ trivial (by first | omega | (simp only [List.drop_zero, List.take_length]; omega) | (simp; done) | (simp; omega)) (Φ := fun _ => True) (fun _ _ => trivial) (.inr ⟨trivial, by simp [Hp.scal, OC.scal, PV.scal, BV.scal]⟩) (v := .own 5 0 _) rfl (O' := (5, ⟨5, 1, _, true, .bs _⟩) :: _) rfl (fun h9 => ?_))
            refine So.n (Nat.le_of_ble_eq_true rfl) (A.v rfl (V.as (v := .own 5 0 _) rfl ?_))
            refine So.e ?_
            show HT _ _ _ _ _
            refine HT.seq ?_
            refine HT.region S_lawTells_ok ?_
            refine So.n (Nat.le_of_ble_eq_true rfl) (A.v rfl (V.mv (v := .own 1 0 _) rfl ?_))
            refine So.n (Nat.le_of_ble_eq_true rfl) (A.v rfl (V.mv (v := .own 2 0 _) rfl ?_))
            refine So.n (Nat.le_of_ble_eq_true rfl) (A.call0 [.p (.bs _), .p (.bs _)] 6 rfl rfl rfl rfl ⟨trivial, trivial, trivial⟩ trivial (_, _) ⟨le_full, le_full, trivial⟩ trivial (by first | omega | (simp only [List.drop_zero, List.take_length]; omega) | (simp; done) | (simp; omega)) (Φ := fun _ => True) (fun _ _ => trivial) (.inr ⟨trivial, by simp [Hp.scal, OC.scal, PV.scal, BV.scal]⟩) (v := .own 8 0 _) rfl (O' := (8, ⟨5, 1, _, true, .bs _⟩) :: _) rfl (fun h10 => ?_))
            refine So.n (Nat.le_of_ble_eq_true rfl) (A.v rfl (V.as (v := .own 8 0 _) rfl ?_))
            refine So.e ?_
            show HT _ _ _ _ _
            refine HT.seq ?_
            refine HT.region S_lawTells_ok ?_
            refine So.n (Nat.le_of_ble_eq_true rfl) (A.v rfl (V.mv (v := .own 1 0 _) rfl ?_))
            refine So.n (Nat.le_of_ble_eq_true rfl) (A.v rfl (V.mv (v := .own 2 0 _) rfl ?_))
            refine So.n (Nat.le_of_ble_eq_true rfl) (A.v rfl (V.mv (v := .p (.v (.int .i64 _))) rfl ?_))
            refine So.n (Nat.le_of_ble_eq_true rfl) (A.call0 [.p (.bs _), .p (.bs _), .p (.v (.int .i64 _))] 9 rfl rfl rfl rfl ⟨trivial, trivial, trivial, trivial⟩ trivial (_, _, _) ⟨le_full, le_full, .refl _, trivial⟩ trivial (by first | omega | (simp; done) | (simp; omega)) (Φ := fun _ => True) (fun _ _ => trivial) (.inr ⟨trivial, by simp [Hp.scal, OC.scal, PV.scal, BV.scal]⟩) (v := .own 11 0 _) rfl (O' := (11, ⟨5, 1, _, true, .bs _⟩) :: _) rfl (fun h11 => ?_))
            refine So.n (Nat.le_of_ble_eq_true rfl) (A.v rfl (V.as (v := .own 11 0 _) rfl ?_))
            refine So.e ?_
            show HT _ _ _ _ _
            refine HT.seq ?_
            refine HT.region S_lawTells_ok ?_
            refine So.n (Nat.le_of_ble_eq_true rfl) (A.v rfl (V.mv (v := .own 1 0 _) rfl ?_))
            refine So.n (Nat.le_of_ble_eq_true rfl) (A.v rfl (V.mv (v := .p (.str _)) rfl ?_))
            refine So.n (Nat.le_of_ble_eq_true rfl) (A.v rfl (V.mv (v := .own 2 0 _) rfl ?_))
            refine So.n (Nat.le_of_ble_eq_true rfl) (A.v rfl (V.mv (v := .p (.v (.int .i64 _))) rfl ?_))
            refine So.n (Nat.le_of_ble_eq_true rfl) (A.call0 [.p (.bs _), .p (.str _), .p (.bs _), .p (.v (.int .i64 _))] 12 rfl rfl rfl rfl ⟨trivial, trivial, trivial, trivial, trivial⟩ trivial (_, _, _, _) ⟨le_full, .refl _, le_full, .refl _, trivial⟩ trivial (by first | omega | (simp; done) | (simp; omega)) (Φ := fun _ => True) (fun _ _ => trivial) (.inr ⟨trivial, by simp [Hp.scal, OC.scal, PV.scal, BV.scal]⟩) (v := .own 14 0 _) rfl (O' := (14, ⟨5, 1, _, true, .bs _⟩) :: _) rfl (fun h12 => ?_))
            refine So.n (Nat.le_of_ble_eq_true rfl) (A.v rfl (V.as (v := .own 14 0 _) rfl ?_))
            refine So.e ?_
            show HT _ _ _ _ _
            refine HT.seq ?_
            refine HT.seq ?_
            refine HT.region S_lawTells_ok ?_
            refine So.n (Nat.le_of_ble_eq_true rfl) (A.v rfl (V.as (v := .p (.v (.int .i64 (0)))) rfl ?_))
            refine So.e ?_
            show HT _ _ _ _ _
            refine HT.block ?_
            refine R.loop (σ := Nat) (fun s => [(16, .p (.v (.int .i64 ((s : Int)))))]) (fun s => [(1, ⟨5, 1, k.length, true, .bs (incV s k)⟩)]) [0, 1, 2, 3, 8, 9, 10, 11, 12, 13, 14, 15] [2, 5, 8, 11, 14] (fun s => s ≤ k.length) (fun s => k.length - s) (0) (fr0 := [(0, .p (.bs _)), (1, .p (.bs _)), (2, .p (.str _)), (3, .p (.v (.int .i64 _))), (8, .p (.v (.bool false))), (9, .p (.v (.bool true))), (10, .own 1 0 _), (11, .own 2 0 _), (12, .own 5 0 _), (13, .own 8 0 _), (14, .own 11 0 _), (15, .own 14 0 _)]) (O0 := [(2, ⟨_, _, _, _, .bs _⟩), (5, ⟨_, _, _, _, .bs _⟩), (8, ⟨_, _, _, _, .bs _⟩), (11, ⟨_, _, _, _, .bs _⟩), (14, ⟨_, _, _, _, .bs _⟩)]) rfl rfl (by first | rfl | omega | (simp; done) | (simp; omega)) ⟨⟨⟨le_int (by first | rfl | omega | (simp; done) | (simp; omega)), trivial⟩, ⟨.refl _, trivial⟩, ⟨.refl _, trivial⟩, ⟨.refl _, trivial⟩, ⟨.refl _, trivial⟩, ⟨.refl _, trivial⟩, ⟨.refl _, trivial⟩, ⟨.refl _, rfl⟩, ⟨.refl _, rfl⟩, ⟨.refl _, rfl⟩, ⟨.refl _, rfl⟩, ⟨.refl _, rfl⟩, ⟨.refl _, rfl⟩, trivial⟩, ⟨⟨_, rfl, .inl (ob_bs (by first | rfl | ((try dsimp only); first | rfl | omega | (simp; done) | (simp; omega))) (by first | rfl | ((try dsimp only); first | rfl | omega | (simp; done) | (simp; omega)))), trivial⟩, ⟨_, rfl, .inl rfl, trivial⟩, ⟨_, rfl, .inl rfl, trivial⟩, ⟨_, rfl, .inl rfl, trivial⟩, ⟨_, rfl, .inl rfl, trivial⟩, ⟨_, rfl, .inl rfl, trivial⟩, trivial⟩⟩ (fun s hP0 => ?_)
            refine HT.seq ?_
            refine HT.seq ?_
            refine HT.region S_lawTells_ok ?_
            refine So.n (Nat.le_of_ble_eq_true rfl) (A.v rfl (V.mv (v := .p (.v (.int .i64 ((_ : Nat) : Int)))) rfl ?_))
            refine So.n (Nat.le_of_ble_eq_true rfl) (A.v rfl (V.mv (v := .own 1 0 _) rfl ?_))
            refine So.n (Nat.le_of_ble_eq_true rfl) (A.v rfl (V.len ty22 (v := .own 1 0 _) rfl rfl ?_))
            refine So.n (Nat.le_of_ble_eq_true rfl) (A.v rfl (V.bin (a := (.v (.int .i64 ((_ : Nat) : Int)))) (b := (.v (.int .i64 _))) (r := .v (.bool _)) rfl rfl rfl trivial ?_))
            refine So.e ?_
            show HT _ _ _ _ _
            refine R.cond rfl rfl (fun h13 => ?_) (fun h13 => ?_)
            · have h13 := of_decide_eq_true h13
              refine HT.skip ?_
              show HT _ _ _ _ _
              refine HT.seq ?_
              refine HT.block ?_
              refine HT.region S_lawTells_ok ?_
              refine So.n (Nat.le_of_ble_eq_true rfl) (A.v rfl (V.mv (v := .own 1 0 _) rfl ?_))
              refine So.n (Nat.le_of_ble_eq_true rfl) (A.v rfl (V.mv (v := .p (.v (.int .i64 ((_ : Nat) : Int)))) rfl ?_))
              refine So.n (Nat.le_of_ble_eq_true rfl) (A.v rfl (V.ixOwn10 ty22 ty5 rfl rfl rfl rfl rfl (by omega) (Int.toNat_natCast _) ?_))
              refine So.n (Nat.le_of_ble_eq_true rfl) (A.v rfl (V.ldPtr ty5 rfl rfl rfl (by first | rfl | omega | (simp; done) | (simp; omega)) (v := .p (.u8 _)) rfl ?_))
              refine So.n (Nat.le_of_ble_eq_true rfl) (A.v rfl (V.bin (a := (.u8 _)) (b := (.u8 1)) (r := .u8 _) rfl rfl rfl trivial ?_))
              refine So.n (Nat.le_of_ble_eq_true rfl) (A.v rfl (V.ixOwn10 ty22 ty5 rfl rfl rfl rfl rfl (by omega) (Int.toNat_natCast _) ?_))
              refine So.s (A.sto ty5 rfl rfl rfl (v := .p (.u8 _)) rfl trivial rfl (by first | rfl | omega | (simp; done) | (simp; omega)) rfl rfl ?_)
              refine So.e ?_
              show HT _ _ _ _ _
              refine HT.region S_lawTells_ok ?_
              refine So.n (Nat.le_of_ble_eq_true rfl) (A.v rfl (V.mv (v := .p (.v (.int .i64 ((_ : Nat) : Int)))) rfl ?_))
              refine So.n (Nat.le_of_ble_eq_true rfl) (A.v rfl (V.addI rfl rfl (by omega) ?_))
              refine So.n (Nat.le_of_ble_eq_true rfl) (A.v rfl (V.as (v := .p (.v (.int .i64 _))) rfl ?_))
              refine So.e ?_
              refine ⟨s + 1, by first | rfl | omega | (simp; done) | (simp; omega), by omega, ⟨⟨⟨le_int (by first | rfl | omega | (simp; done) | (simp; omega)), trivial⟩, ⟨.refl _, trivial⟩, ⟨.refl _, trivial⟩, ⟨.refl _, trivial⟩, ⟨.refl _, trivial⟩, ⟨.refl _, trivial⟩, ⟨.refl _, trivial⟩, ⟨.refl _, rfl⟩, ⟨.refl _, rfl⟩, ⟨.refl _, rfl⟩, ⟨.refl _, rfl⟩, ⟨.refl _, rfl⟩, ⟨.refl _, rfl⟩, trivial⟩, ⟨⟨_, rfl, .inl (ob_bs (by first | rfl | ((try dsimp only); first | exact incV_0 _ | (exact incV_step (by omega)) | rfl)) (by first | rfl | ((try dsimp only); first | exact incV_0 _ | (exact incV_step (by omega)) | rfl))), trivial⟩, ⟨_, rfl, .inl rfl, trivial⟩, ⟨_, rfl, .inl rfl, trivial⟩, ⟨_, rfl, .inl rfl, trivial⟩, ⟨_, rfl, .inl rfl, trivial⟩, ⟨_, rfl, .inl rfl, trivial⟩, trivial⟩⟩⟩
            · have h13 := of_decide_eq_false h13
              refine HT.exit ?_
              show HT _ _ _ _ _
              refine HT.seq ?_
              refine HT.seq ?_
              refine HT.region S_lawTells_ok ?_
              refine So.n (Nat.le_of_ble_eq_true rfl) (A.v rfl (V.as (v := .p (.v (.int .i64 (0)))) rfl ?_))
              refine So.e ?_
              show HT _ _ _ _ _
              refine HT.block ?_
              refine R.loop (σ := Nat) (fun r => [(17, .p (.v (.int .i64 ((r : Int)))))]) (fun r => [(2, ⟨5, 1, t.length, true, .bs (incV r t)⟩)]) [0, 1, 2, 3, 8, 9, 11, 12, 13, 14, 15] [1, 5, 8, 11, 14] (fun r => r ≤ t.length) (fun r => t.length - r) (0) (fr0 := [(0, .p (.bs _)), (1, .p (.bs _)), (2, .p (.str _)), (3, .p (.v (.int .i64 _))), (8, .p (.v (.bool false))), (9, .p (.v (.bool true))), (11, .own 2 0 _), (12, .own 5 0 _), (13, .own 8 0 _), (14, .own 11 0 _), (15, .own 14 0 _)]) (O0 := [(1, ⟨_, _, _, _, .bs _⟩), (5, ⟨_, _, _, _, .bs _⟩), (8, ⟨_, _, _, _, .bs _⟩), (11, ⟨_, _, _, _, .bs _⟩), (14, ⟨_, _, _, _, .bs _⟩)]) rfl rfl (by first | rfl | omega | (simp; done) | (simp; omega)) ⟨⟨⟨le_int (by first | rfl | omega | (simp; done) | (simp; omega)), trivial⟩, ⟨.refl _, trivial⟩, ⟨.refl _, trivial⟩, ⟨.refl _, trivial⟩, ⟨.refl _, trivial⟩, ⟨.refl _, trivial⟩, ⟨.refl _, trivial⟩, ⟨.refl _, rfl⟩, ⟨.refl _, rfl⟩, ⟨.refl _, rfl⟩, ⟨.refl _, rfl⟩, ⟨.refl _, rfl⟩, trivial⟩, ⟨⟨_, rfl, .inl (ob_bs (by first | rfl | ((try dsimp only); first | rfl | omega | (simp; done) | (simp; omega))) (by first | rfl | ((try dsimp only); first | rfl | omega | (simp; done) | (simp; omega)))), trivial⟩, ⟨_, rfl, .inl rfl, trivial⟩, ⟨_, rfl, .inl rfl, trivial⟩, ⟨_, rfl, .inl rfl, trivial⟩, ⟨_, rfl, .inl rfl, trivial⟩, ⟨_, rfl, .inl rfl, trivial⟩, trivial⟩⟩ (fun r hP1 => ?_)
              refine HT.seq ?_
              refine HT.seq ?_
              refine HT.region S_lawTells_ok ?_
              refine So.n (Nat.le_of_ble_eq_true rfl) (A.v rfl (V.mv (v := .p (.v (.int .i64 ((_ : Nat) : Int)))) rfl ?_))
              refine So.n (Nat.le_of_ble_eq_true rfl) (A.v rfl (V.mv (v := .own 2 0 _) rfl ?_))
              refine So.n (Nat.le_of_ble_eq_true rfl) (A.v rfl (V.len ty22 (v := .own 2 0 _) rfl rfl ?_))
              refine So.n (Nat.le_of_ble_eq_true rfl) (A.v rfl (V.bin (a := (.v (.int .i64 ((_ : Nat) : Int)))) (b := (.v (.int .i64 _))) (r := .v (.bool _)) rfl rfl rfl trivial ?_))
              refine So.e ?_
              show HT _ _ _ _ _
              refine R.cond rfl rfl (fun h14 => ?_) (fun h14 => ?_)
              · have h14 := of_decide_eq_true h14
                refine HT.skip ?_
                show HT _ _ _ _ _
                refine HT.seq ?_
                refine HT.block ?_
                refine HT.region S_lawTells_ok ?_
                refine So.n (Nat.le_of_ble_eq_true rfl) (A.v rfl (V.mv (v := .own 2 0 _) rfl ?_))
                refine So.n (Nat.le_of_ble_eq_true rfl) (A.v rfl (V.mv (v := .p (.v (.int .i64 ((_ : Nat) : Int)))) rfl ?_))
                refine So.n (Nat.le_of_ble_eq_true rfl) (A.v rfl (V.ixOwn10 ty22 ty5 rfl rfl rfl rfl rfl (by omega) (Int.toNat_natCast _) ?_))
                refine So.n (Nat.le_of_ble_eq_true rfl) (A.v rfl (V.ldPtr ty5 rfl rfl rfl (by first | rfl | omega | (simp; done) | (simp; omega)) (v := .p (.u8 _)) rfl ?_))
                refine So.n (Nat.le_of_ble_eq_true rfl) (A.v rfl (V.bin (a := (.u8 _)) (b := (.u8 1)) (r := .u8 _) rfl rfl rfl trivial ?_))
                refine So.n (Nat.le_of_ble_eq_true rfl) (A.v rfl (V.ixOwn10 ty22 ty5 rfl rfl rfl rfl rfl (by omega) (Int.toNat_natCast _) ?_))
                refine So.s (A.sto ty5 rfl rfl rfl (v := .p (.u8 _)) rfl trivial rfl (by first | rfl | omega | (simp; done) | (simp; omega)) rfl rfl ?_)
                refine So.e ?_
                show HT _ _ _ _ _
                refine HT.region S_lawTells_ok ?_
                refine So.n (Nat.le_of_ble_eq_true rfl) (A.v rfl (V.mv (v := .p (.v (.int .i64 ((_ : Nat) : Int)))) rfl ?_))
                refine So.n (Nat.le_of_ble_eq_true rfl) (A.v rfl (V.addI rfl rfl (by omega) ?_))
                refine So.n (Nat.le_of_ble_eq_true rfl) (A.v rfl (V.as (v := .p (.v (.int .i64 _))) rfl ?_))
                refine So.e ?_
                refine ⟨r + 1, by first | rfl | omega | (simp; done) | (simp; omega), by omega, ⟨⟨⟨le_int (by first | rfl | omega | (simp; done) | (simp; omega)), trivial⟩, ⟨.refl _, trivial⟩, ⟨.refl _, trivial⟩, ⟨.refl _, trivial⟩, ⟨.refl _, trivial⟩, ⟨.refl _, trivial⟩, ⟨.refl _, trivial⟩, ⟨.refl _, rfl⟩, ⟨.refl _, rfl⟩, ⟨.refl _, rfl⟩, ⟨.refl _, rfl⟩, ⟨.refl _, rfl⟩, trivial⟩, ⟨⟨_, rfl, .inl (ob_bs (by first | rfl | ((try dsimp only); first | exact incV_0 _ | (exact incV_step (by omega)) | rfl)) (by first | rfl | ((try dsimp only); first | exact incV_0 _ | (exact incV_step (by omega)) | rfl))), trivial⟩, ⟨_, rfl, .inl rfl, trivial⟩, ⟨_, rfl, .inl rfl, trivial⟩, ⟨_, rfl, .inl rfl, trivial⟩, ⟨_, rfl, .inl rfl, trivial⟩, ⟨_, rfl, .inl rfl, trivial⟩, trivial⟩⟩⟩
              · have h14 := of_decide_eq_false h14
                refine HT.exit ?_
                show HT _ _ _ _ _
                refine HT.seq ?_
                refine HT.drawn S_lawTells_ok S_lawTells_det mixed (by kernel_rfl) ?_
                refine Sd.n (Nat.le_of_ble_eq_true rfl) (V.mv (v := .p (.v (.bool true))) rfl ?_)
                refine Sd.n (Nat.le_of_ble_eq_true rfl) (V.mv (v := .p (.v (.bool true))) rfl ?_)
                refine Sd.gy rfl rfl (Nat.le_of_ble_eq_true rfl) (Nat.le_of_ble_eq_true rfl) ?_
                refine V.mv (v := .own 5 0 _) rfl ?_
                refine Sd.gy rfl rfl (Nat.le_of_ble_eq_true rfl) (Nat.le_of_ble_eq_true rfl) ?_
                refine V.cvOwn ty9 rfl rfl rfl rfl ?_
                refine Sd.gy rfl rfl (Nat.le_of_ble_eq_true rfl) (Nat.le_of_ble_eq_true rfl) ?_
                refine V.mv (v := .p (.bs _)) rfl ?_
                refine Sd.gy rfl rfl (Nat.le_of_ble_eq_true rfl) (Nat.le_of_ble_eq_true rfl) ?_
                refine V.mv (v := .p (.bs _)) rfl ?_
                refine Sd.gy rfl rfl (Nat.le_of_ble_eq_true rfl) (Nat.le_of_ble_eq_true rfl) ?_
                refine V.call [.p (.bs _), .p (.bs _)] 15 rfl rfl rfl rfl ⟨trivial, trivial, trivial⟩ trivial (_, _) ⟨.refl _, .refl _, trivial⟩ trivial (by first | omega | (simp only [List.drop_zero, List.take_length]; omega) | (simp; done) | (simp; omega)) (Φ := fun _ => True) (fun _ _ => trivial) (.inl ⟨trivial, trivial, trivial⟩) (v := .p (.bs _)) rfl (fun h15 => ?_)
                refine Sd.gy rfl rfl (Nat.le_of_ble_eq_true rfl) (Nat.le_of_ble_eq_true rfl) ?_
                refine V.cvBs ty9 rfl rfl ?_
                refine Sd.gy rfl rfl (Nat.le_of_ble_eq_true rfl) (Nat.le_of_ble_eq_true rfl) ?_
                refine V.bin (a := (.str _)) (b := (.str _)) (r := .v (.bool _)) rfl rfl rfl trivial ?_
                refine Sd.n (Nat.le_of_ble_eq_true rfl) (V.pkTrue (u := .p (.v (.bool _))) rfl rfl ?_)
                refine Sd.n (Nat.le_of_ble_eq_true rfl) (V.mv (v := .p (.v (.bool _))) rfl ?_)
                refine Sd.gd rfl rfl (Nat.le_of_ble_eq_true rfl) (Nat.le_of_ble_eq_true rfl) (fun h16 => ?_) (fun h16 => ?_)
                · have h16 := of_decide_eq_true h16
                  refine V.mv (v := .own 8 0 _) rfl ?_
                  refine Sd.gy rfl rfl (Nat.le_of_ble_eq_true rfl) (Nat.le_of_ble_eq_true rfl) ?_
                  refine V.cvOwn ty9 rfl rfl rfl rfl ?_
                  refine Sd.gy rfl rfl (Nat.le_of_ble_eq_true rfl) (Nat.le_of_ble_eq_true rfl) ?_
                  refine V.mv (v := .p (.bs _)) rfl ?_
                  refine Sd.gy rfl rfl (Nat.le_of_ble_eq_true rfl) (Nat.le_of_ble_eq_true rfl) ?_
                  refine V.mv (v := .p (.bs _)) rfl ?_
                  refine Sd.gy rfl rfl (Nat.le_of_ble_eq_true rfl) (Nat.le_of_ble_eq_true rfl) ?_
                  refine V.call [.p (.bs _), .p (.bs _)] 15 rfl rfl rfl rfl ⟨trivial, trivial, trivial⟩ trivial (_, _) ⟨.refl _, .refl _, trivial⟩ trivial (by first | omega | (simp; done) | (simp; omega)) (Φ := fun _ => True) (fun _ _ => trivial) (.inl ⟨trivial, trivial, trivial⟩) (v := .p (.bs _)) rfl (fun h17 => ?_)
                  refine Sd.gy rfl rfl (Nat.le_of_ble_eq_true rfl) (Nat.le_of_ble_eq_true rfl) ?_
                  refine V.cvBs ty9 rfl rfl ?_
                  refine Sd.gy rfl rfl (Nat.le_of_ble_eq_true rfl) (Nat.le_of_ble_eq_true rfl) ?_
                  refine V.bin (a := (.str _)) (b := (.str _)) (r := .v (.bool _)) rfl rfl rfl trivial ?_
                  refine Sd.n (Nat.le_of_ble_eq_true rfl) (V.pkTrue (u := .p (.v (.bool _))) rfl rfl ?_)
                  refine Sd.n (Nat.le_of_ble_eq_true rfl) (V.mv (v := .p (.v (.bool _))) rfl ?_)
                  refine Sd.gd rfl rfl (Nat.le_of_ble_eq_true rfl) (Nat.le_of_ble_eq_true rfl) (fun h18 => ?_) (fun h18 => ?_)
                  · have h18 := of_decide_eq_true h18
                    refine V.mv (v := .own 11 0 _) rfl ?_
                    refine Sd.gy rfl rfl (Nat.le_of_ble_eq_true rfl) (Nat.le_of_ble_eq_true rfl) ?_
                    refine V.cvOwn ty9 rfl rfl rfl List.take_length ?_
                    refine Sd.gy rfl rfl (Nat.le_of_ble_eq_true rfl) (Nat.le_of_ble_eq_true rfl) ?_
                    refine V.mv (v := .p (.bs _)) rfl ?_
                    refine Sd.gy rfl rfl (Nat.le_of_ble_eq_true rfl) (Nat.le_of_ble_eq_true rfl) ?_
                    refine V.mv (v := .p (.bs _)) rfl ?_
                    refine Sd.gy rfl rfl (Nat.le_of_ble_eq_true rfl) (Nat.le_of_ble_eq_true rfl) ?_
                    refine V.mv (v := .p (.v (.int .i64 _))) rfl ?_
                    refine Sd.gy rfl rfl (Nat.le_of_ble_eq_true rfl) (Nat.le_of_ble_eq_true rfl) ?_
                    refine V.call [.p (.bs _), .p (.bs _), .p (.v (.int .i64 _))] 15 rfl rfl rfl rfl ⟨trivial, trivial, trivial, trivial⟩ trivial (_, _, _) ⟨.refl _, .refl _, .refl _, trivial⟩ trivial (by first | omega | (simp only [List.drop_zero, List.take_length]; omega) | (simp; done) | (simp; omega)) (Φ := fun _ => True) (fun _ _ => trivial) (.inl ⟨trivial, trivial, trivial, trivial⟩) (v := .p (.bs _)) rfl (fun h19 => ?_)
                    refine Sd.gy rfl rfl (Nat.le_of_ble_eq_true rfl) (Nat.le_of_ble_eq_true rfl) ?_
                    refine V.cvBs ty9 rfl rfl ?_
                    refine Sd.gy rfl rfl (Nat.le_of_ble_eq_true rfl) (Nat.le_of_ble_eq_true rfl) ?_
                    refine V.bin (a := (.str _)) (b := (.str _)) (r := .v (.bool _)) rfl rfl rfl trivial ?_
                    refine Sd.n (Nat.le_of_ble_eq_true rfl) (V.pkTrue (u := .p (.v (.bool _))) rfl rfl ?_)
                    refine Sd.n (Nat.le_of_ble_eq_true rfl) (V.mv (v := .p (.v (.bool _))) rfl ?_)
                    refine Sd.gd rfl rfl (Nat.le_of_ble_eq_true rfl) (Nat.le_of_ble_eq_true rfl) (fun h20 => ?_) (fun h20 => ?_)
                    · have h20 := of_decide_eq_true h20
                      refine V.mv (v := .own 14 0 _) rfl ?_
                      refine Sd.gy rfl rfl (Nat.le_of_ble_eq_true rfl) (Nat.le_of_ble_eq_true rfl) ?_
                      refine V.cvOwn ty9 rfl rfl rfl List.take_length ?_
                      refine Sd.gy rfl rfl (Nat.le_of_ble_eq_true rfl) (Nat.le_of_ble_eq_true rfl) ?_
                      refine V.mv (v := .p (.bs _)) rfl ?_
                      refine Sd.gy rfl rfl (Nat.le_of_ble_eq_true rfl) (Nat.le_of_ble_eq_true rfl) ?_
                      refine V.mv (v := .p (.str _)) rfl ?_
                      refine Sd.gy rfl rfl (Nat.le_of_ble_eq_true rfl) (Nat.le_of_ble_eq_true rfl) ?_
                      refine V.mv (v := .p (.bs _)) rfl ?_
                      refine Sd.gy rfl rfl (Nat.le_of_ble_eq_true rfl) (Nat.le_of_ble_eq_true rfl) ?_
                      refine V.mv (v := .p (.v (.int .i64 _))) rfl ?_
                      refine Sd.gy rfl rfl (Nat.le_of_ble_eq_true rfl) (Nat.le_of_ble_eq_true rfl) ?_
                      refine V.call [.p (.bs _), .p (.str _), .p (.bs _), .p (.v (.int .i64 _))] 15 rfl rfl rfl rfl ⟨trivial, trivial, trivial, trivial, trivial⟩ trivial (_, _, _, _) ⟨.refl _, .refl _, .refl _, .refl _, trivial⟩ trivial (by first | omega | (simp; done) | (simp; omega)) (Φ := fun _ => True) (fun _ _ => trivial) (.inl ⟨trivial, trivial, trivial, trivial, trivial⟩) (v := .p (.bs _)) rfl (fun h21 => ?_)
                      refine Sd.gy rfl rfl (Nat.le_of_ble_eq_true rfl) (Nat.le_of_ble_eq_true rfl) ?_
                      refine V.cvBs ty9 rfl rfl ?_
                      refine Sd.gy rfl rfl (Nat.le_of_ble_eq_true rfl) (Nat.le_of_ble_eq_true rfl) ?_
                      refine V.bin (a := (.str _)) (b := (.str _)) (r := .v (.bool _)) rfl rfl rfl trivial ?_
                      refine Sd.n (Nat.le_of_ble_eq_true rfl) (V.pkTrue (u := .p (.v (.bool _))) rfl rfl ?_)
                      refine Sd.n (Nat.le_of_ble_eq_true rfl) (V.as (v := .p (.v (.bool _))) rfl ?_)
                      refine Sd.e ?_
                      show HT _ _ _ _ _
                      refine HT.ret ?_
                      exact ret_ok (sg []) h rfl rfl rfl trivial ⟨trivial, trivial⟩ rfl ⟨⟨⟨le_bool (by first | rfl | (simp; done)), trivial⟩, trivial⟩, trivial⟩
                    · have h20 := of_decide_eq_false h20
                      first | exact absurd (by first | rfl | (simp; done)) h20 | exact absurd h20 (by first | rfl | (simp; done))
                  · have h18 := of_decide_eq_false h18
                    first | exact absurd (by first | rfl | (simp; done)) h18 | exact absurd h18 (by first | rfl | (simp; done))
                · have h16 := of_decide_eq_false h16
                  first | exact absurd (by first | rfl | (simp; done)) h16 | exact absurd h16 (by first | rfl | (simp; done))
        · have h7 := of_decide_eq_false h7
          refine So.gn (b := false) rfl rfl rfl (Nat.le_of_ble_eq_true rfl) (Nat.le_of_ble_eq_true rfl) ?_
          refine So.gy rfl rfl (Nat.le_of_ble_eq_true rfl) (Nat.le_of_ble_eq_true rfl) ?_
          refine A.v rfl (V.pkFalse (u := .p (.v (.bool false))) rfl rfl ?_)
          refine So.n (Nat.le_of_ble_eq_true rfl) (A.v rfl (V.pkFalse (u := .p (.v (.bool false))) rfl rfl ?_))
          refine So.e ?_
          show HT _ _ _ _ _
          refine R.condF rfl ?_
          refine HT.skip ?_
          show HT _ _ _ _ _
          refine HT.seq ?_
          refine HT.region S_lawTells_ok ?_
          refine So.n (Nat.le_of_ble_eq_true rfl) (A.bsl 1 ty22 ty5 rfl (Nat.le_of_ble_eq_true rfl) (Nat.le_of_ble_eq_true rfl) (fun _ => rfl) rfl rfl trivial trivial rfl (N := 0) rfl (c := .bs []) rfl ?_)
          refine So.n (Nat.le_of_ble_eq_true rfl) (A.v rfl (V.mv (v := .p (.bs _)) rfl ?_))
          refine So.n (Nat.le_of_ble_eq_true rfl) (A.apOwn ty22 ty5 rfl rfl rfl rfl (u := .p (.bs _)) rfl rfl (l' := k) (by simp) (mn := k.length) (by simp) (by first | rfl | omega | (simp; done) | (simp; omega)) rfl rfl rfl ?_)
          refine So.n (Nat.le_of_ble_eq_true rfl) (A.v rfl (V.as (v := .own 1 0 _) rfl ?_))
          refine So.e ?_
          show HT _ _ _ _ _
          refine HT.seq ?_
          refine HT.region S_lawTells_ok ?_
          refine So.n (Nat.le_of_ble_eq_true rfl) (A.bsl 2 ty22 ty5 rfl (Nat.le_of_ble_eq_true rfl) (Nat.le_of_ble_eq_true rfl) (fun _ => rfl) rfl rfl trivial trivial rfl (N := 0) rfl (c := .bs []) rfl ?_)
          refine So.n (Nat.le_of_ble_eq_true rfl) (A.v rfl (V.mv (v := .p (.bs _)) rfl ?_))
          refine So.n (Nat.le_of_ble_eq_true rfl) (A.apOwn ty22 ty5 rfl rfl rfl rfl (u := .p (.bs _)) rfl rfl (l' := t) (by simp) (mn := t.length) (by simp) (by first | rfl | omega | (simp; done) | (simp; omega)) rfl rfl rfl ?_)
          refine So.n (Nat.le_of_ble_eq_true rfl) (A.v rfl (V.as (v := .own 2 0 _) rfl ?_))
          refine So.e ?_
          show HT _ _ _ _ _
          refine HT.seq ?_
          refine HT.region S_lawTells_ok ?_
          refine So.n (Nat.le_of_ble_eq_true rfl) (A.v rfl (V.mv (v := .own 1 0 _) rfl ?_))
          refine So.n (Nat.le_of_ble_eq_true rfl) (A.v rfl (V.mv (v := .own 2 0 _) rfl ?_))
          refine So.n (Nat.le_of_ble_eq_true rfl) (A.call0 [.p (.bs _), .p (.bs _)] 3 rfl rfl rfl rfl ⟨trivial, trivial, trivial⟩ trivial (_, _) ⟨le_full, le_full, trivial⟩ trivial (by first | omega | (simp only [List.drop_zero, List.take_length]; omega) | (simp; done) | (simp; omega)) (Φ := fun _ => True) (fun _ _ => trivial) (.inr ⟨trivial, by simp [Hp.scal, OC.scal, PV.scal, BV.scal]⟩) (v := .own 5 0 _) rfl (O' := (5, ⟨5, 1, _, true, .bs _⟩) :: _) rfl (fun h22 => ?_))
          refine So.n (Nat.le_of_ble_eq_true rfl) (A.v rfl (V.as (v := .own 5 0 _) rfl ?_))
          refine So.e ?_
          show HT _ _ _ _ _
          refine HT.seq ?_
          refine HT.region S_lawTells_ok ?_
          refine So.n (Nat.le_of_ble_eq_true rfl) (A.v rfl (V.mv (v := .own 1 0 _) rfl ?_))
          refine So.n (Nat.le_of_ble_eq_true rfl) (A.v rfl (V.mv (v := .own 2 0 _) rfl ?_))
          refine So.n (Nat.le_of_ble_eq_true rfl) (A.call0 [.p (.bs _), .p (.bs _)] 6 rfl rfl rfl rfl ⟨trivial, trivial, trivial⟩ trivial (_, _) ⟨le_full, le_full, trivial⟩ trivial (by first | omega | (simp only [List.drop_zero, List.take_length]; omega) | (simp; done) | (simp; omega)) (Φ := fun _ => True) (fun _ _ => trivial) (.inr ⟨trivial, by simp [Hp.scal, OC.scal, PV.scal, BV.scal]⟩) (v := .own 8 0 _) rfl (O' := (8, ⟨5, 1, _, true, .bs _⟩) :: _) rfl (fun h23 => ?_))
          refine So.n (Nat.le_of_ble_eq_true rfl) (A.v rfl (V.as (v := .own 8 0 _) rfl ?_))
          refine So.e ?_
          show HT _ _ _ _ _
          refine HT.seq ?_
          refine HT.region S_lawTells_ok ?_
          refine So.n (Nat.le_of_ble_eq_true rfl) (A.v rfl (V.mv (v := .own 1 0 _) rfl ?_))
          refine So.n (Nat.le_of_ble_eq_true rfl) (A.v rfl (V.mv (v := .own 2 0 _) rfl ?_))
          refine So.n (Nat.le_of_ble_eq_true rfl) (A.v rfl (V.mv (v := .p (.v (.int .i64 _))) rfl ?_))
          refine So.n (Nat.le_of_ble_eq_true rfl) (A.call0 [.p (.bs _), .p (.bs _), .p (.v (.int .i64 _))] 9 rfl rfl rfl rfl ⟨trivial, trivial, trivial, trivial⟩ trivial (_, _, _) ⟨le_full, le_full, .refl _, trivial⟩ trivial (by first | omega | (simp; done) | (simp; omega)) (Φ := fun _ => True) (fun _ _ => trivial) (.inr ⟨trivial, by simp [Hp.scal, OC.scal, PV.scal, BV.scal]⟩) (v := .own 11 0 _) rfl (O' := (11, ⟨5, 1, _, true, .bs _⟩) :: _) rfl (fun h24 => ?_))
          refine So.n (Nat.le_of_ble_eq_true rfl) (A.v rfl (V.as (v := .own 11 0 _) rfl ?_))
          refine So.e ?_
          show HT _ _ _ _ _
          refine HT.seq ?_
          refine HT.region S_lawTells_ok ?_
          refine So.n (Nat.le_of_ble_eq_true rfl) (A.v rfl (V.mv (v := .own 1 0 _) rfl ?_))
          refine So.n (Nat.le_of_ble_eq_true rfl) (A.v rfl (V.mv (v := .p (.str _)) rfl ?_))
          refine So.n (Nat.le_of_ble_eq_true rfl) (A.v rfl (V.mv (v := .own 2 0 _) rfl ?_))
          refine So.n (Nat.le_of_ble_eq_true rfl) (A.v rfl (V.mv (v := .p (.v (.int .i64 _))) rfl ?_))
          refine So.n (Nat.le_of_ble_eq_true rfl) (A.call0 [.p (.bs _), .p (.str _), .p (.bs _), .p (.v (.int .i64 _))] 12 rfl rfl rfl rfl ⟨trivial, trivial, trivial, trivial, trivial⟩ trivial (_, _, _, _) ⟨le_full, .refl _, le_full, .refl _, trivial⟩ trivial (by first | omega | (simp; done) | (simp; omega)) (Φ := fun _ => True) (fun _ _ => trivial) (.inr ⟨trivial, by simp [Hp.scal, OC.scal, PV.scal, BV.scal]⟩) (v := .own 14 0 _) rfl (O' := (14, ⟨5, 1, _, true, .bs _⟩) :: _) rfl (fun h25 => ?_))
          refine So.n (Nat.le_of_ble_eq_true rfl) (A.v rfl (V.as (v := .own 14 0 _) rfl ?_))
          refine So.e ?_
          show HT _ _ _ _ _
          refine HT.seq ?_
          refine HT.seq ?_
          refine HT.region S_lawTells_ok ?_
          refine So.n (Nat.le_of_ble_eq_true rfl) (A.v rfl (V.as (v := .p (.v (.int .i64 (0)))) rfl ?_))
          refine So.e ?_
          show HT _ _ _ _ _
          refine HT.block ?_
          refine R.loop (σ := Nat) (fun s => [(16, .p (.v (.int .i64 ((s : Int)))))]) (fun s => [(1, ⟨5, 1, k.length, true, .bs (incV s k)⟩)]) [0, 1, 2, 3, 8, 9, 10, 11, 12, 13, 14, 15] [2, 5, 8, 11, 14] (fun s => s ≤ k.length) (fun s => k.length - s) (0) (fr0 := [(0, .p (.bs _)), (1, .p (.bs _)), (2, .p (.str _)), (3, .p (.v (.int .i64 _))), (8, .p (.v (.bool false))), (9, .p (.v (.bool true))), (10, .own 1 0 _), (11, .own 2 0 _), (12, .own 5 0 _), (13, .own 8 0 _), (14, .own 11 0 _), (15, .own 14 0 _)]) (O0 := [(2, ⟨_, _, _, _, .bs _⟩), (5, ⟨_, _, _, _, .bs _⟩), (8, ⟨_, _, _, _, .bs _⟩), (11, ⟨_, _, _, _, .bs _⟩), (14, ⟨_, _, _, _, .bs _⟩)]) rfl rfl (by first | rfl | omega | (simp; done) | (simp; omega)) ⟨⟨⟨le_int (by first | rfl | omega | (simp; done) | (simp; omega)), trivial⟩, ⟨.refl _, trivial⟩, ⟨.refl _, trivial⟩, ⟨.refl _, trivial⟩, ⟨.refl _, trivial⟩, ⟨.refl _, trivial⟩, ⟨.refl _, trivial⟩, ⟨.refl _, rfl⟩, ⟨.refl _, rfl⟩, ⟨.refl _, rfl⟩, ⟨.refl _, rfl⟩, ⟨.refl _, rfl⟩, ⟨.refl _, rfl⟩, trivial⟩, ⟨⟨_, rfl, .inl (ob_bs (by first | rfl | ((try dsimp only); first | rfl | omega | (simp; done) | (simp; omega))) (by first | rfl | ((try dsimp only); first | rfl | omega | (simp; done) | (simp; omega)))), trivial⟩, ⟨_, rfl, .inl rfl, trivial⟩, ⟨_, rfl, .inl rfl, trivial⟩, ⟨_, rfl, .inl rfl, trivial⟩, ⟨_, rfl, .inl rfl, trivial⟩, ⟨_, rfl, .inl rfl, trivial⟩, trivial⟩⟩ (fun s hP0 => ?_)
          refine HT.seq ?_
          refine HT.seq ?_
          refine HT.region S_lawTells_ok ?_
          refine So.n (Nat.le_of_ble_eq_true rfl) (A.v rfl (V.mv (v := .p (.v (.int .i64 ((_ : Nat) : Int)))) rfl ?_))
          refine So.n (Nat.le_of_ble_eq_true rfl) (A.v rfl (V.mv (v := .own 1 0 _) rfl ?_))
          refine So.n (Nat.le_of_ble_eq_true rfl) (A.v rfl (V.len ty22 (v := .own 1 0 _) rfl rfl ?_))
          refine So.n (Nat.le_of_ble_eq_true rfl) (A.v rfl (V.bin (a := (.v (.int .i64 ((_ : Nat) : Int)))) (b := (.v (.int .i64 _))) (r := .v (.bool _)) rfl rfl rfl trivial ?_))
          refine So.e ?_
          show HT _ _ _ _ _
          refine R.cond rfl rfl (fun h26 => ?_) (fun h26 => ?_)
          · have h26 := of_decide_eq_true h26
            refine HT.skip ?_
            show HT _ _ _ _ _
            refine HT.seq ?_
            refine HT.block ?_
            refine HT.region S_lawTells_ok ?_
            refine So.n (Nat.le_of_ble_eq_true rfl) (A.v rfl (V.mv (v := .own 1 0 _) rfl ?_))
            refine So.n (Nat.le_of_ble_eq_true rfl) (A.v rfl (V.mv (v := .p (.v (.int .i64 ((_ : Nat) : Int)))) rfl ?_))
            refine So.n (Nat.le_of_ble_eq_true rfl) (A.v rfl (V.ixOwn10 ty22 ty5 rfl rfl rfl rfl rfl (by omega) (Int.toNat_natCast _) ?_))
            refine So.n (Nat.le_of_ble_eq_true rfl) (A.v rfl (V.ldPtr ty5 rfl rfl rfl (by first | rfl | omega | (simp; done) | (simp; omega)) (v := .p (.u8 _)) rfl ?_))
            refine So.n (Nat.le_of_ble_eq_true rfl) (A.v rfl (V.bin (a := (.u8 _)) (b := (.u8 1)) (r := .u8 _) rfl rfl rfl trivial ?_))
            refine So.n (Nat.le_of_ble_eq_true rfl) (A.v rfl (V.ixOwn10 ty22 ty5 rfl rfl rfl rfl rfl (by omega) (Int.toNat_natCast _) ?_))
            refine So.s (A.sto ty5 rfl rfl rfl (v := .p (.u8 _)) rfl trivial rfl (by first | rfl | omega | (simp; done) | (simp; omega)) rfl rfl ?_)
            refine So.e ?_
            show HT _ _ _ _ _
            refine HT.region S_lawTells_ok ?_
            refine So.n (Nat.le_of_ble_eq_true rfl) (A.v rfl (V.mv (v := .p (.v (.int .i64 ((_ : Nat) : Int)))) rfl ?_))
            refine So.n (Nat.le_of_ble_eq_true rfl) (A.v rfl (V.addI rfl rfl (by omega) ?_))
            refine So.n (Nat.le_of_ble_eq_true rfl) (A.v rfl (V.as (v := .p (.v (.int .i64 _))) rfl ?_))
            refine So.e ?_
            refine ⟨s + 1, by first | rfl | omega | (simp; done) | (simp; omega), by omega, ⟨⟨⟨le_int (by first | rfl | omega | (simp; done) | (simp; omega)), trivial⟩, ⟨.refl _, trivial⟩, ⟨.refl _, trivial⟩, ⟨.refl _, trivial⟩, ⟨.refl _, trivial⟩, ⟨.refl _, trivial⟩, ⟨.refl _, trivial⟩, ⟨.refl _, rfl⟩, ⟨.refl _, rfl⟩, ⟨.refl _, rfl⟩, ⟨.refl _, rfl⟩, ⟨.refl _, rfl⟩, ⟨.refl _, rfl⟩, trivial⟩, ⟨⟨_, rfl, .inl (ob_bs (by first | rfl | ((try dsimp only); first | exact incV_0 _ | (exact incV_step (by omega)) | rfl)) (by first | rfl | ((try dsimp only); first | exact incV_0 _ | (exact incV_step (by omega)) | rfl))), trivial⟩, ⟨_, rfl, .inl rfl, trivial⟩, ⟨_, rfl, .inl rfl, trivial⟩, ⟨_, rfl, .inl rfl, trivial⟩, ⟨_, rfl, .inl rfl, trivial⟩, ⟨_, rfl, .inl rfl, trivial⟩, trivial⟩⟩⟩
          · have h26 := of_decide_eq_false h26
            refine HT.exit ?_
            show HT _ _ _ _ _
            refine HT.seq ?_
            refine HT.seq ?_
            refine HT.region S_lawTells_ok ?_
            refine So.n (Nat.le_of_ble_eq_true rfl) (A.v rfl (V.as (v := .p (.v (.int .i64 (0)))) rfl ?_))
            refine So.e ?_
            show HT _ _ _ _ _
            refine HT.block ?_
            refine R.loop (σ := Nat) (fun r => [(17, .p (.v (.int .i64 ((r : Int)))))]) (fun r => [(2, ⟨5, 1, t.length, true, .bs (incV r t)⟩)]) [0, 1, 2, 3, 8, 9, 11, 12, 13, 14, 15] [1, 5, 8, 11, 14] (fun r => r ≤ t.length) (fun r => t.length - r) (0) (fr0 := [(0, .p (.bs _)), (1, .p (.bs _)), (2, .p (.str _)), (3, .p (.v (.int .i64 _))), (8, .p (.v (.bool false))), (9, .p (.v (.bool true))), (11, .own 2 0 _), (12, .own 5 0 _), (13, .own 8 0 _), (14, .own 11 0 _), (15, .own 14 0 _)]) (O0 := [(1, ⟨_, _, _, _, .bs _⟩), (5, ⟨_, _, _, _, .bs _⟩), (8, ⟨_, _, _, _, .bs _⟩), (11, ⟨_, _, _, _, .bs _⟩), (14, ⟨_, _, _, _, .bs _⟩)]) rfl rfl (by first | rfl | omega | (simp; done) | (simp; omega)) ⟨⟨⟨le_int (by first | rfl | omega | (simp; done) | (simp; omega)), trivial⟩, ⟨.refl _, trivial⟩, ⟨.refl _, trivial⟩, ⟨.refl _, trivial⟩, ⟨.refl _, trivial⟩, ⟨.refl _, trivial⟩, ⟨.refl _, trivial⟩, ⟨.refl _, rfl⟩, ⟨.refl _, rfl⟩, ⟨.refl _, rfl⟩, ⟨.refl _, rfl⟩, ⟨.refl _, rfl⟩, trivial⟩, ⟨⟨_, rfl, .inl (ob_bs (by first | rfl | ((try dsimp only); first | rfl | omega | (simp; done) | (simp; omega))) (by first | rfl | ((try dsimp only); first | rfl | omega | (simp; done) | (simp; omega)))), trivial⟩, ⟨_, rfl, .inl rfl, trivial⟩, ⟨_, rfl, .inl rfl, trivial⟩, ⟨_, rfl, .inl rfl, trivial⟩, ⟨_, rfl, .inl rfl, trivial⟩, ⟨_, rfl, .inl rfl, trivial⟩, trivial⟩⟩ (fun r hP1 => ?_)
            refine HT.seq ?_
            refine HT.seq ?_
            refine HT.region S_lawTells_ok ?_
            refine So.n (Nat.le_of_ble_eq_true rfl) (A.v rfl (V.mv (v := .p (.v (.int .i64 ((_ : Nat) : Int)))) rfl ?_))
            refine So.n (Nat.le_of_ble_eq_true rfl) (A.v rfl (V.mv (v := .own 2 0 _) rfl ?_))
            refine So.n (Nat.le_of_ble_eq_true rfl) (A.v rfl (V.len ty22 (v := .own 2 0 _) rfl rfl ?_))
            refine So.n (Nat.le_of_ble_eq_true rfl) (A.v rfl (V.bin (a := (.v (.int .i64 ((_ : Nat) : Int)))) (b := (.v (.int .i64 _))) (r := .v (.bool _)) rfl rfl rfl trivial ?_))
            refine So.e ?_
            show HT _ _ _ _ _
            refine R.cond rfl rfl (fun h27 => ?_) (fun h27 => ?_)
            · have h27 := of_decide_eq_true h27
              refine HT.skip ?_
              show HT _ _ _ _ _
              refine HT.seq ?_
              refine HT.block ?_
              refine HT.region S_lawTells_ok ?_
              refine So.n (Nat.le_of_ble_eq_true rfl) (A.v rfl (V.mv (v := .own 2 0 _) rfl ?_))
              refine So.n (Nat.le_of_ble_eq_true rfl) (A.v rfl (V.mv (v := .p (.v (.int .i64 ((_ : Nat) : Int)))) rfl ?_))
              refine So.n (Nat.le_of_ble_eq_true rfl) (A.v rfl (V.ixOwn10 ty22 ty5 rfl rfl rfl rfl rfl (by omega) (Int.toNat_natCast _) ?_))
              refine So.n (Nat.le_of_ble_eq_true rfl) (A.v rfl (V.ldPtr ty5 rfl rfl rfl (by first | rfl | omega | (simp; done) | (simp; omega)) (v := .p (.u8 _)) rfl ?_))
              refine So.n (Nat.le_of_ble_eq_true rfl) (A.v rfl (V.bin (a := (.u8 _)) (b := (.u8 1)) (r := .u8 _) rfl rfl rfl trivial ?_))
              refine So.n (Nat.le_of_ble_eq_true rfl) (A.v rfl (V.ixOwn10 ty22 ty5 rfl rfl rfl rfl rfl (by omega) (Int.toNat_natCast _) ?_))
              refine So.s (A.sto ty5 rfl rfl rfl (v := .p (.u8 _)) rfl trivial rfl (by first | rfl | omega | (simp; done) | (simp; omega)) rfl rfl ?_)
              refine So.e ?_
              show HT _ _ _ _ _
              refine HT.region S_lawTells_ok ?_
              refine So.n (Nat.le_of_ble_eq_true rfl) (A.v rfl (V.mv (v := .p (.v (.int .i64 ((_ : Nat) : Int)))) rfl ?_))
              refine So.n (Nat.le_of_ble_eq_true rfl) (A.v rfl (V.addI rfl rfl (by omega) ?_))
              refine So.n (Nat.le_of_ble_eq_true rfl) (A.v rfl (V.as (v := .p (.v (.int .i64 _))) rfl ?_))
              refine So.e ?_
              refine ⟨r + 1, by first | rfl | omega | (simp; done) | (simp; omega), by omega, ⟨⟨⟨le_int (by first | rfl | omega | (simp; done) | (simp; omega)), trivial⟩, ⟨.refl _, trivial⟩, ⟨.refl _, trivial⟩, ⟨.refl _, trivial⟩, ⟨.refl _, trivial⟩, ⟨.refl _, trivial⟩, ⟨.refl _, trivial⟩, ⟨.refl _, rfl⟩, ⟨.refl _, rfl⟩, ⟨.refl _, rfl⟩, ⟨.refl _, rfl⟩, ⟨.refl _, rfl⟩, trivial⟩, ⟨⟨_, rfl, .inl (ob_bs (by first | rfl | ((try dsimp only); first | exact incV_0 _ | (exact incV_step (by omega)) | rfl)) (by first | rfl | ((try dsimp only); first | exact incV_0 _ | (exact incV_step (by omega)) | rfl))), trivial⟩, ⟨_, rfl, .inl rfl, trivial⟩, ⟨_, rfl, .inl rfl, trivial⟩, ⟨_, rfl, .inl rfl, trivial⟩, ⟨_, rfl, .inl rfl, trivial⟩, ⟨_, rfl, .inl rfl, trivial⟩, trivial⟩⟩⟩
            · have h27 := of_decide_eq_false h27
              refine HT.exit ?_
              show HT _ _ _ _ _
              refine HT.seq ?_
              refine HT.drawn S_lawTells_ok S_lawTells_det mixed (by kernel_rfl) ?_
              refine Sd.n (Nat.le_of_ble_eq_true rfl) (V.mv (v := .p (.v (.bool true))) rfl ?_)
              refine Sd.n (Nat.le_of_ble_eq_true rfl) (V.mv (v := .p (.v (.bool true))) rfl ?_)
              refine Sd.gy rfl rfl (Nat.le_of_ble_eq_true rfl) (Nat.le_of_ble_eq_true rfl) ?_
              refine V.mv (v := .own 5 0 _) rfl ?_
              refine Sd.gy rfl rfl (Nat.le_of_ble_eq_true rfl) (Nat.le_of_ble_eq_true rfl) ?_
              refine V.cvOwn ty9 rfl rfl rfl rfl ?_
              refine Sd.gy rfl rfl (Nat.le_of_ble_eq_true rfl) (Nat.le_of_ble_eq_true rfl) ?_
              refine V.mv (v := .p (.bs _)) rfl ?_
              refine Sd.gy rfl rfl (Nat.le_of_ble_eq_true rfl) (Nat.le_of_ble_eq_true rfl) ?_
              refine V.mv (v := .p (.bs _)) rfl ?_
              refine Sd.gy rfl rfl (Nat.le_of_ble_eq_true rfl) (Nat.le_of_ble_eq_true rfl) ?_
              refine V.call [.p (.bs _), .p (.bs _)] 15 rfl rfl rfl rfl ⟨trivial, trivial, trivial⟩ trivial (_, _) ⟨.refl _, .refl _, trivial⟩ trivial (by first | omega | (simp only [List.drop_zero, List.take_length]; omega) | (simp; done) | (simp; omega)) (Φ := fun _ => True) (fun _ _ => trivial) (.inl ⟨trivial, trivial, trivial⟩) (v := .p (.bs _)) rfl (fun h28 => ?_)
              refine Sd.gy rfl rfl (Nat.le_of_ble_eq_true rfl) (Nat.le_of_ble_eq_true rfl) ?_
              refine V.cvBs ty9 rfl rfl ?_
              refine Sd.gy rfl rfl (Nat.le_of_ble_eq_true rfl) (Nat.le_of_ble_eq_true rfl) ?_
              refine V.bin (a := (.str _)) (b := (.str _)) (r := .v (.bool _)) rfl rfl rfl trivial ?_
              refine Sd.n (Nat.le_of_ble_eq_true rfl) (V.pkTrue (u := .p (.v (.bool _))) rfl rfl ?_)
              refine Sd.n (Nat.le_of_ble_eq_true rfl) (V.mv (v := .p (.v (.bool _))) rfl ?_)
              refine Sd.gd rfl rfl (Nat.le_of_ble_eq_true rfl) (Nat.le_of_ble_eq_true rfl) (fun h29 => ?_) (fun h29 => ?_)
              · have h29 := of_decide_eq_true h29
                refine V.mv (v := .own 8 0 _) rfl ?_
                refine Sd.gy rfl rfl (Nat.le_of_ble_eq_true rfl) (Nat.le_of_ble_eq_true rfl) ?_
                refine V.cvOwn ty9 rfl rfl rfl rfl ?_
                refine Sd.gy rfl rfl (Nat.le_of_ble_eq_true rfl) (Nat.le_of_ble_eq_true rfl) ?_
                refine V.mv (v := .p (.bs _)) rfl ?_
                refine Sd.gy rfl rfl (Nat.le_of_ble_eq_true rfl) (Nat.le_of_ble_eq_true rfl) ?_
                refine V.mv (v := .p (.bs _)) rfl ?_
                refine Sd.gy rfl rfl (Nat.le_of_ble_eq_true rfl) (Nat.le_of_ble_eq_true rfl) ?_
                refine V.call [.p (.bs _), .p (.bs _)] 15 rfl rfl rfl rfl ⟨trivial, trivial, trivial⟩ trivial (_, _) ⟨.refl _, .refl _, trivial⟩ trivial (by first | omega | (simp; done) | (simp; omega)) (Φ := fun _ => True) (fun _ _ => trivial) (.inl ⟨trivial, trivial, trivial⟩) (v := .p (.bs _)) rfl (fun h30 => ?_)
                refine Sd.gy rfl rfl (Nat.le_of_ble_eq_true rfl) (Nat.le_of_ble_eq_true rfl) ?_
                refine V.cvBs ty9 rfl rfl ?_
                refine Sd.gy rfl rfl (Nat.le_of_ble_eq_true rfl) (Nat.le_of_ble_eq_true rfl) ?_
                refine V.bin (a := (.str _)) (b := (.str _)) (r := .v (.bool _)) rfl rfl rfl trivial ?_
                refine Sd.n (Nat.le_of_ble_eq_true rfl) (V.pkTrue (u := .p (.v (.bool _))) rfl rfl ?_)
                refine Sd.n (Nat.le_of_ble_eq_true rfl) (V.mv (v := .p (.v (.bool _))) rfl ?_)
                refine Sd.gd rfl rfl (Nat.le_of_ble_eq_true rfl) (Nat.le_of_ble_eq_true rfl) (fun h31 => ?_) (fun h31 => ?_)
                · have h31 := of_decide_eq_true h31
                  refine V.mv (v := .own 11 0 _) rfl ?_
                  refine Sd.gy rfl rfl (Nat.le_of_ble_eq_true rfl) (Nat.le_of_ble_eq_true rfl) ?_
                  refine V.cvOwn ty9 rfl rfl rfl List.take_length ?_
                  refine Sd.gy rfl rfl (Nat.le_of_ble_eq_true rfl) (Nat.le_of_ble_eq_true rfl) ?_
                  refine V.mv (v := .p (.bs _)) rfl ?_
                  refine Sd.gy rfl rfl (Nat.le_of_ble_eq_true rfl) (Nat.le_of_ble_eq_true rfl) ?_
                  refine V.mv (v := .p (.bs _)) rfl ?_
                  refine Sd.gy rfl rfl (Nat.le_of_ble_eq_true rfl) (Nat.le_of_ble_eq_true rfl) ?_
                  refine V.mv (v := .p (.v (.int .i64 _))) rfl ?_
                  refine Sd.gy rfl rfl (Nat.le_of_ble_eq_true rfl) (Nat.le_of_ble_eq_true rfl) ?_
                  refine V.call [.p (.bs _), .p (.bs _), .p (.v (.int .i64 _))] 15 rfl rfl rfl rfl ⟨trivial, trivial, trivial, trivial⟩ trivial (_, _, _) ⟨.refl _, .refl _, .refl _, trivial⟩ trivial (by first | omega | (simp only [List.drop_zero, List.take_length]; omega) | (simp; done) | (simp; omega)) (Φ := fun _ => True) (fun _ _ => trivial) (.inl ⟨trivial, trivial, trivial, trivial⟩) (v := .p (.bs _)) rfl (fun h32 => ?_)
                  refine Sd.gy rfl rfl (Nat.le_of_ble_eq_true rfl) (Nat.le_of_ble_eq_true rfl) ?_
                  refine V.cvBs ty9 rfl rfl ?_
                  refine Sd.gy rfl rfl (Nat.le_of_ble_eq_true rfl) (Nat.le_of_ble_eq_true rfl) ?_
                  refine V.bin (a := (.str _)) (b := (.str _)) (r := .v (.bool _)) rfl rfl rfl trivial ?_
                  refine Sd.n (Nat.le_of_ble_eq_true rfl) (V.pkTrue (u := .p (.v (.bool _))) rfl rfl ?_)
                  refine Sd.n (Nat.le_of_ble_eq_true rfl) (V.mv (v := .p (.v (.bool _))) rfl ?_)
                  refine Sd.gd rfl rfl (Nat.le_of_ble_eq_true rfl) (Nat.le_of_ble_eq_true rfl) (fun h33 => ?_) (fun h33 => ?_)
                  · have h33 := of_decide_eq_true h33
                    refine V.mv (v := .own 14 0 _) rfl ?_
                    refine Sd.gy rfl rfl (Nat.le_of_ble_eq_true rfl) (Nat.le_of_ble_eq_true rfl) ?_
                    refine V.cvOwn ty9 rfl rfl rfl List.take_length ?_
                    refine Sd.gy rfl rfl (Nat.le_of_ble_eq_true rfl) (Nat.le_of_ble_eq_true rfl) ?_
                    refine V.mv (v := .p (.bs _)) rfl ?_
                    refine Sd.gy rfl rfl (Nat.le_of_ble_eq_true rfl) (Nat.le_of_ble_eq_true rfl) ?_
                    refine V.mv (v := .p (.str _)) rfl ?_
                    refine Sd.gy rfl rfl (Nat.le_of_ble_eq_true rfl) (Nat.le_of_ble_eq_true rfl) ?_
                    refine V.mv (v := .p (.bs _)) rfl ?_
                    refine Sd.gy rfl rfl (Nat.le_of_ble_eq_true rfl) (Nat.le_of_ble_eq_true rfl) ?_
                    refine V.mv (v := .p (.v (.int .i64 _))) rfl ?_
                    refine Sd.gy rfl rfl (Nat.le_of_ble_eq_true rfl) (Nat.le_of_ble_eq_true rfl) ?_
                    refine V.call [.p (.bs _), .p (.str _), .p (.bs _), .p (.v (.int .i64 _))] 15 rfl rfl rfl rfl ⟨trivial, trivial, trivial, trivial, trivial⟩ trivial (_, _, _, _) ⟨.refl _, .refl _, .refl _, .refl _, trivial⟩ trivial (by first | omega | (simp; done) | (simp; omega)) (Φ := fun _ => True) (fun _ _ => trivial) (.inl ⟨trivial, trivial, trivial, trivial, trivial⟩) (v := .p (.bs _)) rfl (fun h34 => ?_)
                    refine Sd.gy rfl rfl (Nat.le_of_ble_eq_true rfl) (Nat.le_of_ble_eq_true rfl) ?_
                    refine V.cvBs ty9 rfl rfl ?_
                    refine Sd.gy rfl rfl (Nat.le_of_ble_eq_true rfl) (Nat.le_of_ble_eq_true rfl) ?_
                    refine V.bin (a := (.str _)) (b := (.str _)) (r := .v (.bool _)) rfl rfl rfl trivial ?_
                    refine Sd.n (Nat.le_of_ble_eq_true rfl) (V.pkTrue (u := .p (.v (.bool _))) rfl rfl ?_)
                    refine Sd.n (Nat.le_of_ble_eq_true rfl) (V.as (v := .p (.v (.bool _))) rfl ?_)
                    refine Sd.e ?_
                    show HT _ _ _ _ _
                    refine HT.ret ?_
                    exact ret_ok (sg []) h rfl rfl rfl trivial ⟨trivial, trivial⟩ rfl ⟨⟨⟨le_bool (by first | rfl | (simp; done)), trivial⟩, trivial⟩, trivial⟩
                  · have h33 := of_decide_eq_false h33
                    first | exact absurd (by first | rfl | (simp; done)) h33 | exact absurd h33 (by first | rfl | (simp; done))
                · have h31 := of_decide_eq_false h31
                  first | exact absurd (by first | rfl | (simp; done)) h31 | exact absurd h31 (by first | rfl | (simp; done))
              · have h29 := of_decide_eq_false h29
                first | exact absurd (by first | rfl | (simp; done)) h29 | exact absurd h29 (by first | rfl | (simp; done))
      · have h6 := of_decide_eq_true h6
        refine So.gn (b := true) rfl rfl rfl (Nat.le_of_ble_eq_true rfl) (Nat.le_of_ble_eq_true rfl) ?_
        refine So.gn (b := true) rfl rfl rfl (Nat.le_of_ble_eq_true rfl) (Nat.le_of_ble_eq_true rfl) ?_
        refine So.gu rfl rfl (Nat.le_of_ble_eq_true rfl) ?_
        refine So.gu rfl rfl (Nat.le_of_ble_eq_true rfl) ?_
        refine So.gn (b := true) rfl rfl rfl (Nat.le_of_ble_eq_true rfl) (Nat.le_of_ble_eq_true rfl) ?_
        refine So.n (Nat.le_of_ble_eq_true rfl) (A.v rfl (V.pkTrue (u := .p (.v (.bool true))) rfl rfl ?_))
        refine So.e ?_
        show HT _ _ _ _ _
        refine R.condT rfl ?_
        refine HT.seq ?_
        refine HT.region S_lawTells_ok ?_
        refine So.n (Nat.le_of_ble_eq_true rfl) (A.v rfl (V.mv (v := .p (.v (.bool true))) rfl ?_))
        refine So.n (Nat.le_of_ble_eq_true rfl) (A.v rfl (V.as (v := .p (.v (.bool true))) rfl ?_))
        refine So.e ?_
        show HT _ _ _ _ _
        refine HT.ret ?_
        exact ret_ok (sg []) h rfl rfl rfl trivial ⟨trivial, trivial⟩ rfl ⟨⟨⟨le_bool (by first | rfl | (simp; done)), trivial⟩, trivial⟩, trivial⟩
    · have h5 := of_decide_eq_true h5
      refine So.gn (b := true) rfl rfl rfl (Nat.le_of_ble_eq_true rfl) (Nat.le_of_ble_eq_true rfl) ?_
      refine So.gn (b := true) rfl rfl rfl (Nat.le_of_ble_eq_true rfl) (Nat.le_of_ble_eq_true rfl) ?_
      refine So.n (Nat.le_of_ble_eq_true rfl) (A.v rfl (V.pkTrue (u := .p (.v (.bool true))) rfl rfl ?_))
      refine So.n (Nat.le_of_ble_eq_true rfl) (A.v rfl (V.mv (v := .p (.v (.bool true))) rfl ?_))
      refine So.gn (b := true) rfl rfl rfl (Nat.le_of_ble_eq_true rfl) (Nat.le_of_ble_eq_true rfl) ?_
      refine So.gn (b := true) rfl rfl rfl (Nat.le_of_ble_eq_true rfl) (Nat.le_of_ble_eq_true rfl) ?_
      refine So.gn (b := true) rfl rfl rfl (Nat.le_of_ble_eq_true rfl) (Nat.le_of_ble_eq_true rfl) ?_
      refine So.gu rfl rfl (Nat.le_of_ble_eq_true rfl) ?_
      refine So.gu rfl rfl (Nat.le_of_ble_eq_true rfl) ?_
      refine So.gn (b := true) rfl rfl rfl (Nat.le_of_ble_eq_true rfl) (Nat.le_of_ble_eq_true rfl) ?_
      refine So.n (Nat.le_of_ble_eq_true rfl) (A.v rfl (V.pkTrue (u := .p (.v (.bool true))) rfl rfl ?_))
      refine So.e ?_
      show HT _ _ _ _ _
      refine R.condT rfl ?_
      refine HT.seq ?_
      refine HT.region S_lawTells_ok ?_
      refine So.n (Nat.le_of_ble_eq_true rfl) (A.v rfl (V.mv (v := .p (.v (.bool true))) rfl ?_))
      refine So.n (Nat.le_of_ble_eq_true rfl) (A.v rfl (V.as (v := .p (.v (.bool true))) rfl ?_))
      refine So.e ?_
      show HT _ _ _ _ _
      refine HT.ret ?_
      exact ret_ok (sg []) h rfl rfl rfl trivial ⟨trivial, trivial⟩ rfl ⟨⟨⟨le_bool (by first | rfl | (simp; done)), trivial⟩, trivial⟩, trivial⟩
  · have h3 := of_decide_eq_true h3
    refine So.gn (b := true) rfl rfl rfl (Nat.le_of_ble_eq_true rfl) (Nat.le_of_ble_eq_true rfl) ?_
    refine So.n (Nat.le_of_ble_eq_true rfl) (A.v rfl (V.pkTrue (u := .p (.v (.bool true))) rfl rfl ?_))
    refine So.n (Nat.le_of_ble_eq_true rfl) (A.v rfl (V.mv (v := .p (.v (.bool true))) rfl ?_))
    refine So.gn (b := true) rfl rfl rfl (Nat.le_of_ble_eq_true rfl) (Nat.le_of_ble_eq_true rfl) ?_
    refine So.gn (b := true) rfl rfl rfl (Nat.le_of_ble_eq_true rfl) (Nat.le_of_ble_eq_true rfl) ?_
    refine So.gn (b := true) rfl rfl rfl (Nat.le_of_ble_eq_true rfl) (Nat.le_of_ble_eq_true rfl) ?_
    refine So.n (Nat.le_of_ble_eq_true rfl) (A.v rfl (V.pkTrue (u := .p (.v (.bool true))) rfl rfl ?_))
    refine So.n (Nat.le_of_ble_eq_true rfl) (A.v rfl (V.mv (v := .p (.v (.bool true))) rfl ?_))
    refine So.gn (b := true) rfl rfl rfl (Nat.le_of_ble_eq_true rfl) (Nat.le_of_ble_eq_true rfl) ?_
    refine So.gn (b := true) rfl rfl rfl (Nat.le_of_ble_eq_true rfl) (Nat.le_of_ble_eq_true rfl) ?_
    refine So.gn (b := true) rfl rfl rfl (Nat.le_of_ble_eq_true rfl) (Nat.le_of_ble_eq_true rfl) ?_
    refine So.gu rfl rfl (Nat.le_of_ble_eq_true rfl) ?_
    refine So.gu rfl rfl (Nat.le_of_ble_eq_true rfl) ?_
    refine So.gn (b := true) rfl rfl rfl (Nat.le_of_ble_eq_true rfl) (Nat.le_of_ble_eq_true rfl) ?_
    refine So.n (Nat.le_of_ble_eq_true rfl) (A.v rfl (V.pkTrue (u := .p (.v (.bool true))) rfl rfl ?_))
    refine So.e ?_
    show HT _ _ _ _ _
    refine R.condT rfl ?_
    refine HT.seq ?_
    refine HT.region S_lawTells_ok ?_
    refine So.n (Nat.le_of_ble_eq_true rfl) (A.v rfl (V.mv (v := .p (.v (.bool true))) rfl ?_))
    refine So.n (Nat.le_of_ble_eq_true rfl) (A.v rfl (V.as (v := .p (.v (.bool true))) rfl ?_))
    refine So.e ?_
    show HT _ _ _ _ _
    refine HT.ret ?_
    exact ret_ok (sg []) h rfl rfl rfl trivial ⟨trivial, trivial⟩ rfl ⟨⟨⟨le_bool (by first | rfl | (simp; done)), trivial⟩, trivial⟩, trivial⟩

end Go.Vh
