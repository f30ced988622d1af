/- What is proved: each function of the seat's program does what its contract says, wherever it is called; no condition. -/
import Derived.Test.YtkjomelpdpclcaaDoorWalk0
import Derived.Test.YtkjomelpdpclcaaDoorPure0
set_option linter.unusedVariables false
set_option linter.unusedSimpArgs false
set_option linter.unusedVariables false
set_option linter.unusedSimpArgs false
namespace Go.Vh
open Go Go.Vc Go.Proofs Go.Vw
def hlabelSp : Sp := ⟨[], mkE (α := (List UInt8) × (List UInt8) × (List UInt8) × Int) (fun (k, m, c, n) => [.p (.bs (k)), .p (.str (m)), .p (.bs (c)), .p (.v (.int .i64 (n)))]) (fun (k, m, c, n) => []) (fun (k, m, c, n) => k.length ≤ 1000000000) (fun (k, m, c, n) => [.own 2 (0) ((labelF k m c n).length)]) (fun (k, m, c, n) => [(2, ⟨5, 1, (labelF k m c n).length, true, .bs (labelF k m c n)⟩)])⟩
def S_hlabel : FuncId → Option Sp := fun f => if f = 28 then some longSp else if f = 27 then some concatSp else if f = 26 then some hexpandSp else none
theorem S_hlabel_ok : ∀ f s, S_hlabel f = some s → FOK Tryd.prog gl f s := fun f s h => by
 unfold S_hlabel at h
 split at h
 ·rename_i e; cases h; subst e; exact long_ok
 split at h
 ·rename_i e; cases h; subst e; exact concat_ok
 split at h
 ·rename_i e; cases h; subst e; exact hexpand_ok
 cases h
set_option maxHeartbeats 1000000 in
set_option maxRecDepth 20000 in
theorem hlabel_ok : FOK Tryd.prog gl 18 hlabelSp := by
 refine FOK.ofE (tyOf_ok Tryd.prog) (slots := [8]) (nt := 42) Tryd.func18 rfl rfl rfl rfl (by decide) 4 (fun ⟨_, _, _, _⟩ => rfl) (by decide) (fun ⟨_, _, _, _⟩ => ⟨trivial, trivial, trivial, trivial, trivial⟩) ?_
 rintro ⟨k, m, c, n⟩ kk hlen hpre h
 have hl0 : (k).length ≤ 9223372036854775807 := hlen.1
 have hl2 : (c).length ≤ 9223372036854775807 := hlen.2.2.1
 replace hpre : k.length ≤ 1000000000 := hpre
 show HT (cx Tryd.prog 42 (tyOf Tryd.prog) gl []) _ [(0, .p (.bs (k))), (1, .p (.str (m))), (2, .p (.bs (c))), (3, .p (.v (.int .i64 (n))))] [] _
 have hl1 := longF_len (lbl ++ m)
 have hl2 := longF_len c
 have hl3 : (lbl ++ m).length = 8 + m.length := by rw [List.length_append]; rfl
 have hl4 := congrArg List.length (infoG_cat m c n)
 have hl5 : (infoG m c n).length = 2 + (longF (lbl ++ m)).length + (longF c).length := by unfold infoG; simp; omega
 refine HT.seq (HT.region S_hlabel_ok (So.q rfl rfl (V.as (v := .p (.v (.slice none 0 0))) rfl (So.e (HT.seq (HT.seq (HT.region S_hlabel_ok (So.q rfl rfl (V.mv (v := .p (.v (.int .i64 _))) rfl (So.q rfl rfl (V.bin (a := (.v (.int .i64 _))) (b := (.v (.int .i64 (0)))) (r := .v (.bool _)) rfl rfl rfl trivial (So.q rfl rfl (V.mv (v := .p (.v (.bool _))) rfl ?_)))))))))))))
 refine So.gd rfl rfl (lk rfl) (lk rfl) (fun h1 => ?_) (fun h1 => ?_)
 ·have h1 := of_decide_eq_false h1
  refine A.v rfl (V.mv (v := .p (.v (.int .i64 _))) rfl (So.gy rfl rfl (lk rfl) (lk rfl) (A.v rfl (V.bin (a := (.v (.int .i64 _))) (b := (.v (.int .i64 (8160)))) (r := .v (.bool _)) rfl rfl rfl trivial (So.q rfl rfl (V.pkFalse (u := .p (.v (.bool _))) rfl rfl (So.q rfl rfl (V.mv (v := .p (.v (.bool _))) rfl ?_))))))))
  refine So.gd rfl rfl (lk rfl) (lk rfl) (fun h2 => ?_) (fun h2 => ?_)
  ·have h2 := of_decide_eq_false h2
   refine A.v rfl (V.mv (v := .p (.str _)) rfl (So.gy rfl rfl (lk rfl) (lk rfl) (A.v rfl (V.lenStr ty9 rfl (So.gy rfl rfl (lk rfl) (lk rfl) (A.v rfl (V.bin (a := (.v (.int .i64 _))) (b := (.v (.int .i64 (40)))) (r := .v (.bool _)) rfl rfl rfl trivial (So.q rfl rfl (V.pkFalse (u := .p (.v (.bool _))) rfl rfl (So.q rfl rfl (V.mv (v := .p (.v (.bool _))) rfl ?_)))))))))))
   refine So.gd rfl rfl (lk rfl) (lk rfl) (fun h3 => ?_) (fun h3 => ?_)
   ·have h3 := of_decide_eq_false h3
    refine A.v rfl (V.mv (v := .p (.bs _)) rfl (So.gy rfl rfl (lk rfl) (lk rfl) (A.v rfl (V.len ty22 (v := .p (.bs _)) rfl rfl (So.gy rfl rfl (lk rfl) (lk rfl) (A.v rfl (V.bin (a := (.v (.int .i64 _))) (b := (.v (.int .i64 (16000)))) (r := .v (.bool _)) rfl rfl rfl trivial (So.q rfl rfl (V.pkFalse (u := .p (.v (.bool _))) rfl rfl (So.e ?_))))))))))
    show HT _ _ _ _ _
    refine R.cond rfl rfl (fun h4 => ?_) (fun h4 => ?_)
    ·have h4 := of_decide_eq_true h4
     refine HT.seq (HT.region S_hlabel_ok (So.q rfl rfl (V.as (v := .p (.v (.slice none 0 0))) rfl (So.e ?_))))
     show HT _ _ _ _ _
     refine R.phan 8 1 5 1 (.bs []) rfl rfl rfl ⟨rfl, rfl⟩ ?_
     refine HT.ret ?_
     exact ret_ok (sg [(2, 1)]) h rfl rfl rfl ⟨trivial, trivial⟩ ⟨rfl, trivial⟩ rfl ⟨⟨⟨le_own2 (by first | rfl | omega) (by first | (show (_ : Nat) = _; first | (rw [labelF_no (by omega)]; rfl) | (rw [labelF_yes (by omega)])) | (show (_ : List UInt8) = _; first | (rw [labelF_no (by omega)]; done) | (rw [labelF_yes (by omega)])) | rfl), rfl⟩, trivial⟩, ⟨⟨_, rfl, .inl (ob_bs (by first | rfl | ((try dsimp only); (first | (show (_ : Nat) = _; first | (rw [labelF_no (by omega)]; rfl) | (rw [labelF_yes (by omega)])) | (show (_ : List UInt8) = _; first | (rw [labelF_no (by omega)]; done) | (rw [labelF_yes (by omega)])) | rfl))) (by first | rfl | ((try dsimp only); (first | (show (_ : Nat) = _; first | (rw [labelF_no (by omega)]; rfl) | (rw [labelF_yes (by omega)])) | (show (_ : List UInt8) = _; first | (rw [labelF_no (by omega)]; done) | (rw [labelF_yes (by omega)])) | rfl)))), trivial⟩, trivial⟩⟩
    ·have h4 := of_decide_eq_false h4
     refine HT.skip (HT.seq (HT.region S_hlabel_ok (So.q rfl rfl (V.mv (v := .p (.bs _)) rfl (So.q rfl rfl (V.mv (v := .p (.v (.int .i64 _))) rfl (So.q rfl rfl (V.shrI (n := 8) (M := 256) rfl rfl rfl (by decide) (So.q rfl rfl (V.cvN ty5 ty3 (a := (.v (.int .i64 _))) (r := (.u8 _)) rfl rfl (So.q rfl rfl (V.mv (v := .p (.v (.int .i64 _))) rfl (So.q rfl rfl (V.cvN ty5 ty3 (a := (.v (.int .i64 _))) (r := (.u8 _)) rfl rfl (So.n (lk rfl) (A.bsl 1 ty22 ty5 rfl (lk rfl) (lk rfl) (fun _ => rfl) rfl rfl trivial ⟨trivial, trivial, trivial⟩ rfl (N := 2) rfl (c := .bs [_, _]) rfl ?_))))))))))))))))
     refine So.q rfl rfl (V.mv (v := .p (.str _)) rfl (So.q rfl rfl (V.bin (a := (.str [71, 75, 65, 32, 49, 46, 48, 32])) (b := (.str _)) (r := .str _) rfl rfl rfl (by first | rfl | omega | (simp; done) | (simp; omega) | (simp [maxLen]; omega)) (So.n (lk rfl) (A.cvS 2 ty22 ty5 ty9 rfl rfl (by first | rfl | omega | (simp; done) | (simp; omega) | (simp [maxLen]; omega)) rfl trivial ?_)))))
     refine So.n (lk rfl) (A.call0 [.p (.bs _)] 3 rfl rfl rfl rfl ⟨trivial, trivial⟩ trivial (lbl ++ m) ⟨le_bs (by rw [take_full]; rfl), trivial⟩ trivial (by first | omega | (simp; done) | (simp; omega)) (Φ := fun _ => True) (fun _ _ => trivial) (.inr ⟨trivial, by simp [Hp.scal, OC.scal, PV.scal, BV.scal]⟩) (v := .own 5 0 _) rfl (O' := (5, ⟨5, 1, _, true, .bs _⟩) :: _) rfl (fun h5 => ?_))
     refine So.q rfl rfl (V.mv (v := .p (.bs _)) rfl ?_)
     refine So.n (lk rfl) (A.call0 [.p (.bs _)] 6 rfl rfl rfl rfl ⟨trivial, trivial⟩ trivial _ ⟨.refl _, trivial⟩ trivial (by first | omega | (simp; done) | (simp; omega)) (Φ := fun _ => True) (fun _ _ => trivial) (.inl rfl) (v := .own 8 0 _) rfl (O' := (8, ⟨5, 1, _, true, .bs _⟩) :: _) rfl (fun h6 => ?_))
     refine So.n (lk rfl) (A.bsl 3 ty57 ty22 rfl (lk rfl) (lk rfl) (fun _ => rfl) rfl rfl trivial ⟨trivial, trivial, trivial, trivial⟩ rfl (N := 3) rfl (c := .rows _) rfl ?_)
     refine So.n (lk rfl) (A.call0 [.p (.sl _ _ _)] 4 rfl rfl rfl rfl ⟨trivial, trivial⟩ trivial [[UInt8.ofInt (n / 256), UInt8.ofInt n], longF (lbl ++ m), longF c] ⟨le_sl rfl (by intro j hj; match j, hj with | 0, _ => rfl | 1, _ => exact congrArg PV.bs (take_full _) | 2, _ => exact congrArg PV.bs (take_full _)), trivial⟩ trivial (by first | omega | (simp; done) | (simp; omega)) (Φ := fun _ => True) (fun _ _ => trivial) (.inr ⟨trivial, by simp [Hp.scal, OC.scal, PV.scal, BV.scal]⟩) (v := .own 6 0 _) rfl (O' := (6, ⟨5, 1, _, true, .bs _⟩) :: _) rfl (fun h7 => ?_))
     refine So.q rfl rfl (V.mv (v := .p (.v (.int .i64 _))) rfl ?_)
     refine So.n (lk rfl) (A.call0 [.p (.bs _), .p (.bs _), .p (.v (.int .i64 _))] 7 rfl rfl rfl rfl ⟨trivial, trivial, trivial, trivial⟩ trivial (k, infoG m c n, n) ⟨.refl _, le_bs (by rw [take_full]; exact infoG_cat m c n), .refl _, trivial⟩ trivial (by first | omega | (simp; done) | (simp; omega)) (Φ := fun _ => True) (fun _ _ => trivial) (.inr ⟨trivial, by simp [Hp.scal, OC.scal, PV.scal, BV.scal]⟩) (v := .own 9 0 _) rfl (O' := (9, ⟨5, 1, _, true, .bs _⟩) :: _) rfl (fun h8 => ?_))
     refine So.q rfl rfl (V.as (v := .own 9 0 _) rfl (So.e ?_))
     show HT _ _ _ _ _
     refine HT.ret ?_
     exact ret_ok (sg [(2, 9)]) h rfl rfl rfl ⟨trivial, trivial⟩ ⟨rfl, trivial⟩ rfl ⟨⟨⟨le_own2 (by first | rfl | omega) (by first | (show (_ : Nat) = _; first | (rw [labelF_no (by omega)]; rfl) | (rw [labelF_yes (by omega)])) | (show (_ : List UInt8) = _; first | (rw [labelF_no (by omega)]; done) | (rw [labelF_yes (by omega)])) | rfl), rfl⟩, trivial⟩, ⟨⟨_, rfl, .inl (ob_bs (by first | rfl | ((try dsimp only); (first | (show (_ : Nat) = _; first | (rw [labelF_no (by omega)]; rfl) | (rw [labelF_yes (by omega)])) | (show (_ : List UInt8) = _; first | (rw [labelF_no (by omega)]; done) | (rw [labelF_yes (by omega)])) | rfl))) (by first | rfl | ((try dsimp only); (first | (show (_ : Nat) = _; first | (rw [labelF_no (by omega)]; rfl) | (rw [labelF_yes (by omega)])) | (show (_ : List UInt8) = _; first | (rw [labelF_no (by omega)]; done) | (rw [labelF_yes (by omega)])) | rfl)))), trivial⟩, trivial⟩⟩
   ·have h3 := of_decide_eq_true h3
    refine So.gn (b := true) rfl rfl rfl (lk rfl) (lk rfl) (So.gn (b := true) rfl rfl rfl (lk rfl) (lk rfl) (So.q rfl rfl (V.pkTrue (u := .p (.v (.bool true))) rfl rfl (So.e ?_))))
    show HT _ _ _ _ _
    refine R.condT rfl ?_
    refine HT.seq (HT.region S_hlabel_ok (So.q rfl rfl (V.as (v := .p (.v (.slice none 0 0))) rfl (So.e ?_))))
    show HT _ _ _ _ _
    refine R.phan 8 1 5 1 (.bs []) rfl rfl rfl ⟨rfl, rfl⟩ ?_
    refine HT.ret ?_
    exact ret_ok (sg [(2, 1)]) h rfl rfl rfl ⟨trivial, trivial⟩ ⟨rfl, trivial⟩ rfl ⟨⟨⟨le_own2 (by first | rfl | omega) (by first | (show (_ : Nat) = _; first | (rw [labelF_no (by omega)]; rfl) | (rw [labelF_yes (by omega)])) | (show (_ : List UInt8) = _; first | (rw [labelF_no (by omega)]; done) | (rw [labelF_yes (by omega)])) | rfl), rfl⟩, trivial⟩, ⟨⟨_, rfl, .inl (ob_bs (by first | rfl | ((try dsimp only); (first | (show (_ : Nat) = _; first | (rw [labelF_no (by omega)]; rfl) | (rw [labelF_yes (by omega)])) | (show (_ : List UInt8) = _; first | (rw [labelF_no (by omega)]; done) | (rw [labelF_yes (by omega)])) | rfl))) (by first | rfl | ((try dsimp only); (first | (show (_ : Nat) = _; first | (rw [labelF_no (by omega)]; rfl) | (rw [labelF_yes (by omega)])) | (show (_ : List UInt8) = _; first | (rw [labelF_no (by omega)]; done) | (rw [labelF_yes (by omega)])) | rfl)))), trivial⟩, trivial⟩⟩
  ·have h2 := of_decide_eq_true h2
   refine So.gn (b := true) rfl rfl rfl (lk rfl) (lk rfl) (So.gn (b := true) rfl rfl rfl (lk rfl) (lk rfl) (So.q rfl rfl (V.pkTrue (u := .p (.v (.bool true))) rfl rfl (So.q rfl rfl (V.mv (v := .p (.v (.bool true))) rfl (So.gn (b := true) rfl rfl rfl (lk rfl) (lk rfl) (So.gn (b := true) rfl rfl rfl (lk rfl) (lk rfl) (So.gn (b := true) rfl rfl rfl (lk rfl) (lk rfl) (So.q rfl rfl (V.pkTrue (u := .p (.v (.bool true))) rfl rfl (So.e ?_)))))))))))
   show HT _ _ _ _ _
   refine R.condT rfl ?_
   refine HT.seq (HT.region S_hlabel_ok (So.q rfl rfl (V.as (v := .p (.v (.slice none 0 0))) rfl (So.e ?_))))
   show HT _ _ _ _ _
   refine R.phan 8 1 5 1 (.bs []) rfl rfl rfl ⟨rfl, rfl⟩ ?_
   refine HT.ret ?_
   exact ret_ok (sg [(2, 1)]) h rfl rfl rfl ⟨trivial, trivial⟩ ⟨rfl, trivial⟩ rfl ⟨⟨⟨le_own2 (by first | rfl | omega) (by first | (show (_ : Nat) = _; first | (rw [labelF_no (by omega)]; rfl) | (rw [labelF_yes (by omega)])) | (show (_ : List UInt8) = _; first | (rw [labelF_no (by omega)]; done) | (rw [labelF_yes (by omega)])) | rfl), rfl⟩, trivial⟩, ⟨⟨_, rfl, .inl (ob_bs (by first | rfl | ((try dsimp only); (first | (show (_ : Nat) = _; first | (rw [labelF_no (by omega)]; rfl) | (rw [labelF_yes (by omega)])) | (show (_ : List UInt8) = _; first | (rw [labelF_no (by omega)]; done) | (rw [labelF_yes (by omega)])) | rfl))) (by first | rfl | ((try dsimp only); (first | (show (_ : Nat) = _; first | (rw [labelF_no (by omega)]; rfl) | (rw [labelF_yes (by omega)])) | (show (_ : List UInt8) = _; first | (rw [labelF_no (by omega)]; done) | (rw [labelF_yes (by omega)])) | rfl)))), trivial⟩, trivial⟩⟩
 ·have h1 := of_decide_eq_true h1
  refine So.gn (b := true) rfl rfl rfl (lk rfl) (lk rfl) (So.q rfl rfl (V.pkTrue (u := .p (.v (.bool true))) rfl rfl (So.q rfl rfl (V.mv (v := .p (.v (.bool true))) rfl (So.gn (b := true) rfl rfl rfl (lk rfl) (lk rfl) (So.gn (b := true) rfl rfl rfl (lk rfl) (lk rfl) (So.gn (b := true) rfl rfl rfl (lk rfl) (lk rfl) (So.q rfl rfl (V.pkTrue (u := .p (.v (.bool true))) rfl rfl (So.q rfl rfl (V.mv (v := .p (.v (.bool true))) rfl (So.gn (b := true) rfl rfl rfl (lk rfl) (lk rfl) (So.gn (b := true) rfl rfl rfl (lk rfl) (lk rfl) ?_)))))))))))))
  refine So.gn (b := true) rfl rfl rfl (lk rfl) (lk rfl) (So.q rfl rfl (V.pkTrue (u := .p (.v (.bool true))) rfl rfl (So.e ?_)))
  show HT _ _ _ _ _
  refine R.condT rfl ?_
  refine HT.seq (HT.region S_hlabel_ok (So.q rfl rfl (V.as (v := .p (.v (.slice none 0 0))) rfl (So.e ?_))))
  show HT _ _ _ _ _
  refine R.phan 8 1 5 1 (.bs []) rfl rfl rfl ⟨rfl, rfl⟩ ?_
  refine HT.ret ?_
  exact ret_ok (sg [(2, 1)]) h rfl rfl rfl ⟨trivial, trivial⟩ ⟨rfl, trivial⟩ rfl ⟨⟨⟨le_own2 (by first | rfl | omega) (by first | (show (_ : Nat) = _; first | (rw [labelF_no (by omega)]; rfl) | (rw [labelF_yes (by omega)])) | (show (_ : List UInt8) = _; first | (rw [labelF_no (by omega)]; done) | (rw [labelF_yes (by omega)])) | rfl), rfl⟩, trivial⟩, ⟨⟨_, rfl, .inl (ob_bs (by first | rfl | ((try dsimp only); (first | (show (_ : Nat) = _; first | (rw [labelF_no (by omega)]; rfl) | (rw [labelF_yes (by omega)])) | (show (_ : List UInt8) = _; first | (rw [labelF_no (by omega)]; done) | (rw [labelF_yes (by omega)])) | rfl))) (by first | rfl | ((try dsimp only); (first | (show (_ : Nat) = _; first | (rw [labelF_no (by omega)]; rfl) | (rw [labelF_yes (by omega)])) | (show (_ : List UInt8) = _; first | (rw [labelF_no (by omega)]; done) | (rw [labelF_yes (by omega)])) | rfl)))), trivial⟩, trivial⟩⟩
end Go.Vh

set_option linter.unusedVariables false
set_option linter.unusedSimpArgs false
namespace Go.Vh
open Go Go.Vc Go.Proofs Go.Vw
def bofSp : Sp := ⟨[], mkE (α := (List UInt8)) (fun k => [.p (.bs (k))]) (fun k => []) (fun k => k.length ≤ 1000000000) (fun k => [.agg 2 (fun j => ([.bs (kSt k), .bs (kTg k)] : List PV).getD j (.v undef))]) (fun k => [])⟩
def S_bof : FuncId → Option Sp := fun f => if f = 18 then some hlabelSp else none
theorem S_bof_ok : ∀ f s, S_bof f = some s → FOK Tryd.prog gl f s := fun f s h => by
 unfold S_bof at h
 split at h
 ·rename_i e; cases h; subst e; exact hlabel_ok
 cases h
set_option maxHeartbeats 1000000 in
set_option maxRecDepth 20000 in
theorem bof_ok : FOK Tryd.prog gl 13 bofSp := by
 refine FOK.ofEC (tyOf_ok Tryd.prog) (rvs := [.cell 2 33]) (nt := 8) Tryd.func13 rfl rfl rfl rfl (by decide) 1 (fun _ => rfl) (by decide) (fun _ => ⟨trivial, trivial⟩) ?_
 rintro k kk hlen hpre h
 have hl0 : (k).length ≤ 9223372036854775807 := hlen.1
 replace hpre : k.length ≤ 1000000000 := hpre
 show HT (cx Tryd.prog 8 (tyOf Tryd.prog) gl []) _ [(0, .p (.bs (k)))] [] _
 refine HT.seq (HT.region S_bof_ok (So.n (lk rfl) (A.alloc 1 1 ty33 rfl trivial (f := fun _ => .v (.slice none 0 0)) (fun _ _ => rfl) (So.e (HT.seq (HT.region S_bof_ok (So.q rfl rfl (V.mv (v := .p (.bs _)) rfl ?_))))))))
 refine So.n (lk rfl) (A.call0F S_bof_ok [.p (.bs _), .p (.str _), .p (.v (.slice none 0 0)), .p (.v (.int .i64 _))] 2 rfl rfl rfl rfl ⟨trivial, trivial, trivial, trivial, trivial⟩ trivial (k, nStream, [], 32) ⟨.refl _, .refl _, le_nil rfl, .refl _, trivial⟩ trivial (by first | omega | (simp; done) | (simp; omega)) (Φ := fun _ => True) (fun _ _ => trivial) (.inl rfl) (t := 4) (off := 0) rfl (O' := (4, ⟨5, 1, _, true, .bs _⟩) :: _) rfl rfl rfl (y := .p (.bs _)) rfl rfl (fun h1 => ?_))
 refine So.q rfl rfl (V.mv (v := .p (.bs _)) rfl ?_)
 refine So.n (lk rfl) (A.call0F S_bof_ok [.p (.bs _), .p (.str _), .p (.v (.slice none 0 0)), .p (.v (.int .i64 _))] 2 rfl rfl rfl rfl ⟨trivial, trivial, trivial, trivial, trivial⟩ trivial (k, nTag, [], 32) ⟨.refl _, .refl _, le_nil rfl, .refl _, trivial⟩ trivial (by first | omega | (simp; done) | (simp; omega)) (Φ := fun _ => True) (fun _ _ => trivial) (.inl rfl) (t := 4) (off := 0) rfl (O' := (4, ⟨5, 1, _, true, .bs _⟩) :: _) rfl rfl rfl (y := .p (.bs _)) rfl rfl (fun h2 => ?_))
 refine So.n (lk rfl) (A.bldS ty33 rfl rfl ⟨by first | exact trivial | exact rfl | (intro j hj; first | trivial | rfl | (simp [BV.one]; done)), by first | exact trivial | exact rfl | (intro j hj; first | trivial | rfl | (simp [BV.one]; done)), trivial⟩ rfl (f := fun j => ([.bs (kSt k), .bs (kTg k)] : List PV).getD j (.v undef)) (by exact allP_spec (P := fun j => _ = _) ⟨⟨trivial, by first | rfl | (simp only [take_full]; done) | (simp only [take_full]; rfl)⟩, by first | rfl | (simp only [take_full]; done) | (simp only [take_full]; rfl)⟩) (So.s (A.stoAg ty33 rfl (n := 2) rfl (by decide) (by intro j hj; first | rfl | trivial | (match j, hj with | 0, _ => (first | trivial | rfl) | 1, _ => (first | trivial | rfl))) rfl rfl rfl (So.e ?_))))
 show HT _ _ _ _ _
 refine HT.ret ?_
 exact retC_ok (sg []) [(2, .ptr 1 0)] [(1, ⟨33, 1, 2, true, .rows (fun j => ([.bs (kSt k), .bs (kTg k)] : List PV).getD j (.v undef))⟩)] h ⟨⟨⟨.refl _, rfl⟩, trivial⟩, ⟨⟨_, rfl, .inr (ob_rowsL (by intro j hj; match j, hj with | 0, _ => exact .refl _ | 1, _ => exact .refl _)), trivial⟩, trivial⟩⟩ ⟨rvA_cell ty33 rfl rfl rfl rfl (Nat.le_refl _) (le_agg (fun j _ => by first | rfl | (dsimp only; rw [Nat.zero_add]))), trivial⟩ trivial rfl trivial ⟨trivial, trivial⟩ rfl
end Go.Vh

set_option linter.unusedVariables false
set_option linter.unusedSimpArgs false
namespace Go.Vh
open Go Go.Vc Go.Proofs Go.Vw
def klaySp : Sp := ⟨[1], mkE (α := Nat × UInt8 × (Nat → UInt64) × Nat × Bool × Nat × UInt8) (fun (r, e, w, p, g, q, c) => [.ptr 1 (0), .p (.v (.int .i64 ((q : Int)))), .p (.u8 (c))]) (fun (r, e, w, p, g, q, c) => [(1, ⟨75, 1, 29, true, .rows (spB r e (w) (p) g)⟩)]) (fun (r, e, w, p, g, q, c) => q < 192) (fun (r, e, w, p, g, q, c) => []) (fun (r, e, w, p, g, q, c) => [(1, ⟨75, 1, 29, true, .rows (spB r e (layF w q c) (p) g)⟩)])⟩
def S_klay : FuncId → Option Sp := fun _ => none
theorem S_klay_ok : ∀ f s, S_klay f = some s → FOK Tryd.prog gl f s := fun f s h => by cases h
set_option maxHeartbeats 1000000 in
set_option maxRecDepth 20000 in
theorem klay_ok : FOK Tryd.prog gl 55 klaySp := by
 refine FOK.ofE (tyOf_ok Tryd.prog) (slots := []) (nt := 23) Tryd.func55 rfl rfl rfl rfl (by decide) 3 (fun ⟨_, _, _, _, _, _, _⟩ => rfl) (by decide) (fun ⟨_, _, _, _, _, _, _⟩ => ⟨rfl, trivial, trivial, trivial⟩) ?_
 rintro ⟨r, e, w, p, g, q, c⟩ kk hlen hpre h
 replace hpre : q < 192 := hpre
 show HT (cx Tryd.prog 23 (tyOf Tryd.prog) gl [1]) _ [(0, .ptr 1 (0)), (1, .p (.v (.int .i64 ((q : Int))))), (2, .p (.u8 (c)))] [(1, ⟨75, 1, 29, true, .rows (spB r e (w) (p) g)⟩)] _
 refine HT.tail S_klay_ok mixed 17 (by kernel_rfl) (by kernel_rfl) ?_
 refine So.q rfl rfl (V.mv (v := .ptr 1 0) rfl (So.q rfl rfl (V.mv (v := .p (.v (.int .i64 ((_ : Nat) : Int)))) rfl (So.q rfl rfl (V.quoI rfl rfl (by omega) (So.q rfl rfl (V.ncPtr rfl (So.q rfl rfl (V.faPtr ty75 rfl ty73 (lk rfl) rfl rfl (lk rfl) (So.q rfl rfl (V.ixArrP1 (mi := q / 8) ty73 ty66 rfl rfl rfl (by first | rfl | omega | (simp; done) | (simp; omega)) rfl (by omega) (by omega) (So.q rfl rfl (V.ldPtr ty66 rfl rfl rfl (by first | rfl | omega | (simp; done) | (simp; omega)) (v := .p (.u64 (w (q / 8)))) (by first | exact (congrArg BV.p (spB_w (i := q / 8) (by omega) (by omega))).trans (by rfl) | exact congrArg BV.p (spB_w (i := q / 8) (by omega) (by omega))) (So.q rfl rfl (V.mv (v := .p (.u8 _)) rfl (So.q rfl rfl (V.cvN ty66 ty5 (a := (.u8 _)) (r := (.u64 _)) rfl rfl (So.q rfl rfl (V.mv (v := .p (.v (.int .i64 ((_ : Nat) : Int)))) rfl ?_)))))))))))))))))))
 refine So.q rfl rfl (V.remI rfl rfl (by omega) (So.q rfl rfl (V.mulI rfl rfl (by omega) (So.q rfl rfl (V.bin (a := (.u64 _)) (b := (.v (.int .i64 _))) (r := .u64 _) rfl rfl rfl (by first | rfl | omega | (simp; done) | (simp; omega)) (So.q rfl rfl (V.bin (a := (.u64 _)) (b := (.u64 _)) (r := .u64 _) rfl rfl rfl trivial (So.q rfl rfl (V.ncPtr rfl (So.q rfl rfl (V.faPtr ty75 rfl ty73 (lk rfl) rfl rfl (lk rfl) (So.q rfl rfl (V.ixArrP1 (mi := q / 8) ty73 ty66 rfl rfl rfl (by first | rfl | omega | (simp; done) | (simp; omega)) rfl (by omega) (by omega) (So.s (A.sto ty66 rfl rfl rfl (v := .p (.u64 _)) rfl trivial rfl (by first | rfl | omega | (simp; done) | (simp; omega)) (c' := .rows (spB r e (layF w q c) p g)) (congrArg (fun g => some (OC.rows g)) (funext fun j => by exact spB_st (i := q / 8) (by omega) (by omega) (by unfold layF; rw [if_pos rfl]; first | rfl | (congr 2; omega)) (by intro j hj25 hj; unfold layF; exact if_neg hj) j)) rfl (So.e ?_))))))))))))))))
 exact ret_ok (sg [(1, 1)]) h rfl rfl rfl ⟨trivial, trivial⟩ trivial rfl ⟨trivial, ⟨⟨_, rfl, .inr (ob_rows (by first | rfl | ((try dsimp only); (first | rfl | (intro j hj; rfl)))) (by first | rfl | ((try dsimp only); (first | rfl | (intro j hj; rfl))))), trivial⟩, trivial⟩⟩
end Go.Vh

set_option linter.unusedVariables false
set_option linter.unusedSimpArgs false
namespace Go.Vh
open Go Go.Vc Go.Proofs Go.Vw
def kchangeSp : Sp := ⟨[1], mkE (α := Nat × UInt8 × (Nat → UInt64) × Nat × Bool) (fun (r, e, w, p, g) => [.ptr 1 (2)]) (fun (r, e, w, p, g) => [(1, ⟨75, 1, 29, true, .rows (spB r e (w) (p) g)⟩)]) (fun (r, e, w, p, g) => True) (fun (r, e, w, p, g) => []) (fun (r, e, w, p, g) => [(1, ⟨75, 1, 29, true, .rows (spB r e (kf w) (p) g)⟩)])⟩
def S_kchange : FuncId → Option Sp := fun f => if f = 69 then some rotl64Sp else none
theorem S_kchange_ok : ∀ f s, S_kchange f = some s → FOK Tryd.prog gl f s := fun f s h => by
 unfold S_kchange at h
 split at h
 ·rename_i e; cases h; subst e; exact rotl64_ok
 cases h
theorem S_kchange_det : ∀ f s, S_kchange f = some s → SpDet s.sp := fun f s h => by
 unfold S_kchange at h
 split at h
 ·cases h; exact mkE_det _ _ _ _ _
 cases h
set_option maxHeartbeats 1000000 in
set_option maxRecDepth 20000 in
theorem kchange_ok : FOK Tryd.prog gl 64 kchangeSp := by
 refine FOK.ofE (tyOf_ok Tryd.prog) (slots := []) (nt := 128) Tryd.func64 rfl rfl rfl rfl (by decide) 1 (fun ⟨_, _, _, _, _⟩ => rfl) (by decide) (fun ⟨_, _, _, _, _⟩ => ⟨rfl, trivial⟩) ?_
 rintro ⟨r, e, w, p, g⟩ kk hlen hpre h
 replace hpre : True := hpre
 show HT (cx Tryd.prog 128 (tyOf Tryd.prog) gl [1]) _ [(0, .ptr 1 (2))] [(1, ⟨75, 1, 29, true, .rows (spB r e (w) (p) g)⟩)] _
 refine HT.seq (HT.region S_kchange_ok (So.q rfl rfl (V.ldRpA ty92 rfl rfl (lk rfl) (So.q rfl rfl (V.mv (v := .p (.v (.int .i64 (0)))) rfl (So.e (HT.block ?_)))))))
 refine R.loop (σ := Nat) (fun q => [(15, .p (.v (.int .i64 ((q : Int)))))]) (fun q => [(1, ⟨75, 1, 29, true, .rows (spB r e (kfN w q) (p) g)⟩)]) [0, 14] [] (fun q => q ≤ 24) (fun q => 24 - q) (0) (fr0 := [(0, .ptr 1 2), (14, .agg 24 _)]) (O0 := []) rfl rfl (by first | rfl | omega | (show _ < 29; omega) | (show _ ≤ 29; omega) | (intro j hj; rfl) | (simp; done) | (simp; omega)) ⟨⟨⟨le_int (by first | rfl | omega | (intro j hj; rfl) | (intro j hj; exact spB_cg (fun j _ => (if_neg (by omega)).symm) j)), trivial⟩, ⟨.refl _, rfl⟩, ⟨.refl _, trivial⟩, trivial⟩, ⟨⟨_, rfl, .inr (ob_rows (by first | rfl | ((try dsimp only); first | rfl | omega | (intro j hj; rfl) | (intro j hj; exact spB_cg (fun j _ => (if_neg (by omega)).symm) j))) (by first | rfl | ((try dsimp only); first | rfl | omega | (intro j hj; rfl) | (intro j hj; exact spB_cg (fun j _ => (if_neg (by omega)).symm) j)))), trivial⟩, trivial⟩⟩ (fun q hP0 => ?_)
 refine HT.seq (HT.region S_kchange_ok (So.q rfl rfl (V.bin (a := (.v (.int .i64 ((_ : Nat) : Int)))) (b := (.v (.int .i64 (24)))) (r := .v (.bool _)) rfl rfl rfl trivial (So.e (HT.seq ?_)))))
 refine R.cond rfl rfl (fun h1 => ?_) (fun h1 => ?_)
 ·have h1 := of_decide_eq_true h1
  refine HT.skip (HT.seq (HT.block (HT.seq (HT.region S_kchange_ok (So.q rfl rfl (V.ixV1 (mi := q) ty92 ty66 rfl rfl rfl rfl (by omega) (lk rfl) (by omega) (v := (.u64 _)) rfl (So.q rfl rfl (V.as (v := .p (.u64 _)) rfl (So.e (HT.seq (HT.region S_kchange_ok ?_)))))))))))
  refine So.n (lk rfl) (A.alloc 2 1 ty83 rfl ⟨lk rfl, trivial⟩ (f := fun _ => .u64 0) (fun _ _ => rfl) (So.e (HT.seq (HT.seq (HT.region S_kchange_ok (So.q rfl rfl (V.mv (v := .ptr 1 2) rfl (So.q rfl rfl (V.mv (v := .p (.v (.int .i64 (0)))) rfl (So.e (HT.block ?_)))))))))))
  refine R.loop (σ := Nat) (fun s => [(19, .p (.v (.int .i64 ((s : Int)))))]) (fun s => [(2, ⟨83, 1, 5, true, .rows (fun j => .u64 (smN (kfN w q) s j))⟩)]) [0, 3, 4, 14, 15, 18] [1] (fun s => s ≤ 25) (fun s => 25 - s) (0) (fr0 := [(0, .ptr 1 2), (3, .p (.u64 _)), (4, .ptr 2 0), (14, .agg 24 _), (15, .p (.v (.int .i64 ((_ : Nat) : Int)))), (18, .ptr 1 2)]) (O0 := [(1, ⟨_, _, _, _, .rows _⟩)]) rfl rfl (by first | rfl | omega | (show _ < 29; omega) | (show _ ≤ 29; omega) | (intro j hj; rfl) | (simp; done) | (simp; omega)) ⟨⟨⟨le_int (by first | rfl | omega | (intro j hj; rfl) | (intro j hj; exact spB_cg (fun j _ => (if_neg (by omega)).symm) j)), trivial⟩, ⟨.refl _, rfl⟩, ⟨.refl _, trivial⟩, ⟨.refl _, rfl⟩, ⟨.refl _, trivial⟩, ⟨.refl _, trivial⟩, ⟨.refl _, rfl⟩, trivial⟩, ⟨⟨_, rfl, .inr (ob_rows (by first | rfl | ((try dsimp only); first | rfl | omega | (intro j hj; rfl) | (intro j hj; exact spB_cg (fun j _ => (if_neg (by omega)).symm) j))) (by first | rfl | ((try dsimp only); first | rfl | omega | (intro j hj; rfl) | (intro j hj; exact spB_cg (fun j _ => (if_neg (by omega)).symm) j)))), trivial⟩, ⟨_, rfl, .inl rfl, trivial⟩, trivial⟩⟩ (fun s hP1 => ?_)
  refine HT.seq (HT.region S_kchange_ok (So.q rfl rfl (V.bin (a := (.v (.int .i64 ((_ : Nat) : Int)))) (b := (.v (.int .i64 (25)))) (r := .v (.bool _)) rfl rfl rfl trivial (So.e (HT.seq ?_)))))
  refine R.cond rfl rfl (fun h2 => ?_) (fun h2 => ?_)
  ·have h2 := of_decide_eq_true h2
   refine HT.skip (HT.seq (HT.block (HT.seq ?_)))
   refine HT.drawn S_kchange_ok S_kchange_det mixed (by kernel_rfl) ?_
   refine Sd.n (lk rfl) (V.mv (v := .p (.v (.int .i64 ((_ : Nat) : Int)))) rfl (Sd.n (lk rfl) (V.ncPtr rfl (Sd.n (lk rfl) (V.ixArrP1 ty73 ty66 rfl rfl rfl (by first | rfl | omega | (show _ < 29; omega) | (show _ ≤ 29; omega) | (intro j hj; rfl) | (simp; done) | (simp; omega)) rfl (by omega) (Int.toNat_natCast _) (Sd.n (lk rfl) (V.ldPtr ty66 rfl rfl rfl (by first | rfl | omega | (show _ < 29; omega) | (show _ ≤ 29; omega) | (intro j hj; rfl) | (simp; done) | (simp; omega)) (v := .p (.u64 ((kfN w q) s))) (by first | exact (congrArg BV.p (spB_w (i := s) (by omega) (by omega))).trans (by rfl) | exact congrArg BV.p (spB_w (i := s) (by omega) (by omega))) (Sd.n (lk rfl) (V.as (v := .p (.v (.int .i64 ((_ : Nat) : Int)))) rfl (Sd.n (lk rfl) (V.as (v := .p (.u64 _)) rfl (Sd.e (HT.region S_kchange_ok (So.q rfl rfl (V.mv (v := .p (.v (.int .i64 ((_ : Nat) : Int)))) rfl (So.q rfl rfl (V.remI rfl rfl (by omega) ?_)))))))))))))))))
   refine So.q rfl rfl (V.ixArrP10 (mi := s % 5) ty83 ty66 rfl rfl rfl (by first | rfl | omega | (show _ < 29; omega) | (show _ ≤ 29; omega) | (intro j hj; rfl) | (simp; done) | (simp; omega)) rfl (by omega) (by omega) (So.q rfl rfl (V.ldPtr ty66 rfl rfl rfl (by first | rfl | omega | (show _ < 29; omega) | (show _ ≤ 29; omega) | (intro j hj; rfl) | (simp; done) | (simp; omega)) (v := .p (.u64 _)) rfl (So.q rfl rfl (V.mv (v := .p (.u64 _)) rfl (So.q rfl rfl (V.bin (a := (.u64 _)) (b := (.u64 _)) (r := .u64 _) rfl rfl rfl trivial (So.q rfl rfl (V.ixArrP10 (mi := s % 5) ty83 ty66 rfl rfl rfl (by first | rfl | omega | (show _ < 29; omega) | (show _ ≤ 29; omega) | (intro j hj; rfl) | (simp; done) | (simp; omega)) rfl (by omega) (by omega) (So.s (A.sto ty66 rfl rfl rfl (v := .p (.u64 _)) rfl trivial rfl (by first | rfl | omega | (show _ < 29; omega) | (show _ ≤ 29; omega) | (intro j hj; rfl) | (simp; done) | (simp; omega)) (c' := .rows (fun j => .u64 (smN (kfN w q) (s + 1) j))) (congrArg (fun g => some (OC.rows g)) (funext fun j => by by_cases h9 : j = s % 5 <;> simp [h9, smN])) rfl (So.e (HT.region S_kchange_ok (So.q rfl rfl (V.addI rfl rfl (by omega) (So.q rfl rfl (V.mv (v := .p (.v (.int .i64 _))) rfl ?_)))))))))))))))))
   refine So.e ?_
   refine ⟨s + 1, by first | rfl | omega | (show _ < 29; omega) | (show _ ≤ 29; omega) | (intro j hj; rfl) | (simp; done) | (simp; omega), by omega, ⟨⟨⟨le_int (by first | rfl | omega | (show _ < 29; omega) | (show _ ≤ 29; omega) | (intro j hj; rfl) | (simp; done) | (simp; omega)), trivial⟩, ⟨.refl _, rfl⟩, ⟨.refl _, trivial⟩, ⟨.refl _, rfl⟩, ⟨.refl _, trivial⟩, ⟨.refl _, trivial⟩, ⟨.refl _, rfl⟩, trivial⟩, ⟨⟨_, rfl, .inr (ob_rows (by first | rfl | ((try dsimp only); first | rfl | omega | (show _ < 29; omega) | (show _ ≤ 29; omega) | (intro j hj; rfl) | (simp; done) | (simp; omega))) (by first | rfl | ((try dsimp only); first | rfl | omega | (show _ < 29; omega) | (show _ ≤ 29; omega) | (intro j hj; rfl) | (simp; done) | (simp; omega)))), trivial⟩, ⟨_, rfl, .inl rfl, trivial⟩, trivial⟩⟩⟩
  ·have h2 := of_decide_eq_false h2
   refine HT.exit ?_
   show HT _ _ _ _ _
   refine HT.seq (HT.seq (HT.region S_kchange_ok ?_))
   have hs : s = 25 := by omega
   subst hs
   refine So.q rfl rfl (V.mv (v := .p (.v (.int .i64 (0)))) rfl (So.e (HT.block ?_)))
   refine R.loop (σ := Nat) (fun i => [(33, .p (.v (.int .i64 ((i : Int)))))]) (fun i => [(1, ⟨75, 1, 29, true, .rows (spB r e (fun j => if j < i then thF (kfN w q) j else kfN w q j) (p) g)⟩)]) [0, 3, 4, 14, 15] [2] (fun i => i ≤ 25) (fun i => 25 - i) (0) (fr0 := [(0, .ptr 1 2), (3, .p (.u64 _)), (4, .ptr 2 0), (14, .agg 24 _), (15, .p (.v (.int .i64 ((_ : Nat) : Int))))]) (O0 := [(2, ⟨_, _, _, _, .rows _⟩)]) rfl rfl (by first | rfl | omega | (show _ < 29; omega) | (show _ ≤ 29; omega) | (intro j hj; rfl) | (simp; done) | (simp; omega)) ⟨⟨⟨le_int (by first | rfl | omega | (intro j hj; rfl) | (intro j hj; exact spB_cg (fun j _ => (if_neg (by omega)).symm) j)), trivial⟩, ⟨.refl _, rfl⟩, ⟨.refl _, trivial⟩, ⟨.refl _, rfl⟩, ⟨.refl _, trivial⟩, ⟨.refl _, trivial⟩, trivial⟩, ⟨⟨_, rfl, .inr (ob_rows (by first | rfl | ((try dsimp only); first | rfl | omega | (intro j hj; rfl) | (intro j hj; exact spB_cg (fun j _ => (if_neg (by omega)).symm) j))) (by first | rfl | ((try dsimp only); first | rfl | omega | (intro j hj; rfl) | (intro j hj; exact spB_cg (fun j _ => (if_neg (by omega)).symm) j)))), trivial⟩, ⟨_, rfl, .inl rfl, trivial⟩, trivial⟩⟩ (fun i hP2 => ?_)
   refine HT.seq (HT.region S_kchange_ok (So.q rfl rfl (V.bin (a := (.v (.int .i64 ((_ : Nat) : Int)))) (b := (.v (.int .i64 (25)))) (r := .v (.bool _)) rfl rfl rfl trivial (So.e (HT.seq ?_)))))
   refine R.cond rfl rfl (fun h3 => ?_) (fun h3 => ?_)
   ·have h3 := of_decide_eq_true h3
    refine HT.skip (HT.seq (HT.block (HT.seq (HT.region S_kchange_ok (So.q rfl rfl (V.mv (v := .p (.v (.int .i64 ((_ : Nat) : Int)))) rfl (So.q rfl rfl (V.as (v := .p (.v (.int .i64 ((_ : Nat) : Int)))) rfl (So.e ?_)))))))))
    show HT _ _ _ _ _
    refine HT.planS S_kchange_ok S_kchange_det mixed [] [⟨[0, 1, 2, 3, 4, 5, 6, 7, 8, 9, 10, 11, 12, 13, 14, 15, 16, 17, 18, 19], 20, []⟩] (by kernel_rfl) ?_
    refine Pl.l0 ?_
    refine Si.n rfl (lk rfl) (V.mv (v := .ptr 1 2) rfl (Si.n rfl (lk rfl) (V.mv (v := .p (.v (.int .i64 ((_ : Nat) : Int)))) rfl (Si.n rfl (lk rfl) (V.ncPtr rfl (Si.n rfl (lk rfl) (V.ixArrP1 ty73 ty66 rfl rfl rfl (by first | rfl | omega | (show _ < 29; omega) | (show _ ≤ 29; omega) | (intro j hj; rfl) | (simp; done) | (simp; omega)) rfl (by omega) (Int.toNat_natCast _) (Si.n rfl (lk rfl) (V.ldPtr ty66 rfl rfl rfl (by first | rfl | omega | (show _ < 29; omega) | (show _ ≤ 29; omega) | (intro j hj; rfl) | (simp; done) | (simp; omega)) (v := .p (.u64 ((kfN w q) i))) (by first | exact (congrArg BV.p (spB_w (i := i) (by omega) (by omega))).trans (by rw [if_neg (Nat.lt_irrefl i)]) | exact congrArg BV.p (spB_w (i := i) (by omega) (by omega))) (Si.n rfl (lk rfl) (V.mv (v := .p (.v (.int .i64 ((_ : Nat) : Int)))) rfl (Si.n rfl (lk rfl) (V.addI rfl rfl (by omega) (Si.n rfl (lk rfl) (V.remI rfl rfl (by omega) (Si.n rfl (lk rfl) (V.ixArrP10 (mi := (i + 4) % 5) ty83 ty66 rfl rfl rfl (by first | rfl | omega | (show _ < 29; omega) | (show _ ≤ 29; omega) | (intro j hj; rfl) | (simp; done) | (simp; omega)) rfl (by omega) (by omega) (Si.n rfl (lk rfl) (V.ldPtr ty66 rfl rfl rfl (by first | rfl | omega | (show _ < 29; omega) | (show _ ≤ 29; omega) | (intro j hj; rfl) | (simp; done) | (simp; omega)) (v := .p (.u64 _)) rfl ?_)))))))))))))))))))
    refine Si.n rfl (lk rfl) (V.mv (v := .p (.v (.int .i64 ((_ : Nat) : Int)))) rfl (Si.n rfl (lk rfl) (V.addI rfl rfl (by omega) (Si.n rfl (lk rfl) (V.remI rfl rfl (by omega) (Si.n rfl (lk rfl) (V.ixArrP10 (mi := (i + 1) % 5) ty83 ty66 rfl rfl rfl (by first | rfl | omega | (show _ < 29; omega) | (show _ ≤ 29; omega) | (intro j hj; rfl) | (simp; done) | (simp; omega)) rfl (by omega) (by omega) (Si.n rfl (lk rfl) (V.ldPtr ty66 rfl rfl rfl (by first | rfl | omega | (show _ < 29; omega) | (show _ ≤ 29; omega) | (intro j hj; rfl) | (simp; done) | (simp; omega)) (v := .p (.u64 _)) rfl ?_)))))))))
    refine Si.n rfl (lk rfl) (V.call [.p (.u64 _), .p (.v (.int .i64 _))] 3 rfl rfl rfl rfl ⟨trivial, trivial, trivial⟩ ⟨lk rfl, trivial⟩ (_, _) ⟨.refl _, .refl _, trivial⟩ trivial (by first | omega | decide) (Φ := fun _ => True) (fun _ _ => trivial) (.inl ⟨trivial, trivial, trivial⟩) (v := .p (.u64 _)) rfl (fun h4 => ?_))
    refine Si.n rfl (lk rfl) (V.bin (a := (.u64 _)) (b := (.u64 _)) (r := .u64 _) rfl rfl rfl trivial (Si.n rfl (lk rfl) (V.bin (a := (.u64 _)) (b := (.u64 _)) (r := .u64 _) rfl rfl rfl trivial (Si.n rfl (lk rfl) (V.ncPtr rfl (Si.n rfl (lk rfl) (V.ixArrP1 ty73 ty66 rfl rfl rfl (by first | rfl | omega | (show _ < 29; omega) | (show _ ≤ 29; omega) | (intro j hj; rfl) | (simp; done) | (simp; omega)) rfl (by omega) (Int.toNat_natCast _) (Si.e ?_))))))))
    refine ⟨flEq_nil, ?_⟩
    refine Lo.s rfl (A.sto ty66 rfl rfl rfl (v := .p (.u64 _)) rfl trivial rfl (by first | rfl | omega | (show _ < 29; omega) | (show _ ≤ 29; omega) | (intro j hj; rfl) | (simp; done) | (simp; omega)) (c' := .rows (spB r e (fun j => if j < i + 1 then thF (kfN w q) j else kfN w q j) p g)) (congrArg (fun g => some (OC.rows g)) (funext fun j => by exact spB_st (i := i) (by omega) (by omega) (by rw [if_pos (Nat.lt_succ_self i)]; rfl) (by intro j hj25 hj; by_cases h8 : j < i; (rw [if_pos h8, if_pos (by omega)]); (rw [if_neg h8, if_neg (by omega)])) j)) rfl ?_)
    refine Pl.e ?_
    refine Si.e ?_
    refine ⟨flEq_nil, ?_⟩
    show HT _ _ _ _ _
    refine HT.region S_kchange_ok (So.q rfl rfl (V.addI rfl rfl (by omega) (So.q rfl rfl (V.mv (v := .p (.v (.int .i64 _))) rfl (So.e ?_)))))
    refine ⟨i + 1, by first | rfl | omega | (show _ < 29; omega) | (show _ ≤ 29; omega) | (intro j hj; rfl) | (simp; done) | (simp; omega), by omega, ⟨⟨⟨le_int (by first | rfl | omega | (show _ < 29; omega) | (show _ ≤ 29; omega) | (intro j hj; rfl) | (simp; done) | (simp; omega)), trivial⟩, ⟨.refl _, rfl⟩, ⟨.refl _, trivial⟩, ⟨.refl _, rfl⟩, ⟨.refl _, trivial⟩, ⟨.refl _, trivial⟩, trivial⟩, ⟨⟨_, rfl, .inr (ob_rows (by first | rfl | ((try dsimp only); first | rfl | omega | (show _ < 29; omega) | (show _ ≤ 29; omega) | (intro j hj; rfl) | (simp; done) | (simp; omega))) (by first | rfl | ((try dsimp only); first | rfl | omega | (show _ < 29; omega) | (show _ ≤ 29; omega) | (intro j hj; rfl) | (simp; done) | (simp; omega)))), trivial⟩, ⟨_, rfl, .inl rfl, trivial⟩, trivial⟩⟩⟩
   ·have h3 := of_decide_eq_false h3
    refine HT.exit ?_
    show HT _ _ _ _ _
    refine HT.seq ?_
    have hi : i = 25 := by omega
    subst hi
    refine R.tell [] [(1, ⟨75, 1, 29, true, .rows (spB r e (thF (kfN w q)) (p) g)⟩)] [0, 3, 14, 15] [] (fr0 := [(0, .ptr 1 2), (3, .p (.u64 _)), (14, .agg 24 _), (15, .p (.v (.int .i64 ((_ : Nat) : Int))))]) (O0 := []) rfl rfl ⟨⟨⟨.refl _, rfl⟩, ⟨.refl _, trivial⟩, ⟨.refl _, trivial⟩, ⟨.refl _, trivial⟩, trivial⟩, ⟨⟨_, rfl, .inr (ob_rows (by first | rfl | ((try dsimp only); (intro j hj; exact spB_cg (by intro j hj; rw [if_pos (by omega)]) j))) (by first | rfl | ((try dsimp only); (intro j hj; exact spB_cg (by intro j hj; rw [if_pos (by omega)]) j)))), trivial⟩, trivial⟩⟩ ?_
    show HT _ _ _ _ _
    refine HT.region S_kchange_ok (So.q rfl rfl (V.mv (v := .ptr 1 2) rfl (So.q rfl rfl (V.ncPtr rfl (So.q rfl rfl (V.ixArrP1 ty73 ty66 rfl rfl rfl (by first | rfl | omega | (show _ < 29; omega) | (show _ ≤ 29; omega) | (intro j hj; rfl) | (simp; done) | (simp; omega)) rfl (by omega) rfl (So.q rfl rfl (V.ldPtr ty66 rfl rfl rfl (by first | rfl | omega | (show _ < 29; omega) | (show _ ≤ 29; omega) | (intro j hj; rfl) | (simp; done) | (simp; omega)) (v := .p (.u64 ((thF (kfN w q)) 1))) (by first | exact (congrArg BV.p (spB_w (i := 1) (by omega) (by omega))).trans (by rfl) | exact congrArg BV.p (spB_w (i := 1) (by omega) (by omega))) (So.q rfl rfl (V.as (v := .p (.u64 _)) rfl (So.e (HT.seq (HT.seq (HT.region S_kchange_ok ?_))))))))))))))
    refine So.q rfl rfl (V.ldRpA ty96 rfl rfl (lk rfl) (So.q rfl rfl (V.mv (v := .p (.v (.int .i64 (0)))) rfl (So.e (HT.block ?_)))))
    refine R.loop (σ := Nat) (fun k => [(62, .p (.v (.int .i64 ((k : Int))))), (8, .p (.u64 ((rpN (thF (kfN w q)) k).2)))]) (fun k => [(1, ⟨75, 1, 29, true, .rows (spB r e ((rpN (thF (kfN w q)) k).1) (p) g)⟩)]) [0, 3, 14, 15, 61] [] (fun k => k ≤ 24) (fun k => 24 - k) (0) (fr0 := [(0, .ptr 1 2), (3, .p (.u64 _)), (14, .agg 24 _), (15, .p (.v (.int .i64 ((_ : Nat) : Int)))), (61, .agg 24 _)]) (O0 := []) rfl rfl (by first | rfl | omega | (show _ < 29; omega) | (show _ ≤ 29; omega) | (intro j hj; rfl) | (simp; done) | (simp; omega)) ⟨⟨⟨le_int (by first | rfl | omega | (intro j hj; rfl) | (intro j hj; exact spB_cg (fun j _ => (if_neg (by omega)).symm) j)), trivial⟩, ⟨le_u64 (by first | rfl | omega | (intro j hj; rfl) | (intro j hj; exact spB_cg (fun j _ => (if_neg (by omega)).symm) j)), trivial⟩, ⟨.refl _, rfl⟩, ⟨.refl _, trivial⟩, ⟨.refl _, trivial⟩, ⟨.refl _, trivial⟩, ⟨.refl _, trivial⟩, trivial⟩, ⟨⟨_, rfl, .inr (ob_rows (by first | rfl | ((try dsimp only); first | rfl | omega | (intro j hj; rfl) | (intro j hj; exact spB_cg (fun j _ => (if_neg (by omega)).symm) j))) (by first | rfl | ((try dsimp only); first | rfl | omega | (intro j hj; rfl) | (intro j hj; exact spB_cg (fun j _ => (if_neg (by omega)).symm) j)))), trivial⟩, trivial⟩⟩ (fun k hP3 => ?_)
    refine HT.seq (HT.region S_kchange_ok (So.q rfl rfl (V.bin (a := (.v (.int .i64 ((_ : Nat) : Int)))) (b := (.v (.int .i64 (24)))) (r := .v (.bool _)) rfl rfl rfl trivial (So.e (HT.seq ?_)))))
    refine R.cond rfl rfl (fun h5 => ?_) (fun h5 => ?_)
    ·have h5 := of_decide_eq_true h5
     refine HT.skip (HT.seq (HT.block (HT.seq (HT.region S_kchange_ok (So.q rfl rfl (V.mv (v := .p (.v (.int .i64 ((_ : Nat) : Int)))) rfl (So.q rfl rfl (V.ixV1 (mi := k) ty96 ty3 rfl rfl rfl rfl (by omega) (lk rfl) (by omega) (v := (.v (.int .i64 _))) rfl (So.q rfl rfl (V.as (v := .p (.v (.int .i64 ((_ : Nat) : Int)))) rfl (So.q rfl rfl (V.as (v := .p (.v (.int .i64 _))) rfl (So.e ?_)))))))))))))
     show HT _ _ _ _ _
     refine HT.planS S_kchange_ok S_kchange_det mixed [] [⟨[0, 1, 2, 3, 4, 5, 6, 7, 8, 9, 10, 11, 12, 13, 14], 15, []⟩] (by kernel_rfl) ?_
     have hpl := pl_lt k
     have htn := tn_b (k := k) (by omega)
     refine Pl.l0 ?_
     refine Si.n rfl (lk rfl) (V.mv (v := .ptr 1 2) rfl (Si.n rfl (lk rfl) (V.mv (v := .p (.v (.int .i64 _))) rfl (Si.n rfl (lk rfl) (V.mv (v := .ptr 1 2) rfl (Si.n rfl (lk rfl) (V.mv (v := .p (.v (.int .i64 _))) rfl (Si.n rfl (lk rfl) (V.ncPtr rfl (Si.n rfl (lk rfl) (V.ixArrP1 (mi := placesL.getD k 0) ty73 ty66 rfl rfl rfl (by first | rfl | omega | (show _ < 29; omega) | (show _ ≤ 29; omega) | (intro j hj; rfl) | (simp; done) | (simp; omega)) rfl (by omega) (by omega) (Si.n rfl (lk rfl) (V.ldPtr ty66 rfl rfl rfl (by first | rfl | omega | (show _ < 29; omega) | (show _ ≤ 29; omega) | (intro j hj; rfl) | (simp; done) | (simp; omega)) (v := .p (.u64 ((rpN (thF (kfN w q)) k).1 (placesL.getD k 0)))) (by first | exact (congrArg BV.p (spB_w (i := placesL.getD k 0) (by omega) (by omega))).trans (by rfl) | exact congrArg BV.p (spB_w (i := placesL.getD k 0) (by omega) (by omega))) (Si.n rfl (lk rfl) (V.mv (v := .p (.u64 _)) rfl (Si.n rfl (lk rfl) (V.mv (v := .p (.v (.int .i64 ((_ : Nat) : Int)))) rfl (Si.n rfl (lk rfl) (V.ixArr1 (mi := k) ty96 ty3 rfl rfl (lk rfl) rfl (by omega) (by omega) ?_)))))))))))))))))))
     refine Si.n rfl (lk rfl) (V.ldRp ty3 rfl rfl (lk rfl) (v := (.v (.int .i64 _))) rfl ?_)
     refine Si.n rfl (lk rfl) (V.call [.p (.u64 _), .p (.v (.int .i64 _))] 2 rfl rfl rfl rfl ⟨trivial, trivial, trivial⟩ ⟨lk rfl, trivial⟩ ((rpN (thF (kfN w q)) k).2, ((turnsL.getD k 0 : Nat) : Int)) ⟨.refl _, .refl _, trivial⟩ trivial (by first | omega | decide) (Φ := fun _ => True) (fun _ _ => trivial) (.inl ⟨trivial, trivial, trivial⟩) (v := .p (.u64 _)) rfl (fun h6 => ?_))
     refine Si.n rfl (lk rfl) (V.as (v := .p (.u64 _)) rfl (Si.n rfl (lk rfl) (V.ncPtr rfl (Si.n rfl (lk rfl) (V.ixArrP1 (mi := placesL.getD k 0) ty73 ty66 rfl rfl rfl (by first | rfl | omega | (show _ < 29; omega) | (show _ ≤ 29; omega) | (intro j hj; rfl) | (simp; done) | (simp; omega)) rfl (by omega) (by omega) (Si.e ?_))))))
     refine ⟨flEq_nil, ?_⟩
     refine Lo.s rfl (A.sto ty66 rfl rfl rfl (v := .p (.u64 _)) rfl trivial rfl (by first | rfl | omega | (show _ < 29; omega) | (show _ ≤ 29; omega) | (intro j hj; rfl) | (simp; done) | (simp; omega)) (c' := .rows (spB r e (rpN (thF (kfN w q)) (k + 1)).1 p g)) (congrArg (fun g => some (OC.rows g)) (funext fun j => by exact spB_st (i := placesL.getD k 0) (by omega) (by omega) (by exact if_pos rfl) (by intro j hj25 hj; exact if_neg hj) j)) rfl ?_)
     refine Pl.e ?_
     refine Si.e ?_
     refine ⟨flEq_nil, ?_⟩
     show HT _ _ _ _ _
     refine HT.region S_kchange_ok (So.q rfl rfl (V.addI rfl rfl (by omega) (So.q rfl rfl (V.mv (v := .p (.v (.int .i64 _))) rfl (So.e ?_)))))
     refine ⟨k + 1, by first | rfl | omega | (show _ < 29; omega) | (show _ ≤ 29; omega) | (intro j hj; rfl) | (simp; done) | (simp; omega), by omega, ⟨⟨⟨le_int (by first | rfl | omega | (show _ < 29; omega) | (show _ ≤ 29; omega) | (intro j hj; rfl) | (simp; done) | (simp; omega)), trivial⟩, ⟨le_u64 (by first | rfl | omega | (show _ < 29; omega) | (show _ ≤ 29; omega) | (intro j hj; rfl) | (simp; done) | (simp; omega)), trivial⟩, ⟨.refl _, rfl⟩, ⟨.refl _, trivial⟩, ⟨.refl _, trivial⟩, ⟨.refl _, trivial⟩, ⟨.refl _, trivial⟩, trivial⟩, ⟨⟨_, rfl, .inr (ob_rows (by first | rfl | ((try dsimp only); first | rfl | omega | (show _ < 29; omega) | (show _ ≤ 29; omega) | (intro j hj; rfl) | (simp; done) | (simp; omega))) (by first | rfl | ((try dsimp only); first | rfl | omega | (show _ < 29; omega) | (show _ ≤ 29; omega) | (intro j hj; rfl) | (simp; done) | (simp; omega)))), trivial⟩, trivial⟩⟩⟩
    ·have h5 := of_decide_eq_false h5
     refine HT.exit ?_
     show HT _ _ _ _ _
     refine HT.seq (HT.seq ?_)
     have hk : k = 24 := by omega
     subst hk
     refine R.norm [0, 3, 14, 15] [1] (fr0 := [(0, .ptr 1 2), (3, .p (.u64 _)), (14, .agg 24 _), (15, .p (.v (.int .i64 ((_ : Nat) : Int))))]) (O0 := [(1, ⟨_, _, _, _, .rows _⟩)]) rfl rfl ⟨⟨⟨.refl _, rfl⟩, ⟨.refl _, trivial⟩, ⟨.refl _, trivial⟩, ⟨.refl _, trivial⟩, trivial⟩, ⟨⟨_, rfl, .inl rfl, trivial⟩, trivial⟩⟩ ?_
     refine HT.region S_kchange_ok (So.q rfl rfl (V.as (v := .p (.v (.int .i64 (0)))) rfl (So.e (HT.block ?_))))
     refine R.loop (σ := Nat) (fun y => [(11, .p (.v (.int .i64 (5 * (y : Int)))))]) (fun y => [(1, ⟨75, 1, 29, true, .rows (spB r e (fun j => if j < 5 * y then chF (rpN (thF (kfN w q)) 24).1 j else (rpN (thF (kfN w q)) 24).1 j) (p) g)⟩)]) [0, 3, 14, 15] [] (fun y => y ≤ 5) (fun y => 5 - y) (0) (fr0 := [(0, .ptr 1 2), (3, .p (.u64 _)), (14, .agg 24 _), (15, .p (.v (.int .i64 ((_ : Nat) : Int))))]) (O0 := []) rfl rfl (by first | rfl | omega | (show _ < 29; omega) | (show _ ≤ 29; omega) | (intro j hj; rfl) | (simp; done) | (simp; omega)) ⟨⟨⟨le_int (by first | rfl | omega | (intro j hj; rfl) | (intro j hj; exact spB_cg (fun j _ => (if_neg (by omega)).symm) j)), trivial⟩, ⟨.refl _, rfl⟩, ⟨.refl _, trivial⟩, ⟨.refl _, trivial⟩, ⟨.refl _, trivial⟩, trivial⟩, ⟨⟨_, rfl, .inr (ob_rows (by first | rfl | ((try dsimp only); first | rfl | omega | (intro j hj; rfl) | (intro j hj; exact spB_cg (fun j _ => (if_neg (by omega)).symm) j))) (by first | rfl | ((try dsimp only); first | rfl | omega | (intro j hj; rfl) | (intro j hj; exact spB_cg (fun j _ => (if_neg (by omega)).symm) j)))), trivial⟩, trivial⟩⟩ (fun y hP4 => ?_)
     refine HT.seq (HT.seq (HT.region S_kchange_ok (So.q rfl rfl (V.mv (v := .p (.v (.int .i64 _))) rfl (So.q rfl rfl (V.bin (a := (.v (.int .i64 _))) (b := (.v (.int .i64 (25)))) (r := .v (.bool _)) rfl rfl rfl trivial (So.e ?_)))))))
     show HT _ _ _ _ _
     refine R.cond rfl rfl (fun h7 => ?_) (fun h7 => ?_)
     ·have h7 := of_decide_eq_true h7
      refine HT.skip (HT.seq (HT.block (HT.seq (HT.region S_kchange_ok (So.q rfl rfl (V.mv (v := .ptr 1 2) rfl (So.q rfl rfl (V.ncPtr rfl (So.q rfl rfl (V.mv (v := .p (.v (.int .i64 _))) rfl (So.q rfl rfl (V.mv (v := .p (.v (.int .i64 _))) rfl (So.q rfl rfl (V.addI rfl rfl (by omega) ?_))))))))))))))
      refine So.q rfl rfl (V.cutArrB (s := 1) (l' := 5 * y) (n' := 5) ty73 rfl rfl rfl rfl rfl rfl ⟨by omega, by omega, by omega, by decide⟩ (by first | rfl | omega | (show _ < 29; omega) | (show _ ≤ 29; omega) | (intro j hj; rfl) | (simp; done) | (simp; omega)) (by omega) (by omega) (So.q rfl rfl (V.sapOwn ty83 rfl rfl (by omega) (So.q rfl rfl (V.ldPtrA ty83 rfl rfl rfl rfl (by first | rfl | omega | (show _ < 29; omega) | (show _ ≤ 29; omega) | (intro j hj; rfl) | (simp; done) | (simp; omega)) (So.n (lk rfl) (A.alloc 2 1 ty83 rfl ⟨lk rfl, trivial⟩ (f := fun _ => .u64 0) (fun _ _ => rfl) (So.s (A.stoAg ty83 rfl (n := 5) rfl (by decide) (by intro j hj; exact spB_one _) rfl rfl rfl (So.e (HT.seq (HT.region S_kchange_ok (So.q rfl rfl (V.mv (v := .p (.v (.int .i64 (0)))) rfl (So.e ?_)))))))))))))))
      show HT _ _ _ _ _
      refine HT.block ?_
      refine R.loop (σ := Nat) (fun x => [(93, .p (.v (.int .i64 ((x : Int)))))]) (fun x => [(1, ⟨75, 1, 29, true, .rows (spB r e (fun j => if j < 5 * y + x then chF (rpN (thF (kfN w q)) 24).1 j else (rpN (thF (kfN w q)) 24).1 j) (p) g)⟩), (2, ⟨83, 1, 5, true, .rows (fun j => .u64 ((rpN (thF (kfN w q)) 24).1 (5 * y + j)))⟩)]) [0, 3, 11, 12, 14, 15] [] (fun x => x ≤ 5) (fun x => 5 - x) (0) (fr0 := [(0, .ptr 1 2), (3, .p (.u64 _)), (11, .p (.v (.int .i64 _))), (12, .ptr 2 0), (14, .agg 24 _), (15, .p (.v (.int .i64 ((_ : Nat) : Int))))]) (O0 := []) rfl rfl (by first | rfl | omega | (show _ < 29; omega) | (show _ ≤ 29; omega) | (intro j hj; rfl) | (simp; done) | (simp; omega)) ⟨⟨⟨le_int (by first | rfl | omega | (intro j hj; exact (spB_w (i := 5 * y + j) (by omega) (by have h5 : j < 5 := hj; omega)).trans (congrArg PV.u64 (if_neg (by omega)))) | (intro j hj; rfl)), trivial⟩, ⟨.refl _, rfl⟩, ⟨.refl _, trivial⟩, ⟨.refl _, trivial⟩, ⟨.refl _, rfl⟩, ⟨.refl _, trivial⟩, ⟨.refl _, trivial⟩, trivial⟩, ⟨⟨_, rfl, .inr (ob_rows (by first | rfl | ((try dsimp only); first | rfl | omega | (intro j hj; exact (spB_w (i := 5 * y + j) (by omega) (by have h5 : j < 5 := hj; omega)).trans (congrArg PV.u64 (if_neg (by omega)))) | (intro j hj; rfl))) (by first | rfl | ((try dsimp only); first | rfl | omega | (intro j hj; exact (spB_w (i := 5 * y + j) (by omega) (by have h5 : j < 5 := hj; omega)).trans (congrArg PV.u64 (if_neg (by omega)))) | (intro j hj; rfl)))), trivial⟩, ⟨_, rfl, .inr (ob_rows (by first | rfl | ((try dsimp only); first | rfl | omega | (intro j hj; exact (spB_w (i := 5 * y + j) (by omega) (by have h5 : j < 5 := hj; omega)).trans (congrArg PV.u64 (if_neg (by omega)))) | (intro j hj; rfl))) (by first | rfl | ((try dsimp only); first | rfl | omega | (intro j hj; exact (spB_w (i := 5 * y + j) (by omega) (by have h5 : j < 5 := hj; omega)).trans (congrArg PV.u64 (if_neg (by omega)))) | (intro j hj; rfl)))), trivial⟩, trivial⟩⟩ (fun x hP5 => ?_)
      refine HT.seq (HT.region S_kchange_ok (So.q rfl rfl (V.bin (a := (.v (.int .i64 ((_ : Nat) : Int)))) (b := (.v (.int .i64 (5)))) (r := .v (.bool _)) rfl rfl rfl trivial (So.e (HT.seq ?_)))))
      refine R.cond rfl rfl (fun h8 => ?_) (fun h8 => ?_)
      ·have h8 := of_decide_eq_true h8
       refine HT.skip (HT.seq (HT.block (HT.seq (HT.region S_kchange_ok (So.q rfl rfl (V.mv (v := .p (.v (.int .i64 ((_ : Nat) : Int)))) rfl (So.q rfl rfl (V.as (v := .p (.v (.int .i64 ((_ : Nat) : Int)))) rfl (So.e ?_)))))))))
       show HT _ _ _ _ _
       refine HT.tail S_kchange_ok mixed 22 (by kernel_rfl) (by kernel_rfl) ?_
       refine So.q rfl rfl (V.mv (v := .ptr 1 2) rfl (So.q rfl rfl (V.mv (v := .p (.v (.int .i64 _))) rfl (So.q rfl rfl (V.mv (v := .p (.v (.int .i64 ((_ : Nat) : Int)))) rfl (So.q rfl rfl (V.addI rfl rfl (by omega) (So.q rfl rfl (V.mv (v := .p (.v (.int .i64 ((_ : Nat) : Int)))) rfl (So.q rfl rfl (V.ixArrP10 (mi := x) ty83 ty66 rfl rfl rfl (by first | rfl | omega | (show _ < 29; omega) | (show _ ≤ 29; omega) | (intro j hj; rfl) | (simp; done) | (simp; omega)) rfl (by omega) (by omega) (So.q rfl rfl (V.ldPtr ty66 rfl rfl rfl (by first | rfl | omega | (show _ < 29; omega) | (show _ ≤ 29; omega) | (intro j hj; rfl) | (simp; done) | (simp; omega)) (v := .p (.u64 _)) rfl (So.q rfl rfl (V.mv (v := .p (.v (.int .i64 ((_ : Nat) : Int)))) rfl (So.q rfl rfl (V.addI rfl rfl (by omega) (So.q rfl rfl (V.remI rfl rfl (by omega) ?_)))))))))))))))))))
       refine So.q rfl rfl (V.ixArrP10 (mi := (x + 1) % 5) ty83 ty66 rfl rfl rfl (by first | rfl | omega | (show _ < 29; omega) | (show _ ≤ 29; omega) | (intro j hj; rfl) | (simp; done) | (simp; omega)) rfl (by omega) (by omega) (So.q rfl rfl (V.ldPtr ty66 rfl rfl rfl (by first | rfl | omega | (show _ < 29; omega) | (show _ ≤ 29; omega) | (intro j hj; rfl) | (simp; done) | (simp; omega)) (v := .p (.u64 _)) rfl (So.q rfl rfl (V.xor64 rfl (So.q rfl rfl (V.mv (v := .p (.v (.int .i64 ((_ : Nat) : Int)))) rfl (So.q rfl rfl (V.addI rfl rfl (by omega) (So.q rfl rfl (V.remI rfl rfl (by omega) (So.q rfl rfl (V.ixArrP10 (mi := (x + 2) % 5) ty83 ty66 rfl rfl rfl (by first | rfl | omega | (show _ < 29; omega) | (show _ ≤ 29; omega) | (intro j hj; rfl) | (simp; done) | (simp; omega)) rfl (by omega) (by omega) (So.q rfl rfl (V.ldPtr ty66 rfl rfl rfl (by first | rfl | omega | (show _ < 29; omega) | (show _ ≤ 29; omega) | (intro j hj; rfl) | (simp; done) | (simp; omega)) (v := .p (.u64 _)) rfl (So.q rfl rfl (V.bin (a := (.u64 _)) (b := (.u64 _)) (r := .u64 _) rfl rfl rfl trivial (So.q rfl rfl (V.bin (a := (.u64 _)) (b := (.u64 _)) (r := .u64 _) rfl rfl rfl trivial ?_)))))))))))))))))))
       refine So.q rfl rfl (V.ncPtr rfl (So.q rfl rfl (V.ixArrP1 (mi := 5 * y + x) ty73 ty66 rfl rfl rfl (by first | rfl | omega | (show _ < 29; omega) | (show _ ≤ 29; omega) | (intro j hj; rfl) | (simp; done) | (simp; omega)) rfl (by omega) (by omega) (So.s (A.sto ty66 rfl rfl rfl (v := .p (.u64 _)) rfl trivial rfl (by first | rfl | omega | (show _ < 29; omega) | (show _ ≤ 29; omega) | (intro j hj; rfl) | (simp; done) | (simp; omega)) (c' := .rows (spB r e (fun j => if j < 5 * y + (x + 1) then chF (rpN (thF (kfN w q)) 24).1 j else (rpN (thF (kfN w q)) 24).1 j) p g)) (congrArg (fun g => some (OC.rows g)) (funext fun j => by exact spB_st (i := 5 * y + x) (by omega) (by omega) (by rw [if_pos (by omega)]; exact (ch_at (by omega)).symm) (by intro j hj25 hj; by_cases h8 : j < 5 * y + x; (rw [if_pos h8, if_pos (by omega)]); (rw [if_neg h8, if_neg (by omega)])) j)) rfl (So.e (HT.region S_kchange_ok (So.q rfl rfl (V.addI rfl rfl (by omega) (So.q rfl rfl (V.mv (v := .p (.v (.int .i64 _))) rfl (So.e ?_))))))))))))
       refine ⟨x + 1, by first | rfl | omega | (show _ < 29; omega) | (show _ ≤ 29; omega) | (intro j hj; rfl) | (simp; done) | (simp; omega), by omega, ⟨⟨⟨le_int (by first | rfl | omega | (show _ < 29; omega) | (show _ ≤ 29; omega) | (intro j hj; rfl) | (simp; done) | (simp; omega)), trivial⟩, ⟨.refl _, rfl⟩, ⟨.refl _, trivial⟩, ⟨.refl _, trivial⟩, ⟨.refl _, rfl⟩, ⟨.refl _, trivial⟩, ⟨.refl _, trivial⟩, trivial⟩, ⟨⟨_, rfl, .inr (ob_rows (by first | rfl | ((try dsimp only); first | rfl | omega | (show _ < 29; omega) | (show _ ≤ 29; omega) | (intro j hj; rfl) | (simp; done) | (simp; omega))) (by first | rfl | ((try dsimp only); first | rfl | omega | (show _ < 29; omega) | (show _ ≤ 29; omega) | (intro j hj; rfl) | (simp; done) | (simp; omega)))), trivial⟩, ⟨_, rfl, .inr (ob_rows (by first | rfl | ((try dsimp only); first | rfl | omega | (show _ < 29; omega) | (show _ ≤ 29; omega) | (intro j hj; rfl) | (simp; done) | (simp; omega))) (by first | rfl | ((try dsimp only); first | rfl | omega | (show _ < 29; omega) | (show _ ≤ 29; omega) | (intro j hj; rfl) | (simp; done) | (simp; omega)))), trivial⟩, trivial⟩⟩⟩
      ·have h8 := of_decide_eq_false h8
       refine HT.exit ?_
       show HT _ _ _ _ _
       refine HT.region S_kchange_ok (So.q rfl rfl (V.mv (v := .p (.v (.int .i64 _))) rfl (So.q rfl rfl (V.addI rfl rfl (by omega) (So.q rfl rfl (V.as (v := .p (.v (.int .i64 _))) rfl (So.e ?_)))))))
       refine ⟨y + 1, by first | rfl | omega | (show _ < 29; omega) | (show _ ≤ 29; omega) | (intro j hj; rfl) | (simp; done) | (simp; omega), by omega, ⟨⟨⟨le_int (by first | rfl | omega | (show _ < 29; omega) | (show _ ≤ 29; omega) | (intro j hj; rfl) | (simp; done) | (simp; omega)), trivial⟩, ⟨.refl _, rfl⟩, ⟨.refl _, trivial⟩, ⟨.refl _, trivial⟩, ⟨.refl _, trivial⟩, trivial⟩, ⟨⟨_, rfl, .inr (ob_rows (by first | rfl | ((try dsimp only); (intro j hj; exact spB_cg (by intro j hj; rw [show x = 5 by omega]; rfl) j))) (by first | rfl | ((try dsimp only); (intro j hj; exact spB_cg (by intro j hj; rw [show x = 5 by omega]; rfl) j)))), trivial⟩, trivial⟩⟩⟩
     ·have h7 := of_decide_eq_false h7
      refine HT.exit ?_
      show HT _ _ _ _ _
      have hy : y = 5 := by omega
      subst hy
      refine R.tell [] [(1, ⟨75, 1, 29, true, .rows (spB r e (chF (rpN (thF (kfN w q)) 24).1) (p) g)⟩)] [0, 3, 14, 15] [] (fr0 := [(0, .ptr 1 2), (3, .p (.u64 _)), (14, .agg 24 _), (15, .p (.v (.int .i64 ((_ : Nat) : Int))))]) (O0 := []) rfl rfl ⟨⟨⟨.refl _, rfl⟩, ⟨.refl _, trivial⟩, ⟨.refl _, trivial⟩, ⟨.refl _, trivial⟩, trivial⟩, ⟨⟨_, rfl, .inr (ob_rows (by first | rfl | ((try dsimp only); (intro j hj; exact spB_cg (by intro j hj; rw [if_pos (by omega)]) j))) (by first | rfl | ((try dsimp only); (intro j hj; exact spB_cg (by intro j hj; rw [if_pos (by omega)]) j)))), trivial⟩, trivial⟩⟩ ?_
      show HT _ _ _ _ _
      refine HT.tail S_kchange_ok mixed 8 (by kernel_rfl) (by kernel_rfl) ?_
      refine So.q rfl rfl (V.mv (v := .ptr 1 2) rfl (So.q rfl rfl (V.ncPtr rfl (So.q rfl rfl (V.ixArrP1 ty73 ty66 rfl rfl rfl (by first | rfl | omega | (show _ < 29; omega) | (show _ ≤ 29; omega) | (intro j hj; rfl) | (simp; done) | (simp; omega)) rfl (by omega) rfl (So.q rfl rfl (V.ldPtr ty66 rfl rfl rfl (by first | rfl | omega | (show _ < 29; omega) | (show _ ≤ 29; omega) | (intro j hj; rfl) | (simp; done) | (simp; omega)) (v := .p (.u64 (chF (rpN (thF (kfN w q)) 24).1 0))) (by first | exact (congrArg BV.p (spB_w (i := 0) (by omega) (by omega))).trans (by rfl) | exact congrArg BV.p (spB_w (i := 0) (by omega) (by omega))) (So.q rfl rfl (V.mv (v := .p (.u64 _)) rfl (So.q rfl rfl (V.bin (a := (.u64 _)) (b := (.u64 _)) (r := .u64 _) rfl rfl rfl trivial (So.q rfl rfl (V.ncPtr rfl (So.q rfl rfl (V.ixArrP1 ty73 ty66 rfl rfl rfl (by first | rfl | omega | (show _ < 29; omega) | (show _ ≤ 29; omega) | (intro j hj; rfl) | (simp; done) | (simp; omega)) rfl (by omega) rfl (So.s (A.sto ty66 rfl rfl rfl (v := .p (.u64 _)) rfl trivial rfl (by first | rfl | omega | (show _ < 29; omega) | (show _ ≤ 29; omega) | (intro j hj; rfl) | (simp; done) | (simp; omega)) (c' := .rows (spB r e (kfN w (q + 1)) p g)) (congrArg (fun g => some (OC.rows g)) (funext fun j => by exact spB_st (i := 0) (by omega) (by omega) (by rfl) (by intro j hj25 hj; show rdF _ _ j = _; unfold rdF; exact if_neg hj) j)) rfl (So.e ?_))))))))))))))))))
      show HT _ _ _ _ _
      refine HT.region S_kchange_ok (So.q rfl rfl (V.addI rfl rfl (by omega) (So.q rfl rfl (V.mv (v := .p (.v (.int .i64 _))) rfl (So.e ?_)))))
      refine ⟨q + 1, by first | rfl | omega | (show _ < 29; omega) | (show _ ≤ 29; omega) | (intro j hj; rfl) | (simp; done) | (simp; omega), by omega, ⟨⟨⟨le_int (by first | rfl | omega | (show _ < 29; omega) | (show _ ≤ 29; omega) | (intro j hj; rfl) | (simp; done) | (simp; omega)), trivial⟩, ⟨.refl _, rfl⟩, ⟨.refl _, trivial⟩, trivial⟩, ⟨⟨_, rfl, .inr (ob_rows (by first | rfl | ((try dsimp only); first | rfl | omega | (show _ < 29; omega) | (show _ ≤ 29; omega) | (intro j hj; rfl) | (simp; done) | (simp; omega))) (by first | rfl | ((try dsimp only); first | rfl | omega | (show _ < 29; omega) | (show _ ≤ 29; omega) | (intro j hj; rfl) | (simp; done) | (simp; omega)))), trivial⟩, trivial⟩⟩⟩
 ·have h1 := of_decide_eq_false h1
  refine HT.exit ?_
  exact ret_ok (sg [(1, 1)]) h rfl rfl rfl ⟨trivial, trivial⟩ trivial rfl ⟨trivial, ⟨⟨_, rfl, .inr (ob_rows (by first | rfl | ((try dsimp only); (first | rfl | (replace hP0 : q = 24 := (by omega); subst hP0; first | rfl | (intro j hj; rfl))))) (by first | rfl | ((try dsimp only); (first | rfl | (replace hP0 : q = 24 := (by omega); subst hP0; first | rfl | (intro j hj; rfl)))))), trivial⟩, trivial⟩⟩
end Go.Vh

set_option linter.unusedVariables false
set_option linter.unusedSimpArgs false
namespace Go.Vh
open Go Go.Vc Go.Proofs Go.Vw
def kturnSp : Sp := ⟨[1], mkE (α := Nat × UInt8 × (Nat → UInt64) × Nat × Bool × Bool) (fun (r, e, w, p, g, b) => [.ptr 1 (0), .p (.v (.bool (b)))]) (fun (r, e, w, p, g, b) => [(1, ⟨75, 1, 29, true, .rows (spB r e (w) (p) g)⟩)]) (fun (r, e, w, p, g, b) => True) (fun (r, e, w, p, g, b) => []) (fun (r, e, w, p, g, b) => [(1, ⟨75, 1, 29, true, .rows (spB r e (if b then kf w else w) (if b then 0 else p) g)⟩)])⟩
def S_kturn : FuncId → Option Sp := fun f => if f = 64 then some kchangeSp else none
theorem S_kturn_ok : ∀ f s, S_kturn f = some s → FOK Tryd.prog gl f s := fun f s h => by
 unfold S_kturn at h
 split at h
 ·rename_i e; cases h; subst e; exact kchange_ok
 cases h
set_option maxHeartbeats 1000000 in
set_option maxRecDepth 20000 in
theorem kturn_ok : FOK Tryd.prog gl 56 kturnSp := by
 refine FOK.ofE (tyOf_ok Tryd.prog) (slots := []) (nt := 12) Tryd.func56 rfl rfl rfl rfl (by decide) 2 (fun ⟨_, _, _, _, _, _⟩ => rfl) (by decide) (fun ⟨_, _, _, _, _, _⟩ => ⟨rfl, trivial, trivial⟩) ?_
 rintro ⟨r, e, w, p, g, b⟩ kk hlen hpre h
 replace hpre : True := hpre
 show HT (cx Tryd.prog 12 (tyOf Tryd.prog) gl [1]) _ [(0, .ptr 1 (0)), (1, .p (.v (.bool (b))))] [(1, ⟨75, 1, 29, true, .rows (spB r e (w) (p) g)⟩)] _
 refine HT.seq (HT.region S_kturn_ok (So.q rfl rfl (V.mv (v := .p (.v (.bool _))) rfl (So.e ?_))))
 show HT _ _ _ _ _
 refine R.cond rfl rfl (fun h1 => ?_) (fun h1 => ?_)
 ·refine HT.seq ?_
  refine HT.region S_kturn_ok (So.q rfl rfl (V.mv (v := .ptr 1 0) rfl (So.q rfl rfl (V.ncPtr rfl (So.q rfl rfl (V.faPtr ty75 rfl ty73 (lk rfl) rfl rfl (lk rfl) ?_))))))
  refine So.n (lk rfl) (A.call [.ptr 1 _] [(1, ⟨_, _, _, _, .rows _⟩)] (sg [(1, 1)]) 2 rfl rfl rfl rfl ⟨rfl, trivial⟩ rfl ⟨trivial, trivial⟩ ⟨rfl, trivial⟩ ⟨lk rfl, trivial⟩ rfl (_, _, _, _, _) ⟨.refl _, trivial⟩ ⟨⟨_, rfl, .inl rfl, trivial⟩, trivial⟩ (by trivial) (Φ := fun _ => True) (fun _ _ => trivial) ⟨⟨_, _, rfl, rfl, rfl, Nat.le_refl _⟩, trivial⟩ (.inl rfl) rfl (v := .tup 0 _) rfl (O' := (1, ⟨_, _, _, _, .rows _⟩) :: _) rfl (fun h2 => ?_))
  refine So.e (HT.region S_kturn_ok (So.q rfl rfl (V.mv (v := .ptr 1 0) rfl (So.q rfl rfl (V.ncPtr rfl (So.q rfl rfl (V.faPtr ty75 rfl ty3 (lk rfl) rfl rfl (lk rfl) (So.s (A.sto ty3 rfl rfl rfl (v := .p (.v (.int .i64 _))) rfl rfl rfl (lk rfl) (c' := .rows (spB r e (kf w) 0 g)) (congrArg (fun g => some (OC.rows g)) (funext fun j => by exact spB_at rfl j)) rfl (So.e ?_))))))))))
  exact ret_ok (sg [(1, 1)]) h rfl rfl rfl ⟨trivial, trivial⟩ trivial rfl ⟨trivial, ⟨⟨_, rfl, .inr (ob_rows (by first | rfl | ((try dsimp only); (first | rfl | (intro j hj; simp only [if_true, if_false, Bool.false_eq_true, *]; done) | (intro j hj; simp_all; done)))) (by first | rfl | ((try dsimp only); (first | rfl | (intro j hj; simp only [if_true, if_false, Bool.false_eq_true, *]; done) | (intro j hj; simp_all; done))))), trivial⟩, trivial⟩⟩
 ·refine HT.skip ?_
  exact ret_ok (sg [(1, 1)]) h rfl rfl rfl ⟨trivial, trivial⟩ trivial rfl ⟨trivial, ⟨⟨_, rfl, .inr (ob_rows (by first | rfl | ((try dsimp only); (first | rfl | (intro j hj; simp only [if_true, if_false, Bool.false_eq_true, *]; done) | (intro j hj; simp_all; done)))) (by first | rfl | ((try dsimp only); (first | rfl | (intro j hj; simp only [if_true, if_false, Bool.false_eq_true, *]; done) | (intro j hj; simp_all; done))))), trivial⟩, trivial⟩⟩
end Go.Vh

set_option linter.unusedVariables false
set_option linter.unusedSimpArgs false
namespace Go.Vh
open Go Go.Vc Go.Proofs Go.Vw
def kwriteSp : Sp := ⟨[1], mkE (α := Nat × UInt8 × (List UInt8)) (fun (r, e, b) => [.ptr 1 (0), .p (.bs (b))]) (fun (r, e, b) => [(1, ⟨75, 1, 29, true, .rows (spB r e (fun _ => 0) (0) false)⟩)]) (fun (r, e, b) => 8 ≤ r ∧ r ≤ 192) (fun (r, e, b) => []) (fun (r, e, b) => [(1, ⟨75, 1, 29, true, .rows (spB r e ((wrN r b b.length).1) ((wrN r b b.length).2) false)⟩)])⟩
def S_kwrite : FuncId → Option Sp := fun f => if f = 55 then some klaySp else if f = 56 then some kturnSp else none
theorem S_kwrite_ok : ∀ f s, S_kwrite f = some s → FOK Tryd.prog gl f s := fun f s h => by
 unfold S_kwrite at h
 split at h
 ·rename_i e; cases h; subst e; exact klay_ok
 split at h
 ·rename_i e; cases h; subst e; exact kturn_ok
 cases h
set_option maxHeartbeats 1000000 in
set_option maxRecDepth 20000 in
theorem kwrite_ok : FOK Tryd.prog gl 44 kwriteSp := by
 refine FOK.ofE (tyOf_ok Tryd.prog) (slots := []) (nt := 42) Tryd.func44 rfl rfl rfl rfl (by decide) 2 (fun ⟨_, _, _⟩ => rfl) (by decide) (fun ⟨_, _, _⟩ => ⟨rfl, trivial, trivial⟩) ?_
 rintro ⟨r, e, b⟩ kk hlen hpre h
 have hl1 : (b).length ≤ 9223372036854775807 := hlen.2.1
 replace hpre : 8 ≤ r ∧ r ≤ 192 := hpre
 show HT (cx Tryd.prog 42 (tyOf Tryd.prog) gl [1]) _ [(0, .ptr 1 (0)), (1, .p (.bs (b)))] [(1, ⟨75, 1, 29, true, .rows (spB r e (fun _ => 0) (0) false)⟩)] _
 refine HT.seq (HT.seq (HT.region S_kwrite_ok (So.q rfl rfl (V.mv (v := .ptr 1 0) rfl (So.q rfl rfl (V.ncPtr rfl (So.q rfl rfl (V.faPtr ty75 rfl ty4 (lk rfl) rfl rfl (lk rfl) (So.q rfl rfl (V.ldPtr ty4 rfl rfl rfl (lk rfl) (v := .p (.v (.bool false))) (by rfl) (So.e ?_)))))))))))
 show HT _ _ _ _ _
 refine R.condF rfl ?_
 refine HT.skip (HT.seq (HT.region S_kwrite_ok (So.q rfl rfl (V.mv (v := .p (.bs _)) rfl (So.q rfl rfl (V.len ty22 (v := .p (.bs _)) rfl rfl (So.q rfl rfl (V.mv (v := .p (.v (.int .i64 (0)))) rfl (So.e (HT.block ?_))))))))))
 refine R.loop (σ := Nat) (fun s => [(12, .p (.v (.int .i64 ((s : Int)))))]) (fun s => [(1, ⟨75, 1, 29, true, .rows (spB r e ((wrN r b s).1) ((wrN r b s).2) false)⟩)]) [0, 10, 11] [] (fun s => s ≤ b.length) (fun s => b.length - s) (0) (fr0 := [(0, .ptr 1 0), (10, .p (.bs _)), (11, .p (.v (.int .i64 _)))]) (O0 := []) rfl rfl (by first | rfl | omega | (simp; done) | (simp; omega)) ⟨⟨⟨le_int (by first | rfl | omega | (intro j hj; rfl)), trivial⟩, ⟨.refl _, rfl⟩, ⟨.refl _, trivial⟩, ⟨.refl _, trivial⟩, trivial⟩, ⟨⟨_, rfl, .inr (ob_rows (by first | rfl | ((try dsimp only); first | rfl | omega | (intro j hj; rfl))) (by first | rfl | ((try dsimp only); first | rfl | omega | (intro j hj; rfl)))), trivial⟩, trivial⟩⟩ (fun s hP0 => ?_)
 refine HT.seq (HT.region S_kwrite_ok (So.q rfl rfl (V.bin (a := (.v (.int .i64 ((_ : Nat) : Int)))) (b := (.v (.int .i64 _))) (r := .v (.bool _)) rfl rfl rfl trivial (So.e (HT.seq ?_)))))
 refine R.cond rfl rfl (fun h1 => ?_) (fun h1 => ?_)
 ·have h1 := of_decide_eq_true h1
  refine HT.skip (HT.seq (HT.block (HT.seq (HT.region S_kwrite_ok ?_))))
  have hwr := wrN_le r b (by omega) s
  refine So.q rfl rfl (V.ixBs ty22 ty5 rfl rfl rfl (by omega) (Int.toNat_natCast _) (So.q rfl rfl (V.ldRp ty5 rfl rfl (lk rfl) (v := (.u8 _)) rfl (So.q rfl rfl (V.as (v := .p (.u8 _)) rfl (So.e (HT.seq (HT.region S_kwrite_ok (So.q rfl rfl (V.mv (v := .ptr 1 0) rfl (So.q rfl rfl (V.mv (v := .ptr 1 0) rfl (So.q rfl rfl (V.ncPtr rfl (So.q rfl rfl (V.faPtr ty75 rfl ty3 (lk rfl) rfl rfl (lk rfl) ?_))))))))))))))))
  refine So.q rfl rfl (V.ldPtr ty3 rfl rfl rfl (lk rfl) (v := .p (.v (.int .i64 _))) rfl (So.q rfl rfl (V.mv (v := .p (.u8 _)) rfl ?_)))
  refine So.n (lk rfl) (A.call [.ptr 1 _, .p (.v (.int .i64 _)), .p (.u8 _)] [(1, ⟨_, _, _, _, .rows _⟩)] (sg [(1, 1)]) 2 rfl rfl rfl rfl ⟨rfl, trivial⟩ rfl ⟨trivial, trivial⟩ ⟨rfl, trivial, trivial, trivial⟩ ⟨lk rfl, trivial⟩ rfl (r, e, (wrN r b s).1, (wrN r b s).2, false, (wrN r b s).2, b.getD s 0) ⟨.refl _, .refl _, .refl _, trivial⟩ ⟨⟨_, rfl, .inl rfl, trivial⟩, trivial⟩ (by first | omega | (simp only [List.drop_zero, List.take_length]; omega) | (simp; done) | (simp; omega)) (Φ := fun _ => True) (fun _ _ => trivial) ⟨⟨_, _, rfl, rfl, rfl, Nat.le_refl _⟩, trivial⟩ (.inl rfl) rfl (v := .tup 0 _) rfl (O' := (1, ⟨_, _, _, _, .rows _⟩) :: _) rfl (fun h2 => ?_))
  refine So.e (HT.seq (HT.region S_kwrite_ok (So.q rfl rfl (V.mv (v := .ptr 1 0) rfl (So.q rfl rfl (V.ncPtr rfl (So.q rfl rfl (V.faPtr ty75 rfl ty3 (lk rfl) rfl rfl (lk rfl) (So.q rfl rfl (V.ldPtr ty3 rfl rfl rfl (lk rfl) (v := .p (.v (.int .i64 _))) rfl (So.q rfl rfl (V.addI rfl rfl (by omega) (So.q rfl rfl (V.ncPtr rfl (So.q rfl rfl (V.faPtr ty75 rfl ty3 (lk rfl) rfl rfl (lk rfl) ?_))))))))))))))))
  refine So.s (A.sto ty3 rfl rfl rfl (v := .p (.v (.int .i64 _))) rfl rfl rfl (lk rfl) (c' := .rows (spB r e (layF (wrN r b s).1 (wrN r b s).2 (b.getD s 0)) ((wrN r b s).2 + 1) false)) (congrArg (fun g => some (OC.rows g)) (funext fun j => by exact spB_at (by omega) j)) rfl (So.e ?_))
  show HT _ _ _ _ _
  refine HT.tail S_kwrite_ok mixed 10 (by kernel_rfl) (by kernel_rfl) ?_
  refine So.q rfl rfl (V.mv (v := .ptr 1 0) rfl (So.q rfl rfl (V.mv (v := .ptr 1 0) rfl (So.q rfl rfl (V.ncPtr rfl (So.q rfl rfl (V.faPtr ty75 rfl ty3 (lk rfl) rfl rfl (lk rfl) (So.q rfl rfl (V.ldPtr ty3 rfl rfl rfl (lk rfl) (v := .p (.v (.int .i64 _))) rfl (So.q rfl rfl (V.mv (v := .ptr 1 0) rfl (So.q rfl rfl (V.ncPtr rfl (So.q rfl rfl (V.faPtr ty75 rfl ty3 (lk rfl) rfl rfl (lk rfl) (So.q rfl rfl (V.ldPtr ty3 rfl rfl rfl (lk rfl) (v := .p (.v (.int .i64 _))) rfl (So.q rfl rfl (V.bin (a := (.v (.int .i64 _))) (b := (.v (.int .i64 _))) (r := .v (.bool _)) rfl rfl rfl trivial ?_)))))))))))))))))))
  refine So.n (lk rfl) (A.call [.ptr 1 _, .p (.v (.bool _))] [(1, ⟨_, _, _, _, .rows _⟩)] (sg [(1, 1)]) 2 rfl rfl rfl rfl ⟨rfl, trivial⟩ rfl ⟨trivial, trivial⟩ ⟨rfl, trivial, trivial⟩ ⟨lk rfl, trivial⟩ rfl (r, e, layF (wrN r b s).1 (wrN r b s).2 (b.getD s 0), (wrN r b s).2 + 1, false, _) ⟨.refl _, .refl _, trivial⟩ ⟨⟨_, rfl, .inl rfl, trivial⟩, trivial⟩ (by trivial) (Φ := fun _ => True) (fun _ _ => trivial) ⟨⟨_, _, rfl, rfl, rfl, Nat.le_refl _⟩, trivial⟩ (.inl rfl) rfl (v := .tup 0 _) rfl (O' := (1, ⟨_, _, _, _, .rows _⟩) :: _) rfl (fun h3 => ?_))
  refine So.e (HT.region S_kwrite_ok (So.q rfl rfl (V.addI rfl rfl (by omega) (So.q rfl rfl (V.mv (v := .p (.v (.int .i64 _))) rfl (So.e ?_))))))
  refine ⟨s + 1, by first | rfl | omega | (simp; done) | (simp; omega), by omega, ⟨⟨⟨le_int (by first | rfl | omega | (simp; done) | (simp; omega)), trivial⟩, ⟨.refl _, rfl⟩, ⟨.refl _, trivial⟩, ⟨.refl _, trivial⟩, trivial⟩, ⟨⟨_, rfl, .inr (ob_rows (by first | rfl | ((try dsimp only); (intro j hj; show spB r e _ _ false j = spB r e (wrS r (wrN r b s) (b.getD s 0)).1 (wrS r (wrN r b s) (b.getD s 0)).2 false j; unfold wrS; by_cases h9 : (wrN r b s).2 + 1 = r <;> simp [h9] <;> (first | done | rfl | (have h8 : ¬ (((wrN r b s).2 : Int) + 1 = (r : Int)) := (by omega); simp [h8]; done) | (have h8 : (((wrN r b s).2 : Int) + 1 = (r : Int)) := (by omega); simp [h8]; done))))) (by first | rfl | ((try dsimp only); (intro j hj; show spB r e _ _ false j = spB r e (wrS r (wrN r b s) (b.getD s 0)).1 (wrS r (wrN r b s) (b.getD s 0)).2 false j; unfold wrS; by_cases h9 : (wrN r b s).2 + 1 = r <;> simp [h9] <;> (first | done | rfl | (have h8 : ¬ (((wrN r b s).2 : Int) + 1 = (r : Int)) := (by omega); simp [h8]; done) | (have h8 : (((wrN r b s).2 : Int) + 1 = (r : Int)) := (by omega); simp [h8]; done)))))), trivial⟩, trivial⟩⟩⟩
 ·have h1 := of_decide_eq_false h1
  refine HT.exit ?_
  exact ret_ok (sg [(1, 1)]) h rfl rfl rfl ⟨trivial, trivial⟩ trivial rfl ⟨trivial, ⟨⟨_, rfl, .inr (ob_rows (by first | rfl | ((try dsimp only); (first | rfl | (replace hP0 : s = b.length := (by omega); subst hP0; first | rfl | (intro j hj; rfl))))) (by first | rfl | ((try dsimp only); (first | rfl | (replace hP0 : s = b.length := (by omega); subst hP0; first | rfl | (intro j hj; rfl)))))), trivial⟩, trivial⟩⟩
end Go.Vh

set_option linter.unusedVariables false
set_option linter.unusedSimpArgs false
namespace Go.Vh
open Go Go.Vc Go.Proofs Go.Vw
def knewSp : Sp := ⟨[], mkE (α := Nat × UInt8) (fun (r, e) => [.p (.v (.int .i64 ((r : Int)))), .p (.u8 (e))]) (fun (r, e) => []) (fun (r, e) => 8 ≤ r ∧ r ≤ 192 ∧ r % 8 = 0) (fun (r, e) => [.ptr 1 (0)]) (fun (r, e) => [(1, ⟨75, 1, 29, true, .rows (spB r e (fun _ => 0) (0) false)⟩)])⟩
def S_knew : FuncId → Option Sp := fun _ => none
theorem S_knew_ok : ∀ f s, S_knew f = some s → FOK Tryd.prog gl f s := fun f s h => by cases h
set_option maxHeartbeats 1000000 in
set_option maxRecDepth 20000 in
theorem knew_ok : FOK Tryd.prog gl 43 knewSp := by
 refine FOK.ofE (tyOf_ok Tryd.prog) (slots := [4]) (nt := 20) Tryd.func43 rfl rfl rfl rfl (by decide) 2 (fun ⟨_, _⟩ => rfl) (by decide) (fun ⟨_, _⟩ => ⟨trivial, trivial, trivial⟩) ?_
 rintro ⟨r, e⟩ kk hlen hpre h
 replace hpre : 8 ≤ r ∧ r ≤ 192 ∧ r % 8 = 0 := hpre
 show HT (cx Tryd.prog 20 (tyOf Tryd.prog) gl []) _ [(0, .p (.v (.int .i64 ((r : Int))))), (1, .p (.u8 (e)))] [] _
 have h7 := and7 (r := r) (by omega) (by omega)
 refine HT.seq (HT.region S_knew_ok (So.q rfl rfl (V.as (v := _) rfl (So.e (HT.seq (HT.seq (HT.region S_knew_ok (So.q rfl rfl (V.mv (v := .p (.v (.int .i64 ((_ : Nat) : Int)))) rfl (So.q rfl rfl (V.bin (a := (.v (.int .i64 ((_ : Nat) : Int)))) (b := (.v (.int .i64 (8)))) (r := .v (.bool _)) rfl rfl rfl trivial (So.q rfl rfl (V.mv (v := .p (.v (.bool _))) rfl ?_)))))))))))))
 refine So.gd rfl rfl (lk rfl) (lk rfl) (fun h1 => ?_) (fun h1 => ?_)
 ·have h1 := of_decide_eq_false h1
  refine A.v rfl (V.mv (v := .p (.v (.int .i64 ((_ : Nat) : Int)))) rfl (So.gy rfl rfl (lk rfl) (lk rfl) (A.v rfl (V.bin (a := (.v (.int .i64 ((_ : Nat) : Int)))) (b := (.v (.int .i64 (192)))) (r := .v (.bool _)) rfl rfl rfl trivial (So.q rfl rfl (V.pkFalse (u := .p (.v (.bool _))) rfl rfl (So.q rfl rfl (V.mv (v := .p (.v (.bool _))) rfl ?_))))))))
  refine So.gd rfl rfl (lk rfl) (lk rfl) (fun h2 => ?_) (fun h2 => ?_)
  ·have h2 := of_decide_eq_false h2
   refine A.v rfl (V.mv (v := .p (.v (.int .i64 ((_ : Nat) : Int)))) rfl (So.gy rfl rfl (lk rfl) (lk rfl) (A.v rfl (V.bin (a := (.v (.int .i64 ((_ : Nat) : Int)))) (b := (.v (.int .i64 (7)))) (r := .v (.int .i64 _)) rfl rfl rfl trivial (So.gy rfl rfl (lk rfl) (lk rfl) (A.v rfl (V.bin (a := (.v (.int .i64 _))) (b := (.v (.int .i64 (0)))) (r := .v (.bool _)) rfl rfl rfl trivial (So.q rfl rfl (V.pkFalse (u := .p (.v (.bool _))) rfl rfl (So.e ?_))))))))))
   show HT _ _ _ _ _
   refine R.cond rfl rfl (fun h3 => ?_) (fun h3 => ?_)
   ·have h3 := of_decide_eq_false (bnT h3)
    refine HT.seq ?_
    exfalso; first | omega | (simp_all; done)
   ·have h3 := of_decide_eq_true (bnF h3)
    refine HT.skip (HT.seq (HT.region S_knew_ok (So.q rfl rfl (V.mv (v := .p (.v (.int .i64 ((_ : Nat) : Int)))) rfl (So.q rfl rfl (V.mv (v := .p (.u8 _)) rfl (So.n (lk rfl) (A.bldS ty75 rfl rfl ⟨by first | exact trivial | exact rfl | (intro j hj; first | trivial | rfl | (simp [BV.one]; done)), by first | exact trivial | exact rfl | (intro j hj; first | trivial | rfl | (simp [BV.one]; done)), trivial⟩ rfl (f := spB r e (fun _ => 0) 0 false) (by exact allP_spec (P := fun j => _ = _) ⟨⟨⟨⟨⟨⟨⟨⟨⟨⟨⟨⟨⟨⟨⟨⟨⟨⟨⟨⟨⟨⟨⟨⟨⟨⟨⟨⟨⟨trivial, rfl⟩, rfl⟩, rfl⟩, rfl⟩, rfl⟩, rfl⟩, rfl⟩, rfl⟩, rfl⟩, rfl⟩, rfl⟩, rfl⟩, rfl⟩, rfl⟩, rfl⟩, rfl⟩, rfl⟩, rfl⟩, rfl⟩, rfl⟩, rfl⟩, rfl⟩, rfl⟩, rfl⟩, rfl⟩, rfl⟩, rfl⟩, rfl⟩, rfl⟩) (So.n (lk rfl) (A.boxAg 1 1 (n := 29) rfl (by intro j hj; exact spB_one _) rfl trivial (So.q rfl rfl (V.as (v := .ptr 1 0) rfl (So.e ?_)))))))))))))
    show HT _ _ _ _ _
    refine HT.ret ?_
    exact ret_ok (sg [(1, 1)]) h rfl rfl rfl ⟨trivial, trivial⟩ ⟨rfl, trivial⟩ rfl ⟨⟨⟨.refl _, rfl⟩, trivial⟩, ⟨⟨_, rfl, .inr (ob_rows (by first | rfl | ((try dsimp only); (first | rfl | (intro j hj; rfl)))) (by first | rfl | ((try dsimp only); (first | rfl | (intro j hj; rfl))))), trivial⟩, trivial⟩⟩
  ·have h2 := of_decide_eq_true h2
   refine So.gn (b := true) rfl rfl rfl (lk rfl) (lk rfl) (So.gn (b := true) rfl rfl rfl (lk rfl) (lk rfl) (So.q rfl rfl (V.pkTrue (u := .p (.v (.bool true))) rfl rfl (So.e ?_))))
   show HT _ _ _ _ _
   refine R.condT rfl ?_
   refine HT.seq ?_
   exfalso; first | omega | (simp_all; done)
 ·have h1 := of_decide_eq_true h1
  refine So.gn (b := true) rfl rfl rfl (lk rfl) (lk rfl) (So.q rfl rfl (V.pkTrue (u := .p (.v (.bool true))) rfl rfl (So.q rfl rfl (V.mv (v := .p (.v (.bool true))) rfl (So.gn (b := true) rfl rfl rfl (lk rfl) (lk rfl) (So.gn (b := true) rfl rfl rfl (lk rfl) (lk rfl) (So.gn (b := true) rfl rfl rfl (lk rfl) (lk rfl) (So.q rfl rfl (V.pkTrue (u := .p (.v (.bool true))) rfl rfl (So.e ?_))))))))))
  show HT _ _ _ _ _
  refine R.condT rfl ?_
  refine HT.seq ?_
  exfalso; first | omega | (simp_all; done)
end Go.Vh

set_option linter.unusedVariables false
set_option linter.unusedSimpArgs false
namespace Go.Vh
open Go Go.Vc Go.Proofs Go.Vw
def kreadSp : Sp := ⟨[1], mkE (α := Nat × UInt8 × (Nat → UInt64) × Nat × Nat) (fun (r, e, w, p, m) => [.ptr 1 (0), .p (.v (.int .i64 ((m : Int))))]) (fun (r, e, w, p, m) => [(1, ⟨75, 1, 29, true, .rows (spB r e (w) (p) false)⟩)]) (fun (r, e, w, p, m) => 8 ≤ r ∧ r ≤ 192 ∧ p < r ∧ m ≤ 65536) (fun (r, e, w, p, m) => [.own 2 (0) (m)]) (fun (r, e, w, p, m) => [(1, ⟨75, 1, 29, true, .rows (spB r e ((gvN r (padK r e (w, p)) m).1) ((gvN r (padK r e (w, p)) m).2) true)⟩), (2, ⟨5, 1, m, true, .bs (gvL r (padK r e (w, p)) m)⟩)])⟩
def S_kread : FuncId → Option Sp := fun f => if f = 55 then some klaySp else if f = 56 then some kturnSp else none
theorem S_kread_ok : ∀ f s, S_kread f = some s → FOK Tryd.prog gl f s := fun f s h => by
 unfold S_kread at h
 split at h
 ·rename_i e; cases h; subst e; exact klay_ok
 split at h
 ·rename_i e; cases h; subst e; exact kturn_ok
 cases h
set_option maxHeartbeats 1000000 in
set_option maxRecDepth 20000 in
theorem kread_ok : FOK Tryd.prog gl 45 kreadSp := by
 refine FOK.ofE (tyOf_ok Tryd.prog) (slots := [4]) (nt := 88) Tryd.func45 rfl rfl rfl rfl (by decide) 2 (fun ⟨_, _, _, _, _⟩ => rfl) (by decide) (fun ⟨_, _, _, _, _⟩ => ⟨rfl, trivial, trivial⟩) ?_
 rintro ⟨r, e, w, p, m⟩ kk hlen hpre h
 replace hpre : 8 ≤ r ∧ r ≤ 192 ∧ p < r ∧ m ≤ 65536 := hpre
 show HT (cx Tryd.prog 88 (tyOf Tryd.prog) gl [1]) _ [(0, .ptr 1 (0)), (1, .p (.v (.int .i64 ((m : Int)))))] [(1, ⟨75, 1, 29, true, .rows (spB r e (w) (p) false)⟩)] _
 refine HT.seq (HT.region S_kread_ok (So.q rfl rfl (V.as (v := .p (.v (.slice none 0 0))) rfl (So.e (HT.seq (HT.seq (HT.region S_kread_ok (So.q rfl rfl (V.mv (v := .p (.v (.int .i64 ((_ : Nat) : Int)))) rfl (So.q rfl rfl (V.bin (a := (.v (.int .i64 ((_ : Nat) : Int)))) (b := (.v (.int .i64 (0)))) (r := .v (.bool _)) rfl rfl rfl trivial (So.q rfl rfl (V.mv (v := .p (.v (.bool _))) rfl ?_)))))))))))))
 refine So.gd rfl rfl (lk rfl) (lk rfl) (fun h1 => ?_) (fun h1 => ?_)
 ·have h1 := of_decide_eq_false h1
  refine A.v rfl (V.mv (v := .p (.v (.int .i64 ((_ : Nat) : Int)))) rfl (So.gy rfl rfl (lk rfl) (lk rfl) (A.v rfl (V.bin (a := (.v (.int .i64 ((_ : Nat) : Int)))) (b := (.v (.int .i64 (65536)))) (r := .v (.bool _)) rfl rfl rfl trivial (So.q rfl rfl (V.pkFalse (u := .p (.v (.bool _))) rfl rfl (So.e ?_)))))))
  show HT _ _ _ _ _
  refine R.cond rfl rfl (fun h2 => ?_) (fun h2 => ?_)
  ·have h2 := of_decide_eq_true h2
   refine HT.seq ?_
   exfalso; omega
  ·have h2 := of_decide_eq_false h2
   refine HT.skip (HT.seq (HT.seq (HT.region S_kread_ok (So.q rfl rfl (V.mv (v := .ptr 1 0) rfl (So.q rfl rfl (V.ncPtr rfl (So.q rfl rfl (V.faPtr ty75 rfl ty4 (lk rfl) rfl rfl (lk rfl) (So.q rfl rfl (V.ldPtr ty4 rfl rfl rfl (lk rfl) (v := .p (.v (.bool false))) (by rfl) (So.q rfl rfl (V.not (b := false) rfl (So.e ?_))))))))))))))
   show HT _ _ _ _ _
   refine R.condT rfl ?_
   refine HT.seq ?_
   refine HT.tail S_kread_ok mixed 9 (by kernel_rfl) (by kernel_rfl) ?_
   refine So.q rfl rfl (V.mv (v := .ptr 1 0) rfl (So.q rfl rfl (V.mv (v := .ptr 1 0) rfl (So.q rfl rfl (V.ncPtr rfl (So.q rfl rfl (V.faPtr ty75 rfl ty3 (lk rfl) rfl rfl (lk rfl) (So.q rfl rfl (V.ldPtr ty3 rfl rfl rfl (lk rfl) (v := .p (.v (.int .i64 _))) rfl (So.q rfl rfl (V.mv (v := .ptr 1 0) rfl (So.q rfl rfl (V.ncPtr rfl (So.q rfl rfl (V.faPtr ty75 rfl ty5 (lk rfl) rfl rfl (lk rfl) (So.q rfl rfl (V.ldPtr ty5 rfl rfl rfl (lk rfl) (v := .p (.u8 _)) rfl ?_)))))))))))))))))
   refine So.n (lk rfl) (A.call [.ptr 1 _, .p (.v (.int .i64 _)), .p (.u8 _)] [(1, ⟨_, _, _, _, .rows _⟩)] (sg [(1, 1)]) 2 rfl rfl rfl rfl ⟨rfl, trivial⟩ rfl ⟨trivial, trivial⟩ ⟨rfl, trivial, trivial, trivial⟩ ⟨lk rfl, trivial⟩ rfl (r, e, w, p, false, p, e) ⟨.refl _, .refl _, .refl _, trivial⟩ ⟨⟨_, rfl, .inl rfl, trivial⟩, trivial⟩ (by first | omega | (simp only [List.drop_zero, List.take_length]; omega) | (simp; done) | (simp; omega)) (Φ := fun _ => True) (fun _ _ => trivial) ⟨⟨_, _, rfl, rfl, rfl, Nat.le_refl _⟩, trivial⟩ (.inl rfl) rfl (v := .tup 0 _) rfl (O' := (1, ⟨_, _, _, _, .rows _⟩) :: _) rfl (fun h3 => ?_))
   refine So.e (HT.seq (HT.region S_kread_ok (So.q rfl rfl (V.mv (v := .ptr 1 0) rfl (So.q rfl rfl (V.mv (v := .ptr 1 0) rfl (So.q rfl rfl (V.ncPtr rfl (So.q rfl rfl (V.faPtr ty75 rfl ty3 (lk rfl) rfl rfl (lk rfl) (So.q rfl rfl (V.ldPtr ty3 rfl rfl rfl (lk rfl) (v := .p (.v (.int .i64 _))) rfl (So.q rfl rfl (V.subI rfl rfl (by omega) ?_))))))))))))))
   refine So.n (lk rfl) (A.call [.ptr 1 _, .p (.v (.int .i64 _)), .p (.u8 _)] [(1, ⟨_, _, _, _, .rows _⟩)] (sg [(1, 1)]) 2 rfl rfl rfl rfl ⟨rfl, trivial⟩ rfl ⟨trivial, trivial⟩ ⟨rfl, trivial, trivial, trivial⟩ ⟨lk rfl, trivial⟩ rfl (r, e, layF w p e, p, false, r - 1, 128) ⟨.refl _, le_int (by omega), .refl _, trivial⟩ ⟨⟨_, rfl, .inl rfl, trivial⟩, trivial⟩ (by first | omega | (simp only [List.drop_zero, List.take_length]; omega) | (simp; done) | (simp; omega)) (Φ := fun _ => True) (fun _ _ => trivial) ⟨⟨_, _, rfl, rfl, rfl, Nat.le_refl _⟩, trivial⟩ (.inl rfl) rfl (v := .tup 0 _) rfl (O' := (1, ⟨_, _, _, _, .rows _⟩) :: _) rfl (fun h4 => ?_))
   refine So.e (HT.seq (HT.region S_kread_ok (So.q rfl rfl (V.mv (v := .ptr 1 0) rfl ?_))))
   refine So.n (lk rfl) (A.call [.ptr 1 _, .p (.v (.bool true))] [(1, ⟨_, _, _, _, .rows _⟩)] (sg [(1, 1)]) 2 rfl rfl rfl rfl ⟨rfl, trivial⟩ rfl ⟨trivial, trivial⟩ ⟨rfl, trivial, trivial⟩ ⟨lk rfl, trivial⟩ rfl (r, e, layF (layF w p e) (r - 1) 128, p, false, true) ⟨.refl _, .refl _, trivial⟩ ⟨⟨_, rfl, .inl rfl, trivial⟩, trivial⟩ (by trivial) (Φ := fun _ => True) (fun _ _ => trivial) ⟨⟨_, _, rfl, rfl, rfl, Nat.le_refl _⟩, trivial⟩ (.inl rfl) rfl (v := .tup 0 _) rfl (O' := (1, ⟨_, _, _, _, .rows _⟩) :: _) rfl (fun h5 => ?_))
   refine So.e (HT.region S_kread_ok (So.q rfl rfl (V.mv (v := .ptr 1 0) rfl (So.q rfl rfl (V.ncPtr rfl (So.q rfl rfl (V.faPtr ty75 rfl ty4 (lk rfl) rfl rfl (lk rfl) (So.s (A.sto ty4 rfl rfl rfl (v := .p (.v (.bool true))) rfl rfl rfl (lk rfl) (c' := .rows (spB r e (padK r e (w, p)) 0 true)) (congrArg (fun g => some (OC.rows g)) (funext fun j => by exact spB_gv j)) rfl (So.e (HT.seq (HT.region S_kread_ok (So.q rfl rfl (V.mv (v := .p (.v (.int .i64 ((_ : Nat) : Int)))) rfl ?_))))))))))))))
   refine So.n (lk rfl) (A.mkB 2 ty22 ty5 rfl rfl rfl (by omega) (n := m) (by omega) rfl ⟨lk rfl, trivial⟩ (So.q rfl rfl (V.as (v := .own 2 0 _) rfl (So.e (HT.seq (HT.seq (HT.region S_kread_ok (So.q rfl rfl (V.mv (v := .own 2 0 _) rfl (So.q rfl rfl (V.len ty22 (v := .own 2 0 _) rfl rfl (So.q rfl rfl (V.mv (v := .p (.v (.int .i64 (0)))) rfl (So.e ?_))))))))))))))
   show HT _ _ _ _ _
   refine HT.block ?_
   refine R.loop (σ := Nat) (fun s => [(44, .p (.v (.int .i64 ((s : Int)))))]) (fun s => [(1, ⟨75, 1, 29, true, .rows (spB r e ((gvN r (padK r e (w, p)) s).1) ((gvN r (padK r e (w, p)) s).2) true)⟩), (2, ⟨5, 1, m, true, .bs (gvL r (padK r e (w, p)) s ++ List.replicate (m - s) 0)⟩)]) [0, 4, 5, 43] [] (fun s => s ≤ m) (fun s => m - s) (0) (fr0 := [(0, .ptr 1 0), (4, .p (.v (.slice none 0 0))), (5, .own 2 0 _), (43, .p (.v (.int .i64 _)))]) (O0 := []) rfl rfl (by first | rfl | omega | (show _ < 29; omega) | (show _ ≤ 29; omega) | (intro j hj; rfl) | (simp; done) | (simp; omega)) ⟨⟨⟨le_int (by first | rfl | omega | (intro j hj; rfl) | (simp; done)), trivial⟩, ⟨.refl _, rfl⟩, ⟨.refl _, trivial⟩, ⟨.refl _, rfl⟩, ⟨.refl _, trivial⟩, trivial⟩, ⟨⟨_, rfl, .inr (ob_rows (by first | rfl | ((try dsimp only); first | rfl | omega | (intro j hj; rfl) | (simp; done))) (by first | rfl | ((try dsimp only); first | rfl | omega | (intro j hj; rfl) | (simp; done)))), trivial⟩, ⟨_, rfl, .inl (ob_bs (by first | rfl | ((try dsimp only); first | rfl | omega | (intro j hj; rfl) | (simp; done))) (by first | rfl | ((try dsimp only); first | rfl | omega | (intro j hj; rfl) | (simp; done)))), trivial⟩, trivial⟩⟩ (fun s hP0 => ?_)
   refine HT.seq (HT.region S_kread_ok (So.q rfl rfl (V.bin (a := (.v (.int .i64 ((_ : Nat) : Int)))) (b := (.v (.int .i64 _))) (r := .v (.bool _)) rfl rfl rfl trivial (So.e (HT.seq ?_)))))
   refine R.cond rfl rfl (fun h6 => ?_) (fun h6 => ?_)
   ·have h6 := of_decide_eq_true h6
    refine HT.skip (HT.seq (HT.block (HT.seq (HT.region S_kread_ok (So.q rfl rfl (V.mv (v := .p (.v (.int .i64 ((_ : Nat) : Int)))) rfl (So.q rfl rfl (V.as (v := .p (.v (.int .i64 ((_ : Nat) : Int)))) rfl (So.e (HT.seq ?_))))))))))
    refine HT.tail S_kread_ok mixed 10 (by kernel_rfl) (by kernel_rfl) ?_
    refine So.q rfl rfl (V.mv (v := .ptr 1 0) rfl (So.q rfl rfl (V.mv (v := .ptr 1 0) rfl (So.q rfl rfl (V.ncPtr rfl (So.q rfl rfl (V.faPtr ty75 rfl ty3 (lk rfl) rfl rfl (lk rfl) (So.q rfl rfl (V.ldPtr ty3 rfl rfl rfl (lk rfl) (v := .p (.v (.int .i64 _))) rfl (So.q rfl rfl (V.mv (v := .ptr 1 0) rfl (So.q rfl rfl (V.ncPtr rfl (So.q rfl rfl (V.faPtr ty75 rfl ty3 (lk rfl) rfl rfl (lk rfl) (So.q rfl rfl (V.ldPtr ty3 rfl rfl rfl (lk rfl) (v := .p (.v (.int .i64 _))) rfl (So.q rfl rfl (V.bin (a := (.v (.int .i64 _))) (b := (.v (.int .i64 _))) (r := .v (.bool _)) rfl rfl rfl trivial ?_)))))))))))))))))))
    refine So.n (lk rfl) (A.call [.ptr 1 _, .p (.v (.bool _))] [(1, ⟨_, _, _, _, .rows _⟩)] (sg [(1, 1)]) 3 rfl rfl rfl rfl ⟨rfl, trivial⟩ rfl ⟨trivial, trivial⟩ ⟨rfl, trivial, trivial⟩ ⟨lk rfl, trivial⟩ rfl (r, e, (gvN r (padK r e (w, p)) s).1, (gvN r (padK r e (w, p)) s).2, true, _) ⟨.refl _, .refl _, trivial⟩ ⟨⟨_, rfl, .inl rfl, trivial⟩, trivial⟩ (by trivial) (Φ := fun _ => True) (fun _ _ => trivial) ⟨⟨_, _, rfl, rfl, rfl, Nat.le_refl _⟩, trivial⟩ (.inl rfl) rfl (v := .tup 0 _) rfl (O' := (1, ⟨_, _, _, _, .rows _⟩) :: _) rfl (fun h7 => ?_))
    refine So.e (HT.seq ?_)
    refine R.tell [] [(1, ⟨75, 1, 29, true, .rows (spB r e ((gvT r (gvN r (padK r e (w, p)) s)).1) ((gvT r (gvN r (padK r e (w, p)) s)).2) true)⟩)] [0, 4, 5, 6, 43, 44] [2] (fr0 := [(0, .ptr 1 0), (4, .p (.v (.slice none 0 0))), (5, .own 2 0 _), (6, .p (.v (.int .i64 ((_ : Nat) : Int)))), (43, .p (.v (.int .i64 _))), (44, .p (.v (.int .i64 ((_ : Nat) : Int))))]) (O0 := [(2, ⟨_, _, _, _, .bs _⟩)]) rfl rfl ⟨⟨⟨.refl _, rfl⟩, ⟨.refl _, trivial⟩, ⟨.refl _, rfl⟩, ⟨.refl _, trivial⟩, ⟨.refl _, trivial⟩, ⟨.refl _, trivial⟩, trivial⟩, ⟨⟨_, rfl, .inr (ob_rows (by first | rfl | ((try dsimp only); (intro j hj; have hh := gvT_eq r (gvN r (padK r e (w, p)) s); rw [← hh.1, ← hh.2]; simp only [decide_eq_true_eq]; done))) (by first | rfl | ((try dsimp only); (intro j hj; have hh := gvT_eq r (gvN r (padK r e (w, p)) s); rw [← hh.1, ← hh.2]; simp only [decide_eq_true_eq]; done)))), trivial⟩, ⟨_, rfl, .inl rfl, trivial⟩, trivial⟩⟩ ?_
    show HT _ _ _ _ _
    refine HT.tail S_kread_ok mixed 21 (by kernel_rfl) (by kernel_rfl) ?_
    have hgn := gvN_le r (padK r e (w, p)) (by omega) s
    have hgt := gvT_lt r (gvN r (padK r e (w, p)) s) (by omega) hgn
    refine So.q rfl rfl (V.mv (v := .own 2 0 _) rfl (So.q rfl rfl (V.mv (v := .p (.v (.int .i64 ((_ : Nat) : Int)))) rfl (So.q rfl rfl (V.mv (v := .ptr 1 0) rfl (So.q rfl rfl (V.mv (v := .ptr 1 0) rfl (So.q rfl rfl (V.ncPtr rfl (So.q rfl rfl (V.faPtr ty75 rfl ty3 (lk rfl) rfl rfl (lk rfl) (So.q rfl rfl (V.ldPtr ty3 rfl rfl rfl (lk rfl) (v := .p (.v (.int .i64 _))) rfl (So.q rfl rfl (V.quoI rfl rfl (by omega) (So.q rfl rfl (V.ncPtr rfl (So.q rfl rfl (V.faPtr ty75 rfl ty73 (lk rfl) rfl rfl (lk rfl) ?_)))))))))))))))))))
    refine So.q rfl rfl (V.ixArrP1 (mi := (gvT r (gvN r (padK r e (w, p)) s)).2 / 8) ty73 ty66 rfl rfl rfl (by first | rfl | omega | (show _ < 29; omega) | (show _ ≤ 29; omega) | (intro j hj; rfl) | (simp; done) | (simp; omega)) rfl (by omega) (by omega) (So.q rfl rfl (V.ldPtr ty66 rfl rfl rfl (by first | rfl | omega | (show _ < 29; omega) | (show _ ≤ 29; omega) | (intro j hj; rfl) | (simp; done) | (simp; omega)) (v := .p (.u64 ((gvT r (gvN r (padK r e (w, p)) s)).1 ((gvT r (gvN r (padK r e (w, p)) s)).2 / 8)))) (by first | exact (congrArg BV.p (spB_w (i := (gvT r (gvN r (padK r e (w, p)) s)).2 / 8) (by omega) (by omega))).trans (by rfl) | exact congrArg BV.p (spB_w (i := (gvT r (gvN r (padK r e (w, p)) s)).2 / 8) (by omega) (by omega))) (So.q rfl rfl (V.mv (v := .ptr 1 0) rfl (So.q rfl rfl (V.ncPtr rfl (So.q rfl rfl (V.faPtr ty75 rfl ty3 (lk rfl) rfl rfl (lk rfl) (So.q rfl rfl (V.ldPtr ty3 rfl rfl rfl (lk rfl) (v := .p (.v (.int .i64 _))) rfl (So.q rfl rfl (V.remI rfl rfl (by omega) (So.q rfl rfl (V.mulI rfl rfl (by omega) (So.q rfl rfl (V.bin (a := (.u64 _)) (b := (.v (.int .i64 _))) (r := .u64 _) rfl rfl rfl (by first | rfl | omega | (show _ < 29; omega) | (show _ ≤ 29; omega) | (intro j hj; rfl) | (simp; done) | (simp; omega)) (So.q rfl rfl (V.cvN ty5 ty66 (a := (.u64 _)) (r := (.u8 _)) rfl rfl ?_)))))))))))))))))))
    refine So.q rfl rfl (V.ixOwn10 (mi := s) ty22 ty5 rfl rfl rfl rfl rfl (by omega) (by omega) (So.s (A.sto ty5 rfl rfl rfl (v := .p (.u8 _)) rfl trivial rfl (by first | rfl | omega | (show _ < 29; omega) | (show _ ≤ 29; omega) | (intro j hj; rfl) | (simp; done) | (simp; omega)) rfl rfl (So.e (HT.region S_kread_ok (So.q rfl rfl (V.mv (v := .ptr 1 0) rfl (So.q rfl rfl (V.ncPtr rfl (So.q rfl rfl (V.faPtr ty75 rfl ty3 (lk rfl) rfl rfl (lk rfl) (So.q rfl rfl (V.ldPtr ty3 rfl rfl rfl (lk rfl) (v := .p (.v (.int .i64 _))) rfl (So.q rfl rfl (V.addI rfl rfl (by omega) (So.q rfl rfl (V.ncPtr rfl ?_)))))))))))))))))
    refine So.q rfl rfl (V.faPtr ty75 rfl ty3 (lk rfl) rfl rfl (lk rfl) (So.s (A.sto ty3 rfl rfl rfl (v := .p (.v (.int .i64 _))) rfl rfl rfl (lk rfl) (c' := .rows (spB r e ((gvT r (gvN r (padK r e (w, p)) s)).1) ((gvT r (gvN r (padK r e (w, p)) s)).2 + 1) true)) (congrArg (fun g => some (OC.rows g)) (funext fun j => by exact spB_at (by omega) j)) rfl (So.e (HT.region S_kread_ok (So.q rfl rfl (V.addI rfl rfl (by omega) (So.q rfl rfl (V.mv (v := .p (.v (.int .i64 _))) rfl (So.e ?_))))))))))
    refine ⟨s + 1, by first | rfl | omega | (show _ < 29; omega) | (show _ ≤ 29; omega) | (intro j hj; rfl) | (simp; done) | (simp; omega), by omega, ⟨⟨⟨le_int (by first | rfl | omega | (show _ < 29; omega) | (show _ ≤ 29; omega) | (intro j hj; rfl) | (simp; done) | (simp; omega)), trivial⟩, ⟨.refl _, rfl⟩, ⟨.refl _, trivial⟩, ⟨.refl _, rfl⟩, ⟨.refl _, trivial⟩, trivial⟩, ⟨⟨_, rfl, .inr (ob_rows (by first | rfl | ((try dsimp only); first | rfl | omega | (show _ < 29; omega) | (show _ ≤ 29; omega) | (intro j hj; rfl) | (simp; done) | (simp; omega))) (by first | rfl | ((try dsimp only); first | rfl | omega | (show _ < 29; omega) | (show _ ≤ 29; omega) | (intro j hj; rfl) | (simp; done) | (simp; omega)))), trivial⟩, ⟨_, rfl, .inl (ob_bs (by rfl) (by exact gvL_set r (padK r e (w, p)) s m (by omega))), trivial⟩, trivial⟩⟩⟩
   ·have h6 := of_decide_eq_false h6
    refine HT.exit ?_
    show HT _ _ _ _ _
    refine HT.seq (HT.region S_kread_ok (So.q rfl rfl (V.mv (v := .own 2 0 _) rfl (So.q rfl rfl (V.as (v := .own 2 0 _) rfl (So.e ?_))))))
    show HT _ _ _ _ _
    refine HT.ret ?_
    exact ret_ok (sg [(1, 1), (2, 2)]) h rfl rfl rfl ⟨trivial, trivial, trivial⟩ ⟨rfl, trivial⟩ rfl ⟨⟨⟨le_own2 (by first | rfl | omega) (by first | rfl | (replace hP0 : s = m := (by omega); subst hP0; first | rfl | exact gvL_end _ _ _ | (intro j hj; rfl))), rfl⟩, trivial⟩, ⟨⟨_, rfl, .inr (ob_rows (by first | rfl | ((try dsimp only); (first | rfl | (replace hP0 : s = m := (by omega); subst hP0; first | rfl | exact gvL_end _ _ _ | (intro j hj; rfl))))) (by first | rfl | ((try dsimp only); (first | rfl | (replace hP0 : s = m := (by omega); subst hP0; first | rfl | exact gvL_end _ _ _ | (intro j hj; rfl)))))), trivial⟩, ⟨_, rfl, .inl (ob_bs (by first | rfl | ((try dsimp only); (first | rfl | (replace hP0 : s = m := (by omega); subst hP0; first | rfl | exact gvL_end _ _ _ | (intro j hj; rfl))))) (by first | rfl | ((try dsimp only); (first | rfl | (replace hP0 : s = m := (by omega); subst hP0; first | rfl | exact gvL_end _ _ _ | (intro j hj; rfl)))))), trivial⟩, trivial⟩⟩
 ·have h1 := of_decide_eq_true h1
  refine So.gn (b := true) rfl rfl rfl (lk rfl) (lk rfl) (So.q rfl rfl (V.pkTrue (u := .p (.v (.bool true))) rfl rfl (So.e ?_)))
  show HT _ _ _ _ _
  refine R.condT rfl ?_
  refine HT.seq ?_
  exfalso; omega
end Go.Vh

set_option linter.unusedVariables false
set_option linter.unusedSimpArgs false
namespace Go.Vh
open Go Go.Vc Go.Proofs Go.Vw
def kofSp : Sp := ⟨[], mkE (α := Nat × UInt8 × (List UInt8) × Nat) (fun (r, e, b, m) => [.p (.v (.int .i64 ((r : Int)))), .p (.u8 (e)), .p (.bs (b)), .p (.v (.int .i64 ((m : Int))))]) (fun (r, e, b, m) => []) (fun (r, e, b, m) => 8 ≤ r ∧ r ≤ 192 ∧ r % 8 = 0 ∧ m ≤ 65536) (fun (r, e, b, m) => [.own 2 (0) (m)]) (fun (r, e, b, m) => [(2, ⟨5, 1, m, true, .bs (spg r e b m)⟩)])⟩
def S_kof : FuncId → Option Sp := fun f => if f = 43 then some knewSp else if f = 44 then some kwriteSp else if f = 45 then some kreadSp else none
theorem S_kof_ok : ∀ f s, S_kof f = some s → FOK Tryd.prog gl f s := fun f s h => by
 unfold S_kof at h
 split at h
 ·rename_i e; cases h; subst e; exact knew_ok
 split at h
 ·rename_i e; cases h; subst e; exact kwrite_ok
 split at h
 ·rename_i e; cases h; subst e; exact kread_ok
 cases h
set_option maxHeartbeats 1000000 in
set_option maxRecDepth 20000 in
theorem kof_ok : FOK Tryd.prog gl 29 kofSp := by
 refine FOK.ofE (tyOf_ok Tryd.prog) (slots := [8]) (nt := 19) Tryd.func29 rfl rfl rfl rfl (by decide) 4 (fun ⟨_, _, _, _⟩ => rfl) (by decide) (fun ⟨_, _, _, _⟩ => ⟨trivial, trivial, trivial, trivial, trivial⟩) ?_
 rintro ⟨r, e, b, m⟩ kk hlen hpre h
 have hl2 : (b).length ≤ 9223372036854775807 := hlen.2.2.1
 replace hpre : 8 ≤ r ∧ r ≤ 192 ∧ r % 8 = 0 ∧ m ≤ 65536 := hpre
 show HT (cx Tryd.prog 19 (tyOf Tryd.prog) gl []) _ [(0, .p (.v (.int .i64 ((r : Int))))), (1, .p (.u8 (e))), (2, .p (.bs (b))), (3, .p (.v (.int .i64 ((m : Int)))))] [] _
 have hwr := wrN_le r b (by omega) b.length
 refine HT.seq (HT.region S_kof_ok (So.q rfl rfl (V.as (v := .p (.v (.slice none 0 0))) rfl (So.e (HT.seq (HT.region S_kof_ok (So.q rfl rfl (V.mv (v := .p (.v (.int .i64 ((_ : Nat) : Int)))) rfl (So.q rfl rfl (V.mv (v := .p (.u8 _)) rfl ?_))))))))))
 refine So.n (lk rfl) (A.call0 [.p (.v (.int .i64 ((_ : Nat) : Int))), .p (.u8 _)] 1 rfl rfl rfl rfl ⟨trivial, trivial, trivial⟩ trivial (r, e) ⟨.refl _, .refl _, trivial⟩ trivial (by first | omega | (simp only [List.drop_zero, List.take_length]; omega) | (simp; done) | (simp; omega)) (Φ := fun _ => True) (fun _ _ => trivial) (.inl rfl) (v := .ptr 2 0) rfl (O' := (2, ⟨75, 1, _, true, .rows _⟩) :: _) rfl (fun h1 => ?_))
 refine So.q rfl rfl (V.as (v := .ptr 2 0) rfl (So.e (HT.seq (HT.region S_kof_ok (So.q rfl rfl (V.mv (v := .ptr 2 0) rfl (So.q rfl rfl (V.mv (v := .p (.bs _)) rfl ?_))))))))
 refine So.n (lk rfl) (A.call [.ptr 1 _, .p (.bs _)] [(1, ⟨_, _, _, _, .rows _⟩)] (sg [(1, 2)]) 3 rfl rfl rfl rfl ⟨rfl, trivial⟩ rfl ⟨trivial, trivial⟩ ⟨rfl, trivial, trivial⟩ trivial rfl (r, e, b) ⟨.refl _, .refl _, trivial⟩ ⟨⟨_, rfl, .inl rfl, trivial⟩, trivial⟩ (by first | omega | (simp only [List.drop_zero, List.take_length]; omega) | (simp; done) | (simp; omega)) (Φ := fun _ => True) (fun _ _ => trivial) ⟨⟨_, _, rfl, rfl, rfl, Nat.le_refl _⟩, trivial⟩ (.inl rfl) rfl (v := .tup 0 _) rfl (O' := (2, ⟨_, _, _, _, .rows _⟩) :: _) rfl (fun h2 => ?_))
 refine So.e (HT.seq (HT.region S_kof_ok (So.q rfl rfl (V.mv (v := .ptr 2 0) rfl (So.q rfl rfl (V.mv (v := .p (.v (.int .i64 ((_ : Nat) : Int)))) rfl ?_))))))
 refine So.n (lk rfl) (A.call [.ptr 1 _, .p (.v (.int .i64 ((_ : Nat) : Int)))] [(1, ⟨_, _, _, _, .rows _⟩)] (sg [(1, 2)]) 3 rfl rfl rfl rfl ⟨rfl, trivial⟩ rfl ⟨trivial, trivial⟩ ⟨rfl, trivial, trivial⟩ trivial rfl (r, e, (wrN r b b.length).1, (wrN r b b.length).2, m) ⟨.refl _, .refl _, trivial⟩ ⟨⟨_, rfl, .inl rfl, trivial⟩, trivial⟩ (by first | omega | (simp only [List.drop_zero, List.take_length]; omega) | (simp; done) | (simp; omega)) (Φ := fun _ => True) (fun _ _ => trivial) ⟨⟨_, _, rfl, rfl, rfl, Nat.le_refl _⟩, trivial⟩ (.inl rfl) rfl (v := .own 5 0 _) rfl (O' := (2, ⟨_, _, _, _, .rows _⟩) :: (5, ⟨_, _, _, _, .bs _⟩) :: _) rfl (fun h3 => ?_))
 refine So.q rfl rfl (V.as (v := .own 5 0 _) rfl (So.e ?_))
 show HT _ _ _ _ _
 refine HT.ret ?_
 exact ret_ok (sg [(2, 5)]) h rfl rfl rfl ⟨trivial, trivial⟩ ⟨rfl, trivial⟩ rfl ⟨⟨⟨le_own2 (by first | rfl | omega) (by first | rfl), rfl⟩, trivial⟩, ⟨⟨_, rfl, .inl (ob_bs (by first | rfl | ((try dsimp only); (first | rfl))) (by first | rfl | ((try dsimp only); (first | rfl)))), trivial⟩, trivial⟩⟩
def kshake256Sp : Sp := ⟨[], mkE (α := (List UInt8) × Nat) (fun (b, m) => [.p (.bs (b)), .p (.v (.int .i64 ((m : Int))))]) (fun (b, m) => []) (fun (b, m) => m ≤ 65536) (fun (b, m) => [.own 2 (0) (m)]) (fun (b, m) => [(2, ⟨5, 1, m, true, .bs (spg 136 31 b m)⟩)])⟩
def S_kshake256 : FuncId → Option Sp := fun f => if f = 29 then some kofSp else none
theorem S_kshake256_ok : ∀ f s, S_kshake256 f = some s → FOK Tryd.prog gl f s := fun f s h => by
 unfold S_kshake256 at h
 split at h
 ·rename_i e; cases h; subst e; exact kof_ok
 cases h
set_option maxHeartbeats 1000000 in
set_option maxRecDepth 20000 in
theorem kshake256_ok : FOK Tryd.prog gl 19 kshake256Sp := by
 refine FOK.ofE (tyOf_ok Tryd.prog) (slots := [4]) (nt := 8) Tryd.func19 rfl rfl rfl rfl (by decide) 2 (fun ⟨_, _⟩ => rfl) (by decide) (fun ⟨_, _⟩ => ⟨trivial, trivial, trivial⟩) ?_
 rintro ⟨b, m⟩ kk hlen hpre h
 have hl0 : (b).length ≤ 9223372036854775807 := hlen.1
 replace hpre : m ≤ 65536 := hpre
 show HT (cx Tryd.prog 8 (tyOf Tryd.prog) gl []) _ [(0, .p (.bs (b))), (1, .p (.v (.int .i64 ((m : Int)))))] [] _
 refine HT.seq (HT.region S_kshake256_ok (So.q rfl rfl (V.as (v := .p (.v (.slice none 0 0))) rfl (So.e (HT.seq (HT.region S_kshake256_ok (So.q rfl rfl (V.mv (v := .p (.bs _)) rfl (So.q rfl rfl (V.mv (v := .p (.v (.int .i64 ((_ : Nat) : Int)))) rfl ?_))))))))))
 refine So.n (lk rfl) (A.call0 [.p (.v (.int .i64 _)), .p (.u8 _), .p (.bs _), .p (.v (.int .i64 ((_ : Nat) : Int)))] 1 rfl rfl rfl rfl ⟨trivial, trivial, trivial, trivial, trivial⟩ trivial (136, 31, b, m) ⟨le_int rfl, .refl _, .refl _, .refl _, trivial⟩ trivial (by first | omega | (simp only [List.drop_zero, List.take_length]; omega) | (simp; done) | (simp; omega)) (Φ := fun _ => True) (fun _ _ => trivial) (.inl rfl) (v := .own 3 0 _) rfl (O' := (3, ⟨5, 1, _, true, .bs _⟩) :: _) rfl (fun h1 => ?_))
 refine So.q rfl rfl (V.as (v := .own 3 0 _) rfl (So.e ?_))
 show HT _ _ _ _ _
 refine HT.ret ?_
 exact ret_ok (sg [(2, 3)]) h rfl rfl rfl ⟨trivial, trivial⟩ ⟨rfl, trivial⟩ rfl ⟨⟨⟨le_own2 (by first | rfl | omega) (by first | rfl), rfl⟩, trivial⟩, ⟨⟨_, rfl, .inl (ob_bs (by first | rfl | ((try dsimp only); (first | rfl))) (by first | rfl | ((try dsimp only); (first | rfl)))), trivial⟩, trivial⟩⟩
end Go.Vh

set_option linter.unusedVariables false
set_option linter.unusedSimpArgs false
namespace Go.Vh
open Go Go.Vc Go.Proofs Go.Vw
def bturnedSp : Sp := ⟨[], mkE (α := (List UInt8) × (List UInt8) × (List UInt8)) (fun (ks, kt, t) => [.agg 2 (fun j => ([.bs (ks), .bs (kt)] : List PV).getD j (.v undef)), .p (.bs (t))]) (fun (ks, kt, t) => []) (fun (ks, kt, t) => t.length ≤ 65536) (fun (ks, kt, t) => [.own 2 (0) (t.length)]) (fun (ks, kt, t) => [(2, ⟨5, 1, t.length, true, .bs (turnF ks t)⟩)])⟩
def S_bturned : FuncId → Option Sp := fun f => if f = 19 then some kshake256Sp else none
theorem S_bturned_ok : ∀ f s, S_bturned f = some s → FOK Tryd.prog gl f s := fun f s h => by
 unfold S_bturned at h
 split at h
 ·rename_i e; cases h; subst e; exact kshake256_ok
 cases h
set_option maxHeartbeats 1000000 in
set_option maxRecDepth 20000 in
theorem bturned_ok : FOK Tryd.prog gl 14 bturnedSp := by
 refine FOK.ofE (tyOf_ok Tryd.prog) (slots := [4]) (nt := 29) Tryd.func14 rfl rfl rfl rfl (by decide) 2 (fun ⟨_, _, _⟩ => rfl) (by decide) (fun ⟨_, _, _⟩ => ⟨trivial, trivial, trivial⟩) ?_
 rintro ⟨ks, kt, t⟩ kk hlen hpre h
 have hl1 : (t).length ≤ 9223372036854775807 := hlen.2.1
 replace hpre : t.length ≤ 65536 := hpre
 show HT (cx Tryd.prog 29 (tyOf Tryd.prog) gl []) _ [(0, .agg 2 (fun j => ([.bs (ks), .bs (kt)] : List PV).getD j (.v undef))), (1, .p (.bs (t)))] [] _
 refine HT.seq (HT.region S_bturned_ok (So.n (lk rfl) (A.boxAg 1 1 (n := 2) rfl (by intro j hj; first | rfl | trivial | (match j, hj with | 0, _ => (first | trivial | rfl) | 1, _ => (first | trivial | rfl)) | (split <;> first | rfl | trivial | (split <;> first | rfl | trivial))) rfl trivial (So.q rfl rfl (V.as (v := .p (.v (.slice none 0 0))) rfl (So.e (HT.seq (HT.region S_bturned_ok (So.q rfl rfl (V.faPtr ty33 rfl ty22 (lk rfl) rfl rfl (lk rfl) (So.q rfl rfl (V.ldPtr ty22 rfl rfl rfl (lk rfl) (v := .p (.bs _)) rfl (So.q rfl rfl (V.mv (v := .p (.bs _)) rfl ?_))))))))))))))
 refine So.q rfl rfl (V.len ty22 (v := .p (.bs _)) rfl rfl ?_)
 refine So.n (lk rfl) (A.call0 [.p (.bs _), .p (.v (.int .i64 _))] 2 rfl rfl rfl rfl ⟨trivial, trivial, trivial⟩ trivial (ks, t.length) ⟨.refl _, .refl _, trivial⟩ trivial (by first | omega | (simp only [List.drop_zero, List.take_length]; omega) | (simp; done) | (simp; omega)) (Φ := fun _ => True) (fun _ _ => trivial) (.inl rfl) (v := .own 4 0 _) rfl (O' := (4, ⟨5, 1, _, true, .bs _⟩) :: _) rfl (fun h1 => ?_))
 refine So.q rfl rfl (V.as (v := .own 4 0 _) rfl (So.e (HT.seq (HT.seq (HT.region S_bturned_ok (So.q rfl rfl (V.mv (v := .p (.bs _)) rfl (So.q rfl rfl (V.len ty22 (v := .p (.bs _)) rfl rfl (So.q rfl rfl (V.mv (v := .p (.v (.int .i64 (0)))) rfl (So.e (HT.block ?_)))))))))))))
 refine R.loop (σ := Nat) (fun s => [(15, .p (.v (.int .i64 ((s : Int)))))]) (fun s => [(4, ⟨5, 1, t.length, true, .bs (xorN t (spg 136 31 ks t.length) s)⟩)]) [4, 5, 13, 14] [1] (fun s => s ≤ t.length) (fun s => t.length - s) (0) (fr0 := [(4, .p (.v (.slice none 0 0))), (5, .own 4 0 _), (13, .p (.bs _)), (14, .p (.v (.int .i64 _)))]) (O0 := [(1, ⟨_, _, _, _, .rows _⟩)]) rfl rfl (by first | rfl | omega | (simp; done) | (simp; omega)) ⟨⟨⟨le_int (by first | rfl | omega | exact (spg_len _ _ _ _).symm | exact spg_len _ _ _ _), trivial⟩, ⟨.refl _, trivial⟩, ⟨.refl _, rfl⟩, ⟨.refl _, trivial⟩, ⟨.refl _, trivial⟩, trivial⟩, ⟨⟨_, rfl, .inl (ob_bs (by first | rfl | ((try dsimp only); first | rfl | omega | exact (spg_len _ _ _ _).symm | exact spg_len _ _ _ _)) (by first | rfl | ((try dsimp only); first | rfl | omega | exact (spg_len _ _ _ _).symm | exact spg_len _ _ _ _))), trivial⟩, ⟨_, rfl, .inl rfl, trivial⟩, trivial⟩⟩ (fun s hP0 => ?_)
 refine HT.seq (HT.region S_bturned_ok (So.q rfl rfl (V.bin (a := (.v (.int .i64 ((_ : Nat) : Int)))) (b := (.v (.int .i64 _))) (r := .v (.bool _)) rfl rfl rfl trivial (So.e (HT.seq ?_)))))
 refine R.cond rfl rfl (fun h2 => ?_) (fun h2 => ?_)
 ·have h2 := of_decide_eq_true h2
  refine HT.skip (HT.seq (HT.block (HT.seq (HT.region S_bturned_ok (So.q rfl rfl (V.mv (v := .p (.v (.int .i64 ((_ : Nat) : Int)))) rfl (So.q rfl rfl (V.ixBs ty22 ty5 rfl rfl rfl (by omega) (Int.toNat_natCast _) (So.q rfl rfl (V.ldRp ty5 rfl rfl (lk rfl) (v := (.u8 _)) rfl (So.q rfl rfl (V.as (v := .p (.v (.int .i64 ((_ : Nat) : Int)))) rfl (So.q rfl rfl (V.as (v := .p (.u8 _)) rfl ?_))))))))))))))
  refine So.e (HT.region S_bturned_ok (So.q rfl rfl (V.mv (v := .own 4 0 _) rfl (So.q rfl rfl (V.mv (v := .p (.v (.int .i64 ((_ : Nat) : Int)))) rfl (So.q rfl rfl (V.ixOwn10 ty22 ty5 rfl rfl rfl rfl rfl (by omega) (Int.toNat_natCast _) (So.q rfl rfl (V.ldPtr ty5 rfl rfl rfl (by first | rfl | omega | (simp; done) | (simp; omega)) (v := .p (.u8 _)) rfl (So.q rfl rfl (V.mv (v := .p (.u8 _)) rfl (So.q rfl rfl (V.bin (a := (.u8 _)) (b := (.u8 _)) (r := .u8 _) rfl rfl rfl trivial (So.q rfl rfl (V.ixOwn10 ty22 ty5 rfl rfl rfl rfl rfl (by omega) (Int.toNat_natCast _) (So.s (A.sto ty5 rfl rfl rfl (v := .p (.u8 _)) rfl trivial rfl (by first | rfl | omega | (simp; done) | (simp; omega)) rfl rfl ?_)))))))))))))))))
  refine So.e (HT.region S_bturned_ok (So.q rfl rfl (V.addI rfl rfl (by omega) (So.q rfl rfl (V.mv (v := .p (.v (.int .i64 _))) rfl (So.e ?_))))))
  refine ⟨s + 1, by first | rfl | omega | (simp; done) | (simp; omega), by omega, ⟨⟨⟨le_int (by first | rfl | omega | (simp; done) | (simp; omega)), trivial⟩, ⟨.refl _, trivial⟩, ⟨.refl _, rfl⟩, ⟨.refl _, trivial⟩, ⟨.refl _, trivial⟩, trivial⟩, ⟨⟨_, rfl, .inl (ob_bs (by rfl) (by rfl)), trivial⟩, ⟨_, rfl, .inl rfl, trivial⟩, trivial⟩⟩⟩
 ·have h2 := of_decide_eq_false h2
  refine HT.exit ?_
  show HT _ _ _ _ _
  refine HT.seq (HT.region S_bturned_ok (So.q rfl rfl (V.mv (v := .own 4 0 _) rfl (So.q rfl rfl (V.as (v := .own 4 0 _) rfl (So.e ?_))))))
  show HT _ _ _ _ _
  refine HT.ret ?_
  exact ret_ok (sg [(2, 4)]) h rfl rfl rfl ⟨trivial, trivial⟩ ⟨rfl, trivial⟩ rfl ⟨⟨⟨le_own2 (by first | rfl | omega) (by first | rfl | (replace hP0 : s = t.length := (by omega); subst hP0; rfl)), rfl⟩, trivial⟩, ⟨⟨_, rfl, .inl (ob_bs (by first | rfl | ((try dsimp only); (first | rfl | (replace hP0 : s = t.length := (by omega); subst hP0; rfl)))) (by first | rfl | ((try dsimp only); (first | rfl | (replace hP0 : s = t.length := (by omega); subst hP0; rfl))))), trivial⟩, trivial⟩⟩
end Go.Vh

set_option linter.unusedVariables false
set_option linter.unusedSimpArgs false
namespace Go.Vh
open Go Go.Vc Go.Proofs Go.Vw
def fitsSp : Sp := ⟨[], mkE (α := Int) (fun n => [.p (.v (.int .i64 (n)))]) (fun n => []) (fun n => True) (fun n => [.p (.v (.bool (fitsF n)))]) (fun n => [])⟩
def S_fits : FuncId → Option Sp := fun _ => none
theorem S_fits_ok : ∀ f s, S_fits f = some s → FOK Tryd.prog gl f s := fun f s h => by cases h
set_option maxHeartbeats 1000000 in
set_option maxRecDepth 1000 in
theorem fits_ok : FOK Tryd.prog gl 57 fitsSp := by
 refine FOK.ofE (tyOf_ok Tryd.prog) (slots := [2]) (nt := 9) Tryd.func57 rfl rfl rfl rfl (by decide) 1 (fun _ => rfl) (by decide) (fun _ => ⟨trivial, trivial⟩) ?_
 rintro n kk hlen hpre h
 replace hpre : True := hpre
 show HT (cx Tryd.prog 9 (tyOf Tryd.prog) gl []) _ [(0, .p (.v (.int .i64 (n))))] [] _
 refine HT.seq (HT.region S_fits_ok (So.q rfl rfl (V.as (v := .p (.v (.bool false))) rfl (So.e (HT.seq (HT.seq (HT.region S_fits_ok (So.q rfl rfl (V.mv (v := .p (.v (.int .i64 _))) rfl (So.e (HT.block ?_)))))))))))
 refine HT.seq (HT.seq (HT.region S_fits_ok (So.q rfl rfl (V.bin (a := (.v (.int .i64 _))) (b := (.v (.int .i64 (1)))) (r := .v (.bool _)) rfl rfl rfl trivial (So.q rfl rfl (V.as (v := .p (.v (.bool _))) rfl (So.e ?_)))))))
 show HT _ _ _ _ _
 refine R.cond rfl rfl (fun h1 => ?_) (fun h1 => ?_)
 ·have h1 := of_decide_eq_true h1
  refine HT.skip ?_
  show HT _ _ _ _ _
  refine R.condT rfl ?_
  refine HT.seq (HT.region S_fits_ok (So.q rfl rfl (V.as (v := .p (.v (.bool true))) rfl (So.e ?_))))
  show HT _ _ _ _ _
  refine HT.ret ?_
  exact ret_ok (sg []) h rfl rfl rfl trivial ⟨trivial, trivial⟩ rfl ⟨⟨⟨le_bool (by first | exact fits_t (by omega) | exact fits_f (by omega) | omega), trivial⟩, trivial⟩, trivial⟩
 ·have h1 := of_decide_eq_false h1
  refine HT.seq (HT.region S_fits_ok (So.q rfl rfl (V.bin (a := (.v (.int .i64 _))) (b := (.v (.int .i64 (2)))) (r := .v (.bool _)) rfl rfl rfl trivial (So.q rfl rfl (V.as (v := .p (.v (.bool _))) rfl (So.e ?_))))))
  show HT _ _ _ _ _
  refine R.cond rfl rfl (fun h2 => ?_) (fun h2 => ?_)
  ·have h2 := of_decide_eq_true h2
   refine HT.skip ?_
   show HT _ _ _ _ _
   refine R.condT rfl ?_
   refine HT.seq (HT.region S_fits_ok (So.q rfl rfl (V.as (v := .p (.v (.bool true))) rfl (So.e ?_))))
   show HT _ _ _ _ _
   refine HT.ret ?_
   exact ret_ok (sg []) h rfl rfl rfl trivial ⟨trivial, trivial⟩ rfl ⟨⟨⟨le_bool (by first | exact fits_t (by omega) | exact fits_f (by omega) | omega), trivial⟩, trivial⟩, trivial⟩
  ·have h2 := of_decide_eq_false h2
   refine HT.seq (HT.region S_fits_ok (So.q rfl rfl (V.bin (a := (.v (.int .i64 _))) (b := (.v (.int .i64 (4)))) (r := .v (.bool _)) rfl rfl rfl trivial (So.q rfl rfl (V.as (v := .p (.v (.bool _))) rfl (So.e ?_))))))
   show HT _ _ _ _ _
   refine R.cond rfl rfl (fun h3 => ?_) (fun h3 => ?_)
   ·have h3 := of_decide_eq_true h3
    refine HT.skip ?_
    show HT _ _ _ _ _
    refine R.condT rfl ?_
    refine HT.seq (HT.region S_fits_ok (So.q rfl rfl (V.as (v := .p (.v (.bool true))) rfl (So.e ?_))))
    show HT _ _ _ _ _
    refine HT.ret ?_
    exact ret_ok (sg []) h rfl rfl rfl trivial ⟨trivial, trivial⟩ rfl ⟨⟨⟨le_bool (by first | exact fits_t (by omega) | exact fits_f (by omega) | omega), trivial⟩, trivial⟩, trivial⟩
   ·have h3 := of_decide_eq_false h3
    refine HT.region S_fits_ok (So.q rfl rfl (V.bin (a := (.v (.int .i64 _))) (b := (.v (.int .i64 (8)))) (r := .v (.bool _)) rfl rfl rfl trivial (So.q rfl rfl (V.as (v := .p (.v (.bool _))) rfl (So.e ?_)))))
    show HT _ _ _ _ _
    refine R.cond rfl rfl (fun h4 => ?_) (fun h4 => ?_)
    ·have h4 := of_decide_eq_true h4
     refine HT.seq (HT.region S_fits_ok (So.q rfl rfl (V.as (v := .p (.v (.bool true))) rfl (So.e ?_))))
     show HT _ _ _ _ _
     refine HT.ret ?_
     exact ret_ok (sg []) h rfl rfl rfl trivial ⟨trivial, trivial⟩ rfl ⟨⟨⟨le_bool (by first | exact fits_t (by omega) | exact fits_f (by omega) | omega), trivial⟩, trivial⟩, trivial⟩
    ·have h4 := of_decide_eq_false h4
     refine HT.skip (HT.seq (HT.region S_fits_ok (So.q rfl rfl (V.as (v := .p (.v (.bool false))) rfl (So.e ?_)))))
     show HT _ _ _ _ _
     refine HT.ret ?_
     exact ret_ok (sg []) h rfl rfl rfl trivial ⟨trivial, trivial⟩ rfl ⟨⟨⟨le_bool (by first | exact fits_t (by omega) | exact fits_f (by omega) | omega), trivial⟩, trivial⟩, trivial⟩
def numSp : Sp := ⟨[], mkE (α := Int × Int) (fun (n, k) => [.p (.v (.int .i64 (n))), .p (.v (.int .i64 (k)))]) (fun (n, k) => []) (fun (n, k) => True) (fun (n, k) => [.own 1 (0) ((numF n k).length)]) (fun (n, k) => [(1, ⟨5, 1, (numF n k).length, true, .bs (numF n k)⟩)])⟩
def S_num : FuncId → Option Sp := fun f => if f = 57 then some fitsSp else none
theorem S_num_ok : ∀ f s, S_num f = some s → FOK Tryd.prog gl f s := fun f s h => by
 unfold S_num at h
 split at h
 ·rename_i e; cases h; subst e; exact fits_ok
 cases h
set_option maxHeartbeats 1000000 in
set_option maxRecDepth 1000 in
theorem num_ok : FOK Tryd.prog gl 46 numSp := by
 refine FOK.ofE (tyOf_ok Tryd.prog) (slots := [4]) (nt := 45) Tryd.func46 rfl rfl rfl rfl (by decide) 2 (fun ⟨_, _⟩ => rfl) (by decide) (fun ⟨_, _⟩ => ⟨trivial, trivial, trivial⟩) ?_
 rintro ⟨n, k⟩ kk hlen hpre h
 replace hpre : True := hpre
 show HT (cx Tryd.prog 45 (tyOf Tryd.prog) gl []) _ [(0, .p (.v (.int .i64 (n)))), (1, .p (.v (.int .i64 (k))))] [] _
 refine HT.seq (HT.region S_num_ok (So.q rfl rfl (V.as (v := .p (.v (.slice none 0 0))) rfl (So.e (HT.seq (HT.seq (HT.region S_num_ok (So.q rfl rfl (V.mv (v := .p (.v (.int .i64 _))) rfl ?_)))))))))
 refine So.n (lk rfl) (A.call0 [.p (.v (.int .i64 _))] 1 rfl rfl rfl rfl ⟨trivial, trivial⟩ trivial _ ⟨.refl _, trivial⟩ trivial (by trivial) (Φ := fun _ => True) (fun _ _ => trivial) (.inl rfl) (v := .p (.v (.bool _))) rfl (O' := _) rfl (fun h1 => ?_))
 refine So.q rfl rfl (V.not rfl (So.q rfl rfl (V.mv (v := .p (.v (.bool _))) rfl ?_)))
 refine So.gd rfl rfl (lk rfl) (lk rfl) (fun h2 => ?_) (fun h2 => ?_)
 ·have h2 := fitsT (bnF h2)
  refine A.v rfl (V.mv (v := .p (.v (.int .i64 _))) rfl (So.gy rfl rfl (lk rfl) (lk rfl) (A.v rfl (V.bin (a := (.v (.int .i64 _))) (b := (.v (.int .i64 (0)))) (r := .v (.bool _)) rfl rfl rfl trivial (So.q rfl rfl (V.pkFalse (u := .p (.v (.bool _))) rfl rfl (So.q rfl rfl (V.mv (v := .p (.v (.bool _))) rfl ?_))))))))
  refine So.gd rfl rfl (lk rfl) (lk rfl) (fun h3 => ?_) (fun h3 => ?_)
  ·have h3 := of_decide_eq_false h3
   refine A.v rfl (V.mv (v := .p (.v (.int .i64 _))) rfl (So.gy rfl rfl (lk rfl) (lk rfl) (A.v rfl (V.bin (a := (.v (.int .i64 _))) (b := (.v (.int .i64 (8)))) (r := .v (.bool _)) rfl rfl rfl trivial (So.gy rfl rfl (lk rfl) (lk rfl) (A.v rfl (V.mv (v := .p (.v (.bool _))) rfl ?_)))))))
   refine So.gd rfl rfl (lk rfl) (lk rfl) (fun h4 => ?_) (fun h4 => ?_)
   ·have h4 := of_decide_eq_true h4
    refine A.v rfl (V.mv (v := .p (.v (.int .i64 _))) rfl (So.gy rfl rfl (lk rfl) (lk rfl) (A.v rfl (V.mv (v := .p (.v (.int .i64 _))) rfl (So.gy rfl rfl (lk rfl) (lk rfl) (A.v rfl (V.mulI rfl rfl (by omega) (So.gy rfl rfl (lk rfl) (lk rfl) (A.v rfl (V.bin (a := (.v (.int .i64 (1)))) (b := (.v (.int .i64 _))) (r := .v (.int .i64 _)) rfl rfl rfl (by first | rfl | omega | (simp; done) | (simp; omega)) (So.gy rfl rfl (lk rfl) (lk rfl) (A.v rfl (V.bin (a := (.v (.int .i64 _))) (b := (.v (.int .i64 _))) (r := .v (.bool _)) rfl rfl rfl trivial (So.gy rfl rfl (lk rfl) (lk rfl) ?_))))))))))))))
    refine A.v rfl (V.pkTrue (u := .p (.v (.bool _))) rfl rfl (So.q rfl rfl (V.pkFalse (u := .p (.v (.bool _))) rfl rfl (So.e ?_))))
    show HT _ _ _ _ _
    refine R.cond rfl rfl (fun h5 => ?_) (fun h5 => ?_)
    ·have h5 := of_decide_eq_true h5
     refine HT.seq (HT.region S_num_ok (So.q rfl rfl (V.as (v := .p (.v (.slice none 0 0))) rfl (So.e ?_))))
     show HT _ _ _ _ _
     refine R.phan 4 1 5 1 (.bs []) rfl rfl rfl ⟨rfl, rfl⟩ ?_
     refine HT.ret ?_
     exact ret_ok (sg [(1, 1)]) h rfl rfl rfl ⟨trivial, trivial⟩ ⟨rfl, trivial⟩ rfl ⟨⟨⟨le_own2 (by first | rfl | omega) (by first | rfl | (rw [numF_bad (by omega)] <;> rfl) | (rw [numF_big (by omega) (by omega)] <;> rfl) | (rw [numF_ok (by omega) (by omega) (by omega), numB_len]) | (rw [numF_ok (by omega) (by omega) (by omega)]; exact num_fin (by omega))), rfl⟩, trivial⟩, ⟨⟨_, rfl, .inl (ob_bs (by first | rfl | ((try dsimp only); (first | rfl | (rw [numF_bad (by omega)] <;> rfl) | (rw [numF_big (by omega) (by omega)] <;> rfl) | (rw [numF_ok (by omega) (by omega) (by omega), numB_len]) | (rw [numF_ok (by omega) (by omega) (by omega)]; exact num_fin (by omega))))) (by first | rfl | ((try dsimp only); (first | rfl | (rw [numF_bad (by omega)] <;> rfl) | (rw [numF_big (by omega) (by omega)] <;> rfl) | (rw [numF_ok (by omega) (by omega) (by omega), numB_len]) | (rw [numF_ok (by omega) (by omega) (by omega)]; exact num_fin (by omega)))))), trivial⟩, trivial⟩⟩
    ·have h5 := of_decide_eq_false h5
     refine HT.skip (HT.seq (HT.region S_num_ok (So.q rfl rfl (V.mv (v := .p (.v (.int .i64 _))) rfl (So.n (lk rfl) (A.mkB 1 ty22 ty5 rfl rfl rfl (by omega) rfl rfl trivial (So.q rfl rfl (V.as (v := .own 1 0 _) rfl (So.e (HT.seq (HT.seq (HT.region S_num_ok ?_))))))))))))
     refine So.q rfl rfl (V.mv (v := .own 1 0 _) rfl (So.q rfl rfl (V.len ty22 (v := .own 1 0 _) rfl rfl (So.q rfl rfl (V.mv (v := .p (.v (.int .i64 (0)))) rfl (So.e (HT.block ?_)))))))
     refine R.loop (σ := Nat) (fun s => [(29, .p (.v (.int .i64 ((s : Int)))))]) (fun s => [(1, ⟨5, 1, k.toNat, true, .bs (List.replicate (k.toNat - s) 0 ++ (numB n k.toNat).drop (k.toNat - s))⟩)]) [0, 1, 4, 5, 28] [] (fun s => s ≤ k.toNat) (fun s => k.toNat - s) (0) (fr0 := [(0, .p (.v (.int .i64 _))), (1, .p (.v (.int .i64 _))), (4, .p (.v (.slice none 0 0))), (5, .own 1 0 _), (28, .p (.v (.int .i64 _)))]) (O0 := []) rfl rfl (by first | rfl | omega | (simp; done) | (simp; omega)) ⟨⟨⟨le_int (by first | rfl | omega | (simp [numB]; done)), trivial⟩, ⟨.refl _, trivial⟩, ⟨.refl _, trivial⟩, ⟨.refl _, trivial⟩, ⟨.refl _, rfl⟩, ⟨.refl _, trivial⟩, trivial⟩, ⟨⟨_, rfl, .inl (ob_bs (by first | rfl | ((try dsimp only); first | rfl | omega | (simp [numB]; done))) (by first | rfl | ((try dsimp only); first | rfl | omega | (simp [numB]; done)))), trivial⟩, trivial⟩⟩ (fun s hP0 => ?_)
     refine HT.seq (HT.region S_num_ok (So.q rfl rfl (V.bin (a := (.v (.int .i64 ((_ : Nat) : Int)))) (b := (.v (.int .i64 _))) (r := .v (.bool _)) rfl rfl rfl trivial (So.e (HT.seq ?_)))))
     refine R.cond rfl rfl (fun h6 => ?_) (fun h6 => ?_)
     ·have h6 := of_decide_eq_true h6
      refine HT.skip (HT.seq (HT.block (HT.seq (HT.region S_num_ok (So.q rfl rfl (V.mv (v := .p (.v (.int .i64 ((_ : Nat) : Int)))) rfl (So.q rfl rfl (V.as (v := .p (.v (.int .i64 ((_ : Nat) : Int)))) rfl (So.e (HT.region S_num_ok (So.q rfl rfl (V.mv (v := .own 1 0 _) rfl ?_))))))))))))
      refine So.q rfl rfl (V.mv (v := .p (.v (.int .i64 _))) rfl (So.q rfl rfl (V.subI rfl rfl (by omega) (So.q rfl rfl (V.mv (v := .p (.v (.int .i64 ((_ : Nat) : Int)))) rfl (So.q rfl rfl (V.subI rfl rfl (by omega) (So.q rfl rfl (V.mv (v := .p (.v (.int .i64 _))) rfl (So.q rfl rfl (V.mv (v := .p (.v (.int .i64 ((_ : Nat) : Int)))) rfl (So.q rfl rfl (V.mulI rfl rfl (by omega) (So.q rfl rfl (V.bin (a := (.v (.int .i64 _))) (b := (.v (.int .i64 _))) (r := .v (.int .i64 _)) rfl rfl rfl (by first | rfl | omega | (simp; done) | (simp; omega)) (So.q rfl rfl (V.cvN ty5 ty2 (a := (.v (.int .i64 _))) (r := (.u8 _)) rfl rfl (So.q rfl rfl (V.ixOwn10 ty22 ty5 rfl rfl rfl rfl rfl (by omega) rfl ?_)))))))))))))))))))
      refine So.s (A.sto ty5 rfl rfl rfl (v := .p (.u8 _)) rfl trivial rfl (by first | rfl | omega | (simp; done) | (simp; omega)) rfl rfl (So.e (HT.region S_num_ok (So.q rfl rfl (V.addI rfl rfl (by omega) (So.q rfl rfl (V.mv (v := .p (.v (.int .i64 _))) rfl (So.e ?_))))))))
      refine ⟨s + 1, by first | rfl | omega | (simp; done) | (simp; omega), by omega, ⟨⟨⟨le_int (by first | rfl | omega | (simp; done) | (simp; omega)), trivial⟩, ⟨.refl _, trivial⟩, ⟨.refl _, trivial⟩, ⟨.refl _, trivial⟩, ⟨.refl _, rfl⟩, ⟨.refl _, trivial⟩, trivial⟩, ⟨⟨_, rfl, .inl (ob_bs (by first | rfl | ((try dsimp only); first | rfl | exact num_step (by omega) (by omega))) (by first | rfl | ((try dsimp only); first | rfl | exact num_step (by omega) (by omega)))), trivial⟩, trivial⟩⟩⟩
     ·have h6 := of_decide_eq_false h6
      refine HT.exit ?_
      show HT _ _ _ _ _
      refine HT.seq (HT.region S_num_ok (So.q rfl rfl (V.mv (v := .own 1 0 _) rfl (So.q rfl rfl (V.as (v := .own 1 0 _) rfl (So.e ?_))))))
      show HT _ _ _ _ _
      refine HT.ret ?_
      exact ret_ok (sg [(1, 1)]) h rfl rfl rfl ⟨trivial, trivial⟩ ⟨rfl, trivial⟩ rfl ⟨⟨⟨le_own2 (by first | rfl | omega) (by first | rfl | (rw [numF_bad (by omega)] <;> rfl) | (rw [numF_big (by omega) (by omega)] <;> rfl) | (rw [numF_ok (by omega) (by omega) (by omega), numB_len]) | (rw [numF_ok (by omega) (by omega) (by omega)]; exact num_fin (by omega))), rfl⟩, trivial⟩, ⟨⟨_, rfl, .inl (ob_bs (by first | rfl | ((try dsimp only); (first | rfl | (rw [numF_bad (by omega)] <;> rfl) | (rw [numF_big (by omega) (by omega)] <;> rfl) | (rw [numF_ok (by omega) (by omega) (by omega), numB_len]) | (rw [numF_ok (by omega) (by omega) (by omega)]; exact num_fin (by omega))))) (by first | rfl | ((try dsimp only); (first | rfl | (rw [numF_bad (by omega)] <;> rfl) | (rw [numF_big (by omega) (by omega)] <;> rfl) | (rw [numF_ok (by omega) (by omega) (by omega), numB_len]) | (rw [numF_ok (by omega) (by omega) (by omega)]; exact num_fin (by omega)))))), trivial⟩, trivial⟩⟩
   ·have h4 := of_decide_eq_false h4
    refine So.gn (b := false) rfl rfl rfl (lk rfl) (lk rfl) (So.gn (b := false) rfl rfl rfl (lk rfl) (lk rfl) (So.gn (b := false) rfl rfl rfl (lk rfl) (lk rfl) (So.gn (b := false) rfl rfl rfl (lk rfl) (lk rfl) (So.gy rfl rfl (lk rfl) (lk rfl) (A.v rfl (V.pkFalse (u := .p (.v (.bool false))) rfl rfl (So.q rfl rfl (V.pkFalse (u := .p (.v (.bool false))) rfl rfl (So.e ?_)))))))))
    show HT _ _ _ _ _
    refine R.condF rfl ?_
    refine HT.skip (HT.seq (HT.region S_num_ok (So.q rfl rfl (V.mv (v := .p (.v (.int .i64 _))) rfl (So.n (lk rfl) (A.mkB 1 ty22 ty5 rfl rfl rfl (by omega) rfl rfl trivial (So.q rfl rfl (V.as (v := .own 1 0 _) rfl (So.e (HT.seq (HT.seq (HT.region S_num_ok ?_))))))))))))
    refine So.q rfl rfl (V.mv (v := .own 1 0 _) rfl (So.q rfl rfl (V.len ty22 (v := .own 1 0 _) rfl rfl (So.q rfl rfl (V.mv (v := .p (.v (.int .i64 (0)))) rfl (So.e (HT.block ?_)))))))
    refine R.loop (σ := Nat) (fun s => [(29, .p (.v (.int .i64 ((s : Int)))))]) (fun s => [(1, ⟨5, 1, k.toNat, true, .bs (List.replicate (k.toNat - s) 0 ++ (numB n k.toNat).drop (k.toNat - s))⟩)]) [0, 1, 4, 5, 28] [] (fun s => s ≤ k.toNat) (fun s => k.toNat - s) (0) (fr0 := [(0, .p (.v (.int .i64 _))), (1, .p (.v (.int .i64 _))), (4, .p (.v (.slice none 0 0))), (5, .own 1 0 _), (28, .p (.v (.int .i64 _)))]) (O0 := []) rfl rfl (by first | rfl | omega | (simp; done) | (simp; omega)) ⟨⟨⟨le_int (by first | rfl | omega | (simp [numB]; done)), trivial⟩, ⟨.refl _, trivial⟩, ⟨.refl _, trivial⟩, ⟨.refl _, trivial⟩, ⟨.refl _, rfl⟩, ⟨.refl _, trivial⟩, trivial⟩, ⟨⟨_, rfl, .inl (ob_bs (by first | rfl | ((try dsimp only); first | rfl | omega | (simp [numB]; done))) (by first | rfl | ((try dsimp only); first | rfl | omega | (simp [numB]; done)))), trivial⟩, trivial⟩⟩ (fun s hP0 => ?_)
    refine HT.seq (HT.region S_num_ok (So.q rfl rfl (V.bin (a := (.v (.int .i64 ((_ : Nat) : Int)))) (b := (.v (.int .i64 _))) (r := .v (.bool _)) rfl rfl rfl trivial (So.e (HT.seq ?_)))))
    refine R.cond rfl rfl (fun h7 => ?_) (fun h7 => ?_)
    ·have h7 := of_decide_eq_true h7
     refine HT.skip (HT.seq (HT.block (HT.seq (HT.region S_num_ok (So.q rfl rfl (V.mv (v := .p (.v (.int .i64 ((_ : Nat) : Int)))) rfl (So.q rfl rfl (V.as (v := .p (.v (.int .i64 ((_ : Nat) : Int)))) rfl (So.e (HT.region S_num_ok (So.q rfl rfl (V.mv (v := .own 1 0 _) rfl ?_))))))))))))
     refine So.q rfl rfl (V.mv (v := .p (.v (.int .i64 _))) rfl (So.q rfl rfl (V.subI rfl rfl (by omega) (So.q rfl rfl (V.mv (v := .p (.v (.int .i64 ((_ : Nat) : Int)))) rfl (So.q rfl rfl (V.subI rfl rfl (by omega) (So.q rfl rfl (V.mv (v := .p (.v (.int .i64 _))) rfl (So.q rfl rfl (V.mv (v := .p (.v (.int .i64 ((_ : Nat) : Int)))) rfl (So.q rfl rfl (V.mulI rfl rfl (by omega) (So.q rfl rfl (V.bin (a := (.v (.int .i64 _))) (b := (.v (.int .i64 _))) (r := .v (.int .i64 _)) rfl rfl rfl (by first | rfl | omega | (simp; done) | (simp; omega)) (So.q rfl rfl (V.cvN ty5 ty2 (a := (.v (.int .i64 _))) (r := (.u8 _)) rfl rfl (So.q rfl rfl (V.ixOwn10 ty22 ty5 rfl rfl rfl rfl rfl (by omega) rfl ?_)))))))))))))))))))
     refine So.s (A.sto ty5 rfl rfl rfl (v := .p (.u8 _)) rfl trivial rfl (by first | rfl | omega | (simp; done) | (simp; omega)) rfl rfl (So.e (HT.region S_num_ok (So.q rfl rfl (V.addI rfl rfl (by omega) (So.q rfl rfl (V.mv (v := .p (.v (.int .i64 _))) rfl (So.e ?_))))))))
     refine ⟨s + 1, by first | rfl | omega | (simp; done) | (simp; omega), by omega, ⟨⟨⟨le_int (by first | rfl | omega | (simp; done) | (simp; omega)), trivial⟩, ⟨.refl _, trivial⟩, ⟨.refl _, trivial⟩, ⟨.refl _, trivial⟩, ⟨.refl _, rfl⟩, ⟨.refl _, trivial⟩, trivial⟩, ⟨⟨_, rfl, .inl (ob_bs (by first | rfl | ((try dsimp only); first | rfl | exact num_step (by omega) (by omega))) (by first | rfl | ((try dsimp only); first | rfl | exact num_step (by omega) (by omega)))), trivial⟩, trivial⟩⟩⟩
    ·have h7 := of_decide_eq_false h7
     refine HT.exit ?_
     show HT _ _ _ _ _
     refine HT.seq (HT.region S_num_ok (So.q rfl rfl (V.mv (v := .own 1 0 _) rfl (So.q rfl rfl (V.as (v := .own 1 0 _) rfl (So.e ?_))))))
     show HT _ _ _ _ _
     refine HT.ret ?_
     exact ret_ok (sg [(1, 1)]) h rfl rfl rfl ⟨trivial, trivial⟩ ⟨rfl, trivial⟩ rfl ⟨⟨⟨le_own2 (by first | rfl | omega) (by first | rfl | (rw [numF_bad (by omega)] <;> rfl) | (rw [numF_big (by omega) (by omega)] <;> rfl) | (rw [numF_ok (by omega) (by omega) (by omega), numB_len]) | (rw [numF_ok (by omega) (by omega) (by omega)]; exact num_fin (by omega))), rfl⟩, trivial⟩, ⟨⟨_, rfl, .inl (ob_bs (by first | rfl | ((try dsimp only); (first | rfl | (rw [numF_bad (by omega)] <;> rfl) | (rw [numF_big (by omega) (by omega)] <;> rfl) | (rw [numF_ok (by omega) (by omega) (by omega), numB_len]) | (rw [numF_ok (by omega) (by omega) (by omega)]; exact num_fin (by omega))))) (by first | rfl | ((try dsimp only); (first | rfl | (rw [numF_bad (by omega)] <;> rfl) | (rw [numF_big (by omega) (by omega)] <;> rfl) | (rw [numF_ok (by omega) (by omega) (by omega), numB_len]) | (rw [numF_ok (by omega) (by omega) (by omega)]; exact num_fin (by omega)))))), trivial⟩, trivial⟩⟩
  ·have h3 := of_decide_eq_true h3
   refine So.gn (b := true) rfl rfl rfl (lk rfl) (lk rfl) (So.gn (b := true) rfl rfl rfl (lk rfl) (lk rfl) ?_)
   refine So.gu rfl rfl (lk rfl) ?_
   refine So.gu rfl rfl (lk rfl) ?_
   refine So.gu rfl rfl (lk rfl) ?_
   refine So.gu rfl rfl (lk rfl) ?_
   refine So.gu rfl rfl (lk rfl) ?_
   refine So.gn (b := true) rfl rfl rfl (lk rfl) (lk rfl) (So.q rfl rfl (V.pkTrue (u := .p (.v (.bool true))) rfl rfl (So.e ?_)))
   show HT _ _ _ _ _
   refine R.condT rfl ?_
   refine HT.seq (HT.region S_num_ok (So.q rfl rfl (V.as (v := .p (.v (.slice none 0 0))) rfl (So.e ?_))))
   show HT _ _ _ _ _
   refine R.phan 4 1 5 1 (.bs []) rfl rfl rfl ⟨rfl, rfl⟩ ?_
   refine HT.ret ?_
   exact ret_ok (sg [(1, 1)]) h rfl rfl rfl ⟨trivial, trivial⟩ ⟨rfl, trivial⟩ rfl ⟨⟨⟨le_own2 (by first | rfl | omega) (by first | rfl | (rw [numF_bad (by omega)] <;> rfl) | (rw [numF_big (by omega) (by omega)] <;> rfl) | (rw [numF_ok (by omega) (by omega) (by omega), numB_len]) | (rw [numF_ok (by omega) (by omega) (by omega)]; exact num_fin (by omega))), rfl⟩, trivial⟩, ⟨⟨_, rfl, .inl (ob_bs (by first | rfl | ((try dsimp only); (first | rfl | (rw [numF_bad (by omega)] <;> rfl) | (rw [numF_big (by omega) (by omega)] <;> rfl) | (rw [numF_ok (by omega) (by omega) (by omega), numB_len]) | (rw [numF_ok (by omega) (by omega) (by omega)]; exact num_fin (by omega))))) (by first | rfl | ((try dsimp only); (first | rfl | (rw [numF_bad (by omega)] <;> rfl) | (rw [numF_big (by omega) (by omega)] <;> rfl) | (rw [numF_ok (by omega) (by omega) (by omega), numB_len]) | (rw [numF_ok (by omega) (by omega) (by omega)]; exact num_fin (by omega)))))), trivial⟩, trivial⟩⟩
 ·have h2 := fitsN (bnT h2)
  refine So.gn (b := true) rfl rfl rfl (lk rfl) (lk rfl) (So.q rfl rfl (V.pkTrue (u := .p (.v (.bool true))) rfl rfl (So.q rfl rfl (V.mv (v := .p (.v (.bool true))) rfl (So.gn (b := true) rfl rfl rfl (lk rfl) (lk rfl) (So.gn (b := true) rfl rfl rfl (lk rfl) (lk rfl) (So.gn (b := true) rfl rfl rfl (lk rfl) (lk rfl) ?_)))))))
  refine So.gu rfl rfl (lk rfl) ?_
  refine So.gu rfl rfl (lk rfl) ?_
  refine So.gu rfl rfl (lk rfl) ?_
  refine So.gu rfl rfl (lk rfl) ?_
  refine So.gu rfl rfl (lk rfl) ?_
  refine So.gn (b := true) rfl rfl rfl (lk rfl) (lk rfl) (So.q rfl rfl (V.pkTrue (u := .p (.v (.bool true))) rfl rfl (So.e ?_)))
  show HT _ _ _ _ _
  refine R.condT rfl ?_
  refine HT.seq (HT.region S_num_ok (So.q rfl rfl (V.as (v := .p (.v (.slice none 0 0))) rfl (So.e ?_))))
  show HT _ _ _ _ _
  refine R.phan 4 1 5 1 (.bs []) rfl rfl rfl ⟨rfl, rfl⟩ ?_
  refine HT.ret ?_
  exact ret_ok (sg [(1, 1)]) h rfl rfl rfl ⟨trivial, trivial⟩ ⟨rfl, trivial⟩ rfl ⟨⟨⟨le_own2 (by first | rfl | omega) (by first | rfl | (rw [numF_bad (by omega)] <;> rfl) | (rw [numF_big (by omega) (by omega)] <;> rfl) | (rw [numF_ok (by omega) (by omega) (by omega), numB_len]) | (rw [numF_ok (by omega) (by omega) (by omega)]; exact num_fin (by omega))), rfl⟩, trivial⟩, ⟨⟨_, rfl, .inl (ob_bs (by first | rfl | ((try dsimp only); (first | rfl | (rw [numF_bad (by omega)] <;> rfl) | (rw [numF_big (by omega) (by omega)] <;> rfl) | (rw [numF_ok (by omega) (by omega) (by omega), numB_len]) | (rw [numF_ok (by omega) (by omega) (by omega)]; exact num_fin (by omega))))) (by first | rfl | ((try dsimp only); (first | rfl | (rw [numF_bad (by omega)] <;> rfl) | (rw [numF_big (by omega) (by omega)] <;> rfl) | (rw [numF_ok (by omega) (by omega) (by omega), numB_len]) | (rw [numF_ok (by omega) (by omega) (by omega)]; exact num_fin (by omega)))))), trivial⟩, trivial⟩⟩
def lenSp : Sp := ⟨[], mkE (α := Int) (fun n => [.p (.v (.int .i64 (n)))]) (fun n => []) (fun n => 0 ≤ n ∧ n < 1073741824) (fun n => [.own 1 (0) ((lenF n).length)]) (fun n => [(1, ⟨5, 1, (lenF n).length, true, .bs (lenF n)⟩)])⟩
def S_len : FuncId → Option Sp := fun f => if f = 46 then some numSp else none
theorem S_len_ok : ∀ f s, S_len f = some s → FOK Tryd.prog gl f s := fun f s h => by
 unfold S_len at h
 split at h
 ·rename_i e; cases h; subst e; exact num_ok
 cases h
set_option maxHeartbeats 1000000 in
set_option maxRecDepth 1000 in
theorem len_ok : FOK Tryd.prog gl 30 lenSp := by
 refine FOK.ofE (tyOf_ok Tryd.prog) (slots := [2]) (nt := 22) Tryd.func30 rfl rfl rfl rfl (by decide) 1 (fun _ => rfl) (by decide) (fun _ => ⟨trivial, trivial⟩) ?_
 rintro n kk hlen hpre h
 replace hpre : 0 ≤ n ∧ n < 1073741824 := hpre
 show HT (cx Tryd.prog 22 (tyOf Tryd.prog) gl []) _ [(0, .p (.v (.int .i64 (n))))] [] _
 refine HT.seq (HT.region S_len_ok (So.q rfl rfl (V.as (v := .p (.v (.slice none 0 0))) rfl (So.e ?_))))
 show HT _ _ _ _ _
 refine HT.scopeS ?_
 refine HT.seq (HT.region S_len_ok (So.q rfl rfl (V.as (v := .p (.v (.int .i64 (0)))) rfl (So.e (HT.seq (HT.label (HT.seq (HT.block ?_))))))))
 refine R.loop (σ := Int) (fun s => [(3, .p (.v (.int .i64 (s))))]) (fun s => []) [0, 2] [] (fun s => 0 ≤ s ∧ s ≤ 2 ∧ (0 < s → 64 ≤ n) ∧ (1 < s → 16384 ≤ n)) (fun s => (3 - s).toNat) (0) (fr0 := [(0, .p (.v (.int .i64 _))), (2, .p (.v (.slice none 0 0)))]) (O0 := []) rfl rfl (by first | rfl | omega | (simp; done) | (simp; omega)) ⟨⟨⟨le_int (by first | rfl | omega | (simp; done) | (simp; omega)), trivial⟩, ⟨.refl _, trivial⟩, ⟨.refl _, trivial⟩, trivial⟩, trivial⟩ (fun s hP0 => ?_)
 have hsv := shl_v s
 have htb := tbl_nn s
 refine HT.block (HT.seq (HT.seq (HT.region S_len_ok (So.q rfl rfl (V.mv (v := .p (.v (.int .i64 _))) rfl (So.q rfl rfl (V.mv (v := .p (.v (.int .i64 _))) rfl (So.q rfl rfl (V.ixArr1 ty60 ty3 rfl rfl (lk rfl) rfl (by omega) rfl (So.q rfl rfl (V.ldRp ty3 rfl rfl (lk rfl) (v := (.v (.int .i64 _))) rfl (So.q rfl rfl (V.bin (a := (.v (.int .i64 (1)))) (b := (.v (.int .i64 _))) (r := .v (.int .i64 _)) rfl rfl rfl (by first | rfl | omega | (simp; done) | (simp; omega)) (So.q rfl rfl (V.bin (a := (.v (.int .i64 _))) (b := (.v (.int .i64 _))) (r := .v (.bool _)) rfl rfl rfl trivial ?_)))))))))))))))
 refine So.e ?_
 show HT _ _ _ _ _
 refine R.cond rfl rfl (fun h1 => ?_) (fun h1 => ?_)
 ·have h1 := of_decide_eq_true h1
  refine HT.exit ?_
  show HT _ _ _ _ _
  refine HT.seq ?_
  refine HT.tail S_len_ok mixed 9 (by kernel_rfl) (by kernel_rfl) ?_
  refine So.q rfl rfl (V.mv (v := .p (.v (.int .i64 _))) rfl (So.q rfl rfl (V.mv (v := .p (.v (.int .i64 _))) rfl (So.q rfl rfl (V.mv (v := .p (.v (.int .i64 _))) rfl (So.q rfl rfl (V.ixArr1 ty60 ty3 rfl rfl (lk rfl) rfl (by omega) rfl (So.q rfl rfl (V.ldRp ty3 rfl rfl (lk rfl) (v := (.v (.int .i64 _))) rfl (So.q rfl rfl (V.bin (a := (.v (.int .i64 _))) (b := (.v (.int .i64 _))) (r := .v (.int .i64 _)) rfl rfl rfl (by first | rfl | omega | (simp; done) | (simp; omega)) (So.q rfl rfl (V.bin (a := (.v (.int .i64 _))) (b := (.v (.int .i64 _))) (r := .v (.int .i64 _)) rfl rfl rfl trivial (So.q rfl rfl (V.mv (v := .p (.v (.int .i64 _))) rfl (So.q rfl rfl (V.bin (a := (.v (.int .i64 (1)))) (b := (.v (.int .i64 _))) (r := .v (.int .i64 _)) rfl rfl rfl (by first | rfl | omega | (simp; done) | (simp; omega)) ?_)))))))))))))))))
  refine So.n (lk rfl) (A.call0 [.p (.v (.int .i64 _)), .p (.v (.int .i64 _))] 1 rfl rfl rfl rfl ⟨trivial, trivial, trivial⟩ trivial (_, _) ⟨.refl _, .refl _, trivial⟩ trivial (by trivial) (Φ := fun (n, k) => (numF n k).length ≤ 8) (fun _ _ => numF_len _ _) (.inl rfl) (v := .own 2 0 _) rfl (O' := (2, ⟨5, 1, _, true, .bs _⟩) :: _) rfl (fun h2 => ?_))
  try dsimp only at h2
  refine So.q rfl rfl (V.as (v := .own 2 0 _) rfl (So.e ?_))
  show HT _ _ _ _ _
  refine HT.ret ?_
  exact ret_ok (sg [(1, 2)]) h rfl rfl rfl ⟨trivial, trivial⟩ ⟨rfl, trivial⟩ rfl ⟨⟨⟨le_own2 (by first | rfl | omega) (by first | rfl | (rw [lenP (by omega) (by omega) (by omega) (by omega) (by omega) (by omega) (by omega)])), rfl⟩, trivial⟩, ⟨⟨_, rfl, .inl (ob_bs (by first | rfl | ((try dsimp only); (first | rfl | (rw [lenP (by omega) (by omega) (by omega) (by omega) (by omega) (by omega) (by omega)])))) (by first | rfl | ((try dsimp only); (first | rfl | (rw [lenP (by omega) (by omega) (by omega) (by omega) (by omega) (by omega) (by omega)]))))), trivial⟩, trivial⟩⟩
 ·have h1 := of_decide_eq_false h1
  refine HT.skip (HT.region S_len_ok (So.q rfl rfl (V.mv (v := .p (.v (.int .i64 _))) rfl (So.q rfl rfl (V.addI rfl rfl (by omega) (So.q rfl rfl (V.as (v := .p (.v (.int .i64 _))) rfl (So.e ?_))))))))
  refine ⟨s + 1, by omega, by omega, ⟨⟨⟨le_int (by first | rfl | omega | (simp; done) | (simp; omega)), trivial⟩, ⟨.refl _, trivial⟩, ⟨.refl _, trivial⟩, trivial⟩, trivial⟩⟩
def textSp : Sp := ⟨[], mkE (α := (List UInt8)) (fun s => [.p (.bs (s))]) (fun s => []) (fun s => True) (fun s => [.own 1 (0) ((textF s).length), .p (.v (.int .i64 (textE s)))]) (fun s => [(1, ⟨5, 1, (textF s).length, true, .bs (textF s)⟩)])⟩
def S_text : FuncId → Option Sp := fun f => if f = 30 then some lenSp else none
theorem S_text_ok : ∀ f s, S_text f = some s → FOK Tryd.prog gl f s := fun f s h => by
 unfold S_text at h
 split at h
 ·rename_i e; cases h; subst e; exact len_ok
 cases h
set_option maxHeartbeats 1000000 in
set_option maxRecDepth 1000 in
theorem text_ok : FOK Tryd.prog gl 20 textSp := by
 refine FOK.ofE (tyOf_ok Tryd.prog) (slots := [2, 3]) (nt := 12) Tryd.func20 rfl rfl rfl rfl (by decide) 1 (fun _ => rfl) (by decide) (fun _ => ⟨trivial, trivial⟩) ?_
 rintro s kk hlen hpre h
 have hl0 : (s).length ≤ 9223372036854775807 := hlen.1
 replace hpre : True := hpre
 show HT (cx Tryd.prog 12 (tyOf Tryd.prog) gl []) _ [(0, .p (.bs (s)))] [] _
 refine HT.seq (HT.region S_text_ok (So.q rfl rfl (V.as (v := .p (.v (.slice none 0 0))) rfl (So.q rfl rfl (V.as (v := .p (.v (.int .i64 (0)))) rfl (So.e (HT.seq (HT.seq (HT.region S_text_ok (So.q rfl rfl (V.mv (v := .p (.bs _)) rfl (So.q rfl rfl (V.len ty22 (v := .p (.bs _)) rfl rfl ?_)))))))))))))
 refine So.q rfl rfl (V.bin (a := (.v (.int .i64 _))) (b := (.v (.int .i64 (1048576)))) (r := .v (.bool _)) rfl rfl rfl trivial (So.e ?_))
 show HT _ _ _ _ _
 refine R.cond rfl rfl (fun h1 => ?_) (fun h1 => ?_)
 ·have h1 := of_decide_eq_true h1
  refine HT.seq (HT.region S_text_ok (So.q rfl rfl (V.as (v := .p (.v (.slice none 0 0))) rfl (So.q rfl rfl (V.as (v := .p (.v (.int .i64 (2)))) rfl (So.e ?_))))))
  show HT _ _ _ _ _
  refine R.phan 2 1 5 1 (.bs []) rfl rfl rfl ⟨rfl, rfl⟩ ?_
  refine HT.ret ?_
  exact ret_ok (sg [(1, 1)]) h rfl rfl rfl ⟨trivial, trivial⟩ ⟨rfl, trivial, trivial⟩ rfl ⟨⟨⟨le_own2 (by first | rfl | omega) (by first | rfl | (unfold textF; simp (disch := omega) only [if_pos, if_neg] <;> first | rfl | (simp; done)) | (unfold textE; simp (disch := omega) only [if_pos, if_neg])), rfl⟩, ⟨le_int (by first | rfl | (unfold textF; simp (disch := omega) only [if_pos, if_neg] <;> first | rfl | (simp; done)) | (unfold textE; simp (disch := omega) only [if_pos, if_neg])), trivial⟩, trivial⟩, ⟨⟨_, rfl, .inl (ob_bs (by first | rfl | ((try dsimp only); (first | rfl | (unfold textF; simp (disch := omega) only [if_pos, if_neg] <;> first | rfl | (simp; done)) | (unfold textE; simp (disch := omega) only [if_pos, if_neg])))) (by first | rfl | ((try dsimp only); (first | rfl | (unfold textF; simp (disch := omega) only [if_pos, if_neg] <;> first | rfl | (simp; done)) | (unfold textE; simp (disch := omega) only [if_pos, if_neg]))))), trivial⟩, trivial⟩⟩
 ·have h1 := of_decide_eq_false h1
  refine HT.skip (HT.seq (HT.region S_text_ok (So.q rfl rfl (V.mv (v := .p (.bs _)) rfl (So.q rfl rfl (V.len ty22 (v := .p (.bs _)) rfl rfl ?_))))))
  refine So.n (lk rfl) (A.call0 [.p (.v (.int .i64 _))] 1 rfl rfl rfl rfl ⟨trivial, trivial⟩ trivial _ ⟨.refl _, trivial⟩ trivial (by omega) (Φ := fun n => (lenF n).length ≤ 4) (fun n _ => lenF_le n) (.inl rfl) (v := .own 2 0 _) rfl (O' := (2, ⟨5, 1, _, true, .bs _⟩) :: _) rfl (fun h2 => ?_))
  try dsimp only at h2
  refine So.q rfl rfl (V.mv (v := .p (.bs _)) rfl (So.n (lk rfl) (A.apOwn ty22 ty5 rfl rfl rfl rfl (u := .p (.bs _)) rfl rfl rfl rfl (by first | rfl | omega | (simp; done) | (simp; omega)) rfl rfl rfl (So.q rfl rfl (V.as (v := .own 2 0 _) rfl (So.q rfl rfl (V.as (v := .p (.v (.int .i64 (0)))) rfl (So.e ?_))))))))
  show HT _ _ _ _ _
  refine HT.ret ?_
  exact ret_ok (sg [(1, 2)]) h rfl rfl rfl ⟨trivial, trivial⟩ ⟨rfl, trivial, trivial⟩ rfl ⟨⟨⟨le_own2 (by first | rfl | omega) (by first | rfl | (unfold textF; simp (disch := omega) only [if_pos, if_neg] <;> first | rfl | (simp; done)) | (unfold textE; simp (disch := omega) only [if_pos, if_neg])), rfl⟩, ⟨le_int (by first | rfl | (unfold textF; simp (disch := omega) only [if_pos, if_neg] <;> first | rfl | (simp; done)) | (unfold textE; simp (disch := omega) only [if_pos, if_neg])), trivial⟩, trivial⟩, ⟨⟨_, rfl, .inl (ob_bs (by first | rfl | ((try dsimp only); (first | rfl | (unfold textF; simp (disch := omega) only [if_pos, if_neg] <;> first | rfl | (simp; done)) | (unfold textE; simp (disch := omega) only [if_pos, if_neg])))) (by first | rfl | ((try dsimp only); (first | rfl | (unfold textF; simp (disch := omega) only [if_pos, if_neg] <;> first | rfl | (simp; done)) | (unfold textE; simp (disch := omega) only [if_pos, if_neg]))))), trivial⟩, trivial⟩⟩
end Go.Vh

set_option linter.unusedVariables false
set_option linter.unusedSimpArgs false
namespace Go.Vh
open Go Go.Vc Go.Proofs Go.Vw
def bmarkSp : Sp := ⟨[], mkE (α := (List UInt8) × (List UInt8) × (List UInt8) × (List UInt8)) (fun (ks, kt, a, b) => [.agg 2 (fun j => ([.bs (ks), .bs (kt)] : List PV).getD j (.v undef)), .p (.bs (a)), .p (.bs (b))]) (fun (ks, kt, a, b) => []) (fun (ks, kt, a, b) => kt.length ≤ 1000000 ∧ b.length ≤ 1000000) (fun (ks, kt, a, b) => [.agg 32 (fun j => .u8 ((markF kt a b).getD j 0))]) (fun (ks, kt, a, b) => [])⟩
def S_bmark : FuncId → Option Sp := fun f => if f = 20 then some textSp else if f = 21 then some hmacSp else none
theorem S_bmark_ok : ∀ f s, S_bmark f = some s → FOK Tryd.prog gl f s := fun f s h => by
 unfold S_bmark at h
 split at h
 ·rename_i e; cases h; subst e; exact text_ok
 split at h
 ·rename_i e; cases h; subst e; exact hmac_ok
 cases h
theorem S_bmark_det : ∀ f s, S_bmark f = some s → SpDet s.sp := fun f s h => by
 unfold S_bmark at h
 split at h
 ·cases h; exact mkE_det _ _ _ _ _
 split at h
 ·cases h; exact mkE_det _ _ _ _ _
 cases h
set_option maxHeartbeats 1000000 in
set_option maxRecDepth 20000 in
theorem bmark_ok : FOK Tryd.prog gl 15 bmarkSp := by
 refine FOK.ofEC (tyOf_ok Tryd.prog) (rvs := [.cell 6 36]) (nt := 22) Tryd.func15 rfl rfl rfl rfl (by decide) 3 (fun ⟨_, _, _, _⟩ => rfl) (by decide) (fun ⟨_, _, _, _⟩ => ⟨trivial, trivial, trivial, trivial⟩) ?_
 rintro ⟨ks, kt, a, b⟩ kk hlen hpre h
 have hl1 : (a).length ≤ 9223372036854775807 := hlen.2.1
 have hl2 : (b).length ≤ 9223372036854775807 := hlen.2.2.1
 replace hpre : kt.length ≤ 1000000 ∧ b.length ≤ 1000000 := hpre
 show HT (cx Tryd.prog 22 (tyOf Tryd.prog) gl []) _ [(0, .agg 2 (fun j => ([.bs (ks), .bs (kt)] : List PV).getD j (.v undef))), (1, .p (.bs (a))), (2, .p (.bs (b)))] [] _
 have htx := tx_len a
 have hml := mark_len kt a b
 refine HT.seq (HT.region S_bmark_ok (So.n (lk rfl) (A.boxAg 1 1 (n := 2) rfl (by intro j hj; first | rfl | trivial | (match j, hj with | 0, _ => (first | trivial | rfl) | 1, _ => (first | trivial | rfl)) | (split <;> first | rfl | trivial | (split <;> first | rfl | trivial))) rfl trivial (So.n (lk rfl) (A.alloc 2 1 ty36 rfl trivial (f := fun _ => .u8 0) (fun _ _ => rfl) (So.e (HT.seq (HT.region S_bmark_ok (So.q rfl rfl (V.mv (v := .p (.bs _)) rfl ?_))))))))))
 refine So.n (lk rfl) (A.call0 [.p (.bs _)] 3 rfl rfl rfl rfl ⟨trivial, trivial⟩ trivial _ ⟨.refl _, trivial⟩ trivial (by trivial) (Φ := fun s => (textF s).length ≤ 1048580) (fun s _ => textF_len s) (.inl rfl) (v := .tup 2 _) rfl (O' := (4, ⟨5, 1, _, true, .bs _⟩) :: _) rfl (fun h1 => ?_))
 try dsimp only at h1
 refine So.q rfl rfl (V.mv (v := .tup 2 _) rfl (So.q rfl rfl (V.ext rfl (lk rfl) (v := .own 4 0 _) rfl (So.q rfl rfl (V.ext rfl (lk rfl) (v := .p (.v (.int .i64 _))) rfl (So.q rfl rfl (V.as (v := .own 4 0 _) rfl (So.q rfl rfl (V.as (v := .p (.v (.int .i64 _))) rfl (So.e (HT.seq ?_)))))))))))
 refine HT.planS S_bmark_ok S_bmark_det mixed [] [⟨[0, 1, 2, 3], 4, [0, 1]⟩, ⟨[0, 1, 5, 6, 7], 8, []⟩] (by kernel_rfl) ?_
 refine Pl.lk ?_
 refine Si.n rfl (lk rfl) (V.faPtr ty33 rfl ty22 (lk rfl) rfl rfl (lk rfl) (Si.n rfl (lk rfl) (V.ldPtr ty22 rfl rfl rfl (lk rfl) (v := .p (.bs _)) rfl (Si.n rfl (lk rfl) (V.mv (v := .own 4 0 _) rfl (Si.n rfl (lk rfl) (V.mv (v := .p (.bs _)) rfl (Si.e ?_))))))))
 refine ⟨flEq_nil, fun ff => ?_⟩
 refine Lo.n rfl (lk rfl) (A.apOwn ty22 ty5 rfl rfl rfl rfl (u := .p (.bs _)) rfl rfl (l' := txF a ++ b) (by first | rfl | (rw [ap_full (Nat.le_refl _)]; done) | (rw [ap_full (Nat.le_refl _)]; rfl)) (mn := (txF a).length + b.length) (by rfl) (by first | rfl | omega | (simp; done) | (simp; omega)) rfl rfl rfl ?_)
 refine ⟨_, fun ff => Fr.kill 4 (ff), ap1d, rfl, (FG.kill 4 (flP_cons rfl (flP_cons rfl flP_nil))), ?_⟩
 show planA _ _ _ _ _ [(0, .ptr 1 1), (1, .p (.bs _))] _ _ _
 refine Pl.l0 ?_
 refine Si.n rfl (lk rfl) (V.faPtr ty33 rfl ty22 (lk rfl) rfl rfl (lk rfl) (Si.n rfl (lk rfl) (V.ldPtr ty22 rfl rfl rfl (lk rfl) (v := .p (.bs _)) rfl ?_)))
 refine Si.n rfl (lk rfl) (V.call [.p (.bs _), .p (.bs _)] 5 rfl rfl rfl rfl ⟨trivial, trivial, trivial⟩ trivial (kt, txF a ++ b) ⟨.refl _, le_bs (by rw [List.drop_zero, List.take_of_length_le (by rw [List.length_append]; exact Nat.le_refl _)]), trivial⟩ trivial (by first | omega | (simp only [List.drop_zero, List.take_length]; omega) | (simp; done) | (simp; omega)) (Φ := fun _ => True) (fun _ _ => trivial) (.inr ⟨trivial, by simp [Hp.scal, OC.scal, PV.scal, BV.scal]⟩) (v := .p (.bs _)) rfl (fun h2 => ?_))
 refine Si.n rfl (lk rfl) (V.sapBs ty36 rfl (by first | omega | (rw [mac_len]; omega) | (simp [mac_len]; done)) (Si.n rfl (lk rfl) (V.ldRpA ty36 rfl rfl (by show 32 ≤ _; rw [mac_tk, mac_len]; exact Nat.le_refl _) (Si.e ?_))))
 refine ⟨(flEq_cons rfl (flEq_cons rfl flEq_nil)), ?_⟩
 refine Lo.s rfl (A.stoAg ty36 rfl (n := 32) rfl (by decide) (by intro j hj; first | rfl | trivial) rfl rfl rfl ?_)
 refine Pl.e ?_
 refine Si.e ?_
 refine ⟨flEq_nil, ?_⟩
 show HT _ _ _ _ _
 refine HT.ret ?_
 exact retC_ok (sg []) [(6, .ptr 2 0)] [(2, ⟨36, 1, 32, true, .rows (fun j => .u8 ((markF kt a b).getD j 0))⟩)] h ⟨⟨⟨.refl _, rfl⟩, trivial⟩, ⟨⟨_, rfl, .inr (ob_rowsL (by intro j hj; simp only [mac_tk, Nat.zero_add]; exact .refl _)), trivial⟩, trivial⟩⟩ ⟨rvA_cell ty36 rfl rfl rfl rfl (Nat.le_refl _) (le_agg (fun j _ => by first | rfl | (dsimp only; rw [Nat.zero_add]))), trivial⟩ trivial rfl trivial ⟨trivial, trivial⟩ rfl
end Go.Vh

set_option linter.unusedVariables false
set_option linter.unusedSimpArgs false
namespace Go.Vh
open Go Go.Vc Go.Proofs Go.Vw
def bclSp : Sp := ⟨[], mkE (α := (List UInt8) × (List UInt8) × (List UInt8)) (fun (k, a, c) => [.p (.bs (k)), .p (.bs (a)), .p (.bs (c))]) (fun (k, a, c) => []) (fun (k, a, c) => True) (fun (k, a, c) => [.own 2 (0) ((clF k a c).length), .p (.v (.int .i64 (clE k a c)))]) (fun (k, a, c) => [(2, ⟨5, 1, (clF k a c).length, true, .bs (clF k a c)⟩)])⟩
def S_bcl : FuncId → Option Sp := fun f => if f = 13 then some bofSp else if f = 14 then some bturnedSp else if f = 15 then some bmarkSp else none
theorem S_bcl_ok : ∀ f s, S_bcl f = some s → FOK Tryd.prog gl f s := fun f s h => by
 unfold S_bcl at h
 split at h
 ·rename_i e; cases h; subst e; exact bof_ok
 split at h
 ·rename_i e; cases h; subst e; exact bturned_ok
 split at h
 ·rename_i e; cases h; subst e; exact bmark_ok
 cases h
set_option maxHeartbeats 1000000 in
set_option maxRecDepth 20000 in
theorem bcl_ok : FOK Tryd.prog gl 9 bclSp := by
 refine FOK.ofE (tyOf_ok Tryd.prog) (slots := [6, 7]) (nt := 34) Tryd.func9 rfl rfl rfl rfl (by decide) 3 (fun ⟨_, _, _⟩ => rfl) (by decide) (fun ⟨_, _, _⟩ => ⟨trivial, trivial, trivial, trivial⟩) ?_
 rintro ⟨k, a, c⟩ kk hlen hpre h
 have hl0 : (k).length ≤ 9223372036854775807 := hlen.1
 have hl1 : (a).length ≤ 9223372036854775807 := hlen.2.1
 have hl2 : (c).length ≤ 9223372036854775807 := hlen.2.2.1
 replace hpre : True := hpre
 show HT (cx Tryd.prog 34 (tyOf Tryd.prog) gl []) _ [(0, .p (.bs (k))), (1, .p (.bs (a))), (2, .p (.bs (c)))] [] _
 have hks := kSt_len k
 have hkt := kTg_len k
 have htl := turn_len (kSt k) c
 refine HT.seq (HT.region S_bcl_ok (So.q rfl rfl (V.as (v := .p (.v (.slice none 0 0))) rfl (So.q rfl rfl (V.as (v := .p (.v (.int .i64 (0)))) rfl (So.e (HT.seq (HT.block (HT.seq (HT.region S_bcl_ok (So.q rfl rfl (V.mv (v := .p (.bs _)) rfl ?_))))))))))))
 refine So.q rfl rfl (V.len ty22 (v := .p (.bs _)) rfl rfl (So.q rfl rfl (V.bin (a := (.v (.int .i64 _))) (b := (.v (.int .i64 (32)))) (r := .v (.bool _)) rfl rfl rfl trivial (So.q rfl rfl (V.as (v := .p (.v (.bool _))) rfl (So.e ?_))))))
 show HT _ _ _ _ _
 refine R.cond rfl rfl (fun h1 => ?_) (fun h1 => ?_)
 ·have h1 := of_decide_eq_false (bnT h1)
  refine HT.seq (HT.region S_bcl_ok (So.q rfl rfl (V.as (v := .p (.v (.slice none 0 0))) rfl (So.q rfl rfl (V.as (v := .p (.v (.int .i64 (1)))) rfl (So.e ?_))))))
  show HT _ _ _ _ _
  refine R.phan 6 1 5 1 (.bs []) rfl rfl rfl ⟨rfl, rfl⟩ ?_
  refine HT.ret ?_
  first | have hR := cl_1 (k := k) (a := a) (t := c) (by omega) | have hR := cl_2 (k := k) (a := a) (t := c) (by omega) (by omega) | have hR := cl_yes (k := k) (a := a) (t := c) (by omega)
  exact ret_ok (sg [(2, 1)]) h rfl rfl rfl ⟨trivial, trivial⟩ ⟨rfl, trivial, trivial⟩ rfl ⟨⟨⟨le_own2 (by first | rfl | omega) (by first | exact hR.2.symm | exact hR.1.symm | exact congrArg List.length hR.1.symm | (rw [hR.1, turn_len]; done) | (rw [hR.1, List.length_append, turn_len, mark_len]; done)), rfl⟩, ⟨le_int (by first | exact hR.2.symm | exact hR.1.symm | exact congrArg List.length hR.1.symm | (rw [hR.1, turn_len]; done) | (rw [hR.1, List.length_append, turn_len, mark_len]; done)), trivial⟩, trivial⟩, ⟨⟨_, rfl, .inl (ob_bs (by first | rfl | ((try dsimp only); (first | exact hR.2.symm | exact hR.1.symm | exact congrArg List.length hR.1.symm | (rw [hR.1, turn_len]; done) | (rw [hR.1, List.length_append, turn_len, mark_len]; done)))) (by first | rfl | ((try dsimp only); (first | exact hR.2.symm | exact hR.1.symm | exact congrArg List.length hR.1.symm | (rw [hR.1, turn_len]; done) | (rw [hR.1, List.length_append, turn_len, mark_len]; done))))), trivial⟩, trivial⟩⟩
 ·have h1 := of_decide_eq_true (bnF h1)
  refine HT.seq (HT.region S_bcl_ok (So.q rfl rfl (V.mv (v := .p (.bs _)) rfl (So.q rfl rfl (V.len ty22 (v := .p (.bs _)) rfl rfl (So.q rfl rfl (V.mv (v := .p (.bs _)) rfl (So.q rfl rfl (V.len ty22 (v := .p (.bs _)) rfl rfl (So.q rfl rfl (V.pb (r := .v (.int .i64 _)) (by decide) rfl rfl (So.q rfl rfl (V.bin (a := (.v (.int .i64 _))) (b := (.v (.int .i64 (32768)))) (r := .v (.bool _)) rfl rfl rfl trivial (So.q rfl rfl (V.as (v := .p (.v (.bool _))) rfl (So.e ?_))))))))))))))))
  show HT _ _ _ _ _
  refine R.cond rfl rfl (fun h2 => ?_) (fun h2 => ?_)
  ·have h2 := of_decide_eq_true h2
   refine HT.seq (HT.region S_bcl_ok (So.q rfl rfl (V.as (v := .p (.v (.slice none 0 0))) rfl (So.q rfl rfl (V.as (v := .p (.v (.int .i64 (2)))) rfl (So.e ?_))))))
   show HT _ _ _ _ _
   refine R.phan 6 1 5 1 (.bs []) rfl rfl rfl ⟨rfl, rfl⟩ ?_
   refine HT.ret ?_
   first | have hR := cl_1 (k := k) (a := a) (t := c) (by omega) | have hR := cl_2 (k := k) (a := a) (t := c) (by omega) (by omega) | have hR := cl_yes (k := k) (a := a) (t := c) (by omega)
   exact ret_ok (sg [(2, 1)]) h rfl rfl rfl ⟨trivial, trivial⟩ ⟨rfl, trivial, trivial⟩ rfl ⟨⟨⟨le_own2 (by first | rfl | omega) (by first | exact hR.2.symm | exact hR.1.symm | exact congrArg List.length hR.1.symm | (rw [hR.1, turn_len]; done) | (rw [hR.1, List.length_append, turn_len, mark_len]; done)), rfl⟩, ⟨le_int (by first | exact hR.2.symm | exact hR.1.symm | exact congrArg List.length hR.1.symm | (rw [hR.1, turn_len]; done) | (rw [hR.1, List.length_append, turn_len, mark_len]; done)), trivial⟩, trivial⟩, ⟨⟨_, rfl, .inl (ob_bs (by first | rfl | ((try dsimp only); (first | exact hR.2.symm | exact hR.1.symm | exact congrArg List.length hR.1.symm | (rw [hR.1, turn_len]; done) | (rw [hR.1, List.length_append, turn_len, mark_len]; done)))) (by first | rfl | ((try dsimp only); (first | exact hR.2.symm | exact hR.1.symm | exact congrArg List.length hR.1.symm | (rw [hR.1, turn_len]; done) | (rw [hR.1, List.length_append, turn_len, mark_len]; done))))), trivial⟩, trivial⟩⟩
  ·have h2 := of_decide_eq_false h2
   refine HT.skip (HT.seq (HT.region S_bcl_ok (So.q rfl rfl (V.mv (v := .p (.bs _)) rfl ?_))))
   refine So.n (lk rfl) (A.call0 [.p (.bs _)] 1 rfl rfl rfl rfl ⟨trivial, trivial⟩ trivial _ ⟨.refl _, trivial⟩ trivial (by first | omega | (simp only [List.drop_zero, List.take_length]; omega) | (simp; done) | (simp; omega)) (Φ := fun _ => True) (fun _ _ => trivial) (.inl rfl) (v := .agg 2 _) rfl (O' := _) rfl (fun h3 => ?_))
   refine So.n (lk rfl) (A.alloc 1 1 ty33 rfl trivial (f := fun _ => .v (.slice none 0 0)) (fun _ _ => rfl) (So.s (A.stoAg ty33 rfl (n := 2) rfl (by decide) (by intro j hj; first | rfl | trivial | (match j, hj with | 0, _ => (first | trivial | rfl) | 1, _ => (first | trivial | rfl))) rfl rfl rfl (So.e (HT.seq (HT.region S_bcl_ok (So.q rfl rfl (V.ldPtrA ty33 rfl rfl rfl rfl (lk rfl) (So.q rfl rfl (V.mv (v := .p (.bs _)) rfl ?_))))))))))
   refine So.n (lk rfl) (A.call0 [.agg 2 _, .p (.bs _)] 2 rfl rfl rfl rfl ⟨trivial, trivial, trivial⟩ trivial (kSt k, kTg k, c) ⟨le_agg (fun j hj => by match j, hj with | 0, _ => rfl | 1, _ => rfl), .refl _, trivial⟩ trivial (by first | omega | (simp only [List.drop_zero, List.take_length]; omega) | (simp; done) | (simp; omega)) (Φ := fun _ => True) (fun _ _ => trivial) (.inl rfl) (v := .own 4 0 _) rfl (O' := (4, ⟨5, 1, _, true, .bs _⟩) :: _) rfl (fun h4 => ?_))
   refine So.q rfl rfl (V.as (v := .own 4 0 _) rfl (So.e (HT.seq (HT.region S_bcl_ok (So.q rfl rfl (V.ldPtrA ty33 rfl rfl rfl rfl (lk rfl) (So.q rfl rfl (V.mv (v := .p (.bs _)) rfl (So.q rfl rfl (V.mv (v := .own 4 0 _) rfl ?_))))))))))
   refine So.n (lk rfl) (A.call0 [.agg 2 _, .p (.bs _), .p (.bs _)] 5 rfl rfl rfl rfl ⟨trivial, trivial, trivial, trivial⟩ trivial (kSt k, kTg k, a, turnF (kSt k) c) ⟨le_agg (fun j hj => by match j, hj with | 0, _ => rfl | 1, _ => rfl), .refl _, le_bs (by rw [List.drop_zero, List.take_of_length_le (by rw [turn_len]; exact Nat.le_refl _)]), trivial⟩ trivial (by first | omega | (simp only [List.drop_zero, List.take_length]; omega) | (simp; done) | (simp; omega)) (Φ := fun _ => True) (fun _ _ => trivial) (.inr ⟨(fun _ _ => trivial), by simp [Hp.scal, OC.scal, PV.scal, BV.scal]⟩) (v := .agg 32 _) rfl (O' := _) rfl (fun h5 => ?_))
   refine So.n (lk rfl) (A.alloc 5 1 ty36 rfl trivial (f := fun _ => .u8 0) (fun _ _ => rfl) (So.s (A.stoAg ty36 rfl (n := 32) rfl (by decide) (by intro j hj; first | rfl | trivial) rfl rfl rfl (So.e (HT.seq ?_)))))
   refine R.tell [] [(5, ⟨36, 1, 32, true, .bs (markF (kTg k) a (turnF (kSt k) c))⟩)] [6, 7, 9, 10] [4] (fr0 := [(6, .p (.v (.slice none 0 0))), (7, .p (.v (.int .i64 _))), (9, .own 4 0 _), (10, .ptr 5 0)]) (O0 := [(4, ⟨_, _, _, _, .bs _⟩)]) rfl rfl ⟨⟨⟨.refl _, trivial⟩, ⟨.refl _, trivial⟩, ⟨.refl _, rfl⟩, ⟨.refl _, rfl⟩, trivial⟩, ⟨⟨_, rfl, .inr (ob_rb (by exact mark_len _ _ _) (by intro j hj; first | rfl | (simp only [Nat.zero_add]; done))), trivial⟩, ⟨_, rfl, .inl rfl, trivial⟩, trivial⟩⟩ ?_
   show HT _ _ _ _ _
   refine HT.region S_bcl_ok (So.q rfl rfl (V.mv (v := .own 4 0 _) rfl (So.q rfl rfl (V.cutArr ty36 (s := 1) rfl rfl rfl rfl (by decide) (lk rfl) (So.n (lk rfl) (A.apOwn ty22 ty5 rfl rfl rfl rfl (u := .own 5 0 _) rfl rfl (l' := turnF (kSt k) c ++ markF (kTg k) a (turnF (kSt k) c)) (by rw [ap_full (by rw [turn_len]; exact Nat.le_refl _)]; simp only [List.drop_zero]; rw [List.take_of_length_le (by rw [mark_len]; exact Nat.le_refl _)]) (mn := c.length + 32) (by rfl) (by first | rfl | omega | (simp; done) | (simp; omega)) rfl rfl rfl (So.q rfl rfl (V.as (v := .own 4 0 _) rfl (So.q rfl rfl (V.as (v := .p (.v (.int .i64 (0)))) rfl (So.e ?_)))))))))))
   show HT _ _ _ _ _
   refine HT.ret ?_
   first | have hR := cl_1 (k := k) (a := a) (t := c) (by omega) | have hR := cl_2 (k := k) (a := a) (t := c) (by omega) (by omega) | have hR := cl_yes (k := k) (a := a) (t := c) (by omega)
   exact ret_ok (sg [(2, 4)]) h rfl rfl rfl ⟨trivial, trivial⟩ ⟨rfl, trivial, trivial⟩ rfl ⟨⟨⟨le_own2 (by first | rfl | omega) (by first | exact hR.2.symm | exact hR.1.symm | exact congrArg List.length hR.1.symm | (rw [hR.1, turn_len]; done) | (rw [hR.1, List.length_append, turn_len, mark_len]; done)), rfl⟩, ⟨le_int (by first | exact hR.2.symm | exact hR.1.symm | exact congrArg List.length hR.1.symm | (rw [hR.1, turn_len]; done) | (rw [hR.1, List.length_append, turn_len, mark_len]; done)), trivial⟩, trivial⟩, ⟨⟨_, rfl, .inl (ob_bs (by first | rfl | ((try dsimp only); (first | exact hR.2.symm | exact hR.1.symm | exact congrArg List.length hR.1.symm | (rw [hR.1, turn_len]; done) | (rw [hR.1, List.length_append, turn_len, mark_len]; done)))) (by first | rfl | ((try dsimp only); (first | exact hR.2.symm | exact hR.1.symm | exact congrArg List.length hR.1.symm | (rw [hR.1, turn_len]; done) | (rw [hR.1, List.length_append, turn_len, mark_len]; done))))), trivial⟩, trivial⟩⟩
end Go.Vh

set_option linter.unusedVariables false
set_option linter.unusedSimpArgs false
namespace Go.Vh
open Go Go.Vc Go.Proofs Go.Vw
def bopSp : Sp := ⟨[], mkE (α := (List UInt8) × (List UInt8) × (List UInt8)) (fun (k, a, c) => [.p (.bs (k)), .p (.bs (a)), .p (.bs (c))]) (fun (k, a, c) => []) (fun (k, a, c) => True) (fun (k, a, c) => [.own 2 (0) ((opF k a c).length), .p (.v (.int .i64 (opE k a c)))]) (fun (k, a, c) => [(2, ⟨5, 1, (opF k a c).length, true, .bs (opF k a c)⟩)])⟩
def S_bop : FuncId → Option Sp := fun f => if f = 13 then some bofSp else if f = 15 then some bmarkSp else if f = 14 then some bturnedSp else none
theorem S_bop_ok : ∀ f s, S_bop f = some s → FOK Tryd.prog gl f s := fun f s h => by
 unfold S_bop at h
 split at h
 ·rename_i e; cases h; subst e; exact bof_ok
 split at h
 ·rename_i e; cases h; subst e; exact bmark_ok
 split at h
 ·rename_i e; cases h; subst e; exact bturned_ok
 cases h
theorem S_bop_det : ∀ f s, S_bop f = some s → SpDet s.sp := fun f s h => by
 unfold S_bop at h
 split at h
 ·cases h; exact mkE_det _ _ _ _ _
 split at h
 ·cases h; exact mkE_det _ _ _ _ _
 split at h
 ·cases h; exact mkE_det _ _ _ _ _
 cases h
set_option maxHeartbeats 1000000 in
set_option maxRecDepth 20000 in
theorem bop_ok : FOK Tryd.prog gl 10 bopSp := by
 refine FOK.ofE (tyOf_ok Tryd.prog) (slots := [6, 7]) (nt := 48) Tryd.func10 rfl rfl rfl rfl (by decide) 3 (fun ⟨_, _, _⟩ => rfl) (by decide) (fun ⟨_, _, _⟩ => ⟨trivial, trivial, trivial, trivial⟩) ?_
 rintro ⟨k, a, c⟩ kk hlen hpre h
 have hl0 : (k).length ≤ 9223372036854775807 := hlen.1
 have hl1 : (a).length ≤ 9223372036854775807 := hlen.2.1
 have hl2 : (c).length ≤ 9223372036854775807 := hlen.2.2.1
 replace hpre : True := hpre
 show HT (cx Tryd.prog 48 (tyOf Tryd.prog) gl []) _ [(0, .p (.bs (k))), (1, .p (.bs (a))), (2, .p (.bs (c)))] [] _
 have hks := kSt_len k
 have hkt := kTg_len k
 have hdl : (c.drop (c.length - 32)).length = c.length - (c.length - 32) := List.length_drop
 have htl : (c.take (c.length - 32)).length = min (c.length - 32) c.length := List.length_take
 refine HT.seq (HT.region S_bop_ok (So.q rfl rfl (V.as (v := .p (.v (.slice none 0 0))) rfl (So.q rfl rfl (V.as (v := .p (.v (.int .i64 (0)))) rfl (So.e (HT.seq (HT.region S_bop_ok (So.q rfl rfl (V.mv (v := .p (.bs _)) rfl (So.q rfl rfl (V.len ty22 (v := .p (.bs _)) rfl rfl (So.q rfl rfl (V.subI rfl rfl (by omega) ?_))))))))))))))
 refine So.q rfl rfl (V.as (v := .p (.v (.int .i64 _))) rfl (So.e (HT.seq (HT.block (HT.seq (HT.region S_bop_ok (So.q rfl rfl (V.mv (v := .p (.bs _)) rfl (So.q rfl rfl (V.len ty22 (v := .p (.bs _)) rfl rfl (So.q rfl rfl (V.bin (a := (.v (.int .i64 _))) (b := (.v (.int .i64 (32)))) (r := .v (.bool _)) rfl rfl rfl trivial (So.q rfl rfl (V.as (v := .p (.v (.bool _))) rfl ?_))))))))))))))
 refine So.e ?_
 show HT _ _ _ _ _
 refine R.cond rfl rfl (fun h1 => ?_) (fun h1 => ?_)
 ·have h1 := of_decide_eq_false (bnT h1)
  refine HT.seq (HT.region S_bop_ok (So.q rfl rfl (V.as (v := .p (.v (.slice none 0 0))) rfl (So.q rfl rfl (V.as (v := .p (.v (.int .i64 (1)))) rfl (So.e ?_))))))
  show HT _ _ _ _ _
  refine R.phan 6 1 5 1 (.bs []) rfl rfl rfl ⟨rfl, rfl⟩ ?_
  refine HT.ret ?_
  first | have hR := op_1 (k := k) (a := a) (c := c) (by omega) | have hR := op_2 (k := k) (a := a) (c := c) (by omega) (by omega) | have hR := op_3 (k := k) (a := a) (c := c) (by omega) (by omega) (op_5 (by omega)) | have hR := op_4 (k := k) (a := a) (c := c) (by omega) (by omega) ((op_arr (by omega)).1 (by assumption)) | have hR := op_3 (k := k) (a := a) (c := c) (by omega) (by omega) (mt (op_arr (by omega)).2 (by assumption))
  exact ret_ok (sg [(2, 1)]) h rfl rfl rfl ⟨trivial, trivial⟩ ⟨rfl, trivial, trivial⟩ rfl ⟨⟨⟨le_own2 (by first | rfl | omega) (by first | exact hR.2.symm | exact hR.1.symm | exact congrArg List.length hR.1.symm | (rw [hR.1, turn_len]; done) | (rw [hR.1, List.length_append, turn_len, mark_len]; done)), rfl⟩, ⟨le_int (by first | exact hR.2.symm | exact hR.1.symm | exact congrArg List.length hR.1.symm | (rw [hR.1, turn_len]; done) | (rw [hR.1, List.length_append, turn_len, mark_len]; done)), trivial⟩, trivial⟩, ⟨⟨_, rfl, .inl (ob_bs (by first | rfl | ((try dsimp only); (first | exact hR.2.symm | exact hR.1.symm | exact congrArg List.length hR.1.symm | (rw [hR.1, turn_len]; done) | (rw [hR.1, List.length_append, turn_len, mark_len]; done)))) (by first | rfl | ((try dsimp only); (first | exact hR.2.symm | exact hR.1.symm | exact congrArg List.length hR.1.symm | (rw [hR.1, turn_len]; done) | (rw [hR.1, List.length_append, turn_len, mark_len]; done))))), trivial⟩, trivial⟩⟩
 ·have h1 := of_decide_eq_true (bnF h1)
  refine HT.seq (HT.region S_bop_ok (So.q rfl rfl (V.mv (v := .p (.bs _)) rfl (So.q rfl rfl (V.len ty22 (v := .p (.bs _)) rfl rfl (So.q rfl rfl (V.mv (v := .p (.v (.int .i64 _))) rfl (So.q rfl rfl (V.pb (r := .v (.int .i64 _)) (by decide) rfl rfl (So.q rfl rfl (V.bin (a := (.v (.int .i64 _))) (b := (.v (.int .i64 (32768)))) (r := .v (.bool _)) rfl rfl rfl trivial (So.q rfl rfl (V.as (v := .p (.v (.bool _))) rfl (So.e ?_))))))))))))))
  show HT _ _ _ _ _
  refine R.cond rfl rfl (fun h2 => ?_) (fun h2 => ?_)
  ·have h2 := of_decide_eq_true h2
   refine HT.seq (HT.region S_bop_ok (So.q rfl rfl (V.as (v := .p (.v (.slice none 0 0))) rfl (So.q rfl rfl (V.as (v := .p (.v (.int .i64 (2)))) rfl (So.e ?_))))))
   show HT _ _ _ _ _
   refine R.phan 6 1 5 1 (.bs []) rfl rfl rfl ⟨rfl, rfl⟩ ?_
   refine HT.ret ?_
   first | have hR := op_1 (k := k) (a := a) (c := c) (by omega) | have hR := op_2 (k := k) (a := a) (c := c) (by omega) (by omega) | have hR := op_3 (k := k) (a := a) (c := c) (by omega) (by omega) (op_5 (by omega)) | have hR := op_4 (k := k) (a := a) (c := c) (by omega) (by omega) ((op_arr (by omega)).1 (by assumption)) | have hR := op_3 (k := k) (a := a) (c := c) (by omega) (by omega) (mt (op_arr (by omega)).2 (by assumption))
   exact ret_ok (sg [(2, 1)]) h rfl rfl rfl ⟨trivial, trivial⟩ ⟨rfl, trivial, trivial⟩ rfl ⟨⟨⟨le_own2 (by first | rfl | omega) (by first | exact hR.2.symm | exact hR.1.symm | exact congrArg List.length hR.1.symm | (rw [hR.1, turn_len]; done) | (rw [hR.1, List.length_append, turn_len, mark_len]; done)), rfl⟩, ⟨le_int (by first | exact hR.2.symm | exact hR.1.symm | exact congrArg List.length hR.1.symm | (rw [hR.1, turn_len]; done) | (rw [hR.1, List.length_append, turn_len, mark_len]; done)), trivial⟩, trivial⟩, ⟨⟨_, rfl, .inl (ob_bs (by first | rfl | ((try dsimp only); (first | exact hR.2.symm | exact hR.1.symm | exact congrArg List.length hR.1.symm | (rw [hR.1, turn_len]; done) | (rw [hR.1, List.length_append, turn_len, mark_len]; done)))) (by first | rfl | ((try dsimp only); (first | exact hR.2.symm | exact hR.1.symm | exact congrArg List.length hR.1.symm | (rw [hR.1, turn_len]; done) | (rw [hR.1, List.length_append, turn_len, mark_len]; done))))), trivial⟩, trivial⟩⟩
  ·have h2 := of_decide_eq_false h2
   refine HT.seq (HT.region S_bop_ok (So.q rfl rfl (V.mv (v := .p (.v (.int .i64 _))) rfl (So.q rfl rfl (V.bin (a := (.v (.int .i64 _))) (b := (.v (.int .i64 (0)))) (r := .v (.bool _)) rfl rfl rfl trivial (So.q rfl rfl (V.as (v := .p (.v (.bool _))) rfl (So.e ?_))))))))
   show HT _ _ _ _ _
   refine R.cond rfl rfl (fun h3 => ?_) (fun h3 => ?_)
   ·have h3 := of_decide_eq_true h3
    refine HT.seq (HT.region S_bop_ok (So.q rfl rfl (V.as (v := .p (.v (.slice none 0 0))) rfl (So.q rfl rfl (V.as (v := .p (.v (.int .i64 (121)))) rfl (So.e ?_))))))
    show HT _ _ _ _ _
    refine R.phan 6 1 5 1 (.bs []) rfl rfl rfl ⟨rfl, rfl⟩ ?_
    refine HT.ret ?_
    first | have hR := op_1 (k := k) (a := a) (c := c) (by omega) | have hR := op_2 (k := k) (a := a) (c := c) (by omega) (by omega) | have hR := op_3 (k := k) (a := a) (c := c) (by omega) (by omega) (op_5 (by omega)) | have hR := op_4 (k := k) (a := a) (c := c) (by omega) (by omega) ((op_arr (by omega)).1 (by assumption)) | have hR := op_3 (k := k) (a := a) (c := c) (by omega) (by omega) (mt (op_arr (by omega)).2 (by assumption))
    exact ret_ok (sg [(2, 1)]) h rfl rfl rfl ⟨trivial, trivial⟩ ⟨rfl, trivial, trivial⟩ rfl ⟨⟨⟨le_own2 (by first | rfl | omega) (by first | exact hR.2.symm | exact hR.1.symm | exact congrArg List.length hR.1.symm | (rw [hR.1, turn_len]; done) | (rw [hR.1, List.length_append, turn_len, mark_len]; done)), rfl⟩, ⟨le_int (by first | exact hR.2.symm | exact hR.1.symm | exact congrArg List.length hR.1.symm | (rw [hR.1, turn_len]; done) | (rw [hR.1, List.length_append, turn_len, mark_len]; done)), trivial⟩, trivial⟩, ⟨⟨_, rfl, .inl (ob_bs (by first | rfl | ((try dsimp only); (first | exact hR.2.symm | exact hR.1.symm | exact congrArg List.length hR.1.symm | (rw [hR.1, turn_len]; done) | (rw [hR.1, List.length_append, turn_len, mark_len]; done)))) (by first | rfl | ((try dsimp only); (first | exact hR.2.symm | exact hR.1.symm | exact congrArg List.length hR.1.symm | (rw [hR.1, turn_len]; done) | (rw [hR.1, List.length_append, turn_len, mark_len]; done))))), trivial⟩, trivial⟩⟩
   ·have h3 := of_decide_eq_false h3
    refine HT.skip (HT.seq (HT.region S_bop_ok (So.q rfl rfl (V.mv (v := .p (.bs _)) rfl ?_))))
    refine So.n (lk rfl) (A.call0 [.p (.bs _)] 1 rfl rfl rfl rfl ⟨trivial, trivial⟩ trivial _ ⟨.refl _, trivial⟩ trivial (by first | omega | (simp only [List.drop_zero, List.take_length]; omega) | (simp; done) | (simp; omega)) (Φ := fun _ => True) (fun _ _ => trivial) (.inl rfl) (v := .agg 2 _) rfl (O' := _) rfl (fun h4 => ?_))
    refine So.n (lk rfl) (A.alloc 1 1 ty33 rfl trivial (f := fun _ => .v (.slice none 0 0)) (fun _ _ => rfl) (So.s (A.stoAg ty33 rfl (n := 2) rfl (by decide) (by intro j hj; first | rfl | trivial | (match j, hj with | 0, _ => (first | trivial | rfl) | 1, _ => (first | trivial | rfl))) rfl rfl rfl (So.e (HT.seq ?_)))))
    refine HT.drawn S_bop_ok S_bop_det mixed (by kernel_rfl) ?_
    refine Sd.n (lk rfl) (V.mv (v := .p (.bs _)) rfl (Sd.n (lk rfl) (V.mv (v := .p (.v (.int .i64 _))) rfl (Sd.n (lk rfl) (V.mv (v := .p (.v (.int .i64 _))) rfl (Sd.n (lk rfl) (V.cutBsH ty22 ty5 rfl rfl rfl (by omega) (.inr ⟨_, _, rfl, rfl, rfl, by omega⟩) rfl (Sd.n (lk rfl) (V.mv (v := .p (.bs _)) rfl (Sd.n (lk rfl) (V.mv (v := .p (.v (.int .i64 _))) rfl (Sd.n (lk rfl) (V.cutBsL (mx := none) ty22 ty5 rfl rfl rfl (by omega) rfl (Sd.n (lk rfl) (V.as (v := .p (.bs _)) rfl (Sd.n (lk rfl) (V.as (v := .p (.bs _)) rfl (Sd.e ?_))))))))))))))))))
    show HT _ _ _ _ _
    refine HT.seq (HT.seq ?_)
    refine R.tell [(10, .p (.bs (c.take (c.length - 32)))), (11, .p (.bs (c.drop (c.length - 32))))] [] [1, 6, 7, 9] [1] (fr0 := [(1, .p (.bs _)), (6, .p (.v (.slice none 0 0))), (7, .p (.v (.int .i64 _))), (9, .ptr 1 0)]) (O0 := [(1, ⟨_, _, _, _, .rows _⟩)]) rfl rfl ⟨⟨⟨le_bs (by first | rfl | (congr 1; omega) | (rw [show ((c.length : Int) - 32).toNat = c.length - 32 by omega])), trivial⟩, ⟨le_bs (by first | rfl | (congr 1; omega) | (rw [show ((c.length : Int) - 32).toNat = c.length - 32 by omega])), trivial⟩, ⟨.refl _, trivial⟩, ⟨.refl _, trivial⟩, ⟨.refl _, trivial⟩, ⟨.refl _, rfl⟩, trivial⟩, ⟨⟨_, rfl, .inl rfl, trivial⟩, trivial⟩⟩ ?_
    show HT _ _ _ _ _
    refine HT.drawn S_bop_ok S_bop_det mixed (by kernel_rfl) ?_
    refine Sd.n (lk rfl) (V.ldPtrA ty33 rfl rfl rfl rfl (lk rfl) (Sd.n (lk rfl) (V.mv (v := .p (.bs _)) rfl (Sd.n (lk rfl) (V.mv (v := .p (.bs _)) rfl ?_)))))
    refine Sd.n (lk rfl) (V.call [.agg 2 _, .p (.bs _), .p (.bs _)] 2 rfl rfl rfl rfl ⟨trivial, trivial, trivial, trivial⟩ trivial (kSt k, kTg k, a, c.take (c.length - 32)) ⟨le_agg (fun j hj => by match j, hj with | 0, _ => rfl | 1, _ => rfl), .refl _, .refl _, trivial⟩ trivial (by first | omega | (simp only [List.drop_zero, List.take_length]; omega) | (simp; done) | (simp; omega)) (Φ := fun _ => True) (fun _ _ => trivial) (.inl ⟨trivial, trivial, trivial, trivial⟩) (v := .agg 32 _) rfl (fun h5 => ?_))
    refine Sd.n (lk rfl) (V.mv (v := .p (.bs _)) rfl (Sd.n (lk rfl) (V.sapBs ty36 rfl (by omega) (Sd.n (lk rfl) (V.ldRpA ty36 rfl rfl (by show 32 ≤ (List.drop _ c).length; omega) (Sd.n (lk rfl) (V.neArr ty36 ty5 rfl rfl rfl rfl (by first | exact Tryd.eqGuardType36 | kernel_rfl) (fun _ _ => ⟨rfl, rfl⟩) rfl (Sd.e ?_))))))))
    show HT _ _ _ _ _
    refine R.cond rfl rfl (fun h6 => ?_) (fun h6 => ?_)
    ·have h6 := of_decide_eq_false (bnT h6)
     refine HT.seq (HT.region S_bop_ok (So.q rfl rfl (V.as (v := .p (.v (.slice none 0 0))) rfl (So.q rfl rfl (V.as (v := .p (.v (.int .i64 (121)))) rfl (So.e ?_))))))
     show HT _ _ _ _ _
     refine R.phan 6 2 5 1 (.bs []) rfl rfl rfl ⟨rfl, rfl⟩ ?_
     refine HT.ret ?_
     first | have hR := op_1 (k := k) (a := a) (c := c) (by omega) | have hR := op_2 (k := k) (a := a) (c := c) (by omega) (by omega) | have hR := op_3 (k := k) (a := a) (c := c) (by omega) (by omega) (op_5 (by omega)) | have hR := op_4 (k := k) (a := a) (c := c) (by omega) (by omega) ((op_arr (by omega)).1 (by assumption)) | have hR := op_3 (k := k) (a := a) (c := c) (by omega) (by omega) (mt (op_arr (by omega)).2 (by assumption))
     exact ret_ok (sg [(2, 2)]) h rfl rfl rfl ⟨trivial, trivial⟩ ⟨rfl, trivial, trivial⟩ rfl ⟨⟨⟨le_own2 (by first | rfl | omega) (by first | exact hR.2.symm | exact hR.1.symm | exact congrArg List.length hR.1.symm | (rw [hR.1, turn_len]; done) | (rw [hR.1, List.length_append, turn_len, mark_len]; done)), rfl⟩, ⟨le_int (by first | exact hR.2.symm | exact hR.1.symm | exact congrArg List.length hR.1.symm | (rw [hR.1, turn_len]; done) | (rw [hR.1, List.length_append, turn_len, mark_len]; done)), trivial⟩, trivial⟩, ⟨⟨_, rfl, .inl (ob_bs (by first | rfl | ((try dsimp only); (first | exact hR.2.symm | exact hR.1.symm | exact congrArg List.length hR.1.symm | (rw [hR.1, turn_len]; done) | (rw [hR.1, List.length_append, turn_len, mark_len]; done)))) (by first | rfl | ((try dsimp only); (first | exact hR.2.symm | exact hR.1.symm | exact congrArg List.length hR.1.symm | (rw [hR.1, turn_len]; done) | (rw [hR.1, List.length_append, turn_len, mark_len]; done))))), trivial⟩, trivial⟩⟩
    ·have h6 := of_decide_eq_true (bnF h6)
     refine HT.skip (HT.seq (HT.region S_bop_ok (So.q rfl rfl (V.ldPtrA ty33 rfl rfl rfl rfl (lk rfl) (So.q rfl rfl (V.mv (v := .p (.bs _)) rfl ?_))))))
     refine So.n (lk rfl) (A.call0 [.agg 2 _, .p (.bs _)] 2 rfl rfl rfl rfl ⟨trivial, trivial, trivial⟩ trivial (kSt k, kTg k, c.take (c.length - 32)) ⟨le_agg (fun j hj => by match j, hj with | 0, _ => rfl | 1, _ => rfl), .refl _, trivial⟩ trivial (by first | omega | (simp only [List.drop_zero, List.take_length]; omega) | (simp; done) | (simp; omega)) (Φ := fun _ => True) (fun _ _ => trivial) (.inl rfl) (v := .own 4 0 _) rfl (O' := (4, ⟨5, 1, _, true, .bs _⟩) :: _) rfl (fun h7 => ?_))
     refine So.q rfl rfl (V.as (v := .own 4 0 _) rfl (So.q rfl rfl (V.as (v := .p (.v (.int .i64 (0)))) rfl (So.e ?_))))
     show HT _ _ _ _ _
     refine HT.ret ?_
     first | have hR := op_1 (k := k) (a := a) (c := c) (by omega) | have hR := op_2 (k := k) (a := a) (c := c) (by omega) (by omega) | have hR := op_3 (k := k) (a := a) (c := c) (by omega) (by omega) (op_5 (by omega)) | have hR := op_4 (k := k) (a := a) (c := c) (by omega) (by omega) ((op_arr (by omega)).1 (by assumption)) | have hR := op_3 (k := k) (a := a) (c := c) (by omega) (by omega) (mt (op_arr (by omega)).2 (by assumption))
     exact ret_ok (sg [(2, 4)]) h rfl rfl rfl ⟨trivial, trivial⟩ ⟨rfl, trivial, trivial⟩ rfl ⟨⟨⟨le_own2 (by first | rfl | omega) (by first | exact hR.2.symm | exact hR.1.symm | exact congrArg List.length hR.1.symm | (rw [hR.1, turn_len]; done) | (rw [hR.1, List.length_append, turn_len, mark_len]; done)), rfl⟩, ⟨le_int (by first | exact hR.2.symm | exact hR.1.symm | exact congrArg List.length hR.1.symm | (rw [hR.1, turn_len]; done) | (rw [hR.1, List.length_append, turn_len, mark_len]; done)), trivial⟩, trivial⟩, ⟨⟨_, rfl, .inl (ob_bs (by first | rfl | ((try dsimp only); (first | exact hR.2.symm | exact hR.1.symm | exact congrArg List.length hR.1.symm | (rw [hR.1, turn_len]; done) | (rw [hR.1, List.length_append, turn_len, mark_len]; done)))) (by first | rfl | ((try dsimp only); (first | exact hR.2.symm | exact hR.1.symm | exact congrArg List.length hR.1.symm | (rw [hR.1, turn_len]; done) | (rw [hR.1, List.length_append, turn_len, mark_len]; done))))), trivial⟩, trivial⟩⟩
end Go.Vh

set_option linter.unusedVariables false
set_option linter.unusedSimpArgs false
namespace Go.Vh
open Go Go.Vc Go.Proofs Go.Vw
def headSp : Sp := ⟨[], mkE (α := Unit) (fun _ => []) (fun _ => []) (fun _ => True) (fun _ => [.p (.v (.bool true))]) (fun _ => [])⟩
def S_head : FuncId → Option Sp := fun f => if f = 9 then some bclSp else if f = 10 then some bopSp else none
theorem S_head_ok : ∀ f s, S_head f = some s → FOK Tryd.prog gl f s := fun f s h => by
 unfold S_head at h
 split at h
 ·rename_i e; cases h; subst e; exact bcl_ok
 split at h
 ·rename_i e; cases h; subst e; exact bop_ok
 cases h
set_option maxHeartbeats 1000000 in
set_option maxRecDepth 20000 in
theorem head_ok : FOK Tryd.prog gl 7 headSp := by
 refine FOK.ofE (tyOf_ok Tryd.prog) (slots := [0]) (nt := 47) Tryd.func7 rfl rfl rfl rfl (by decide) 0 (fun _ => rfl) (by decide) (fun _ => trivial) ?_
 rintro _ kk hlen hpre h
 replace hpre : True := hpre
 show HT (cx Tryd.prog 47 (tyOf Tryd.prog) gl []) _ [] [] _
 obtain ⟨z, hz⟩ : ∃ z : List UInt8, z = List.replicate 32 0 := ⟨_, rfl⟩
 have hzl : z.length = 32 := by rw [hz]; rfl
 obtain ⟨w, hw⟩ : ∃ w : List UInt8, w = [] := ⟨_, rfl⟩
 have hwl : w.length = 0 := by rw [hw]; rfl
 obtain ⟨b, hb⟩ : ∃ b : List UInt8, b = [97, 98] := ⟨_, rfl⟩
 have hbl : b.length = 2 := by rw [hb]; rfl
 have hno : ¬ (z.length ≠ 32 ∨ 32768 < w.length ∨ 32768 < b.length) := by omega
 have hcy := (cl_yes hno).2
 have hcl := cl_len hcy
 have hop := op_cl hno
 have hon : opE z w w = 121 := by rw [hw]; exact op_nil hzl (by simp)
 refine HT.seq (HT.region S_head_ok (So.q rfl rfl (V.as (v := .p (.v (.bool false))) rfl (So.e (HT.seq (HT.region S_head_ok (So.n (lk rfl) (A.mkB 1 ty22 ty5 rfl rfl rfl (by omega) rfl rfl trivial (So.q rfl rfl (V.as (v := .own 1 0 _) rfl (So.e (HT.seq ?_))))))))))))
 refine HT.region S_head_ok (So.q rfl rfl (V.mv (v := .own 1 0 _) rfl (So.n (lk rfl) (A.bsl 2 ty22 ty5 rfl (lk rfl) (lk rfl) (fun _ => rfl) rfl rfl trivial ⟨trivial, trivial, trivial⟩ rfl (N := 2) rfl (c := .bs [_, _]) rfl (So.n (lk rfl) (A.cvM ty22 ty5 rfl (by first | rfl | omega | (simp; done) | (simp; omega)) rfl rfl ?_))))))
 refine So.n (lk rfl) (A.call0 [.p (.bs _), .p (.v (.slice none 0 0)), .p (.bs _)] 3 rfl rfl rfl rfl ⟨trivial, trivial, trivial, trivial⟩ trivial (z, w, b) ⟨le_bs (by rw [hz]; rfl), le_nil hw, le_bs (by rw [hb]; rfl), trivial⟩ trivial (by trivial) (Φ := fun _ => True) (fun _ _ => trivial) (.inr ⟨fun j hj => by match j, hj with | 0, _ => exact trivial | 1, _ => exact trivial, by simp [Hp.scal, OC.scal, PV.scal, BV.scal]⟩) (v := .tup 2 _) rfl (O' := (5, ⟨5, 1, _, true, .bs _⟩) :: _) rfl (fun h1 => ?_))
 refine So.q rfl rfl (V.mv (v := .tup 2 _) rfl (So.q rfl rfl (V.ext rfl (lk rfl) (v := .own 5 0 _) rfl (So.q rfl rfl (V.ext rfl (lk rfl) (v := .p (.v (.int .i64 _))) rfl (So.q rfl rfl (V.as (v := .own 5 0 _) rfl (So.q rfl rfl (V.as (v := .p (.v (.int .i64 _))) rfl (So.e (HT.seq (HT.region S_head_ok (So.q rfl rfl (V.mv (v := .own 1 0 _) rfl (So.q rfl rfl (V.mv (v := .own 5 0 _) rfl ?_))))))))))))))))
 refine So.n (lk rfl) (A.call0 [.p (.bs _), .p (.v (.slice none 0 0)), .p (.bs _)] 6 rfl rfl rfl rfl ⟨trivial, trivial, trivial, trivial⟩ trivial (z, w, clF z w b) ⟨le_bs (by rw [hz]; rfl), le_nil hw, le_bs (take_full _), trivial⟩ trivial (by trivial) (Φ := fun _ => True) (fun _ _ => trivial) (.inr ⟨fun j hj => by match j, hj with | 0, _ => exact trivial | 1, _ => exact trivial, by simp [Hp.scal, OC.scal, PV.scal, BV.scal]⟩) (v := .tup 2 _) rfl (O' := (8, ⟨5, 1, _, true, .bs _⟩) :: _) rfl (fun h2 => ?_))
 refine So.q rfl rfl (V.mv (v := .tup 2 _) rfl (So.q rfl rfl (V.ext rfl (lk rfl) (v := .own 8 0 _) rfl (So.q rfl rfl (V.ext rfl (lk rfl) (v := .p (.v (.int .i64 _))) rfl (So.q rfl rfl (V.as (v := .own 8 0 _) rfl (So.q rfl rfl (V.as (v := .p (.v (.int .i64 _))) rfl (So.e (HT.seq (HT.region S_head_ok (So.q rfl rfl (V.mv (v := .own 1 0 _) rfl ?_))))))))))))))
 refine So.n (lk rfl) (A.call0 [.p (.bs _), .p (.v (.slice none 0 0)), .p (.v (.slice none 0 0))] 9 rfl rfl rfl rfl ⟨trivial, trivial, trivial, trivial⟩ trivial (z, w, w) ⟨le_bs (by rw [hz]; rfl), le_nil hw, le_nil hw, trivial⟩ trivial (by trivial) (Φ := fun _ => True) (fun _ _ => trivial) (.inr ⟨fun j hj => by match j, hj with | 0, _ => exact trivial | 1, _ => exact trivial, by simp [Hp.scal, OC.scal, PV.scal, BV.scal]⟩) (v := .tup 2 _) rfl (O' := (11, ⟨5, 1, _, true, .bs _⟩) :: _) rfl (fun h3 => ?_))
 refine So.q rfl rfl (V.mv (v := .tup 2 _) rfl (So.q rfl rfl (V.ext rfl (lk rfl) (v := .own 11 0 _) rfl (So.q rfl rfl (V.ext rfl (lk rfl) (v := .p (.v (.int .i64 _))) rfl (So.q rfl rfl (V.as (v := .own 11 0 _) rfl (So.q rfl rfl (V.as (v := .p (.v (.int .i64 _))) rfl (So.e (HT.seq (HT.region S_head_ok (So.q rfl rfl (V.mv (v := .p (.v (.int .i64 _))) rfl (So.q rfl rfl (V.bin (a := (.v (.int .i64 _))) (b := (.v (.int .i64 (0)))) (r := .v (.bool _)) rfl rfl rfl trivial ?_))))))))))))))))
 refine So.q rfl rfl (V.mv (v := .p (.v (.bool _))) rfl ?_)
 refine So.gd rfl rfl (lk rfl) (lk rfl) (fun h4 => ?_) (fun h4 => ?_)
 ·have h4 := of_decide_eq_true h4
  refine A.v rfl (V.mv (v := .own 5 0 _) rfl (So.gy rfl rfl (lk rfl) (lk rfl) (A.v rfl (V.len ty22 (v := .own 5 0 _) rfl rfl (So.gy rfl rfl (lk rfl) (lk rfl) (A.v rfl (V.bin (a := (.v (.int .i64 _))) (b := (.v (.int .i64 (34)))) (r := .v (.bool _)) rfl rfl rfl trivial (So.q rfl rfl (V.pkTrue (u := .p (.v (.bool _))) rfl rfl (So.q rfl rfl (V.mv (v := .p (.v (.bool _))) rfl ?_)))))))))))
  refine So.gd rfl rfl (lk rfl) (lk rfl) (fun h5 => ?_) (fun h5 => ?_)
  ·have h5 := of_decide_eq_true h5
   refine A.v rfl (V.mv (v := .p (.v (.int .i64 _))) rfl (So.gy rfl rfl (lk rfl) (lk rfl) (A.v rfl (V.bin (a := (.v (.int .i64 _))) (b := (.v (.int .i64 (0)))) (r := .v (.bool _)) rfl rfl rfl trivial (So.q rfl rfl (V.pkTrue (u := .p (.v (.bool _))) rfl rfl (So.q rfl rfl (V.mv (v := .p (.v (.bool _))) rfl ?_))))))))
   refine So.gd rfl rfl (lk rfl) (lk rfl) (fun h6 => ?_) (fun h6 => ?_)
   ·have h6 := of_decide_eq_true h6
    refine A.v rfl (V.mv (v := .own 8 0 _) rfl (So.gy rfl rfl (lk rfl) (lk rfl) (A.v rfl (V.cvOwn ty9 rfl rfl rfl List.take_length (So.gy rfl rfl (lk rfl) (lk rfl) (A.v rfl (V.bin (a := (.str _)) (b := (.str [97, 98])) (r := .v (.bool _)) rfl rfl rfl trivial (So.q rfl rfl (V.pkTrue (u := .p (.v (.bool _))) rfl rfl (So.q rfl rfl (V.mv (v := .p (.v (.bool _))) rfl ?_)))))))))))
    refine So.gd rfl rfl (lk rfl) (lk rfl) (fun h7 => ?_) (fun h7 => ?_)
    ·have h7 := of_decide_eq_true h7
     refine A.v rfl (V.mv (v := .p (.v (.int .i64 _))) rfl (So.gy rfl rfl (lk rfl) (lk rfl) (A.v rfl (V.bin (a := (.v (.int .i64 _))) (b := (.v (.int .i64 (121)))) (r := .v (.bool _)) rfl rfl rfl trivial (So.q rfl rfl (V.pkTrue (u := .p (.v (.bool _))) rfl rfl (So.q rfl rfl (V.as (v := .p (.v (.bool _))) rfl (So.e ?_)))))))))
     show HT _ _ _ _ _
     refine HT.ret ?_
     exact ret_ok (sg []) h rfl rfl rfl trivial ⟨trivial, trivial⟩ rfl ⟨⟨⟨le_bool (by first | with_reducible rfl | exact decide_eq_true (by first | with_reducible rfl | exact hcy | exact hop.2 | exact hon | (rw [hop.1, hb]; done) | (rw [hop.1, hb]; rfl) | (simp only [take_full]; rw [hop.1, hb]; done) | (rw [hcl]; omega) | omega)), trivial⟩, trivial⟩, trivial⟩
    ·have h7 := of_decide_eq_false h7
     first | exact absurd (by first | with_reducible rfl | exact hcy | exact hop.2 | exact hon | (rw [hop.1, hb]; done) | (rw [hop.1, hb]; rfl) | (simp only [take_full]; rw [hop.1, hb]; done) | (rw [hcl]; omega) | omega) h7 | exact absurd h7 (by first | with_reducible rfl | exact hcy | exact hop.2 | exact hon | (rw [hop.1, hb]; done) | (rw [hop.1, hb]; rfl) | (simp only [take_full]; rw [hop.1, hb]; done) | (rw [hcl]; omega) | omega)
   ·have h6 := of_decide_eq_false h6
    first | exact absurd (by first | with_reducible rfl | exact hcy | exact hop.2 | exact hon | (rw [hop.1, hb]; done) | (rw [hop.1, hb]; rfl) | (simp only [take_full]; rw [hop.1, hb]; done) | (rw [hcl]; omega) | omega) h6 | exact absurd h6 (by first | with_reducible rfl | exact hcy | exact hop.2 | exact hon | (rw [hop.1, hb]; done) | (rw [hop.1, hb]; rfl) | (simp only [take_full]; rw [hop.1, hb]; done) | (rw [hcl]; omega) | omega)
  ·have h5 := of_decide_eq_false h5
   first | exact absurd (by first | with_reducible rfl | exact hcy | exact hop.2 | exact hon | (rw [hop.1, hb]; done) | (rw [hop.1, hb]; rfl) | (simp only [take_full]; rw [hop.1, hb]; done) | (rw [hcl]; omega) | omega) h5 | exact absurd h5 (by first | with_reducible rfl | exact hcy | exact hop.2 | exact hon | (rw [hop.1, hb]; done) | (rw [hop.1, hb]; rfl) | (simp only [take_full]; rw [hop.1, hb]; done) | (rw [hcl]; omega) | omega)
 ·have h4 := of_decide_eq_false h4
  first | exact absurd (by first | with_reducible rfl | exact hcy | exact hop.2 | exact hon | (rw [hop.1, hb]; done) | (rw [hop.1, hb]; rfl) | (simp only [take_full]; rw [hop.1, hb]; done) | (rw [hcl]; omega) | omega) h4 | exact absurd h4 (by first | with_reducible rfl | exact hcy | exact hop.2 | exact hon | (rw [hop.1, hb]; done) | (rw [hop.1, hb]; rfl) | (simp only [take_full]; rw [hop.1, hb]; done) | (rw [hcl]; omega) | omega)
def greatSp : Sp := ⟨[], mkE (α := (List UInt8)) (fun b => [.p (.bs (b))]) (fun b => []) (fun b => True) (fun b => [.p (.v (.bool (decide (40000 < (b.length : Int)))))]) (fun b => [])⟩
def S_great : FuncId → Option Sp := fun _ => none
theorem S_great_ok : ∀ f s, S_great f = some s → FOK Tryd.prog gl f s := fun f s h => by cases h
set_option maxHeartbeats 1000000 in
set_option maxRecDepth 1000 in
theorem great_ok : FOK Tryd.prog gl 8 greatSp := by
 refine FOK.ofE (tyOf_ok Tryd.prog) (slots := [2]) (nt := 6) Tryd.func8 rfl rfl rfl rfl (by decide) 1 (fun _ => rfl) (by decide) (fun _ => ⟨trivial, trivial⟩) ?_
 rintro b kk hlen hpre h
 have hl0 : (b).length ≤ 9223372036854775807 := hlen.1
 replace hpre : True := hpre
 show HT (cx Tryd.prog 6 (tyOf Tryd.prog) gl []) _ [(0, .p (.bs (b)))] [] _
 refine HT.seq (HT.region S_great_ok (So.q rfl rfl (V.as (v := .p (.v (.bool false))) rfl (So.e (HT.seq (HT.region S_great_ok (So.q rfl rfl (V.mv (v := .p (.bs _)) rfl (So.q rfl rfl (V.len ty22 (v := .p (.bs _)) rfl rfl (So.q rfl rfl (V.bin (a := (.v (.int .i64 _))) (b := (.v (.int .i64 (40000)))) (r := .v (.bool _)) rfl rfl rfl trivial (So.q rfl rfl (V.as (v := .p (.v (.bool _))) rfl ?_))))))))))))))
 refine So.e ?_
 show HT _ _ _ _ _
 refine HT.ret ?_
 exact ret_ok (sg []) h rfl rfl rfl trivial ⟨trivial, trivial⟩ rfl ⟨⟨⟨le_bool (by first | rfl | omega | (simp; done) | (simp; omega)), trivial⟩, trivial⟩, trivial⟩
end Go.Vh

set_option linter.unusedVariables false
set_option linter.unusedSimpArgs false
namespace Go.Vh
open Go Go.Vc Go.Proofs Go.Vw
def kturnsSp : Sp := ⟨[], mkE (α := Unit) (fun _ => []) (fun _ => []) (fun _ => True) (fun _ => [.agg 25 (fun j => .v (.int .i64 ((tL.getD j 0 : Nat) : Int)))]) (fun _ => [])⟩
def S_kturns : FuncId → Option Sp := fun _ => none
theorem S_kturns_ok : ∀ f s, S_kturns f = some s → FOK Tryd.prog gl f s := fun f s h => by cases h
set_option maxHeartbeats 1000000 in
set_option maxRecDepth 20000 in
theorem kturns_ok : FOK Tryd.prog gl 66 kturnsSp := by
 refine FOK.ofEC (tyOf_ok Tryd.prog) (rvs := [.cell 0 90]) (nt := 30) Tryd.func66 rfl rfl rfl rfl (by decide) 0 (fun _ => rfl) (by decide) (fun _ => trivial) ?_
 rintro _ kk hlen hpre h
 replace hpre : True := hpre
 show HT (cx Tryd.prog 30 (tyOf Tryd.prog) gl []) _ [] [] _
 refine HT.seq (HT.region S_kturns_ok (So.n (lk rfl) (A.alloc 1 5 ty90 rfl trivial (f := fun _ => .v (.int .i64 0)) (fun _ _ => rfl) (So.e (HT.seq (HT.region S_kturns_ok (So.n (lk rfl) (A.alloc 2 5 ty90 rfl trivial (f := fun _ => .v (.int .i64 0)) (fun _ _ => rfl) (So.e (HT.seq (HT.region S_kturns_ok ?_)))))))))))
 refine So.q rfl rfl (V.as (v := .p (.v (.int .i64 (1)))) rfl (So.e (HT.seq (HT.region S_kturns_ok (So.q rfl rfl (V.as (v := .p (.v (.int .i64 (0)))) rfl (So.e (HT.seq (HT.seq (HT.region S_kturns_ok (So.q rfl rfl (V.as (v := .p (.v (.int .i64 (0)))) rfl ?_))))))))))))
 refine So.e (HT.block ?_)
 refine R.loop (σ := Nat) (fun i => [(4, .p (.v (.int .i64 ((i : Int))))), (2, .p (.v (.int .i64 (((xT i : Nat) : Int))))), (3, .p (.v (.int .i64 (((yT i : Nat) : Int)))))]) (fun i => [(2, ⟨90, 5, 25, true, .rows (fun j => .v (.int .i64 ((tP i j : Nat) : Int)))⟩)]) [0, 1] [1] (fun i => i ≤ 24) (fun i => 24 - i) (0) (fr0 := [(0, .ptr 1 0), (1, .ptr 2 0)]) (O0 := [(1, ⟨_, _, _, _, .rows _⟩)]) rfl rfl (by first | rfl | omega | (intro j hj; rfl) | (simp; done) | (simp; omega)) ⟨⟨⟨le_int (by first | rfl | omega | (intro j hj; rfl) | (simp; done) | (simp; omega)), trivial⟩, ⟨le_int (by first | rfl | omega | (intro j hj; rfl) | (simp; done) | (simp; omega)), trivial⟩, ⟨le_int (by first | rfl | omega | (intro j hj; rfl) | (simp; done) | (simp; omega)), trivial⟩, ⟨.refl _, rfl⟩, ⟨.refl _, rfl⟩, trivial⟩, ⟨⟨_, rfl, .inr (ob_rows (by first | rfl | ((try dsimp only); first | rfl | omega | (intro j hj; rfl) | (simp; done) | (simp; omega))) (by first | rfl | ((try dsimp only); first | rfl | omega | (intro j hj; rfl) | (simp; done) | (simp; omega)))), trivial⟩, ⟨_, rfl, .inl rfl, trivial⟩, trivial⟩⟩ (fun i hP0 => ?_)
 refine HT.seq (HT.seq (HT.region S_kturns_ok (So.q rfl rfl (V.mv (v := .p (.v (.int .i64 ((_ : Nat) : Int)))) rfl (So.q rfl rfl (V.bin (a := (.v (.int .i64 ((_ : Nat) : Int)))) (b := (.v (.int .i64 (24)))) (r := .v (.bool _)) rfl rfl rfl trivial (So.e ?_)))))))
 show HT _ _ _ _ _
 refine R.cond rfl rfl (fun h1 => ?_) (fun h1 => ?_)
 ·have h1 := of_decide_eq_true h1
  refine HT.skip (HT.seq (HT.block (HT.seq (HT.region S_kturns_ok ?_))))
  have htb := turn_b ⟨i, by omega⟩
  simp only at htb
  obtain ⟨hx, hy, hv, hn, hm, _⟩ := htb
  have hv2 : ((i : Int) + 1) * ((i : Int) + 2) / 2 % 64 = ((tL.getD (xT i * 5 + yT i) 0 : Nat) : Int) := by rw [← hv]; rfl
  have hmul : 0 ≤ ((i : Int) + 1) * ((i : Int) + 2) ∧ ((i : Int) + 1) * ((i : Int) + 2) ≤ 600 := ⟨Int.mul_nonneg (by omega) (by omega), Int.le_trans (Int.mul_le_mul (show (i : Int) + 1 ≤ 24 by omega) (show (i : Int) + 2 ≤ 25 by omega) (by omega) (by omega)) (by decide)⟩
  refine So.q rfl rfl (V.mv (v := .p (.v (.int .i64 _))) rfl (So.q rfl rfl (V.mv (v := .p (.v (.int .i64 _))) rfl (So.q rfl rfl (V.mv (v := .p (.v (.int .i64 ((_ : Nat) : Int)))) rfl (So.q rfl rfl (V.addI rfl rfl (by omega) (So.q rfl rfl (V.mv (v := .p (.v (.int .i64 ((_ : Nat) : Int)))) rfl (So.q rfl rfl (V.addI rfl rfl (by omega) (So.q rfl rfl (V.mulI rfl rfl (by constructor; (exact Int.le_trans (by decide) (Int.mul_nonneg (by omega) (by omega))); (exact Int.le_trans (Int.mul_le_mul (show (i : Int) + 1 ≤ 24 by omega) (show (i : Int) + 2 ≤ 25 by omega) (by omega) (by omega)) (by decide))) (So.q rfl rfl (V.quoI rfl rfl (by omega) (So.q rfl rfl (V.remI rfl rfl (by omega) (So.q rfl rfl (V.ixArrPS0 (mi := xT i) (s := 5) ty90 ty89 rfl rfl rfl (by first | rfl | omega | (intro j hj; rfl) | (simp; done) | (simp; omega)) rfl (by omega) (by omega) ?_)))))))))))))))))))
  refine So.q rfl rfl (V.ixArrP1 (mi := yT i) ty89 ty3 rfl rfl rfl (by first | rfl | omega | (intro j hj; rfl) | (simp; done) | (simp; omega)) rfl (by omega) (by omega) (So.s (A.sto ty3 rfl rfl rfl (v := .p (.v (.int .i64 _))) rfl rfl rfl (by first | rfl | omega | (intro j hj; rfl) | (simp; done) | (simp; omega)) (c' := .rows (fun j => .v (.int .i64 ((tP (i + 1) j : Nat) : Int)))) (congrArg (fun g => some (OC.rows g)) (funext fun j => by simp only [hv2]; rw [← tP_put (by omega) j]; by_cases h9 : j = xT i * 5 + yT i <;> simp [h9])) rfl (So.e (HT.seq (HT.region S_kturns_ok (So.q rfl rfl (V.mv (v := .p (.v (.int .i64 _))) rfl (So.q rfl rfl (V.mulI rfl rfl (by omega) (So.q rfl rfl (V.mv (v := .p (.v (.int .i64 _))) rfl (So.q rfl rfl (V.mulI rfl rfl (by omega) (So.q rfl rfl (V.addI rfl rfl (by omega) ?_))))))))))))))))
  refine So.q rfl rfl (V.remI rfl rfl (by omega) (So.q rfl rfl (V.as (v := .p (.v (.int .i64 _))) rfl (So.e (HT.seq (HT.region S_kturns_ok (So.q rfl rfl (V.mv (v := .p (.v (.int .i64 _))) rfl (So.q rfl rfl (V.as (v := .p (.v (.int .i64 _))) rfl (So.e (HT.region S_kturns_ok (So.q rfl rfl (V.mv (v := .p (.v (.int .i64 _))) rfl ?_))))))))))))))
  refine So.q rfl rfl (V.as (v := .p (.v (.int .i64 _))) rfl (So.e (HT.region S_kturns_ok (So.q rfl rfl (V.mv (v := .p (.v (.int .i64 ((_ : Nat) : Int)))) rfl (So.q rfl rfl (V.addI rfl rfl (by omega) (So.q rfl rfl (V.as (v := .p (.v (.int .i64 _))) rfl (So.e ?_))))))))))
  refine ⟨i + 1, by first | rfl | omega | (intro j hj; rfl) | (simp; done) | (simp; omega), by omega, ⟨⟨⟨le_int (by first | rfl | omega | (intro j hj; rfl) | (simp; done) | (simp; omega)), trivial⟩, ⟨le_int (by first | rfl | omega | (intro j hj; rfl) | (simp; done) | (simp; omega)), trivial⟩, ⟨le_int (by first | rfl | omega | (intro j hj; rfl) | (simp; done) | (simp; omega)), trivial⟩, ⟨.refl _, rfl⟩, ⟨.refl _, rfl⟩, trivial⟩, ⟨⟨_, rfl, .inr (ob_rows (by first | rfl | ((try dsimp only); first | rfl | omega | (intro j hj; rfl) | (simp; done) | (simp; omega))) (by first | rfl | ((try dsimp only); first | rfl | omega | (intro j hj; rfl) | (simp; done) | (simp; omega)))), trivial⟩, ⟨_, rfl, .inl rfl, trivial⟩, trivial⟩⟩⟩
 ·have h1 := of_decide_eq_false h1
  refine HT.exit ?_
  show HT _ _ _ _ _
  refine HT.seq (HT.region S_kturns_ok (So.q rfl rfl (V.ldPtrA ty90 rfl rfl rfl rfl (lk rfl) (So.s (A.stoAg ty90 rfl (n := 25) rfl (by decide) (by intro j hj; first | rfl | trivial) rfl rfl rfl (So.e ?_))))))
  show HT _ _ _ _ _
  refine HT.ret ?_
  exact retC_ok (sg []) [(0, .ptr 1 0)] [(1, ⟨90, 5, 25, true, .rows (fun j => .v (.int .i64 ((tL.getD j 0 : Nat) : Int)))⟩)] h ⟨⟨⟨.refl _, rfl⟩, trivial⟩, ⟨⟨_, rfl, .inr (ob_rowsL (by intro j hj; replace hP0 : i = 24 := (by omega); subst hP0; simp only [Nat.zero_add]; rw [tP_25 hj]; exact .refl _)), trivial⟩, trivial⟩⟩ ⟨rvA_cell ty90 rfl rfl rfl rfl (Nat.le_refl _) (le_agg (fun j _ => by first | rfl | (dsimp only; rw [Nat.zero_add]))), trivial⟩ trivial rfl trivial ⟨trivial, trivial⟩ rfl
end Go.Vh

set_option linter.unusedVariables false
set_option linter.unusedSimpArgs false
namespace Go.Vh
open Go Go.Vc Go.Proofs Go.Vw
def kconstsSp : Sp := ⟨[], mkE (α := Unit) (fun _ => []) (fun _ => []) (fun _ => True) (fun _ => [.agg 24 (fun j => .u64 (constL.getD j 0))]) (fun _ => [])⟩
def S_kconsts : FuncId → Option Sp := fun _ => none
theorem S_kconsts_ok : ∀ f s, S_kconsts f = some s → FOK Tryd.prog gl f s := fun f s h => by cases h
set_option maxHeartbeats 1000000 in
set_option maxRecDepth 20000 in
theorem kconsts_ok : FOK Tryd.prog gl 67 kconstsSp := by
 refine FOK.ofEC (tyOf_ok Tryd.prog) (rvs := [.cell 0 92]) (nt := 33) Tryd.func67 rfl rfl rfl rfl (by decide) 0 (fun _ => rfl) (by decide) (fun _ => trivial) ?_
 rintro _ kk hlen hpre h
 replace hpre : True := hpre
 show HT (cx Tryd.prog 33 (tyOf Tryd.prog) gl []) _ [] [] _
 refine HT.seq (HT.region S_kconsts_ok (So.n (lk rfl) (A.alloc 1 1 ty92 rfl trivial (f := fun _ => .u64 0) (fun _ _ => rfl) (So.e (HT.seq (HT.region S_kconsts_ok (So.n (lk rfl) (A.alloc 2 1 ty92 rfl trivial (f := fun _ => .u64 0) (fun _ _ => rfl) (So.e (HT.seq (HT.region S_kconsts_ok ?_)))))))))))
 refine So.q rfl rfl (V.as (v := .p (.v (.int .i64 (1)))) rfl (So.e (HT.seq (HT.seq (HT.region S_kconsts_ok (So.q rfl rfl (V.as (v := .p (.v (.int .i64 (0)))) rfl (So.e (HT.block ?_)))))))))
 refine R.loop (σ := Nat) (fun i => [(3, .p (.v (.int .i64 ((i : Int))))), (2, .p (.v (.int .i64 (((rT (7 * i) : Nat) : Int)))))]) (fun i => [(2, ⟨92, 1, 24, true, .rows (fun m => .u64 (lP (7 * i) m))⟩)]) [0, 1] [1] (fun i => i ≤ 24) (fun i => 24 - i) (0) (fr0 := [(0, .ptr 1 0), (1, .ptr 2 0)]) (O0 := [(1, ⟨_, _, _, _, .rows _⟩)]) rfl rfl (by first | rfl | omega | (intro j hj; rfl) | (simp; done) | (simp; omega)) ⟨⟨⟨le_int (by first | rfl | omega | (intro j hj; rfl) | (simp; done) | (simp; omega) | (intro m hm; exact congrArg PV.u64 (lP_0 m).symm)), trivial⟩, ⟨le_int (by first | rfl | omega | (intro j hj; rfl) | (simp; done) | (simp; omega) | (intro m hm; exact congrArg PV.u64 (lP_0 m).symm)), trivial⟩, ⟨.refl _, rfl⟩, ⟨.refl _, rfl⟩, trivial⟩, ⟨⟨_, rfl, .inr (ob_rows (by first | rfl | ((try dsimp only); first | rfl | omega | (intro j hj; rfl) | (simp; done) | (simp; omega) | (intro m hm; exact congrArg PV.u64 (lP_0 m).symm))) (by first | rfl | ((try dsimp only); first | rfl | omega | (intro j hj; rfl) | (simp; done) | (simp; omega) | (intro m hm; exact congrArg PV.u64 (lP_0 m).symm)))), trivial⟩, ⟨_, rfl, .inl rfl, trivial⟩, trivial⟩⟩ (fun i hP0 => ?_)
 refine HT.seq (HT.seq (HT.region S_kconsts_ok (So.q rfl rfl (V.mv (v := .p (.v (.int .i64 ((_ : Nat) : Int)))) rfl (So.q rfl rfl (V.bin (a := (.v (.int .i64 ((_ : Nat) : Int)))) (b := (.v (.int .i64 (24)))) (r := .v (.bool _)) rfl rfl rfl trivial (So.e ?_)))))))
 show HT _ _ _ _ _
 refine R.cond rfl rfl (fun h1 => ?_) (fun h1 => ?_)
 ·have h1 := of_decide_eq_true h1
  refine HT.skip (HT.seq (HT.block (HT.seq (HT.region S_kconsts_ok (So.q rfl rfl (V.as (v := .p (.v (.int .i64 (0)))) rfl (So.e (HT.block ?_))))))))
  refine R.loop (σ := Nat) (fun u => [(4, .p (.v (.int .i64 ((u : Int))))), (2, .p (.v (.int .i64 (((rT (7 * i + u) : Nat) : Int)))))]) (fun u => [(2, ⟨92, 1, 24, true, .rows (fun m => .u64 (lP (7 * i + u) m))⟩)]) [0, 1, 3] [1] (fun u => u ≤ 7) (fun u => 7 - u) (0) (fr0 := [(0, .ptr 1 0), (1, .ptr 2 0), (3, .p (.v (.int .i64 ((_ : Nat) : Int))))]) (O0 := [(1, ⟨_, _, _, _, .rows _⟩)]) rfl rfl (by first | rfl | omega | (intro j hj; rfl) | (simp; done) | (simp; omega)) ⟨⟨⟨le_int (by first | rfl | omega | (intro j hj; rfl) | (simp; done) | (simp; omega)), trivial⟩, ⟨le_int (by first | rfl | omega | (intro j hj; rfl) | (simp; done) | (simp; omega)), trivial⟩, ⟨.refl _, rfl⟩, ⟨.refl _, rfl⟩, ⟨.refl _, trivial⟩, trivial⟩, ⟨⟨_, rfl, .inr (ob_rows (by first | rfl | ((try dsimp only); first | rfl | omega | (intro j hj; rfl) | (simp; done) | (simp; omega))) (by first | rfl | ((try dsimp only); first | rfl | omega | (intro j hj; rfl) | (simp; done) | (simp; omega)))), trivial⟩, ⟨_, rfl, .inl rfl, trivial⟩, trivial⟩⟩ (fun u hP1 => ?_)
  refine HT.seq (HT.seq (HT.region S_kconsts_ok (So.q rfl rfl (V.mv (v := .p (.v (.int .i64 ((_ : Nat) : Int)))) rfl (So.q rfl rfl (V.bin (a := (.v (.int .i64 ((_ : Nat) : Int)))) (b := (.v (.int .i64 (7)))) (r := .v (.bool _)) rfl rfl rfl trivial (So.e ?_)))))))
  show HT _ _ _ _ _
  refine R.cond rfl rfl (fun h2 => ?_) (fun h2 => ?_)
  ·have h2 := of_decide_eq_true h2
   refine HT.skip (HT.seq (HT.block ?_))
   refine R.cut (True) [] [(2, ⟨92, 1, 24, true, .rows (fun m => .u64 (lP (7 * i + u + 1) m))⟩)] [0, 1, 2, 3, 4] [1] (fr0 := [(0, .ptr 1 0), (1, .ptr 2 0), (2, .p (.v (.int .i64 _))), (3, .p (.v (.int .i64 ((_ : Nat) : Int)))), (4, .p (.v (.int .i64 ((_ : Nat) : Int))))]) (O0 := [(1, ⟨_, _, _, _, .rows _⟩)]) rfl rfl ?_ (fun hphi => ?_)
   ·refine HT.seq ?_
    refine HT.region S_kconsts_ok (So.q rfl rfl (V.mv (v := .p (.v (.int .i64 _))) rfl (So.q rfl rfl (V.remI rfl rfl (by omega) (So.q rfl rfl (V.bin (a := (.v (.int .i64 _))) (b := (.v (.int .i64 (1)))) (r := .v (.bool _)) rfl rfl rfl trivial (So.e ?_)))))))
    show HT _ _ _ _ _
    refine R.cond rfl rfl (fun h3 => ?_) (fun h3 => ?_)
    ·have h3 := of_decide_eq_true h3
     refine HT.tail S_kconsts_ok mixed 10 (by kernel_rfl) (by kernel_rfl) ?_
     refine So.q rfl rfl (V.mv (v := .p (.v (.int .i64 ((_ : Nat) : Int)))) rfl (So.q rfl rfl (V.mv (v := .p (.v (.int .i64 ((_ : Nat) : Int)))) rfl (So.q rfl rfl (V.ixArrP10 (mi := i) ty92 ty66 rfl rfl rfl (by first | rfl | omega | (intro j hj; rfl) | (simp; done) | (simp; omega)) rfl (by omega) (by omega) (So.q rfl rfl (V.ldPtr ty66 rfl rfl rfl (by first | rfl | omega | (intro j hj; rfl) | (simp; done) | (simp; omega)) (v := .p (.u64 _)) rfl (So.q rfl rfl (V.mv (v := .p (.v (.int .i64 ((_ : Nat) : Int)))) rfl (So.q rfl rfl (V.bin (a := (.u64 1)) (b := (.v (.int .i64 ((_ : Nat) : Int)))) (r := .u64 _) rfl rfl rfl (by first | rfl | omega | (intro j hj; rfl) | (simp; done) | (simp; omega)) (So.q rfl rfl (V.bin (a := (.u64 _)) (b := (.u64 1)) (r := .u64 _) rfl rfl rfl trivial (So.q rfl rfl (V.bin (a := (.u64 1)) (b := (.u64 _)) (r := .u64 _) rfl rfl rfl (by first | rfl | omega | (intro j hj; rfl) | (simp; done) | (simp; omega)) (So.q rfl rfl (V.bin (a := (.u64 _)) (b := (.u64 _)) (r := .u64 _) rfl rfl rfl trivial (So.q rfl rfl (V.ixArrP10 (mi := i) ty92 ty66 rfl rfl rfl (by first | rfl | omega | (intro j hj; rfl) | (simp; done) | (simp; omega)) rfl (by omega) (by omega) ?_)))))))))))))))))))
     refine So.s (A.sto ty66 rfl rfl rfl (v := .p (.u64 _)) rfl trivial rfl (by first | rfl | omega | (intro j hj; rfl) | (simp; done) | (simp; omega)) (c' := .rows (fun m => .u64 (lP (7 * i + u + 1) m))) (congrArg (fun g => some (OC.rows g)) (funext fun j => by first | exact (apply_ite PV.u64 _ _ _).symm.trans (congrArg PV.u64 (lP_yes (by omega) (by omega) (by omega) _)) | (rw [← lP_yes (i := i) (j := u) (by omega) (by omega) (by omega) j]; split <;> rfl))) rfl (So.e ?_))
     exact ⟨by first | trivial | rfl | (intro m hm; rfl) | (intro m hm; exact congrArg PV.u64 (lP_no (by omega) (by omega) (by omega) m)), ⟨⟨⟨.refl _, rfl⟩, ⟨.refl _, rfl⟩, ⟨.refl _, trivial⟩, ⟨.refl _, trivial⟩, ⟨.refl _, trivial⟩, trivial⟩, ⟨⟨_, rfl, .inr (ob_rows (by first | rfl | ((try dsimp only); first | trivial | rfl | (intro m hm; rfl) | (intro m hm; exact congrArg PV.u64 (lP_no (by omega) (by omega) (by omega) m)))) (by first | rfl | ((try dsimp only); first | trivial | rfl | (intro m hm; rfl) | (intro m hm; exact congrArg PV.u64 (lP_no (by omega) (by omega) (by omega) m))))), trivial⟩, ⟨_, rfl, .inl rfl, trivial⟩, trivial⟩⟩⟩
    ·have h3 := of_decide_eq_false h3
     refine HT.skip ?_
     exact ⟨by first | trivial | rfl | (intro m hm; rfl) | (intro m hm; exact congrArg PV.u64 (lP_no (by omega) (by omega) (by omega) m)), ⟨⟨⟨.refl _, rfl⟩, ⟨.refl _, rfl⟩, ⟨.refl _, trivial⟩, ⟨.refl _, trivial⟩, ⟨.refl _, trivial⟩, trivial⟩, ⟨⟨_, rfl, .inr (ob_rows (by first | rfl | ((try dsimp only); first | trivial | rfl | (intro m hm; rfl) | (intro m hm; exact congrArg PV.u64 (lP_no (by omega) (by omega) (by omega) m)))) (by first | rfl | ((try dsimp only); first | trivial | rfl | (intro m hm; rfl) | (intro m hm; exact congrArg PV.u64 (lP_no (by omega) (by omega) (by omega) m))))), trivial⟩, ⟨_, rfl, .inl rfl, trivial⟩, trivial⟩⟩⟩
   ·refine HT.seq ?_
    refine HT.region S_kconsts_ok ?_
    have hrt := rT_b ⟨7 * i + u, by omega⟩
    simp only at hrt
    obtain ⟨hr1, hr2, hr3⟩ := hrt
    refine So.q rfl rfl (V.mv (v := .p (.v (.int .i64 _))) rfl (So.q rfl rfl (V.shlI (n := 1) (M := 2) rfl rfl rfl (by decide) (by omega) (So.q rfl rfl (V.as (v := .p (.v (.int .i64 _))) rfl (So.e (HT.seq (HT.region S_kconsts_ok (So.q rfl rfl (V.mv (v := .p (.v (.int .i64 _))) rfl (So.q rfl rfl (V.bin (a := (.v (.int .i64 _))) (b := (.v (.int .i64 (256)))) (r := .v (.bool _)) rfl rfl rfl trivial (So.e ?_)))))))))))))
    show HT _ _ _ _ _
    refine R.cond rfl rfl (fun h4 => ?_) (fun h4 => ?_)
    ·have h4 := of_decide_eq_true h4
     refine HT.region S_kconsts_ok (So.q rfl rfl (V.mv (v := .p (.v (.int .i64 _))) rfl (So.q rfl rfl (V.bin (a := (.v (.int .i64 _))) (b := (.v (.int .i64 (369)))) (r := .v (.int .i64 _)) rfl rfl rfl trivial (So.q rfl rfl (V.as (v := .p (.v (.int .i64 _))) rfl (So.e (HT.region S_kconsts_ok (So.q rfl rfl (V.mv (v := .p (.v (.int .i64 ((_ : Nat) : Int)))) rfl (So.q rfl rfl (V.addI rfl rfl (by omega) (So.q rfl rfl (V.as (v := .p (.v (.int .i64 _))) rfl (So.e ?_)))))))))))))))
     refine ⟨u + 1, by first | rfl | omega | (intro j hj; rfl) | (simp; done) | (simp; omega), by omega, ⟨⟨⟨le_int (by first | rfl | omega | (intro j hj; rfl) | (simp; done) | (simp; omega)), trivial⟩, ⟨le_int (by first | exact hr2 (by omega) | (have := hr3 (by omega); rw [show 7 * i + (u + 1) = 7 * i + u + 1 by omega]; omega)), trivial⟩, ⟨.refl _, rfl⟩, ⟨.refl _, rfl⟩, ⟨.refl _, trivial⟩, trivial⟩, ⟨⟨_, rfl, .inr (ob_rows (by first | rfl | ((try dsimp only); first | rfl | omega | (intro j hj; rfl) | (simp; done) | (simp; omega))) (by first | rfl | ((try dsimp only); first | rfl | omega | (intro j hj; rfl) | (simp; done) | (simp; omega)))), trivial⟩, ⟨_, rfl, .inl rfl, trivial⟩, trivial⟩⟩⟩
    ·have h4 := of_decide_eq_false h4
     refine HT.skip (HT.region S_kconsts_ok (So.q rfl rfl (V.mv (v := .p (.v (.int .i64 ((_ : Nat) : Int)))) rfl (So.q rfl rfl (V.addI rfl rfl (by omega) (So.q rfl rfl (V.as (v := .p (.v (.int .i64 _))) rfl (So.e ?_))))))))
     refine ⟨u + 1, by first | rfl | omega | (intro j hj; rfl) | (simp; done) | (simp; omega), by omega, ⟨⟨⟨le_int (by first | rfl | omega | (intro j hj; rfl) | (simp; done) | (simp; omega)), trivial⟩, ⟨le_int (by first | exact hr2 (by omega) | (have := hr3 (by omega); rw [show 7 * i + (u + 1) = 7 * i + u + 1 by omega]; omega)), trivial⟩, ⟨.refl _, rfl⟩, ⟨.refl _, rfl⟩, ⟨.refl _, trivial⟩, trivial⟩, ⟨⟨_, rfl, .inr (ob_rows (by first | rfl | ((try dsimp only); first | rfl | omega | (intro j hj; rfl) | (simp; done) | (simp; omega))) (by first | rfl | ((try dsimp only); first | rfl | omega | (intro j hj; rfl) | (simp; done) | (simp; omega)))), trivial⟩, ⟨_, rfl, .inl rfl, trivial⟩, trivial⟩⟩⟩
  ·have h2 := of_decide_eq_false h2
   refine HT.exit ?_
   show HT _ _ _ _ _
   refine HT.region S_kconsts_ok (So.q rfl rfl (V.mv (v := .p (.v (.int .i64 ((_ : Nat) : Int)))) rfl (So.q rfl rfl (V.addI rfl rfl (by omega) (So.q rfl rfl (V.as (v := .p (.v (.int .i64 _))) rfl (So.e ?_)))))))
   refine ⟨i + 1, by first | rfl | omega | (intro j hj; rfl) | (simp; done) | (simp; omega), by omega, ⟨⟨⟨le_int (by first | rfl | omega | (intro j hj; rfl) | (simp; done) | (simp; omega)), trivial⟩, ⟨le_int (by rw [show 7 * (i + 1) = 7 * i + u by omega]), trivial⟩, ⟨.refl _, rfl⟩, ⟨.refl _, rfl⟩, trivial⟩, ⟨⟨_, rfl, .inr (ob_rows (by first | rfl | ((try dsimp only); (intro m hm; rw [show 7 * (i + 1) = 7 * i + u by omega]))) (by first | rfl | ((try dsimp only); (intro m hm; rw [show 7 * (i + 1) = 7 * i + u by omega])))), trivial⟩, ⟨_, rfl, .inl rfl, trivial⟩, trivial⟩⟩⟩
 ·have h1 := of_decide_eq_false h1
  refine HT.exit ?_
  show HT _ _ _ _ _
  refine HT.seq (HT.region S_kconsts_ok (So.q rfl rfl (V.ldPtrA ty92 rfl rfl rfl rfl (lk rfl) (So.s (A.stoAg ty92 rfl (n := 24) rfl (by decide) (by intro j hj; first | rfl | trivial) rfl rfl rfl (So.e ?_))))))
  show HT _ _ _ _ _
  refine HT.ret ?_
  exact retC_ok (sg []) [(0, .ptr 1 0)] [(1, ⟨92, 1, 24, true, .rows (fun j => .u64 (constL.getD j 0))⟩)] h ⟨⟨⟨.refl _, rfl⟩, trivial⟩, ⟨⟨_, rfl, .inr (ob_rowsL (by intro m hm; replace hP0 : i = 24 := (by omega); subst hP0; simp only [Nat.zero_add]; rw [lP_end m hm]; exact .refl _)), trivial⟩, trivial⟩⟩ ⟨rvA_cell ty92 rfl rfl rfl rfl (Nat.le_refl _) (le_agg (fun j _ => by first | rfl | (dsimp only; rw [Nat.zero_add]))), trivial⟩ trivial rfl trivial ⟨trivial, trivial⟩ rfl
end Go.Vh
