/- What is proved: each function of the seat's program does what its contract says, wherever it is called; no condition. -/
import Derived.Test.YtmlkellnophlaaaDoorWalk0
import Derived.Test.YtmlkellnophlaaaDoorWalk1
set_option linter.unusedVariables false
set_option linter.unusedSimpArgs false
set_option linter.unusedVariables false
set_option linter.unusedSimpArgs false
namespace Go.Vh
open Go Go.Vc Go.Proofs Go.Vw

/-! ### sodality/sodalityref03.Expand -/
def rexpandSp : Sp := ⟨[], mkE (α := (List UInt8) × (List UInt8) × Int) (fun (k, i, n) => [.p (.bs (k)), .p (.bs (i)), .p (.v (.int .i64 (n)))]) (fun (k, i, n) => []) (fun (k, i, n) => k.length ≤ 1000000000 ∧ i.length ≤ 900000000) (fun (k, i, n) => [.own 2 (0) ((expandN k i n).length)]) (fun (k, i, n) => [(2, ⟨5, 1, (expandN k i n).length, true, .bs (expandN k i n)⟩)])⟩
def S_rexpand : FuncId → Option Sp := fun f => if f = 41 then some rmacSp else none
theorem S_rexpand_ok : ∀ f s, S_rexpand f = some s → FOK Tryd.prog gl f s := fun f s h => by
  unfold S_rexpand at h
  split at h
  · rename_i e; cases h; subst e; exact rmac_ok
  cases h
theorem S_rexpand_det : ∀ f s, S_rexpand f = some s → SpDet s.sp := fun f s h => by
  unfold S_rexpand at h
  split at h
  · cases h; exact mkE_det _ _ _ _ _
  cases h
set_option maxHeartbeats 1000000 in
set_option maxRecDepth 20000 in
theorem rexpand_ok : FOK Tryd.prog gl 40 rexpandSp := by
  refine FOK.ofE (tyOf_ok Tryd.prog) (slots := [6]) (nt := 41) Tryd.func40 rfl rfl rfl rfl (by decide) 3 (fun ⟨_, _, _⟩ => rfl) (by decide) (fun ⟨_, _, _⟩ => ⟨trivial, trivial, trivial, trivial⟩) ?_
  rintro ⟨k, i, n⟩ kk hlen hpre h
  have hl0 : (k).length ≤ 9223372036854775807 := hlen.1
  have hl1 : (i).length ≤ 9223372036854775807 := hlen.2.1
  replace hpre : k.length ≤ 1000000000 ∧ i.length ≤ 900000000 := hpre
  show HT (cx Tryd.prog 41 (tyOf Tryd.prog) gl []) _ [(0, .p (.bs (k))), (1, .p (.bs (i))), (2, .p (.v (.int .i64 (n))))] [] _
  refine HT.seq ?_
  refine HT.region S_rexpand_ok ?_
  refine So.n (lk rfl) (A.v rfl (V.as (v := .p (.v (.slice none 0 0))) rfl ?_))
  refine So.e ?_
  show HT _ _ _ _ _
  refine HT.seq ?_
  refine HT.seq ?_
  refine HT.region S_rexpand_ok ?_
  refine So.n (lk rfl) (A.v rfl (V.mv (v := .p (.v (.int .i64 _))) rfl ?_))
  refine So.n (lk rfl) (A.v rfl (V.bin (a := (.v (.int .i64 _))) (b := (.v (.int .i64 (0)))) (r := .v (.bool _)) rfl rfl rfl trivial ?_))
  refine So.n (lk rfl) (A.v rfl (V.mv (v := .p (.v (.bool _))) rfl ?_))
  refine So.gd rfl rfl (lk rfl) (lk rfl) (fun h1 => ?_) (fun h1 => ?_)
  · have h1 := of_decide_eq_false h1
    refine A.v rfl (V.mv (v := .p (.v (.int .i64 _))) rfl ?_)
    refine So.gy rfl rfl (lk rfl) (lk rfl) ?_
    refine A.v rfl (V.bin (a := (.v (.int .i64 _))) (b := (.v (.int .i64 (8160)))) (r := .v (.bool _)) rfl rfl rfl trivial ?_)
    refine So.n (lk rfl) (A.v rfl (V.pkFalse (u := .p (.v (.bool _))) rfl rfl ?_))
    refine So.e ?_
    show HT _ _ _ _ _
    refine R.cond rfl rfl (fun h2 => ?_) (fun h2 => ?_)
    · have h2 := of_decide_eq_true h2
      refine HT.seq ?_
      refine HT.region S_rexpand_ok ?_
      refine So.n (lk rfl) (A.v rfl (V.as (v := .p (.v (.slice none 0 0))) rfl ?_))
      refine So.e ?_
      show HT _ _ _ _ _
      refine R.phan 6 1 5 1 (.bs []) rfl rfl rfl ⟨rfl, rfl⟩ ?_
      refine HT.ret ?_
      exact ret_ok (sg [(2, 1)]) h rfl rfl rfl ⟨trivial, trivial⟩ ⟨rfl, trivial⟩ rfl ⟨⟨⟨le_own2 (by first | rfl | omega) (by first | (show (_ : Nat) = _; first | (rw [expandN_no (by omega)]; rfl) | rfl) | (show (_ : List UInt8) = _; first | (rw [expandN_no (by omega)]; done) | rfl) | rfl), rfl⟩, trivial⟩, ⟨⟨_, rfl, .inl (ob_bs (by first | rfl | ((try dsimp only); (first | (show (_ : Nat) = _; first | (rw [expandN_no (by omega)]; rfl) | rfl) | (show (_ : List UInt8) = _; first | (rw [expandN_no (by omega)]; done) | rfl) | rfl))) (by first | rfl | ((try dsimp only); (first | (show (_ : Nat) = _; first | (rw [expandN_no (by omega)]; rfl) | rfl) | (show (_ : List UInt8) = _; first | (rw [expandN_no (by omega)]; done) | rfl) | rfl)))), trivial⟩, trivial⟩⟩
    · have h2 := of_decide_eq_false h2
      refine HT.skip ?_
      show HT _ _ _ _ _
      refine HT.seq ?_
      refine HT.region S_rexpand_ok ?_
      refine So.n (lk rfl) (A.v rfl (V.as (v := .p (.v (.slice none 0 0))) rfl ?_))
      refine So.e ?_
      show HT _ _ _ _ _
      refine HT.seq ?_
      refine HT.region S_rexpand_ok ?_
      refine So.n (lk rfl) (A.v rfl (V.as (v := .p (.v (.slice none 0 0))) rfl ?_))
      refine So.e ?_
      show HT _ _ _ _ _
      refine HT.seq ?_
      refine HT.seq ?_
      refine HT.region S_rexpand_ok ?_
      refine So.n (lk rfl) (A.v rfl (V.as (v := .p (.v (.int .i64 (1)))) rfl ?_))
      refine So.e ?_
      show HT _ _ _ _ _
      refine HT.block ?_
      refine R.phan 7 7 5 1 (.bs []) rfl rfl rfl ⟨rfl, rfl⟩ ?_
      refine R.loop (σ := Nat) (fun s => [(7, .own 7 (0) (32 * s)), (8, .p (.bs (tN k i s))), (9, .p (.v (.int .i64 ((s : Int) + 1))))]) (fun s => [(7, ⟨5, 1, 32 * s, true, .bs (okm k i s)⟩)]) [0, 1, 2, 6] [] (fun s => 32 * (s : Int) < n + 32) (fun s => n.toNat + 32 - 32 * s) (0) (fr0 := [(0, .p (.bs _)), (1, .p (.bs _)), (2, .p (.v (.int .i64 _))), (6, .p (.v (.slice none 0 0)))]) (O0 := []) rfl rfl (by first | rfl | omega | (simp; done) | (simp; omega)) ⟨⟨⟨le_own2 (by first | rfl | omega) (by first | rfl | omega), rfl⟩, ⟨le_nil (by first | rfl | omega), trivial⟩, ⟨le_int (by first | rfl | omega), trivial⟩, ⟨.refl _, trivial⟩, ⟨.refl _, trivial⟩, ⟨.refl _, trivial⟩, ⟨.refl _, trivial⟩, trivial⟩, ⟨⟨_, rfl, .inl (ob_bs (by first | rfl | ((try dsimp only); first | rfl | omega)) (by first | rfl | ((try dsimp only); first | rfl | omega))), trivial⟩, trivial⟩⟩ (fun s hP0 => ?_)
      refine HT.seq ?_
      refine HT.seq ?_
      refine HT.region S_rexpand_ok ?_
      refine So.n (lk rfl) (A.v rfl (V.mv (v := .own 7 0 _) rfl ?_))
      refine So.n (lk rfl) (A.v rfl (V.len ty22 (v := .own 7 0 _) rfl rfl ?_))
      refine So.n (lk rfl) (A.v rfl (V.mv (v := .p (.v (.int .i64 _))) rfl ?_))
      refine So.n (lk rfl) (A.v rfl (V.bin (a := (.v (.int .i64 _))) (b := (.v (.int .i64 _))) (r := .v (.bool _)) rfl rfl rfl trivial ?_))
      refine So.e ?_
      show HT _ _ _ _ _
      refine R.cond rfl rfl (fun h3 => ?_) (fun h3 => ?_)
      · have h3 := of_decide_eq_true h3
        refine HT.skip ?_
        show HT _ _ _ _ _
        refine HT.seq ?_
        refine HT.block ?_
        refine HT.seq ?_
        refine HT.region S_rexpand_ok ?_
        have hcl := cat3_len (tN k i s) i (UInt8.ofInt ((s : Int) + 1))
        have htl0 := tN_le k i s
        have htl := tN_len k i s
        refine So.n (lk rfl) (A.v rfl (V.mv (v := .p (.bs _)) rfl ?_))
        refine So.n (lk rfl) (A.bsl 8 ty22 ty5 rfl (lk rfl) (lk rfl) (fun _ => rfl) rfl rfl trivial trivial rfl (N := 0) rfl (c := .bs []) rfl ?_)
        refine So.n (lk rfl) (A.v rfl (V.mv (v := .p (.bs _)) rfl ?_))
        refine So.n (lk rfl) (A.apOwn ty22 ty5 rfl rfl rfl rfl (u := .p (.bs _)) rfl rfl (l' := tN k i s) (by simp) (mn := (tN k i s).length) (by simp) (by first | rfl | omega | (simp; done) | (simp; omega)) rfl rfl rfl ?_)
        refine So.n (lk rfl) (A.v rfl (V.mv (v := .p (.bs _)) rfl ?_))
        refine So.n (lk rfl) (A.apOwn ty22 ty5 rfl rfl rfl rfl (u := .p (.bs _)) rfl rfl (l' := tN k i s ++ i) (by simp) (mn := (tN k i s).length + i.length) (by simp) (by first | rfl | omega | (simp; done) | (simp; omega)) rfl rfl rfl ?_)
        refine So.n (lk rfl) (A.v rfl (V.mv (v := .p (.v (.int .i64 _))) rfl ?_))
        refine So.n (lk rfl) (A.v rfl (V.cvN ty5 ty3 (a := (.v (.int .i64 _))) (r := (.u8 _)) rfl rfl ?_))
        refine So.n (lk rfl) (A.bsl 9 ty22 ty5 rfl (lk rfl) (lk rfl) (fun _ => rfl) rfl rfl trivial ⟨trivial, trivial⟩ rfl (N := 1) rfl (c := .bs [_]) rfl ?_)
        refine So.n (lk rfl) (A.apOwn ty22 ty5 rfl rfl rfl rfl (u := .own 9 0 _) rfl rfl (l' := (cat [tN k i s, i, [UInt8.ofInt ((s : Int) + 1)]])) (by rw [ap_full (by simp)]; simp [cat]) (mn := (cat [tN k i s, i, [UInt8.ofInt ((s : Int) + 1)]]).length) (by rw [hcl]) (by first | rfl | omega | (simp; done) | (simp; omega)) rfl rfl rfl ?_)
        refine So.n (lk rfl) (A.call0F S_rexpand_ok [.p (.bs _), .p (.bs _)] 10 rfl rfl rfl rfl ⟨trivial, trivial, trivial⟩ trivial (k, (cat [tN k i s, i, [UInt8.ofInt ((s : Int) + 1)]])) ⟨.refl _, le_bs (take_full _), trivial⟩ trivial (by first | omega | (simp only [List.drop_zero, List.take_length]; omega) | (simp; done) | (simp; omega)) (Φ := fun _ => True) (fun _ _ => trivial) (.inr ⟨trivial, by simp [Hp.scal, OC.scal, PV.scal, BV.scal]⟩) (t := 12) (off := 0) rfl (O' := (12, ⟨5, 1, _, true, .bs _⟩) :: _) rfl rfl rfl (y := .p (.bs _)) rfl rfl (fun h4 => ?_))
        refine So.n (lk rfl) (A.v rfl (V.as (v := .p (.bs _)) rfl ?_))
        refine So.e ?_
        show HT _ _ _ _ _
        refine R.tell [(8, .p (.bs (tN k i (s + 1))))] [] [0, 1, 2, 6, 7, 9, 16, 17, 18, 19, 22, 24, 26, 28, 29, 30, 31, 32] [7, 8, 9] (fr0 := [(0, .p (.bs _)), (1, .p (.bs _)), (2, .p (.v (.int .i64 _))), (6, .p (.v (.slice none 0 0))), (7, .own 7 0 _), (9, .p (.v (.int .i64 _))), (16, .own 7 0 _), (17, .p (.v (.int .i64 _))), (18, .p (.v (.int .i64 _))), (19, .p (.v (.bool true))), (22, .p (.bs _)), (24, .p (.bs _)), (26, .p (.bs _)), (28, .p (.v (.int .i64 _))), (29, .p (.u8 _)), (30, .own 9 0 _), (31, .own 8 0 _), (32, .p (.bs _))]) (O0 := [(7, ⟨_, _, _, _, .bs _⟩), (8, ⟨_, _, _, _, .bs _⟩), (9, ⟨_, _, _, _, .bs _⟩)]) rfl rfl ⟨⟨⟨le_bs (by first | rfl | (rw [List.drop_zero, List.take_of_length_le (by rw [mac_len]; omega)]; rfl)), trivial⟩, ⟨.refl _, trivial⟩, ⟨.refl _, trivial⟩, ⟨.refl _, trivial⟩, ⟨.refl _, trivial⟩, ⟨.refl _, rfl⟩, ⟨.refl _, trivial⟩, ⟨.refl _, rfl⟩, ⟨.refl _, trivial⟩, ⟨.refl _, trivial⟩, ⟨.refl _, trivial⟩, ⟨.refl _, trivial⟩, ⟨.refl _, trivial⟩, ⟨.refl _, trivial⟩, ⟨.refl _, trivial⟩, ⟨.refl _, trivial⟩, ⟨.refl _, rfl⟩, ⟨.refl _, rfl⟩, ⟨.refl _, trivial⟩, trivial⟩, ⟨⟨_, rfl, .inl rfl, trivial⟩, ⟨_, rfl, .inl rfl, trivial⟩, ⟨_, rfl, .inl rfl, trivial⟩, trivial⟩⟩ ?_
        show HT _ _ _ _ _
        refine HT.region S_rexpand_ok ?_
        refine So.n (lk rfl) (A.v rfl (V.mv (v := .own 7 0 _) rfl ?_))
        refine So.n (lk rfl) (A.v rfl (V.mv (v := .p (.bs _)) rfl ?_))
        refine So.n (lk rfl) (A.apOwn ty22 ty5 rfl rfl rfl rfl (u := .p (.bs _)) rfl rfl (l' := okm k i (s + 1)) (by rw [ap_full (by rw [okm_len]; exact Nat.le_refl _)]; rfl) (mn := 32 * (s + 1)) (by first | omega | (rw [tN_len]; omega)) (by first | rfl | omega | (simp; done) | (simp; omega)) rfl rfl rfl ?_)
        refine So.n (lk rfl) (A.v rfl (V.as (v := .own 7 0 _) rfl ?_))
        refine So.e ?_
        show HT _ _ _ _ _
        refine HT.region S_rexpand_ok ?_
        refine So.n (lk rfl) (A.v rfl (V.mv (v := .p (.v (.int .i64 _))) rfl ?_))
        refine So.n (lk rfl) (A.v rfl (V.addI rfl rfl (by omega) ?_))
        refine So.n (lk rfl) (A.v rfl (V.as (v := .p (.v (.int .i64 _))) rfl ?_))
        refine So.e ?_
        refine ⟨s + 1, by first | rfl | omega | (simp; done) | (simp; omega), by omega, ⟨⟨⟨le_own2 (by first | rfl | omega) (by first | rfl | omega | (simp; done) | (simp; omega)), rfl⟩, ⟨le_bs (by first | rfl | omega | (simp; done) | (simp; omega)), trivial⟩, ⟨le_int (by first | rfl | omega | (simp; done) | (simp; omega)), trivial⟩, ⟨.refl _, trivial⟩, ⟨.refl _, trivial⟩, ⟨.refl _, trivial⟩, ⟨.refl _, trivial⟩, trivial⟩, ⟨⟨_, rfl, .inl (ob_bs (by first | rfl | ((try dsimp only); first | rfl | omega | (simp; done) | (simp; omega))) (by first | rfl | ((try dsimp only); first | rfl | omega | (simp; done) | (simp; omega)))), trivial⟩, trivial⟩⟩⟩
      · have h3 := of_decide_eq_false h3
        refine HT.exit ?_
        show HT _ _ _ _ _
        refine HT.seq ?_
        refine HT.region S_rexpand_ok ?_
        have hol := okm_len k i s
        have hen := expandN_len (k := k) (i := i) (n := n) (by omega) (by omega)
        refine So.n (lk rfl) (A.bsl 8 ty22 ty5 rfl (lk rfl) (lk rfl) (fun _ => rfl) rfl rfl trivial trivial rfl (N := 0) rfl (c := .bs []) rfl ?_)
        refine So.n (lk rfl) (A.v rfl (V.mv (v := .own 7 0 _) rfl ?_))
        refine So.n (lk rfl) (A.v rfl (V.mv (v := .p (.v (.int .i64 _))) rfl ?_))
        refine So.n (lk rfl) (A.v rfl (V.cutOwnH ty22 ty5 rfl rfl rfl rfl (by omega) (.inl rfl) rfl ?_))
        refine So.n (lk rfl) (A.apOwn ty22 ty5 rfl rfl rfl rfl (u := .own 7 0 _) rfl rfl (l' := expandN k i n) (by rw [List.take_zero, List.nil_append, List.drop_zero]; exact okm_get (by omega) (by omega) (by omega) (by omega)) (mn := (expandN k i n).length) (by first | rfl | omega | (rw [hen]; simp; done) | (rw [hen]; simp; omega)) (by first | rfl | omega | (simp; done) | (simp; omega)) rfl rfl rfl ?_)
        refine So.n (lk rfl) (A.v rfl (V.as (v := .own 8 0 _) rfl ?_))
        refine So.e ?_
        show HT _ _ _ _ _
        refine HT.ret ?_
        exact ret_ok (sg [(2, 8)]) h rfl rfl rfl ⟨trivial, trivial⟩ ⟨rfl, trivial⟩ rfl ⟨⟨⟨le_own2 (by first | rfl | omega) (by first | (show (_ : Nat) = _; first | (rw [expandN_no (by omega)]; rfl) | rfl) | (show (_ : List UInt8) = _; first | (rw [expandN_no (by omega)]; done) | rfl) | rfl), rfl⟩, trivial⟩, ⟨⟨_, rfl, .inl (ob_bs (by first | rfl | ((try dsimp only); (first | (show (_ : Nat) = _; first | (rw [expandN_no (by omega)]; rfl) | rfl) | (show (_ : List UInt8) = _; first | (rw [expandN_no (by omega)]; done) | rfl) | rfl))) (by first | rfl | ((try dsimp only); (first | (show (_ : Nat) = _; first | (rw [expandN_no (by omega)]; rfl) | rfl) | (show (_ : List UInt8) = _; first | (rw [expandN_no (by omega)]; done) | rfl) | rfl)))), trivial⟩, trivial⟩⟩
  · have h1 := of_decide_eq_true h1
    refine So.gn (b := true) rfl rfl rfl (lk rfl) (lk rfl) ?_
    refine So.n (lk rfl) (A.v rfl (V.pkTrue (u := .p (.v (.bool true))) rfl rfl ?_))
    refine So.e ?_
    show HT _ _ _ _ _
    refine R.condT rfl ?_
    refine HT.seq ?_
    refine HT.region S_rexpand_ok ?_
    refine So.n (lk rfl) (A.v rfl (V.as (v := .p (.v (.slice none 0 0))) rfl ?_))
    refine So.e ?_
    show HT _ _ _ _ _
    refine R.phan 6 1 5 1 (.bs []) rfl rfl rfl ⟨rfl, rfl⟩ ?_
    refine HT.ret ?_
    exact ret_ok (sg [(2, 1)]) h rfl rfl rfl ⟨trivial, trivial⟩ ⟨rfl, trivial⟩ rfl ⟨⟨⟨le_own2 (by first | rfl | omega) (by first | (show (_ : Nat) = _; first | (rw [expandN_no (by omega)]; rfl) | rfl) | (show (_ : List UInt8) = _; first | (rw [expandN_no (by omega)]; done) | rfl) | rfl), rfl⟩, trivial⟩, ⟨⟨_, rfl, .inl (ob_bs (by first | rfl | ((try dsimp only); (first | (show (_ : Nat) = _; first | (rw [expandN_no (by omega)]; rfl) | rfl) | (show (_ : List UInt8) = _; first | (rw [expandN_no (by omega)]; done) | rfl) | rfl))) (by first | rfl | ((try dsimp only); (first | (show (_ : Nat) = _; first | (rw [expandN_no (by omega)]; rfl) | rfl) | (show (_ : List UInt8) = _; first | (rw [expandN_no (by omega)]; done) | rfl) | rfl)))), trivial⟩, trivial⟩⟩

end Go.Vh

set_option linter.unusedVariables false
set_option linter.unusedSimpArgs false
namespace Go.Vh
open Go Go.Vc Go.Proofs Go.Vw

/-! ### sodality/sodalityref03.Label -/
def rlabelSp : Sp := ⟨[], mkE (α := (List UInt8) × (List UInt8) × (List UInt8) × Int) (fun (k, m, c, n) => [.p (.bs (k)), .p (.str (m)), .p (.bs (c)), .p (.v (.int .i64 (n)))]) (fun (k, m, c, n) => []) (fun (k, m, c, n) => k.length ≤ 1000000000) (fun (k, m, c, n) => [.own 2 (0) ((labelF k m c n).length)]) (fun (k, m, c, n) => [(2, ⟨5, 1, (labelF k m c n).length, true, .bs (labelF k m c n)⟩)])⟩
def S_rlabel : FuncId → Option Sp := fun f => if f = 39 then some rinfoSp else if f = 40 then some rexpandSp else none
theorem S_rlabel_ok : ∀ f s, S_rlabel f = some s → FOK Tryd.prog gl f s := fun f s h => by
  unfold S_rlabel at h
  split at h
  · rename_i e; cases h; subst e; exact rinfo_ok
  split at h
  · rename_i e; cases h; subst e; exact rexpand_ok
  cases h
theorem S_rlabel_det : ∀ f s, S_rlabel f = some s → SpDet s.sp := fun f s h => by
  unfold S_rlabel at h
  split at h
  · cases h; exact mkE_det _ _ _ _ _
  split at h
  · cases h; exact mkE_det _ _ _ _ _
  cases h
set_option maxHeartbeats 1000000 in
set_option maxRecDepth 20000 in
theorem rlabel_ok : FOK Tryd.prog gl 25 rlabelSp := by
  refine FOK.ofE (tyOf_ok Tryd.prog) (slots := [8]) (nt := 21) Tryd.func25 rfl rfl rfl rfl (by decide) 4 (fun ⟨_, _, _, _⟩ => rfl) (by decide) (fun ⟨_, _, _, _⟩ => ⟨trivial, trivial, trivial, trivial, trivial⟩) ?_
  rintro ⟨k, m, c, n⟩ kk hlen hpre h
  have hl0 : (k).length ≤ 9223372036854775807 := hlen.1
  have hl2 : (c).length ≤ 9223372036854775807 := hlen.2.2.1
  replace hpre : k.length ≤ 1000000000 := hpre
  show HT (cx Tryd.prog 21 (tyOf Tryd.prog) gl []) _ [(0, .p (.bs (k))), (1, .p (.str (m))), (2, .p (.bs (c))), (3, .p (.v (.int .i64 (n))))] [] _
  have hil := infoF_len m c n
  refine HT.seq ?_
  refine HT.region S_rlabel_ok ?_
  refine So.n (lk rfl) (A.v rfl (V.as (v := .p (.v (.slice none 0 0))) rfl ?_))
  refine So.e ?_
  show HT _ _ _ _ _
  refine HT.seq ?_
  refine HT.region S_rlabel_ok ?_
  refine So.n (lk rfl) (A.v rfl (V.mv (v := .p (.str _)) rfl ?_))
  refine So.n (lk rfl) (A.v rfl (V.mv (v := .p (.bs _)) rfl ?_))
  refine So.n (lk rfl) (A.v rfl (V.mv (v := .p (.v (.int .i64 _))) rfl ?_))
  refine So.n (lk rfl) (A.call0 [.p (.str _), .p (.bs _), .p (.v (.int .i64 _))] 1 rfl rfl rfl rfl ⟨trivial, trivial, trivial, trivial⟩ trivial (_, _, _) ⟨.refl _, .refl _, .refl _, trivial⟩ trivial (by trivial) (Φ := fun _ => True) (fun _ _ => trivial) (.inl rfl) (v := .own 3 0 _) rfl (O' := (3, ⟨5, 1, _, true, .bs _⟩) :: _) rfl (fun h1 => ?_))
  refine So.n (lk rfl) (A.v rfl (V.as (v := .own 3 0 _) rfl ?_))
  refine So.e ?_
  show HT _ _ _ _ _
  refine HT.seq ?_
  refine HT.seq ?_
  refine HT.region S_rlabel_ok ?_
  refine So.n (lk rfl) (A.v rfl (V.mv (v := .own 3 0 _) rfl ?_))
  refine So.n (lk rfl) (A.v rfl (V.len ty22 (v := .own 3 0 _) rfl rfl ?_))
  refine So.n (lk rfl) (A.v rfl (V.bin (a := (.v (.int .i64 _))) (b := (.v (.int .i64 (0)))) (r := .v (.bool _)) rfl rfl rfl trivial ?_))
  refine So.e ?_
  show HT _ _ _ _ _
  refine R.cond rfl rfl (fun h2 => ?_) (fun h2 => ?_)
  · have h2 := of_decide_eq_true h2
    refine HT.seq ?_
    refine HT.region S_rlabel_ok ?_
    refine So.n (lk rfl) (A.v rfl (V.as (v := .p (.v (.slice none 0 0))) rfl ?_))
    refine So.e ?_
    show HT _ _ _ _ _
    refine R.phan 8 4 5 1 (.bs []) rfl rfl rfl ⟨rfl, rfl⟩ ?_
    refine HT.ret ?_
    exact ret_ok (sg [(2, 4)]) h rfl rfl rfl ⟨trivial, trivial⟩ ⟨rfl, trivial⟩ rfl ⟨⟨⟨le_own2 (by first | rfl | omega) (by first | (show (_ : Nat) = _; first | (rw [infoF_nil (by omega)]; rfl) | (rw [infoF_some (by omega)])) | (show (_ : List UInt8) = _; first | (rw [infoF_nil (by omega)]; done) | (rw [infoF_some (by omega)])) | rfl), rfl⟩, trivial⟩, ⟨⟨_, rfl, .inl (ob_bs (by first | rfl | ((try dsimp only); (first | (show (_ : Nat) = _; first | (rw [infoF_nil (by omega)]; rfl) | (rw [infoF_some (by omega)])) | (show (_ : List UInt8) = _; first | (rw [infoF_nil (by omega)]; done) | (rw [infoF_some (by omega)])) | rfl))) (by first | rfl | ((try dsimp only); (first | (show (_ : Nat) = _; first | (rw [infoF_nil (by omega)]; rfl) | (rw [infoF_some (by omega)])) | (show (_ : List UInt8) = _; first | (rw [infoF_nil (by omega)]; done) | (rw [infoF_some (by omega)])) | rfl)))), trivial⟩, trivial⟩⟩
  · have h2 := of_decide_eq_false h2
    refine HT.skip ?_
    show HT _ _ _ _ _
    refine HT.seq ?_
    refine HT.region S_rlabel_ok ?_
    refine So.n (lk rfl) (A.v rfl (V.mv (v := .p (.bs _)) rfl ?_))
    refine So.n (lk rfl) (A.v rfl (V.mv (v := .own 3 0 _) rfl ?_))
    refine So.n (lk rfl) (A.v rfl (V.mv (v := .p (.v (.int .i64 _))) rfl ?_))
    refine So.n (lk rfl) (A.call0 [.p (.bs _), .p (.bs _), .p (.v (.int .i64 _))] 4 rfl rfl rfl rfl ⟨trivial, trivial, trivial, trivial⟩ trivial (k, infoF m c n, n) ⟨.refl _, le_bs (take_full _), .refl _, trivial⟩ trivial (by first | omega | (simp only [List.drop_zero, List.take_length]; omega) | (simp; done) | (simp; omega)) (Φ := fun _ => True) (fun _ _ => trivial) (.inr ⟨trivial, by simp [Hp.scal, OC.scal, PV.scal, BV.scal]⟩) (v := .own 6 0 _) rfl (O' := (6, ⟨5, 1, _, true, .bs _⟩) :: _) rfl (fun h3 => ?_))
    refine So.n (lk rfl) (A.v rfl (V.as (v := .own 6 0 _) rfl ?_))
    refine So.e ?_
    show HT _ _ _ _ _
    refine HT.ret ?_
    exact ret_ok (sg [(2, 6)]) h rfl rfl rfl ⟨trivial, trivial⟩ ⟨rfl, trivial⟩ rfl ⟨⟨⟨le_own2 (by first | rfl | omega) (by first | (show (_ : Nat) = _; first | (rw [infoF_nil (by omega)]; rfl) | (rw [infoF_some (by omega)])) | (show (_ : List UInt8) = _; first | (rw [infoF_nil (by omega)]; done) | (rw [infoF_some (by omega)])) | rfl), rfl⟩, trivial⟩, ⟨⟨_, rfl, .inl (ob_bs (by first | rfl | ((try dsimp only); (first | (show (_ : Nat) = _; first | (rw [infoF_nil (by omega)]; rfl) | (rw [infoF_some (by omega)])) | (show (_ : List UInt8) = _; first | (rw [infoF_nil (by omega)]; done) | (rw [infoF_some (by omega)])) | rfl))) (by first | rfl | ((try dsimp only); (first | (show (_ : Nat) = _; first | (rw [infoF_nil (by omega)]; rfl) | (rw [infoF_some (by omega)])) | (show (_ : List UInt8) = _; first | (rw [infoF_nil (by omega)]; done) | (rw [infoF_some (by omega)])) | rfl)))), trivial⟩, trivial⟩⟩

end Go.Vh

set_option linter.unusedVariables false
set_option linter.unusedSimpArgs false
namespace Go.Vh
open Go Go.Vc Go.Proofs Go.Vw

/-! ### sodality/sodalityref16.Joiner -/
def rjoinerSp : Sp := ⟨[], mkE (α := (List UInt8) × (List UInt8) × (List UInt8)) (fun (a, c, x) => [.p (.bs (a)), .p (.bs (c)), .p (.bs (x))]) (fun (a, c, x) => []) (fun (a, c, x) => a.length ≤ 1000000000 ∧ c.length ≤ 1000000000 ∧ x.length ≤ 1000000000) (fun (a, c, x) => [.own 2 (0) ((joinF a c x).length)]) (fun (a, c, x) => [(2, ⟨5, 1, (joinF a c x).length, true, .bs (joinF a c x)⟩)])⟩
def S_rjoiner : FuncId → Option Sp := fun f => if f = 27 then some rshortSp else if f = 26 then some rextractSp else if f = 25 then some rlabelSp else none
theorem S_rjoiner_ok : ∀ f s, S_rjoiner f = some s → FOK Tryd.prog gl f s := fun f s h => by
  unfold S_rjoiner at h
  split at h
  · rename_i e; cases h; subst e; exact rshort_ok
  split at h
  · rename_i e; cases h; subst e; exact rextract_ok
  split at h
  · rename_i e; cases h; subst e; exact rlabel_ok
  cases h
theorem S_rjoiner_det : ∀ f s, S_rjoiner f = some s → SpDet s.sp := fun f s h => by
  unfold S_rjoiner at h
  split at h
  · cases h; exact mkE_det _ _ _ _ _
  split at h
  · cases h; exact mkE_det _ _ _ _ _
  split at h
  · cases h; exact mkE_det _ _ _ _ _
  cases h
set_option maxHeartbeats 1000000 in
set_option maxRecDepth 1000 in
theorem rjoiner_ok : FOK Tryd.prog gl 11 rjoinerSp := by
  refine FOK.ofE (tyOf_ok Tryd.prog) (slots := [6]) (nt := 15) Tryd.func11 rfl rfl rfl rfl (by decide) 3 (fun ⟨_, _, _⟩ => rfl) (by decide) (fun ⟨_, _, _⟩ => ⟨trivial, trivial, trivial, trivial⟩) ?_
  rintro ⟨a, c, x⟩ kk hlen hpre h
  have hl0 : (a).length ≤ 9223372036854775807 := hlen.1
  have hl1 : (c).length ≤ 9223372036854775807 := hlen.2.1
  have hl2 : (x).length ≤ 9223372036854775807 := hlen.2.2.1
  replace hpre : a.length ≤ 1000000000 ∧ c.length ≤ 1000000000 ∧ x.length ≤ 1000000000 := hpre
  show HT (cx Tryd.prog 15 (tyOf Tryd.prog) gl []) _ [(0, .p (.bs (a))), (1, .p (.bs (c))), (2, .p (.bs (x)))] [] _
  have hs0 := shortF_len a
  have hs1 := shortF_len c
  have hs2 := shortF_len x
  have hm0 := mac_len (shortF a) (shortF c)
  refine HT.seq ?_
  refine HT.region S_rjoiner_ok ?_
  refine So.n (lk rfl) (A.v rfl (V.as (v := .p (.v (.slice none 0 0))) rfl ?_))
  refine So.e ?_
  show HT _ _ _ _ _
  refine HT.seq ?_
  refine HT.region S_rjoiner_ok ?_
  refine So.n (lk rfl) (A.v rfl (V.mv (v := .p (.bs _)) rfl ?_))
  refine So.n (lk rfl) (A.call0 [.p (.bs _)] 1 rfl rfl rfl rfl ⟨trivial, trivial⟩ trivial _ ⟨.refl _, trivial⟩ trivial (by first | omega | (simp only [List.drop_zero, List.take_length]; omega) | (simp; done) | (simp; omega)) (Φ := fun _ => True) (fun _ _ => trivial) (.inl rfl) (v := .p (.bs _)) rfl (O' := _) rfl (fun h1 => ?_))
  refine So.n (lk rfl) (A.v rfl (V.mv (v := .p (.bs _)) rfl ?_))
  refine So.n (lk rfl) (A.call0 [.p (.bs _)] 1 rfl rfl rfl rfl ⟨trivial, trivial⟩ trivial _ ⟨.refl _, trivial⟩ trivial (by first | omega | (simp only [List.drop_zero, List.take_length]; omega) | (simp; done) | (simp; omega)) (Φ := fun _ => True) (fun _ _ => trivial) (.inl rfl) (v := .p (.bs _)) rfl (O' := _) rfl (fun h2 => ?_))
  refine So.n (lk rfl) (A.call0 [.p (.bs _), .p (.bs _)] 1 rfl rfl rfl rfl ⟨trivial, trivial, trivial⟩ trivial (_, _) ⟨.refl _, .refl _, trivial⟩ trivial (by first | omega | (simp; done) | (simp; omega)) (Φ := fun _ => True) (fun _ _ => trivial) (.inl rfl) (v := .own 3 0 _) rfl (O' := (3, ⟨5, 1, _, true, .bs _⟩) :: _) rfl (fun h3 => ?_))
  refine So.n (lk rfl) (A.v rfl (V.mv (v := .p (.bs _)) rfl ?_))
  refine So.n (lk rfl) (A.call0 [.p (.bs _)] 4 rfl rfl rfl rfl ⟨trivial, trivial⟩ trivial _ ⟨.refl _, trivial⟩ trivial (by first | omega | (simp only [List.drop_zero, List.take_length]; omega) | (simp; done) | (simp; omega)) (Φ := fun _ => True) (fun _ _ => trivial) (.inl rfl) (v := .p (.bs _)) rfl (O' := _) rfl (fun h4 => ?_))
  refine So.n (lk rfl) (A.call0 [.p (.bs _), .p (.str _), .p (.bs _), .p (.v (.int .i64 _))] 4 rfl rfl rfl rfl ⟨trivial, trivial, trivial, trivial, trivial⟩ trivial (mac (shortF a) (shortF c), nJoiner, shortF x, 32) ⟨le_bs (by rw [List.drop_zero, List.take_of_length_le (by omega)]), .refl _, .refl _, .refl _, trivial⟩ trivial (by first | omega | (simp; done) | (simp; omega)) (Φ := fun _ => True) (fun _ _ => trivial) (.inr ⟨trivial, by simp [Hp.scal, OC.scal, PV.scal, BV.scal]⟩) (v := .own 6 0 _) rfl (O' := (6, ⟨5, 1, _, true, .bs _⟩) :: _) rfl (fun h5 => ?_))
  refine So.n (lk rfl) (A.v rfl (V.as (v := .own 6 0 _) rfl ?_))
  refine So.e ?_
  show HT _ _ _ _ _
  refine HT.ret ?_
  exact ret_ok (sg [(2, 6)]) h rfl rfl rfl ⟨trivial, trivial⟩ ⟨rfl, trivial⟩ rfl ⟨⟨⟨le_own2 (by first | rfl | omega) (by first | rfl), rfl⟩, trivial⟩, ⟨⟨_, rfl, .inl (ob_bs (by first | rfl | ((try dsimp only); (first | rfl))) (by first | rfl | ((try dsimp only); (first | rfl)))), trivial⟩, trivial⟩⟩

end Go.Vh

set_option linter.unusedVariables false
set_option linter.unusedSimpArgs false
namespace Go.Vh
open Go Go.Vc Go.Proofs Go.Vw

/-! ### sodality/sodalityref16.Derive -/
def rderiveSp : Sp := ⟨[], mkE (α := (List UInt8) × (List UInt8)) (fun (a, x) => [.p (.bs (a)), .p (.bs (x))]) (fun (a, x) => []) (fun (a, x) => a.length ≤ 1000000000 ∧ x.length ≤ 1000000000) (fun (a, x) => [.agg 7 (fun j => .bs ((epochL a x).getD j []))]) (fun (a, x) => [])⟩
def S_rderive : FuncId → Option Sp := fun f => if f = 27 then some rshortSp else if f = 26 then some rextractSp else if f = 25 then some rlabelSp else none
theorem S_rderive_ok : ∀ f s, S_rderive f = some s → FOK Tryd.prog gl f s := fun f s h => by
  unfold S_rderive at h
  split at h
  · rename_i e; cases h; subst e; exact rshort_ok
  split at h
  · rename_i e; cases h; subst e; exact rextract_ok
  split at h
  · rename_i e; cases h; subst e; exact rlabel_ok
  cases h
theorem S_rderive_det : ∀ f s, S_rderive f = some s → SpDet s.sp := fun f s h => by
  unfold S_rderive at h
  split at h
  · cases h; exact mkE_det _ _ _ _ _
  split at h
  · cases h; exact mkE_det _ _ _ _ _
  split at h
  · cases h; exact mkE_det _ _ _ _ _
  cases h
set_option maxHeartbeats 1000000 in
set_option maxRecDepth 20000 in
theorem rderive_ok : FOK Tryd.prog gl 14 rderiveSp := by
  refine FOK.ofEC (tyOf_ok Tryd.prog) (rvs := [.cell 4 28]) (nt := 40) Tryd.func14 rfl rfl rfl rfl (by decide) 2 (fun ⟨_, _⟩ => rfl) (by decide) (fun ⟨_, _⟩ => ⟨trivial, trivial, trivial⟩) ?_
  rintro ⟨a, x⟩ kk hlen hpre h
  have hl0 : (a).length ≤ 9223372036854775807 := hlen.1
  have hl1 : (x).length ≤ 9223372036854775807 := hlen.2.1
  replace hpre : a.length ≤ 1000000000 ∧ x.length ≤ 1000000000 := hpre
  show HT (cx Tryd.prog 40 (tyOf Tryd.prog) gl []) _ [(0, .p (.bs (a))), (1, .p (.bs (x)))] [] _
  have hs0 := shortF_len a
  have hs2 := shortF_len x
  have hmd : (midF a).length = 32 := mac_len _ _
  have hsc : (secF a x).length = 32 := labelF_len (by simp [nEpoch]; omega)
  refine HT.seq ?_
  refine HT.region S_rderive_ok ?_
  refine So.n (lk rfl) (A.alloc 1 1 ty28 rfl trivial (f := fun _ => .v (.slice none 0 0)) (fun _ _ => rfl) ?_)
  refine So.e ?_
  show HT _ _ _ _ _
  refine HT.seq ?_
  refine HT.planS S_rderive_ok S_rderive_det mixed [0, 1, 3, 4] [⟨[0, 1], 2, [0, 1]⟩] (by kernel_rfl) ?_
  refine Pl.lk ?_
  refine Si.n rfl (lk rfl) (V.mv (v := .p (.bs _)) rfl ?_)
  refine Si.n rfl (lk rfl) (V.call [.p (.bs _)] 2 rfl rfl rfl rfl ⟨trivial, trivial⟩ trivial _ ⟨.refl _, trivial⟩ trivial (by first | omega | (simp only [List.drop_zero, List.take_length]; omega) | (simp; done) | (simp; omega)) (Φ := fun _ => True) (fun _ _ => trivial) (.inl ⟨trivial, trivial⟩) (v := .p (.bs _)) rfl (fun h1 => ?_))
  refine Si.e ?_
  refine ⟨flEq_nil, fun ff => ?_⟩
  refine Lo.n rfl (lk rfl) (A.mkB 2 ty22 ty5 rfl rfl rfl (by omega) rfl rfl trivial ?_)
  refine ⟨_, fun ff => ff, ap0d, rfl, FG.id, ?_⟩
  show planA _ _ _ _ _ [(0, .p (.bs _)), (1, .p (.bs _))] _ _ _
  refine Pl.e ?_
  refine Si.n rfl (lk rfl) (V.mv (v := .p (.bs _)) rfl ?_)
  refine Si.n rfl (lk rfl) (V.call [.p (.bs _)] 3 rfl rfl rfl rfl ⟨trivial, trivial⟩ trivial _ ⟨.refl _, trivial⟩ trivial (by first | omega | (simp only [List.drop_zero, List.take_length]; omega) | (simp; done) | (simp; omega)) (Φ := fun _ => True) (fun _ _ => trivial) (.inl ⟨trivial, trivial⟩) (v := .p (.bs _)) rfl (fun h2 => ?_))
  refine Si.n rfl (lk rfl) (V.call [.p (.bs _), .p (.bs _)] 3 rfl rfl rfl rfl ⟨trivial, trivial, trivial⟩ trivial (_, _) ⟨.refl _, .refl _, trivial⟩ trivial (by first | omega | (simp; done) | (simp; omega)) (Φ := fun _ => True) (fun _ _ => trivial) (.inr ⟨trivial, by simp [Hp.scal, OC.scal, PV.scal, BV.scal]⟩) (v := .p (.bs _)) rfl (fun h3 => ?_))
  refine Si.n rfl (lk rfl) (V.as (v := .p (.bs _)) rfl ?_)
  refine Si.e ?_
  refine ⟨(flEq_cons rfl (flEq_cons rfl flEq_nil)), ?_⟩
  show HT _ _ _ _ _
  refine HT.seq ?_
  refine R.tell [(5, .p (.bs (midF a)))] [] [1, 4] [1] (fr0 := [(1, .p (.bs _)), (4, .ptr 1 0)]) (O0 := [(1, ⟨_, _, _, _, .rows _⟩)]) rfl rfl ⟨⟨⟨le_bs (by first | rfl | exact mid_eq a), trivial⟩, ⟨.refl _, trivial⟩, ⟨.refl _, rfl⟩, trivial⟩, ⟨⟨_, rfl, .inl rfl, trivial⟩, trivial⟩⟩ ?_
  show HT _ _ _ _ _
  refine HT.region S_rderive_ok ?_
  refine So.n (lk rfl) (A.alloc 2 1 ty28 rfl trivial (f := fun _ => .v (.slice none 0 0)) (fun _ _ => rfl) ?_)
  refine So.e ?_
  show HT _ _ _ _ _
  refine HT.seq ?_
  refine HT.region S_rderive_ok ?_
  refine So.n (lk rfl) (A.v rfl (V.mv (v := .p (.bs _)) rfl ?_))
  refine So.n (lk rfl) (A.call0F S_rderive_ok [.p (.bs _), .p (.str _), .p (.v (.slice none 0 0)), .p (.v (.int .i64 _))] 3 rfl rfl rfl rfl ⟨trivial, trivial, trivial, trivial, trivial⟩ trivial (midF a, nWelcome, [], 32) ⟨.refl _, .refl _, le_nil rfl, .refl _, trivial⟩ trivial (by first | omega | (simp; done) | (simp; omega)) (Φ := fun _ => True) (fun _ _ => trivial) (.inl rfl) (t := 5) (off := 0) rfl (O' := (5, ⟨5, 1, _, true, .bs _⟩) :: _) rfl rfl rfl (y := .p (.bs _)) rfl rfl (fun h4 => ?_))
  refine So.n (lk rfl) (A.v rfl (V.faPtr ty28 rfl ty22 (lk rfl) rfl rfl (by first | exact lk rfl | first | rfl | omega | (simp; done) | (simp; omega)) ?_))
  refine So.s (A.sto ty22 rfl rfl rfl (v := .p (.bs _)) rfl trivial rfl (by first | rfl | omega | (simp; done) | (simp; omega)) rfl rfl ?_)
  refine So.e ?_
  show HT _ _ _ _ _
  refine HT.seq ?_
  refine R.tell [] [(2, ⟨28, 1, 7, true, .rows (fun j => if j = 0 then .bs (labelF (midF a) nWelcome [] 32) else .v (.slice none 0 0))⟩)] [1, 4, 5, 6] [1] (fr0 := [(1, .p (.bs _)), (4, .ptr 1 0), (5, .p (.bs _)), (6, .ptr 2 0)]) (O0 := [(1, ⟨_, _, _, _, .rows _⟩)]) rfl rfl ⟨⟨⟨.refl _, trivial⟩, ⟨.refl _, rfl⟩, ⟨.refl _, trivial⟩, ⟨.refl _, rfl⟩, trivial⟩, ⟨⟨_, rfl, .inr (ob_rows (by first | rfl | ((try dsimp only); first | rfl | (intro j hj; first | rfl | (simp only [take_full]; done) | (simp only [take_full]; rfl)))) (by first | rfl | ((try dsimp only); first | rfl | (intro j hj; first | rfl | (simp only [take_full]; done) | (simp only [take_full]; rfl))))), trivial⟩, ⟨_, rfl, .inl rfl, trivial⟩, trivial⟩⟩ ?_
  show HT _ _ _ _ _
  refine HT.region S_rderive_ok ?_
  refine So.n (lk rfl) (A.v rfl (V.mv (v := .p (.bs _)) rfl ?_))
  refine So.n (lk rfl) (A.v rfl (V.mv (v := .p (.bs _)) rfl ?_))
  refine So.n (lk rfl) (A.call0 [.p (.bs _)] 3 rfl rfl rfl rfl ⟨trivial, trivial⟩ trivial _ ⟨.refl _, trivial⟩ trivial (by first | omega | (simp only [List.drop_zero, List.take_length]; omega) | (simp; done) | (simp; omega)) (Φ := fun _ => True) (fun _ _ => trivial) (.inl rfl) (v := .p (.bs _)) rfl (O' := _) rfl (fun h5 => ?_))
  refine So.n (lk rfl) (A.call0F S_rderive_ok [.p (.bs _), .p (.str _), .p (.bs _), .p (.v (.int .i64 _))] 3 rfl rfl rfl rfl ⟨trivial, trivial, trivial, trivial, trivial⟩ trivial (midF a, nEpoch, shortF x, 32) ⟨.refl _, .refl _, .refl _, .refl _, trivial⟩ trivial (by first | omega | (simp; done) | (simp; omega)) (Φ := fun _ => True) (fun _ _ => trivial) (.inl rfl) (t := 5) (off := 0) rfl (O' := (5, ⟨5, 1, _, true, .bs _⟩) :: _) rfl rfl rfl (y := .p (.bs _)) rfl rfl (fun h6 => ?_))
  refine So.n (lk rfl) (A.v rfl (V.faPtr ty28 rfl ty22 (lk rfl) rfl rfl (by first | exact lk rfl | first | rfl | omega | (simp; done) | (simp; omega)) ?_))
  refine So.s (A.sto ty22 rfl rfl rfl (v := .p (.bs _)) rfl trivial rfl (by first | rfl | omega | (simp; done) | (simp; omega)) rfl rfl ?_)
  refine So.e ?_
  show HT _ _ _ _ _
  refine HT.seq ?_
  refine R.tell [] [(2, ⟨28, 1, 7, true, .rows (fun j => if j = 1 then .bs (secF a x) else if j = 0 then .bs (labelF (midF a) nWelcome [] 32) else .v (.slice none 0 0))⟩)] [4, 6] [1] (fr0 := [(4, .ptr 1 0), (6, .ptr 2 0)]) (O0 := [(1, ⟨_, _, _, _, .rows _⟩)]) rfl rfl ⟨⟨⟨.refl _, rfl⟩, ⟨.refl _, rfl⟩, trivial⟩, ⟨⟨_, rfl, .inr (ob_rows (by first | rfl | ((try dsimp only); first | rfl | (intro j hj; first | rfl | (simp only [take_full]; done) | (simp only [take_full]; rfl)))) (by first | rfl | ((try dsimp only); first | rfl | (intro j hj; first | rfl | (simp only [take_full]; done) | (simp only [take_full]; rfl))))), trivial⟩, ⟨_, rfl, .inl rfl, trivial⟩, trivial⟩⟩ ?_
  show HT _ _ _ _ _
  refine HT.region S_rderive_ok ?_
  refine So.n (lk rfl) (A.v rfl (V.faPtr ty28 rfl ty22 (lk rfl) rfl rfl (by first | exact lk rfl | first | rfl | omega | (simp; done) | (simp; omega)) ?_))
  refine So.n (lk rfl) (A.v rfl (V.ldPtr ty22 rfl rfl rfl (by first | rfl | omega | (simp; done) | (simp; omega)) (v := .p (.bs _)) rfl ?_))
  refine So.n (lk rfl) (A.call0F S_rderive_ok [.p (.bs _), .p (.str _), .p (.v (.slice none 0 0)), .p (.v (.int .i64 _))] 3 rfl rfl rfl rfl ⟨trivial, trivial, trivial, trivial, trivial⟩ trivial (secF a x, nEncrypt, [], 32) ⟨.refl _, .refl _, le_nil rfl, .refl _, trivial⟩ trivial (by first | omega | (simp; done) | (simp; omega)) (Φ := fun _ => True) (fun _ _ => trivial) (.inl rfl) (t := 5) (off := 0) rfl (O' := (5, ⟨5, 1, _, true, .bs _⟩) :: _) rfl rfl rfl (y := .p (.bs _)) rfl rfl (fun h7 => ?_))
  refine So.n (lk rfl) (A.v rfl (V.faPtr ty28 rfl ty22 (lk rfl) rfl rfl (by first | exact lk rfl | first | rfl | omega | (simp; done) | (simp; omega)) ?_))
  refine So.s (A.sto ty22 rfl rfl rfl (v := .p (.bs _)) rfl trivial rfl (by first | rfl | omega | (simp; done) | (simp; omega)) rfl rfl ?_)
  refine So.e ?_
  show HT _ _ _ _ _
  refine HT.seq ?_
  refine R.tell [] [(2, ⟨28, 1, 7, true, .rows (fun j => if j = 2 then .bs (labelF (secF a x) nEncrypt [] 32) else if j = 1 then .bs (secF a x) else if j = 0 then .bs (labelF (midF a) nWelcome [] 32) else .v (.slice none 0 0))⟩)] [4, 6] [1] (fr0 := [(4, .ptr 1 0), (6, .ptr 2 0)]) (O0 := [(1, ⟨_, _, _, _, .rows _⟩)]) rfl rfl ⟨⟨⟨.refl _, rfl⟩, ⟨.refl _, rfl⟩, trivial⟩, ⟨⟨_, rfl, .inr (ob_rows (by first | rfl | ((try dsimp only); first | rfl | (intro j hj; first | rfl | (simp only [take_full]; done) | (simp only [take_full]; rfl)))) (by first | rfl | ((try dsimp only); first | rfl | (intro j hj; first | rfl | (simp only [take_full]; done) | (simp only [take_full]; rfl))))), trivial⟩, ⟨_, rfl, .inl rfl, trivial⟩, trivial⟩⟩ ?_
  show HT _ _ _ _ _
  refine HT.region S_rderive_ok ?_
  refine So.n (lk rfl) (A.v rfl (V.faPtr ty28 rfl ty22 (lk rfl) rfl rfl (by first | exact lk rfl | first | rfl | omega | (simp; done) | (simp; omega)) ?_))
  refine So.n (lk rfl) (A.v rfl (V.ldPtr ty22 rfl rfl rfl (by first | rfl | omega | (simp; done) | (simp; omega)) (v := .p (.bs _)) rfl ?_))
  refine So.n (lk rfl) (A.call0F S_rderive_ok [.p (.bs _), .p (.str _), .p (.v (.slice none 0 0)), .p (.v (.int .i64 _))] 3 rfl rfl rfl rfl ⟨trivial, trivial, trivial, trivial, trivial⟩ trivial (secF a x, nExport, [], 32) ⟨.refl _, .refl _, le_nil rfl, .refl _, trivial⟩ trivial (by first | omega | (simp; done) | (simp; omega)) (Φ := fun _ => True) (fun _ _ => trivial) (.inl rfl) (t := 5) (off := 0) rfl (O' := (5, ⟨5, 1, _, true, .bs _⟩) :: _) rfl rfl rfl (y := .p (.bs _)) rfl rfl (fun h8 => ?_))
  refine So.n (lk rfl) (A.v rfl (V.faPtr ty28 rfl ty22 (lk rfl) rfl rfl (by first | exact lk rfl | first | rfl | omega | (simp; done) | (simp; omega)) ?_))
  refine So.s (A.sto ty22 rfl rfl rfl (v := .p (.bs _)) rfl trivial rfl (by first | rfl | omega | (simp; done) | (simp; omega)) rfl rfl ?_)
  refine So.e ?_
  show HT _ _ _ _ _
  refine HT.seq ?_
  refine R.tell [] [(2, ⟨28, 1, 7, true, .rows (fun j => if j = 3 then .bs (labelF (secF a x) nExport [] 32) else if j = 2 then .bs (labelF (secF a x) nEncrypt [] 32) else if j = 1 then .bs (secF a x) else if j = 0 then .bs (labelF (midF a) nWelcome [] 32) else .v (.slice none 0 0))⟩)] [4, 6] [1] (fr0 := [(4, .ptr 1 0), (6, .ptr 2 0)]) (O0 := [(1, ⟨_, _, _, _, .rows _⟩)]) rfl rfl ⟨⟨⟨.refl _, rfl⟩, ⟨.refl _, rfl⟩, trivial⟩, ⟨⟨_, rfl, .inr (ob_rows (by first | rfl | ((try dsimp only); first | rfl | (intro j hj; first | rfl | (simp only [take_full]; done) | (simp only [take_full]; rfl)))) (by first | rfl | ((try dsimp only); first | rfl | (intro j hj; first | rfl | (simp only [take_full]; done) | (simp only [take_full]; rfl))))), trivial⟩, ⟨_, rfl, .inl rfl, trivial⟩, trivial⟩⟩ ?_
  show HT _ _ _ _ _
  refine HT.region S_rderive_ok ?_
  refine So.n (lk rfl) (A.v rfl (V.faPtr ty28 rfl ty22 (lk rfl) rfl rfl (by first | exact lk rfl | first | rfl | omega | (simp; done) | (simp; omega)) ?_))
  refine So.n (lk rfl) (A.v rfl (V.ldPtr ty22 rfl rfl rfl (by first | rfl | omega | (simp; done) | (simp; omega)) (v := .p (.bs _)) rfl ?_))
  refine So.n (lk rfl) (A.call0F S_rderive_ok [.p (.bs _), .p (.str _), .p (.v (.slice none 0 0)), .p (.v (.int .i64 _))] 3 rfl rfl rfl rfl ⟨trivial, trivial, trivial, trivial, trivial⟩ trivial (secF a x, nConfirm, [], 32) ⟨.refl _, .refl _, le_nil rfl, .refl _, trivial⟩ trivial (by first | omega | (simp; done) | (simp; omega)) (Φ := fun _ => True) (fun _ _ => trivial) (.inl rfl) (t := 5) (off := 0) rfl (O' := (5, ⟨5, 1, _, true, .bs _⟩) :: _) rfl rfl rfl (y := .p (.bs _)) rfl rfl (fun h9 => ?_))
  refine So.n (lk rfl) (A.v rfl (V.faPtr ty28 rfl ty22 (lk rfl) rfl rfl (by first | exact lk rfl | first | rfl | omega | (simp; done) | (simp; omega)) ?_))
  refine So.s (A.sto ty22 rfl rfl rfl (v := .p (.bs _)) rfl trivial rfl (by first | rfl | omega | (simp; done) | (simp; omega)) rfl rfl ?_)
  refine So.e ?_
  show HT _ _ _ _ _
  refine HT.seq ?_
  refine R.tell [] [(2, ⟨28, 1, 7, true, .rows (fun j => if j = 4 then .bs (labelF (secF a x) nConfirm [] 32) else if j = 3 then .bs (labelF (secF a x) nExport [] 32) else if j = 2 then .bs (labelF (secF a x) nEncrypt [] 32) else if j = 1 then .bs (secF a x) else if j = 0 then .bs (labelF (midF a) nWelcome [] 32) else .v (.slice none 0 0))⟩)] [4, 6] [1] (fr0 := [(4, .ptr 1 0), (6, .ptr 2 0)]) (O0 := [(1, ⟨_, _, _, _, .rows _⟩)]) rfl rfl ⟨⟨⟨.refl _, rfl⟩, ⟨.refl _, rfl⟩, trivial⟩, ⟨⟨_, rfl, .inr (ob_rows (by first | rfl | ((try dsimp only); first | rfl | (intro j hj; first | rfl | (simp only [take_full]; done) | (simp only [take_full]; rfl)))) (by first | rfl | ((try dsimp only); first | rfl | (intro j hj; first | rfl | (simp only [take_full]; done) | (simp only [take_full]; rfl))))), trivial⟩, ⟨_, rfl, .inl rfl, trivial⟩, trivial⟩⟩ ?_
  show HT _ _ _ _ _
  refine HT.region S_rderive_ok ?_
  refine So.n (lk rfl) (A.v rfl (V.faPtr ty28 rfl ty22 (lk rfl) rfl rfl (by first | exact lk rfl | first | rfl | omega | (simp; done) | (simp; omega)) ?_))
  refine So.n (lk rfl) (A.v rfl (V.ldPtr ty22 rfl rfl rfl (by first | rfl | omega | (simp; done) | (simp; omega)) (v := .p (.bs _)) rfl ?_))
  refine So.n (lk rfl) (A.call0F S_rderive_ok [.p (.bs _), .p (.str _), .p (.v (.slice none 0 0)), .p (.v (.int .i64 _))] 3 rfl rfl rfl rfl ⟨trivial, trivial, trivial, trivial, trivial⟩ trivial (secF a x, nMember, [], 32) ⟨.refl _, .refl _, le_nil rfl, .refl _, trivial⟩ trivial (by first | omega | (simp; done) | (simp; omega)) (Φ := fun _ => True) (fun _ _ => trivial) (.inl rfl) (t := 5) (off := 0) rfl (O' := (5, ⟨5, 1, _, true, .bs _⟩) :: _) rfl rfl rfl (y := .p (.bs _)) rfl rfl (fun h10 => ?_))
  refine So.n (lk rfl) (A.v rfl (V.faPtr ty28 rfl ty22 (lk rfl) rfl rfl (by first | exact lk rfl | first | rfl | omega | (simp; done) | (simp; omega)) ?_))
  refine So.s (A.sto ty22 rfl rfl rfl (v := .p (.bs _)) rfl trivial rfl (by first | rfl | omega | (simp; done) | (simp; omega)) rfl rfl ?_)
  refine So.e ?_
  show HT _ _ _ _ _
  refine HT.seq ?_
  refine R.tell [] [(2, ⟨28, 1, 7, true, .rows (fun j => if j = 5 then .bs (labelF (secF a x) nMember [] 32) else if j = 4 then .bs (labelF (secF a x) nConfirm [] 32) else if j = 3 then .bs (labelF (secF a x) nExport [] 32) else if j = 2 then .bs (labelF (secF a x) nEncrypt [] 32) else if j = 1 then .bs (secF a x) else if j = 0 then .bs (labelF (midF a) nWelcome [] 32) else .v (.slice none 0 0))⟩)] [4, 6] [1] (fr0 := [(4, .ptr 1 0), (6, .ptr 2 0)]) (O0 := [(1, ⟨_, _, _, _, .rows _⟩)]) rfl rfl ⟨⟨⟨.refl _, rfl⟩, ⟨.refl _, rfl⟩, trivial⟩, ⟨⟨_, rfl, .inr (ob_rows (by first | rfl | ((try dsimp only); first | rfl | (intro j hj; first | rfl | (simp only [take_full]; done) | (simp only [take_full]; rfl)))) (by first | rfl | ((try dsimp only); first | rfl | (intro j hj; first | rfl | (simp only [take_full]; done) | (simp only [take_full]; rfl))))), trivial⟩, ⟨_, rfl, .inl rfl, trivial⟩, trivial⟩⟩ ?_
  show HT _ _ _ _ _
  refine HT.region S_rderive_ok ?_
  refine So.n (lk rfl) (A.v rfl (V.faPtr ty28 rfl ty22 (lk rfl) rfl rfl (by first | exact lk rfl | first | rfl | omega | (simp; done) | (simp; omega)) ?_))
  refine So.n (lk rfl) (A.v rfl (V.ldPtr ty22 rfl rfl rfl (by first | rfl | omega | (simp; done) | (simp; omega)) (v := .p (.bs _)) rfl ?_))
  refine So.n (lk rfl) (A.call0F S_rderive_ok [.p (.bs _), .p (.str _), .p (.v (.slice none 0 0)), .p (.v (.int .i64 _))] 3 rfl rfl rfl rfl ⟨trivial, trivial, trivial, trivial, trivial⟩ trivial (secF a x, nInit, [], 32) ⟨.refl _, .refl _, le_nil rfl, .refl _, trivial⟩ trivial (by first | omega | (simp; done) | (simp; omega)) (Φ := fun _ => True) (fun _ _ => trivial) (.inl rfl) (t := 5) (off := 0) rfl (O' := (5, ⟨5, 1, _, true, .bs _⟩) :: _) rfl rfl rfl (y := .p (.bs _)) rfl rfl (fun h11 => ?_))
  refine So.n (lk rfl) (A.v rfl (V.faPtr ty28 rfl ty22 (lk rfl) rfl rfl (by first | exact lk rfl | first | rfl | omega | (simp; done) | (simp; omega)) ?_))
  refine So.s (A.sto ty22 rfl rfl rfl (v := .p (.bs _)) rfl trivial rfl (by first | rfl | omega | (simp; done) | (simp; omega)) rfl rfl ?_)
  refine So.e ?_
  show HT _ _ _ _ _
  refine HT.seq ?_
  refine R.tell [] [(2, ⟨28, 1, 7, true, .rows (fun j => if j = 6 then .bs (labelF (secF a x) nInit [] 32) else if j = 5 then .bs (labelF (secF a x) nMember [] 32) else if j = 4 then .bs (labelF (secF a x) nConfirm [] 32) else if j = 3 then .bs (labelF (secF a x) nExport [] 32) else if j = 2 then .bs (labelF (secF a x) nEncrypt [] 32) else if j = 1 then .bs (secF a x) else if j = 0 then .bs (labelF (midF a) nWelcome [] 32) else .v (.slice none 0 0))⟩)] [4, 6] [1] (fr0 := [(4, .ptr 1 0), (6, .ptr 2 0)]) (O0 := [(1, ⟨_, _, _, _, .rows _⟩)]) rfl rfl ⟨⟨⟨.refl _, rfl⟩, ⟨.refl _, rfl⟩, trivial⟩, ⟨⟨_, rfl, .inr (ob_rows (by first | rfl | ((try dsimp only); first | rfl | (intro j hj; first | rfl | (simp only [take_full]; done) | (simp only [take_full]; rfl)))) (by first | rfl | ((try dsimp only); first | rfl | (intro j hj; first | rfl | (simp only [take_full]; done) | (simp only [take_full]; rfl))))), trivial⟩, ⟨_, rfl, .inl rfl, trivial⟩, trivial⟩⟩ ?_
  show HT _ _ _ _ _
  refine HT.region S_rderive_ok ?_
  refine So.n (lk rfl) (A.v rfl (V.ldPtrA ty28 rfl rfl rfl rfl (by first | rfl | omega | (simp; done) | (simp; omega)) ?_))
  refine So.s (A.stoAg ty28 rfl (n := 7) rfl (by decide) (by intro j hj; first | rfl | trivial | (match j, hj with | 0, _ => trivial | 1, _ => trivial | 2, _ => trivial | 3, _ => trivial | 4, _ => trivial | 5, _ => trivial | 6, _ => trivial)) rfl rfl rfl ?_)
  refine So.e ?_
  show HT _ _ _ _ _
  refine HT.ret ?_
  exact retC_ok (sg []) [(4, .ptr 1 0)] [(1, ⟨28, 1, 7, true, .rows (fun j => .bs ((epochL a x).getD j []))⟩)] h ⟨⟨⟨.refl _, rfl⟩, trivial⟩, ⟨⟨_, rfl, .inr (ob_rows rfl (by intro j hj; first | rfl | ((try dsimp only); (first | rfl | (intro j hj; (match j, hj with | 0, _ => rfl | 1, _ => rfl | 2, _ => rfl | 3, _ => rfl | 4, _ => rfl | 5, _ => rfl | 6, _ => rfl)) | (match j, hj with | 0, _ => rfl | 1, _ => rfl | 2, _ => rfl | 3, _ => rfl | 4, _ => rfl | 5, _ => rfl | 6, _ => rfl))))), trivial⟩, trivial⟩⟩ ⟨rvA_cell ty28 rfl rfl rfl rfl (Nat.le_refl _) (le_agg (fun j _ => by first | rfl | (dsimp only; rw [Nat.zero_add]))), trivial⟩ trivial rfl trivial ⟨trivial, trivial⟩ rfl

end Go.Vh

set_option linter.unusedVariables false
set_option linter.unusedSimpArgs false
namespace Go.Vh
open Go Go.Vc Go.Proofs Go.Vw

/-! ### sodality/sodalityref16.Same -/
def rsameESp : Sp := ⟨[], mkE (α := (List (List UInt8)) × (List (List UInt8))) (fun (e, f) => [.agg 7 (fun j => .bs ((e).getD j [])), .agg 7 (fun j => .bs ((f).getD j []))]) (fun (e, f) => []) (fun (e, f) => True) (fun (e, f) => [.p (.v (.bool (decide (sameE e f))))]) (fun (e, f) => [])⟩
def S_rsameE : FuncId → Option Sp := fun _ => none
theorem S_rsameE_ok : ∀ f s, S_rsameE f = some s → FOK Tryd.prog gl f s := fun f s h => by cases h
theorem S_rsameE_det : ∀ f s, S_rsameE f = some s → SpDet s.sp := fun f s h => by cases h
set_option maxHeartbeats 1000000 in
set_option maxRecDepth 1000 in
theorem rsameE_ok : FOK Tryd.prog gl 12 rsameESp := by
  refine FOK.ofE (tyOf_ok Tryd.prog) (slots := [4]) (nt := 68) Tryd.func12 rfl rfl rfl rfl (by decide) 2 (fun ⟨_, _⟩ => rfl) (by decide) (fun ⟨_, _⟩ => ⟨trivial, trivial, trivial⟩) ?_
  rintro ⟨e, f⟩ kk hlen hpre h
  replace hpre : True := hpre
  show HT (cx Tryd.prog 68 (tyOf Tryd.prog) gl []) _ [(0, .agg 7 (fun j => .bs ((e).getD j []))), (1, .agg 7 (fun j => .bs ((f).getD j [])))] [] _
  refine HT.seq ?_
  refine HT.region S_rsameE_ok ?_
  refine So.n (lk rfl) (A.boxAg 1 1 (n := 7) rfl (by intro j hj; first | rfl | trivial | (split <;> first | rfl | trivial | (split <;> first | rfl | trivial))) rfl trivial ?_)
  refine So.n (lk rfl) (A.boxAg 2 1 (n := 7) rfl (by intro j hj; first | rfl | trivial | (split <;> first | rfl | trivial | (split <;> first | rfl | trivial))) rfl trivial ?_)
  refine So.n (lk rfl) (A.v rfl (V.as (v := .p (.v (.bool false))) rfl ?_))
  refine So.e ?_
  show HT _ _ _ _ _
  refine HT.seq ?_
  refine HT.region S_rsameE_ok ?_
  refine So.n (lk rfl) (A.v rfl (V.faPtr ty28 rfl ty22 (lk rfl) rfl rfl (by first | exact lk rfl | first | rfl | omega | (simp; done) | (simp; omega)) ?_))
  refine So.n (lk rfl) (A.v rfl (V.ldPtr ty22 rfl rfl rfl (by first | rfl | omega | (simp; done) | (simp; omega)) (v := .p (.bs _)) rfl ?_))
  refine So.n (lk rfl) (A.v rfl (V.cvBs ty9 rfl rfl ?_))
  refine So.n (lk rfl) (A.v rfl (V.faPtr ty28 rfl ty22 (lk rfl) rfl rfl (by first | exact lk rfl | first | rfl | omega | (simp; done) | (simp; omega)) ?_))
  refine So.n (lk rfl) (A.v rfl (V.ldPtr ty22 rfl rfl rfl (by first | rfl | omega | (simp; done) | (simp; omega)) (v := .p (.bs _)) rfl ?_))
  refine So.n (lk rfl) (A.v rfl (V.cvBs ty9 rfl rfl ?_))
  refine So.n (lk rfl) (A.v rfl (V.bin (a := (.str _)) (b := (.str _)) (r := .v (.bool _)) rfl rfl rfl trivial ?_))
  refine So.n (lk rfl) (A.v rfl (V.mv (v := .p (.v (.bool _))) rfl ?_))
  refine So.gd rfl rfl (lk rfl) (lk rfl) (fun h1 => ?_) (fun h1 => ?_)
  · have h1 := of_decide_eq_true h1
    refine A.v rfl (V.faPtr ty28 rfl ty22 (lk rfl) rfl rfl (by first | exact lk rfl | first | rfl | omega | (simp; done) | (simp; omega)) ?_)
    refine So.gy rfl rfl (lk rfl) (lk rfl) ?_
    refine A.v rfl (V.ldPtr ty22 rfl rfl rfl (by first | rfl | omega | (simp; done) | (simp; omega)) (v := .p (.bs _)) rfl ?_)
    refine So.gy rfl rfl (lk rfl) (lk rfl) ?_
    refine A.v rfl (V.cvBs ty9 rfl rfl ?_)
    refine So.gy rfl rfl (lk rfl) (lk rfl) ?_
    refine A.v rfl (V.faPtr ty28 rfl ty22 (lk rfl) rfl rfl (by first | exact lk rfl | first | rfl | omega | (simp; done) | (simp; omega)) ?_)
    refine So.gy rfl rfl (lk rfl) (lk rfl) ?_
    refine A.v rfl (V.ldPtr ty22 rfl rfl rfl (by first | rfl | omega | (simp; done) | (simp; omega)) (v := .p (.bs _)) rfl ?_)
    refine So.gy rfl rfl (lk rfl) (lk rfl) ?_
    refine A.v rfl (V.cvBs ty9 rfl rfl ?_)
    refine So.gy rfl rfl (lk rfl) (lk rfl) ?_
    refine A.v rfl (V.bin (a := (.str _)) (b := (.str _)) (r := .v (.bool _)) rfl rfl rfl trivial ?_)
    refine So.n (lk rfl) (A.v rfl (V.pkTrue (u := .p (.v (.bool _))) rfl rfl ?_))
    refine So.n (lk rfl) (A.v rfl (V.mv (v := .p (.v (.bool _))) rfl ?_))
    refine So.gd rfl rfl (lk rfl) (lk rfl) (fun h2 => ?_) (fun h2 => ?_)
    · have h2 := of_decide_eq_true h2
      refine A.v rfl (V.faPtr ty28 rfl ty22 (lk rfl) rfl rfl (by first | exact lk rfl | first | rfl | omega | (simp; done) | (simp; omega)) ?_)
      refine So.gy rfl rfl (lk rfl) (lk rfl) ?_
      refine A.v rfl (V.ldPtr ty22 rfl rfl rfl (by first | rfl | omega | (simp; done) | (simp; omega)) (v := .p (.bs _)) rfl ?_)
      refine So.gy rfl rfl (lk rfl) (lk rfl) ?_
      refine A.v rfl (V.cvBs ty9 rfl rfl ?_)
      refine So.gy rfl rfl (lk rfl) (lk rfl) ?_
      refine A.v rfl (V.faPtr ty28 rfl ty22 (lk rfl) rfl rfl (by first | exact lk rfl | first | rfl | omega | (simp; done) | (simp; omega)) ?_)
      refine So.gy rfl rfl (lk rfl) (lk rfl) ?_
      refine A.v rfl (V.ldPtr ty22 rfl rfl rfl (by first | rfl | omega | (simp; done) | (simp; omega)) (v := .p (.bs _)) rfl ?_)
      refine So.gy rfl rfl (lk rfl) (lk rfl) ?_
      refine A.v rfl (V.cvBs ty9 rfl rfl ?_)
      refine So.gy rfl rfl (lk rfl) (lk rfl) ?_
      refine A.v rfl (V.bin (a := (.str _)) (b := (.str _)) (r := .v (.bool _)) rfl rfl rfl trivial ?_)
      refine So.n (lk rfl) (A.v rfl (V.pkTrue (u := .p (.v (.bool _))) rfl rfl ?_))
      refine So.n (lk rfl) (A.v rfl (V.mv (v := .p (.v (.bool _))) rfl ?_))
      refine So.gd rfl rfl (lk rfl) (lk rfl) (fun h3 => ?_) (fun h3 => ?_)
      · have h3 := of_decide_eq_true h3
        refine A.v rfl (V.faPtr ty28 rfl ty22 (lk rfl) rfl rfl (by first | exact lk rfl | first | rfl | omega | (simp; done) | (simp; omega)) ?_)
        refine So.gy rfl rfl (lk rfl) (lk rfl) ?_
        refine A.v rfl (V.ldPtr ty22 rfl rfl rfl (by first | rfl | omega | (simp; done) | (simp; omega)) (v := .p (.bs _)) rfl ?_)
        refine So.gy rfl rfl (lk rfl) (lk rfl) ?_
        refine A.v rfl (V.cvBs ty9 rfl rfl ?_)
        refine So.gy rfl rfl (lk rfl) (lk rfl) ?_
        refine A.v rfl (V.faPtr ty28 rfl ty22 (lk rfl) rfl rfl (by first | exact lk rfl | first | rfl | omega | (simp; done) | (simp; omega)) ?_)
        refine So.gy rfl rfl (lk rfl) (lk rfl) ?_
        refine A.v rfl (V.ldPtr ty22 rfl rfl rfl (by first | rfl | omega | (simp; done) | (simp; omega)) (v := .p (.bs _)) rfl ?_)
        refine So.gy rfl rfl (lk rfl) (lk rfl) ?_
        refine A.v rfl (V.cvBs ty9 rfl rfl ?_)
        refine So.gy rfl rfl (lk rfl) (lk rfl) ?_
        refine A.v rfl (V.bin (a := (.str _)) (b := (.str _)) (r := .v (.bool _)) rfl rfl rfl trivial ?_)
        refine So.n (lk rfl) (A.v rfl (V.pkTrue (u := .p (.v (.bool _))) rfl rfl ?_))
        refine So.n (lk rfl) (A.v rfl (V.as (v := .p (.v (.bool _))) rfl ?_))
        refine So.e ?_
        show HT _ _ _ _ _
        refine HT.seq ?_
        refine HT.region S_rsameE_ok ?_
        refine So.n (lk rfl) (A.v rfl (V.mv (v := .p (.v (.bool _))) rfl ?_))
        refine So.n (lk rfl) (A.v rfl (V.mv (v := .p (.v (.bool _))) rfl ?_))
        refine So.gd rfl rfl (lk rfl) (lk rfl) (fun h4 => ?_) (fun h4 => ?_)
        · have h4 := of_decide_eq_true h4
          refine A.v rfl (V.faPtr ty28 rfl ty22 (lk rfl) rfl rfl (by first | exact lk rfl | first | rfl | omega | (simp; done) | (simp; omega)) ?_)
          refine So.gy rfl rfl (lk rfl) (lk rfl) ?_
          refine A.v rfl (V.ldPtr ty22 rfl rfl rfl (by first | rfl | omega | (simp; done) | (simp; omega)) (v := .p (.bs _)) rfl ?_)
          refine So.gy rfl rfl (lk rfl) (lk rfl) ?_
          refine A.v rfl (V.cvBs ty9 rfl rfl ?_)
          refine So.gy rfl rfl (lk rfl) (lk rfl) ?_
          refine A.v rfl (V.faPtr ty28 rfl ty22 (lk rfl) rfl rfl (by first | exact lk rfl | first | rfl | omega | (simp; done) | (simp; omega)) ?_)
          refine So.gy rfl rfl (lk rfl) (lk rfl) ?_
          refine A.v rfl (V.ldPtr ty22 rfl rfl rfl (by first | rfl | omega | (simp; done) | (simp; omega)) (v := .p (.bs _)) rfl ?_)
          refine So.gy rfl rfl (lk rfl) (lk rfl) ?_
          refine A.v rfl (V.cvBs ty9 rfl rfl ?_)
          refine So.gy rfl rfl (lk rfl) (lk rfl) ?_
          refine A.v rfl (V.bin (a := (.str _)) (b := (.str _)) (r := .v (.bool _)) rfl rfl rfl trivial ?_)
          refine So.n (lk rfl) (A.v rfl (V.pkTrue (u := .p (.v (.bool _))) rfl rfl ?_))
          refine So.n (lk rfl) (A.v rfl (V.mv (v := .p (.v (.bool _))) rfl ?_))
          refine So.gd rfl rfl (lk rfl) (lk rfl) (fun h5 => ?_) (fun h5 => ?_)
          · have h5 := of_decide_eq_true h5
            refine A.v rfl (V.faPtr ty28 rfl ty22 (lk rfl) rfl rfl (by first | exact lk rfl | first | rfl | omega | (simp; done) | (simp; omega)) ?_)
            refine So.gy rfl rfl (lk rfl) (lk rfl) ?_
            refine A.v rfl (V.ldPtr ty22 rfl rfl rfl (by first | rfl | omega | (simp; done) | (simp; omega)) (v := .p (.bs _)) rfl ?_)
            refine So.gy rfl rfl (lk rfl) (lk rfl) ?_
            refine A.v rfl (V.cvBs ty9 rfl rfl ?_)
            refine So.gy rfl rfl (lk rfl) (lk rfl) ?_
            refine A.v rfl (V.faPtr ty28 rfl ty22 (lk rfl) rfl rfl (by first | exact lk rfl | first | rfl | omega | (simp; done) | (simp; omega)) ?_)
            refine So.gy rfl rfl (lk rfl) (lk rfl) ?_
            refine A.v rfl (V.ldPtr ty22 rfl rfl rfl (by first | rfl | omega | (simp; done) | (simp; omega)) (v := .p (.bs _)) rfl ?_)
            refine So.gy rfl rfl (lk rfl) (lk rfl) ?_
            refine A.v rfl (V.cvBs ty9 rfl rfl ?_)
            refine So.gy rfl rfl (lk rfl) (lk rfl) ?_
            refine A.v rfl (V.bin (a := (.str _)) (b := (.str _)) (r := .v (.bool _)) rfl rfl rfl trivial ?_)
            refine So.n (lk rfl) (A.v rfl (V.pkTrue (u := .p (.v (.bool _))) rfl rfl ?_))
            refine So.n (lk rfl) (A.v rfl (V.mv (v := .p (.v (.bool _))) rfl ?_))
            refine So.gd rfl rfl (lk rfl) (lk rfl) (fun h6 => ?_) (fun h6 => ?_)
            · have h6 := of_decide_eq_true h6
              refine A.v rfl (V.faPtr ty28 rfl ty22 (lk rfl) rfl rfl (by first | exact lk rfl | first | rfl | omega | (simp; done) | (simp; omega)) ?_)
              refine So.gy rfl rfl (lk rfl) (lk rfl) ?_
              refine A.v rfl (V.ldPtr ty22 rfl rfl rfl (by first | rfl | omega | (simp; done) | (simp; omega)) (v := .p (.bs _)) rfl ?_)
              refine So.gy rfl rfl (lk rfl) (lk rfl) ?_
              refine A.v rfl (V.cvBs ty9 rfl rfl ?_)
              refine So.gy rfl rfl (lk rfl) (lk rfl) ?_
              refine A.v rfl (V.faPtr ty28 rfl ty22 (lk rfl) rfl rfl (by first | exact lk rfl | first | rfl | omega | (simp; done) | (simp; omega)) ?_)
              refine So.gy rfl rfl (lk rfl) (lk rfl) ?_
              refine A.v rfl (V.ldPtr ty22 rfl rfl rfl (by first | rfl | omega | (simp; done) | (simp; omega)) (v := .p (.bs _)) rfl ?_)
              refine So.gy rfl rfl (lk rfl) (lk rfl) ?_
              refine A.v rfl (V.cvBs ty9 rfl rfl ?_)
              refine So.gy rfl rfl (lk rfl) (lk rfl) ?_
              refine A.v rfl (V.bin (a := (.str _)) (b := (.str _)) (r := .v (.bool _)) rfl rfl rfl trivial ?_)
              refine So.n (lk rfl) (A.v rfl (V.pkTrue (u := .p (.v (.bool _))) rfl rfl ?_))
              refine So.n (lk rfl) (A.v rfl (V.as (v := .p (.v (.bool _))) rfl ?_))
              refine So.e ?_
              show HT _ _ _ _ _
              refine HT.ret ?_
              exact ret_ok (sg []) h rfl rfl rfl trivial ⟨trivial, trivial⟩ rfl ⟨⟨⟨le_bool (by first | exact sameE_no (k := 0) (by omega) (by assumption) | exact sameE_no (k := 1) (by omega) (by assumption) | exact sameE_no (k := 2) (by omega) (by assumption) | exact sameE_no (k := 3) (by omega) (by assumption) | exact sameE_no (k := 4) (by omega) (by assumption) | exact sameE_no (k := 5) (by omega) (by assumption) | exact sameE_all (by assumption) (by assumption) (by assumption) (by assumption) (by assumption) (by assumption)), trivial⟩, trivial⟩, trivial⟩
            · have h6 := of_decide_eq_false h6
              refine So.gn (b := false) rfl rfl rfl (lk rfl) (lk rfl) ?_
              refine So.gn (b := false) rfl rfl rfl (lk rfl) (lk rfl) ?_
              refine So.gn (b := false) rfl rfl rfl (lk rfl) (lk rfl) ?_
              refine So.gn (b := false) rfl rfl rfl (lk rfl) (lk rfl) ?_
              refine So.gn (b := false) rfl rfl rfl (lk rfl) (lk rfl) ?_
              refine So.gn (b := false) rfl rfl rfl (lk rfl) (lk rfl) ?_
              refine So.n (lk rfl) (A.v rfl (V.pkFalse (u := .p (.v (.bool false))) rfl rfl ?_))
              refine So.n (lk rfl) (A.v rfl (V.as (v := .p (.v (.bool false))) rfl ?_))
              refine So.e ?_
              show HT _ _ _ _ _
              refine HT.ret ?_
              exact ret_ok (sg []) h rfl rfl rfl trivial ⟨trivial, trivial⟩ rfl ⟨⟨⟨le_bool (by first | exact sameE_no (k := 0) (by omega) (by assumption) | exact sameE_no (k := 1) (by omega) (by assumption) | exact sameE_no (k := 2) (by omega) (by assumption) | exact sameE_no (k := 3) (by omega) (by assumption) | exact sameE_no (k := 4) (by omega) (by assumption) | exact sameE_no (k := 5) (by omega) (by assumption) | exact sameE_all (by assumption) (by assumption) (by assumption) (by assumption) (by assumption) (by assumption)), trivial⟩, trivial⟩, trivial⟩
          · have h5 := of_decide_eq_false h5
            refine So.gn (b := false) rfl rfl rfl (lk rfl) (lk rfl) ?_
            refine So.gn (b := false) rfl rfl rfl (lk rfl) (lk rfl) ?_
            refine So.gn (b := false) rfl rfl rfl (lk rfl) (lk rfl) ?_
            refine So.gn (b := false) rfl rfl rfl (lk rfl) (lk rfl) ?_
            refine So.gn (b := false) rfl rfl rfl (lk rfl) (lk rfl) ?_
            refine So.gn (b := false) rfl rfl rfl (lk rfl) (lk rfl) ?_
            refine So.n (lk rfl) (A.v rfl (V.pkFalse (u := .p (.v (.bool false))) rfl rfl ?_))
            refine So.n (lk rfl) (A.v rfl (V.mv (v := .p (.v (.bool false))) rfl ?_))
            refine So.gn (b := false) rfl rfl rfl (lk rfl) (lk rfl) ?_
            refine So.gn (b := false) rfl rfl rfl (lk rfl) (lk rfl) ?_
            refine So.gn (b := false) rfl rfl rfl (lk rfl) (lk rfl) ?_
            refine So.gn (b := false) rfl rfl rfl (lk rfl) (lk rfl) ?_
            refine So.gn (b := false) rfl rfl rfl (lk rfl) (lk rfl) ?_
            refine So.gn (b := false) rfl rfl rfl (lk rfl) (lk rfl) ?_
            refine So.gn (b := false) rfl rfl rfl (lk rfl) (lk rfl) ?_
            refine So.n (lk rfl) (A.v rfl (V.pkFalse (u := .p (.v (.bool false))) rfl rfl ?_))
            refine So.n (lk rfl) (A.v rfl (V.as (v := .p (.v (.bool false))) rfl ?_))
            refine So.e ?_
            show HT _ _ _ _ _
            refine HT.ret ?_
            exact ret_ok (sg []) h rfl rfl rfl trivial ⟨trivial, trivial⟩ rfl ⟨⟨⟨le_bool (by first | exact sameE_no (k := 0) (by omega) (by assumption) | exact sameE_no (k := 1) (by omega) (by assumption) | exact sameE_no (k := 2) (by omega) (by assumption) | exact sameE_no (k := 3) (by omega) (by assumption) | exact sameE_no (k := 4) (by omega) (by assumption) | exact sameE_no (k := 5) (by omega) (by assumption) | exact sameE_all (by assumption) (by assumption) (by assumption) (by assumption) (by assumption) (by assumption)), trivial⟩, trivial⟩, trivial⟩
        · have h4 := of_decide_eq_false h4
          refine So.gn (b := false) rfl rfl rfl (lk rfl) (lk rfl) ?_
          refine So.gn (b := false) rfl rfl rfl (lk rfl) (lk rfl) ?_
          refine So.gn (b := false) rfl rfl rfl (lk rfl) (lk rfl) ?_
          refine So.gn (b := false) rfl rfl rfl (lk rfl) (lk rfl) ?_
          refine So.gn (b := false) rfl rfl rfl (lk rfl) (lk rfl) ?_
          refine So.gn (b := false) rfl rfl rfl (lk rfl) (lk rfl) ?_
          refine So.n (lk rfl) (A.v rfl (V.pkFalse (u := .p (.v (.bool false))) rfl rfl ?_))
          refine So.n (lk rfl) (A.v rfl (V.mv (v := .p (.v (.bool false))) rfl ?_))
          refine So.gn (b := false) rfl rfl rfl (lk rfl) (lk rfl) ?_
          refine So.gn (b := false) rfl rfl rfl (lk rfl) (lk rfl) ?_
          refine So.gn (b := false) rfl rfl rfl (lk rfl) (lk rfl) ?_
          refine So.gn (b := false) rfl rfl rfl (lk rfl) (lk rfl) ?_
          refine So.gn (b := false) rfl rfl rfl (lk rfl) (lk rfl) ?_
          refine So.gn (b := false) rfl rfl rfl (lk rfl) (lk rfl) ?_
          refine So.gn (b := false) rfl rfl rfl (lk rfl) (lk rfl) ?_
          refine So.n (lk rfl) (A.v rfl (V.pkFalse (u := .p (.v (.bool false))) rfl rfl ?_))
          refine So.n (lk rfl) (A.v rfl (V.mv (v := .p (.v (.bool false))) rfl ?_))
          refine So.gn (b := false) rfl rfl rfl (lk rfl) (lk rfl) ?_
          refine So.gn (b := false) rfl rfl rfl (lk rfl) (lk rfl) ?_
          refine So.gn (b := false) rfl rfl rfl (lk rfl) (lk rfl) ?_
          refine So.gn (b := false) rfl rfl rfl (lk rfl) (lk rfl) ?_
          refine So.gn (b := false) rfl rfl rfl (lk rfl) (lk rfl) ?_
          refine So.gn (b := false) rfl rfl rfl (lk rfl) (lk rfl) ?_
          refine So.gn (b := false) rfl rfl rfl (lk rfl) (lk rfl) ?_
          refine So.n (lk rfl) (A.v rfl (V.pkFalse (u := .p (.v (.bool false))) rfl rfl ?_))
          refine So.n (lk rfl) (A.v rfl (V.as (v := .p (.v (.bool false))) rfl ?_))
          refine So.e ?_
          show HT _ _ _ _ _
          refine HT.ret ?_
          exact ret_ok (sg []) h rfl rfl rfl trivial ⟨trivial, trivial⟩ rfl ⟨⟨⟨le_bool (by first | exact sameE_no (k := 0) (by omega) (by assumption) | exact sameE_no (k := 1) (by omega) (by assumption) | exact sameE_no (k := 2) (by omega) (by assumption) | exact sameE_no (k := 3) (by omega) (by assumption) | exact sameE_no (k := 4) (by omega) (by assumption) | exact sameE_no (k := 5) (by omega) (by assumption) | exact sameE_all (by assumption) (by assumption) (by assumption) (by assumption) (by assumption) (by assumption)), trivial⟩, trivial⟩, trivial⟩
      · have h3 := of_decide_eq_false h3
        refine So.gn (b := false) rfl rfl rfl (lk rfl) (lk rfl) ?_
        refine So.gn (b := false) rfl rfl rfl (lk rfl) (lk rfl) ?_
        refine So.gn (b := false) rfl rfl rfl (lk rfl) (lk rfl) ?_
        refine So.gn (b := false) rfl rfl rfl (lk rfl) (lk rfl) ?_
        refine So.gn (b := false) rfl rfl rfl (lk rfl) (lk rfl) ?_
        refine So.gn (b := false) rfl rfl rfl (lk rfl) (lk rfl) ?_
        refine So.n (lk rfl) (A.v rfl (V.pkFalse (u := .p (.v (.bool false))) rfl rfl ?_))
        refine So.n (lk rfl) (A.v rfl (V.as (v := .p (.v (.bool false))) rfl ?_))
        refine So.e ?_
        show HT _ _ _ _ _
        refine HT.seq ?_
        refine HT.region S_rsameE_ok ?_
        refine So.n (lk rfl) (A.v rfl (V.mv (v := .p (.v (.bool false))) rfl ?_))
        refine So.n (lk rfl) (A.v rfl (V.mv (v := .p (.v (.bool false))) rfl ?_))
        refine So.gn (b := false) rfl rfl rfl (lk rfl) (lk rfl) ?_
        refine So.gn (b := false) rfl rfl rfl (lk rfl) (lk rfl) ?_
        refine So.gn (b := false) rfl rfl rfl (lk rfl) (lk rfl) ?_
        refine So.gn (b := false) rfl rfl rfl (lk rfl) (lk rfl) ?_
        refine So.gn (b := false) rfl rfl rfl (lk rfl) (lk rfl) ?_
        refine So.gn (b := false) rfl rfl rfl (lk rfl) (lk rfl) ?_
        refine So.gn (b := false) rfl rfl rfl (lk rfl) (lk rfl) ?_
        refine So.n (lk rfl) (A.v rfl (V.pkFalse (u := .p (.v (.bool false))) rfl rfl ?_))
        refine So.n (lk rfl) (A.v rfl (V.mv (v := .p (.v (.bool false))) rfl ?_))
        refine So.gn (b := false) rfl rfl rfl (lk rfl) (lk rfl) ?_
        refine So.gn (b := false) rfl rfl rfl (lk rfl) (lk rfl) ?_
        refine So.gn (b := false) rfl rfl rfl (lk rfl) (lk rfl) ?_
        refine So.gn (b := false) rfl rfl rfl (lk rfl) (lk rfl) ?_
        refine So.gn (b := false) rfl rfl rfl (lk rfl) (lk rfl) ?_
        refine So.gn (b := false) rfl rfl rfl (lk rfl) (lk rfl) ?_
        refine So.gn (b := false) rfl rfl rfl (lk rfl) (lk rfl) ?_
        refine So.n (lk rfl) (A.v rfl (V.pkFalse (u := .p (.v (.bool false))) rfl rfl ?_))
        refine So.n (lk rfl) (A.v rfl (V.mv (v := .p (.v (.bool false))) rfl ?_))
        refine So.gn (b := false) rfl rfl rfl (lk rfl) (lk rfl) ?_
        refine So.gn (b := false) rfl rfl rfl (lk rfl) (lk rfl) ?_
        refine So.gn (b := false) rfl rfl rfl (lk rfl) (lk rfl) ?_
        refine So.gn (b := false) rfl rfl rfl (lk rfl) (lk rfl) ?_
        refine So.gn (b := false) rfl rfl rfl (lk rfl) (lk rfl) ?_
        refine So.gn (b := false) rfl rfl rfl (lk rfl) (lk rfl) ?_
        refine So.gn (b := false) rfl rfl rfl (lk rfl) (lk rfl) ?_
        refine So.n (lk rfl) (A.v rfl (V.pkFalse (u := .p (.v (.bool false))) rfl rfl ?_))
        refine So.n (lk rfl) (A.v rfl (V.as (v := .p (.v (.bool false))) rfl ?_))
        refine So.e ?_
        show HT _ _ _ _ _
        refine HT.ret ?_
        exact ret_ok (sg []) h rfl rfl rfl trivial ⟨trivial, trivial⟩ rfl ⟨⟨⟨le_bool (by first | exact sameE_no (k := 0) (by omega) (by assumption) | exact sameE_no (k := 1) (by omega) (by assumption) | exact sameE_no (k := 2) (by omega) (by assumption) | exact sameE_no (k := 3) (by omega) (by assumption) | exact sameE_no (k := 4) (by omega) (by assumption) | exact sameE_no (k := 5) (by omega) (by assumption) | exact sameE_all (by assumption) (by assumption) (by assumption) (by assumption) (by assumption) (by assumption)), trivial⟩, trivial⟩, trivial⟩
    · have h2 := of_decide_eq_false h2
      refine So.gn (b := false) rfl rfl rfl (lk rfl) (lk rfl) ?_
      refine So.gn (b := false) rfl rfl rfl (lk rfl) (lk rfl) ?_
      refine So.gn (b := false) rfl rfl rfl (lk rfl) (lk rfl) ?_
      refine So.gn (b := false) rfl rfl rfl (lk rfl) (lk rfl) ?_
      refine So.gn (b := false) rfl rfl rfl (lk rfl) (lk rfl) ?_
      refine So.gn (b := false) rfl rfl rfl (lk rfl) (lk rfl) ?_
      refine So.n (lk rfl) (A.v rfl (V.pkFalse (u := .p (.v (.bool false))) rfl rfl ?_))
      refine So.n (lk rfl) (A.v rfl (V.mv (v := .p (.v (.bool false))) rfl ?_))
      refine So.gn (b := false) rfl rfl rfl (lk rfl) (lk rfl) ?_
      refine So.gn (b := false) rfl rfl rfl (lk rfl) (lk rfl) ?_
      refine So.gn (b := false) rfl rfl rfl (lk rfl) (lk rfl) ?_
      refine So.gn (b := false) rfl rfl rfl (lk rfl) (lk rfl) ?_
      refine So.gn (b := false) rfl rfl rfl (lk rfl) (lk rfl) ?_
      refine So.gn (b := false) rfl rfl rfl (lk rfl) (lk rfl) ?_
      refine So.gn (b := false) rfl rfl rfl (lk rfl) (lk rfl) ?_
      refine So.n (lk rfl) (A.v rfl (V.pkFalse (u := .p (.v (.bool false))) rfl rfl ?_))
      refine So.n (lk rfl) (A.v rfl (V.as (v := .p (.v (.bool false))) rfl ?_))
      refine So.e ?_
      show HT _ _ _ _ _
      refine HT.seq ?_
      refine HT.region S_rsameE_ok ?_
      refine So.n (lk rfl) (A.v rfl (V.mv (v := .p (.v (.bool false))) rfl ?_))
      refine So.n (lk rfl) (A.v rfl (V.mv (v := .p (.v (.bool false))) rfl ?_))
      refine So.gn (b := false) rfl rfl rfl (lk rfl) (lk rfl) ?_
      refine So.gn (b := false) rfl rfl rfl (lk rfl) (lk rfl) ?_
      refine So.gn (b := false) rfl rfl rfl (lk rfl) (lk rfl) ?_
      refine So.gn (b := false) rfl rfl rfl (lk rfl) (lk rfl) ?_
      refine So.gn (b := false) rfl rfl rfl (lk rfl) (lk rfl) ?_
      refine So.gn (b := false) rfl rfl rfl (lk rfl) (lk rfl) ?_
      refine So.gn (b := false) rfl rfl rfl (lk rfl) (lk rfl) ?_
      refine So.n (lk rfl) (A.v rfl (V.pkFalse (u := .p (.v (.bool false))) rfl rfl ?_))
      refine So.n (lk rfl) (A.v rfl (V.mv (v := .p (.v (.bool false))) rfl ?_))
      refine So.gn (b := false) rfl rfl rfl (lk rfl) (lk rfl) ?_
      refine So.gn (b := false) rfl rfl rfl (lk rfl) (lk rfl) ?_
      refine So.gn (b := false) rfl rfl rfl (lk rfl) (lk rfl) ?_
      refine So.gn (b := false) rfl rfl rfl (lk rfl) (lk rfl) ?_
      refine So.gn (b := false) rfl rfl rfl (lk rfl) (lk rfl) ?_
      refine So.gn (b := false) rfl rfl rfl (lk rfl) (lk rfl) ?_
      refine So.gn (b := false) rfl rfl rfl (lk rfl) (lk rfl) ?_
      refine So.n (lk rfl) (A.v rfl (V.pkFalse (u := .p (.v (.bool false))) rfl rfl ?_))
      refine So.n (lk rfl) (A.v rfl (V.mv (v := .p (.v (.bool false))) rfl ?_))
      refine So.gn (b := false) rfl rfl rfl (lk rfl) (lk rfl) ?_
      refine So.gn (b := false) rfl rfl rfl (lk rfl) (lk rfl) ?_
      refine So.gn (b := false) rfl rfl rfl (lk rfl) (lk rfl) ?_
      refine So.gn (b := false) rfl rfl rfl (lk rfl) (lk rfl) ?_
      refine So.gn (b := false) rfl rfl rfl (lk rfl) (lk rfl) ?_
      refine So.gn (b := false) rfl rfl rfl (lk rfl) (lk rfl) ?_
      refine So.gn (b := false) rfl rfl rfl (lk rfl) (lk rfl) ?_
      refine So.n (lk rfl) (A.v rfl (V.pkFalse (u := .p (.v (.bool false))) rfl rfl ?_))
      refine So.n (lk rfl) (A.v rfl (V.as (v := .p (.v (.bool false))) rfl ?_))
      refine So.e ?_
      show HT _ _ _ _ _
      refine HT.ret ?_
      exact ret_ok (sg []) h rfl rfl rfl trivial ⟨trivial, trivial⟩ rfl ⟨⟨⟨le_bool (by first | exact sameE_no (k := 0) (by omega) (by assumption) | exact sameE_no (k := 1) (by omega) (by assumption) | exact sameE_no (k := 2) (by omega) (by assumption) | exact sameE_no (k := 3) (by omega) (by assumption) | exact sameE_no (k := 4) (by omega) (by assumption) | exact sameE_no (k := 5) (by omega) (by assumption) | exact sameE_all (by assumption) (by assumption) (by assumption) (by assumption) (by assumption) (by assumption)), trivial⟩, trivial⟩, trivial⟩
  · have h1 := of_decide_eq_false h1
    refine So.gn (b := false) rfl rfl rfl (lk rfl) (lk rfl) ?_
    refine So.gn (b := false) rfl rfl rfl (lk rfl) (lk rfl) ?_
    refine So.gn (b := false) rfl rfl rfl (lk rfl) (lk rfl) ?_
    refine So.gn (b := false) rfl rfl rfl (lk rfl) (lk rfl) ?_
    refine So.gn (b := false) rfl rfl rfl (lk rfl) (lk rfl) ?_
    refine So.gn (b := false) rfl rfl rfl (lk rfl) (lk rfl) ?_
    refine So.n (lk rfl) (A.v rfl (V.pkFalse (u := .p (.v (.bool false))) rfl rfl ?_))
    refine So.n (lk rfl) (A.v rfl (V.mv (v := .p (.v (.bool false))) rfl ?_))
    refine So.gn (b := false) rfl rfl rfl (lk rfl) (lk rfl) ?_
    refine So.gn (b := false) rfl rfl rfl (lk rfl) (lk rfl) ?_
    refine So.gn (b := false) rfl rfl rfl (lk rfl) (lk rfl) ?_
    refine So.gn (b := false) rfl rfl rfl (lk rfl) (lk rfl) ?_
    refine So.gn (b := false) rfl rfl rfl (lk rfl) (lk rfl) ?_
    refine So.gn (b := false) rfl rfl rfl (lk rfl) (lk rfl) ?_
    refine So.gn (b := false) rfl rfl rfl (lk rfl) (lk rfl) ?_
    refine So.n (lk rfl) (A.v rfl (V.pkFalse (u := .p (.v (.bool false))) rfl rfl ?_))
    refine So.n (lk rfl) (A.v rfl (V.mv (v := .p (.v (.bool false))) rfl ?_))
    refine So.gn (b := false) rfl rfl rfl (lk rfl) (lk rfl) ?_
    refine So.gn (b := false) rfl rfl rfl (lk rfl) (lk rfl) ?_
    refine So.gn (b := false) rfl rfl rfl (lk rfl) (lk rfl) ?_
    refine So.gn (b := false) rfl rfl rfl (lk rfl) (lk rfl) ?_
    refine So.gn (b := false) rfl rfl rfl (lk rfl) (lk rfl) ?_
    refine So.gn (b := false) rfl rfl rfl (lk rfl) (lk rfl) ?_
    refine So.gn (b := false) rfl rfl rfl (lk rfl) (lk rfl) ?_
    refine So.n (lk rfl) (A.v rfl (V.pkFalse (u := .p (.v (.bool false))) rfl rfl ?_))
    refine So.n (lk rfl) (A.v rfl (V.as (v := .p (.v (.bool false))) rfl ?_))
    refine So.e ?_
    show HT _ _ _ _ _
    refine HT.seq ?_
    refine HT.region S_rsameE_ok ?_
    refine So.n (lk rfl) (A.v rfl (V.mv (v := .p (.v (.bool false))) rfl ?_))
    refine So.n (lk rfl) (A.v rfl (V.mv (v := .p (.v (.bool false))) rfl ?_))
    refine So.gn (b := false) rfl rfl rfl (lk rfl) (lk rfl) ?_
    refine So.gn (b := false) rfl rfl rfl (lk rfl) (lk rfl) ?_
    refine So.gn (b := false) rfl rfl rfl (lk rfl) (lk rfl) ?_
    refine So.gn (b := false) rfl rfl rfl (lk rfl) (lk rfl) ?_
    refine So.gn (b := false) rfl rfl rfl (lk rfl) (lk rfl) ?_
    refine So.gn (b := false) rfl rfl rfl (lk rfl) (lk rfl) ?_
    refine So.gn (b := false) rfl rfl rfl (lk rfl) (lk rfl) ?_
    refine So.n (lk rfl) (A.v rfl (V.pkFalse (u := .p (.v (.bool false))) rfl rfl ?_))
    refine So.n (lk rfl) (A.v rfl (V.mv (v := .p (.v (.bool false))) rfl ?_))
    refine So.gn (b := false) rfl rfl rfl (lk rfl) (lk rfl) ?_
    refine So.gn (b := false) rfl rfl rfl (lk rfl) (lk rfl) ?_
    refine So.gn (b := false) rfl rfl rfl (lk rfl) (lk rfl) ?_
    refine So.gn (b := false) rfl rfl rfl (lk rfl) (lk rfl) ?_
    refine So.gn (b := false) rfl rfl rfl (lk rfl) (lk rfl) ?_
    refine So.gn (b := false) rfl rfl rfl (lk rfl) (lk rfl) ?_
    refine So.gn (b := false) rfl rfl rfl (lk rfl) (lk rfl) ?_
    refine So.n (lk rfl) (A.v rfl (V.pkFalse (u := .p (.v (.bool false))) rfl rfl ?_))
    refine So.n (lk rfl) (A.v rfl (V.mv (v := .p (.v (.bool false))) rfl ?_))
    refine So.gn (b := false) rfl rfl rfl (lk rfl) (lk rfl) ?_
    refine So.gn (b := false) rfl rfl rfl (lk rfl) (lk rfl) ?_
    refine So.gn (b := false) rfl rfl rfl (lk rfl) (lk rfl) ?_
    refine So.gn (b := false) rfl rfl rfl (lk rfl) (lk rfl) ?_
    refine So.gn (b := false) rfl rfl rfl (lk rfl) (lk rfl) ?_
    refine So.gn (b := false) rfl rfl rfl (lk rfl) (lk rfl) ?_
    refine So.gn (b := false) rfl rfl rfl (lk rfl) (lk rfl) ?_
    refine So.n (lk rfl) (A.v rfl (V.pkFalse (u := .p (.v (.bool false))) rfl rfl ?_))
    refine So.n (lk rfl) (A.v rfl (V.as (v := .p (.v (.bool false))) rfl ?_))
    refine So.e ?_
    show HT _ _ _ _ _
    refine HT.ret ?_
    exact ret_ok (sg []) h rfl rfl rfl trivial ⟨trivial, trivial⟩ rfl ⟨⟨⟨le_bool (by first | exact sameE_no (k := 0) (by omega) (by assumption) | exact sameE_no (k := 1) (by omega) (by assumption) | exact sameE_no (k := 2) (by omega) (by assumption) | exact sameE_no (k := 3) (by omega) (by assumption) | exact sameE_no (k := 4) (by omega) (by assumption) | exact sameE_no (k := 5) (by omega) (by assumption) | exact sameE_all (by assumption) (by assumption) (by assumption) (by assumption) (by assumption) (by assumption)), trivial⟩, trivial⟩, trivial⟩

end Go.Vh

set_option linter.unusedVariables false
set_option linter.unusedSimpArgs false
namespace Go.Vh
open Go Go.Vc Go.Proofs Go.Vw

/-! ### sodality/sodalitylaw16.SchedKeys -/
def lawKeysSp : Sp := ⟨[], mkE (α := (List UInt8) × (List UInt8) × (List UInt8)) (fun (i, c, x) => [.p (.bs (i)), .p (.bs (c)), .p (.bs (x))]) (fun (i, c, x) => []) (fun (i, c, x) => True) (fun (i, c, x) => [.p (.v (.bool true))]) (fun (i, c, x) => [])⟩
def S_lawKeys : FuncId → Option Sp := fun f => if f = 8 then some headSp else if f = 9 then some greatSp else if f = 10 then some joinerSp else if f = 11 then some rjoinerSp else if f = 13 then some deriveSp else if f = 14 then some rderiveSp else if f = 12 then some rsameESp else none
theorem S_lawKeys_ok : ∀ f s, S_lawKeys f = some s → FOK Tryd.prog gl f s := fun f s h => by
  unfold S_lawKeys at h
  split at h
  · rename_i e; cases h; subst e; exact head_ok
  split at h
  · rename_i e; cases h; subst e; exact great_ok
  split at h
  · rename_i e; cases h; subst e; exact joiner_ok
  split at h
  · rename_i e; cases h; subst e; exact rjoiner_ok
  split at h
  · rename_i e; cases h; subst e; exact derive_ok
  split at h
  · rename_i e; cases h; subst e; exact rderive_ok
  split at h
  · rename_i e; cases h; subst e; exact rsameE_ok
  cases h
theorem S_lawKeys_det : ∀ f s, S_lawKeys f = some s → SpDet s.sp := fun f s h => by
  unfold S_lawKeys at h
  split at h
  · cases h; exact mkE_det _ _ _ _ _
  split at h
  · cases h; exact mkE_det _ _ _ _ _
  split at h
  · cases h; exact mkE_det _ _ _ _ _
  split at h
  · cases h; exact mkE_det _ _ _ _ _
  split at h
  · cases h; exact mkE_det _ _ _ _ _
  split at h
  · cases h; exact mkE_det _ _ _ _ _
  split at h
  · cases h; exact mkE_det _ _ _ _ _
  cases h
set_option maxHeartbeats 1000000 in
set_option maxRecDepth 20000 in
theorem lawKeys_ok : FOK Tryd.prog gl 3 lawKeysSp := by
  refine FOK.ofE (tyOf_ok Tryd.prog) (slots := [6]) (nt := 54) Tryd.func3 rfl rfl rfl rfl (by decide) 3 (fun ⟨_, _, _⟩ => rfl) (by decide) (fun ⟨_, _, _⟩ => ⟨trivial, trivial, trivial, trivial⟩) ?_
  rintro ⟨i, c, x⟩ kk hlen hpre h
  have hl0 : (i).length ≤ 9223372036854775807 := hlen.1
  have hl1 : (c).length ≤ 9223372036854775807 := hlen.2.1
  have hl2 : (x).length ≤ 9223372036854775807 := hlen.2.2.1
  replace hpre : True := hpre
  show HT (cx Tryd.prog 54 (tyOf Tryd.prog) gl []) _ [(0, .p (.bs (i))), (1, .p (.bs (c))), (2, .p (.bs (x)))] [] _
  have hjl := joinF_len i c x
  refine HT.seq ?_
  refine HT.region S_lawKeys_ok ?_
  refine So.n (lk rfl) (A.v rfl (V.as (v := .p (.v (.bool false))) rfl ?_))
  refine So.e ?_
  show HT _ _ _ _ _
  refine HT.seq ?_
  refine HT.region S_lawKeys_ok ?_
  refine So.n (lk rfl) (A.call0 [] 1 rfl rfl rfl rfl trivial trivial () trivial trivial (by trivial) (Φ := fun _ => True) (fun _ _ => trivial) (.inl rfl) (v := .p (.v (.bool true))) rfl (O' := _) rfl (fun h1 => ?_))
  refine So.n (lk rfl) (A.v rfl (V.as (v := .p (.v (.bool true))) rfl ?_))
  refine So.e ?_
  show HT _ _ _ _ _
  refine HT.seq ?_
  refine HT.seq ?_
  refine HT.region S_lawKeys_ok ?_
  refine So.n (lk rfl) (A.v rfl (V.mv (v := .p (.bs _)) rfl ?_))
  refine So.n (lk rfl) (A.call0 [.p (.bs _)] 1 rfl rfl rfl rfl ⟨trivial, trivial⟩ trivial _ ⟨.refl _, trivial⟩ trivial (by trivial) (Φ := fun _ => True) (fun _ _ => trivial) (.inl rfl) (v := .p (.v (.bool _))) rfl (O' := _) rfl (fun h2 => ?_))
  refine So.n (lk rfl) (A.v rfl (V.mv (v := .p (.v (.bool _))) rfl ?_))
  refine So.gd rfl rfl (lk rfl) (lk rfl) (fun h3 => ?_) (fun h3 => ?_)
  · have h3 := of_decide_eq_false h3
    refine A.v rfl (V.mv (v := .p (.bs _)) rfl ?_)
    refine So.gy rfl rfl (lk rfl) (lk rfl) ?_
    refine A.call0 [.p (.bs _)] 1 rfl rfl rfl rfl ⟨trivial, trivial⟩ trivial _ ⟨.refl _, trivial⟩ trivial (by trivial) (Φ := fun _ => True) (fun _ _ => trivial) (.inl rfl) (v := .p (.v (.bool _))) rfl (O' := _) rfl (fun h4 => ?_)
    refine So.n (lk rfl) (A.v rfl (V.pkFalse (u := .p (.v (.bool _))) rfl rfl ?_))
    refine So.n (lk rfl) (A.v rfl (V.mv (v := .p (.v (.bool _))) rfl ?_))
    refine So.gd rfl rfl (lk rfl) (lk rfl) (fun h5 => ?_) (fun h5 => ?_)
    · have h5 := of_decide_eq_false h5
      refine A.v rfl (V.mv (v := .p (.bs _)) rfl ?_)
      refine So.gy rfl rfl (lk rfl) (lk rfl) ?_
      refine A.call0 [.p (.bs _)] 1 rfl rfl rfl rfl ⟨trivial, trivial⟩ trivial _ ⟨.refl _, trivial⟩ trivial (by trivial) (Φ := fun _ => True) (fun _ _ => trivial) (.inl rfl) (v := .p (.v (.bool _))) rfl (O' := _) rfl (fun h6 => ?_)
      refine So.n (lk rfl) (A.v rfl (V.pkFalse (u := .p (.v (.bool _))) rfl rfl ?_))
      refine So.e ?_
      show HT _ _ _ _ _
      refine R.cond rfl rfl (fun h7 => ?_) (fun h7 => ?_)
      · have h7 := of_decide_eq_true h7
        refine HT.seq ?_
        refine HT.region S_lawKeys_ok ?_
        refine So.n (lk rfl) (A.v rfl (V.mv (v := .p (.v (.bool true))) rfl ?_))
        refine So.n (lk rfl) (A.v rfl (V.as (v := .p (.v (.bool true))) rfl ?_))
        refine So.e ?_
        show HT _ _ _ _ _
        refine HT.ret ?_
        exact ret_ok (sg []) h rfl rfl rfl trivial ⟨trivial, trivial⟩ rfl ⟨⟨⟨le_bool (by first | with_reducible rfl | exact decide_eq_true (sameE_refl _) | exact decide_eq_true (same_lg _ _ _) | exact decide_eq_true (by simp only [take_full]; done) | exact decide_eq_true (by simp only [take_full]; first | rfl | exact sum_lg1 _ _ _ | exact sum_lg2 _ _ _)), trivial⟩, trivial⟩, trivial⟩
      · have h7 := of_decide_eq_false h7
        refine HT.skip ?_
        show HT _ _ _ _ _
        refine HT.seq ?_
        refine HT.region S_lawKeys_ok ?_
        refine So.n (lk rfl) (A.v rfl (V.mv (v := .p (.bs _)) rfl ?_))
        refine So.n (lk rfl) (A.v rfl (V.mv (v := .p (.bs _)) rfl ?_))
        refine So.n (lk rfl) (A.v rfl (V.mv (v := .p (.bs _)) rfl ?_))
        refine So.n (lk rfl) (A.call0F S_lawKeys_ok [.p (.bs _), .p (.bs _), .p (.bs _)] 1 rfl rfl rfl rfl ⟨trivial, trivial, trivial, trivial⟩ trivial (_, _, _) ⟨.refl _, .refl _, .refl _, trivial⟩ trivial (by first | omega | (simp only [List.drop_zero, List.take_length]; omega) | (simp; done) | (simp; omega)) (Φ := fun _ => True) (fun _ _ => trivial) (.inl rfl) (t := 3) (off := 0) rfl (O' := (3, ⟨5, 1, _, true, .bs _⟩) :: _) rfl rfl rfl (y := .p (.bs _)) rfl rfl (fun h8 => ?_))
        refine So.n (lk rfl) (A.v rfl (V.as (v := .p (.bs _)) rfl ?_))
        refine So.e ?_
        show HT _ _ _ _ _
        refine HT.seq ?_
        refine R.tell [(8, .p (.bs (joinF i c x)))] [] [0, 1, 2, 6, 7] [] (fr0 := [(0, .p (.bs _)), (1, .p (.bs _)), (2, .p (.bs _)), (6, .p (.v (.bool false))), (7, .p (.v (.bool true)))]) (O0 := []) rfl rfl ⟨⟨⟨le_bs (by first | rfl | exact take_full _), trivial⟩, ⟨.refl _, trivial⟩, ⟨.refl _, trivial⟩, ⟨.refl _, trivial⟩, ⟨.refl _, trivial⟩, ⟨.refl _, trivial⟩, trivial⟩, trivial⟩ ?_
        show HT _ _ _ _ _
        refine HT.drawn S_lawKeys_ok S_lawKeys_det mixed (by kernel_rfl) ?_
        refine Sd.n (lk rfl) (V.mv (v := .p (.v (.bool true))) rfl ?_)
        refine Sd.n (lk rfl) (V.mv (v := .p (.v (.bool true))) rfl ?_)
        refine Sd.gy rfl rfl (lk rfl) (lk rfl) ?_
        refine V.mv (v := .p (.bs _)) rfl ?_
        refine Sd.gy rfl rfl (lk rfl) (lk rfl) ?_
        refine V.cvBs ty9 rfl rfl ?_
        refine Sd.gy rfl rfl (lk rfl) (lk rfl) ?_
        refine V.mv (v := .p (.bs _)) rfl ?_
        refine Sd.gy rfl rfl (lk rfl) (lk rfl) ?_
        refine V.mv (v := .p (.bs _)) rfl ?_
        refine Sd.gy rfl rfl (lk rfl) (lk rfl) ?_
        refine V.mv (v := .p (.bs _)) rfl ?_
        refine Sd.gy rfl rfl (lk rfl) (lk rfl) ?_
        refine V.call [.p (.bs _), .p (.bs _), .p (.bs _)] 1 rfl rfl rfl rfl ⟨trivial, trivial, trivial, trivial⟩ trivial (_, _, _) ⟨.refl _, .refl _, .refl _, trivial⟩ trivial (by first | omega | (simp only [List.drop_zero, List.take_length]; omega) | (simp; done) | (simp; omega)) (Φ := fun _ => True) (fun _ _ => trivial) (.inl ⟨trivial, trivial, trivial, trivial⟩) (v := .p (.bs _)) rfl (fun h9 => ?_)
        refine Sd.gy rfl rfl (lk rfl) (lk rfl) ?_
        refine V.cvBs ty9 rfl rfl ?_
        refine Sd.gy rfl rfl (lk rfl) (lk rfl) ?_
        refine V.bin (a := (.str _)) (b := (.str _)) (r := .v (.bool _)) rfl rfl rfl trivial ?_
        refine Sd.n (lk rfl) (V.pkTrue (u := .p (.v (.bool _))) rfl rfl ?_)
        refine Sd.n (lk rfl) (V.mv (v := .p (.v (.bool _))) rfl ?_)
        refine Sd.gd rfl rfl (lk rfl) (lk rfl) (fun h10 => ?_) (fun h10 => ?_)
        · have h10 := of_decide_eq_true h10
          refine V.mv (v := .p (.bs _)) rfl ?_
          refine Sd.gy rfl rfl (lk rfl) (lk rfl) ?_
          refine V.mv (v := .p (.bs _)) rfl ?_
          refine Sd.gy rfl rfl (lk rfl) (lk rfl) ?_
          refine V.call [.p (.bs _), .p (.bs _)] 1 rfl rfl rfl rfl ⟨trivial, trivial, trivial⟩ trivial (_, _) ⟨.refl _, .refl _, trivial⟩ trivial (by first | omega | (simp only [List.drop_zero, List.take_length]; omega) | (simp; done) | (simp; omega)) (Φ := fun _ => True) (fun _ _ => trivial) (.inl ⟨trivial, trivial, trivial⟩) (v := .agg 7 _) rfl (fun h11 => ?_)
          refine Sd.gy rfl rfl (lk rfl) (lk rfl) ?_
          refine V.mv (v := .p (.bs _)) rfl ?_
          refine Sd.gy rfl rfl (lk rfl) (lk rfl) ?_
          refine V.mv (v := .p (.bs _)) rfl ?_
          refine Sd.gy rfl rfl (lk rfl) (lk rfl) ?_
          refine V.call [.p (.bs _), .p (.bs _)] 1 rfl rfl rfl rfl ⟨trivial, trivial, trivial⟩ trivial (_, _) ⟨.refl _, .refl _, trivial⟩ trivial (by first | omega | (simp only [List.drop_zero, List.take_length]; omega) | (simp; done) | (simp; omega)) (Φ := fun _ => True) (fun _ _ => trivial) (.inl ⟨trivial, trivial, trivial⟩) (v := .agg 7 _) rfl (fun h12 => ?_)
          refine Sd.gy rfl rfl (lk rfl) (lk rfl) ?_
          refine V.call [.agg 7 _, .agg 7 _] 1 rfl rfl rfl rfl ⟨trivial, trivial, trivial⟩ trivial (_, _) ⟨.refl _, .refl _, trivial⟩ trivial (by trivial) (Φ := fun _ => True) (fun _ _ => trivial) (.inl ⟨trivial, trivial, trivial⟩) (v := .p (.v (.bool _))) rfl (fun h13 => ?_)
          refine Sd.n (lk rfl) (V.pkTrue (u := .p (.v (.bool _))) rfl rfl ?_)
          refine Sd.n (lk rfl) (V.mv (v := .p (.v (.bool _))) rfl ?_)
          refine Sd.gd rfl rfl (lk rfl) (lk rfl) (fun h14 => ?_) (fun h14 => ?_)
          · have h14 := of_decide_eq_true h14
            refine V.mv (v := .p (.bs _)) rfl ?_
            refine Sd.gy rfl rfl (lk rfl) (lk rfl) ?_
            refine V.mv (v := .p (.bs _)) rfl ?_
            refine Sd.gy rfl rfl (lk rfl) (lk rfl) ?_
            refine V.call [.p (.bs _), .p (.bs _)] 1 rfl rfl rfl rfl ⟨trivial, trivial, trivial⟩ trivial (_, _) ⟨.refl _, .refl _, trivial⟩ trivial (by first | omega | (simp only [List.drop_zero, List.take_length]; omega) | (simp; done) | (simp; omega)) (Φ := fun _ => True) (fun _ _ => trivial) (.inl ⟨trivial, trivial, trivial⟩) (v := .agg 7 _) rfl (fun h15 => ?_)
            refine Sd.gy rfl rfl (lk rfl) (lk rfl) ?_
            refine V.mv (v := .p (.bs _)) rfl ?_
            refine Sd.gy rfl rfl (lk rfl) (lk rfl) ?_
            refine V.mv (v := .p (.bs _)) rfl ?_
            refine Sd.gy rfl rfl (lk rfl) (lk rfl) ?_
            refine V.call [.p (.bs _), .p (.bs _)] 1 rfl rfl rfl rfl ⟨trivial, trivial, trivial⟩ trivial (_, _) ⟨.refl _, .refl _, trivial⟩ trivial (by first | omega | (simp only [List.drop_zero, List.take_length]; omega) | (simp; done) | (simp; omega)) (Φ := fun _ => True) (fun _ _ => trivial) (.inl ⟨trivial, trivial, trivial⟩) (v := .agg 7 _) rfl (fun h16 => ?_)
            refine Sd.gy rfl rfl (lk rfl) (lk rfl) ?_
            refine V.call [.agg 7 _, .agg 7 _] 1 rfl rfl rfl rfl ⟨trivial, trivial, trivial⟩ trivial (_, _) ⟨.refl _, .refl _, trivial⟩ trivial (by trivial) (Φ := fun _ => True) (fun _ _ => trivial) (.inl ⟨trivial, trivial, trivial⟩) (v := .p (.v (.bool _))) rfl (fun h17 => ?_)
            refine Sd.n (lk rfl) (V.pkTrue (u := .p (.v (.bool _))) rfl rfl ?_)
            refine Sd.n (lk rfl) (V.as (v := .p (.v (.bool _))) rfl ?_)
            refine Sd.e ?_
            show HT _ _ _ _ _
            refine HT.ret ?_
            exact ret_ok (sg []) h rfl rfl rfl trivial ⟨trivial, trivial⟩ rfl ⟨⟨⟨le_bool (by first | with_reducible rfl | exact decide_eq_true (sameE_refl _) | exact decide_eq_true (same_lg _ _ _) | exact decide_eq_true (by simp only [take_full]; done) | exact decide_eq_true (by simp only [take_full]; first | rfl | exact sum_lg1 _ _ _ | exact sum_lg2 _ _ _)), trivial⟩, trivial⟩, trivial⟩
          · have h14 := of_decide_eq_false h14
            first | exact absurd (by first | (simp only [take_full]; done) | exact sameE_refl _) h14 | exact absurd h14 (by first | (simp only [take_full]; done) | exact sameE_refl _)
        · have h10 := of_decide_eq_false h10
          first | exact absurd (by first | (simp only [take_full]; done) | exact sameE_refl _) h10 | exact absurd h10 (by first | (simp only [take_full]; done) | exact sameE_refl _)
    · have h5 := of_decide_eq_true h5
      refine So.gn (b := true) rfl rfl rfl (lk rfl) (lk rfl) ?_
      refine So.n (lk rfl) (A.v rfl (V.pkTrue (u := .p (.v (.bool true))) rfl rfl ?_))
      refine So.e ?_
      show HT _ _ _ _ _
      refine R.condT rfl ?_
      refine HT.seq ?_
      refine HT.region S_lawKeys_ok ?_
      refine So.n (lk rfl) (A.v rfl (V.mv (v := .p (.v (.bool true))) rfl ?_))
      refine So.n (lk rfl) (A.v rfl (V.as (v := .p (.v (.bool true))) rfl ?_))
      refine So.e ?_
      show HT _ _ _ _ _
      refine HT.ret ?_
      exact ret_ok (sg []) h rfl rfl rfl trivial ⟨trivial, trivial⟩ rfl ⟨⟨⟨le_bool (by first | with_reducible rfl | exact decide_eq_true (sameE_refl _) | exact decide_eq_true (same_lg _ _ _) | exact decide_eq_true (by simp only [take_full]; done) | exact decide_eq_true (by simp only [take_full]; first | rfl | exact sum_lg1 _ _ _ | exact sum_lg2 _ _ _)), trivial⟩, trivial⟩, trivial⟩
  · have h3 := of_decide_eq_true h3
    refine So.gn (b := true) rfl rfl rfl (lk rfl) (lk rfl) ?_
    refine So.n (lk rfl) (A.v rfl (V.pkTrue (u := .p (.v (.bool true))) rfl rfl ?_))
    refine So.n (lk rfl) (A.v rfl (V.mv (v := .p (.v (.bool true))) rfl ?_))
    refine So.gn (b := true) rfl rfl rfl (lk rfl) (lk rfl) ?_
    refine So.gn (b := true) rfl rfl rfl (lk rfl) (lk rfl) ?_
    refine So.n (lk rfl) (A.v rfl (V.pkTrue (u := .p (.v (.bool true))) rfl rfl ?_))
    refine So.e ?_
    show HT _ _ _ _ _
    refine R.condT rfl ?_
    refine HT.seq ?_
    refine HT.region S_lawKeys_ok ?_
    refine So.n (lk rfl) (A.v rfl (V.mv (v := .p (.v (.bool true))) rfl ?_))
    refine So.n (lk rfl) (A.v rfl (V.as (v := .p (.v (.bool true))) rfl ?_))
    refine So.e ?_
    show HT _ _ _ _ _
    refine HT.ret ?_
    exact ret_ok (sg []) h rfl rfl rfl trivial ⟨trivial, trivial⟩ rfl ⟨⟨⟨le_bool (by first | with_reducible rfl | exact decide_eq_true (sameE_refl _) | exact decide_eq_true (same_lg _ _ _) | exact decide_eq_true (by simp only [take_full]; done) | exact decide_eq_true (by simp only [take_full]; first | rfl | exact sum_lg1 _ _ _ | exact sum_lg2 _ _ _)), trivial⟩, trivial⟩, trivial⟩

end Go.Vh
