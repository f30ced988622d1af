/- What is proved: each function of the seat's program does what its contract says, wherever it is called; no condition. -/
import Derived.Test.YtkabppmmdhkmiaaDoorWalk0
set_option linter.unusedVariables false
set_option linter.unusedSimpArgs false
set_option linter.unusedVariables false
set_option linter.unusedSimpArgs false
namespace Go.Vh
open Go Go.Vc Go.Proofs Go.Vw
def rnumSp : Sp := ⟨[], mkE (α := Int × Int) (fun (n, k) => [.p (.v (.int .i64 (n))), .p (.v (.int .i64 (k)))]) (fun (n, k) => []) (fun (n, k) => True) (fun (n, k) => [.own 1 (0) ((numF n k).length)]) (fun (n, k) => [(1, ⟨5, 1, (numF n k).length, true, .bs (numF n k)⟩)])⟩
def S_rnum : FuncId → Option Sp := fun _ => none
theorem S_rnum_ok : ∀ f s, S_rnum f = some s → FOK Tryd.prog gl f s := fun f s h => by cases h
set_option maxHeartbeats 1000000 in
set_option maxRecDepth 1000 in
theorem rnum_ok : FOK Tryd.prog gl 41 rnumSp := by
 refine FOK.ofE (tyOf_ok Tryd.prog) (slots := [4]) (nt := 51) Tryd.func41 rfl rfl rfl rfl (by decide) 2 (fun ⟨_, _⟩ => rfl) (by decide) (fun ⟨_, _⟩ => ⟨trivial, trivial, trivial⟩) ?_
 rintro ⟨n, k⟩ kk hlen hpre h
 replace hpre : True := hpre
 show HT (cx Tryd.prog 51 (tyOf Tryd.prog) gl []) _ [(0, .p (.v (.int .i64 (n)))), (1, .p (.v (.int .i64 (k))))] [] _
 refine HT.seq ?_
 refine HT.region S_rnum_ok ?_
 refine So.q rfl rfl (V.as (v := .p (.v (.slice none 0 0))) rfl ?_)
 refine So.e ?_
 show HT _ _ _ _ _
 refine R.cut ((k = 1 ∨ k = 2 ∨ k = 4 ∨ k = 8) ∧ 0 ≤ n ∧ ¬ (k < 8 ∧ ¬ iShr .i64 n (8 * k).toNat = 0)) [] [] [0, 1] [] (fr0 := [(0, .p (.v (.int .i64 _))), (1, .p (.v (.int .i64 _)))]) (O0 := []) rfl rfl ?_ (fun hphi => ?_)
 ·refine HT.seq ?_
  refine HT.region S_rnum_ok ?_
  refine So.q rfl rfl (V.mv (v := .p (.v (.int .i64 _))) rfl ?_)
  refine So.q rfl rfl (V.bin (a := (.v (.int .i64 _))) (b := (.v (.int .i64 (1)))) (r := .v (.bool _)) rfl rfl rfl trivial ?_)
  refine So.q rfl rfl (V.mv (v := .p (.v (.bool _))) rfl ?_)
  refine So.gd rfl rfl (lk rfl) (lk rfl) (fun h1 => ?_) (fun h1 => ?_)
  ·have h1 := of_decide_eq_false (bnT h1)
   refine A.v rfl (V.mv (v := .p (.v (.int .i64 _))) rfl ?_)
   refine So.gy rfl rfl (lk rfl) (lk rfl) ?_
   refine A.v rfl (V.bin (a := (.v (.int .i64 _))) (b := (.v (.int .i64 (2)))) (r := .v (.bool _)) rfl rfl rfl trivial ?_)
   refine So.q rfl rfl (V.pkTrue (u := .p (.v (.bool _))) rfl rfl ?_)
   refine So.q rfl rfl (V.mv (v := .p (.v (.bool _))) rfl ?_)
   refine So.gd rfl rfl (lk rfl) (lk rfl) (fun h2 => ?_) (fun h2 => ?_)
   ·have h2 := of_decide_eq_false (bnT h2)
    refine A.v rfl (V.mv (v := .p (.v (.int .i64 _))) rfl ?_)
    refine So.gy rfl rfl (lk rfl) (lk rfl) ?_
    refine A.v rfl (V.bin (a := (.v (.int .i64 _))) (b := (.v (.int .i64 (4)))) (r := .v (.bool _)) rfl rfl rfl trivial ?_)
    refine So.q rfl rfl (V.pkTrue (u := .p (.v (.bool _))) rfl rfl ?_)
    refine So.q rfl rfl (V.mv (v := .p (.v (.bool _))) rfl ?_)
    refine So.gd rfl rfl (lk rfl) (lk rfl) (fun h3 => ?_) (fun h3 => ?_)
    ·have h3 := of_decide_eq_false (bnT h3)
     refine A.v rfl (V.mv (v := .p (.v (.int .i64 _))) rfl ?_)
     refine So.gy rfl rfl (lk rfl) (lk rfl) ?_
     refine A.v rfl (V.bin (a := (.v (.int .i64 _))) (b := (.v (.int .i64 (8)))) (r := .v (.bool _)) rfl rfl rfl trivial ?_)
     refine So.q rfl rfl (V.pkTrue (u := .p (.v (.bool _))) rfl rfl ?_)
     refine So.q rfl rfl (V.mv (v := .p (.v (.bool _))) rfl ?_)
     refine So.gd rfl rfl (lk rfl) (lk rfl) (fun h4 => ?_) (fun h4 => ?_)
     ·have h4 := of_decide_eq_true (bnF h4)
      refine A.v rfl (V.mv (v := .p (.v (.int .i64 _))) rfl ?_)
      refine So.gy rfl rfl (lk rfl) (lk rfl) ?_
      refine A.v rfl (V.bin (a := (.v (.int .i64 _))) (b := (.v (.int .i64 (0)))) (r := .v (.bool _)) rfl rfl rfl trivial ?_)
      refine So.q rfl rfl (V.pkFalse (u := .p (.v (.bool _))) rfl rfl ?_)
      refine So.q rfl rfl (V.mv (v := .p (.v (.bool _))) rfl ?_)
      refine So.gd rfl rfl (lk rfl) (lk rfl) (fun h5 => ?_) (fun h5 => ?_)
      ·have h5 := of_decide_eq_false h5
       refine A.v rfl (V.mv (v := .p (.v (.int .i64 _))) rfl ?_)
       refine So.gy rfl rfl (lk rfl) (lk rfl) ?_
       refine A.v rfl (V.bin (a := (.v (.int .i64 _))) (b := (.v (.int .i64 (8)))) (r := .v (.bool _)) rfl rfl rfl trivial ?_)
       refine So.gy rfl rfl (lk rfl) (lk rfl) ?_
       refine A.v rfl (V.mv (v := .p (.v (.bool _))) rfl ?_)
       refine So.gd rfl rfl (lk rfl) (lk rfl) (fun h6 => ?_) (fun h6 => ?_)
       ·have h6 := of_decide_eq_true h6
        refine A.v rfl (V.mv (v := .p (.v (.int .i64 _))) rfl ?_)
        refine So.gy rfl rfl (lk rfl) (lk rfl) ?_
        refine A.v rfl (V.mv (v := .p (.v (.int .i64 _))) rfl ?_)
        refine So.gy rfl rfl (lk rfl) (lk rfl) ?_
        refine A.v rfl (V.mulI rfl rfl (by omega) ?_)
        refine So.gy rfl rfl (lk rfl) (lk rfl) ?_
        refine A.v rfl (V.bin (a := (.v (.int .i64 _))) (b := (.v (.int .i64 _))) (r := .v (.int .i64 _)) rfl rfl rfl (by first | rfl | omega | (simp; done) | (simp; omega)) ?_)
        refine So.gy rfl rfl (lk rfl) (lk rfl) ?_
        refine A.v rfl (V.bin (a := (.v (.int .i64 _))) (b := (.v (.int .i64 (0)))) (r := .v (.bool _)) rfl rfl rfl trivial ?_)
        refine So.gy rfl rfl (lk rfl) (lk rfl) ?_
        refine A.v rfl (V.pkTrue (u := .p (.v (.bool _))) rfl rfl ?_)
        refine So.q rfl rfl (V.pkFalse (u := .p (.v (.bool _))) rfl rfl ?_)
        refine So.e ?_
        show HT _ _ _ _ _
        refine R.cond rfl rfl (fun h7 => ?_) (fun h7 => ?_)
        ·have h7 := of_decide_eq_false (bnT h7)
         refine HT.seq ?_
         refine HT.region S_rnum_ok ?_
         refine So.q rfl rfl (V.as (v := .p (.v (.slice none 0 0))) rfl ?_)
         refine So.e ?_
         show HT _ _ _ _ _
         refine R.phan 4 1 5 1 (.bs []) rfl rfl rfl ⟨rfl, rfl⟩ ?_
         refine HT.ret ?_
         exact ret_ok (sg [(1, 1)]) h rfl rfl rfl ⟨trivial, trivial⟩ ⟨rfl, trivial⟩ rfl ⟨⟨⟨le_own2 (by first | rfl | omega) (by first | rfl | (rw [numF_bad (by omega)] <;> rfl) | (rw [numF_big (by omega) (by have := @shr_zero n k (by omega) (by omega); omega)] <;> rfl) | (rw [numF_ok (by omega) (by omega) (by rintro ⟨h8, h9⟩; have := @shr_zero n k (by omega) (by omega); omega), numB_len]; omega) | (rw [numF_ok (by omega) (by omega) (by rintro ⟨h8, h9⟩; have := @shr_zero n k (by omega) (by omega); omega), List.take_of_length_le (by rw [numB_len]; omega)])), rfl⟩, trivial⟩, ⟨⟨_, rfl, .inl (ob_bs (by first | rfl | ((try dsimp only); (first | rfl | (rw [numF_bad (by omega)] <;> rfl) | (rw [numF_big (by omega) (by have := @shr_zero n k (by omega) (by omega); omega)] <;> rfl) | (rw [numF_ok (by omega) (by omega) (by rintro ⟨h8, h9⟩; have := @shr_zero n k (by omega) (by omega); omega), numB_len]; omega) | (rw [numF_ok (by omega) (by omega) (by rintro ⟨h8, h9⟩; have := @shr_zero n k (by omega) (by omega); omega), List.take_of_length_le (by rw [numB_len]; omega)])))) (by first | rfl | ((try dsimp only); (first | rfl | (rw [numF_bad (by omega)] <;> rfl) | (rw [numF_big (by omega) (by have := @shr_zero n k (by omega) (by omega); omega)] <;> rfl) | (rw [numF_ok (by omega) (by omega) (by rintro ⟨h8, h9⟩; have := @shr_zero n k (by omega) (by omega); omega), numB_len]; omega) | (rw [numF_ok (by omega) (by omega) (by rintro ⟨h8, h9⟩; have := @shr_zero n k (by omega) (by omega); omega), List.take_of_length_le (by rw [numB_len]; omega)]))))), trivial⟩, trivial⟩⟩
        ·have h7 := of_decide_eq_true (bnF h7)
         refine HT.skip ?_
         exact ⟨by omega, ⟨⟨⟨.refl _, trivial⟩, ⟨.refl _, trivial⟩, trivial⟩, trivial⟩⟩
       ·have h6 := of_decide_eq_false h6
        refine So.gn (b := false) rfl rfl rfl (lk rfl) (lk rfl) ?_
        refine So.gn (b := false) rfl rfl rfl (lk rfl) (lk rfl) ?_
        refine So.gn (b := false) rfl rfl rfl (lk rfl) (lk rfl) ?_
        refine So.gn (b := false) rfl rfl rfl (lk rfl) (lk rfl) ?_
        refine So.gy rfl rfl (lk rfl) (lk rfl) ?_
        refine A.v rfl (V.pkFalse (u := .p (.v (.bool false))) rfl rfl ?_)
        refine So.q rfl rfl (V.pkFalse (u := .p (.v (.bool false))) rfl rfl ?_)
        refine So.e ?_
        show HT _ _ _ _ _
        refine R.condF rfl ?_
        refine HT.skip ?_
        exact ⟨by omega, ⟨⟨⟨.refl _, trivial⟩, ⟨.refl _, trivial⟩, trivial⟩, trivial⟩⟩
      ·have h5 := of_decide_eq_true h5
       refine So.gn (b := true) rfl rfl rfl (lk rfl) (lk rfl) ?_
       refine So.gn (b := true) rfl rfl rfl (lk rfl) (lk rfl) ?_
       refine So.gu rfl rfl (lk rfl) ?_
       refine So.gu rfl rfl (lk rfl) ?_
       refine So.gu rfl rfl (lk rfl) ?_
       refine So.gu rfl rfl (lk rfl) ?_
       refine So.gu rfl rfl (lk rfl) ?_
       refine So.gn (b := true) rfl rfl rfl (lk rfl) (lk rfl) ?_
       refine So.q rfl rfl (V.pkTrue (u := .p (.v (.bool true))) rfl rfl ?_)
       refine So.e ?_
       show HT _ _ _ _ _
       refine R.condT rfl ?_
       refine HT.seq ?_
       refine HT.region S_rnum_ok ?_
       refine So.q rfl rfl (V.as (v := .p (.v (.slice none 0 0))) rfl ?_)
       refine So.e ?_
       show HT _ _ _ _ _
       refine R.phan 4 1 5 1 (.bs []) rfl rfl rfl ⟨rfl, rfl⟩ ?_
       refine HT.ret ?_
       exact ret_ok (sg [(1, 1)]) h rfl rfl rfl ⟨trivial, trivial⟩ ⟨rfl, trivial⟩ rfl ⟨⟨⟨le_own2 (by first | rfl | omega) (by first | rfl | (rw [numF_bad (by omega)] <;> rfl) | (rw [numF_big (by omega) (by have := @shr_zero n k (by omega) (by omega); omega)] <;> rfl) | (rw [numF_ok (by omega) (by omega) (by rintro ⟨h8, h9⟩; have := @shr_zero n k (by omega) (by omega); omega), numB_len]; omega) | (rw [numF_ok (by omega) (by omega) (by rintro ⟨h8, h9⟩; have := @shr_zero n k (by omega) (by omega); omega), List.take_of_length_le (by rw [numB_len]; omega)])), rfl⟩, trivial⟩, ⟨⟨_, rfl, .inl (ob_bs (by first | rfl | ((try dsimp only); (first | rfl | (rw [numF_bad (by omega)] <;> rfl) | (rw [numF_big (by omega) (by have := @shr_zero n k (by omega) (by omega); omega)] <;> rfl) | (rw [numF_ok (by omega) (by omega) (by rintro ⟨h8, h9⟩; have := @shr_zero n k (by omega) (by omega); omega), numB_len]; omega) | (rw [numF_ok (by omega) (by omega) (by rintro ⟨h8, h9⟩; have := @shr_zero n k (by omega) (by omega); omega), List.take_of_length_le (by rw [numB_len]; omega)])))) (by first | rfl | ((try dsimp only); (first | rfl | (rw [numF_bad (by omega)] <;> rfl) | (rw [numF_big (by omega) (by have := @shr_zero n k (by omega) (by omega); omega)] <;> rfl) | (rw [numF_ok (by omega) (by omega) (by rintro ⟨h8, h9⟩; have := @shr_zero n k (by omega) (by omega); omega), numB_len]; omega) | (rw [numF_ok (by omega) (by omega) (by rintro ⟨h8, h9⟩; have := @shr_zero n k (by omega) (by omega); omega), List.take_of_length_le (by rw [numB_len]; omega)]))))), trivial⟩, trivial⟩⟩
     ·have h4 := of_decide_eq_false (bnT h4)
      refine So.gn (b := true) rfl rfl rfl (lk rfl) (lk rfl) ?_
      refine So.q rfl rfl (V.pkTrue (u := .p (.v (.bool true))) rfl rfl ?_)
      refine So.q rfl rfl (V.mv (v := .p (.v (.bool true))) rfl ?_)
      refine So.gn (b := true) rfl rfl rfl (lk rfl) (lk rfl) ?_
      refine So.gn (b := true) rfl rfl rfl (lk rfl) (lk rfl) ?_
      refine So.gn (b := true) rfl rfl rfl (lk rfl) (lk rfl) ?_
      refine So.gu rfl rfl (lk rfl) ?_
      refine So.gu rfl rfl (lk rfl) ?_
      refine So.gu rfl rfl (lk rfl) ?_
      refine So.gu rfl rfl (lk rfl) ?_
      refine So.gu rfl rfl (lk rfl) ?_
      refine So.gn (b := true) rfl rfl rfl (lk rfl) (lk rfl) ?_
      refine So.q rfl rfl (V.pkTrue (u := .p (.v (.bool true))) rfl rfl ?_)
      refine So.e ?_
      show HT _ _ _ _ _
      refine R.condT rfl ?_
      refine HT.seq ?_
      refine HT.region S_rnum_ok ?_
      refine So.q rfl rfl (V.as (v := .p (.v (.slice none 0 0))) rfl ?_)
      refine So.e ?_
      show HT _ _ _ _ _
      refine R.phan 4 1 5 1 (.bs []) rfl rfl rfl ⟨rfl, rfl⟩ ?_
      refine HT.ret ?_
      exact ret_ok (sg [(1, 1)]) h rfl rfl rfl ⟨trivial, trivial⟩ ⟨rfl, trivial⟩ rfl ⟨⟨⟨le_own2 (by first | rfl | omega) (by first | rfl | (rw [numF_bad (by omega)] <;> rfl) | (rw [numF_big (by omega) (by have := @shr_zero n k (by omega) (by omega); omega)] <;> rfl) | (rw [numF_ok (by omega) (by omega) (by rintro ⟨h8, h9⟩; have := @shr_zero n k (by omega) (by omega); omega), numB_len]; omega) | (rw [numF_ok (by omega) (by omega) (by rintro ⟨h8, h9⟩; have := @shr_zero n k (by omega) (by omega); omega), List.take_of_length_le (by rw [numB_len]; omega)])), rfl⟩, trivial⟩, ⟨⟨_, rfl, .inl (ob_bs (by first | rfl | ((try dsimp only); (first | rfl | (rw [numF_bad (by omega)] <;> rfl) | (rw [numF_big (by omega) (by have := @shr_zero n k (by omega) (by omega); omega)] <;> rfl) | (rw [numF_ok (by omega) (by omega) (by rintro ⟨h8, h9⟩; have := @shr_zero n k (by omega) (by omega); omega), numB_len]; omega) | (rw [numF_ok (by omega) (by omega) (by rintro ⟨h8, h9⟩; have := @shr_zero n k (by omega) (by omega); omega), List.take_of_length_le (by rw [numB_len]; omega)])))) (by first | rfl | ((try dsimp only); (first | rfl | (rw [numF_bad (by omega)] <;> rfl) | (rw [numF_big (by omega) (by have := @shr_zero n k (by omega) (by omega); omega)] <;> rfl) | (rw [numF_ok (by omega) (by omega) (by rintro ⟨h8, h9⟩; have := @shr_zero n k (by omega) (by omega); omega), numB_len]; omega) | (rw [numF_ok (by omega) (by omega) (by rintro ⟨h8, h9⟩; have := @shr_zero n k (by omega) (by omega); omega), List.take_of_length_le (by rw [numB_len]; omega)]))))), trivial⟩, trivial⟩⟩
    ·have h3 := of_decide_eq_true (bnF h3)
     refine So.gn (b := false) rfl rfl rfl (lk rfl) (lk rfl) ?_
     refine So.q rfl rfl (V.pkFalse (u := .p (.v (.bool false))) rfl rfl ?_)
     refine So.q rfl rfl (V.mv (v := .p (.v (.bool false))) rfl ?_)
     refine So.gy rfl rfl (lk rfl) (lk rfl) ?_
     refine A.v rfl (V.mv (v := .p (.v (.int .i64 _))) rfl ?_)
     refine So.gy rfl rfl (lk rfl) (lk rfl) ?_
     refine A.v rfl (V.bin (a := (.v (.int .i64 _))) (b := (.v (.int .i64 (0)))) (r := .v (.bool _)) rfl rfl rfl trivial ?_)
     refine So.q rfl rfl (V.pkFalse (u := .p (.v (.bool _))) rfl rfl ?_)
     refine So.q rfl rfl (V.mv (v := .p (.v (.bool _))) rfl ?_)
     refine So.gd rfl rfl (lk rfl) (lk rfl) (fun h8 => ?_) (fun h8 => ?_)
     ·have h8 := of_decide_eq_false h8
      refine A.v rfl (V.mv (v := .p (.v (.int .i64 _))) rfl ?_)
      refine So.gy rfl rfl (lk rfl) (lk rfl) ?_
      refine A.v rfl (V.bin (a := (.v (.int .i64 _))) (b := (.v (.int .i64 (8)))) (r := .v (.bool _)) rfl rfl rfl trivial ?_)
      refine So.gy rfl rfl (lk rfl) (lk rfl) ?_
      refine A.v rfl (V.mv (v := .p (.v (.bool _))) rfl ?_)
      refine So.gd rfl rfl (lk rfl) (lk rfl) (fun h9 => ?_) (fun h9 => ?_)
      ·have h9 := of_decide_eq_true h9
       refine A.v rfl (V.mv (v := .p (.v (.int .i64 _))) rfl ?_)
       refine So.gy rfl rfl (lk rfl) (lk rfl) ?_
       refine A.v rfl (V.mv (v := .p (.v (.int .i64 _))) rfl ?_)
       refine So.gy rfl rfl (lk rfl) (lk rfl) ?_
       refine A.v rfl (V.mulI rfl rfl (by omega) ?_)
       refine So.gy rfl rfl (lk rfl) (lk rfl) ?_
       refine A.v rfl (V.bin (a := (.v (.int .i64 _))) (b := (.v (.int .i64 _))) (r := .v (.int .i64 _)) rfl rfl rfl (by first | rfl | omega | (simp; done) | (simp; omega)) ?_)
       refine So.gy rfl rfl (lk rfl) (lk rfl) ?_
       refine A.v rfl (V.bin (a := (.v (.int .i64 _))) (b := (.v (.int .i64 (0)))) (r := .v (.bool _)) rfl rfl rfl trivial ?_)
       refine So.gy rfl rfl (lk rfl) (lk rfl) ?_
       refine A.v rfl (V.pkTrue (u := .p (.v (.bool _))) rfl rfl ?_)
       refine So.q rfl rfl (V.pkFalse (u := .p (.v (.bool _))) rfl rfl ?_)
       refine So.e ?_
       show HT _ _ _ _ _
       refine R.cond rfl rfl (fun h10 => ?_) (fun h10 => ?_)
       ·have h10 := of_decide_eq_false (bnT h10)
        refine HT.seq ?_
        refine HT.region S_rnum_ok ?_
        refine So.q rfl rfl (V.as (v := .p (.v (.slice none 0 0))) rfl ?_)
        refine So.e ?_
        show HT _ _ _ _ _
        refine R.phan 4 1 5 1 (.bs []) rfl rfl rfl ⟨rfl, rfl⟩ ?_
        refine HT.ret ?_
        exact ret_ok (sg [(1, 1)]) h rfl rfl rfl ⟨trivial, trivial⟩ ⟨rfl, trivial⟩ rfl ⟨⟨⟨le_own2 (by first | rfl | omega) (by first | rfl | (rw [numF_bad (by omega)] <;> rfl) | (rw [numF_big (by omega) (by have := @shr_zero n k (by omega) (by omega); omega)] <;> rfl) | (rw [numF_ok (by omega) (by omega) (by rintro ⟨h8, h9⟩; have := @shr_zero n k (by omega) (by omega); omega), numB_len]; omega) | (rw [numF_ok (by omega) (by omega) (by rintro ⟨h8, h9⟩; have := @shr_zero n k (by omega) (by omega); omega), List.take_of_length_le (by rw [numB_len]; omega)])), rfl⟩, trivial⟩, ⟨⟨_, rfl, .inl (ob_bs (by first | rfl | ((try dsimp only); (first | rfl | (rw [numF_bad (by omega)] <;> rfl) | (rw [numF_big (by omega) (by have := @shr_zero n k (by omega) (by omega); omega)] <;> rfl) | (rw [numF_ok (by omega) (by omega) (by rintro ⟨h8, h9⟩; have := @shr_zero n k (by omega) (by omega); omega), numB_len]; omega) | (rw [numF_ok (by omega) (by omega) (by rintro ⟨h8, h9⟩; have := @shr_zero n k (by omega) (by omega); omega), List.take_of_length_le (by rw [numB_len]; omega)])))) (by first | rfl | ((try dsimp only); (first | rfl | (rw [numF_bad (by omega)] <;> rfl) | (rw [numF_big (by omega) (by have := @shr_zero n k (by omega) (by omega); omega)] <;> rfl) | (rw [numF_ok (by omega) (by omega) (by rintro ⟨h8, h9⟩; have := @shr_zero n k (by omega) (by omega); omega), numB_len]; omega) | (rw [numF_ok (by omega) (by omega) (by rintro ⟨h8, h9⟩; have := @shr_zero n k (by omega) (by omega); omega), List.take_of_length_le (by rw [numB_len]; omega)]))))), trivial⟩, trivial⟩⟩
       ·have h10 := of_decide_eq_true (bnF h10)
        refine HT.skip ?_
        exact ⟨by omega, ⟨⟨⟨.refl _, trivial⟩, ⟨.refl _, trivial⟩, trivial⟩, trivial⟩⟩
      ·have h9 := of_decide_eq_false h9
       refine So.gn (b := false) rfl rfl rfl (lk rfl) (lk rfl) ?_
       refine So.gn (b := false) rfl rfl rfl (lk rfl) (lk rfl) ?_
       refine So.gn (b := false) rfl rfl rfl (lk rfl) (lk rfl) ?_
       refine So.gn (b := false) rfl rfl rfl (lk rfl) (lk rfl) ?_
       refine So.gy rfl rfl (lk rfl) (lk rfl) ?_
       refine A.v rfl (V.pkFalse (u := .p (.v (.bool false))) rfl rfl ?_)
       refine So.q rfl rfl (V.pkFalse (u := .p (.v (.bool false))) rfl rfl ?_)
       refine So.e ?_
       show HT _ _ _ _ _
       refine R.condF rfl ?_
       refine HT.skip ?_
       exact ⟨by omega, ⟨⟨⟨.refl _, trivial⟩, ⟨.refl _, trivial⟩, trivial⟩, trivial⟩⟩
     ·have h8 := of_decide_eq_true h8
      refine So.gn (b := true) rfl rfl rfl (lk rfl) (lk rfl) ?_
      refine So.gn (b := true) rfl rfl rfl (lk rfl) (lk rfl) ?_
      refine So.gu rfl rfl (lk rfl) ?_
      refine So.gu rfl rfl (lk rfl) ?_
      refine So.gu rfl rfl (lk rfl) ?_
      refine So.gu rfl rfl (lk rfl) ?_
      refine So.gu rfl rfl (lk rfl) ?_
      refine So.gn (b := true) rfl rfl rfl (lk rfl) (lk rfl) ?_
      refine So.q rfl rfl (V.pkTrue (u := .p (.v (.bool true))) rfl rfl ?_)
      refine So.e ?_
      show HT _ _ _ _ _
      refine R.condT rfl ?_
      refine HT.seq ?_
      refine HT.region S_rnum_ok ?_
      refine So.q rfl rfl (V.as (v := .p (.v (.slice none 0 0))) rfl ?_)
      refine So.e ?_
      show HT _ _ _ _ _
      refine R.phan 4 1 5 1 (.bs []) rfl rfl rfl ⟨rfl, rfl⟩ ?_
      refine HT.ret ?_
      exact ret_ok (sg [(1, 1)]) h rfl rfl rfl ⟨trivial, trivial⟩ ⟨rfl, trivial⟩ rfl ⟨⟨⟨le_own2 (by first | rfl | omega) (by first | rfl | (rw [numF_bad (by omega)] <;> rfl) | (rw [numF_big (by omega) (by have := @shr_zero n k (by omega) (by omega); omega)] <;> rfl) | (rw [numF_ok (by omega) (by omega) (by rintro ⟨h8, h9⟩; have := @shr_zero n k (by omega) (by omega); omega), numB_len]; omega) | (rw [numF_ok (by omega) (by omega) (by rintro ⟨h8, h9⟩; have := @shr_zero n k (by omega) (by omega); omega), List.take_of_length_le (by rw [numB_len]; omega)])), rfl⟩, trivial⟩, ⟨⟨_, rfl, .inl (ob_bs (by first | rfl | ((try dsimp only); (first | rfl | (rw [numF_bad (by omega)] <;> rfl) | (rw [numF_big (by omega) (by have := @shr_zero n k (by omega) (by omega); omega)] <;> rfl) | (rw [numF_ok (by omega) (by omega) (by rintro ⟨h8, h9⟩; have := @shr_zero n k (by omega) (by omega); omega), numB_len]; omega) | (rw [numF_ok (by omega) (by omega) (by rintro ⟨h8, h9⟩; have := @shr_zero n k (by omega) (by omega); omega), List.take_of_length_le (by rw [numB_len]; omega)])))) (by first | rfl | ((try dsimp only); (first | rfl | (rw [numF_bad (by omega)] <;> rfl) | (rw [numF_big (by omega) (by have := @shr_zero n k (by omega) (by omega); omega)] <;> rfl) | (rw [numF_ok (by omega) (by omega) (by rintro ⟨h8, h9⟩; have := @shr_zero n k (by omega) (by omega); omega), numB_len]; omega) | (rw [numF_ok (by omega) (by omega) (by rintro ⟨h8, h9⟩; have := @shr_zero n k (by omega) (by omega); omega), List.take_of_length_le (by rw [numB_len]; omega)]))))), trivial⟩, trivial⟩⟩
   ·have h2 := of_decide_eq_true (bnF h2)
    refine So.gn (b := false) rfl rfl rfl (lk rfl) (lk rfl) ?_
    refine So.q rfl rfl (V.pkFalse (u := .p (.v (.bool false))) rfl rfl ?_)
    refine So.q rfl rfl (V.mv (v := .p (.v (.bool false))) rfl ?_)
    refine So.gn (b := false) rfl rfl rfl (lk rfl) (lk rfl) ?_
    refine So.gn (b := false) rfl rfl rfl (lk rfl) (lk rfl) ?_
    refine So.q rfl rfl (V.pkFalse (u := .p (.v (.bool false))) rfl rfl ?_)
    refine So.q rfl rfl (V.mv (v := .p (.v (.bool false))) rfl ?_)
    refine So.gy rfl rfl (lk rfl) (lk rfl) ?_
    refine A.v rfl (V.mv (v := .p (.v (.int .i64 _))) rfl ?_)
    refine So.gy rfl rfl (lk rfl) (lk rfl) ?_
    refine A.v rfl (V.bin (a := (.v (.int .i64 _))) (b := (.v (.int .i64 (0)))) (r := .v (.bool _)) rfl rfl rfl trivial ?_)
    refine So.q rfl rfl (V.pkFalse (u := .p (.v (.bool _))) rfl rfl ?_)
    refine So.q rfl rfl (V.mv (v := .p (.v (.bool _))) rfl ?_)
    refine So.gd rfl rfl (lk rfl) (lk rfl) (fun h11 => ?_) (fun h11 => ?_)
    ·have h11 := of_decide_eq_false h11
     refine A.v rfl (V.mv (v := .p (.v (.int .i64 _))) rfl ?_)
     refine So.gy rfl rfl (lk rfl) (lk rfl) ?_
     refine A.v rfl (V.bin (a := (.v (.int .i64 _))) (b := (.v (.int .i64 (8)))) (r := .v (.bool _)) rfl rfl rfl trivial ?_)
     refine So.gy rfl rfl (lk rfl) (lk rfl) ?_
     refine A.v rfl (V.mv (v := .p (.v (.bool _))) rfl ?_)
     refine So.gd rfl rfl (lk rfl) (lk rfl) (fun h12 => ?_) (fun h12 => ?_)
     ·have h12 := of_decide_eq_true h12
      refine A.v rfl (V.mv (v := .p (.v (.int .i64 _))) rfl ?_)
      refine So.gy rfl rfl (lk rfl) (lk rfl) ?_
      refine A.v rfl (V.mv (v := .p (.v (.int .i64 _))) rfl ?_)
      refine So.gy rfl rfl (lk rfl) (lk rfl) ?_
      refine A.v rfl (V.mulI rfl rfl (by omega) ?_)
      refine So.gy rfl rfl (lk rfl) (lk rfl) ?_
      refine A.v rfl (V.bin (a := (.v (.int .i64 _))) (b := (.v (.int .i64 _))) (r := .v (.int .i64 _)) rfl rfl rfl (by first | rfl | omega | (simp; done) | (simp; omega)) ?_)
      refine So.gy rfl rfl (lk rfl) (lk rfl) ?_
      refine A.v rfl (V.bin (a := (.v (.int .i64 _))) (b := (.v (.int .i64 (0)))) (r := .v (.bool _)) rfl rfl rfl trivial ?_)
      refine So.gy rfl rfl (lk rfl) (lk rfl) ?_
      refine A.v rfl (V.pkTrue (u := .p (.v (.bool _))) rfl rfl ?_)
      refine So.q rfl rfl (V.pkFalse (u := .p (.v (.bool _))) rfl rfl ?_)
      refine So.e ?_
      show HT _ _ _ _ _
      refine R.cond rfl rfl (fun h13 => ?_) (fun h13 => ?_)
      ·have h13 := of_decide_eq_false (bnT h13)
       refine HT.seq ?_
       refine HT.region S_rnum_ok ?_
       refine So.q rfl rfl (V.as (v := .p (.v (.slice none 0 0))) rfl ?_)
       refine So.e ?_
       show HT _ _ _ _ _
       refine R.phan 4 1 5 1 (.bs []) rfl rfl rfl ⟨rfl, rfl⟩ ?_
       refine HT.ret ?_
       exact ret_ok (sg [(1, 1)]) h rfl rfl rfl ⟨trivial, trivial⟩ ⟨rfl, trivial⟩ rfl ⟨⟨⟨le_own2 (by first | rfl | omega) (by first | rfl | (rw [numF_bad (by omega)] <;> rfl) | (rw [numF_big (by omega) (by have := @shr_zero n k (by omega) (by omega); omega)] <;> rfl) | (rw [numF_ok (by omega) (by omega) (by rintro ⟨h8, h9⟩; have := @shr_zero n k (by omega) (by omega); omega), numB_len]; omega) | (rw [numF_ok (by omega) (by omega) (by rintro ⟨h8, h9⟩; have := @shr_zero n k (by omega) (by omega); omega), List.take_of_length_le (by rw [numB_len]; omega)])), rfl⟩, trivial⟩, ⟨⟨_, rfl, .inl (ob_bs (by first | rfl | ((try dsimp only); (first | rfl | (rw [numF_bad (by omega)] <;> rfl) | (rw [numF_big (by omega) (by have := @shr_zero n k (by omega) (by omega); omega)] <;> rfl) | (rw [numF_ok (by omega) (by omega) (by rintro ⟨h8, h9⟩; have := @shr_zero n k (by omega) (by omega); omega), numB_len]; omega) | (rw [numF_ok (by omega) (by omega) (by rintro ⟨h8, h9⟩; have := @shr_zero n k (by omega) (by omega); omega), List.take_of_length_le (by rw [numB_len]; omega)])))) (by first | rfl | ((try dsimp only); (first | rfl | (rw [numF_bad (by omega)] <;> rfl) | (rw [numF_big (by omega) (by have := @shr_zero n k (by omega) (by omega); omega)] <;> rfl) | (rw [numF_ok (by omega) (by omega) (by rintro ⟨h8, h9⟩; have := @shr_zero n k (by omega) (by omega); omega), numB_len]; omega) | (rw [numF_ok (by omega) (by omega) (by rintro ⟨h8, h9⟩; have := @shr_zero n k (by omega) (by omega); omega), List.take_of_length_le (by rw [numB_len]; omega)]))))), trivial⟩, trivial⟩⟩
      ·have h13 := of_decide_eq_true (bnF h13)
       refine HT.skip ?_
       exact ⟨by omega, ⟨⟨⟨.refl _, trivial⟩, ⟨.refl _, trivial⟩, trivial⟩, trivial⟩⟩
     ·have h12 := of_decide_eq_false h12
      refine So.gn (b := false) rfl rfl rfl (lk rfl) (lk rfl) ?_
      refine So.gn (b := false) rfl rfl rfl (lk rfl) (lk rfl) ?_
      refine So.gn (b := false) rfl rfl rfl (lk rfl) (lk rfl) ?_
      refine So.gn (b := false) rfl rfl rfl (lk rfl) (lk rfl) ?_
      refine So.gy rfl rfl (lk rfl) (lk rfl) ?_
      refine A.v rfl (V.pkFalse (u := .p (.v (.bool false))) rfl rfl ?_)
      refine So.q rfl rfl (V.pkFalse (u := .p (.v (.bool false))) rfl rfl ?_)
      refine So.e ?_
      show HT _ _ _ _ _
      refine R.condF rfl ?_
      refine HT.skip ?_
      exact ⟨by omega, ⟨⟨⟨.refl _, trivial⟩, ⟨.refl _, trivial⟩, trivial⟩, trivial⟩⟩
    ·have h11 := of_decide_eq_true h11
     refine So.gn (b := true) rfl rfl rfl (lk rfl) (lk rfl) ?_
     refine So.gn (b := true) rfl rfl rfl (lk rfl) (lk rfl) ?_
     refine So.gu rfl rfl (lk rfl) ?_
     refine So.gu rfl rfl (lk rfl) ?_
     refine So.gu rfl rfl (lk rfl) ?_
     refine So.gu rfl rfl (lk rfl) ?_
     refine So.gu rfl rfl (lk rfl) ?_
     refine So.gn (b := true) rfl rfl rfl (lk rfl) (lk rfl) ?_
     refine So.q rfl rfl (V.pkTrue (u := .p (.v (.bool true))) rfl rfl ?_)
     refine So.e ?_
     show HT _ _ _ _ _
     refine R.condT rfl ?_
     refine HT.seq ?_
     refine HT.region S_rnum_ok ?_
     refine So.q rfl rfl (V.as (v := .p (.v (.slice none 0 0))) rfl ?_)
     refine So.e ?_
     show HT _ _ _ _ _
     refine R.phan 4 1 5 1 (.bs []) rfl rfl rfl ⟨rfl, rfl⟩ ?_
     refine HT.ret ?_
     exact ret_ok (sg [(1, 1)]) h rfl rfl rfl ⟨trivial, trivial⟩ ⟨rfl, trivial⟩ rfl ⟨⟨⟨le_own2 (by first | rfl | omega) (by first | rfl | (rw [numF_bad (by omega)] <;> rfl) | (rw [numF_big (by omega) (by have := @shr_zero n k (by omega) (by omega); omega)] <;> rfl) | (rw [numF_ok (by omega) (by omega) (by rintro ⟨h8, h9⟩; have := @shr_zero n k (by omega) (by omega); omega), numB_len]; omega) | (rw [numF_ok (by omega) (by omega) (by rintro ⟨h8, h9⟩; have := @shr_zero n k (by omega) (by omega); omega), List.take_of_length_le (by rw [numB_len]; omega)])), rfl⟩, trivial⟩, ⟨⟨_, rfl, .inl (ob_bs (by first | rfl | ((try dsimp only); (first | rfl | (rw [numF_bad (by omega)] <;> rfl) | (rw [numF_big (by omega) (by have := @shr_zero n k (by omega) (by omega); omega)] <;> rfl) | (rw [numF_ok (by omega) (by omega) (by rintro ⟨h8, h9⟩; have := @shr_zero n k (by omega) (by omega); omega), numB_len]; omega) | (rw [numF_ok (by omega) (by omega) (by rintro ⟨h8, h9⟩; have := @shr_zero n k (by omega) (by omega); omega), List.take_of_length_le (by rw [numB_len]; omega)])))) (by first | rfl | ((try dsimp only); (first | rfl | (rw [numF_bad (by omega)] <;> rfl) | (rw [numF_big (by omega) (by have := @shr_zero n k (by omega) (by omega); omega)] <;> rfl) | (rw [numF_ok (by omega) (by omega) (by rintro ⟨h8, h9⟩; have := @shr_zero n k (by omega) (by omega); omega), numB_len]; omega) | (rw [numF_ok (by omega) (by omega) (by rintro ⟨h8, h9⟩; have := @shr_zero n k (by omega) (by omega); omega), List.take_of_length_le (by rw [numB_len]; omega)]))))), trivial⟩, trivial⟩⟩
  ·have h1 := of_decide_eq_true (bnF h1)
   refine So.gn (b := false) rfl rfl rfl (lk rfl) (lk rfl) ?_
   refine So.q rfl rfl (V.pkFalse (u := .p (.v (.bool false))) rfl rfl ?_)
   refine So.q rfl rfl (V.mv (v := .p (.v (.bool false))) rfl ?_)
   refine So.gn (b := false) rfl rfl rfl (lk rfl) (lk rfl) ?_
   refine So.gn (b := false) rfl rfl rfl (lk rfl) (lk rfl) ?_
   refine So.q rfl rfl (V.pkFalse (u := .p (.v (.bool false))) rfl rfl ?_)
   refine So.q rfl rfl (V.mv (v := .p (.v (.bool false))) rfl ?_)
   refine So.gn (b := false) rfl rfl rfl (lk rfl) (lk rfl) ?_
   refine So.gn (b := false) rfl rfl rfl (lk rfl) (lk rfl) ?_
   refine So.q rfl rfl (V.pkFalse (u := .p (.v (.bool false))) rfl rfl ?_)
   refine So.q rfl rfl (V.mv (v := .p (.v (.bool false))) rfl ?_)
   refine So.gy rfl rfl (lk rfl) (lk rfl) ?_
   refine A.v rfl (V.mv (v := .p (.v (.int .i64 _))) rfl ?_)
   refine So.gy rfl rfl (lk rfl) (lk rfl) ?_
   refine A.v rfl (V.bin (a := (.v (.int .i64 _))) (b := (.v (.int .i64 (0)))) (r := .v (.bool _)) rfl rfl rfl trivial ?_)
   refine So.q rfl rfl (V.pkFalse (u := .p (.v (.bool _))) rfl rfl ?_)
   refine So.q rfl rfl (V.mv (v := .p (.v (.bool _))) rfl ?_)
   refine So.gd rfl rfl (lk rfl) (lk rfl) (fun h14 => ?_) (fun h14 => ?_)
   ·have h14 := of_decide_eq_false h14
    refine A.v rfl (V.mv (v := .p (.v (.int .i64 _))) rfl ?_)
    refine So.gy rfl rfl (lk rfl) (lk rfl) ?_
    refine A.v rfl (V.bin (a := (.v (.int .i64 _))) (b := (.v (.int .i64 (8)))) (r := .v (.bool _)) rfl rfl rfl trivial ?_)
    refine So.gy rfl rfl (lk rfl) (lk rfl) ?_
    refine A.v rfl (V.mv (v := .p (.v (.bool _))) rfl ?_)
    refine So.gd rfl rfl (lk rfl) (lk rfl) (fun h15 => ?_) (fun h15 => ?_)
    ·have h15 := of_decide_eq_true h15
     refine A.v rfl (V.mv (v := .p (.v (.int .i64 _))) rfl ?_)
     refine So.gy rfl rfl (lk rfl) (lk rfl) ?_
     refine A.v rfl (V.mv (v := .p (.v (.int .i64 _))) rfl ?_)
     refine So.gy rfl rfl (lk rfl) (lk rfl) ?_
     refine A.v rfl (V.mulI rfl rfl (by omega) ?_)
     refine So.gy rfl rfl (lk rfl) (lk rfl) ?_
     refine A.v rfl (V.bin (a := (.v (.int .i64 _))) (b := (.v (.int .i64 _))) (r := .v (.int .i64 _)) rfl rfl rfl (by first | rfl | omega | (simp; done) | (simp; omega)) ?_)
     refine So.gy rfl rfl (lk rfl) (lk rfl) ?_
     refine A.v rfl (V.bin (a := (.v (.int .i64 _))) (b := (.v (.int .i64 (0)))) (r := .v (.bool _)) rfl rfl rfl trivial ?_)
     refine So.gy rfl rfl (lk rfl) (lk rfl) ?_
     refine A.v rfl (V.pkTrue (u := .p (.v (.bool _))) rfl rfl ?_)
     refine So.q rfl rfl (V.pkFalse (u := .p (.v (.bool _))) rfl rfl ?_)
     refine So.e ?_
     show HT _ _ _ _ _
     refine R.cond rfl rfl (fun h16 => ?_) (fun h16 => ?_)
     ·have h16 := of_decide_eq_false (bnT h16)
      refine HT.seq ?_
      refine HT.region S_rnum_ok ?_
      refine So.q rfl rfl (V.as (v := .p (.v (.slice none 0 0))) rfl ?_)
      refine So.e ?_
      show HT _ _ _ _ _
      refine R.phan 4 1 5 1 (.bs []) rfl rfl rfl ⟨rfl, rfl⟩ ?_
      refine HT.ret ?_
      exact ret_ok (sg [(1, 1)]) h rfl rfl rfl ⟨trivial, trivial⟩ ⟨rfl, trivial⟩ rfl ⟨⟨⟨le_own2 (by first | rfl | omega) (by first | rfl | (rw [numF_bad (by omega)] <;> rfl) | (rw [numF_big (by omega) (by have := @shr_zero n k (by omega) (by omega); omega)] <;> rfl) | (rw [numF_ok (by omega) (by omega) (by rintro ⟨h8, h9⟩; have := @shr_zero n k (by omega) (by omega); omega), numB_len]; omega) | (rw [numF_ok (by omega) (by omega) (by rintro ⟨h8, h9⟩; have := @shr_zero n k (by omega) (by omega); omega), List.take_of_length_le (by rw [numB_len]; omega)])), rfl⟩, trivial⟩, ⟨⟨_, rfl, .inl (ob_bs (by first | rfl | ((try dsimp only); (first | rfl | (rw [numF_bad (by omega)] <;> rfl) | (rw [numF_big (by omega) (by have := @shr_zero n k (by omega) (by omega); omega)] <;> rfl) | (rw [numF_ok (by omega) (by omega) (by rintro ⟨h8, h9⟩; have := @shr_zero n k (by omega) (by omega); omega), numB_len]; omega) | (rw [numF_ok (by omega) (by omega) (by rintro ⟨h8, h9⟩; have := @shr_zero n k (by omega) (by omega); omega), List.take_of_length_le (by rw [numB_len]; omega)])))) (by first | rfl | ((try dsimp only); (first | rfl | (rw [numF_bad (by omega)] <;> rfl) | (rw [numF_big (by omega) (by have := @shr_zero n k (by omega) (by omega); omega)] <;> rfl) | (rw [numF_ok (by omega) (by omega) (by rintro ⟨h8, h9⟩; have := @shr_zero n k (by omega) (by omega); omega), numB_len]; omega) | (rw [numF_ok (by omega) (by omega) (by rintro ⟨h8, h9⟩; have := @shr_zero n k (by omega) (by omega); omega), List.take_of_length_le (by rw [numB_len]; omega)]))))), trivial⟩, trivial⟩⟩
     ·have h16 := of_decide_eq_true (bnF h16)
      refine HT.skip ?_
      exact ⟨by omega, ⟨⟨⟨.refl _, trivial⟩, ⟨.refl _, trivial⟩, trivial⟩, trivial⟩⟩
    ·have h15 := of_decide_eq_false h15
     refine So.gn (b := false) rfl rfl rfl (lk rfl) (lk rfl) ?_
     refine So.gn (b := false) rfl rfl rfl (lk rfl) (lk rfl) ?_
     refine So.gn (b := false) rfl rfl rfl (lk rfl) (lk rfl) ?_
     refine So.gn (b := false) rfl rfl rfl (lk rfl) (lk rfl) ?_
     refine So.gy rfl rfl (lk rfl) (lk rfl) ?_
     refine A.v rfl (V.pkFalse (u := .p (.v (.bool false))) rfl rfl ?_)
     refine So.q rfl rfl (V.pkFalse (u := .p (.v (.bool false))) rfl rfl ?_)
     refine So.e ?_
     show HT _ _ _ _ _
     refine R.condF rfl ?_
     refine HT.skip ?_
     exact ⟨by omega, ⟨⟨⟨.refl _, trivial⟩, ⟨.refl _, trivial⟩, trivial⟩, trivial⟩⟩
   ·have h14 := of_decide_eq_true h14
    refine So.gn (b := true) rfl rfl rfl (lk rfl) (lk rfl) ?_
    refine So.gn (b := true) rfl rfl rfl (lk rfl) (lk rfl) ?_
    refine So.gu rfl rfl (lk rfl) ?_
    refine So.gu rfl rfl (lk rfl) ?_
    refine So.gu rfl rfl (lk rfl) ?_
    refine So.gu rfl rfl (lk rfl) ?_
    refine So.gu rfl rfl (lk rfl) ?_
    refine So.gn (b := true) rfl rfl rfl (lk rfl) (lk rfl) ?_
    refine So.q rfl rfl (V.pkTrue (u := .p (.v (.bool true))) rfl rfl ?_)
    refine So.e ?_
    show HT _ _ _ _ _
    refine R.condT rfl ?_
    refine HT.seq ?_
    refine HT.region S_rnum_ok ?_
    refine So.q rfl rfl (V.as (v := .p (.v (.slice none 0 0))) rfl ?_)
    refine So.e ?_
    show HT _ _ _ _ _
    refine R.phan 4 1 5 1 (.bs []) rfl rfl rfl ⟨rfl, rfl⟩ ?_
    refine HT.ret ?_
    exact ret_ok (sg [(1, 1)]) h rfl rfl rfl ⟨trivial, trivial⟩ ⟨rfl, trivial⟩ rfl ⟨⟨⟨le_own2 (by first | rfl | omega) (by first | rfl | (rw [numF_bad (by omega)] <;> rfl) | (rw [numF_big (by omega) (by have := @shr_zero n k (by omega) (by omega); omega)] <;> rfl) | (rw [numF_ok (by omega) (by omega) (by rintro ⟨h8, h9⟩; have := @shr_zero n k (by omega) (by omega); omega), numB_len]; omega) | (rw [numF_ok (by omega) (by omega) (by rintro ⟨h8, h9⟩; have := @shr_zero n k (by omega) (by omega); omega), List.take_of_length_le (by rw [numB_len]; omega)])), rfl⟩, trivial⟩, ⟨⟨_, rfl, .inl (ob_bs (by first | rfl | ((try dsimp only); (first | rfl | (rw [numF_bad (by omega)] <;> rfl) | (rw [numF_big (by omega) (by have := @shr_zero n k (by omega) (by omega); omega)] <;> rfl) | (rw [numF_ok (by omega) (by omega) (by rintro ⟨h8, h9⟩; have := @shr_zero n k (by omega) (by omega); omega), numB_len]; omega) | (rw [numF_ok (by omega) (by omega) (by rintro ⟨h8, h9⟩; have := @shr_zero n k (by omega) (by omega); omega), List.take_of_length_le (by rw [numB_len]; omega)])))) (by first | rfl | ((try dsimp only); (first | rfl | (rw [numF_bad (by omega)] <;> rfl) | (rw [numF_big (by omega) (by have := @shr_zero n k (by omega) (by omega); omega)] <;> rfl) | (rw [numF_ok (by omega) (by omega) (by rintro ⟨h8, h9⟩; have := @shr_zero n k (by omega) (by omega); omega), numB_len]; omega) | (rw [numF_ok (by omega) (by omega) (by rintro ⟨h8, h9⟩; have := @shr_zero n k (by omega) (by omega); omega), List.take_of_length_le (by rw [numB_len]; omega)]))))), trivial⟩, trivial⟩⟩
 ·refine HT.seq ?_
  refine HT.region S_rnum_ok ?_
  refine So.q rfl rfl (V.as (v := .p (.v (.slice none 0 0))) rfl ?_)
  refine So.e ?_
  show HT _ _ _ _ _
  refine HT.seq ?_
  refine HT.seq ?_
  refine HT.region S_rnum_ok ?_
  refine So.q rfl rfl (V.mv (v := .p (.v (.int .i64 _))) rfl ?_)
  refine So.q rfl rfl (V.subI rfl rfl (by omega) ?_)
  refine So.q rfl rfl (V.as (v := .p (.v (.int .i64 _))) rfl ?_)
  refine So.e ?_
  show HT _ _ _ _ _
  refine HT.block ?_
  refine R.phan 5 1 5 1 (.bs []) rfl rfl rfl ⟨rfl, rfl⟩ ?_
  refine R.loop (σ := Nat) (fun s => [(5, .own 1 (0) (s)), (6, .p (.v (.int .i64 (k - 1 - (s : Int)))))]) (fun s => [(1, ⟨5, 1, s, true, .bs ((numB n k.toNat).take s)⟩)]) [0] [] (fun s => s ≤ k.toNat) (fun s => k.toNat - s) (0) (fr0 := [(0, .p (.v (.int .i64 _)))]) (O0 := []) rfl rfl (by first | rfl | omega | (simp; done) | (simp; omega)) ⟨⟨⟨le_own2 (by first | rfl | omega) (by first | rfl | omega | (simp; done) | (simp; omega)), rfl⟩, ⟨le_int (by first | rfl | omega | (simp; done) | (simp; omega)), trivial⟩, ⟨.refl _, trivial⟩, trivial⟩, ⟨⟨_, rfl, .inl (ob_bs (by first | rfl | ((try dsimp only); first | rfl | omega | (simp; done) | (simp; omega))) (by first | rfl | ((try dsimp only); first | rfl | omega | (simp; done) | (simp; omega)))), trivial⟩, trivial⟩⟩ (fun s hP0 => ?_)
  refine HT.seq ?_
  refine HT.seq ?_
  refine HT.region S_rnum_ok ?_
  refine So.q rfl rfl (V.mv (v := .p (.v (.int .i64 _))) rfl ?_)
  refine So.q rfl rfl (V.bin (a := (.v (.int .i64 _))) (b := (.v (.int .i64 (0)))) (r := .v (.bool _)) rfl rfl rfl trivial ?_)
  refine So.e ?_
  show HT _ _ _ _ _
  refine R.cond rfl rfl (fun h17 => ?_) (fun h17 => ?_)
  ·have h17 := of_decide_eq_true h17
   refine HT.skip ?_
   show HT _ _ _ _ _
   refine HT.seq ?_
   refine HT.block ?_
   refine HT.region S_rnum_ok ?_
   refine So.q rfl rfl (V.mv (v := .own 1 0 _) rfl ?_)
   refine So.q rfl rfl (V.mv (v := .p (.v (.int .i64 _))) rfl ?_)
   refine So.q rfl rfl (V.mv (v := .p (.v (.int .i64 _))) rfl ?_)
   refine So.q rfl rfl (V.mulI rfl rfl (by omega) ?_)
   refine So.q rfl rfl (V.bin (a := (.v (.int .i64 _))) (b := (.v (.int .i64 _))) (r := .v (.int .i64 _)) rfl rfl rfl (by first | rfl | omega | (simp; done) | (simp; omega)) ?_)
   refine So.q rfl rfl (V.cvN ty5 ty2 (a := (.v (.int .i64 _))) (r := (.u8 _)) rfl rfl ?_)
   refine So.n (lk rfl) (A.bsl 2 ty22 ty5 rfl (lk rfl) (lk rfl) (fun _ => rfl) rfl rfl trivial ⟨trivial, trivial⟩ rfl (N := 1) rfl (c := .bs [_]) rfl ?_)
   refine So.n (lk rfl) (A.apOwn ty22 ty5 rfl rfl rfl rfl (u := .own 2 0 _) rfl rfl rfl rfl (by first | rfl | omega | (simp; done) | (simp; omega)) rfl rfl rfl ?_)
   refine So.q rfl rfl (V.as (v := .own 1 0 _) rfl ?_)
   refine So.e ?_
   show HT _ _ _ _ _
   refine HT.region S_rnum_ok ?_
   refine So.q rfl rfl (V.mv (v := .p (.v (.int .i64 _))) rfl ?_)
   refine So.q rfl rfl (V.subI rfl rfl (by omega) ?_)
   refine So.q rfl rfl (V.as (v := .p (.v (.int .i64 _))) rfl ?_)
   refine So.e ?_
   refine ⟨s + 1, by first | rfl | omega | (simp; done) | (simp; omega), by omega, ⟨⟨⟨le_own2 (by first | rfl | omega) (by first | rfl | omega | (simp; done) | (simp; omega)), rfl⟩, ⟨le_int (by first | rfl | omega | (simp; done) | (simp; omega)), trivial⟩, ⟨.refl _, trivial⟩, trivial⟩, ⟨⟨_, rfl, .inl (ob_bs (by first | rfl | ((try dsimp only); first | rfl | ((try dsimp only); rw [List.drop_zero, List.take_of_length_le (by simp; omega), ← numB_take (by omega) (by omega), show (8 * (k - 1 - (s : Int))).toNat = 8 * (k.toNat - 1 - s) from by omega]; rfl))) (by first | rfl | ((try dsimp only); first | rfl | ((try dsimp only); rw [List.drop_zero, List.take_of_length_le (by simp; omega), ← numB_take (by omega) (by omega), show (8 * (k - 1 - (s : Int))).toNat = 8 * (k.toNat - 1 - s) from by omega]; rfl)))), trivial⟩, trivial⟩⟩⟩
  ·have h17 := of_decide_eq_false h17
   refine HT.exit ?_
   show HT _ _ _ _ _
   refine HT.seq ?_
   refine HT.region S_rnum_ok ?_
   refine So.q rfl rfl (V.mv (v := .own 1 0 _) rfl ?_)
   refine So.q rfl rfl (V.as (v := .own 1 0 _) rfl ?_)
   refine So.e ?_
   show HT _ _ _ _ _
   refine HT.ret ?_
   exact ret_ok (sg [(1, 1)]) h rfl rfl rfl ⟨trivial, trivial⟩ ⟨rfl, trivial⟩ rfl ⟨⟨⟨le_own2 (by first | rfl | omega) (by first | rfl | (rw [numF_bad (by omega)] <;> rfl) | (rw [numF_big (by omega) (by have := @shr_zero n k (by omega) (by omega); omega)] <;> rfl) | (rw [numF_ok (by omega) (by omega) (by rintro ⟨h8, h9⟩; have := @shr_zero n k (by omega) (by omega); omega), numB_len]; omega) | (rw [numF_ok (by omega) (by omega) (by rintro ⟨h8, h9⟩; have := @shr_zero n k (by omega) (by omega); omega), List.take_of_length_le (by rw [numB_len]; omega)])), rfl⟩, trivial⟩, ⟨⟨_, rfl, .inl (ob_bs (by first | rfl | ((try dsimp only); (first | rfl | (rw [numF_bad (by omega)] <;> rfl) | (rw [numF_big (by omega) (by have := @shr_zero n k (by omega) (by omega); omega)] <;> rfl) | (rw [numF_ok (by omega) (by omega) (by rintro ⟨h8, h9⟩; have := @shr_zero n k (by omega) (by omega); omega), numB_len]; omega) | (rw [numF_ok (by omega) (by omega) (by rintro ⟨h8, h9⟩; have := @shr_zero n k (by omega) (by omega); omega), List.take_of_length_le (by rw [numB_len]; omega)])))) (by first | rfl | ((try dsimp only); (first | rfl | (rw [numF_bad (by omega)] <;> rfl) | (rw [numF_big (by omega) (by have := @shr_zero n k (by omega) (by omega); omega)] <;> rfl) | (rw [numF_ok (by omega) (by omega) (by rintro ⟨h8, h9⟩; have := @shr_zero n k (by omega) (by omega); omega), numB_len]; omega) | (rw [numF_ok (by omega) (by omega) (by rintro ⟨h8, h9⟩; have := @shr_zero n k (by omega) (by omega); omega), List.take_of_length_le (by rw [numB_len]; omega)]))))), trivial⟩, trivial⟩⟩
def rlenSp : Sp := ⟨[], mkE (α := Int) (fun n => [.p (.v (.int .i64 (n)))]) (fun n => []) (fun n => True) (fun n => [.own 1 (0) ((lenF n).length)]) (fun n => [(1, ⟨5, 1, (lenF n).length, true, .bs (lenF n)⟩)])⟩
def S_rlen : FuncId → Option Sp := fun _ => none
theorem S_rlen_ok : ∀ f s, S_rlen f = some s → FOK Tryd.prog gl f s := fun f s h => by cases h
set_option maxHeartbeats 1000000 in
set_option maxRecDepth 1000 in
theorem rlen_ok : FOK Tryd.prog gl 59 rlenSp := by
 refine FOK.ofE (tyOf_ok Tryd.prog) (slots := [2]) (nt := 30) Tryd.func59 rfl rfl rfl rfl (by decide) 1 (fun _ => rfl) (by decide) (fun _ => ⟨trivial, trivial⟩) ?_
 rintro n kk hlen hpre h
 replace hpre : True := hpre
 show HT (cx Tryd.prog 30 (tyOf Tryd.prog) gl []) _ [(0, .p (.v (.int .i64 (n))))] [] _
 refine HT.seq ?_
 refine HT.region S_rlen_ok ?_
 refine So.q rfl rfl (V.as (v := .p (.v (.slice none 0 0))) rfl ?_)
 refine So.e ?_
 show HT _ _ _ _ _
 refine HT.seq ?_
 refine HT.seq ?_
 refine HT.region S_rlen_ok ?_
 refine So.q rfl rfl (V.mv (v := .p (.v (.int .i64 _))) rfl ?_)
 refine So.q rfl rfl (V.bin (a := (.v (.int .i64 _))) (b := (.v (.int .i64 (64)))) (r := .v (.bool _)) rfl rfl rfl trivial ?_)
 refine So.e ?_
 show HT _ _ _ _ _
 refine R.cond rfl rfl (fun h1 => ?_) (fun h1 => ?_)
 ·have h1 := of_decide_eq_true h1
  refine HT.seq ?_
  refine HT.region S_rlen_ok ?_
  refine So.q rfl rfl (V.mv (v := .p (.v (.int .i64 _))) rfl ?_)
  refine So.q rfl rfl (V.cvN ty5 ty3 (a := (.v (.int .i64 _))) (r := (.u8 _)) rfl rfl ?_)
  refine So.n (lk rfl) (A.bsl 1 ty22 ty5 rfl (lk rfl) (lk rfl) (fun _ => rfl) rfl rfl trivial ⟨trivial, trivial⟩ rfl (N := 1) rfl (c := .bs [_]) rfl ?_)
  refine So.q rfl rfl (V.as (v := .own 1 0 _) rfl ?_)
  refine So.e ?_
  show HT _ _ _ _ _
  refine HT.ret ?_
  exact ret_ok (sg [(1, 1)]) h rfl rfl rfl ⟨trivial, trivial⟩ ⟨rfl, trivial⟩ rfl ⟨⟨⟨le_own2 (by first | rfl | omega) (by first | rfl | (unfold lenF; simp (disch := omega) only [if_pos, if_neg] <;> first | rfl | (rw [u8_add64]) | (rw [u8_add128]))), rfl⟩, trivial⟩, ⟨⟨_, rfl, .inl (ob_bs (by first | rfl | ((try dsimp only); (first | rfl | (unfold lenF; simp (disch := omega) only [if_pos, if_neg] <;> first | rfl | (rw [u8_add64]) | (rw [u8_add128]))))) (by first | rfl | ((try dsimp only); (first | rfl | (unfold lenF; simp (disch := omega) only [if_pos, if_neg] <;> first | rfl | (rw [u8_add64]) | (rw [u8_add128])))))), trivial⟩, trivial⟩⟩
 ·have h1 := of_decide_eq_false h1
  refine HT.skip ?_
  show HT _ _ _ _ _
  refine HT.seq ?_
  refine HT.seq ?_
  refine HT.region S_rlen_ok ?_
  refine So.q rfl rfl (V.mv (v := .p (.v (.int .i64 _))) rfl ?_)
  refine So.q rfl rfl (V.bin (a := (.v (.int .i64 _))) (b := (.v (.int .i64 (16384)))) (r := .v (.bool _)) rfl rfl rfl trivial ?_)
  refine So.e ?_
  show HT _ _ _ _ _
  refine R.cond rfl rfl (fun h2 => ?_) (fun h2 => ?_)
  ·have h2 := of_decide_eq_true h2
   refine HT.seq ?_
   refine HT.region S_rlen_ok ?_
   refine So.q rfl rfl (V.mv (v := .p (.v (.int .i64 _))) rfl ?_)
   refine So.q rfl rfl (V.shrI (n := 8) (M := 256) rfl rfl rfl (by decide) ?_)
   refine So.q rfl rfl (V.cvN ty5 ty3 (a := (.v (.int .i64 _))) (r := (.u8 _)) rfl rfl ?_)
   refine So.q rfl rfl (V.bin (a := (.u8 _)) (b := (.u8 64)) (r := .u8 _) rfl rfl rfl trivial ?_)
   refine So.q rfl rfl (V.mv (v := .p (.v (.int .i64 _))) rfl ?_)
   refine So.q rfl rfl (V.cvN ty5 ty3 (a := (.v (.int .i64 _))) (r := (.u8 _)) rfl rfl ?_)
   refine So.n (lk rfl) (A.bsl 1 ty22 ty5 rfl (lk rfl) (lk rfl) (fun _ => rfl) rfl rfl trivial ⟨trivial, trivial, trivial⟩ rfl (N := 2) rfl (c := .bs [_, _]) rfl ?_)
   refine So.q rfl rfl (V.as (v := .own 1 0 _) rfl ?_)
   refine So.e ?_
   show HT _ _ _ _ _
   refine HT.ret ?_
   exact ret_ok (sg [(1, 1)]) h rfl rfl rfl ⟨trivial, trivial⟩ ⟨rfl, trivial⟩ rfl ⟨⟨⟨le_own2 (by first | rfl | omega) (by first | rfl | (unfold lenF; simp (disch := omega) only [if_pos, if_neg] <;> first | rfl | (rw [u8_add64]) | (rw [u8_add128]))), rfl⟩, trivial⟩, ⟨⟨_, rfl, .inl (ob_bs (by first | rfl | ((try dsimp only); (first | rfl | (unfold lenF; simp (disch := omega) only [if_pos, if_neg] <;> first | rfl | (rw [u8_add64]) | (rw [u8_add128]))))) (by first | rfl | ((try dsimp only); (first | rfl | (unfold lenF; simp (disch := omega) only [if_pos, if_neg] <;> first | rfl | (rw [u8_add64]) | (rw [u8_add128])))))), trivial⟩, trivial⟩⟩
  ·have h2 := of_decide_eq_false h2
   refine HT.skip ?_
   show HT _ _ _ _ _
   refine HT.seq ?_
   refine HT.region S_rlen_ok ?_
   refine So.q rfl rfl (V.mv (v := .p (.v (.int .i64 _))) rfl ?_)
   refine So.q rfl rfl (V.shrI (n := 24) (M := 16777216) rfl rfl rfl (by decide) ?_)
   refine So.q rfl rfl (V.cvN ty5 ty3 (a := (.v (.int .i64 _))) (r := (.u8 _)) rfl rfl ?_)
   refine So.q rfl rfl (V.bin (a := (.u8 _)) (b := (.u8 128)) (r := .u8 _) rfl rfl rfl trivial ?_)
   refine So.q rfl rfl (V.mv (v := .p (.v (.int .i64 _))) rfl ?_)
   refine So.q rfl rfl (V.shrI (n := 16) (M := 65536) rfl rfl rfl (by decide) ?_)
   refine So.q rfl rfl (V.cvN ty5 ty3 (a := (.v (.int .i64 _))) (r := (.u8 _)) rfl rfl ?_)
   refine So.q rfl rfl (V.mv (v := .p (.v (.int .i64 _))) rfl ?_)
   refine So.q rfl rfl (V.shrI (n := 8) (M := 256) rfl rfl rfl (by decide) ?_)
   refine So.q rfl rfl (V.cvN ty5 ty3 (a := (.v (.int .i64 _))) (r := (.u8 _)) rfl rfl ?_)
   refine So.q rfl rfl (V.mv (v := .p (.v (.int .i64 _))) rfl ?_)
   refine So.q rfl rfl (V.cvN ty5 ty3 (a := (.v (.int .i64 _))) (r := (.u8 _)) rfl rfl ?_)
   refine So.n (lk rfl) (A.bsl 1 ty22 ty5 rfl (lk rfl) (lk rfl) (fun _ => rfl) rfl rfl trivial ⟨trivial, trivial, trivial, trivial, trivial⟩ rfl (N := 4) rfl (c := .bs [_, _, _, _]) rfl ?_)
   refine So.q rfl rfl (V.as (v := .own 1 0 _) rfl ?_)
   refine So.e ?_
   show HT _ _ _ _ _
   refine HT.ret ?_
   exact ret_ok (sg [(1, 1)]) h rfl rfl rfl ⟨trivial, trivial⟩ ⟨rfl, trivial⟩ rfl ⟨⟨⟨le_own2 (by first | rfl | omega) (by first | rfl | (unfold lenF; simp (disch := omega) only [if_pos, if_neg] <;> first | rfl | (rw [u8_add64]) | (rw [u8_add128]))), rfl⟩, trivial⟩, ⟨⟨_, rfl, .inl (ob_bs (by first | rfl | ((try dsimp only); (first | rfl | (unfold lenF; simp (disch := omega) only [if_pos, if_neg] <;> first | rfl | (rw [u8_add64]) | (rw [u8_add128]))))) (by first | rfl | ((try dsimp only); (first | rfl | (unfold lenF; simp (disch := omega) only [if_pos, if_neg] <;> first | rfl | (rw [u8_add64]) | (rw [u8_add128])))))), trivial⟩, trivial⟩⟩
def rtextSp : Sp := ⟨[], mkE (α := (List UInt8)) (fun s => [.p (.bs (s))]) (fun s => []) (fun s => True) (fun s => [.own 1 (0) ((textF s).length), .p (.v (.int .i64 (textE s)))]) (fun s => [(1, ⟨5, 1, (textF s).length, true, .bs (textF s)⟩)])⟩
def S_rtext : FuncId → Option Sp := fun f => if f = 59 then some rlenSp else none
theorem S_rtext_ok : ∀ f s, S_rtext f = some s → FOK Tryd.prog gl f s := fun f s h => by
 unfold S_rtext at h
 split at h
 ·rename_i e; cases h; subst e; exact rlen_ok
 cases h
set_option maxHeartbeats 1000000 in
set_option maxRecDepth 1000 in
theorem rtext_ok : FOK Tryd.prog gl 47 rtextSp := by
 refine FOK.ofE (tyOf_ok Tryd.prog) (slots := [2, 3]) (nt := 12) Tryd.func47 rfl rfl rfl rfl (by decide) 1 (fun _ => rfl) (by decide) (fun _ => ⟨trivial, trivial⟩) ?_
 rintro s kk hlen hpre h
 have hl0 : (s).length ≤ 9223372036854775807 := hlen.1
 replace hpre : True := hpre
 show HT (cx Tryd.prog 12 (tyOf Tryd.prog) gl []) _ [(0, .p (.bs (s)))] [] _
 refine HT.seq ?_
 refine HT.region S_rtext_ok ?_
 refine So.q rfl rfl (V.as (v := .p (.v (.slice none 0 0))) rfl ?_)
 refine So.q rfl rfl (V.as (v := .p (.v (.int .i64 (0)))) rfl ?_)
 refine So.e ?_
 show HT _ _ _ _ _
 refine HT.seq ?_
 refine HT.seq ?_
 refine HT.region S_rtext_ok ?_
 refine So.q rfl rfl (V.mv (v := .p (.bs _)) rfl ?_)
 refine So.q rfl rfl (V.len ty22 (v := .p (.bs _)) rfl rfl ?_)
 refine So.q rfl rfl (V.bin (a := (.v (.int .i64 _))) (b := (.v (.int .i64 (1048576)))) (r := .v (.bool _)) rfl rfl rfl trivial ?_)
 refine So.e ?_
 show HT _ _ _ _ _
 refine R.cond rfl rfl (fun h1 => ?_) (fun h1 => ?_)
 ·have h1 := of_decide_eq_true h1
  refine HT.seq ?_
  refine HT.region S_rtext_ok ?_
  refine So.q rfl rfl (V.as (v := .p (.v (.slice none 0 0))) rfl ?_)
  refine So.q rfl rfl (V.as (v := .p (.v (.int .i64 (2)))) rfl ?_)
  refine So.e ?_
  show HT _ _ _ _ _
  refine R.phan 2 1 5 1 (.bs []) rfl rfl rfl ⟨rfl, rfl⟩ ?_
  refine HT.ret ?_
  exact ret_ok (sg [(1, 1)]) h rfl rfl rfl ⟨trivial, trivial⟩ ⟨rfl, trivial, trivial⟩ rfl ⟨⟨⟨le_own2 (by first | rfl | omega) (by first | rfl | (unfold textF; simp (disch := omega) only [if_pos, if_neg] <;> first | rfl | (simp; done)) | (unfold textE; simp (disch := omega) only [if_pos, if_neg])), rfl⟩, ⟨le_int (by first | rfl | (unfold textF; simp (disch := omega) only [if_pos, if_neg] <;> first | rfl | (simp; done)) | (unfold textE; simp (disch := omega) only [if_pos, if_neg])), trivial⟩, trivial⟩, ⟨⟨_, rfl, .inl (ob_bs (by first | rfl | ((try dsimp only); (first | rfl | (unfold textF; simp (disch := omega) only [if_pos, if_neg] <;> first | rfl | (simp; done)) | (unfold textE; simp (disch := omega) only [if_pos, if_neg])))) (by first | rfl | ((try dsimp only); (first | rfl | (unfold textF; simp (disch := omega) only [if_pos, if_neg] <;> first | rfl | (simp; done)) | (unfold textE; simp (disch := omega) only [if_pos, if_neg]))))), trivial⟩, trivial⟩⟩
 ·have h1 := of_decide_eq_false h1
  refine HT.skip ?_
  show HT _ _ _ _ _
  refine HT.seq ?_
  refine HT.region S_rtext_ok ?_
  refine So.q rfl rfl (V.mv (v := .p (.bs _)) rfl ?_)
  refine So.q rfl rfl (V.len ty22 (v := .p (.bs _)) rfl rfl ?_)
  refine So.n (lk rfl) (A.call0 [.p (.v (.int .i64 _))] 1 rfl rfl rfl rfl ⟨trivial, trivial⟩ trivial _ ⟨.refl _, trivial⟩ trivial (by trivial) (Φ := fun n => (lenF n).length ≤ 4) (fun n _ => lenF_le n) (.inl rfl) (v := .own 2 0 _) rfl (O' := (2, ⟨5, 1, _, true, .bs _⟩) :: _) rfl (fun h2 => ?_))
  try dsimp only at h2
  refine So.q rfl rfl (V.mv (v := .p (.bs _)) rfl ?_)
  refine So.n (lk rfl) (A.apOwn ty22 ty5 rfl rfl rfl rfl (u := .p (.bs _)) rfl rfl rfl rfl (by first | rfl | omega | (simp; done) | (simp; omega)) rfl rfl rfl ?_)
  refine So.q rfl rfl (V.as (v := .own 2 0 _) rfl ?_)
  refine So.q rfl rfl (V.as (v := .p (.v (.int .i64 (0)))) rfl ?_)
  refine So.e ?_
  show HT _ _ _ _ _
  refine HT.ret ?_
  exact ret_ok (sg [(1, 2)]) h rfl rfl rfl ⟨trivial, trivial⟩ ⟨rfl, trivial, trivial⟩ rfl ⟨⟨⟨le_own2 (by first | rfl | omega) (by first | rfl | (unfold textF; simp (disch := omega) only [if_pos, if_neg] <;> first | rfl | (simp; done)) | (unfold textE; simp (disch := omega) only [if_pos, if_neg])), rfl⟩, ⟨le_int (by first | rfl | (unfold textF; simp (disch := omega) only [if_pos, if_neg] <;> first | rfl | (simp; done)) | (unfold textE; simp (disch := omega) only [if_pos, if_neg])), trivial⟩, trivial⟩, ⟨⟨_, rfl, .inl (ob_bs (by first | rfl | ((try dsimp only); (first | rfl | (unfold textF; simp (disch := omega) only [if_pos, if_neg] <;> first | rfl | (simp; done)) | (unfold textE; simp (disch := omega) only [if_pos, if_neg])))) (by first | rfl | ((try dsimp only); (first | rfl | (unfold textF; simp (disch := omega) only [if_pos, if_neg] <;> first | rfl | (simp; done)) | (unfold textE; simp (disch := omega) only [if_pos, if_neg]))))), trivial⟩, trivial⟩⟩
def rgetSp : Sp := ⟨[], mkE (α := (List UInt8) × Int × Int) (fun (b, i, n) => [.p (.bs (b)), .p (.v (.int .i64 (i))), .p (.v (.int .i64 (n)))]) (fun (b, i, n) => []) (fun (b, i, n) => True) (fun (b, i, n) => [.p (.v (.int .i64 ((getF b i n).1))), .p (.v (.int .i64 ((getF b i n).2.1))), .p (.v (.int .i64 ((getF b i n).2.2)))]) (fun (b, i, n) => [])⟩
def S_rget : FuncId → Option Sp := fun _ => none
theorem S_rget_ok : ∀ f s, S_rget f = some s → FOK Tryd.prog gl f s := fun f s h => by cases h
set_option maxHeartbeats 1000000 in
set_option maxRecDepth 1000 in
theorem rget_ok : FOK Tryd.prog gl 51 rgetSp := by
 refine FOK.ofE (tyOf_ok Tryd.prog) (slots := [6, 7, 8]) (nt := 63) Tryd.func51 rfl rfl rfl rfl (by decide) 3 (fun ⟨_, _, _⟩ => rfl) (by decide) (fun ⟨_, _, _⟩ => ⟨trivial, trivial, trivial, trivial⟩) ?_
 rintro ⟨b, i, n⟩ kk hlen hpre h
 have hl0 : (b).length ≤ 9223372036854775807 := hlen.1
 replace hpre : True := hpre
 show HT (cx Tryd.prog 63 (tyOf Tryd.prog) gl []) _ [(0, .p (.bs (b))), (1, .p (.v (.int .i64 (i)))), (2, .p (.v (.int .i64 (n))))] [] _
 refine HT.seq ?_
 refine HT.region S_rget_ok ?_
 refine So.q rfl rfl (V.as (v := .p (.v (.int .i64 (0)))) rfl ?_)
 refine So.q rfl rfl (V.as (v := .p (.v (.int .i64 (0)))) rfl ?_)
 refine So.q rfl rfl (V.as (v := .p (.v (.int .i64 (0)))) rfl ?_)
 refine So.e ?_
 show HT _ _ _ _ _
 refine R.cut (0 ≤ i ∧ i ≤ b.length ∧ (n = 1 ∨ n = 2 ∨ n = 4 ∨ n = 8)) [] [] [0, 1, 2] [] (fr0 := [(0, .p (.bs _)), (1, .p (.v (.int .i64 _))), (2, .p (.v (.int .i64 _)))]) (O0 := []) rfl rfl ?_ (fun hphi => ?_)
 ·refine HT.seq ?_
  refine HT.region S_rget_ok ?_
  refine So.q rfl rfl (V.mv (v := .p (.v (.int .i64 _))) rfl ?_)
  refine So.q rfl rfl (V.bin (a := (.v (.int .i64 _))) (b := (.v (.int .i64 (0)))) (r := .v (.bool _)) rfl rfl rfl trivial ?_)
  refine So.q rfl rfl (V.mv (v := .p (.v (.bool _))) rfl ?_)
  refine So.gd rfl rfl (lk rfl) (lk rfl) (fun h1 => ?_) (fun h1 => ?_)
  ·have h1 := of_decide_eq_false h1
   refine A.v rfl (V.mv (v := .p (.v (.int .i64 _))) rfl ?_)
   refine So.gy rfl rfl (lk rfl) (lk rfl) ?_
   refine A.v rfl (V.mv (v := .p (.bs _)) rfl ?_)
   refine So.gy rfl rfl (lk rfl) (lk rfl) ?_
   refine A.v rfl (V.len ty22 (v := .p (.bs _)) rfl rfl ?_)
   refine So.gy rfl rfl (lk rfl) (lk rfl) ?_
   refine A.v rfl (V.bin (a := (.v (.int .i64 _))) (b := (.v (.int .i64 _))) (r := .v (.bool _)) rfl rfl rfl trivial ?_)
   refine So.q rfl rfl (V.pkFalse (u := .p (.v (.bool _))) rfl rfl ?_)
   refine So.q rfl rfl (V.mv (v := .p (.v (.bool _))) rfl ?_)
   refine So.gd rfl rfl (lk rfl) (lk rfl) (fun h2 => ?_) (fun h2 => ?_)
   ·have h2 := of_decide_eq_false h2
    refine A.v rfl (V.mv (v := .p (.v (.int .i64 _))) rfl ?_)
    refine So.gy rfl rfl (lk rfl) (lk rfl) ?_
    refine A.v rfl (V.bin (a := (.v (.int .i64 _))) (b := (.v (.int .i64 (1)))) (r := .v (.bool _)) rfl rfl rfl trivial ?_)
    refine So.gy rfl rfl (lk rfl) (lk rfl) ?_
    refine A.v rfl (V.mv (v := .p (.v (.bool _))) rfl ?_)
    refine So.gd rfl rfl (lk rfl) (lk rfl) (fun h3 => ?_) (fun h3 => ?_)
    ·have h3 := of_decide_eq_false (bnT h3)
     refine A.v rfl (V.mv (v := .p (.v (.int .i64 _))) rfl ?_)
     refine So.gy rfl rfl (lk rfl) (lk rfl) ?_
     refine A.v rfl (V.bin (a := (.v (.int .i64 _))) (b := (.v (.int .i64 (2)))) (r := .v (.bool _)) rfl rfl rfl trivial ?_)
     refine So.gy rfl rfl (lk rfl) (lk rfl) ?_
     refine A.v rfl (V.pkTrue (u := .p (.v (.bool _))) rfl rfl ?_)
     refine So.gy rfl rfl (lk rfl) (lk rfl) ?_
     refine A.v rfl (V.mv (v := .p (.v (.bool _))) rfl ?_)
     refine So.gd rfl rfl (lk rfl) (lk rfl) (fun h4 => ?_) (fun h4 => ?_)
     ·have h4 := of_decide_eq_false (bnT h4)
      refine A.v rfl (V.mv (v := .p (.v (.int .i64 _))) rfl ?_)
      refine So.gy rfl rfl (lk rfl) (lk rfl) ?_
      refine A.v rfl (V.bin (a := (.v (.int .i64 _))) (b := (.v (.int .i64 (4)))) (r := .v (.bool _)) rfl rfl rfl trivial ?_)
      refine So.gy rfl rfl (lk rfl) (lk rfl) ?_
      refine A.v rfl (V.pkTrue (u := .p (.v (.bool _))) rfl rfl ?_)
      refine So.gy rfl rfl (lk rfl) (lk rfl) ?_
      refine A.v rfl (V.mv (v := .p (.v (.bool _))) rfl ?_)
      refine So.gd rfl rfl (lk rfl) (lk rfl) (fun h5 => ?_) (fun h5 => ?_)
      ·have h5 := of_decide_eq_false (bnT h5)
       refine A.v rfl (V.mv (v := .p (.v (.int .i64 _))) rfl ?_)
       refine So.gy rfl rfl (lk rfl) (lk rfl) ?_
       refine A.v rfl (V.bin (a := (.v (.int .i64 _))) (b := (.v (.int .i64 (8)))) (r := .v (.bool _)) rfl rfl rfl trivial ?_)
       refine So.gy rfl rfl (lk rfl) (lk rfl) ?_
       refine A.v rfl (V.pkTrue (u := .p (.v (.bool _))) rfl rfl ?_)
       refine So.q rfl rfl (V.pkFalse (u := .p (.v (.bool _))) rfl rfl ?_)
       refine So.e ?_
       show HT _ _ _ _ _
       refine R.cond rfl rfl (fun h6 => ?_) (fun h6 => ?_)
       ·have h6 := of_decide_eq_false (bnT h6)
        refine HT.seq ?_
        refine HT.region S_rget_ok ?_
        refine So.q rfl rfl (V.as (v := .p (.v (.int .i64 (0)))) rfl ?_)
        refine So.q rfl rfl (V.as (v := .p (.v (.int .i64 (0)))) rfl ?_)
        refine So.q rfl rfl (V.as (v := .p (.v (.int .i64 (1)))) rfl ?_)
        refine So.e ?_
        show HT _ _ _ _ _
        refine HT.ret ?_
        exact ret_ok (sg []) h rfl rfl rfl trivial ⟨trivial, trivial, trivial, trivial⟩ rfl ⟨⟨⟨le_int (by first | (rw [getF_arg (by omega)]; done) | (rw [getF_end (by omega) (by omega) (by omega) (by omega)]; done) | (rw [getF_longU (by omega) (by omega) (by omega) (by omega) (by omega)]; done) | (rw [getF_okU (by omega) (by omega) (by omega) (by omega) (by omega)]; done)), trivial⟩, ⟨le_int (by first | (rw [getF_arg (by omega)]; done) | (rw [getF_end (by omega) (by omega) (by omega) (by omega)]; done) | (rw [getF_longU (by omega) (by omega) (by omega) (by omega) (by omega)]; done) | (rw [getF_okU (by omega) (by omega) (by omega) (by omega) (by omega)]; done)), trivial⟩, ⟨le_int (by first | (rw [getF_arg (by omega)]; done) | (rw [getF_end (by omega) (by omega) (by omega) (by omega)]; done) | (rw [getF_longU (by omega) (by omega) (by omega) (by omega) (by omega)]; done) | (rw [getF_okU (by omega) (by omega) (by omega) (by omega) (by omega)]; done)), trivial⟩, trivial⟩, trivial⟩
       ·have h6 := of_decide_eq_true (bnF h6)
        refine HT.skip ?_
        exact ⟨by omega, ⟨⟨⟨.refl _, trivial⟩, ⟨.refl _, trivial⟩, ⟨.refl _, trivial⟩, trivial⟩, trivial⟩⟩
      ·have h5 := of_decide_eq_true (bnF h5)
       refine So.gn (b := false) rfl rfl rfl (lk rfl) (lk rfl) ?_
       refine So.gy rfl rfl (lk rfl) (lk rfl) ?_
       refine A.v rfl (V.pkFalse (u := .p (.v (.bool false))) rfl rfl ?_)
       refine So.q rfl rfl (V.pkFalse (u := .p (.v (.bool false))) rfl rfl ?_)
       refine So.e ?_
       show HT _ _ _ _ _
       refine R.condF rfl ?_
       refine HT.skip ?_
       exact ⟨by omega, ⟨⟨⟨.refl _, trivial⟩, ⟨.refl _, trivial⟩, ⟨.refl _, trivial⟩, trivial⟩, trivial⟩⟩
     ·have h4 := of_decide_eq_true (bnF h4)
      refine So.gn (b := false) rfl rfl rfl (lk rfl) (lk rfl) ?_
      refine So.gy rfl rfl (lk rfl) (lk rfl) ?_
      refine A.v rfl (V.pkFalse (u := .p (.v (.bool false))) rfl rfl ?_)
      refine So.gy rfl rfl (lk rfl) (lk rfl) ?_
      refine A.v rfl (V.mv (v := .p (.v (.bool false))) rfl ?_)
      refine So.gn (b := false) rfl rfl rfl (lk rfl) (lk rfl) ?_
      refine So.gn (b := false) rfl rfl rfl (lk rfl) (lk rfl) ?_
      refine So.gy rfl rfl (lk rfl) (lk rfl) ?_
      refine A.v rfl (V.pkFalse (u := .p (.v (.bool false))) rfl rfl ?_)
      refine So.q rfl rfl (V.pkFalse (u := .p (.v (.bool false))) rfl rfl ?_)
      refine So.e ?_
      show HT _ _ _ _ _
      refine R.condF rfl ?_
      refine HT.skip ?_
      exact ⟨by omega, ⟨⟨⟨.refl _, trivial⟩, ⟨.refl _, trivial⟩, ⟨.refl _, trivial⟩, trivial⟩, trivial⟩⟩
    ·have h3 := of_decide_eq_true (bnF h3)
     refine So.gn (b := false) rfl rfl rfl (lk rfl) (lk rfl) ?_
     refine So.gy rfl rfl (lk rfl) (lk rfl) ?_
     refine A.v rfl (V.pkFalse (u := .p (.v (.bool false))) rfl rfl ?_)
     refine So.gy rfl rfl (lk rfl) (lk rfl) ?_
     refine A.v rfl (V.mv (v := .p (.v (.bool false))) rfl ?_)
     refine So.gn (b := false) rfl rfl rfl (lk rfl) (lk rfl) ?_
     refine So.gn (b := false) rfl rfl rfl (lk rfl) (lk rfl) ?_
     refine So.gy rfl rfl (lk rfl) (lk rfl) ?_
     refine A.v rfl (V.pkFalse (u := .p (.v (.bool false))) rfl rfl ?_)
     refine So.gy rfl rfl (lk rfl) (lk rfl) ?_
     refine A.v rfl (V.mv (v := .p (.v (.bool false))) rfl ?_)
     refine So.gn (b := false) rfl rfl rfl (lk rfl) (lk rfl) ?_
     refine So.gn (b := false) rfl rfl rfl (lk rfl) (lk rfl) ?_
     refine So.gy rfl rfl (lk rfl) (lk rfl) ?_
     refine A.v rfl (V.pkFalse (u := .p (.v (.bool false))) rfl rfl ?_)
     refine So.q rfl rfl (V.pkFalse (u := .p (.v (.bool false))) rfl rfl ?_)
     refine So.e ?_
     show HT _ _ _ _ _
     refine R.condF rfl ?_
     refine HT.skip ?_
     exact ⟨by omega, ⟨⟨⟨.refl _, trivial⟩, ⟨.refl _, trivial⟩, ⟨.refl _, trivial⟩, trivial⟩, trivial⟩⟩
   ·have h2 := of_decide_eq_true h2
    refine So.gn (b := true) rfl rfl rfl (lk rfl) (lk rfl) ?_
    refine So.gn (b := true) rfl rfl rfl (lk rfl) (lk rfl) ?_
    refine So.gu rfl rfl (lk rfl) ?_
    refine So.gu rfl rfl (lk rfl) ?_
    refine So.gn (b := true) rfl rfl rfl (lk rfl) (lk rfl) ?_
    refine So.gn (b := true) rfl rfl rfl (lk rfl) (lk rfl) ?_
    refine So.gu rfl rfl (lk rfl) ?_
    refine So.gu rfl rfl (lk rfl) ?_
    refine So.gn (b := true) rfl rfl rfl (lk rfl) (lk rfl) ?_
    refine So.gn (b := true) rfl rfl rfl (lk rfl) (lk rfl) ?_
    refine So.gu rfl rfl (lk rfl) ?_
    refine So.gu rfl rfl (lk rfl) ?_
    refine So.gn (b := true) rfl rfl rfl (lk rfl) (lk rfl) ?_
    refine So.q rfl rfl (V.pkTrue (u := .p (.v (.bool true))) rfl rfl ?_)
    refine So.e ?_
    show HT _ _ _ _ _
    refine R.condT rfl ?_
    refine HT.seq ?_
    refine HT.region S_rget_ok ?_
    refine So.q rfl rfl (V.as (v := .p (.v (.int .i64 (0)))) rfl ?_)
    refine So.q rfl rfl (V.as (v := .p (.v (.int .i64 (0)))) rfl ?_)
    refine So.q rfl rfl (V.as (v := .p (.v (.int .i64 (1)))) rfl ?_)
    refine So.e ?_
    show HT _ _ _ _ _
    refine HT.ret ?_
    exact ret_ok (sg []) h rfl rfl rfl trivial ⟨trivial, trivial, trivial, trivial⟩ rfl ⟨⟨⟨le_int (by first | (rw [getF_arg (by omega)]; done) | (rw [getF_end (by omega) (by omega) (by omega) (by omega)]; done) | (rw [getF_longU (by omega) (by omega) (by omega) (by omega) (by omega)]; done) | (rw [getF_okU (by omega) (by omega) (by omega) (by omega) (by omega)]; done)), trivial⟩, ⟨le_int (by first | (rw [getF_arg (by omega)]; done) | (rw [getF_end (by omega) (by omega) (by omega) (by omega)]; done) | (rw [getF_longU (by omega) (by omega) (by omega) (by omega) (by omega)]; done) | (rw [getF_okU (by omega) (by omega) (by omega) (by omega) (by omega)]; done)), trivial⟩, ⟨le_int (by first | (rw [getF_arg (by omega)]; done) | (rw [getF_end (by omega) (by omega) (by omega) (by omega)]; done) | (rw [getF_longU (by omega) (by omega) (by omega) (by omega) (by omega)]; done) | (rw [getF_okU (by omega) (by omega) (by omega) (by omega) (by omega)]; done)), trivial⟩, trivial⟩, trivial⟩
  ·have h1 := of_decide_eq_true h1
   refine So.gn (b := true) rfl rfl rfl (lk rfl) (lk rfl) ?_
   refine So.gn (b := true) rfl rfl rfl (lk rfl) (lk rfl) ?_
   refine So.gn (b := true) rfl rfl rfl (lk rfl) (lk rfl) ?_
   refine So.q rfl rfl (V.pkTrue (u := .p (.v (.bool true))) rfl rfl ?_)
   refine So.q rfl rfl (V.mv (v := .p (.v (.bool true))) rfl ?_)
   refine So.gn (b := true) rfl rfl rfl (lk rfl) (lk rfl) ?_
   refine So.gn (b := true) rfl rfl rfl (lk rfl) (lk rfl) ?_
   refine So.gn (b := true) rfl rfl rfl (lk rfl) (lk rfl) ?_
   refine So.gu rfl rfl (lk rfl) ?_
   refine So.gu rfl rfl (lk rfl) ?_
   refine So.gn (b := true) rfl rfl rfl (lk rfl) (lk rfl) ?_
   refine So.gn (b := true) rfl rfl rfl (lk rfl) (lk rfl) ?_
   refine So.gu rfl rfl (lk rfl) ?_
   refine So.gu rfl rfl (lk rfl) ?_
   refine So.gn (b := true) rfl rfl rfl (lk rfl) (lk rfl) ?_
   refine So.gn (b := true) rfl rfl rfl (lk rfl) (lk rfl) ?_
   refine So.gu rfl rfl (lk rfl) ?_
   refine So.gu rfl rfl (lk rfl) ?_
   refine So.gn (b := true) rfl rfl rfl (lk rfl) (lk rfl) ?_
   refine So.q rfl rfl (V.pkTrue (u := .p (.v (.bool true))) rfl rfl ?_)
   refine So.e ?_
   show HT _ _ _ _ _
   refine R.condT rfl ?_
   refine HT.seq ?_
   refine HT.region S_rget_ok ?_
   refine So.q rfl rfl (V.as (v := .p (.v (.int .i64 (0)))) rfl ?_)
   refine So.q rfl rfl (V.as (v := .p (.v (.int .i64 (0)))) rfl ?_)
   refine So.q rfl rfl (V.as (v := .p (.v (.int .i64 (1)))) rfl ?_)
   refine So.e ?_
   show HT _ _ _ _ _
   refine HT.ret ?_
   exact ret_ok (sg []) h rfl rfl rfl trivial ⟨trivial, trivial, trivial, trivial⟩ rfl ⟨⟨⟨le_int (by first | (rw [getF_arg (by omega)]; done) | (rw [getF_end (by omega) (by omega) (by omega) (by omega)]; done) | (rw [getF_longU (by omega) (by omega) (by omega) (by omega) (by omega)]; done) | (rw [getF_okU (by omega) (by omega) (by omega) (by omega) (by omega)]; done)), trivial⟩, ⟨le_int (by first | (rw [getF_arg (by omega)]; done) | (rw [getF_end (by omega) (by omega) (by omega) (by omega)]; done) | (rw [getF_longU (by omega) (by omega) (by omega) (by omega) (by omega)]; done) | (rw [getF_okU (by omega) (by omega) (by omega) (by omega) (by omega)]; done)), trivial⟩, ⟨le_int (by first | (rw [getF_arg (by omega)]; done) | (rw [getF_end (by omega) (by omega) (by omega) (by omega)]; done) | (rw [getF_longU (by omega) (by omega) (by omega) (by omega) (by omega)]; done) | (rw [getF_okU (by omega) (by omega) (by omega) (by omega) (by omega)]; done)), trivial⟩, trivial⟩, trivial⟩
 ·refine HT.seq ?_
  refine HT.seq ?_
  refine HT.region S_rget_ok ?_
  refine So.q rfl rfl (V.mv (v := .p (.bs _)) rfl ?_)
  refine So.q rfl rfl (V.len ty22 (v := .p (.bs _)) rfl rfl ?_)
  refine So.q rfl rfl (V.mv (v := .p (.v (.int .i64 _))) rfl ?_)
  refine So.q rfl rfl (V.subI rfl rfl (by omega) ?_)
  refine So.q rfl rfl (V.mv (v := .p (.v (.int .i64 _))) rfl ?_)
  refine So.q rfl rfl (V.bin (a := (.v (.int .i64 _))) (b := (.v (.int .i64 _))) (r := .v (.bool _)) rfl rfl rfl trivial ?_)
  refine So.e ?_
  show HT _ _ _ _ _
  refine R.cond rfl rfl (fun h7 => ?_) (fun h7 => ?_)
  ·have h7 := of_decide_eq_true h7
   refine HT.seq ?_
   refine HT.region S_rget_ok ?_
   refine So.q rfl rfl (V.as (v := .p (.v (.int .i64 (0)))) rfl ?_)
   refine So.q rfl rfl (V.as (v := .p (.v (.int .i64 (0)))) rfl ?_)
   refine So.q rfl rfl (V.as (v := .p (.v (.int .i64 (111)))) rfl ?_)
   refine So.e ?_
   show HT _ _ _ _ _
   refine HT.ret ?_
   exact ret_ok (sg []) h rfl rfl rfl trivial ⟨trivial, trivial, trivial, trivial⟩ rfl ⟨⟨⟨le_int (by first | (rw [getF_arg (by omega)]; done) | (rw [getF_end (by omega) (by omega) (by omega) (by omega)]; done) | (rw [getF_longU (by omega) (by omega) (by omega) (by omega) (by omega)]; done) | (rw [getF_okU (by omega) (by omega) (by omega) (by omega) (by omega)]; done)), trivial⟩, ⟨le_int (by first | (rw [getF_arg (by omega)]; done) | (rw [getF_end (by omega) (by omega) (by omega) (by omega)]; done) | (rw [getF_longU (by omega) (by omega) (by omega) (by omega) (by omega)]; done) | (rw [getF_okU (by omega) (by omega) (by omega) (by omega) (by omega)]; done)), trivial⟩, ⟨le_int (by first | (rw [getF_arg (by omega)]; done) | (rw [getF_end (by omega) (by omega) (by omega) (by omega)]; done) | (rw [getF_longU (by omega) (by omega) (by omega) (by omega) (by omega)]; done) | (rw [getF_okU (by omega) (by omega) (by omega) (by omega) (by omega)]; done)), trivial⟩, trivial⟩, trivial⟩
  ·have h7 := of_decide_eq_false h7
   refine HT.skip ?_
   show HT _ _ _ _ _
   refine HT.seq ?_
   refine HT.region S_rget_ok ?_
   refine So.q rfl rfl (V.as (v := .p (.u64 0)) rfl ?_)
   refine So.e ?_
   show HT _ _ _ _ _
   refine HT.seq ?_
   refine HT.seq ?_
   refine HT.region S_rget_ok ?_
   refine So.q rfl rfl (V.as (v := .p (.v (.int .i64 (0)))) rfl ?_)
   refine So.e ?_
   show HT _ _ _ _ _
   refine HT.block ?_
   refine R.loop (σ := Nat) (fun s => [(9, .p (.u64 (UInt64.ofNat (beN (((b.take (i + n).toNat).drop i.toNat).take s))))), (10, .p (.v (.int .i64 ((s : Int)))))]) (fun s => []) [0, 1, 2] [] (fun s => s ≤ n.toNat) (fun s => n.toNat - s) (0) (fr0 := [(0, .p (.bs _)), (1, .p (.v (.int .i64 _))), (2, .p (.v (.int .i64 _)))]) (O0 := []) rfl rfl (by first | rfl | omega | (simp; done) | (simp; omega)) ⟨⟨⟨le_u64 (by first | rfl | omega | (simp; done) | (simp; omega)), trivial⟩, ⟨le_int (by first | rfl | omega | (simp; done) | (simp; omega)), trivial⟩, ⟨.refl _, trivial⟩, ⟨.refl _, trivial⟩, ⟨.refl _, trivial⟩, trivial⟩, trivial⟩ (fun s hP0 => ?_)
   have hcl := @cut_len b i n (by omega) (by omega) (by omega)
   refine HT.seq ?_
   refine HT.seq ?_
   refine HT.region S_rget_ok ?_
   refine So.q rfl rfl (V.mv (v := .p (.v (.int .i64 ((_ : Nat) : Int)))) rfl ?_)
   refine So.q rfl rfl (V.mv (v := .p (.v (.int .i64 _))) rfl ?_)
   refine So.q rfl rfl (V.bin (a := (.v (.int .i64 ((_ : Nat) : Int)))) (b := (.v (.int .i64 _))) (r := .v (.bool _)) rfl rfl rfl trivial ?_)
   refine So.e ?_
   show HT _ _ _ _ _
   refine R.cond rfl rfl (fun h8 => ?_) (fun h8 => ?_)
   ·have h8 := of_decide_eq_true h8
    refine HT.skip ?_
    show HT _ _ _ _ _
    refine HT.seq ?_
    refine HT.block ?_
    refine HT.region S_rget_ok ?_
    refine So.q rfl rfl (V.mv (v := .p (.u64 _)) rfl ?_)
    refine So.q rfl rfl (V.shlC (n := 8) (a := (.u64 _)) (b := (.u64 8)) (r := .u64 (u64Shl _ 8)) rfl rfl rfl rfl ?_)
    refine So.q rfl rfl (V.mv (v := .p (.bs _)) rfl ?_)
    refine So.q rfl rfl (V.mv (v := .p (.v (.int .i64 _))) rfl ?_)
    refine So.q rfl rfl (V.mv (v := .p (.v (.int .i64 ((_ : Nat) : Int)))) rfl ?_)
    refine So.q rfl rfl (V.addI rfl rfl (by omega) ?_)
    refine So.q rfl rfl (V.ixBs ty22 ty5 rfl rfl rfl (by omega) rfl ?_)
    refine So.q rfl rfl (V.ldRp ty5 rfl rfl (lk rfl) (v := (.u8 _)) rfl ?_)
    refine So.q rfl rfl (V.cvN ty95 ty5 (a := (.u8 _)) (r := (.u64 _)) rfl rfl ?_)
    refine So.q rfl rfl (V.bin (a := (.u64 _)) (b := (.u64 _)) (r := .u64 _) rfl rfl rfl trivial ?_)
    refine So.q rfl rfl (V.as (v := .p (.u64 _)) rfl ?_)
    refine So.e ?_
    show HT _ _ _ _ _
    refine HT.region S_rget_ok ?_
    refine So.q rfl rfl (V.mv (v := .p (.v (.int .i64 ((_ : Nat) : Int)))) rfl ?_)
    refine So.q rfl rfl (V.addI rfl rfl (by omega) ?_)
    refine So.q rfl rfl (V.as (v := .p (.v (.int .i64 _))) rfl ?_)
    refine So.e ?_
    refine ⟨s + 1, by first | rfl | omega | (simp; done) | (simp; omega), by omega, ⟨⟨⟨le_u64 (by first | rfl | (rw [cut_get (n := n) (by omega) (by omega) (by omega), u64_step, beN_take (by omega)])), trivial⟩, ⟨le_int (by first | rfl | omega | (simp; done) | (simp; omega)), trivial⟩, ⟨.refl _, trivial⟩, ⟨.refl _, trivial⟩, ⟨.refl _, trivial⟩, trivial⟩, trivial⟩⟩
   ·have h8 := of_decide_eq_false h8
    refine HT.exit ?_
    show HT _ _ _ _ _
    refine HT.seq ?_
    refine HT.seq ?_
    refine HT.region S_rget_ok ?_
    replace hP0 : s = n.toNat := by omega
    rw [show ((b.take (i + n).toNat).drop i.toNat).take s = ((b.take (i + n).toNat).drop i.toNat) from List.take_of_length_le (by omega)]
    refine So.q rfl rfl (V.mv (v := .p (.u64 _)) rfl ?_)
    refine So.q rfl rfl (V.bin (a := (.u64 _)) (b := (.u64 9223372036854775807)) (r := .v (.bool _)) rfl rfl rfl trivial ?_)
    refine So.e ?_
    show HT _ _ _ _ _
    refine R.cond rfl rfl (fun h9 => ?_) (fun h9 => ?_)
    ·have h9 := UInt64.lt_iff_toNat_lt.1 (of_decide_eq_true h9)
     rw [show (9223372036854775807 : UInt64).toNat = 9223372036854775807 from rfl] at h9
     refine HT.seq ?_
     refine HT.region S_rget_ok ?_
     refine So.q rfl rfl (V.as (v := .p (.v (.int .i64 (0)))) rfl ?_)
     refine So.q rfl rfl (V.as (v := .p (.v (.int .i64 (0)))) rfl ?_)
     refine So.q rfl rfl (V.as (v := .p (.v (.int .i64 (112)))) rfl ?_)
     refine So.e ?_
     show HT _ _ _ _ _
     refine HT.ret ?_
     exact ret_ok (sg []) h rfl rfl rfl trivial ⟨trivial, trivial, trivial, trivial⟩ rfl ⟨⟨⟨le_int (by first | (rw [getF_arg (by omega)]; done) | (rw [getF_end (by omega) (by omega) (by omega) (by omega)]; done) | (rw [getF_longU (by omega) (by omega) (by omega) (by omega) (by omega)]; done) | (rw [getF_okU (by omega) (by omega) (by omega) (by omega) (by omega)]; done)), trivial⟩, ⟨le_int (by first | (rw [getF_arg (by omega)]; done) | (rw [getF_end (by omega) (by omega) (by omega) (by omega)]; done) | (rw [getF_longU (by omega) (by omega) (by omega) (by omega) (by omega)]; done) | (rw [getF_okU (by omega) (by omega) (by omega) (by omega) (by omega)]; done)), trivial⟩, ⟨le_int (by first | (rw [getF_arg (by omega)]; done) | (rw [getF_end (by omega) (by omega) (by omega) (by omega)]; done) | (rw [getF_longU (by omega) (by omega) (by omega) (by omega) (by omega)]; done) | (rw [getF_okU (by omega) (by omega) (by omega) (by omega) (by omega)]; done)), trivial⟩, trivial⟩, trivial⟩
    ·have h9 := mt UInt64.lt_iff_toNat_lt.2 (of_decide_eq_false h9)
     rw [show (9223372036854775807 : UInt64).toNat = 9223372036854775807 from rfl] at h9
     refine HT.skip ?_
     show HT _ _ _ _ _
     refine HT.seq ?_
     refine HT.region S_rget_ok ?_
     refine So.q rfl rfl (V.mv (v := .p (.u64 _)) rfl ?_)
     refine So.q rfl rfl (V.cvN ty2 ty95 (a := (.u64 _)) (r := (.v (.int .i64 _))) rfl rfl ?_)
     refine So.q rfl rfl (V.mv (v := .p (.v (.int .i64 _))) rfl ?_)
     refine So.q rfl rfl (V.mv (v := .p (.v (.int .i64 _))) rfl ?_)
     refine So.q rfl rfl (V.addI rfl rfl (by omega) ?_)
     refine So.q rfl rfl (V.as (v := .p (.v (.int .i64 _))) rfl ?_)
     refine So.q rfl rfl (V.as (v := .p (.v (.int .i64 _))) rfl ?_)
     refine So.q rfl rfl (V.as (v := .p (.v (.int .i64 (0)))) rfl ?_)
     refine So.e ?_
     show HT _ _ _ _ _
     refine HT.ret ?_
     exact ret_ok (sg []) h rfl rfl rfl trivial ⟨trivial, trivial, trivial, trivial⟩ rfl ⟨⟨⟨le_int (by first | (rw [getF_arg (by omega)]; done) | (rw [getF_end (by omega) (by omega) (by omega) (by omega)]; done) | (rw [getF_longU (by omega) (by omega) (by omega) (by omega) (by omega)]; done) | (rw [getF_okU (by omega) (by omega) (by omega) (by omega) (by omega)]; done)), trivial⟩, ⟨le_int (by first | (rw [getF_arg (by omega)]; done) | (rw [getF_end (by omega) (by omega) (by omega) (by omega)]; done) | (rw [getF_longU (by omega) (by omega) (by omega) (by omega) (by omega)]; done) | (rw [getF_okU (by omega) (by omega) (by omega) (by omega) (by omega)]; done)), trivial⟩, ⟨le_int (by first | (rw [getF_arg (by omega)]; done) | (rw [getF_end (by omega) (by omega) (by omega) (by omega)]; done) | (rw [getF_longU (by omega) (by omega) (by omega) (by omega) (by omega)]; done) | (rw [getF_okU (by omega) (by omega) (by omega) (by omega) (by omega)]; done)), trivial⟩, trivial⟩, trivial⟩
def rhdSp : Sp := ⟨[], mkE (α := (List UInt8) × Int) (fun (b, i) => [.p (.bs (b)), .p (.v (.int .i64 (i)))]) (fun (b, i) => []) (fun (b, i) => True) (fun (b, i) => [.p (.v (.int .i64 ((hdF b i).1))), .p (.v (.int .i64 ((hdF b i).2.1))), .p (.v (.int .i64 ((hdF b i).2.2)))]) (fun (b, i) => [])⟩
def S_rhd : FuncId → Option Sp := fun f => if f = 59 then some rlenSp else none
theorem S_rhd_ok : ∀ f s, S_rhd f = some s → FOK Tryd.prog gl f s := fun f s h => by
 unfold S_rhd at h
 split at h
 ·rename_i e; cases h; subst e; exact rlen_ok
 cases h
set_option maxHeartbeats 1000000 in
set_option maxRecDepth 1000 in
theorem rhd_ok : FOK Tryd.prog gl 63 rhdSp := by
 refine FOK.ofE (tyOf_ok Tryd.prog) (slots := [4, 5, 6]) (nt := 83) Tryd.func63 rfl rfl rfl rfl (by decide) 2 (fun ⟨_, _⟩ => rfl) (by decide) (fun ⟨_, _⟩ => ⟨trivial, trivial, trivial⟩) ?_
 rintro ⟨b, i⟩ kk hlen hpre h
 have hl0 : (b).length ≤ 9223372036854775807 := hlen.1
 replace hpre : True := hpre
 show HT (cx Tryd.prog 83 (tyOf Tryd.prog) gl []) _ [(0, .p (.bs (b))), (1, .p (.v (.int .i64 (i))))] [] _
 refine HT.seq ?_
 refine HT.region S_rhd_ok ?_
 refine So.q rfl rfl (V.as (v := .p (.v (.int .i64 (0)))) rfl ?_)
 refine So.q rfl rfl (V.as (v := .p (.v (.int .i64 (0)))) rfl ?_)
 refine So.q rfl rfl (V.as (v := .p (.v (.int .i64 (0)))) rfl ?_)
 refine So.e ?_
 show HT _ _ _ _ _
 refine HT.seq ?_
 refine HT.seq ?_
 refine HT.region S_rhd_ok ?_
 refine So.q rfl rfl (V.mv (v := .p (.v (.int .i64 _))) rfl ?_)
 refine So.q rfl rfl (V.bin (a := (.v (.int .i64 _))) (b := (.v (.int .i64 (0)))) (r := .v (.bool _)) rfl rfl rfl trivial ?_)
 refine So.q rfl rfl (V.mv (v := .p (.v (.bool _))) rfl ?_)
 refine So.gd rfl rfl (lk rfl) (lk rfl) (fun h1 => ?_) (fun h1 => ?_)
 ·have h1 := of_decide_eq_false h1
  refine A.v rfl (V.mv (v := .p (.v (.int .i64 _))) rfl ?_)
  refine So.gy rfl rfl (lk rfl) (lk rfl) ?_
  refine A.v rfl (V.mv (v := .p (.bs _)) rfl ?_)
  refine So.gy rfl rfl (lk rfl) (lk rfl) ?_
  refine A.v rfl (V.len ty22 (v := .p (.bs _)) rfl rfl ?_)
  refine So.gy rfl rfl (lk rfl) (lk rfl) ?_
  refine A.v rfl (V.bin (a := (.v (.int .i64 _))) (b := (.v (.int .i64 _))) (r := .v (.bool _)) rfl rfl rfl trivial ?_)
  refine So.q rfl rfl (V.pkFalse (u := .p (.v (.bool _))) rfl rfl ?_)
  refine So.e ?_
  show HT _ _ _ _ _
  refine R.cond rfl rfl (fun h2 => ?_) (fun h2 => ?_)
  ·have h2 := of_decide_eq_true h2
   refine HT.seq ?_
   refine HT.region S_rhd_ok ?_
   refine So.q rfl rfl (V.as (v := .p (.v (.int .i64 (0)))) rfl ?_)
   refine So.q rfl rfl (V.as (v := .p (.v (.int .i64 (0)))) rfl ?_)
   refine So.q rfl rfl (V.as (v := .p (.v (.int .i64 (1)))) rfl ?_)
   refine So.e ?_
   show HT _ _ _ _ _
   refine HT.ret ?_
   exact ret_ok (sg []) h rfl rfl rfl trivial ⟨trivial, trivial, trivial, trivial⟩ rfl ⟨⟨⟨le_int (by first | rfl | (rw [hd_arg (by omega)]; done) | (rw [hd_end (by omega)]; done) | (rw [hd_192 (by omega) (by omega) (by omega)]; done) | (rw [hd_short (by omega) (by omega) (by omega) (by omega)]; done) | (rw [(hd_val (s := s) (by omega) (by omega) (by omega) (by omega)).1 (by omega)]; done) | (rw [(hd_val (s := s) (by omega) (by omega) (by omega) (by omega)).2.1 (by omega) (by omega)]; done) | (rw [(hd_val (s := s) (by omega) (by omega) (by omega) (by omega)).2.2.1 (by omega) (by omega) (by omega)]; done) | (rw [(hd_val (s := s) (by omega) (by omega) (by omega) (by omega)).2.2.2 (by omega) (by omega) (by omega)]; first | done | (dsimp only; omega))), trivial⟩, ⟨le_int (by first | rfl | (rw [hd_arg (by omega)]; done) | (rw [hd_end (by omega)]; done) | (rw [hd_192 (by omega) (by omega) (by omega)]; done) | (rw [hd_short (by omega) (by omega) (by omega) (by omega)]; done) | (rw [(hd_val (s := s) (by omega) (by omega) (by omega) (by omega)).1 (by omega)]; done) | (rw [(hd_val (s := s) (by omega) (by omega) (by omega) (by omega)).2.1 (by omega) (by omega)]; done) | (rw [(hd_val (s := s) (by omega) (by omega) (by omega) (by omega)).2.2.1 (by omega) (by omega) (by omega)]; done) | (rw [(hd_val (s := s) (by omega) (by omega) (by omega) (by omega)).2.2.2 (by omega) (by omega) (by omega)]; first | done | (dsimp only; omega))), trivial⟩, ⟨le_int (by first | rfl | (rw [hd_arg (by omega)]; done) | (rw [hd_end (by omega)]; done) | (rw [hd_192 (by omega) (by omega) (by omega)]; done) | (rw [hd_short (by omega) (by omega) (by omega) (by omega)]; done) | (rw [(hd_val (s := s) (by omega) (by omega) (by omega) (by omega)).1 (by omega)]; done) | (rw [(hd_val (s := s) (by omega) (by omega) (by omega) (by omega)).2.1 (by omega) (by omega)]; done) | (rw [(hd_val (s := s) (by omega) (by omega) (by omega) (by omega)).2.2.1 (by omega) (by omega) (by omega)]; done) | (rw [(hd_val (s := s) (by omega) (by omega) (by omega) (by omega)).2.2.2 (by omega) (by omega) (by omega)]; first | done | (dsimp only; omega))), trivial⟩, trivial⟩, trivial⟩
  ·have h2 := of_decide_eq_false h2
   refine HT.skip ?_
   show HT _ _ _ _ _
   refine HT.seq ?_
   refine HT.seq ?_
   refine HT.region S_rhd_ok ?_
   refine So.q rfl rfl (V.mv (v := .p (.v (.int .i64 _))) rfl ?_)
   refine So.q rfl rfl (V.mv (v := .p (.bs _)) rfl ?_)
   refine So.q rfl rfl (V.len ty22 (v := .p (.bs _)) rfl rfl ?_)
   refine So.q rfl rfl (V.bin (a := (.v (.int .i64 _))) (b := (.v (.int .i64 _))) (r := .v (.bool _)) rfl rfl rfl trivial ?_)
   refine So.e ?_
   show HT _ _ _ _ _
   refine R.cond rfl rfl (fun h3 => ?_) (fun h3 => ?_)
   ·have h3 := of_decide_eq_true h3
    refine HT.seq ?_
    refine HT.region S_rhd_ok ?_
    refine So.q rfl rfl (V.as (v := .p (.v (.int .i64 (0)))) rfl ?_)
    refine So.q rfl rfl (V.as (v := .p (.v (.int .i64 (0)))) rfl ?_)
    refine So.q rfl rfl (V.as (v := .p (.v (.int .i64 (111)))) rfl ?_)
    refine So.e ?_
    show HT _ _ _ _ _
    refine HT.ret ?_
    exact ret_ok (sg []) h rfl rfl rfl trivial ⟨trivial, trivial, trivial, trivial⟩ rfl ⟨⟨⟨le_int (by first | rfl | (rw [hd_arg (by omega)]; done) | (rw [hd_end (by omega)]; done) | (rw [hd_192 (by omega) (by omega) (by omega)]; done) | (rw [hd_short (by omega) (by omega) (by omega) (by omega)]; done) | (rw [(hd_val (s := s) (by omega) (by omega) (by omega) (by omega)).1 (by omega)]; done) | (rw [(hd_val (s := s) (by omega) (by omega) (by omega) (by omega)).2.1 (by omega) (by omega)]; done) | (rw [(hd_val (s := s) (by omega) (by omega) (by omega) (by omega)).2.2.1 (by omega) (by omega) (by omega)]; done) | (rw [(hd_val (s := s) (by omega) (by omega) (by omega) (by omega)).2.2.2 (by omega) (by omega) (by omega)]; first | done | (dsimp only; omega))), trivial⟩, ⟨le_int (by first | rfl | (rw [hd_arg (by omega)]; done) | (rw [hd_end (by omega)]; done) | (rw [hd_192 (by omega) (by omega) (by omega)]; done) | (rw [hd_short (by omega) (by omega) (by omega) (by omega)]; done) | (rw [(hd_val (s := s) (by omega) (by omega) (by omega) (by omega)).1 (by omega)]; done) | (rw [(hd_val (s := s) (by omega) (by omega) (by omega) (by omega)).2.1 (by omega) (by omega)]; done) | (rw [(hd_val (s := s) (by omega) (by omega) (by omega) (by omega)).2.2.1 (by omega) (by omega) (by omega)]; done) | (rw [(hd_val (s := s) (by omega) (by omega) (by omega) (by omega)).2.2.2 (by omega) (by omega) (by omega)]; first | done | (dsimp only; omega))), trivial⟩, ⟨le_int (by first | rfl | (rw [hd_arg (by omega)]; done) | (rw [hd_end (by omega)]; done) | (rw [hd_192 (by omega) (by omega) (by omega)]; done) | (rw [hd_short (by omega) (by omega) (by omega) (by omega)]; done) | (rw [(hd_val (s := s) (by omega) (by omega) (by omega) (by omega)).1 (by omega)]; done) | (rw [(hd_val (s := s) (by omega) (by omega) (by omega) (by omega)).2.1 (by omega) (by omega)]; done) | (rw [(hd_val (s := s) (by omega) (by omega) (by omega) (by omega)).2.2.1 (by omega) (by omega) (by omega)]; done) | (rw [(hd_val (s := s) (by omega) (by omega) (by omega) (by omega)).2.2.2 (by omega) (by omega) (by omega)]; first | done | (dsimp only; omega))), trivial⟩, trivial⟩, trivial⟩
   ·have h3 := of_decide_eq_false h3
    refine HT.skip ?_
    show HT _ _ _ _ _
    refine HT.seq ?_
    refine HT.region S_rhd_ok ?_
    refine So.q rfl rfl (V.as (v := .p (.v (.int .i64 (1)))) rfl ?_)
    refine So.e ?_
    show HT _ _ _ _ _
    refine HT.seq ?_
    refine HT.seq ?_
    refine HT.region S_rhd_ok ?_
    refine So.q rfl rfl (V.mv (v := .p (.bs _)) rfl ?_)
    refine So.q rfl rfl (V.mv (v := .p (.v (.int .i64 _))) rfl ?_)
    refine So.q rfl rfl (V.ixBs ty22 ty5 rfl rfl rfl (by omega) rfl ?_)
    refine So.q rfl rfl (V.ldRp ty5 rfl rfl (lk rfl) (v := (.u8 _)) rfl ?_)
    refine So.q rfl rfl (V.bin (a := (.u8 _)) (b := (.u8 192)) (r := .v (.bool _)) rfl rfl rfl trivial ?_)
    refine So.e ?_
    show HT _ _ _ _ _
    refine R.cond rfl rfl (fun h4 => ?_) (fun h4 => ?_)
    ·have h4 := UInt8.le_iff_toNat_le.1 (of_decide_eq_true h4)
     rw [show (192 : UInt8).toNat = 192 from rfl] at h4
     refine HT.seq ?_
     refine HT.region S_rhd_ok ?_
     refine So.q rfl rfl (V.as (v := .p (.v (.int .i64 (0)))) rfl ?_)
     refine So.q rfl rfl (V.as (v := .p (.v (.int .i64 (0)))) rfl ?_)
     refine So.q rfl rfl (V.as (v := .p (.v (.int .i64 (112)))) rfl ?_)
     refine So.e ?_
     show HT _ _ _ _ _
     refine HT.ret ?_
     exact ret_ok (sg []) h rfl rfl rfl trivial ⟨trivial, trivial, trivial, trivial⟩ rfl ⟨⟨⟨le_int (by first | rfl | (rw [hd_arg (by omega)]; done) | (rw [hd_end (by omega)]; done) | (rw [hd_192 (by omega) (by omega) (by omega)]; done) | (rw [hd_short (by omega) (by omega) (by omega) (by omega)]; done) | (rw [(hd_val (s := s) (by omega) (by omega) (by omega) (by omega)).1 (by omega)]; done) | (rw [(hd_val (s := s) (by omega) (by omega) (by omega) (by omega)).2.1 (by omega) (by omega)]; done) | (rw [(hd_val (s := s) (by omega) (by omega) (by omega) (by omega)).2.2.1 (by omega) (by omega) (by omega)]; done) | (rw [(hd_val (s := s) (by omega) (by omega) (by omega) (by omega)).2.2.2 (by omega) (by omega) (by omega)]; first | done | (dsimp only; omega))), trivial⟩, ⟨le_int (by first | rfl | (rw [hd_arg (by omega)]; done) | (rw [hd_end (by omega)]; done) | (rw [hd_192 (by omega) (by omega) (by omega)]; done) | (rw [hd_short (by omega) (by omega) (by omega) (by omega)]; done) | (rw [(hd_val (s := s) (by omega) (by omega) (by omega) (by omega)).1 (by omega)]; done) | (rw [(hd_val (s := s) (by omega) (by omega) (by omega) (by omega)).2.1 (by omega) (by omega)]; done) | (rw [(hd_val (s := s) (by omega) (by omega) (by omega) (by omega)).2.2.1 (by omega) (by omega) (by omega)]; done) | (rw [(hd_val (s := s) (by omega) (by omega) (by omega) (by omega)).2.2.2 (by omega) (by omega) (by omega)]; first | done | (dsimp only; omega))), trivial⟩, ⟨le_int (by first | rfl | (rw [hd_arg (by omega)]; done) | (rw [hd_end (by omega)]; done) | (rw [hd_192 (by omega) (by omega) (by omega)]; done) | (rw [hd_short (by omega) (by omega) (by omega) (by omega)]; done) | (rw [(hd_val (s := s) (by omega) (by omega) (by omega) (by omega)).1 (by omega)]; done) | (rw [(hd_val (s := s) (by omega) (by omega) (by omega) (by omega)).2.1 (by omega) (by omega)]; done) | (rw [(hd_val (s := s) (by omega) (by omega) (by omega) (by omega)).2.2.1 (by omega) (by omega) (by omega)]; done) | (rw [(hd_val (s := s) (by omega) (by omega) (by omega) (by omega)).2.2.2 (by omega) (by omega) (by omega)]; first | done | (dsimp only; omega))), trivial⟩, trivial⟩, trivial⟩
    ·have h4 := mt UInt8.le_iff_toNat_le.2 (of_decide_eq_false h4)
     rw [show (192 : UInt8).toNat = 192 from rfl] at h4
     refine HT.skip ?_
     show HT _ _ _ _ _
     refine R.cut (True) [(7, .p (.v (.int .i64 (szOf (b.getD i.toNat 0)))))] [] [0, 1, 4, 5, 6] [] (fr0 := [(0, .p (.bs _)), (1, .p (.v (.int .i64 _))), (4, .p (.v (.int .i64 _))), (5, .p (.v (.int .i64 _))), (6, .p (.v (.int .i64 _)))]) (O0 := []) rfl rfl ?_ (fun hphi => ?_)
     ·refine HT.seq ?_
      refine HT.region S_rhd_ok ?_
      refine So.q rfl rfl (V.mv (v := .p (.bs _)) rfl ?_)
      refine So.q rfl rfl (V.mv (v := .p (.v (.int .i64 _))) rfl ?_)
      refine So.q rfl rfl (V.ixBs ty22 ty5 rfl rfl rfl (by omega) rfl ?_)
      refine So.q rfl rfl (V.ldRp ty5 rfl rfl (lk rfl) (v := (.u8 _)) rfl ?_)
      refine So.q rfl rfl (V.bin (a := (.u8 _)) (b := (.u8 128)) (r := .v (.bool _)) rfl rfl rfl trivial ?_)
      refine So.e ?_
      show HT _ _ _ _ _
      refine R.cond rfl rfl (fun h5 => ?_) (fun h5 => ?_)
      ·have h5 := UInt8.le_iff_toNat_le.1 (of_decide_eq_true h5)
       rw [show (128 : UInt8).toNat = 128 from rfl] at h5
       refine HT.region S_rhd_ok ?_
       refine So.q rfl rfl (V.as (v := .p (.v (.int .i64 (4)))) rfl ?_)
       refine So.e ?_
       exact ⟨by first | trivial | rfl | (unfold szOf; simp (disch := omega) only [if_pos, if_neg]), ⟨⟨⟨le_int (by first | trivial | rfl | (unfold szOf; simp (disch := omega) only [if_pos, if_neg])), trivial⟩, ⟨.refl _, trivial⟩, ⟨.refl _, trivial⟩, ⟨.refl _, trivial⟩, ⟨.refl _, trivial⟩, ⟨.refl _, trivial⟩, trivial⟩, trivial⟩⟩
      ·have h5 := mt UInt8.le_iff_toNat_le.2 (of_decide_eq_false h5)
       rw [show (128 : UInt8).toNat = 128 from rfl] at h5
       refine HT.seq ?_
       refine HT.region S_rhd_ok ?_
       refine So.q rfl rfl (V.mv (v := .p (.bs _)) rfl ?_)
       refine So.q rfl rfl (V.mv (v := .p (.v (.int .i64 _))) rfl ?_)
       refine So.q rfl rfl (V.ixBs ty22 ty5 rfl rfl rfl (by omega) rfl ?_)
       refine So.q rfl rfl (V.ldRp ty5 rfl rfl (lk rfl) (v := (.u8 _)) rfl ?_)
       refine So.q rfl rfl (V.bin (a := (.u8 _)) (b := (.u8 64)) (r := .v (.bool _)) rfl rfl rfl trivial ?_)
       refine So.e ?_
       show HT _ _ _ _ _
       refine R.cond rfl rfl (fun h6 => ?_) (fun h6 => ?_)
       ·have h6 := UInt8.le_iff_toNat_le.1 (of_decide_eq_true h6)
        rw [show (64 : UInt8).toNat = 64 from rfl] at h6
        refine HT.region S_rhd_ok ?_
        refine So.q rfl rfl (V.as (v := .p (.v (.int .i64 (2)))) rfl ?_)
        refine So.e ?_
        exact ⟨by first | trivial | rfl | (unfold szOf; simp (disch := omega) only [if_pos, if_neg]), ⟨⟨⟨le_int (by first | trivial | rfl | (unfold szOf; simp (disch := omega) only [if_pos, if_neg])), trivial⟩, ⟨.refl _, trivial⟩, ⟨.refl _, trivial⟩, ⟨.refl _, trivial⟩, ⟨.refl _, trivial⟩, ⟨.refl _, trivial⟩, trivial⟩, trivial⟩⟩
       ·have h6 := mt UInt8.le_iff_toNat_le.2 (of_decide_eq_false h6)
        rw [show (64 : UInt8).toNat = 64 from rfl] at h6
        refine HT.skip ?_
        exact ⟨by first | trivial | rfl | (unfold szOf; simp (disch := omega) only [if_pos, if_neg]), ⟨⟨⟨le_int (by first | trivial | rfl | (unfold szOf; simp (disch := omega) only [if_pos, if_neg])), trivial⟩, ⟨.refl _, trivial⟩, ⟨.refl _, trivial⟩, ⟨.refl _, trivial⟩, ⟨.refl _, trivial⟩, ⟨.refl _, trivial⟩, trivial⟩, trivial⟩⟩
     ·refine HT.seq ?_
      refine HT.seq ?_
      refine HT.region S_rhd_ok ?_
      have hsz := szOf_v (b.getD i.toNat 0)
      refine So.q rfl rfl (V.mv (v := .p (.bs _)) rfl ?_)
      refine So.q rfl rfl (V.len ty22 (v := .p (.bs _)) rfl rfl ?_)
      refine So.q rfl rfl (V.mv (v := .p (.v (.int .i64 _))) rfl ?_)
      refine So.q rfl rfl (V.subI rfl rfl (by omega) ?_)
      refine So.q rfl rfl (V.mv (v := .p (.v (.int .i64 _))) rfl ?_)
      refine So.q rfl rfl (V.bin (a := (.v (.int .i64 _))) (b := (.v (.int .i64 _))) (r := .v (.bool _)) rfl rfl rfl trivial ?_)
      refine So.e ?_
      show HT _ _ _ _ _
      refine R.cond rfl rfl (fun h7 => ?_) (fun h7 => ?_)
      ·have h7 := of_decide_eq_true h7
       refine HT.seq ?_
       refine HT.region S_rhd_ok ?_
       refine So.q rfl rfl (V.as (v := .p (.v (.int .i64 (0)))) rfl ?_)
       refine So.q rfl rfl (V.as (v := .p (.v (.int .i64 (0)))) rfl ?_)
       refine So.q rfl rfl (V.as (v := .p (.v (.int .i64 (111)))) rfl ?_)
       refine So.e ?_
       show HT _ _ _ _ _
       refine HT.ret ?_
       exact ret_ok (sg []) h rfl rfl rfl trivial ⟨trivial, trivial, trivial, trivial⟩ rfl ⟨⟨⟨le_int (by first | rfl | (rw [hd_arg (by omega)]; done) | (rw [hd_end (by omega)]; done) | (rw [hd_192 (by omega) (by omega) (by omega)]; done) | (rw [hd_short (by omega) (by omega) (by omega) (by omega)]; done) | (rw [(hd_val (s := s) (by omega) (by omega) (by omega) (by omega)).1 (by omega)]; done) | (rw [(hd_val (s := s) (by omega) (by omega) (by omega) (by omega)).2.1 (by omega) (by omega)]; done) | (rw [(hd_val (s := s) (by omega) (by omega) (by omega) (by omega)).2.2.1 (by omega) (by omega) (by omega)]; done) | (rw [(hd_val (s := s) (by omega) (by omega) (by omega) (by omega)).2.2.2 (by omega) (by omega) (by omega)]; first | done | (dsimp only; omega))), trivial⟩, ⟨le_int (by first | rfl | (rw [hd_arg (by omega)]; done) | (rw [hd_end (by omega)]; done) | (rw [hd_192 (by omega) (by omega) (by omega)]; done) | (rw [hd_short (by omega) (by omega) (by omega) (by omega)]; done) | (rw [(hd_val (s := s) (by omega) (by omega) (by omega) (by omega)).1 (by omega)]; done) | (rw [(hd_val (s := s) (by omega) (by omega) (by omega) (by omega)).2.1 (by omega) (by omega)]; done) | (rw [(hd_val (s := s) (by omega) (by omega) (by omega) (by omega)).2.2.1 (by omega) (by omega) (by omega)]; done) | (rw [(hd_val (s := s) (by omega) (by omega) (by omega) (by omega)).2.2.2 (by omega) (by omega) (by omega)]; first | done | (dsimp only; omega))), trivial⟩, ⟨le_int (by first | rfl | (rw [hd_arg (by omega)]; done) | (rw [hd_end (by omega)]; done) | (rw [hd_192 (by omega) (by omega) (by omega)]; done) | (rw [hd_short (by omega) (by omega) (by omega) (by omega)]; done) | (rw [(hd_val (s := s) (by omega) (by omega) (by omega) (by omega)).1 (by omega)]; done) | (rw [(hd_val (s := s) (by omega) (by omega) (by omega) (by omega)).2.1 (by omega) (by omega)]; done) | (rw [(hd_val (s := s) (by omega) (by omega) (by omega) (by omega)).2.2.1 (by omega) (by omega) (by omega)]; done) | (rw [(hd_val (s := s) (by omega) (by omega) (by omega) (by omega)).2.2.2 (by omega) (by omega) (by omega)]; first | done | (dsimp only; omega))), trivial⟩, trivial⟩, trivial⟩
      ·have h7 := of_decide_eq_false h7
       refine HT.skip ?_
       show HT _ _ _ _ _
       refine HT.seq ?_
       refine HT.region S_rhd_ok ?_
       refine So.q rfl rfl (V.mv (v := .p (.bs _)) rfl ?_)
       refine So.q rfl rfl (V.mv (v := .p (.v (.int .i64 _))) rfl ?_)
       refine So.q rfl rfl (V.ixBs ty22 ty5 rfl rfl rfl (by omega) rfl ?_)
       refine So.q rfl rfl (V.ldRp ty5 rfl rfl (lk rfl) (v := (.u8 _)) rfl ?_)
       refine So.q rfl rfl (V.cvN ty3 ty5 (a := (.u8 _)) (r := (.v (.int .i64 _))) rfl rfl ?_)
       refine So.q rfl rfl (V.remI rfl rfl (by omega) ?_)
       refine So.q rfl rfl (V.as (v := .p (.v (.int .i64 _))) rfl ?_)
       refine So.e ?_
       show HT _ _ _ _ _
       refine HT.seq ?_
       refine HT.seq ?_
       refine HT.region S_rhd_ok ?_
       refine So.q rfl rfl (V.as (v := .p (.v (.int .i64 (1)))) rfl ?_)
       refine So.e ?_
       show HT _ _ _ _ _
       refine HT.block ?_
       refine R.loop (σ := Nat) (fun s => [(8, .p (.v (.int .i64 ((lenN b i s : Int))))), (9, .p (.v (.int .i64 ((s : Int)))))]) (fun s => []) [0, 1, 4, 5, 6, 7] [] (fun s => 1 ≤ s ∧ (s : Int) ≤ szOf (b.getD i.toNat 0)) (fun s => 4 - s) (1) (fr0 := [(0, .p (.bs _)), (1, .p (.v (.int .i64 _))), (4, .p (.v (.int .i64 _))), (5, .p (.v (.int .i64 _))), (6, .p (.v (.int .i64 _))), (7, .p (.v (.int .i64 _)))]) (O0 := []) rfl rfl (by first | rfl | omega | (simp; done) | (simp; omega)) ⟨⟨⟨le_int (by first | rfl | omega | (rw [lenN_one]; omega) | (have := szOf_v (b.getD i.toNat 0); omega)), trivial⟩, ⟨le_int (by first | rfl | omega | (rw [lenN_one]; omega) | (have := szOf_v (b.getD i.toNat 0); omega)), trivial⟩, ⟨.refl _, trivial⟩, ⟨.refl _, trivial⟩, ⟨.refl _, trivial⟩, ⟨.refl _, trivial⟩, ⟨.refl _, trivial⟩, ⟨.refl _, trivial⟩, trivial⟩, trivial⟩ (fun s hP0 => ?_)
       have hll := @lenN_lt b i s hP0.1
       have hlb := @lenN_b b i s (by omega) (by omega)
       refine HT.seq ?_
       refine HT.seq ?_
       refine HT.region S_rhd_ok ?_
       refine So.q rfl rfl (V.mv (v := .p (.v (.int .i64 ((_ : Nat) : Int)))) rfl ?_)
       refine So.q rfl rfl (V.mv (v := .p (.v (.int .i64 _))) rfl ?_)
       refine So.q rfl rfl (V.bin (a := (.v (.int .i64 ((_ : Nat) : Int)))) (b := (.v (.int .i64 _))) (r := .v (.bool _)) rfl rfl rfl trivial ?_)
       refine So.e ?_
       show HT _ _ _ _ _
       refine R.cond rfl rfl (fun h8 => ?_) (fun h8 => ?_)
       ·have h8 := of_decide_eq_true h8
        refine HT.skip ?_
        show HT _ _ _ _ _
        refine HT.seq ?_
        refine HT.block ?_
        refine HT.region S_rhd_ok ?_
        refine So.q rfl rfl (V.mv (v := .p (.v (.int .i64 _))) rfl ?_)
        refine So.q rfl rfl (V.shlI (n := 8) (M := 256) rfl rfl rfl (by decide) (by omega) ?_)
        refine So.q rfl rfl (V.mv (v := .p (.bs _)) rfl ?_)
        refine So.q rfl rfl (V.mv (v := .p (.v (.int .i64 _))) rfl ?_)
        refine So.q rfl rfl (V.mv (v := .p (.v (.int .i64 ((_ : Nat) : Int)))) rfl ?_)
        refine So.q rfl rfl (V.addI rfl rfl (by omega) ?_)
        refine So.q rfl rfl (V.ixBs ty22 ty5 rfl rfl rfl (by omega) rfl ?_)
        refine So.q rfl rfl (V.ldRp ty5 rfl rfl (lk rfl) (v := (.u8 _)) rfl ?_)
        refine So.q rfl rfl (V.cvN ty3 ty5 (a := (.u8 _)) (r := (.v (.int .i64 _))) rfl rfl ?_)
        refine So.q rfl rfl (V.bin (a := (.v (.int .i64 _))) (b := (.v (.int .i64 _))) (r := .v (.int .i64 _)) rfl rfl rfl trivial ?_)
        refine So.q rfl rfl (V.as (v := .p (.v (.int .i64 _))) rfl ?_)
        refine So.e ?_
        show HT _ _ _ _ _
        refine HT.region S_rhd_ok ?_
        refine So.q rfl rfl (V.mv (v := .p (.v (.int .i64 ((_ : Nat) : Int)))) rfl ?_)
        refine So.q rfl rfl (V.addI rfl rfl (by omega) ?_)
        refine So.q rfl rfl (V.as (v := .p (.v (.int .i64 _))) rfl ?_)
        refine So.e ?_
        refine ⟨s + 1, by first | rfl | omega | (simp; done) | (simp; omega), by omega, ⟨⟨⟨le_int (by first | (rw [lenN_one]; rfl) | exact len_or (by omega) (by omega) (by omega) (by omega) hll), trivial⟩, ⟨le_int (by first | rfl | omega | (simp; done) | (simp; omega)), trivial⟩, ⟨.refl _, trivial⟩, ⟨.refl _, trivial⟩, ⟨.refl _, trivial⟩, ⟨.refl _, trivial⟩, ⟨.refl _, trivial⟩, ⟨.refl _, trivial⟩, trivial⟩, trivial⟩⟩
       ·have h8 := of_decide_eq_false h8
        refine HT.exit ?_
        show HT _ _ _ _ _
        refine HT.seq ?_
        refine HT.seq ?_
        refine HT.region S_rhd_ok ?_
        refine So.q rfl rfl (V.mv (v := .p (.v (.int .i64 _))) rfl ?_)
        refine So.n (lk rfl) (A.call0 [.p (.v (.int .i64 _))] 1 rfl rfl rfl rfl ⟨trivial, trivial⟩ trivial _ ⟨.refl _, trivial⟩ trivial (by trivial) (Φ := fun n => (lenF n).length ≤ 4) (fun n _ => lenF_le n) (.inl rfl) (v := .own 2 0 _) rfl (O' := (2, ⟨5, 1, _, true, .bs _⟩) :: _) rfl (fun h9 => ?_))
        try dsimp only at h9
        refine So.q rfl rfl (V.len ty22 (v := .own 2 0 _) rfl rfl ?_)
        refine So.q rfl rfl (V.mv (v := .p (.v (.int .i64 _))) rfl ?_)
        refine So.q rfl rfl (V.bin (a := (.v (.int .i64 _))) (b := (.v (.int .i64 _))) (r := .v (.bool _)) rfl rfl rfl trivial ?_)
        refine So.e ?_
        show HT _ _ _ _ _
        refine R.cond rfl rfl (fun h10 => ?_) (fun h10 => ?_)
        ·have h10 := of_decide_eq_false (bnT h10)
         refine HT.seq ?_
         refine HT.region S_rhd_ok ?_
         refine So.q rfl rfl (V.as (v := .p (.v (.int .i64 (0)))) rfl ?_)
         refine So.q rfl rfl (V.as (v := .p (.v (.int .i64 (0)))) rfl ?_)
         refine So.q rfl rfl (V.as (v := .p (.v (.int .i64 (112)))) rfl ?_)
         refine So.e ?_
         show HT _ _ _ _ _
         refine HT.ret ?_
         exact ret_ok (sg []) h rfl rfl rfl trivial ⟨trivial, trivial, trivial, trivial⟩ rfl ⟨⟨⟨le_int (by first | rfl | (rw [hd_arg (by omega)]; done) | (rw [hd_end (by omega)]; done) | (rw [hd_192 (by omega) (by omega) (by omega)]; done) | (rw [hd_short (by omega) (by omega) (by omega) (by omega)]; done) | (rw [(hd_val (s := s) (by omega) (by omega) (by omega) (by omega)).1 (by omega)]; done) | (rw [(hd_val (s := s) (by omega) (by omega) (by omega) (by omega)).2.1 (by omega) (by omega)]; done) | (rw [(hd_val (s := s) (by omega) (by omega) (by omega) (by omega)).2.2.1 (by omega) (by omega) (by omega)]; done) | (rw [(hd_val (s := s) (by omega) (by omega) (by omega) (by omega)).2.2.2 (by omega) (by omega) (by omega)]; first | done | (dsimp only; omega))), trivial⟩, ⟨le_int (by first | rfl | (rw [hd_arg (by omega)]; done) | (rw [hd_end (by omega)]; done) | (rw [hd_192 (by omega) (by omega) (by omega)]; done) | (rw [hd_short (by omega) (by omega) (by omega) (by omega)]; done) | (rw [(hd_val (s := s) (by omega) (by omega) (by omega) (by omega)).1 (by omega)]; done) | (rw [(hd_val (s := s) (by omega) (by omega) (by omega) (by omega)).2.1 (by omega) (by omega)]; done) | (rw [(hd_val (s := s) (by omega) (by omega) (by omega) (by omega)).2.2.1 (by omega) (by omega) (by omega)]; done) | (rw [(hd_val (s := s) (by omega) (by omega) (by omega) (by omega)).2.2.2 (by omega) (by omega) (by omega)]; first | done | (dsimp only; omega))), trivial⟩, ⟨le_int (by first | rfl | (rw [hd_arg (by omega)]; done) | (rw [hd_end (by omega)]; done) | (rw [hd_192 (by omega) (by omega) (by omega)]; done) | (rw [hd_short (by omega) (by omega) (by omega) (by omega)]; done) | (rw [(hd_val (s := s) (by omega) (by omega) (by omega) (by omega)).1 (by omega)]; done) | (rw [(hd_val (s := s) (by omega) (by omega) (by omega) (by omega)).2.1 (by omega) (by omega)]; done) | (rw [(hd_val (s := s) (by omega) (by omega) (by omega) (by omega)).2.2.1 (by omega) (by omega) (by omega)]; done) | (rw [(hd_val (s := s) (by omega) (by omega) (by omega) (by omega)).2.2.2 (by omega) (by omega) (by omega)]; first | done | (dsimp only; omega))), trivial⟩, trivial⟩, trivial⟩
        ·have h10 := of_decide_eq_true (bnF h10)
         refine HT.skip ?_
         show HT _ _ _ _ _
         refine HT.seq ?_
         refine HT.seq ?_
         refine HT.region S_rhd_ok ?_
         refine So.q rfl rfl (V.mv (v := .p (.v (.int .i64 _))) rfl ?_)
         refine So.q rfl rfl (V.bin (a := (.v (.int .i64 _))) (b := (.v (.int .i64 (1048576)))) (r := .v (.bool _)) rfl rfl rfl trivial ?_)
         refine So.e ?_
         show HT _ _ _ _ _
         refine R.cond rfl rfl (fun h11 => ?_) (fun h11 => ?_)
         ·have h11 := of_decide_eq_true h11
          refine HT.seq ?_
          refine HT.region S_rhd_ok ?_
          refine So.q rfl rfl (V.as (v := .p (.v (.int .i64 (0)))) rfl ?_)
          refine So.q rfl rfl (V.as (v := .p (.v (.int .i64 (0)))) rfl ?_)
          refine So.q rfl rfl (V.as (v := .p (.v (.int .i64 (2)))) rfl ?_)
          refine So.e ?_
          show HT _ _ _ _ _
          refine HT.ret ?_
          exact ret_ok (sg []) h rfl rfl rfl trivial ⟨trivial, trivial, trivial, trivial⟩ rfl ⟨⟨⟨le_int (by first | rfl | (rw [hd_arg (by omega)]; done) | (rw [hd_end (by omega)]; done) | (rw [hd_192 (by omega) (by omega) (by omega)]; done) | (rw [hd_short (by omega) (by omega) (by omega) (by omega)]; done) | (rw [(hd_val (s := s) (by omega) (by omega) (by omega) (by omega)).1 (by omega)]; done) | (rw [(hd_val (s := s) (by omega) (by omega) (by omega) (by omega)).2.1 (by omega) (by omega)]; done) | (rw [(hd_val (s := s) (by omega) (by omega) (by omega) (by omega)).2.2.1 (by omega) (by omega) (by omega)]; done) | (rw [(hd_val (s := s) (by omega) (by omega) (by omega) (by omega)).2.2.2 (by omega) (by omega) (by omega)]; first | done | (dsimp only; omega))), trivial⟩, ⟨le_int (by first | rfl | (rw [hd_arg (by omega)]; done) | (rw [hd_end (by omega)]; done) | (rw [hd_192 (by omega) (by omega) (by omega)]; done) | (rw [hd_short (by omega) (by omega) (by omega) (by omega)]; done) | (rw [(hd_val (s := s) (by omega) (by omega) (by omega) (by omega)).1 (by omega)]; done) | (rw [(hd_val (s := s) (by omega) (by omega) (by omega) (by omega)).2.1 (by omega) (by omega)]; done) | (rw [(hd_val (s := s) (by omega) (by omega) (by omega) (by omega)).2.2.1 (by omega) (by omega) (by omega)]; done) | (rw [(hd_val (s := s) (by omega) (by omega) (by omega) (by omega)).2.2.2 (by omega) (by omega) (by omega)]; first | done | (dsimp only; omega))), trivial⟩, ⟨le_int (by first | rfl | (rw [hd_arg (by omega)]; done) | (rw [hd_end (by omega)]; done) | (rw [hd_192 (by omega) (by omega) (by omega)]; done) | (rw [hd_short (by omega) (by omega) (by omega) (by omega)]; done) | (rw [(hd_val (s := s) (by omega) (by omega) (by omega) (by omega)).1 (by omega)]; done) | (rw [(hd_val (s := s) (by omega) (by omega) (by omega) (by omega)).2.1 (by omega) (by omega)]; done) | (rw [(hd_val (s := s) (by omega) (by omega) (by omega) (by omega)).2.2.1 (by omega) (by omega) (by omega)]; done) | (rw [(hd_val (s := s) (by omega) (by omega) (by omega) (by omega)).2.2.2 (by omega) (by omega) (by omega)]; first | done | (dsimp only; omega))), trivial⟩, trivial⟩, trivial⟩
         ·have h11 := of_decide_eq_false h11
          refine HT.skip ?_
          show HT _ _ _ _ _
          refine HT.seq ?_
          refine HT.seq ?_
          refine HT.region S_rhd_ok ?_
          refine So.q rfl rfl (V.mv (v := .p (.v (.int .i64 _))) rfl ?_)
          refine So.q rfl rfl (V.mv (v := .p (.bs _)) rfl ?_)
          refine So.q rfl rfl (V.len ty22 (v := .p (.bs _)) rfl rfl ?_)
          refine So.q rfl rfl (V.mv (v := .p (.v (.int .i64 _))) rfl ?_)
          refine So.q rfl rfl (V.subI rfl rfl (by omega) ?_)
          refine So.q rfl rfl (V.mv (v := .p (.v (.int .i64 _))) rfl ?_)
          refine So.q rfl rfl (V.subI rfl rfl (by omega) ?_)
          refine So.q rfl rfl (V.bin (a := (.v (.int .i64 _))) (b := (.v (.int .i64 _))) (r := .v (.bool _)) rfl rfl rfl trivial ?_)
          refine So.e ?_
          show HT _ _ _ _ _
          refine R.cond rfl rfl (fun h12 => ?_) (fun h12 => ?_)
          ·have h12 := of_decide_eq_true h12
           refine HT.seq ?_
           refine HT.region S_rhd_ok ?_
           refine So.q rfl rfl (V.as (v := .p (.v (.int .i64 (0)))) rfl ?_)
           refine So.q rfl rfl (V.as (v := .p (.v (.int .i64 (0)))) rfl ?_)
           refine So.q rfl rfl (V.as (v := .p (.v (.int .i64 (111)))) rfl ?_)
           refine So.e ?_
           show HT _ _ _ _ _
           refine HT.ret ?_
           exact ret_ok (sg []) h rfl rfl rfl trivial ⟨trivial, trivial, trivial, trivial⟩ rfl ⟨⟨⟨le_int (by first | rfl | (rw [hd_arg (by omega)]; done) | (rw [hd_end (by omega)]; done) | (rw [hd_192 (by omega) (by omega) (by omega)]; done) | (rw [hd_short (by omega) (by omega) (by omega) (by omega)]; done) | (rw [(hd_val (s := s) (by omega) (by omega) (by omega) (by omega)).1 (by omega)]; done) | (rw [(hd_val (s := s) (by omega) (by omega) (by omega) (by omega)).2.1 (by omega) (by omega)]; done) | (rw [(hd_val (s := s) (by omega) (by omega) (by omega) (by omega)).2.2.1 (by omega) (by omega) (by omega)]; done) | (rw [(hd_val (s := s) (by omega) (by omega) (by omega) (by omega)).2.2.2 (by omega) (by omega) (by omega)]; first | done | (dsimp only; omega))), trivial⟩, ⟨le_int (by first | rfl | (rw [hd_arg (by omega)]; done) | (rw [hd_end (by omega)]; done) | (rw [hd_192 (by omega) (by omega) (by omega)]; done) | (rw [hd_short (by omega) (by omega) (by omega) (by omega)]; done) | (rw [(hd_val (s := s) (by omega) (by omega) (by omega) (by omega)).1 (by omega)]; done) | (rw [(hd_val (s := s) (by omega) (by omega) (by omega) (by omega)).2.1 (by omega) (by omega)]; done) | (rw [(hd_val (s := s) (by omega) (by omega) (by omega) (by omega)).2.2.1 (by omega) (by omega) (by omega)]; done) | (rw [(hd_val (s := s) (by omega) (by omega) (by omega) (by omega)).2.2.2 (by omega) (by omega) (by omega)]; first | done | (dsimp only; omega))), trivial⟩, ⟨le_int (by first | rfl | (rw [hd_arg (by omega)]; done) | (rw [hd_end (by omega)]; done) | (rw [hd_192 (by omega) (by omega) (by omega)]; done) | (rw [hd_short (by omega) (by omega) (by omega) (by omega)]; done) | (rw [(hd_val (s := s) (by omega) (by omega) (by omega) (by omega)).1 (by omega)]; done) | (rw [(hd_val (s := s) (by omega) (by omega) (by omega) (by omega)).2.1 (by omega) (by omega)]; done) | (rw [(hd_val (s := s) (by omega) (by omega) (by omega) (by omega)).2.2.1 (by omega) (by omega) (by omega)]; done) | (rw [(hd_val (s := s) (by omega) (by omega) (by omega) (by omega)).2.2.2 (by omega) (by omega) (by omega)]; first | done | (dsimp only; omega))), trivial⟩, trivial⟩, trivial⟩
          ·have h12 := of_decide_eq_false h12
           refine HT.skip ?_
           show HT _ _ _ _ _
           refine HT.seq ?_
           refine HT.region S_rhd_ok ?_
           refine So.q rfl rfl (V.mv (v := .p (.v (.int .i64 _))) rfl ?_)
           refine So.q rfl rfl (V.mv (v := .p (.v (.int .i64 _))) rfl ?_)
           refine So.q rfl rfl (V.mv (v := .p (.v (.int .i64 _))) rfl ?_)
           refine So.q rfl rfl (V.addI rfl rfl (by omega) ?_)
           refine So.q rfl rfl (V.as (v := .p (.v (.int .i64 _))) rfl ?_)
           refine So.q rfl rfl (V.as (v := .p (.v (.int .i64 _))) rfl ?_)
           refine So.q rfl rfl (V.as (v := .p (.v (.int .i64 (0)))) rfl ?_)
           refine So.e ?_
           show HT _ _ _ _ _
           refine HT.ret ?_
           exact ret_ok (sg []) h rfl rfl rfl trivial ⟨trivial, trivial, trivial, trivial⟩ rfl ⟨⟨⟨le_int (by first | rfl | (rw [hd_arg (by omega)]; done) | (rw [hd_end (by omega)]; done) | (rw [hd_192 (by omega) (by omega) (by omega)]; done) | (rw [hd_short (by omega) (by omega) (by omega) (by omega)]; done) | (rw [(hd_val (s := s) (by omega) (by omega) (by omega) (by omega)).1 (by omega)]; done) | (rw [(hd_val (s := s) (by omega) (by omega) (by omega) (by omega)).2.1 (by omega) (by omega)]; done) | (rw [(hd_val (s := s) (by omega) (by omega) (by omega) (by omega)).2.2.1 (by omega) (by omega) (by omega)]; done) | (rw [(hd_val (s := s) (by omega) (by omega) (by omega) (by omega)).2.2.2 (by omega) (by omega) (by omega)]; first | done | (dsimp only; omega))), trivial⟩, ⟨le_int (by first | rfl | (rw [hd_arg (by omega)]; done) | (rw [hd_end (by omega)]; done) | (rw [hd_192 (by omega) (by omega) (by omega)]; done) | (rw [hd_short (by omega) (by omega) (by omega) (by omega)]; done) | (rw [(hd_val (s := s) (by omega) (by omega) (by omega) (by omega)).1 (by omega)]; done) | (rw [(hd_val (s := s) (by omega) (by omega) (by omega) (by omega)).2.1 (by omega) (by omega)]; done) | (rw [(hd_val (s := s) (by omega) (by omega) (by omega) (by omega)).2.2.1 (by omega) (by omega) (by omega)]; done) | (rw [(hd_val (s := s) (by omega) (by omega) (by omega) (by omega)).2.2.2 (by omega) (by omega) (by omega)]; first | done | (dsimp only; omega))), trivial⟩, ⟨le_int (by first | rfl | (rw [hd_arg (by omega)]; done) | (rw [hd_end (by omega)]; done) | (rw [hd_192 (by omega) (by omega) (by omega)]; done) | (rw [hd_short (by omega) (by omega) (by omega) (by omega)]; done) | (rw [(hd_val (s := s) (by omega) (by omega) (by omega) (by omega)).1 (by omega)]; done) | (rw [(hd_val (s := s) (by omega) (by omega) (by omega) (by omega)).2.1 (by omega) (by omega)]; done) | (rw [(hd_val (s := s) (by omega) (by omega) (by omega) (by omega)).2.2.1 (by omega) (by omega) (by omega)]; done) | (rw [(hd_val (s := s) (by omega) (by omega) (by omega) (by omega)).2.2.2 (by omega) (by omega) (by omega)]; first | done | (dsimp only; omega))), trivial⟩, trivial⟩, trivial⟩
 ·have h1 := of_decide_eq_true h1
  refine So.gn (b := true) rfl rfl rfl (lk rfl) (lk rfl) ?_
  refine So.gn (b := true) rfl rfl rfl (lk rfl) (lk rfl) ?_
  refine So.gn (b := true) rfl rfl rfl (lk rfl) (lk rfl) ?_
  refine So.q rfl rfl (V.pkTrue (u := .p (.v (.bool true))) rfl rfl ?_)
  refine So.e ?_
  show HT _ _ _ _ _
  refine R.condT rfl ?_
  refine HT.seq ?_
  refine HT.region S_rhd_ok ?_
  refine So.q rfl rfl (V.as (v := .p (.v (.int .i64 (0)))) rfl ?_)
  refine So.q rfl rfl (V.as (v := .p (.v (.int .i64 (0)))) rfl ?_)
  refine So.q rfl rfl (V.as (v := .p (.v (.int .i64 (1)))) rfl ?_)
  refine So.e ?_
  show HT _ _ _ _ _
  refine HT.ret ?_
  exact ret_ok (sg []) h rfl rfl rfl trivial ⟨trivial, trivial, trivial, trivial⟩ rfl ⟨⟨⟨le_int (by first | rfl | (rw [hd_arg (by omega)]; done) | (rw [hd_end (by omega)]; done) | (rw [hd_192 (by omega) (by omega) (by omega)]; done) | (rw [hd_short (by omega) (by omega) (by omega) (by omega)]; done) | (rw [(hd_val (s := s) (by omega) (by omega) (by omega) (by omega)).1 (by omega)]; done) | (rw [(hd_val (s := s) (by omega) (by omega) (by omega) (by omega)).2.1 (by omega) (by omega)]; done) | (rw [(hd_val (s := s) (by omega) (by omega) (by omega) (by omega)).2.2.1 (by omega) (by omega) (by omega)]; done) | (rw [(hd_val (s := s) (by omega) (by omega) (by omega) (by omega)).2.2.2 (by omega) (by omega) (by omega)]; first | done | (dsimp only; omega))), trivial⟩, ⟨le_int (by first | rfl | (rw [hd_arg (by omega)]; done) | (rw [hd_end (by omega)]; done) | (rw [hd_192 (by omega) (by omega) (by omega)]; done) | (rw [hd_short (by omega) (by omega) (by omega) (by omega)]; done) | (rw [(hd_val (s := s) (by omega) (by omega) (by omega) (by omega)).1 (by omega)]; done) | (rw [(hd_val (s := s) (by omega) (by omega) (by omega) (by omega)).2.1 (by omega) (by omega)]; done) | (rw [(hd_val (s := s) (by omega) (by omega) (by omega) (by omega)).2.2.1 (by omega) (by omega) (by omega)]; done) | (rw [(hd_val (s := s) (by omega) (by omega) (by omega) (by omega)).2.2.2 (by omega) (by omega) (by omega)]; first | done | (dsimp only; omega))), trivial⟩, ⟨le_int (by first | rfl | (rw [hd_arg (by omega)]; done) | (rw [hd_end (by omega)]; done) | (rw [hd_192 (by omega) (by omega) (by omega)]; done) | (rw [hd_short (by omega) (by omega) (by omega) (by omega)]; done) | (rw [(hd_val (s := s) (by omega) (by omega) (by omega) (by omega)).1 (by omega)]; done) | (rw [(hd_val (s := s) (by omega) (by omega) (by omega) (by omega)).2.1 (by omega) (by omega)]; done) | (rw [(hd_val (s := s) (by omega) (by omega) (by omega) (by omega)).2.2.1 (by omega) (by omega) (by omega)]; done) | (rw [(hd_val (s := s) (by omega) (by omega) (by omega) (by omega)).2.2.2 (by omega) (by omega) (by omega)]; first | done | (dsimp only; omega))), trivial⟩, trivial⟩, trivial⟩
end Go.Vh

set_option linter.unusedVariables false
set_option linter.unusedSimpArgs false
namespace Go.Vh
open Go Go.Vc Go.Proofs Go.Vw
def rtxSp : Sp := ⟨[], mkE (α := (List UInt8)) (fun s => [.p (.bs (s))]) (fun s => []) (fun s => True) (fun s => [.own 1 (0) ((txF s).length)]) (fun s => [(1, ⟨5, 1, (txF s).length, true, .bs (txF s)⟩)])⟩
def S_rtx : FuncId → Option Sp := fun f => if f = 47 then some rtextSp else none
theorem S_rtx_ok : ∀ f s, S_rtx f = some s → FOK Tryd.prog gl f s := fun f s h => by
 unfold S_rtx at h
 split at h
 ·rename_i e; cases h; subst e; exact rtext_ok
 cases h
set_option maxHeartbeats 1000000 in
set_option maxRecDepth 1000 in
theorem rtx_ok : FOK Tryd.prog gl 31 rtxSp := by
 refine FOK.ofE (tyOf_ok Tryd.prog) (slots := [2]) (nt := 11) Tryd.func31 rfl rfl rfl rfl (by decide) 1 (fun _ => rfl) (by decide) (fun _ => ⟨trivial, trivial⟩) ?_
 rintro s kk hlen hpre h
 have hl0 : (s).length ≤ 9223372036854775807 := hlen.1
 replace hpre : True := hpre
 show HT (cx Tryd.prog 11 (tyOf Tryd.prog) gl []) _ [(0, .p (.bs (s)))] [] _
 refine HT.seq ?_
 refine HT.region S_rtx_ok ?_
 refine So.q rfl rfl (V.as (v := .p (.v (.slice none 0 0))) rfl ?_)
 refine So.e ?_
 show HT _ _ _ _ _
 refine HT.seq ?_
 refine HT.region S_rtx_ok ?_
 refine So.q rfl rfl (V.mv (v := .p (.bs _)) rfl ?_)
 refine So.n (lk rfl) (A.call0 [.p (.bs _)] 1 rfl rfl rfl rfl ⟨trivial, trivial⟩ trivial _ ⟨.refl _, trivial⟩ trivial (by trivial) (Φ := fun s => (textF s).length ≤ 1048580) (fun s _ => textF_len s) (.inl rfl) (v := .tup 2 _) rfl (O' := (2, ⟨5, 1, _, true, .bs _⟩) :: _) rfl (fun h1 => ?_))
 try dsimp only at h1
 refine So.q rfl rfl (V.mv (v := .tup 2 _) rfl ?_)
 refine So.q rfl rfl (V.ext rfl (lk rfl) (v := .own 2 0 _) rfl ?_)
 refine So.q rfl rfl (V.ext rfl (lk rfl) (v := .p (.v (.int .i64 _))) rfl ?_)
 refine So.q rfl rfl (V.as (v := .own 2 0 _) rfl ?_)
 refine So.q rfl rfl (V.as (v := .p (.v (.int .i64 _))) rfl ?_)
 refine So.e ?_
 show HT _ _ _ _ _
 refine HT.seq ?_
 refine HT.region S_rtx_ok ?_
 refine So.q rfl rfl (V.mv (v := .own 2 0 _) rfl ?_)
 refine So.q rfl rfl (V.as (v := .own 2 0 _) rfl ?_)
 refine So.e ?_
 show HT _ _ _ _ _
 refine HT.ret ?_
 exact ret_ok (sg [(1, 2)]) h rfl rfl rfl ⟨trivial, trivial⟩ ⟨rfl, trivial⟩ rfl ⟨⟨⟨le_own2 (by first | rfl | omega) (by first | rfl), rfl⟩, trivial⟩, ⟨⟨_, rfl, .inl (ob_bs (by first | rfl | ((try dsimp only); (first | rfl))) (by first | rfl | ((try dsimp only); (first | rfl)))), trivial⟩, trivial⟩⟩
def raheadSp : Sp := ⟨[], mkE (α := (List UInt8) × Int × Int × Int × (List UInt8)) (fun (g, ep, fr, gn, cl) => [.agg 5 (fun j => ([.bs g, .v (.int .i64 ep), .v (.int .i64 fr), .v (.int .i64 gn), .bs cl] : List PV).getD j (.v undef))]) (fun (g, ep, fr, gn, cl) => []) (fun (g, ep, fr, gn, cl) => True) (fun (g, ep, fr, gn, cl) => [.own 2 (0) ((aheadF g ep fr gn cl).length)]) (fun (g, ep, fr, gn, cl) => [(2, ⟨5, 1, (aheadF g ep fr gn cl).length, true, .bs (aheadF g ep fr gn cl)⟩)])⟩
def S_rahead : FuncId → Option Sp := fun f => if f = 30 then some rsealSp else if f = 31 then some rtxSp else if f = 41 then some rnumSp else none
theorem S_rahead_ok : ∀ f s, S_rahead f = some s → FOK Tryd.prog gl f s := fun f s h => by
 unfold S_rahead at h
 split at h
 ·rename_i e; cases h; subst e; exact rseal_ok
 split at h
 ·rename_i e; cases h; subst e; exact rtx_ok
 split at h
 ·rename_i e; cases h; subst e; exact rnum_ok
 cases h
theorem S_rahead_det : ∀ f s, S_rahead f = some s → SpDet s.sp := fun f s h => by
 unfold S_rahead at h
 split at h
 ·cases h; exact mkE_det _ _ _ _ _
 split at h
 ·cases h; exact mkE_det _ _ _ _ _
 split at h
 ·cases h; exact mkE_det _ _ _ _ _
 cases h
set_option maxHeartbeats 1000000 in
set_option maxRecDepth 1000 in
theorem rahead_ok : FOK Tryd.prog gl 19 raheadSp := by
 refine FOK.ofE (tyOf_ok Tryd.prog) (slots := [2]) (nt := 23) Tryd.func19 rfl rfl rfl rfl (by decide) 1 (fun ⟨_, _, _, _, _⟩ => rfl) (by decide) (fun ⟨_, _, _, _, _⟩ => ⟨trivial, trivial⟩) ?_
 rintro ⟨g, ep, fr, gn, cl⟩ kk hlen hpre h
 replace hpre : True := hpre
 show HT (cx Tryd.prog 23 (tyOf Tryd.prog) gl []) _ [(0, .agg 5 (fun j => ([.bs g, .v (.int .i64 ep), .v (.int .i64 fr), .v (.int .i64 gn), .bs cl] : List PV).getD j (.v undef)))] [] _
 have h8 := nu_len ep 8
 have h4 := nu_len fr 4
 have htg := tx_len g
 have hp3 : (txF g ++ nuF ep 8 ++ nuF fr 4).length = (txF g).length + (nuF ep 8).length + (nuF fr 4).length := by rw [List.length_append, List.length_append]
 have hgn := nu_len gn 4
 have ha1 : (txF g ++ nuF ep 8).length = (txF g).length + (nuF ep 8).length := List.length_append
 refine HT.seq ?_
 refine HT.region S_rahead_ok ?_
 refine So.n (lk rfl) (A.boxAg 1 1 (n := 5) rfl (by intro j hj; first | rfl | trivial | (match j, hj with | 0, _ => (first | trivial | rfl) | 1, _ => (first | trivial | rfl) | 2, _ => (first | trivial | rfl) | 3, _ => (first | trivial | rfl) | 4, _ => (first | trivial | rfl)) | (split <;> first | rfl | trivial | (split <;> first | rfl | trivial))) rfl trivial ?_)
 refine So.q rfl rfl (V.as (v := .p (.v (.slice none 0 0))) rfl ?_)
 refine So.e ?_
 show HT _ _ _ _ _
 refine HT.seq ?_
 refine HT.seq ?_
 refine HT.region S_rahead_ok ?_
 refine So.q rfl rfl (V.ldPtrA ty35 rfl rfl rfl rfl (lk rfl) ?_)
 refine So.n (lk rfl) (A.call0 [.agg 5 _] 2 rfl rfl rfl rfl ⟨trivial, trivial⟩ trivial (g, ep, fr, gn, cl) ⟨le_agg (fun j hj => by match j, hj with | 0, _ => rfl | 1, _ => rfl | 2, _ => rfl | 3, _ => rfl | 4, _ => rfl), trivial⟩ trivial (by trivial) (Φ := fun _ => True) (fun _ _ => trivial) (.inl rfl) (v := .p (.v (.bool _))) rfl (O' := _) rfl (fun h1 => ?_))
 refine So.q rfl rfl (V.not rfl ?_)
 refine So.e ?_
 show HT _ _ _ _ _
 refine R.cond rfl rfl (fun h2 => ?_) (fun h2 => ?_)
 ·have h2 := of_decide_eq_false (bnT h2)
  refine HT.seq ?_
  refine HT.region S_rahead_ok ?_
  refine So.q rfl rfl (V.as (v := .p (.v (.slice none 0 0))) rfl ?_)
  refine So.e ?_
  show HT _ _ _ _ _
  refine R.phan 2 2 5 1 (.bs []) rfl rfl rfl ⟨rfl, rfl⟩ ?_
  refine HT.ret ?_
  exact ret_ok (sg [(2, 2)]) h rfl rfl rfl ⟨trivial, trivial⟩ ⟨rfl, trivial⟩ rfl ⟨⟨⟨le_own2 (by first | rfl | omega) (by first | with_reducible rfl | (show (_ : Nat) = _; first | (rw [aheadF_no (by assumption)]; rfl) | (rw [aheadF_yes (by assumption)]; unfold aheadB; simp only [List.length_append]; done)) | (show (_ : List UInt8) = _; first | (rw [aheadF_no (by assumption)]; done) | (rw [aheadF_yes (by assumption)]; done))), rfl⟩, trivial⟩, ⟨⟨_, rfl, .inl (ob_bs (by first | rfl | ((try dsimp only); (first | with_reducible rfl | (show (_ : Nat) = _; first | (rw [aheadF_no (by assumption)]; rfl) | (rw [aheadF_yes (by assumption)]; unfold aheadB; simp only [List.length_append]; done)) | (show (_ : List UInt8) = _; first | (rw [aheadF_no (by assumption)]; done) | (rw [aheadF_yes (by assumption)]; done))))) (by first | rfl | ((try dsimp only); (first | with_reducible rfl | (show (_ : Nat) = _; first | (rw [aheadF_no (by assumption)]; rfl) | (rw [aheadF_yes (by assumption)]; unfold aheadB; simp only [List.length_append]; done)) | (show (_ : List UInt8) = _; first | (rw [aheadF_no (by assumption)]; done) | (rw [aheadF_yes (by assumption)]; done)))))), trivial⟩, trivial⟩⟩
 ·have h2 := of_decide_eq_true (bnF h2)
  refine HT.skip ?_
  show HT _ _ _ _ _
  refine HT.seq ?_
  refine HT.planS S_rahead_ok S_rahead_det mixed [7] [⟨[0, 1, 3, 4], 2, [3, 4]⟩, ⟨[3, 4, 5], 6, []⟩] (by kernel_rfl) ?_
  refine Pl.lk ?_
  refine Si.n rfl (lk rfl) (V.faPtr ty35 rfl ty22 (lk rfl) rfl rfl (lk rfl) ?_)
  refine Si.n rfl (lk rfl) (V.ldPtr ty22 rfl rfl rfl (lk rfl) (v := .p (.bs _)) rfl ?_)
  refine Si.n rfl (lk rfl) (V.faPtr ty35 rfl ty2 (lk rfl) rfl rfl (lk rfl) ?_)
  refine Si.n rfl (lk rfl) (V.ldPtr ty2 rfl rfl rfl (lk rfl) (v := .p (.v (.int .i64 _))) rfl ?_)
  refine Si.e ?_
  refine ⟨flEq_nil, fun ff => ?_⟩
  refine Lo.n rfl (lk rfl) (A.call0 [.p (.bs _)] 2 rfl rfl rfl rfl ⟨trivial, trivial⟩ trivial _ ⟨.refl _, trivial⟩ trivial (by trivial) (Φ := fun _ => True) (fun _ _ => trivial) (.inl rfl) (v := .own 3 0 _) rfl (O' := (3, ⟨5, 1, _, true, .bs _⟩) :: _) rfl (fun h3 => ?_))
  refine ⟨_, fun ff => ff, ap0d, rfl, FG.id, ?_⟩
  show planA _ _ _ _ _ [(3, .ptr 1 1), (4, .p (.v (.int .i64 _)))] _ _ _
  refine Pl.l0 ?_
  refine Si.n rfl (lk rfl) (V.faPtr ty35 rfl ty2 (lk rfl) rfl rfl (lk rfl) ?_)
  refine Si.n rfl (lk rfl) (V.ldPtr ty2 rfl rfl rfl (lk rfl) (v := .p (.v (.int .i64 _))) rfl ?_)
  refine Si.n rfl (lk rfl) (V.call [.p (.v (.int .i64 _)), .p (.v (.int .i64 _))] 4 rfl rfl rfl rfl ⟨trivial, trivial, trivial⟩ trivial (_, _) ⟨.refl _, .refl _, trivial⟩ trivial (by trivial) (Φ := fun (n, k) => (numF n k).length ≤ 8) (fun _ _ => numF_len _ _) (.inl ⟨trivial, trivial, trivial⟩) (v := .p (.bs _)) rfl (fun h4 => ?_))
  try dsimp only at h4
  refine Si.e ?_
  refine ⟨(flEq_cons rfl (flEq_cons rfl flEq_nil)), ?_⟩
  refine Lo.n rfl (lk rfl) (A.apOwn ty22 ty5 rfl rfl rfl rfl (u := .p (.bs _)) rfl rfl (l' := txF g ++ nuF ep 8) (by rw [ap_full (Nat.le_refl _), take_full]) (mn := (txF g).length + (nuF ep 8).length) (by first | rfl | (rw [take_full]; done)) (by omega) rfl rfl rfl ?_)
  refine Pl.e ?_
  refine Si.n rfl (lk rfl) (V.as (v := .own 3 0 _) rfl ?_)
  refine Si.e ?_
  refine ⟨flEq_nil, ?_⟩
  show HT _ _ _ _ _
  refine HT.seq ?_
  refine R.tell [(3, .own 3 (0) ((txF g ++ nuF ep 8).length))] [(3, ⟨5, 1, (txF g ++ nuF ep 8).length, true, .bs (txF g ++ nuF ep 8)⟩)] [1, 2] [1] (fr0 := [(1, .ptr 1 0), (2, .p (.v (.slice none 0 0)))]) (O0 := [(1, ⟨_, _, _, _, .rows _⟩)]) rfl rfl ⟨⟨⟨le_own2 (by first | rfl | omega) (by first | rfl | (rw [List.length_append])), rfl⟩, ⟨.refl _, rfl⟩, ⟨.refl _, trivial⟩, trivial⟩, ⟨⟨_, rfl, .inl (ob_bs (by first | rfl | ((try dsimp only); first | rfl | (rw [List.length_append]))) (by first | rfl | ((try dsimp only); first | rfl | (rw [List.length_append])))), trivial⟩, ⟨_, rfl, .inl rfl, trivial⟩, trivial⟩⟩ ?_
  show HT _ _ _ _ _
  refine HT.planS S_rahead_ok S_rahead_det mixed [9] [⟨[0, 1, 2, 3, 5, 6], 4, [5, 6]⟩, ⟨[5, 6, 7], 8, []⟩] (by kernel_rfl) ?_
  refine Pl.lk ?_
  refine Si.n rfl (lk rfl) (V.mv (v := .own 3 0 _) rfl ?_)
  refine Si.n rfl (lk rfl) (V.faPtr ty35 rfl ty3 (lk rfl) rfl rfl (lk rfl) ?_)
  refine Si.n rfl (lk rfl) (V.ldPtr ty3 rfl rfl rfl (lk rfl) (v := .p (.v (.int .i64 _))) rfl ?_)
  refine Si.n rfl (lk rfl) (V.call [.p (.v (.int .i64 _)), .p (.v (.int .i64 _))] 4 rfl rfl rfl rfl ⟨trivial, trivial, trivial⟩ trivial (_, _) ⟨.refl _, .refl _, trivial⟩ trivial (by trivial) (Φ := fun (n, k) => (numF n k).length ≤ 8) (fun _ _ => numF_len _ _) (.inl ⟨trivial, trivial, trivial⟩) (v := .p (.bs _)) rfl (fun h5 => ?_))
  try dsimp only at h5
  refine Si.n rfl (lk rfl) (V.faPtr ty35 rfl ty2 (lk rfl) rfl rfl (lk rfl) ?_)
  refine Si.n rfl (lk rfl) (V.ldPtr ty2 rfl rfl rfl (lk rfl) (v := .p (.v (.int .i64 _))) rfl ?_)
  refine Si.e ?_
  refine ⟨flEq_nil, fun ff => ?_⟩
  refine Lo.n rfl (lk rfl) (A.apOwn ty22 ty5 rfl rfl rfl rfl (u := .p (.bs _)) rfl rfl (l' := txF g ++ nuF ep 8 ++ nuF fr 4) (by rw [ap_full (Nat.le_refl _), take_full]) (mn := (txF g ++ nuF ep 8).length + (nuF fr 4).length) (by first | rfl | (rw [take_full]; done)) (by omega) rfl rfl rfl ?_)
  refine ⟨_, fun ff => Fr.kill 3 (ff), ap1d, rfl, (FG.kill 3 (flP_cons rfl (flP_cons rfl flP_nil))), ?_⟩
  show planA _ _ _ _ _ [(5, .ptr 1 3), (6, .p (.v (.int .i64 _)))] _ _ _
  refine Pl.l0 ?_
  refine Si.n rfl (lk rfl) (V.faPtr ty35 rfl ty2 (lk rfl) rfl rfl (lk rfl) ?_)
  refine Si.n rfl (lk rfl) (V.ldPtr ty2 rfl rfl rfl (lk rfl) (v := .p (.v (.int .i64 _))) rfl ?_)
  refine Si.n rfl (lk rfl) (V.call [.p (.v (.int .i64 _)), .p (.v (.int .i64 _))] 4 rfl rfl rfl rfl ⟨trivial, trivial, trivial⟩ trivial (_, _) ⟨.refl _, .refl _, trivial⟩ trivial (by trivial) (Φ := fun (n, k) => (numF n k).length ≤ 8) (fun _ _ => numF_len _ _) (.inl ⟨trivial, trivial, trivial⟩) (v := .p (.bs _)) rfl (fun h6 => ?_))
  try dsimp only at h6
  refine Si.e ?_
  refine ⟨(flEq_cons rfl (flEq_cons rfl flEq_nil)), ?_⟩
  refine Lo.n rfl (lk rfl) (A.apOwn ty22 ty5 rfl rfl rfl rfl (u := .p (.bs _)) rfl rfl (l' := aheadB g ep fr gn) (by rw [ap_full (by rw [hp3]; omega), take_full]; rfl) (mn := (txF g ++ nuF ep 8).length + (nuF fr 4).length + (nuF gn 4).length) (by first | rfl | (rw [take_full]; done)) (by omega) rfl rfl rfl ?_)
  refine Pl.e ?_
  refine Si.n rfl (lk rfl) (V.as (v := .own 3 0 _) rfl ?_)
  refine Si.e ?_
  refine ⟨flEq_nil, ?_⟩
  show HT _ _ _ _ _
  refine HT.ret ?_
  exact ret_ok (sg [(2, 3)]) h rfl rfl rfl ⟨trivial, trivial⟩ ⟨rfl, trivial⟩ rfl ⟨⟨⟨le_own2 (by first | rfl | omega) (by first | with_reducible rfl | (show (_ : Nat) = _; first | (rw [aheadF_no (by assumption)]; rfl) | (rw [aheadF_yes (by assumption)]; unfold aheadB; simp only [List.length_append]; done)) | (show (_ : List UInt8) = _; first | (rw [aheadF_no (by assumption)]; done) | (rw [aheadF_yes (by assumption)]; done))), rfl⟩, trivial⟩, ⟨⟨_, rfl, .inl (ob_bs (by first | rfl | ((try dsimp only); (first | with_reducible rfl | (show (_ : Nat) = _; first | (rw [aheadF_no (by assumption)]; rfl) | (rw [aheadF_yes (by assumption)]; unfold aheadB; simp only [List.length_append]; done)) | (show (_ : List UInt8) = _; first | (rw [aheadF_no (by assumption)]; done) | (rw [aheadF_yes (by assumption)]; done))))) (by first | rfl | ((try dsimp only); (first | with_reducible rfl | (show (_ : Nat) = _; first | (rw [aheadF_no (by assumption)]; rfl) | (rw [aheadF_yes (by assumption)]; unfold aheadB; simp only [List.length_append]; done)) | (show (_ : List UInt8) = _; first | (rw [aheadF_no (by assumption)]; done) | (rw [aheadF_yes (by assumption)]; done)))))), trivial⟩, trivial⟩⟩
def rputsSp : Sp := ⟨[], mkE (α := (List UInt8) × Int × Int × Int × (List UInt8)) (fun (g, ep, fr, gn, cl) => [.agg 5 (fun j => ([.bs g, .v (.int .i64 ep), .v (.int .i64 fr), .v (.int .i64 gn), .bs cl] : List PV).getD j (.v undef))]) (fun (g, ep, fr, gn, cl) => []) (fun (g, ep, fr, gn, cl) => True) (fun (g, ep, fr, gn, cl) => [.own 2 (0) ((sealF g ep fr gn cl).length), .p (.v (.int .i64 (sealE g ep fr gn cl)))]) (fun (g, ep, fr, gn, cl) => [(2, ⟨5, 1, (sealF g ep fr gn cl).length, true, .bs (sealF g ep fr gn cl)⟩)])⟩
def S_rputs : FuncId → Option Sp := fun f => if f = 30 then some rsealSp else if f = 19 then some raheadSp else if f = 31 then some rtxSp else none
theorem S_rputs_ok : ∀ f s, S_rputs f = some s → FOK Tryd.prog gl f s := fun f s h => by
 unfold S_rputs at h
 split at h
 ·rename_i e; cases h; subst e; exact rseal_ok
 split at h
 ·rename_i e; cases h; subst e; exact rahead_ok
 split at h
 ·rename_i e; cases h; subst e; exact rtx_ok
 cases h
theorem S_rputs_det : ∀ f s, S_rputs f = some s → SpDet s.sp := fun f s h => by
 unfold S_rputs at h
 split at h
 ·cases h; exact mkE_det _ _ _ _ _
 split at h
 ·cases h; exact mkE_det _ _ _ _ _
 split at h
 ·cases h; exact mkE_det _ _ _ _ _
 cases h
set_option maxHeartbeats 1000000 in
set_option maxRecDepth 1000 in
theorem rputs_ok : FOK Tryd.prog gl 14 rputsSp := by
 refine FOK.ofE (tyOf_ok Tryd.prog) (slots := [2, 3]) (nt := 13) Tryd.func14 rfl rfl rfl rfl (by decide) 1 (fun ⟨_, _, _, _, _⟩ => rfl) (by decide) (fun ⟨_, _, _, _, _⟩ => ⟨trivial, trivial⟩) ?_
 rintro ⟨g, ep, fr, gn, cl⟩ kk hlen hpre h
 replace hpre : True := hpre
 show HT (cx Tryd.prog 13 (tyOf Tryd.prog) gl []) _ [(0, .agg 5 (fun j => ([.bs g, .v (.int .i64 ep), .v (.int .i64 fr), .v (.int .i64 gn), .bs cl] : List PV).getD j (.v undef)))] [] _
 have hal := ahead_len g ep fr gn
 have htc := tx_len cl
 refine HT.seq ?_
 refine HT.region S_rputs_ok ?_
 refine So.n (lk rfl) (A.boxAg 1 1 (n := 5) rfl (by intro j hj; first | rfl | trivial | (match j, hj with | 0, _ => (first | trivial | rfl) | 1, _ => (first | trivial | rfl) | 2, _ => (first | trivial | rfl) | 3, _ => (first | trivial | rfl) | 4, _ => (first | trivial | rfl)) | (split <;> first | rfl | trivial | (split <;> first | rfl | trivial))) rfl trivial ?_)
 refine So.q rfl rfl (V.as (v := .p (.v (.slice none 0 0))) rfl ?_)
 refine So.q rfl rfl (V.as (v := .p (.v (.int .i64 (0)))) rfl ?_)
 refine So.e ?_
 show HT _ _ _ _ _
 refine HT.seq ?_
 refine HT.seq ?_
 refine HT.region S_rputs_ok ?_
 refine So.q rfl rfl (V.ldPtrA ty35 rfl rfl rfl rfl (lk rfl) ?_)
 refine So.n (lk rfl) (A.call0 [.agg 5 _] 2 rfl rfl rfl rfl ⟨trivial, trivial⟩ trivial (g, ep, fr, gn, cl) ⟨le_agg (fun j hj => by match j, hj with | 0, _ => rfl | 1, _ => rfl | 2, _ => rfl | 3, _ => rfl | 4, _ => rfl), trivial⟩ trivial (by trivial) (Φ := fun _ => True) (fun _ _ => trivial) (.inl rfl) (v := .p (.v (.bool _))) rfl (O' := _) rfl (fun h1 => ?_))
 refine So.q rfl rfl (V.not rfl ?_)
 refine So.e ?_
 show HT _ _ _ _ _
 refine R.cond rfl rfl (fun h2 => ?_) (fun h2 => ?_)
 ·have h2 := of_decide_eq_false (bnT h2)
  refine HT.seq ?_
  refine HT.region S_rputs_ok ?_
  refine So.q rfl rfl (V.as (v := .p (.v (.slice none 0 0))) rfl ?_)
  refine So.q rfl rfl (V.as (v := .p (.v (.int .i64 (181)))) rfl ?_)
  refine So.e ?_
  show HT _ _ _ _ _
  refine R.phan 2 2 5 1 (.bs []) rfl rfl rfl ⟨rfl, rfl⟩ ?_
  refine HT.ret ?_
  exact ret_ok (sg [(2, 2)]) h rfl rfl rfl ⟨trivial, trivial⟩ ⟨rfl, trivial, trivial⟩ rfl ⟨⟨⟨le_own2 (by first | rfl | omega) (by first | with_reducible rfl | (show (_ : Nat) = _; first | (rw [sealF_no (by assumption)]; rfl) | (rw [sealF_yes (by assumption), List.length_append, haf])) | (show (_ : List UInt8) = _; first | (rw [sealF_no (by assumption)]; done) | (rw [sealF_yes (by assumption)]; done)) | (show (_ : Int) = _; first | (rw [sealE_no (by assumption)]; done) | (rw [sealE_yes (by assumption)]; done))), rfl⟩, ⟨le_int (by first | with_reducible rfl | (show (_ : Nat) = _; first | (rw [sealF_no (by assumption)]; rfl) | (rw [sealF_yes (by assumption), List.length_append, haf])) | (show (_ : List UInt8) = _; first | (rw [sealF_no (by assumption)]; done) | (rw [sealF_yes (by assumption)]; done)) | (show (_ : Int) = _; first | (rw [sealE_no (by assumption)]; done) | (rw [sealE_yes (by assumption)]; done))), trivial⟩, trivial⟩, ⟨⟨_, rfl, .inl (ob_bs (by first | rfl | ((try dsimp only); (first | with_reducible rfl | (show (_ : Nat) = _; first | (rw [sealF_no (by assumption)]; rfl) | (rw [sealF_yes (by assumption), List.length_append, haf])) | (show (_ : List UInt8) = _; first | (rw [sealF_no (by assumption)]; done) | (rw [sealF_yes (by assumption)]; done)) | (show (_ : Int) = _; first | (rw [sealE_no (by assumption)]; done) | (rw [sealE_yes (by assumption)]; done))))) (by first | rfl | ((try dsimp only); (first | with_reducible rfl | (show (_ : Nat) = _; first | (rw [sealF_no (by assumption)]; rfl) | (rw [sealF_yes (by assumption), List.length_append, haf])) | (show (_ : List UInt8) = _; first | (rw [sealF_no (by assumption)]; done) | (rw [sealF_yes (by assumption)]; done)) | (show (_ : Int) = _; first | (rw [sealE_no (by assumption)]; done) | (rw [sealE_yes (by assumption)]; done)))))), trivial⟩, trivial⟩⟩
 ·have h2 := of_decide_eq_true (bnF h2)
  refine HT.skip ?_
  show HT _ _ _ _ _
  refine HT.seq ?_
  refine HT.planS S_rputs_ok S_rputs_det mixed [6, 7] [⟨[0, 2, 3], 1, [2, 3]⟩, ⟨[2, 3, 4], 5, []⟩] (by kernel_rfl) ?_
  have haf := aheadF_yes (by assumption : sealP g ep fr gn cl)
  have hafl := congrArg List.length haf
  refine Pl.lk ?_
  refine Si.n rfl (lk rfl) (V.ldPtrA ty35 rfl rfl rfl rfl (lk rfl) ?_)
  refine Si.n rfl (lk rfl) (V.faPtr ty35 rfl ty22 (lk rfl) rfl rfl (lk rfl) ?_)
  refine Si.n rfl (lk rfl) (V.ldPtr ty22 rfl rfl rfl (lk rfl) (v := .p (.bs _)) rfl ?_)
  refine Si.e ?_
  refine ⟨flEq_nil, fun ff => ?_⟩
  refine Lo.n rfl (lk rfl) (A.call0 [.agg 5 _] 2 rfl rfl rfl rfl ⟨trivial, trivial⟩ trivial (g, ep, fr, gn, cl) ⟨le_agg (fun j hj => by match j, hj with | 0, _ => rfl | 1, _ => rfl | 2, _ => rfl | 3, _ => rfl | 4, _ => rfl), trivial⟩ trivial (by trivial) (Φ := fun _ => True) (fun _ _ => trivial) (.inl rfl) (v := .own 4 0 _) rfl (O' := (4, ⟨5, 1, _, true, .bs _⟩) :: _) rfl (fun h3 => ?_))
  refine ⟨_, fun ff => ff, ap0d, rfl, FG.id, ?_⟩
  show planA _ _ _ _ _ [(2, .ptr 1 4), (3, .p (.bs _))] _ _ _
  refine Pl.l0 ?_
  refine Si.n rfl (lk rfl) (V.faPtr ty35 rfl ty22 (lk rfl) rfl rfl (lk rfl) ?_)
  refine Si.n rfl (lk rfl) (V.ldPtr ty22 rfl rfl rfl (lk rfl) (v := .p (.bs _)) rfl ?_)
  refine Si.n rfl (lk rfl) (V.call [.p (.bs _)] 5 rfl rfl rfl rfl ⟨trivial, trivial⟩ trivial _ ⟨.refl _, trivial⟩ trivial (by trivial) (Φ := fun _ => True) (fun _ _ => trivial) (.inl ⟨trivial, trivial⟩) (v := .p (.bs _)) rfl (fun h4 => ?_))
  refine Si.e ?_
  refine ⟨(flEq_cons rfl (flEq_cons rfl flEq_nil)), ?_⟩
  refine Lo.n rfl (lk rfl) (A.apOwn ty22 ty5 rfl rfl rfl rfl (u := .p (.bs _)) rfl rfl (l' := aheadB g ep fr gn ++ txF cl) (by rw [ap_full (Nat.le_refl _), take_full, haf]) (mn := (aheadF g ep fr gn cl).length + (txF cl).length) (by first | rfl | (rw [take_full]; done)) (by omega) rfl rfl rfl ?_)
  refine Pl.e ?_
  refine Si.n rfl (lk rfl) (V.as (v := .own 4 0 _) rfl ?_)
  refine Si.n rfl (lk rfl) (V.as (v := .p (.v (.int .i64 (0)))) rfl ?_)
  refine Si.e ?_
  refine ⟨flEq_nil, ?_⟩
  show HT _ _ _ _ _
  refine HT.ret ?_
  exact ret_ok (sg [(2, 4)]) h rfl rfl rfl ⟨trivial, trivial⟩ ⟨rfl, trivial, trivial⟩ rfl ⟨⟨⟨le_own2 (by first | rfl | omega) (by first | with_reducible rfl | (show (_ : Nat) = _; first | (rw [sealF_no (by assumption)]; rfl) | (rw [sealF_yes (by assumption), List.length_append, haf])) | (show (_ : List UInt8) = _; first | (rw [sealF_no (by assumption)]; done) | (rw [sealF_yes (by assumption)]; done)) | (show (_ : Int) = _; first | (rw [sealE_no (by assumption)]; done) | (rw [sealE_yes (by assumption)]; done))), rfl⟩, ⟨le_int (by first | with_reducible rfl | (show (_ : Nat) = _; first | (rw [sealF_no (by assumption)]; rfl) | (rw [sealF_yes (by assumption), List.length_append, haf])) | (show (_ : List UInt8) = _; first | (rw [sealF_no (by assumption)]; done) | (rw [sealF_yes (by assumption)]; done)) | (show (_ : Int) = _; first | (rw [sealE_no (by assumption)]; done) | (rw [sealE_yes (by assumption)]; done))), trivial⟩, trivial⟩, ⟨⟨_, rfl, .inl (ob_bs (by first | rfl | ((try dsimp only); (first | with_reducible rfl | (show (_ : Nat) = _; first | (rw [sealF_no (by assumption)]; rfl) | (rw [sealF_yes (by assumption), List.length_append, haf])) | (show (_ : List UInt8) = _; first | (rw [sealF_no (by assumption)]; done) | (rw [sealF_yes (by assumption)]; done)) | (show (_ : Int) = _; first | (rw [sealE_no (by assumption)]; done) | (rw [sealE_yes (by assumption)]; done))))) (by first | rfl | ((try dsimp only); (first | with_reducible rfl | (show (_ : Nat) = _; first | (rw [sealF_no (by assumption)]; rfl) | (rw [sealF_yes (by assumption), List.length_append, haf])) | (show (_ : List UInt8) = _; first | (rw [sealF_no (by assumption)]; done) | (rw [sealF_yes (by assumption)]; done)) | (show (_ : Int) = _; first | (rw [sealE_no (by assumption)]; done) | (rw [sealE_yes (by assumption)]; done)))))), trivial⟩, trivial⟩⟩
end Go.Vh

set_option linter.unusedVariables false
set_option linter.unusedSimpArgs false
namespace Go.Vh
open Go Go.Vc Go.Proofs Go.Vw
def getTextSp : Sp := ⟨[], mkE (α := (List UInt8) × Int) (fun (b, i) => [.p (.bs (b)), .p (.v (.int .i64 (i)))]) (fun (b, i) => []) (fun (b, i) => True) (fun (b, i) => [.own 1 (0) ((getTextF b i).1.length), .p (.v (.int .i64 ((getTextF b i).2.1))), .p (.v (.int .i64 ((getTextF b i).2.2)))]) (fun (b, i) => [(1, ⟨5, 1, ((getTextF b i).1).length, true, .bs ((getTextF b i).1)⟩)])⟩
def S_getText : FuncId → Option Sp := fun f => if f = 61 then some spanSp else if f = 62 then some cloneSp else none
theorem S_getText_ok : ∀ f s, S_getText f = some s → FOK Tryd.prog gl f s := fun f s h => by
 unfold S_getText at h
 split at h
 ·rename_i e; cases h; subst e; exact span_ok
 split at h
 ·rename_i e; cases h; subst e; exact clone_ok
 cases h
set_option maxHeartbeats 1000000 in
set_option maxRecDepth 1000 in
theorem getText_ok : FOK Tryd.prog gl 49 getTextSp := by
 refine FOK.ofE (tyOf_ok Tryd.prog) (slots := [4, 5, 6]) (nt := 26) Tryd.func49 rfl rfl rfl rfl (by decide) 2 (fun ⟨_, _⟩ => rfl) (by decide) (fun ⟨_, _⟩ => ⟨trivial, trivial, trivial⟩) ?_
 rintro ⟨b, i⟩ kk hlen hpre h
 have hl0 : (b).length ≤ 9223372036854775807 := hlen.1
 replace hpre : True := hpre
 show HT (cx Tryd.prog 26 (tyOf Tryd.prog) gl []) _ [(0, .p (.bs (b))), (1, .p (.v (.int .i64 (i))))] [] _
 refine HT.seq ?_
 refine HT.region S_getText_ok ?_
 refine So.q rfl rfl (V.as (v := .p (.v (.slice none 0 0))) rfl ?_)
 refine So.q rfl rfl (V.as (v := .p (.v (.int .i64 (0)))) rfl ?_)
 refine So.q rfl rfl (V.as (v := .p (.v (.int .i64 (0)))) rfl ?_)
 refine So.e ?_
 show HT _ _ _ _ _
 refine HT.seq ?_
 refine HT.region S_getText_ok ?_
 refine So.q rfl rfl (V.mv (v := .p (.bs _)) rfl ?_)
 refine So.q rfl rfl (V.mv (v := .p (.v (.int .i64 _))) rfl ?_)
 refine So.n (lk rfl) (A.call0 [.p (.bs _), .p (.v (.int .i64 _))] 1 rfl rfl rfl rfl ⟨trivial, trivial, trivial⟩ trivial (_, _) ⟨.refl _, .refl _, trivial⟩ trivial (by trivial) (Φ := fun (b, i) => (spanF b i).2.2 = 0 → 0 ≤ i ∧ i < (spanF b i).1 ∧ (spanF b i).1 ≤ (spanF b i).2.1 ∧ (spanF b i).2.1 ≤ b.length ∧ (spanF b i).2.1 - (spanF b i).1 ≤ 1048576) (fun (b, i) _ => spanF_ok b i) (.inl rfl) (v := .tup 3 _) rfl (O' := _) rfl (fun h1 => ?_))
 try dsimp only at h1
 refine So.q rfl rfl (V.mv (v := .tup 3 _) rfl ?_)
 refine So.q rfl rfl (V.ext rfl (lk rfl) (v := .p (.v (.int .i64 _))) rfl ?_)
 refine So.q rfl rfl (V.ext rfl (lk rfl) (v := .p (.v (.int .i64 _))) rfl ?_)
 refine So.q rfl rfl (V.ext rfl (lk rfl) (v := .p (.v (.int .i64 _))) rfl ?_)
 refine So.q rfl rfl (V.as (v := .p (.v (.int .i64 _))) rfl ?_)
 refine So.q rfl rfl (V.as (v := .p (.v (.int .i64 _))) rfl ?_)
 refine So.q rfl rfl (V.as (v := .p (.v (.int .i64 _))) rfl ?_)
 refine So.e ?_
 show HT _ _ _ _ _
 refine HT.seq ?_
 refine HT.seq ?_
 refine HT.region S_getText_ok ?_
 refine So.q rfl rfl (V.mv (v := .p (.v (.int .i64 _))) rfl ?_)
 refine So.q rfl rfl (V.bin (a := (.v (.int .i64 _))) (b := (.v (.int .i64 (0)))) (r := .v (.bool _)) rfl rfl rfl trivial ?_)
 refine So.e ?_
 show HT _ _ _ _ _
 refine R.cond rfl rfl (fun h2 => ?_) (fun h2 => ?_)
 ·have h2 := of_decide_eq_false (bnT h2)
  refine HT.seq ?_
  refine HT.region S_getText_ok ?_
  refine So.q rfl rfl (V.mv (v := .p (.v (.int .i64 _))) rfl ?_)
  refine So.q rfl rfl (V.as (v := .p (.v (.slice none 0 0))) rfl ?_)
  refine So.q rfl rfl (V.as (v := .p (.v (.int .i64 (0)))) rfl ?_)
  refine So.q rfl rfl (V.as (v := .p (.v (.int .i64 _))) rfl ?_)
  refine So.e ?_
  show HT _ _ _ _ _
  refine R.phan 4 1 5 1 (.bs []) rfl rfl rfl ⟨rfl, rfl⟩ ?_
  refine HT.ret ?_
  exact ret_ok (sg [(1, 1)]) h rfl rfl rfl ⟨trivial, trivial⟩ ⟨rfl, trivial, trivial, trivial⟩ rfl ⟨⟨⟨le_own2 (by first | rfl | omega) (by first | rfl | (unfold getTextF; simp (disch := omega) only [if_pos, if_neg, ne_eq] <;> first | rfl | (simp; done))), rfl⟩, ⟨le_int (by first | rfl | (unfold getTextF; simp (disch := omega) only [if_pos, if_neg, ne_eq] <;> first | rfl | (simp; done))), trivial⟩, ⟨le_int (by first | rfl | (unfold getTextF; simp (disch := omega) only [if_pos, if_neg, ne_eq] <;> first | rfl | (simp; done))), trivial⟩, trivial⟩, ⟨⟨_, rfl, .inl (ob_bs (by first | rfl | ((try dsimp only); (first | rfl | (unfold getTextF; simp (disch := omega) only [if_pos, if_neg, ne_eq] <;> first | rfl | (simp; done))))) (by first | rfl | ((try dsimp only); (first | rfl | (unfold getTextF; simp (disch := omega) only [if_pos, if_neg, ne_eq] <;> first | rfl | (simp; done)))))), trivial⟩, trivial⟩⟩
 ·have h2 := of_decide_eq_true (bnF h2)
  refine HT.skip ?_
  show HT _ _ _ _ _
  refine HT.seq ?_
  refine HT.region S_getText_ok ?_
  refine So.q rfl rfl (V.mv (v := .p (.bs _)) rfl ?_)
  refine So.q rfl rfl (V.mv (v := .p (.v (.int .i64 _))) rfl ?_)
  refine So.q rfl rfl (V.mv (v := .p (.v (.int .i64 _))) rfl ?_)
  refine So.q rfl rfl (V.cutBs ty22 ty5 rfl rfl rfl rfl (by omega) (.inl rfl) rfl ?_)
  refine So.n (lk rfl) (A.call0 [.p (.bs _)] 1 rfl rfl rfl rfl ⟨trivial, trivial⟩ trivial _ ⟨.refl _, trivial⟩ trivial (by first | omega | (simp; omega)) (Φ := fun _ => True) (fun _ _ => trivial) (.inl rfl) (v := .own 2 0 _) rfl (O' := (2, ⟨5, 1, _, true, .bs _⟩) :: _) rfl (fun h3 => ?_))
  refine So.q rfl rfl (V.mv (v := .p (.v (.int .i64 _))) rfl ?_)
  refine So.q rfl rfl (V.as (v := .own 2 0 _) rfl ?_)
  refine So.q rfl rfl (V.as (v := .p (.v (.int .i64 _))) rfl ?_)
  refine So.q rfl rfl (V.as (v := .p (.v (.int .i64 (0)))) rfl ?_)
  refine So.e ?_
  show HT _ _ _ _ _
  refine HT.ret ?_
  exact ret_ok (sg [(1, 2)]) h rfl rfl rfl ⟨trivial, trivial⟩ ⟨rfl, trivial, trivial, trivial⟩ rfl ⟨⟨⟨le_own2 (by first | rfl | omega) (by first | rfl | (unfold getTextF; simp (disch := omega) only [if_pos, if_neg, ne_eq] <;> first | rfl | (simp; done))), rfl⟩, ⟨le_int (by first | rfl | (unfold getTextF; simp (disch := omega) only [if_pos, if_neg, ne_eq] <;> first | rfl | (simp; done))), trivial⟩, ⟨le_int (by first | rfl | (unfold getTextF; simp (disch := omega) only [if_pos, if_neg, ne_eq] <;> first | rfl | (simp; done))), trivial⟩, trivial⟩, ⟨⟨_, rfl, .inl (ob_bs (by first | rfl | ((try dsimp only); (first | rfl | (unfold getTextF; simp (disch := omega) only [if_pos, if_neg, ne_eq] <;> first | rfl | (simp; done))))) (by first | rfl | ((try dsimp only); (first | rfl | (unfold getTextF; simp (disch := omega) only [if_pos, if_neg, ne_eq] <;> first | rfl | (simp; done)))))), trivial⟩, trivial⟩⟩
end Go.Vh

set_option linter.unusedVariables false
set_option linter.unusedSimpArgs false
namespace Go.Vh
open Go Go.Vc Go.Proofs Go.Vw
def rtext_pSp : Sp := ⟨[1, 2], mkE (α := (List UInt8) × Int × Int × (Nat → PV)) (fun (b, p, e, f) => [.ptr 1 (0), .own 3 (0) (1)]) (fun (b, p, e, f) => [(1, ⟨63, 1, 3, true, .rows (fun j => ([.bs b, .v (.int .i64 p), .v (.int .i64 e)] : List PV).getD j (.v undef))⟩), (2, ⟨57, 1, 3, true, .rows (fun j => if j = 0 then .bs ([]) else f j)⟩), (3, ⟨67, 1, 1, true, .cells [.ptr 2 (0)]⟩)]) (fun (b, p, e, f) => True) (fun (b, p, e, f) => []) (fun (b, p, e, f) => [(1, ⟨63, 1, 3, true, .rows (fun j => ([.bs b, .v (.int .i64 (rdT b p e).2.1), .v (.int .i64 (rdT b p e).2.2)] : List PV).getD j (.v undef))⟩), (2, ⟨57, 1, 3, true, .rows (fun j => if j = 0 then .bs ((rdT b p e).1) else f j)⟩)])⟩
def S_rtext_p : FuncId → Option Sp := fun f => if f = 49 then some getTextSp else none
theorem S_rtext_p_ok : ∀ f s, S_rtext_p f = some s → FOK Tryd.prog gl f s := fun f s h => by
 unfold S_rtext_p at h
 split at h
 ·rename_i e; cases h; subst e; exact getText_ok
 cases h
theorem S_rtext_p_det : ∀ f s, S_rtext_p f = some s → SpDet s.sp := fun f s h => by
 unfold S_rtext_p at h
 split at h
 ·cases h; exact mkE_det _ _ _ _ _
 cases h
set_option maxHeartbeats 1000000 in
set_option maxRecDepth 1000 in
theorem rtext_p_ok : FOK Tryd.prog gl 34 rtext_pSp := by
 refine FOK.ofE (tyOf_ok Tryd.prog) (slots := []) (nt := 39) Tryd.func34 rfl rfl rfl rfl (by decide) 2 (fun ⟨_, _, _, _⟩ => rfl) (by decide) (fun ⟨_, _, _, _⟩ => ⟨rfl, rfl, trivial⟩) ?_
 rintro ⟨b, p, e, f⟩ kk hlen hpre h
 have hl1 : _ ≤ 9223372036854775807 := hlen.2.1
 replace hpre : True := hpre
 show HT (cx Tryd.prog 39 (tyOf Tryd.prog) gl [1, 2]) _ [(0, .ptr 1 (0)), (1, .own 3 (0) (1))] [(1, ⟨63, 1, 3, true, .rows (fun j => ([.bs b, .v (.int .i64 p), .v (.int .i64 e)] : List PV).getD j (.v undef))⟩), (2, ⟨57, 1, 3, true, .rows (fun j => if j = 0 then .bs ([]) else f j)⟩), (3, ⟨67, 1, 1, true, .cells [.ptr 2 (0)]⟩)] _
 refine HT.seq ?_
 refine HT.region S_rtext_p_ok ?_
 refine So.q rfl rfl (V.mv (v := .own 3 0 _) rfl ?_)
 refine So.q rfl rfl (V.len ty83 (v := .own 3 0 _) rfl rfl ?_)
 refine So.q rfl rfl (V.mv (v := .p (.v (.int .i64 (0)))) rfl ?_)
 refine So.e ?_
 show HT _ _ _ _ _
 refine HT.block ?_
 refine HT.rounds 2 ?_
 show HT _ _ _ _ _
 refine HT.seq ?_
 refine HT.region S_rtext_p_ok ?_
 refine So.q rfl rfl (V.bin (a := (.v (.int .i64 _))) (b := (.v (.int .i64 _))) (r := .v (.bool _)) rfl rfl rfl trivial ?_)
 refine So.e ?_
 show HT _ _ _ _ _
 refine HT.seq ?_
 refine R.cond rfl rfl (fun h1 => ?_) (fun h1 => ?_)
 ·have h1 := of_decide_eq_true h1
  refine HT.skip ?_
  show HT _ _ _ _ _
  refine R.cut (True) [] [(1, ⟨63, 1, 3, true, .rows (fun j => ([.bs b, .v (.int .i64 (rdT b p e).2.1), .v (.int .i64 (rdT b p e).2.2)] : List PV).getD j (.v undef))⟩), (2, ⟨57, 1, 3, true, .rows (fun j => if j = 0 then .bs ((rdT b p e).1) else f j)⟩)] [0, 6, 7, 8] [3] (fr0 := [(0, .ptr 1 0), (6, .own 3 0 _), (7, .p (.v (.int .i64 _))), (8, .p (.v (.int .i64 _)))]) (O0 := [(3, ⟨_, _, _, _, .cells _⟩)]) rfl rfl ?_ (fun hphi => ?_)
  ·refine HT.block ?_
   refine HT.seq ?_
   refine HT.region S_rtext_p_ok ?_
   refine So.q rfl rfl (V.ixOwn10 ty83 ty67 rfl rfl rfl rfl rfl (by omega) rfl ?_)
   refine So.q rfl rfl (V.ldPtr ty67 rfl rfl rfl (lk rfl) (v := .ptr 2 0) rfl ?_)
   refine So.q rfl rfl (V.as (v := .ptr 2 0) rfl ?_)
   refine So.e ?_
   show HT _ _ _ _ _
   refine HT.seq ?_
   refine HT.region S_rtext_p_ok ?_
   refine So.q rfl rfl (V.mv (v := .ptr 1 0) rfl ?_)
   refine So.q rfl rfl (V.ncPtr rfl ?_)
   refine So.q rfl rfl (V.faPtr ty63 rfl ty29 (lk rfl) rfl rfl (lk rfl) ?_)
   refine So.q rfl rfl (V.ldPtr ty29 rfl rfl rfl (lk rfl) (v := .p (.v (.int .i64 _))) rfl ?_)
   refine So.q rfl rfl (V.bin (a := (.v (.int .i64 _))) (b := (.v (.int .i64 (0)))) (r := .v (.bool _)) rfl rfl rfl trivial ?_)
   refine So.e ?_
   show HT _ _ _ _ _
   refine R.cond rfl rfl (fun h2 => ?_) (fun h2 => ?_)
   ·have h2 := of_decide_eq_true h2
    refine HT.planS S_rtext_p_ok S_rtext_p_det mixed [] [⟨[0, 1, 2, 3, 4, 5, 6, 7, 8, 9, 10, 11, 12, 13, 14, 15, 16], 17, [1, 2, 14, 15]⟩, ⟨[1, 2, 14, 15, 18, 19], 20, [2, 15]⟩, ⟨[2, 15, 21, 22], 23, []⟩] (by kernel_rfl) ?_
    refine Pl.lk ?_
    refine Si.n rfl (lk rfl) (V.mv (v := .ptr 2 0) rfl ?_)
    refine Si.n rfl (lk rfl) (V.mv (v := .ptr 1 0) rfl ?_)
    refine Si.n rfl (lk rfl) (V.mv (v := .ptr 1 0) rfl ?_)
    refine Si.n rfl (lk rfl) (V.mv (v := .ptr 1 0) rfl ?_)
    refine Si.n rfl (lk rfl) (V.ncPtr rfl ?_)
    refine Si.n rfl (lk rfl) (V.faPtr ty63 rfl ty22 (lk rfl) rfl rfl (lk rfl) ?_)
    refine Si.n rfl (lk rfl) (V.ldPtr ty22 rfl rfl rfl (lk rfl) (v := .p (.bs _)) rfl ?_)
    refine Si.n rfl (lk rfl) (V.mv (v := .ptr 1 0) rfl ?_)
    refine Si.n rfl (lk rfl) (V.ncPtr rfl ?_)
    refine Si.n rfl (lk rfl) (V.faPtr ty63 rfl ty3 (lk rfl) rfl rfl (lk rfl) ?_)
    refine Si.n rfl (lk rfl) (V.ldPtr ty3 rfl rfl rfl (lk rfl) (v := .p (.v (.int .i64 _))) rfl ?_)
    refine Si.n rfl (lk rfl) (V.call [.p (.bs _), .p (.v (.int .i64 _))] 4 rfl rfl rfl rfl ⟨trivial, trivial, trivial⟩ ⟨lk rfl, lk rfl, trivial⟩ (_, _) ⟨.refl _, .refl _, trivial⟩ trivial (by trivial) (Φ := fun (b, i) => ((getTextF b i).2.2 = 0 → 0 ≤ i ∧ i < (getTextF b i).2.1 ∧ (getTextF b i).2.1 ≤ b.length) ∧ (getTextF b i).1.length ≤ 1048576) (fun (b, i) _ => ⟨getTextF_ok b i, getTextF_len b i⟩) (.inl ⟨trivial, trivial, trivial⟩) (v := .tup 3 _) rfl (fun h3 => ?_))
    try dsimp only at h3
    refine Si.n rfl (lk rfl) (V.mv (v := .tup 3 _) rfl ?_)
    refine Si.n rfl (lk rfl) (V.ext rfl (lk rfl) (v := .p (.bs _)) rfl ?_)
    refine Si.n rfl (lk rfl) (V.ext rfl (lk rfl) (v := .p (.v (.int .i64 _))) rfl ?_)
    refine Si.n rfl (lk rfl) (V.ext rfl (lk rfl) (v := .p (.v (.int .i64 _))) rfl ?_)
    refine Si.n rfl (lk rfl) (V.ncPtr rfl ?_)
    refine Si.e ?_
    refine ⟨flEq_nil, fun ff => ?_⟩
    refine Lo.s rfl (A.sto ty22 rfl rfl rfl (v := .p (.bs _)) rfl trivial rfl (lk rfl) rfl rfl ?_)
    refine ⟨_, fun ff => ff, ap0, rfl, FG.id, ?_⟩
    show planA _ _ _ _ _ [(1, .ptr 1 0), (2, .ptr 1 0), (14, .p (.v (.int .i64 _))), (15, .p (.v (.int .i64 _)))] _ _ _
    refine Pl.lk ?_
    refine Si.n rfl (lk rfl) (V.mv (v := .ptr 1 0) rfl ?_)
    refine Si.n rfl (lk rfl) (V.mv (v := .ptr 1 0) rfl ?_)
    refine Si.n rfl (lk rfl) (V.ext rfl (lk rfl) (v := .p (.v (.int .i64 _))) rfl ?_)
    refine Si.n rfl (lk rfl) (V.ext rfl (lk rfl) (v := .p (.v (.int .i64 _))) rfl ?_)
    refine Si.n rfl (lk rfl) (V.ncPtr rfl ?_)
    refine Si.n rfl (lk rfl) (V.faPtr ty63 rfl ty3 (lk rfl) rfl rfl (lk rfl) ?_)
    refine Si.e ?_
    refine ⟨(flEq_cons rfl (flEq_cons rfl (flEq_cons rfl (flEq_cons rfl flEq_nil)))), fun ff => ?_⟩
    refine Lo.s rfl (A.sto ty3 rfl rfl rfl (v := .p (.v (.int .i64 _))) rfl rfl rfl (lk rfl) rfl rfl ?_)
    refine ⟨_, fun ff => ff, ap0, rfl, FG.id, ?_⟩
    show planA _ _ _ _ _ [(2, .ptr 1 0), (15, .p (.v (.int .i64 _)))] _ _ _
    refine Pl.l0 ?_
    refine Si.n rfl (lk rfl) (V.mv (v := .ptr 1 0) rfl ?_)
    refine Si.n rfl (lk rfl) (V.ext rfl (lk rfl) (v := .p (.v (.int .i64 _))) rfl ?_)
    refine Si.n rfl (lk rfl) (V.ncPtr rfl ?_)
    refine Si.n rfl (lk rfl) (V.faPtr ty63 rfl ty29 (lk rfl) rfl rfl (lk rfl) ?_)
    refine Si.e ?_
    refine ⟨(flEq_cons rfl (flEq_cons rfl flEq_nil)), ?_⟩
    refine Lo.s rfl (A.sto ty29 rfl rfl rfl (v := .p (.v (.int .i64 _))) rfl rfl rfl (lk rfl) rfl rfl ?_)
    refine Pl.e ?_
    refine Si.e ?_
    refine ⟨flEq_nil, ?_⟩
    exact ⟨by first | rfl | omega | (simp; done) | (simp; omega), ⟨⟨⟨.refl _, rfl⟩, ⟨.refl _, rfl⟩, ⟨.refl _, trivial⟩, ⟨.refl _, trivial⟩, trivial⟩, ⟨⟨_, rfl, .inr (ob_rows (by rfl) (by first | (rw [show rdT b p e = Go.Vh.gT b p from rdT_0 (e := e) (by assumption)]; (intro j hj; match j, hj with | 0, _ => rfl | 1, _ => rfl | 2, _ => rfl)) | (rw [show rdT b p e = ([], p, e) from rdT_1 (e := e) (by assumption)]; (intro j hj; match j, hj with | 0, _ => rfl | 1, _ => rfl | 2, _ => rfl)))), trivial⟩, ⟨_, rfl, .inr (ob_rows (by rfl) (by first | (rw [show rdT b p e = Go.Vh.gT b p from rdT_0 (e := e) (by assumption)]; intro j hj; by_cases h0 : j = 0 <;> first | (simp [h0, gT]; done) | (exfalso; omega)) | (rw [show rdT b p e = ([], p, e) from rdT_1 (e := e) (by assumption)]; intro j hj; by_cases h0 : j = 0 <;> first | (simp [h0, gT]; done) | (exfalso; omega)))), trivial⟩, ⟨_, rfl, .inl rfl, ⟨rfl, trivial⟩⟩, trivial⟩⟩⟩
   ·have h2 := of_decide_eq_false h2
    refine HT.skip ?_
    exact ⟨by first | rfl | omega | (simp; done) | (simp; omega), ⟨⟨⟨.refl _, rfl⟩, ⟨.refl _, rfl⟩, ⟨.refl _, trivial⟩, ⟨.refl _, trivial⟩, trivial⟩, ⟨⟨_, rfl, .inr (ob_rows (by rfl) (by first | (rw [show rdT b p e = Go.Vh.gT b p from rdT_0 (e := e) (by assumption)]; (intro j hj; match j, hj with | 0, _ => rfl | 1, _ => rfl | 2, _ => rfl)) | (rw [show rdT b p e = ([], p, e) from rdT_1 (e := e) (by assumption)]; (intro j hj; match j, hj with | 0, _ => rfl | 1, _ => rfl | 2, _ => rfl)))), trivial⟩, ⟨_, rfl, .inr (ob_rows (by rfl) (by first | (rw [show rdT b p e = Go.Vh.gT b p from rdT_0 (e := e) (by assumption)]; intro j hj; by_cases h0 : j = 0 <;> first | (simp [h0, gT]; done) | (exfalso; omega)) | (rw [show rdT b p e = ([], p, e) from rdT_1 (e := e) (by assumption)]; intro j hj; by_cases h0 : j = 0 <;> first | (simp [h0, gT]; done) | (exfalso; omega)))), trivial⟩, ⟨_, rfl, .inl rfl, ⟨rfl, trivial⟩⟩, trivial⟩⟩⟩
  ·refine HT.region S_rtext_p_ok ?_
   refine So.q rfl rfl (V.addI rfl rfl (by omega) ?_)
   refine So.q rfl rfl (V.mv (v := .p (.v (.int .i64 _))) rfl ?_)
   refine So.e ?_
   show HT _ _ _ _ _
   refine HT.seq ?_
   refine HT.region S_rtext_p_ok ?_
   refine So.q rfl rfl (V.bin (a := (.v (.int .i64 _))) (b := (.v (.int .i64 _))) (r := .v (.bool _)) rfl rfl rfl trivial ?_)
   refine So.e ?_
   show HT _ _ _ _ _
   refine HT.seq ?_
   refine R.cond rfl rfl (fun h4 => ?_) (fun h4 => ?_)
   ·have h4 := of_decide_eq_true h4
    exfalso; omega
   ·have h4 := of_decide_eq_false h4
    refine HT.exit ?_
    exact ret_ok (sg [(1, 1), (2, 2)]) h rfl rfl rfl ⟨trivial, trivial, trivial⟩ trivial rfl ⟨trivial, ⟨⟨_, rfl, .inr (ob_rows (by first | rfl | ((try dsimp only); (first | with_reducible rfl | (intro j hj; rfl)))) (by first | rfl | ((try dsimp only); (first | with_reducible rfl | (intro j hj; rfl))))), trivial⟩, ⟨_, rfl, .inr (ob_rows (by first | rfl | ((try dsimp only); (first | with_reducible rfl | (intro j hj; rfl)))) (by first | rfl | ((try dsimp only); (first | with_reducible rfl | (intro j hj; rfl))))), trivial⟩, trivial⟩⟩
 ·have h1 := of_decide_eq_false h1
  exfalso; omega
def rtext_sSp : Sp := ⟨[1, 2], mkE (α := (List UInt8) × Int × Int × (Nat → PV)) (fun (b, p, e, f) => [.ptr 1 (0), .own 3 (0) (1)]) (fun (b, p, e, f) => [(1, ⟨63, 1, 3, true, .rows (fun j => ([.bs b, .v (.int .i64 p), .v (.int .i64 e)] : List PV).getD j (.v undef))⟩), (2, ⟨35, 1, 5, true, .rows (fun j => if j = 4 then .bs ([]) else f j)⟩), (3, ⟨67, 1, 1, true, .cells [.ptr 2 (4)]⟩)]) (fun (b, p, e, f) => True) (fun (b, p, e, f) => []) (fun (b, p, e, f) => [(1, ⟨63, 1, 3, true, .rows (fun j => ([.bs b, .v (.int .i64 (rdT b p e).2.1), .v (.int .i64 (rdT b p e).2.2)] : List PV).getD j (.v undef))⟩), (2, ⟨35, 1, 5, true, .rows (fun j => if j = 4 then .bs ((rdT b p e).1) else f j)⟩)])⟩
def S_rtext_s : FuncId → Option Sp := fun f => if f = 49 then some getTextSp else none
theorem S_rtext_s_ok : ∀ f s, S_rtext_s f = some s → FOK Tryd.prog gl f s := fun f s h => by
 unfold S_rtext_s at h
 split at h
 ·rename_i e; cases h; subst e; exact getText_ok
 cases h
theorem S_rtext_s_det : ∀ f s, S_rtext_s f = some s → SpDet s.sp := fun f s h => by
 unfold S_rtext_s at h
 split at h
 ·cases h; exact mkE_det _ _ _ _ _
 cases h
set_option maxHeartbeats 1000000 in
set_option maxRecDepth 1000 in
theorem rtext_s_ok : FOK Tryd.prog gl 34 rtext_sSp := by
 refine FOK.ofE (tyOf_ok Tryd.prog) (slots := []) (nt := 39) Tryd.func34 rfl rfl rfl rfl (by decide) 2 (fun ⟨_, _, _, _⟩ => rfl) (by decide) (fun ⟨_, _, _, _⟩ => ⟨rfl, rfl, trivial⟩) ?_
 rintro ⟨b, p, e, f⟩ kk hlen hpre h
 have hl1 : _ ≤ 9223372036854775807 := hlen.2.1
 replace hpre : True := hpre
 show HT (cx Tryd.prog 39 (tyOf Tryd.prog) gl [1, 2]) _ [(0, .ptr 1 (0)), (1, .own 3 (0) (1))] [(1, ⟨63, 1, 3, true, .rows (fun j => ([.bs b, .v (.int .i64 p), .v (.int .i64 e)] : List PV).getD j (.v undef))⟩), (2, ⟨35, 1, 5, true, .rows (fun j => if j = 4 then .bs ([]) else f j)⟩), (3, ⟨67, 1, 1, true, .cells [.ptr 2 (4)]⟩)] _
 refine HT.seq ?_
 refine HT.region S_rtext_s_ok ?_
 refine So.q rfl rfl (V.mv (v := .own 3 0 _) rfl ?_)
 refine So.q rfl rfl (V.len ty83 (v := .own 3 0 _) rfl rfl ?_)
 refine So.q rfl rfl (V.mv (v := .p (.v (.int .i64 (0)))) rfl ?_)
 refine So.e ?_
 show HT _ _ _ _ _
 refine HT.block ?_
 refine HT.rounds 2 ?_
 show HT _ _ _ _ _
 refine HT.seq ?_
 refine HT.region S_rtext_s_ok ?_
 refine So.q rfl rfl (V.bin (a := (.v (.int .i64 _))) (b := (.v (.int .i64 _))) (r := .v (.bool _)) rfl rfl rfl trivial ?_)
 refine So.e ?_
 show HT _ _ _ _ _
 refine HT.seq ?_
 refine R.cond rfl rfl (fun h1 => ?_) (fun h1 => ?_)
 ·have h1 := of_decide_eq_true h1
  refine HT.skip ?_
  show HT _ _ _ _ _
  refine R.cut (True) [] [(1, ⟨63, 1, 3, true, .rows (fun j => ([.bs b, .v (.int .i64 (rdT b p e).2.1), .v (.int .i64 (rdT b p e).2.2)] : List PV).getD j (.v undef))⟩), (2, ⟨35, 1, 5, true, .rows (fun j => if j = 4 then .bs ((rdT b p e).1) else f j)⟩)] [0, 6, 7, 8] [3] (fr0 := [(0, .ptr 1 0), (6, .own 3 0 _), (7, .p (.v (.int .i64 _))), (8, .p (.v (.int .i64 _)))]) (O0 := [(3, ⟨_, _, _, _, .cells _⟩)]) rfl rfl ?_ (fun hphi => ?_)
  ·refine HT.block ?_
   refine HT.seq ?_
   refine HT.region S_rtext_s_ok ?_
   refine So.q rfl rfl (V.ixOwn10 ty83 ty67 rfl rfl rfl rfl rfl (by omega) rfl ?_)
   refine So.q rfl rfl (V.ldPtr ty67 rfl rfl rfl (lk rfl) (v := .ptr 2 4) rfl ?_)
   refine So.q rfl rfl (V.as (v := .ptr 2 4) rfl ?_)
   refine So.e ?_
   show HT _ _ _ _ _
   refine HT.seq ?_
   refine HT.region S_rtext_s_ok ?_
   refine So.q rfl rfl (V.mv (v := .ptr 1 0) rfl ?_)
   refine So.q rfl rfl (V.ncPtr rfl ?_)
   refine So.q rfl rfl (V.faPtr ty63 rfl ty29 (lk rfl) rfl rfl (lk rfl) ?_)
   refine So.q rfl rfl (V.ldPtr ty29 rfl rfl rfl (lk rfl) (v := .p (.v (.int .i64 _))) rfl ?_)
   refine So.q rfl rfl (V.bin (a := (.v (.int .i64 _))) (b := (.v (.int .i64 (0)))) (r := .v (.bool _)) rfl rfl rfl trivial ?_)
   refine So.e ?_
   show HT _ _ _ _ _
   refine R.cond rfl rfl (fun h2 => ?_) (fun h2 => ?_)
   ·have h2 := of_decide_eq_true h2
    refine HT.planS S_rtext_s_ok S_rtext_s_det mixed [] [⟨[0, 1, 2, 3, 4, 5, 6, 7, 8, 9, 10, 11, 12, 13, 14, 15, 16], 17, [1, 2, 14, 15]⟩, ⟨[1, 2, 14, 15, 18, 19], 20, [2, 15]⟩, ⟨[2, 15, 21, 22], 23, []⟩] (by kernel_rfl) ?_
    refine Pl.lk ?_
    refine Si.n rfl (lk rfl) (V.mv (v := .ptr 2 4) rfl ?_)
    refine Si.n rfl (lk rfl) (V.mv (v := .ptr 1 0) rfl ?_)
    refine Si.n rfl (lk rfl) (V.mv (v := .ptr 1 0) rfl ?_)
    refine Si.n rfl (lk rfl) (V.mv (v := .ptr 1 0) rfl ?_)
    refine Si.n rfl (lk rfl) (V.ncPtr rfl ?_)
    refine Si.n rfl (lk rfl) (V.faPtr ty63 rfl ty22 (lk rfl) rfl rfl (lk rfl) ?_)
    refine Si.n rfl (lk rfl) (V.ldPtr ty22 rfl rfl rfl (lk rfl) (v := .p (.bs _)) rfl ?_)
    refine Si.n rfl (lk rfl) (V.mv (v := .ptr 1 0) rfl ?_)
    refine Si.n rfl (lk rfl) (V.ncPtr rfl ?_)
    refine Si.n rfl (lk rfl) (V.faPtr ty63 rfl ty3 (lk rfl) rfl rfl (lk rfl) ?_)
    refine Si.n rfl (lk rfl) (V.ldPtr ty3 rfl rfl rfl (lk rfl) (v := .p (.v (.int .i64 _))) rfl ?_)
    refine Si.n rfl (lk rfl) (V.call [.p (.bs _), .p (.v (.int .i64 _))] 4 rfl rfl rfl rfl ⟨trivial, trivial, trivial⟩ ⟨lk rfl, lk rfl, trivial⟩ (_, _) ⟨.refl _, .refl _, trivial⟩ trivial (by trivial) (Φ := fun (b, i) => ((getTextF b i).2.2 = 0 → 0 ≤ i ∧ i < (getTextF b i).2.1 ∧ (getTextF b i).2.1 ≤ b.length) ∧ (getTextF b i).1.length ≤ 1048576) (fun (b, i) _ => ⟨getTextF_ok b i, getTextF_len b i⟩) (.inl ⟨trivial, trivial, trivial⟩) (v := .tup 3 _) rfl (fun h3 => ?_))
    try dsimp only at h3
    refine Si.n rfl (lk rfl) (V.mv (v := .tup 3 _) rfl ?_)
    refine Si.n rfl (lk rfl) (V.ext rfl (lk rfl) (v := .p (.bs _)) rfl ?_)
    refine Si.n rfl (lk rfl) (V.ext rfl (lk rfl) (v := .p (.v (.int .i64 _))) rfl ?_)
    refine Si.n rfl (lk rfl) (V.ext rfl (lk rfl) (v := .p (.v (.int .i64 _))) rfl ?_)
    refine Si.n rfl (lk rfl) (V.ncPtr rfl ?_)
    refine Si.e ?_
    refine ⟨flEq_nil, fun ff => ?_⟩
    refine Lo.s rfl (A.sto ty22 rfl rfl rfl (v := .p (.bs _)) rfl trivial rfl (lk rfl) rfl rfl ?_)
    refine ⟨_, fun ff => ff, ap0, rfl, FG.id, ?_⟩
    show planA _ _ _ _ _ [(1, .ptr 1 0), (2, .ptr 1 0), (14, .p (.v (.int .i64 _))), (15, .p (.v (.int .i64 _)))] _ _ _
    refine Pl.lk ?_
    refine Si.n rfl (lk rfl) (V.mv (v := .ptr 1 0) rfl ?_)
    refine Si.n rfl (lk rfl) (V.mv (v := .ptr 1 0) rfl ?_)
    refine Si.n rfl (lk rfl) (V.ext rfl (lk rfl) (v := .p (.v (.int .i64 _))) rfl ?_)
    refine Si.n rfl (lk rfl) (V.ext rfl (lk rfl) (v := .p (.v (.int .i64 _))) rfl ?_)
    refine Si.n rfl (lk rfl) (V.ncPtr rfl ?_)
    refine Si.n rfl (lk rfl) (V.faPtr ty63 rfl ty3 (lk rfl) rfl rfl (lk rfl) ?_)
    refine Si.e ?_
    refine ⟨(flEq_cons rfl (flEq_cons rfl (flEq_cons rfl (flEq_cons rfl flEq_nil)))), fun ff => ?_⟩
    refine Lo.s rfl (A.sto ty3 rfl rfl rfl (v := .p (.v (.int .i64 _))) rfl rfl rfl (lk rfl) rfl rfl ?_)
    refine ⟨_, fun ff => ff, ap0, rfl, FG.id, ?_⟩
    show planA _ _ _ _ _ [(2, .ptr 1 0), (15, .p (.v (.int .i64 _)))] _ _ _
    refine Pl.l0 ?_
    refine Si.n rfl (lk rfl) (V.mv (v := .ptr 1 0) rfl ?_)
    refine Si.n rfl (lk rfl) (V.ext rfl (lk rfl) (v := .p (.v (.int .i64 _))) rfl ?_)
    refine Si.n rfl (lk rfl) (V.ncPtr rfl ?_)
    refine Si.n rfl (lk rfl) (V.faPtr ty63 rfl ty29 (lk rfl) rfl rfl (lk rfl) ?_)
    refine Si.e ?_
    refine ⟨(flEq_cons rfl (flEq_cons rfl flEq_nil)), ?_⟩
    refine Lo.s rfl (A.sto ty29 rfl rfl rfl (v := .p (.v (.int .i64 _))) rfl rfl rfl (lk rfl) rfl rfl ?_)
    refine Pl.e ?_
    refine Si.e ?_
    refine ⟨flEq_nil, ?_⟩
    exact ⟨by first | rfl | omega | (simp; done) | (simp; omega), ⟨⟨⟨.refl _, rfl⟩, ⟨.refl _, rfl⟩, ⟨.refl _, trivial⟩, ⟨.refl _, trivial⟩, trivial⟩, ⟨⟨_, rfl, .inr (ob_rows (by rfl) (by first | (rw [show rdT b p e = Go.Vh.gT b p from rdT_0 (e := e) (by assumption)]; (intro j hj; match j, hj with | 0, _ => rfl | 1, _ => rfl | 2, _ => rfl)) | (rw [show rdT b p e = ([], p, e) from rdT_1 (e := e) (by assumption)]; (intro j hj; match j, hj with | 0, _ => rfl | 1, _ => rfl | 2, _ => rfl)))), trivial⟩, ⟨_, rfl, .inr (ob_rows (by rfl) (by first | (rw [show rdT b p e = Go.Vh.gT b p from rdT_0 (e := e) (by assumption)]; intro j hj; by_cases h4 : j = 4 <;> first | (simp [h4, gT]; done) | (exfalso; omega)) | (rw [show rdT b p e = ([], p, e) from rdT_1 (e := e) (by assumption)]; intro j hj; by_cases h4 : j = 4 <;> first | (simp [h4, gT]; done) | (exfalso; omega)))), trivial⟩, ⟨_, rfl, .inl rfl, ⟨rfl, trivial⟩⟩, trivial⟩⟩⟩
   ·have h2 := of_decide_eq_false h2
    refine HT.skip ?_
    exact ⟨by first | rfl | omega | (simp; done) | (simp; omega), ⟨⟨⟨.refl _, rfl⟩, ⟨.refl _, rfl⟩, ⟨.refl _, trivial⟩, ⟨.refl _, trivial⟩, trivial⟩, ⟨⟨_, rfl, .inr (ob_rows (by rfl) (by first | (rw [show rdT b p e = Go.Vh.gT b p from rdT_0 (e := e) (by assumption)]; (intro j hj; match j, hj with | 0, _ => rfl | 1, _ => rfl | 2, _ => rfl)) | (rw [show rdT b p e = ([], p, e) from rdT_1 (e := e) (by assumption)]; (intro j hj; match j, hj with | 0, _ => rfl | 1, _ => rfl | 2, _ => rfl)))), trivial⟩, ⟨_, rfl, .inr (ob_rows (by rfl) (by first | (rw [show rdT b p e = Go.Vh.gT b p from rdT_0 (e := e) (by assumption)]; intro j hj; by_cases h4 : j = 4 <;> first | (simp [h4, gT]; done) | (exfalso; omega)) | (rw [show rdT b p e = ([], p, e) from rdT_1 (e := e) (by assumption)]; intro j hj; by_cases h4 : j = 4 <;> first | (simp [h4, gT]; done) | (exfalso; omega)))), trivial⟩, ⟨_, rfl, .inl rfl, ⟨rfl, trivial⟩⟩, trivial⟩⟩⟩
  ·refine HT.region S_rtext_s_ok ?_
   refine So.q rfl rfl (V.addI rfl rfl (by omega) ?_)
   refine So.q rfl rfl (V.mv (v := .p (.v (.int .i64 _))) rfl ?_)
   refine So.e ?_
   show HT _ _ _ _ _
   refine HT.seq ?_
   refine HT.region S_rtext_s_ok ?_
   refine So.q rfl rfl (V.bin (a := (.v (.int .i64 _))) (b := (.v (.int .i64 _))) (r := .v (.bool _)) rfl rfl rfl trivial ?_)
   refine So.e ?_
   show HT _ _ _ _ _
   refine HT.seq ?_
   refine R.cond rfl rfl (fun h4 => ?_) (fun h4 => ?_)
   ·have h4 := of_decide_eq_true h4
    exfalso; omega
   ·have h4 := of_decide_eq_false h4
    refine HT.exit ?_
    exact ret_ok (sg [(1, 1), (2, 2)]) h rfl rfl rfl ⟨trivial, trivial, trivial⟩ trivial rfl ⟨trivial, ⟨⟨_, rfl, .inr (ob_rows (by first | rfl | ((try dsimp only); (first | with_reducible rfl | (intro j hj; rfl)))) (by first | rfl | ((try dsimp only); (first | with_reducible rfl | (intro j hj; rfl))))), trivial⟩, ⟨_, rfl, .inr (ob_rows (by first | rfl | ((try dsimp only); (first | with_reducible rfl | (intro j hj; rfl)))) (by first | rfl | ((try dsimp only); (first | with_reducible rfl | (intro j hj; rfl))))), trivial⟩, trivial⟩⟩
 ·have h1 := of_decide_eq_false h1
  exfalso; omega
def rtext_bSp : Sp := ⟨[1, 2], mkE (α := (List UInt8) × Int × Int × (Nat → PV)) (fun (b, p, e, f) => [.ptr 1 (0), .own 3 (0) (1)]) (fun (b, p, e, f) => [(1, ⟨63, 1, 3, true, .rows (fun j => ([.bs b, .v (.int .i64 p), .v (.int .i64 e)] : List PV).getD j (.v undef))⟩), (2, ⟨26, 1, 8, true, .rows (fun j => if j = 4 then .bs ([]) else f j)⟩), (3, ⟨67, 1, 1, true, .cells [.ptr 2 (4)]⟩)]) (fun (b, p, e, f) => True) (fun (b, p, e, f) => []) (fun (b, p, e, f) => [(1, ⟨63, 1, 3, true, .rows (fun j => ([.bs b, .v (.int .i64 (rdT b p e).2.1), .v (.int .i64 (rdT b p e).2.2)] : List PV).getD j (.v undef))⟩), (2, ⟨26, 1, 8, true, .rows (fun j => if j = 4 then .bs ((rdT b p e).1) else f j)⟩)])⟩
def S_rtext_b : FuncId → Option Sp := fun f => if f = 49 then some getTextSp else none
theorem S_rtext_b_ok : ∀ f s, S_rtext_b f = some s → FOK Tryd.prog gl f s := fun f s h => by
 unfold S_rtext_b at h
 split at h
 ·rename_i e; cases h; subst e; exact getText_ok
 cases h
theorem S_rtext_b_det : ∀ f s, S_rtext_b f = some s → SpDet s.sp := fun f s h => by
 unfold S_rtext_b at h
 split at h
 ·cases h; exact mkE_det _ _ _ _ _
 cases h
set_option maxHeartbeats 1000000 in
set_option maxRecDepth 1000 in
theorem rtext_b_ok : FOK Tryd.prog gl 34 rtext_bSp := by
 refine FOK.ofE (tyOf_ok Tryd.prog) (slots := []) (nt := 39) Tryd.func34 rfl rfl rfl rfl (by decide) 2 (fun ⟨_, _, _, _⟩ => rfl) (by decide) (fun ⟨_, _, _, _⟩ => ⟨rfl, rfl, trivial⟩) ?_
 rintro ⟨b, p, e, f⟩ kk hlen hpre h
 have hl1 : _ ≤ 9223372036854775807 := hlen.2.1
 replace hpre : True := hpre
 show HT (cx Tryd.prog 39 (tyOf Tryd.prog) gl [1, 2]) _ [(0, .ptr 1 (0)), (1, .own 3 (0) (1))] [(1, ⟨63, 1, 3, true, .rows (fun j => ([.bs b, .v (.int .i64 p), .v (.int .i64 e)] : List PV).getD j (.v undef))⟩), (2, ⟨26, 1, 8, true, .rows (fun j => if j = 4 then .bs ([]) else f j)⟩), (3, ⟨67, 1, 1, true, .cells [.ptr 2 (4)]⟩)] _
 refine HT.seq ?_
 refine HT.region S_rtext_b_ok ?_
 refine So.q rfl rfl (V.mv (v := .own 3 0 _) rfl ?_)
 refine So.q rfl rfl (V.len ty83 (v := .own 3 0 _) rfl rfl ?_)
 refine So.q rfl rfl (V.mv (v := .p (.v (.int .i64 (0)))) rfl ?_)
 refine So.e ?_
 show HT _ _ _ _ _
 refine HT.block ?_
 refine HT.rounds 2 ?_
 show HT _ _ _ _ _
 refine HT.seq ?_
 refine HT.region S_rtext_b_ok ?_
 refine So.q rfl rfl (V.bin (a := (.v (.int .i64 _))) (b := (.v (.int .i64 _))) (r := .v (.bool _)) rfl rfl rfl trivial ?_)
 refine So.e ?_
 show HT _ _ _ _ _
 refine HT.seq ?_
 refine R.cond rfl rfl (fun h1 => ?_) (fun h1 => ?_)
 ·have h1 := of_decide_eq_true h1
  refine HT.skip ?_
  show HT _ _ _ _ _
  refine R.cut (True) [] [(1, ⟨63, 1, 3, true, .rows (fun j => ([.bs b, .v (.int .i64 (rdT b p e).2.1), .v (.int .i64 (rdT b p e).2.2)] : List PV).getD j (.v undef))⟩), (2, ⟨26, 1, 8, true, .rows (fun j => if j = 4 then .bs ((rdT b p e).1) else f j)⟩)] [0, 6, 7, 8] [3] (fr0 := [(0, .ptr 1 0), (6, .own 3 0 _), (7, .p (.v (.int .i64 _))), (8, .p (.v (.int .i64 _)))]) (O0 := [(3, ⟨_, _, _, _, .cells _⟩)]) rfl rfl ?_ (fun hphi => ?_)
  ·refine HT.block ?_
   refine HT.seq ?_
   refine HT.region S_rtext_b_ok ?_
   refine So.q rfl rfl (V.ixOwn10 ty83 ty67 rfl rfl rfl rfl rfl (by omega) rfl ?_)
   refine So.q rfl rfl (V.ldPtr ty67 rfl rfl rfl (lk rfl) (v := .ptr 2 4) rfl ?_)
   refine So.q rfl rfl (V.as (v := .ptr 2 4) rfl ?_)
   refine So.e ?_
   show HT _ _ _ _ _
   refine HT.seq ?_
   refine HT.region S_rtext_b_ok ?_
   refine So.q rfl rfl (V.mv (v := .ptr 1 0) rfl ?_)
   refine So.q rfl rfl (V.ncPtr rfl ?_)
   refine So.q rfl rfl (V.faPtr ty63 rfl ty29 (lk rfl) rfl rfl (lk rfl) ?_)
   refine So.q rfl rfl (V.ldPtr ty29 rfl rfl rfl (lk rfl) (v := .p (.v (.int .i64 _))) rfl ?_)
   refine So.q rfl rfl (V.bin (a := (.v (.int .i64 _))) (b := (.v (.int .i64 (0)))) (r := .v (.bool _)) rfl rfl rfl trivial ?_)
   refine So.e ?_
   show HT _ _ _ _ _
   refine R.cond rfl rfl (fun h2 => ?_) (fun h2 => ?_)
   ·have h2 := of_decide_eq_true h2
    refine HT.planS S_rtext_b_ok S_rtext_b_det mixed [] [⟨[0, 1, 2, 3, 4, 5, 6, 7, 8, 9, 10, 11, 12, 13, 14, 15, 16], 17, [1, 2, 14, 15]⟩, ⟨[1, 2, 14, 15, 18, 19], 20, [2, 15]⟩, ⟨[2, 15, 21, 22], 23, []⟩] (by kernel_rfl) ?_
    refine Pl.lk ?_
    refine Si.n rfl (lk rfl) (V.mv (v := .ptr 2 4) rfl ?_)
    refine Si.n rfl (lk rfl) (V.mv (v := .ptr 1 0) rfl ?_)
    refine Si.n rfl (lk rfl) (V.mv (v := .ptr 1 0) rfl ?_)
    refine Si.n rfl (lk rfl) (V.mv (v := .ptr 1 0) rfl ?_)
    refine Si.n rfl (lk rfl) (V.ncPtr rfl ?_)
    refine Si.n rfl (lk rfl) (V.faPtr ty63 rfl ty22 (lk rfl) rfl rfl (lk rfl) ?_)
    refine Si.n rfl (lk rfl) (V.ldPtr ty22 rfl rfl rfl (lk rfl) (v := .p (.bs _)) rfl ?_)
    refine Si.n rfl (lk rfl) (V.mv (v := .ptr 1 0) rfl ?_)
    refine Si.n rfl (lk rfl) (V.ncPtr rfl ?_)
    refine Si.n rfl (lk rfl) (V.faPtr ty63 rfl ty3 (lk rfl) rfl rfl (lk rfl) ?_)
    refine Si.n rfl (lk rfl) (V.ldPtr ty3 rfl rfl rfl (lk rfl) (v := .p (.v (.int .i64 _))) rfl ?_)
    refine Si.n rfl (lk rfl) (V.call [.p (.bs _), .p (.v (.int .i64 _))] 4 rfl rfl rfl rfl ⟨trivial, trivial, trivial⟩ ⟨lk rfl, lk rfl, trivial⟩ (_, _) ⟨.refl _, .refl _, trivial⟩ trivial (by trivial) (Φ := fun (b, i) => ((getTextF b i).2.2 = 0 → 0 ≤ i ∧ i < (getTextF b i).2.1 ∧ (getTextF b i).2.1 ≤ b.length) ∧ (getTextF b i).1.length ≤ 1048576) (fun (b, i) _ => ⟨getTextF_ok b i, getTextF_len b i⟩) (.inl ⟨trivial, trivial, trivial⟩) (v := .tup 3 _) rfl (fun h3 => ?_))
    try dsimp only at h3
    refine Si.n rfl (lk rfl) (V.mv (v := .tup 3 _) rfl ?_)
    refine Si.n rfl (lk rfl) (V.ext rfl (lk rfl) (v := .p (.bs _)) rfl ?_)
    refine Si.n rfl (lk rfl) (V.ext rfl (lk rfl) (v := .p (.v (.int .i64 _))) rfl ?_)
    refine Si.n rfl (lk rfl) (V.ext rfl (lk rfl) (v := .p (.v (.int .i64 _))) rfl ?_)
    refine Si.n rfl (lk rfl) (V.ncPtr rfl ?_)
    refine Si.e ?_
    refine ⟨flEq_nil, fun ff => ?_⟩
    refine Lo.s rfl (A.sto ty22 rfl rfl rfl (v := .p (.bs _)) rfl trivial rfl (lk rfl) rfl rfl ?_)
    refine ⟨_, fun ff => ff, ap0, rfl, FG.id, ?_⟩
    show planA _ _ _ _ _ [(1, .ptr 1 0), (2, .ptr 1 0), (14, .p (.v (.int .i64 _))), (15, .p (.v (.int .i64 _)))] _ _ _
    refine Pl.lk ?_
    refine Si.n rfl (lk rfl) (V.mv (v := .ptr 1 0) rfl ?_)
    refine Si.n rfl (lk rfl) (V.mv (v := .ptr 1 0) rfl ?_)
    refine Si.n rfl (lk rfl) (V.ext rfl (lk rfl) (v := .p (.v (.int .i64 _))) rfl ?_)
    refine Si.n rfl (lk rfl) (V.ext rfl (lk rfl) (v := .p (.v (.int .i64 _))) rfl ?_)
    refine Si.n rfl (lk rfl) (V.ncPtr rfl ?_)
    refine Si.n rfl (lk rfl) (V.faPtr ty63 rfl ty3 (lk rfl) rfl rfl (lk rfl) ?_)
    refine Si.e ?_
    refine ⟨(flEq_cons rfl (flEq_cons rfl (flEq_cons rfl (flEq_cons rfl flEq_nil)))), fun ff => ?_⟩
    refine Lo.s rfl (A.sto ty3 rfl rfl rfl (v := .p (.v (.int .i64 _))) rfl rfl rfl (lk rfl) rfl rfl ?_)
    refine ⟨_, fun ff => ff, ap0, rfl, FG.id, ?_⟩
    show planA _ _ _ _ _ [(2, .ptr 1 0), (15, .p (.v (.int .i64 _)))] _ _ _
    refine Pl.l0 ?_
    refine Si.n rfl (lk rfl) (V.mv (v := .ptr 1 0) rfl ?_)
    refine Si.n rfl (lk rfl) (V.ext rfl (lk rfl) (v := .p (.v (.int .i64 _))) rfl ?_)
    refine Si.n rfl (lk rfl) (V.ncPtr rfl ?_)
    refine Si.n rfl (lk rfl) (V.faPtr ty63 rfl ty29 (lk rfl) rfl rfl (lk rfl) ?_)
    refine Si.e ?_
    refine ⟨(flEq_cons rfl (flEq_cons rfl flEq_nil)), ?_⟩
    refine Lo.s rfl (A.sto ty29 rfl rfl rfl (v := .p (.v (.int .i64 _))) rfl rfl rfl (lk rfl) rfl rfl ?_)
    refine Pl.e ?_
    refine Si.e ?_
    refine ⟨flEq_nil, ?_⟩
    exact ⟨by first | rfl | omega | (simp; done) | (simp; omega), ⟨⟨⟨.refl _, rfl⟩, ⟨.refl _, rfl⟩, ⟨.refl _, trivial⟩, ⟨.refl _, trivial⟩, trivial⟩, ⟨⟨_, rfl, .inr (ob_rows (by rfl) (by first | (rw [show rdT b p e = Go.Vh.gT b p from rdT_0 (e := e) (by assumption)]; (intro j hj; match j, hj with | 0, _ => rfl | 1, _ => rfl | 2, _ => rfl)) | (rw [show rdT b p e = ([], p, e) from rdT_1 (e := e) (by assumption)]; (intro j hj; match j, hj with | 0, _ => rfl | 1, _ => rfl | 2, _ => rfl)))), trivial⟩, ⟨_, rfl, .inr (ob_rows (by rfl) (by first | (rw [show rdT b p e = Go.Vh.gT b p from rdT_0 (e := e) (by assumption)]; intro j hj; by_cases h4 : j = 4 <;> first | (simp [h4, gT]; done) | (exfalso; omega)) | (rw [show rdT b p e = ([], p, e) from rdT_1 (e := e) (by assumption)]; intro j hj; by_cases h4 : j = 4 <;> first | (simp [h4, gT]; done) | (exfalso; omega)))), trivial⟩, ⟨_, rfl, .inl rfl, ⟨rfl, trivial⟩⟩, trivial⟩⟩⟩
   ·have h2 := of_decide_eq_false h2
    refine HT.skip ?_
    exact ⟨by first | rfl | omega | (simp; done) | (simp; omega), ⟨⟨⟨.refl _, rfl⟩, ⟨.refl _, rfl⟩, ⟨.refl _, trivial⟩, ⟨.refl _, trivial⟩, trivial⟩, ⟨⟨_, rfl, .inr (ob_rows (by rfl) (by first | (rw [show rdT b p e = Go.Vh.gT b p from rdT_0 (e := e) (by assumption)]; (intro j hj; match j, hj with | 0, _ => rfl | 1, _ => rfl | 2, _ => rfl)) | (rw [show rdT b p e = ([], p, e) from rdT_1 (e := e) (by assumption)]; (intro j hj; match j, hj with | 0, _ => rfl | 1, _ => rfl | 2, _ => rfl)))), trivial⟩, ⟨_, rfl, .inr (ob_rows (by rfl) (by first | (rw [show rdT b p e = Go.Vh.gT b p from rdT_0 (e := e) (by assumption)]; intro j hj; by_cases h4 : j = 4 <;> first | (simp [h4, gT]; done) | (exfalso; omega)) | (rw [show rdT b p e = ([], p, e) from rdT_1 (e := e) (by assumption)]; intro j hj; by_cases h4 : j = 4 <;> first | (simp [h4, gT]; done) | (exfalso; omega)))), trivial⟩, ⟨_, rfl, .inl rfl, ⟨rfl, trivial⟩⟩, trivial⟩⟩⟩
  ·refine HT.region S_rtext_b_ok ?_
   refine So.q rfl rfl (V.addI rfl rfl (by omega) ?_)
   refine So.q rfl rfl (V.mv (v := .p (.v (.int .i64 _))) rfl ?_)
   refine So.e ?_
   show HT _ _ _ _ _
   refine HT.seq ?_
   refine HT.region S_rtext_b_ok ?_
   refine So.q rfl rfl (V.bin (a := (.v (.int .i64 _))) (b := (.v (.int .i64 _))) (r := .v (.bool _)) rfl rfl rfl trivial ?_)
   refine So.e ?_
   show HT _ _ _ _ _
   refine HT.seq ?_
   refine R.cond rfl rfl (fun h4 => ?_) (fun h4 => ?_)
   ·have h4 := of_decide_eq_true h4
    exfalso; omega
   ·have h4 := of_decide_eq_false h4
    refine HT.exit ?_
    exact ret_ok (sg [(1, 1), (2, 2)]) h rfl rfl rfl ⟨trivial, trivial, trivial⟩ trivial rfl ⟨trivial, ⟨⟨_, rfl, .inr (ob_rows (by first | rfl | ((try dsimp only); (first | with_reducible rfl | (intro j hj; rfl)))) (by first | rfl | ((try dsimp only); (first | with_reducible rfl | (intro j hj; rfl))))), trivial⟩, ⟨_, rfl, .inr (ob_rows (by first | rfl | ((try dsimp only); (first | with_reducible rfl | (intro j hj; rfl)))) (by first | rfl | ((try dsimp only); (first | with_reducible rfl | (intro j hj; rfl))))), trivial⟩, trivial⟩⟩
 ·have h1 := of_decide_eq_false h1
  exfalso; omega
end Go.Vh

set_option linter.unusedVariables false
set_option linter.unusedSimpArgs false
namespace Go.Vh
open Go Go.Vc Go.Proofs Go.Vw
def frnumSp : Sp := ⟨[1], mkE (α := (List UInt8) × Int × Int × Int) (fun (b, p, e, k) => [.ptr 1 (0), .p (.v (.int .i64 (k)))]) (fun (b, p, e, k) => [(1, ⟨63, 1, 3, true, .rows (fun j => ([.bs b, .v (.int .i64 p), .v (.int .i64 e)] : List PV).getD j (.v undef))⟩)]) (fun (b, p, e, k) => True) (fun (b, p, e, k) => [.p (.v (.int .i64 ((rdN b p e k).1)))]) (fun (b, p, e, k) => [(1, ⟨63, 1, 3, true, .rows (fun j => ([.bs b, .v (.int .i64 (rdN b p e k).2.1), .v (.int .i64 (rdN b p e k).2.2)] : List PV).getD j (.v undef))⟩)])⟩
def S_frnum : FuncId → Option Sp := fun f => if f = 48 then some getSp else none
theorem S_frnum_ok : ∀ f s, S_frnum f = some s → FOK Tryd.prog gl f s := fun f s h => by
 unfold S_frnum at h
 split at h
 ·rename_i e; cases h; subst e; exact get_ok
 cases h
theorem S_frnum_det : ∀ f s, S_frnum f = some s → SpDet s.sp := fun f s h => by
 unfold S_frnum at h
 split at h
 ·cases h; exact mkE_det _ _ _ _ _
 cases h
set_option maxHeartbeats 1000000 in
set_option maxRecDepth 1000 in
theorem frnum_ok : FOK Tryd.prog gl 33 frnumSp := by
 refine FOK.ofE (tyOf_ok Tryd.prog) (slots := [4]) (nt := 32) Tryd.func33 rfl rfl rfl rfl (by decide) 2 (fun ⟨_, _, _, _⟩ => rfl) (by decide) (fun ⟨_, _, _, _⟩ => ⟨rfl, trivial, trivial⟩) ?_
 rintro ⟨b, p, e, k⟩ kk hlen hpre h
 replace hpre : True := hpre
 show HT (cx Tryd.prog 32 (tyOf Tryd.prog) gl [1]) _ [(0, .ptr 1 (0)), (1, .p (.v (.int .i64 (k))))] [(1, ⟨63, 1, 3, true, .rows (fun j => ([.bs b, .v (.int .i64 p), .v (.int .i64 e)] : List PV).getD j (.v undef))⟩)] _
 refine HT.seq ?_
 refine HT.region S_frnum_ok ?_
 refine So.q rfl rfl (V.as (v := .p (.v (.int .i64 (0)))) rfl ?_)
 refine So.e ?_
 show HT _ _ _ _ _
 refine HT.seq ?_
 refine HT.region S_frnum_ok ?_
 refine So.q rfl rfl (V.as (v := .p (.v (.int .i64 (0)))) rfl ?_)
 refine So.e ?_
 show HT _ _ _ _ _
 refine HT.seq ?_
 refine HT.seq ?_
 refine HT.region S_frnum_ok ?_
 refine So.q rfl rfl (V.mv (v := .ptr 1 0) rfl ?_)
 refine So.q rfl rfl (V.ncPtr rfl ?_)
 refine So.q rfl rfl (V.faPtr ty63 rfl ty29 (lk rfl) rfl rfl (lk rfl) ?_)
 refine So.q rfl rfl (V.ldPtr ty29 rfl rfl rfl (lk rfl) (v := .p (.v (.int .i64 _))) rfl ?_)
 refine So.q rfl rfl (V.bin (a := (.v (.int .i64 _))) (b := (.v (.int .i64 (0)))) (r := .v (.bool _)) rfl rfl rfl trivial ?_)
 refine So.e ?_
 show HT _ _ _ _ _
 refine R.cond rfl rfl (fun h1 => ?_) (fun h1 => ?_)
 ·have h1 := of_decide_eq_true h1
  refine HT.planS S_frnum_ok S_frnum_det mixed [] [⟨[0, 1, 2, 3, 4, 5, 6, 7, 8, 9, 10, 11, 12, 13, 14, 15, 16, 17, 18], 19, [1, 15]⟩, ⟨[1, 15, 20, 21], 22, []⟩] (by kernel_rfl) ?_
  refine Pl.lk ?_
  refine Si.n rfl (lk rfl) (V.mv (v := .ptr 1 0) rfl ?_)
  refine Si.n rfl (lk rfl) (V.mv (v := .ptr 1 0) rfl ?_)
  refine Si.n rfl (lk rfl) (V.mv (v := .ptr 1 0) rfl ?_)
  refine Si.n rfl (lk rfl) (V.ncPtr rfl ?_)
  refine Si.n rfl (lk rfl) (V.faPtr ty63 rfl ty22 (lk rfl) rfl rfl (lk rfl) ?_)
  refine Si.n rfl (lk rfl) (V.ldPtr ty22 rfl rfl rfl (lk rfl) (v := .p (.bs _)) rfl ?_)
  refine Si.n rfl (lk rfl) (V.mv (v := .ptr 1 0) rfl ?_)
  refine Si.n rfl (lk rfl) (V.ncPtr rfl ?_)
  refine Si.n rfl (lk rfl) (V.faPtr ty63 rfl ty3 (lk rfl) rfl rfl (lk rfl) ?_)
  refine Si.n rfl (lk rfl) (V.ldPtr ty3 rfl rfl rfl (lk rfl) (v := .p (.v (.int .i64 _))) rfl ?_)
  refine Si.n rfl (lk rfl) (V.mv (v := .p (.v (.int .i64 _))) rfl ?_)
  refine Si.n rfl (lk rfl) (V.call [.p (.bs _), .p (.v (.int .i64 _)), .p (.v (.int .i64 _))] 2 rfl rfl rfl rfl ⟨trivial, trivial, trivial, trivial⟩ ⟨lk rfl, trivial⟩ (_, _, _) ⟨.refl _, .refl _, .refl _, trivial⟩ trivial (by trivial) (Φ := fun (b, i, n) => 0 ≤ (getF b i n).2.1 ∧ (getF b i n).2.1 ≤ b.length) (fun (b, i, n) _ => ⟨(getF_from b i n).1, (getF_from b i n).2.1⟩) (.inl ⟨trivial, trivial, trivial, trivial⟩) (v := .tup 3 _) rfl (fun h2 => ?_))
  try dsimp only at h2
  refine Si.n rfl (lk rfl) (V.mv (v := .tup 3 _) rfl ?_)
  refine Si.n rfl (lk rfl) (V.ext rfl (lk rfl) (v := .p (.v (.int .i64 _))) rfl ?_)
  refine Si.n rfl (lk rfl) (V.ext rfl (lk rfl) (v := .p (.v (.int .i64 _))) rfl ?_)
  refine Si.n rfl (lk rfl) (V.ext rfl (lk rfl) (v := .p (.v (.int .i64 _))) rfl ?_)
  refine Si.n rfl (lk rfl) (V.as (v := .p (.v (.int .i64 _))) rfl ?_)
  refine Si.n rfl (lk rfl) (V.ncPtr rfl ?_)
  refine Si.n rfl (lk rfl) (V.faPtr ty63 rfl ty3 (lk rfl) rfl rfl (lk rfl) ?_)
  refine Si.e ?_
  refine ⟨flEq_nil, fun ff => ?_⟩
  refine Lo.s rfl (A.sto ty3 rfl rfl rfl (v := .p (.v (.int .i64 _))) rfl rfl rfl (lk rfl) rfl rfl ?_)
  refine ⟨_, fun ff => ff, ap0, rfl, FG.id, ?_⟩
  show planA _ _ _ _ _ [(1, .ptr 1 0), (15, .p (.v (.int .i64 _)))] _ _ _
  refine Pl.l0 ?_
  refine Si.n rfl (lk rfl) (V.mv (v := .ptr 1 0) rfl ?_)
  refine Si.n rfl (lk rfl) (V.ext rfl (lk rfl) (v := .p (.v (.int .i64 _))) rfl ?_)
  refine Si.n rfl (lk rfl) (V.ncPtr rfl ?_)
  refine Si.n rfl (lk rfl) (V.faPtr ty63 rfl ty29 (lk rfl) rfl rfl (lk rfl) ?_)
  refine Si.e ?_
  refine ⟨(flEq_cons rfl (flEq_cons rfl flEq_nil)), ?_⟩
  refine Lo.s rfl (A.sto ty29 rfl rfl rfl (v := .p (.v (.int .i64 _))) rfl rfl rfl (lk rfl) rfl rfl ?_)
  refine Pl.e ?_
  refine Si.e ?_
  refine ⟨flEq_nil, ?_⟩
  show HT _ _ _ _ _
  refine HT.seq ?_
  refine HT.region S_frnum_ok ?_
  refine So.q rfl rfl (V.mv (v := .p (.v (.int .i64 _))) rfl ?_)
  refine So.q rfl rfl (V.as (v := .p (.v (.int .i64 _))) rfl ?_)
  refine So.e ?_
  show HT _ _ _ _ _
  refine HT.ret ?_
  exact ret_ok (sg [(1, 1)]) h rfl rfl rfl ⟨trivial, trivial⟩ ⟨trivial, trivial⟩ rfl ⟨⟨⟨le_int (by first | with_reducible rfl | (rw [rdN_0 (by assumption)]; done) | (rw [rdN_1 (by assumption)]; done) | (rw [rdN_0 (by assumption)]; (intro j hj; match j, hj with | 0, _ => rfl | 1, _ => rfl | 2, _ => rfl)) | (rw [rdN_1 (by assumption)]; (intro j hj; match j, hj with | 0, _ => rfl | 1, _ => rfl | 2, _ => rfl)) | (rw [rdN_0 (by assumption), take_full])), trivial⟩, trivial⟩, ⟨⟨_, rfl, .inr (ob_rows (by first | rfl | ((try dsimp only); (first | with_reducible rfl | (rw [rdN_0 (by assumption)]; done) | (rw [rdN_1 (by assumption)]; done) | (rw [rdN_0 (by assumption)]; (intro j hj; match j, hj with | 0, _ => rfl | 1, _ => rfl | 2, _ => rfl)) | (rw [rdN_1 (by assumption)]; (intro j hj; match j, hj with | 0, _ => rfl | 1, _ => rfl | 2, _ => rfl)) | (rw [rdN_0 (by assumption), take_full])))) (by first | rfl | ((try dsimp only); (first | with_reducible rfl | (rw [rdN_0 (by assumption)]; done) | (rw [rdN_1 (by assumption)]; done) | (rw [rdN_0 (by assumption)]; (intro j hj; match j, hj with | 0, _ => rfl | 1, _ => rfl | 2, _ => rfl)) | (rw [rdN_1 (by assumption)]; (intro j hj; match j, hj with | 0, _ => rfl | 1, _ => rfl | 2, _ => rfl)) | (rw [rdN_0 (by assumption), take_full]))))), trivial⟩, trivial⟩⟩
 ·have h1 := of_decide_eq_false h1
  refine HT.skip ?_
  show HT _ _ _ _ _
  refine HT.seq ?_
  refine HT.region S_frnum_ok ?_
  refine So.q rfl rfl (V.mv (v := .p (.v (.int .i64 _))) rfl ?_)
  refine So.q rfl rfl (V.as (v := .p (.v (.int .i64 _))) rfl ?_)
  refine So.e ?_
  show HT _ _ _ _ _
  refine HT.ret ?_
  exact ret_ok (sg [(1, 1)]) h rfl rfl rfl ⟨trivial, trivial⟩ ⟨trivial, trivial⟩ rfl ⟨⟨⟨le_int (by first | with_reducible rfl | (rw [rdN_0 (by assumption)]; done) | (rw [rdN_1 (by assumption)]; done) | (rw [rdN_0 (by assumption)]; (intro j hj; match j, hj with | 0, _ => rfl | 1, _ => rfl | 2, _ => rfl)) | (rw [rdN_1 (by assumption)]; (intro j hj; match j, hj with | 0, _ => rfl | 1, _ => rfl | 2, _ => rfl)) | (rw [rdN_0 (by assumption), take_full])), trivial⟩, trivial⟩, ⟨⟨_, rfl, .inr (ob_rows (by first | rfl | ((try dsimp only); (first | with_reducible rfl | (rw [rdN_0 (by assumption)]; done) | (rw [rdN_1 (by assumption)]; done) | (rw [rdN_0 (by assumption)]; (intro j hj; match j, hj with | 0, _ => rfl | 1, _ => rfl | 2, _ => rfl)) | (rw [rdN_1 (by assumption)]; (intro j hj; match j, hj with | 0, _ => rfl | 1, _ => rfl | 2, _ => rfl)) | (rw [rdN_0 (by assumption), take_full])))) (by first | rfl | ((try dsimp only); (first | with_reducible rfl | (rw [rdN_0 (by assumption)]; done) | (rw [rdN_1 (by assumption)]; done) | (rw [rdN_0 (by assumption)]; (intro j hj; match j, hj with | 0, _ => rfl | 1, _ => rfl | 2, _ => rfl)) | (rw [rdN_1 (by assumption)]; (intro j hj; match j, hj with | 0, _ => rfl | 1, _ => rfl | 2, _ => rfl)) | (rw [rdN_0 (by assumption), take_full]))))), trivial⟩, trivial⟩⟩
end Go.Vh

set_option linter.unusedVariables false
set_option linter.unusedSimpArgs false
namespace Go.Vh
open Go Go.Vc Go.Proofs Go.Vw
def rplaceSp : Sp := ⟨[1], mkE (α := (List UInt8) × Int × Int) (fun (b, p, e) => [.ptr 1 (0)]) (fun (b, p, e) => [(1, ⟨63, 1, 3, true, .rows (fun j => ([.bs b, .v (.int .i64 p), .v (.int .i64 e)] : List PV).getD j (.v undef))⟩)]) (fun (b, p, e) => True) (fun (b, p, e) => [.agg 3 (fun j => ([.bs (pl1 b p e).1, .v (.int .i64 ((pl2 b p e).1)), .v (.int .i64 ((pl3 b p e).1))] : List PV).getD j (.v undef))]) (fun (b, p, e) => [(1, ⟨63, 1, 3, true, .rows (fun j => ([.bs b, .v (.int .i64 (pl3 b p e).2.1), .v (.int .i64 (pl3 b p e).2.2)] : List PV).getD j (.v undef))⟩)])⟩
def S_rplace : FuncId → Option Sp := fun f => if f = 34 then some rtext_pSp else if f = 33 then some frnumSp else none
theorem S_rplace_ok : ∀ f s, S_rplace f = some s → FOK Tryd.prog gl f s := fun f s h => by
 unfold S_rplace at h
 split at h
 ·rename_i e; cases h; subst e; exact rtext_p_ok
 split at h
 ·rename_i e; cases h; subst e; exact frnum_ok
 cases h
set_option maxHeartbeats 1000000 in
set_option maxRecDepth 1000 in
theorem rplace_ok : FOK Tryd.prog gl 32 rplaceSp := by
 refine FOK.ofEC (tyOf_ok Tryd.prog) (rvs := [.cell 2 57]) (nt := 15) Tryd.func32 rfl rfl rfl rfl (by decide) 1 (fun ⟨_, _, _⟩ => rfl) (by decide) (fun ⟨_, _, _⟩ => ⟨rfl, trivial⟩) ?_
 rintro ⟨b, p, e⟩ kk hlen hpre h
 replace hpre : True := hpre
 show HT (cx Tryd.prog 15 (tyOf Tryd.prog) gl [1]) _ [(0, .ptr 1 (0))] [(1, ⟨63, 1, 3, true, .rows (fun j => ([.bs b, .v (.int .i64 p), .v (.int .i64 e)] : List PV).getD j (.v undef))⟩)] _
 refine HT.seq ?_
 refine HT.region S_rplace_ok ?_
 refine So.n (lk rfl) (A.alloc 2 1 ty57 rfl ⟨lk rfl, trivial⟩ (f := fun j => ([.v (.slice none 0 0), .v (.int .i64 0), .v (.int .i64 0)] : List PV).getD j (.v undef)) (fun j hj => by match j, hj with | 0, _ => rfl | 1, _ => rfl | 2, _ => rfl) ?_)
 refine So.e ?_
 show HT _ _ _ _ _
 refine HT.seq ?_
 refine HT.region S_rplace_ok ?_
 refine So.n (lk rfl) (A.alloc 3 1 ty57 rfl ⟨lk rfl, trivial⟩ (f := fun j => ([.v (.slice none 0 0), .v (.int .i64 0), .v (.int .i64 0)] : List PV).getD j (.v undef)) (fun j hj => by match j, hj with | 0, _ => rfl | 1, _ => rfl | 2, _ => rfl) ?_)
 refine So.e ?_
 show HT _ _ _ _ _
 refine HT.seq ?_
 refine R.tell [] [(3, ⟨57, 1, 3, true, .rows (fun j => if j = 0 then .bs [] else .v (.int .i64 0))⟩)] [0, 2, 3] [1, 2] (fr0 := [(0, .ptr 1 0), (2, .ptr 2 0), (3, .ptr 3 0)]) (O0 := [(1, ⟨_, _, _, _, .rows _⟩), (2, ⟨_, _, _, _, .rows _⟩)]) rfl rfl ⟨⟨⟨.refl _, rfl⟩, ⟨.refl _, rfl⟩, ⟨.refl _, rfl⟩, trivial⟩, ⟨⟨_, rfl, .inr (ob_rowsL (by intro j hj; match j, hj with | 0, _ => exact le_nil rfl | 1, _ => exact .refl _ | 2, _ => exact .refl _)), trivial⟩, ⟨_, rfl, .inl rfl, trivial⟩, ⟨_, rfl, .inl rfl, trivial⟩, trivial⟩⟩ ?_
 show HT _ _ _ _ _
 refine HT.region S_rplace_ok ?_
 refine So.q rfl rfl (V.mv (v := .ptr 1 0) rfl ?_)
 refine So.q rfl rfl (V.faPtr ty57 rfl ty22 (lk rfl) rfl rfl (lk rfl) ?_)
 refine So.n (lk rfl) (A.bsl 4 ty83 ty67 rfl (lk rfl) (lk rfl) (fun _ => rfl) rfl rfl ⟨lk rfl, trivial⟩ ⟨trivial, trivial⟩ rfl (N := 1) rfl (c := .cells [.ptr 3 0]) rfl ?_)
 refine So.n (lk rfl) (A.call [.ptr 1 _, .own 3 _ _] [(1, ⟨_, _, _, _, .rows _⟩), (2, ⟨_, _, _, _, .rows _⟩), (3, ⟨_, _, _, _, .cells [.ptr 2 0]⟩)] (sg [(1, 1), (3, 4), (2, 3)]) 5 rfl rfl rfl rfl ⟨rfl, rfl, rfl, trivial⟩ rfl ⟨trivial, trivial, ⟨rfl, trivial⟩, trivial⟩ ⟨rfl, rfl, trivial⟩ ⟨lk rfl, trivial⟩ rfl (b, p, e, fun _ => .v (.int .i64 0)) ⟨.refl _, .refl _, trivial⟩ ⟨⟨_, rfl, .inl rfl, trivial⟩, ⟨_, rfl, .inl rfl, trivial⟩, ⟨_, rfl, .inl rfl, ⟨rfl, trivial⟩⟩, trivial⟩ (by trivial) (Φ := fun _ => True) (fun _ _ => trivial) ⟨⟨_, _, rfl, rfl, rfl, Nat.le_refl _⟩, ⟨_, _, rfl, rfl, rfl, Nat.le_refl _⟩, trivial⟩ (.inl rfl) rfl (v := .tup 0 _) rfl (O' := (1, ⟨_, _, _, _, .rows _⟩) :: (3, ⟨_, _, _, _, .rows _⟩) :: _) rfl (fun h1 => ?_))
 refine So.e ?_
 show HT _ _ _ _ _
 refine HT.seq ?_
 refine R.tell [] [(3, ⟨57, 1, 3, true, .rows (fun j => ([.bs (pl1 b p e).1, .v (.int .i64 0), .v (.int .i64 0)] : List PV).getD j (.v undef))⟩)] [0, 2, 3] [1, 2] (fr0 := [(0, .ptr 1 0), (2, .ptr 2 0), (3, .ptr 3 0)]) (O0 := [(1, ⟨_, _, _, _, .rows _⟩), (2, ⟨_, _, _, _, .rows _⟩)]) rfl rfl ⟨⟨⟨.refl _, rfl⟩, ⟨.refl _, rfl⟩, ⟨.refl _, rfl⟩, trivial⟩, ⟨⟨_, rfl, .inr (ob_rows (by rfl) (by (intro j hj; match j, hj with | 0, _ => rfl | 1, _ => rfl | 2, _ => rfl))), trivial⟩, ⟨_, rfl, .inl rfl, trivial⟩, ⟨_, rfl, .inl rfl, trivial⟩, trivial⟩⟩ ?_
 show HT _ _ _ _ _
 refine HT.region S_rplace_ok ?_
 refine So.q rfl rfl (V.mv (v := .ptr 1 0) rfl ?_)
 refine So.n (lk rfl) (A.call [.ptr 1 _, .p (.v (.int .i64 _))] [(1, ⟨_, _, _, _, .rows _⟩)] (sg [(1, 1)]) 4 rfl rfl rfl rfl ⟨rfl, trivial⟩ rfl ⟨trivial, trivial⟩ ⟨rfl, trivial, trivial⟩ ⟨lk rfl, trivial⟩ rfl (b, (pl1 b p e).2.1, (pl1 b p e).2.2, 8) ⟨.refl _, .refl _, trivial⟩ ⟨⟨_, rfl, .inl rfl, trivial⟩, trivial⟩ (by trivial) (Φ := fun _ => True) (fun _ _ => trivial) ⟨⟨_, _, rfl, rfl, rfl, Nat.le_refl _⟩, trivial⟩ (.inl rfl) rfl (v := .p (.v (.int .i64 _))) rfl (O' := (1, ⟨_, _, _, _, .rows _⟩) :: _) rfl (fun h2 => ?_))
 refine So.q rfl rfl (V.faPtr ty57 rfl ty2 (lk rfl) rfl rfl (lk rfl) ?_)
 refine So.s (A.sto ty2 rfl rfl rfl (v := .p (.v (.int .i64 _))) rfl rfl rfl (lk rfl) rfl rfl ?_)
 refine So.e ?_
 show HT _ _ _ _ _
 refine HT.seq ?_
 refine HT.region S_rplace_ok ?_
 refine So.q rfl rfl (V.mv (v := .ptr 1 0) rfl ?_)
 refine So.n (lk rfl) (A.call [.ptr 1 _, .p (.v (.int .i64 _))] [(1, ⟨_, _, _, _, .rows _⟩)] (sg [(1, 1)]) 4 rfl rfl rfl rfl ⟨rfl, trivial⟩ rfl ⟨trivial, trivial⟩ ⟨rfl, trivial, trivial⟩ ⟨lk rfl, trivial⟩ rfl (b, (pl2 b p e).2.1, (pl2 b p e).2.2, 4) ⟨.refl _, .refl _, trivial⟩ ⟨⟨_, rfl, .inl rfl, trivial⟩, trivial⟩ (by trivial) (Φ := fun _ => True) (fun _ _ => trivial) ⟨⟨_, _, rfl, rfl, rfl, Nat.le_refl _⟩, trivial⟩ (.inl rfl) rfl (v := .p (.v (.int .i64 _))) rfl (O' := (1, ⟨_, _, _, _, .rows _⟩) :: _) rfl (fun h3 => ?_))
 refine So.q rfl rfl (V.faPtr ty57 rfl ty3 (lk rfl) rfl rfl (lk rfl) ?_)
 refine So.s (A.sto ty3 rfl rfl rfl (v := .p (.v (.int .i64 _))) rfl rfl rfl (lk rfl) rfl rfl ?_)
 refine So.e ?_
 show HT _ _ _ _ _
 refine HT.seq ?_
 refine R.tell [] [(3, ⟨57, 1, 3, true, .rows (fun j => ([.bs (pl1 b p e).1, .v (.int .i64 ((pl2 b p e).1)), .v (.int .i64 ((pl3 b p e).1))] : List PV).getD j (.v undef))⟩)] [2, 3] [1, 2] (fr0 := [(2, .ptr 2 0), (3, .ptr 3 0)]) (O0 := [(1, ⟨_, _, _, _, .rows _⟩), (2, ⟨_, _, _, _, .rows _⟩)]) rfl rfl ⟨⟨⟨.refl _, rfl⟩, ⟨.refl _, rfl⟩, trivial⟩, ⟨⟨_, rfl, .inr (ob_rows (by rfl) (by (intro j hj; match j, hj with | 0, _ => rfl | 1, _ => rfl | 2, _ => rfl))), trivial⟩, ⟨_, rfl, .inl rfl, trivial⟩, ⟨_, rfl, .inl rfl, trivial⟩, trivial⟩⟩ ?_
 show HT _ _ _ _ _
 refine HT.region S_rplace_ok ?_
 refine So.q rfl rfl (V.ldPtrA ty57 rfl rfl rfl rfl (lk rfl) ?_)
 refine So.s (A.stoAg ty57 rfl (n := 3) rfl (by decide) (by intro j hj; first | rfl | trivial | (match j, hj with | 0, _ => (first | trivial | rfl) | 1, _ => (first | trivial | rfl) | 2, _ => (first | trivial | rfl))) rfl rfl rfl ?_)
 refine So.e ?_
 show HT _ _ _ _ _
 refine HT.ret ?_
 exact retC_ok (sg [(1, 1)]) [(2, .ptr 2 0)] [(2, ⟨57, 1, 3, true, .rows (fun j => ([.bs (pl1 b p e).1, .v (.int .i64 ((pl2 b p e).1)), .v (.int .i64 ((pl3 b p e).1))] : List PV).getD j (.v undef))⟩), (1, ⟨63, 1, 3, true, .rows (fun j => ([.bs b, .v (.int .i64 (pl3 b p e).2.1), .v (.int .i64 (pl3 b p e).2.2)] : List PV).getD j (.v undef))⟩)] h ⟨⟨⟨.refl _, rfl⟩, trivial⟩, ⟨⟨_, rfl, .inr (ob_rows rfl (by intro j hj; first | rfl | ((try dsimp only); (first | with_reducible rfl | rfl | (intro j hj; match j, hj with | 0, _ => rfl | 1, _ => rfl | 2, _ => rfl) | (match j, hj with | 0, _ => rfl | 1, _ => rfl | 2, _ => rfl))))), trivial⟩, ⟨_, rfl, .inr (ob_rows (by first | rfl | ((try dsimp only); (first | with_reducible rfl | rfl | (intro j hj; match j, hj with | 0, _ => rfl | 1, _ => rfl | 2, _ => rfl) | (match j, hj with | 0, _ => rfl | 1, _ => rfl | 2, _ => rfl)))) (by first | rfl | ((try dsimp only); (first | with_reducible rfl | rfl | (intro j hj; match j, hj with | 0, _ => rfl | 1, _ => rfl | 2, _ => rfl) | (match j, hj with | 0, _ => rfl | 1, _ => rfl | 2, _ => rfl))))), trivial⟩, trivial⟩⟩ ⟨rvA_cell ty57 rfl rfl rfl rfl (Nat.le_refl _) (le_agg (fun j _ => by first | rfl | (dsimp only; rw [Nat.zero_add]))), trivial⟩ ⟨rfl, trivial⟩ rfl ⟨trivial, trivial⟩ ⟨trivial, trivial⟩ rfl
end Go.Vh

set_option linter.unusedVariables false
set_option linter.unusedSimpArgs false
namespace Go.Vh
open Go Go.Vc Go.Proofs Go.Vw
def rendSp : Sp := ⟨[1], mkE (α := (List UInt8) × Int × Int × Bool) (fun (b, p, e, is) => [.ptr 1 (0), .p (.v (.bool (is)))]) (fun (b, p, e, is) => [(1, ⟨63, 1, 3, true, .rows (fun j => ([.bs b, .v (.int .i64 p), .v (.int .i64 e)] : List PV).getD j (.v undef))⟩)]) (fun (b, p, e, is) => True) (fun (b, p, e, is) => [.p (.v (.int .i64 (endF b p e is)))]) (fun (b, p, e, is) => [(1, ⟨63, 1, 3, true, .rows (fun j => ([.bs b, .v (.int .i64 p), .v (.int .i64 e)] : List PV).getD j (.v undef))⟩)])⟩
def S_rend : FuncId → Option Sp := fun _ => none
theorem S_rend_ok : ∀ f s, S_rend f = some s → FOK Tryd.prog gl f s := fun f s h => by cases h
theorem S_rend_det : ∀ f s, S_rend f = some s → SpDet s.sp := fun f s h => by cases h
set_option maxHeartbeats 1000000 in
set_option maxRecDepth 1000 in
theorem rend_ok : FOK Tryd.prog gl 35 rendSp := by
 refine FOK.ofE (tyOf_ok Tryd.prog) (slots := [4]) (nt := 30) Tryd.func35 rfl rfl rfl rfl (by decide) 2 (fun ⟨_, _, _, _⟩ => rfl) (by decide) (fun ⟨_, _, _, _⟩ => ⟨rfl, trivial, trivial⟩) ?_
 rintro ⟨b, p, e, is⟩ kk hlen hpre h
 replace hpre : True := hpre
 show HT (cx Tryd.prog 30 (tyOf Tryd.prog) gl [1]) _ [(0, .ptr 1 (0)), (1, .p (.v (.bool (is))))] [(1, ⟨63, 1, 3, true, .rows (fun j => ([.bs b, .v (.int .i64 p), .v (.int .i64 e)] : List PV).getD j (.v undef))⟩)] _
 refine HT.seq ?_
 refine HT.region S_rend_ok ?_
 refine So.q rfl rfl (V.as (v := .p (.v (.int .i64 (0)))) rfl ?_)
 refine So.e ?_
 show HT _ _ _ _ _
 refine HT.seq ?_
 refine HT.seq ?_
 refine HT.drawn S_rend_ok S_rend_det mixed (by kernel_rfl) ?_
 refine Sd.n (lk rfl) (V.mv (v := .ptr 1 0) rfl ?_)
 refine Sd.n (lk rfl) (V.ncPtr rfl ?_)
 refine Sd.n (lk rfl) (V.faPtr ty63 rfl ty29 (lk rfl) rfl rfl (lk rfl) ?_)
 refine Sd.n (lk rfl) (V.ldPtr ty29 rfl rfl rfl (lk rfl) (v := .p (.v (.int .i64 _))) rfl ?_)
 refine Sd.n (lk rfl) (V.bin (a := (.v (.int .i64 _))) (b := (.v (.int .i64 (0)))) (r := .v (.bool _)) rfl rfl rfl trivial ?_)
 refine Sd.n (lk rfl) (V.mv (v := .p (.v (.bool _))) rfl ?_)
 refine Sd.gd rfl rfl (lk rfl) (lk rfl) (fun h1 => ?_) (fun h1 => ?_)
 ·have h1 := of_decide_eq_true h1
  refine V.mv (v := .ptr 1 0) rfl ?_
  refine Sd.gy rfl rfl (lk rfl) (lk rfl) ?_
  refine V.ncPtr rfl ?_
  refine Sd.gy rfl rfl (lk rfl) (lk rfl) ?_
  refine V.faPtr ty63 rfl ty3 (lk rfl) rfl rfl (lk rfl) ?_
  refine Sd.gy rfl rfl (lk rfl) (lk rfl) ?_
  refine V.ldPtr ty3 rfl rfl rfl (lk rfl) (v := .p (.v (.int .i64 _))) rfl ?_
  refine Sd.gy rfl rfl (lk rfl) (lk rfl) ?_
  refine V.mv (v := .ptr 1 0) rfl ?_
  refine Sd.gy rfl rfl (lk rfl) (lk rfl) ?_
  refine V.ncPtr rfl ?_
  refine Sd.gy rfl rfl (lk rfl) (lk rfl) ?_
  refine V.faPtr ty63 rfl ty22 (lk rfl) rfl rfl (lk rfl) ?_
  refine Sd.gy rfl rfl (lk rfl) (lk rfl) ?_
  refine V.ldPtr ty22 rfl rfl rfl (lk rfl) (v := .p (.bs _)) rfl ?_
  refine Sd.gy rfl rfl (lk rfl) (lk rfl) ?_
  refine V.len ty22 (v := .p (.bs _)) rfl rfl ?_
  refine Sd.gy rfl rfl (lk rfl) (lk rfl) ?_
  refine V.bin (a := (.v (.int .i64 _))) (b := (.v (.int .i64 _))) (r := .v (.bool _)) rfl rfl rfl trivial ?_
  refine Sd.gy rfl rfl (lk rfl) (lk rfl) ?_
  refine V.mv (v := .p (.v (.bool _))) rfl ?_
  refine Sd.gd rfl rfl (lk rfl) (lk rfl) (fun h2 => ?_) (fun h2 => ?_)
  ·have h2 := of_decide_eq_true (bnF h2)
   refine V.mv (v := .p (.v (.bool _))) rfl ?_
   refine Sd.gy rfl rfl (lk rfl) (lk rfl) ?_
   refine V.not rfl ?_
   refine Sd.gy rfl rfl (lk rfl) (lk rfl) ?_
   refine V.pkFalse (u := .p (.v (.bool _))) rfl rfl ?_
   refine Sd.n (lk rfl) (V.pkTrue (u := .p (.v (.bool _))) rfl rfl ?_)
   refine Sd.e ?_
   show HT _ _ _ _ _
   refine R.cond rfl rfl (fun h3 => ?_) (fun h3 => ?_)
   ·refine HT.seq ?_
    refine HT.region S_rend_ok ?_
    refine So.q rfl rfl (V.as (v := .p (.v (.int .i64 (181)))) rfl ?_)
    refine So.e ?_
    show HT _ _ _ _ _
    refine HT.ret ?_
    exact ret_ok (sg [(1, 1)]) h rfl rfl rfl ⟨trivial, trivial⟩ ⟨trivial, trivial⟩ rfl ⟨⟨⟨le_int (by first | with_reducible rfl | (intro j hj; rfl) | exact (endF_1 (by assumption) (by assumption)).symm | exact (endF_2 (by assumption) (by cases is <;> simp_all)).symm | exact (endF_3 (by assumption) (by assumption) (by cases is <;> simp_all)).symm | exact (endF_4 (by assumption)).symm), trivial⟩, trivial⟩, ⟨⟨_, rfl, .inr (ob_rows (by first | rfl | ((try dsimp only); (first | with_reducible rfl | (intro j hj; rfl) | exact (endF_1 (by assumption) (by assumption)).symm | exact (endF_2 (by assumption) (by cases is <;> simp_all)).symm | exact (endF_3 (by assumption) (by assumption) (by cases is <;> simp_all)).symm | exact (endF_4 (by assumption)).symm))) (by first | rfl | ((try dsimp only); (first | with_reducible rfl | (intro j hj; rfl) | exact (endF_1 (by assumption) (by assumption)).symm | exact (endF_2 (by assumption) (by cases is <;> simp_all)).symm | exact (endF_3 (by assumption) (by assumption) (by cases is <;> simp_all)).symm | exact (endF_4 (by assumption)).symm)))), trivial⟩, trivial⟩⟩
   ·refine HT.skip ?_
    show HT _ _ _ _ _
    refine HT.seq ?_
    refine HT.region S_rend_ok ?_
    refine So.q rfl rfl (V.mv (v := .ptr 1 0) rfl ?_)
    refine So.q rfl rfl (V.ncPtr rfl ?_)
    refine So.q rfl rfl (V.faPtr ty63 rfl ty29 (lk rfl) rfl rfl (lk rfl) ?_)
    refine So.q rfl rfl (V.ldPtr ty29 rfl rfl rfl (lk rfl) (v := .p (.v (.int .i64 _))) rfl ?_)
    refine So.q rfl rfl (V.as (v := .p (.v (.int .i64 _))) rfl ?_)
    refine So.e ?_
    show HT _ _ _ _ _
    refine HT.ret ?_
    exact ret_ok (sg [(1, 1)]) h rfl rfl rfl ⟨trivial, trivial⟩ ⟨trivial, trivial⟩ rfl ⟨⟨⟨le_int (by first | with_reducible rfl | (intro j hj; rfl) | exact (endF_1 (by assumption) (by assumption)).symm | exact (endF_2 (by assumption) (by cases is <;> simp_all)).symm | exact (endF_3 (by assumption) (by assumption) (by cases is <;> simp_all)).symm | exact (endF_4 (by assumption)).symm), trivial⟩, trivial⟩, ⟨⟨_, rfl, .inr (ob_rows (by first | rfl | ((try dsimp only); (first | with_reducible rfl | (intro j hj; rfl) | exact (endF_1 (by assumption) (by assumption)).symm | exact (endF_2 (by assumption) (by cases is <;> simp_all)).symm | exact (endF_3 (by assumption) (by assumption) (by cases is <;> simp_all)).symm | exact (endF_4 (by assumption)).symm))) (by first | rfl | ((try dsimp only); (first | with_reducible rfl | (intro j hj; rfl) | exact (endF_1 (by assumption) (by assumption)).symm | exact (endF_2 (by assumption) (by cases is <;> simp_all)).symm | exact (endF_3 (by assumption) (by assumption) (by cases is <;> simp_all)).symm | exact (endF_4 (by assumption)).symm)))), trivial⟩, trivial⟩⟩
  ·have h2 := of_decide_eq_false (bnT h2)
   refine Sd.gn (b := true) rfl rfl rfl (lk rfl) (lk rfl) ?_
   refine Sd.gy rfl rfl (lk rfl) (lk rfl) ?_
   refine V.pkTrue (u := .p (.v (.bool true))) rfl rfl ?_
   refine Sd.n (lk rfl) (V.pkTrue (u := .p (.v (.bool true))) rfl rfl ?_)
   refine Sd.e ?_
   show HT _ _ _ _ _
   refine R.condT rfl ?_
   refine HT.seq ?_
   refine HT.region S_rend_ok ?_
   refine So.q rfl rfl (V.as (v := .p (.v (.int .i64 (181)))) rfl ?_)
   refine So.e ?_
   show HT _ _ _ _ _
   refine HT.ret ?_
   exact ret_ok (sg [(1, 1)]) h rfl rfl rfl ⟨trivial, trivial⟩ ⟨trivial, trivial⟩ rfl ⟨⟨⟨le_int (by first | with_reducible rfl | (intro j hj; rfl) | exact (endF_1 (by assumption) (by assumption)).symm | exact (endF_2 (by assumption) (by cases is <;> simp_all)).symm | exact (endF_3 (by assumption) (by assumption) (by cases is <;> simp_all)).symm | exact (endF_4 (by assumption)).symm), trivial⟩, trivial⟩, ⟨⟨_, rfl, .inr (ob_rows (by first | rfl | ((try dsimp only); (first | with_reducible rfl | (intro j hj; rfl) | exact (endF_1 (by assumption) (by assumption)).symm | exact (endF_2 (by assumption) (by cases is <;> simp_all)).symm | exact (endF_3 (by assumption) (by assumption) (by cases is <;> simp_all)).symm | exact (endF_4 (by assumption)).symm))) (by first | rfl | ((try dsimp only); (first | with_reducible rfl | (intro j hj; rfl) | exact (endF_1 (by assumption) (by assumption)).symm | exact (endF_2 (by assumption) (by cases is <;> simp_all)).symm | exact (endF_3 (by assumption) (by assumption) (by cases is <;> simp_all)).symm | exact (endF_4 (by assumption)).symm)))), trivial⟩, trivial⟩⟩
 ·have h1 := of_decide_eq_false h1
  refine Sd.gn (b := false) rfl rfl rfl (lk rfl) (lk rfl) ?_
  refine Sd.gn (b := false) rfl rfl rfl (lk rfl) (lk rfl) ?_
  refine Sd.gn (b := false) rfl rfl rfl (lk rfl) (lk rfl) ?_
  refine Sd.gn (b := false) rfl rfl rfl (lk rfl) (lk rfl) ?_
  refine Sd.gn (b := false) rfl rfl rfl (lk rfl) (lk rfl) ?_
  refine Sd.gn (b := false) rfl rfl rfl (lk rfl) (lk rfl) ?_
  refine Sd.gn (b := false) rfl rfl rfl (lk rfl) (lk rfl) ?_
  refine Sd.gn (b := false) rfl rfl rfl (lk rfl) (lk rfl) ?_
  refine Sd.gn (b := false) rfl rfl rfl (lk rfl) (lk rfl) ?_
  refine Sd.gn (b := false) rfl rfl rfl (lk rfl) (lk rfl) ?_
  refine Sd.gu rfl rfl (lk rfl) ?_
  refine Sd.gu rfl rfl (lk rfl) ?_
  refine Sd.gn (b := false) rfl rfl rfl (lk rfl) (lk rfl) ?_
  refine Sd.n (lk rfl) (V.pkFalse (u := .p (.v (.bool false))) rfl rfl ?_)
  refine Sd.e ?_
  show HT _ _ _ _ _
  refine R.condF rfl ?_
  refine HT.skip ?_
  show HT _ _ _ _ _
  refine HT.seq ?_
  refine HT.region S_rend_ok ?_
  refine So.q rfl rfl (V.mv (v := .ptr 1 0) rfl ?_)
  refine So.q rfl rfl (V.ncPtr rfl ?_)
  refine So.q rfl rfl (V.faPtr ty63 rfl ty29 (lk rfl) rfl rfl (lk rfl) ?_)
  refine So.q rfl rfl (V.ldPtr ty29 rfl rfl rfl (lk rfl) (v := .p (.v (.int .i64 _))) rfl ?_)
  refine So.q rfl rfl (V.as (v := .p (.v (.int .i64 _))) rfl ?_)
  refine So.e ?_
  show HT _ _ _ _ _
  refine HT.ret ?_
  exact ret_ok (sg [(1, 1)]) h rfl rfl rfl ⟨trivial, trivial⟩ ⟨trivial, trivial⟩ rfl ⟨⟨⟨le_int (by first | with_reducible rfl | (intro j hj; rfl) | exact (endF_1 (by assumption) (by assumption)).symm | exact (endF_2 (by assumption) (by cases is <;> simp_all)).symm | exact (endF_3 (by assumption) (by assumption) (by cases is <;> simp_all)).symm | exact (endF_4 (by assumption)).symm), trivial⟩, trivial⟩, ⟨⟨_, rfl, .inr (ob_rows (by first | rfl | ((try dsimp only); (first | with_reducible rfl | (intro j hj; rfl) | exact (endF_1 (by assumption) (by assumption)).symm | exact (endF_2 (by assumption) (by cases is <;> simp_all)).symm | exact (endF_3 (by assumption) (by assumption) (by cases is <;> simp_all)).symm | exact (endF_4 (by assumption)).symm))) (by first | rfl | ((try dsimp only); (first | with_reducible rfl | (intro j hj; rfl) | exact (endF_1 (by assumption) (by assumption)).symm | exact (endF_2 (by assumption) (by cases is <;> simp_all)).symm | exact (endF_3 (by assumption) (by assumption) (by cases is <;> simp_all)).symm | exact (endF_4 (by assumption)).symm)))), trivial⟩, trivial⟩⟩
end Go.Vh
