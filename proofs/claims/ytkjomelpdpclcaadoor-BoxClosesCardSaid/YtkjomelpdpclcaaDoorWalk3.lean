/- What is proved: each function of the seat's program does what its contract says, wherever it is called; no condition. -/
import Derived.Test.YtkjomelpdpclcaaDoorWalk0
import Derived.Test.YtkjomelpdpclcaaDoorWalk2
import Derived.Test.YtkjomelpdpclcaaDoorWalk1
set_option linter.unusedVariables false
set_option linter.unusedSimpArgs false
set_option linter.unusedVariables false
set_option linter.unusedSimpArgs false
namespace Go.Vh
open Go Go.Vc Go.Proofs Go.Vw
def rclSp : Sp := ⟨[], mkE (α := (List UInt8) × (List UInt8) × (List UInt8)) (fun (k, a, c) => [.p (.bs (k)), .p (.bs (a)), .p (.bs (c))]) (fun (k, a, c) => []) (fun (k, a, c) => True) (fun (k, a, c) => [.own 2 (0) ((clF k a c).length), .p (.v (.int .i64 (clE k a c)))]) (fun (k, a, c) => [(2, ⟨5, 1, (clF k a c).length, true, .bs (clF k a c)⟩)])⟩
def S_rcl : FuncId → Option Sp := fun f => if f = 16 then some rstreamSp else if f = 17 then some rtagSp else none
theorem S_rcl_ok : ∀ f s, S_rcl f = some s → FOK Tryd.prog gl f s := fun f s h => by
 unfold S_rcl at h
 split at h
 ·rename_i e; cases h; subst e; exact rstream_ok
 split at h
 ·rename_i e; cases h; subst e; exact rtag_ok
 cases h
set_option maxHeartbeats 1000000 in
set_option maxRecDepth 20000 in
theorem rcl_ok : FOK Tryd.prog gl 11 rclSp := by
 refine FOK.ofE (tyOf_ok Tryd.prog) (slots := [6, 7]) (nt := 31) Tryd.func11 rfl rfl rfl rfl (by decide) 3 (fun ⟨_, _, _⟩ => rfl) (by decide) (fun ⟨_, _, _⟩ => ⟨trivial, trivial, trivial, trivial⟩) ?_
 rintro ⟨k, a, c⟩ kk hlen hpre h
 have hl0 : (k).length ≤ 9223372036854775807 := hlen.1
 have hl1 : (a).length ≤ 9223372036854775807 := hlen.2.1
 have hl2 : (c).length ≤ 9223372036854775807 := hlen.2.2.1
 replace hpre : True := hpre
 show HT (cx Tryd.prog 31 (tyOf Tryd.prog) gl []) _ [(0, .p (.bs (k))), (1, .p (.bs (a))), (2, .p (.bs (c)))] [] _
 have hks := kSt_len k
 have hkt := kTg_len k
 have htl := turn_len (kSt k) c
 refine HT.seq (HT.region S_rcl_ok (So.q rfl rfl (V.as (v := .p (.v (.slice none 0 0))) rfl (So.q rfl rfl (V.as (v := .p (.v (.int .i64 (0)))) rfl (So.e (HT.seq (HT.seq (HT.region S_rcl_ok (So.q rfl rfl (V.mv (v := .p (.bs _)) rfl (So.q rfl rfl (V.len ty22 (v := .p (.bs _)) rfl rfl ?_)))))))))))))
 refine So.q rfl rfl (V.bin (a := (.v (.int .i64 _))) (b := (.v (.int .i64 (32)))) (r := .v (.bool _)) rfl rfl rfl trivial (So.e ?_))
 show HT _ _ _ _ _
 refine R.cond rfl rfl (fun h1 => ?_) (fun h1 => ?_)
 ·have h1 := of_decide_eq_false (bnT h1)
  refine HT.seq (HT.region S_rcl_ok (So.q rfl rfl (V.as (v := .p (.v (.slice none 0 0))) rfl (So.q rfl rfl (V.as (v := .p (.v (.int .i64 (1)))) rfl (So.e ?_))))))
  show HT _ _ _ _ _
  refine R.phan 6 1 5 1 (.bs []) rfl rfl rfl ⟨rfl, rfl⟩ ?_
  refine HT.ret ?_
  first | have hR := cl_1 (k := k) (a := a) (t := c) (by omega) | have hR := cl_2 (k := k) (a := a) (t := c) (by omega) (by omega) | have hR := cl_yes (k := k) (a := a) (t := c) (by omega)
  exact ret_ok (sg [(2, 1)]) h rfl rfl rfl ⟨trivial, trivial⟩ ⟨rfl, trivial, trivial⟩ rfl ⟨⟨⟨le_own2 (by first | rfl | omega) (by first | exact hR.2.symm | exact hR.1.symm | exact congrArg List.length hR.1.symm | (rw [hR.1, turn_len]; done) | (rw [hR.1, List.length_append, turn_len, mark_len]; done)), rfl⟩, ⟨le_int (by first | exact hR.2.symm | exact hR.1.symm | exact congrArg List.length hR.1.symm | (rw [hR.1, turn_len]; done) | (rw [hR.1, List.length_append, turn_len, mark_len]; done)), trivial⟩, trivial⟩, ⟨⟨_, rfl, .inl (ob_bs (by first | rfl | ((try dsimp only); (first | exact hR.2.symm | exact hR.1.symm | exact congrArg List.length hR.1.symm | (rw [hR.1, turn_len]; done) | (rw [hR.1, List.length_append, turn_len, mark_len]; done)))) (by first | rfl | ((try dsimp only); (first | exact hR.2.symm | exact hR.1.symm | exact congrArg List.length hR.1.symm | (rw [hR.1, turn_len]; done) | (rw [hR.1, List.length_append, turn_len, mark_len]; done))))), trivial⟩, trivial⟩⟩
 ·have h1 := of_decide_eq_true (bnF h1)
  refine HT.skip (HT.seq (HT.seq (HT.region S_rcl_ok (So.q rfl rfl (V.mv (v := .p (.bs _)) rfl (So.q rfl rfl (V.len ty22 (v := .p (.bs _)) rfl rfl (So.q rfl rfl (V.bin (a := (.v (.int .i64 _))) (b := (.v (.int .i64 (32768)))) (r := .v (.bool _)) rfl rfl rfl trivial (So.q rfl rfl (V.mv (v := .p (.v (.bool _))) rfl ?_)))))))))))
  refine So.gd rfl rfl (lk rfl) (lk rfl) (fun h2 => ?_) (fun h2 => ?_)
  ·have h2 := of_decide_eq_false h2
   refine A.v rfl (V.mv (v := .p (.bs _)) rfl (So.gy rfl rfl (lk rfl) (lk rfl) (A.v rfl (V.len ty22 (v := .p (.bs _)) rfl rfl (So.gy rfl rfl (lk rfl) (lk rfl) (A.v rfl (V.bin (a := (.v (.int .i64 _))) (b := (.v (.int .i64 (32768)))) (r := .v (.bool _)) rfl rfl rfl trivial (So.q rfl rfl (V.pkFalse (u := .p (.v (.bool _))) rfl rfl (So.e ?_))))))))))
   show HT _ _ _ _ _
   refine R.cond rfl rfl (fun h3 => ?_) (fun h3 => ?_)
   ·have h3 := of_decide_eq_true h3
    refine HT.seq (HT.region S_rcl_ok (So.q rfl rfl (V.as (v := .p (.v (.slice none 0 0))) rfl (So.q rfl rfl (V.as (v := .p (.v (.int .i64 (2)))) rfl (So.e ?_))))))
    show HT _ _ _ _ _
    refine R.phan 6 1 5 1 (.bs []) rfl rfl rfl ⟨rfl, rfl⟩ ?_
    refine HT.ret ?_
    first | have hR := cl_1 (k := k) (a := a) (t := c) (by omega) | have hR := cl_2 (k := k) (a := a) (t := c) (by omega) (by omega) | have hR := cl_yes (k := k) (a := a) (t := c) (by omega)
    exact ret_ok (sg [(2, 1)]) h rfl rfl rfl ⟨trivial, trivial⟩ ⟨rfl, trivial, trivial⟩ rfl ⟨⟨⟨le_own2 (by first | rfl | omega) (by first | exact hR.2.symm | exact hR.1.symm | exact congrArg List.length hR.1.symm | (rw [hR.1, turn_len]; done) | (rw [hR.1, List.length_append, turn_len, mark_len]; done)), rfl⟩, ⟨le_int (by first | exact hR.2.symm | exact hR.1.symm | exact congrArg List.length hR.1.symm | (rw [hR.1, turn_len]; done) | (rw [hR.1, List.length_append, turn_len, mark_len]; done)), trivial⟩, trivial⟩, ⟨⟨_, rfl, .inl (ob_bs (by first | rfl | ((try dsimp only); (first | exact hR.2.symm | exact hR.1.symm | exact congrArg List.length hR.1.symm | (rw [hR.1, turn_len]; done) | (rw [hR.1, List.length_append, turn_len, mark_len]; done)))) (by first | rfl | ((try dsimp only); (first | exact hR.2.symm | exact hR.1.symm | exact congrArg List.length hR.1.symm | (rw [hR.1, turn_len]; done) | (rw [hR.1, List.length_append, turn_len, mark_len]; done))))), trivial⟩, trivial⟩⟩
   ·have h3 := of_decide_eq_false h3
    refine HT.skip (HT.seq (HT.region S_rcl_ok (So.q rfl rfl (V.mv (v := .p (.bs _)) rfl (So.q rfl rfl (V.mv (v := .p (.bs _)) rfl ?_))))))
    refine So.n (lk rfl) (A.call0 [.p (.bs _), .p (.bs _)] 1 rfl rfl rfl rfl ⟨trivial, trivial, trivial⟩ trivial (_, _) ⟨.refl _, .refl _, trivial⟩ trivial (by first | omega | (simp only [List.drop_zero, List.take_length]; omega) | (simp; done) | (simp; omega)) (Φ := fun _ => True) (fun _ _ => trivial) (.inl rfl) (v := .own 3 0 _) rfl (O' := (3, ⟨5, 1, _, true, .bs _⟩) :: _) rfl (fun h4 => ?_))
    refine So.q rfl rfl (V.as (v := .own 3 0 _) rfl (So.e (HT.seq (HT.region S_rcl_ok (So.q rfl rfl (V.mv (v := .p (.bs _)) rfl (So.q rfl rfl (V.mv (v := .p (.bs _)) rfl (So.q rfl rfl (V.mv (v := .own 3 0 _) rfl ?_))))))))))
    refine So.n (lk rfl) (A.call0 [.p (.bs _), .p (.bs _), .p (.bs _)] 4 rfl rfl rfl rfl ⟨trivial, trivial, trivial, trivial⟩ trivial (k, a, turnF (kSt k) c) ⟨.refl _, .refl _, le_bs (by rw [List.drop_zero, List.take_of_length_le (by rw [turn_len]; exact Nat.le_refl _)]), trivial⟩ trivial (by first | omega | (simp only [List.drop_zero, List.take_length]; omega) | (simp; done) | (simp; omega)) (Φ := fun _ => True) (fun _ _ => trivial) (.inr ⟨trivial, by simp [Hp.scal, OC.scal, PV.scal, BV.scal]⟩) (v := .own 6 0 _) rfl (O' := (6, ⟨5, 1, _, true, .bs _⟩) :: _) rfl (fun h5 => ?_))
    refine So.q rfl rfl (V.as (v := .own 6 0 _) rfl (So.e (HT.seq (HT.region S_rcl_ok (So.q rfl rfl (V.mv (v := .own 3 0 _) rfl (So.q rfl rfl (V.mv (v := .own 6 0 _) rfl (So.n (lk rfl) (A.apOwn ty22 ty5 rfl rfl rfl rfl (u := .own 6 0 _) rfl rfl (l' := turnF (kSt k) c ++ markF (kTg k) a (turnF (kSt k) c)) (by rw [ap_full (by rw [turn_len]; exact Nat.le_refl _)]; simp only [List.drop_zero]; rw [List.take_of_length_le (by rw [mark_len]; exact Nat.le_refl _)]) (mn := c.length + 32) (by rfl) (by first | rfl | omega | (simp; done) | (simp; omega)) rfl rfl rfl (So.q rfl rfl (V.as (v := .own 3 0 _) rfl (So.q rfl rfl (V.as (v := .p (.v (.int .i64 (0)))) rfl (So.e ?_)))))))))))))))
    show HT _ _ _ _ _
    refine HT.ret ?_
    first | have hR := cl_1 (k := k) (a := a) (t := c) (by omega) | have hR := cl_2 (k := k) (a := a) (t := c) (by omega) (by omega) | have hR := cl_yes (k := k) (a := a) (t := c) (by omega)
    exact ret_ok (sg [(2, 3)]) h rfl rfl rfl ⟨trivial, trivial⟩ ⟨rfl, trivial, trivial⟩ rfl ⟨⟨⟨le_own2 (by first | rfl | omega) (by first | exact hR.2.symm | exact hR.1.symm | exact congrArg List.length hR.1.symm | (rw [hR.1, turn_len]; done) | (rw [hR.1, List.length_append, turn_len, mark_len]; done)), rfl⟩, ⟨le_int (by first | exact hR.2.symm | exact hR.1.symm | exact congrArg List.length hR.1.symm | (rw [hR.1, turn_len]; done) | (rw [hR.1, List.length_append, turn_len, mark_len]; done)), trivial⟩, trivial⟩, ⟨⟨_, rfl, .inl (ob_bs (by first | rfl | ((try dsimp only); (first | exact hR.2.symm | exact hR.1.symm | exact congrArg List.length hR.1.symm | (rw [hR.1, turn_len]; done) | (rw [hR.1, List.length_append, turn_len, mark_len]; done)))) (by first | rfl | ((try dsimp only); (first | exact hR.2.symm | exact hR.1.symm | exact congrArg List.length hR.1.symm | (rw [hR.1, turn_len]; done) | (rw [hR.1, List.length_append, turn_len, mark_len]; done))))), trivial⟩, trivial⟩⟩
  ·have h2 := of_decide_eq_true h2
   refine So.gn (b := true) rfl rfl rfl (lk rfl) (lk rfl) (So.gn (b := true) rfl rfl rfl (lk rfl) (lk rfl) (So.q rfl rfl (V.pkTrue (u := .p (.v (.bool true))) rfl rfl (So.e ?_))))
   show HT _ _ _ _ _
   refine R.condT rfl ?_
   refine HT.seq (HT.region S_rcl_ok (So.q rfl rfl (V.as (v := .p (.v (.slice none 0 0))) rfl (So.q rfl rfl (V.as (v := .p (.v (.int .i64 (2)))) rfl (So.e ?_))))))
   show HT _ _ _ _ _
   refine R.phan 6 1 5 1 (.bs []) rfl rfl rfl ⟨rfl, rfl⟩ ?_
   refine HT.ret ?_
   first | have hR := cl_1 (k := k) (a := a) (t := c) (by omega) | have hR := cl_2 (k := k) (a := a) (t := c) (by omega) (by omega) | have hR := cl_yes (k := k) (a := a) (t := c) (by omega)
   exact ret_ok (sg [(2, 1)]) h rfl rfl rfl ⟨trivial, trivial⟩ ⟨rfl, trivial, trivial⟩ rfl ⟨⟨⟨le_own2 (by first | rfl | omega) (by first | exact hR.2.symm | exact hR.1.symm | exact congrArg List.length hR.1.symm | (rw [hR.1, turn_len]; done) | (rw [hR.1, List.length_append, turn_len, mark_len]; done)), rfl⟩, ⟨le_int (by first | exact hR.2.symm | exact hR.1.symm | exact congrArg List.length hR.1.symm | (rw [hR.1, turn_len]; done) | (rw [hR.1, List.length_append, turn_len, mark_len]; done)), trivial⟩, trivial⟩, ⟨⟨_, rfl, .inl (ob_bs (by first | rfl | ((try dsimp only); (first | exact hR.2.symm | exact hR.1.symm | exact congrArg List.length hR.1.symm | (rw [hR.1, turn_len]; done) | (rw [hR.1, List.length_append, turn_len, mark_len]; done)))) (by first | rfl | ((try dsimp only); (first | exact hR.2.symm | exact hR.1.symm | exact congrArg List.length hR.1.symm | (rw [hR.1, turn_len]; done) | (rw [hR.1, List.length_append, turn_len, mark_len]; done))))), trivial⟩, trivial⟩⟩
end Go.Vh

set_option linter.unusedVariables false
set_option linter.unusedSimpArgs false
namespace Go.Vh
open Go Go.Vc Go.Proofs Go.Vw
def ropSp : Sp := ⟨[], mkE (α := (List UInt8) × (List UInt8) × (List UInt8)) (fun (k, a, c) => [.p (.bs (k)), .p (.bs (a)), .p (.bs (c))]) (fun (k, a, c) => []) (fun (k, a, c) => True) (fun (k, a, c) => [.own 2 (0) ((opF k a c).length), .p (.v (.int .i64 (opE k a c)))]) (fun (k, a, c) => [(2, ⟨5, 1, (opF k a c).length, true, .bs (opF k a c)⟩)])⟩
def S_rop : FuncId → Option Sp := fun f => if f = 17 then some rtagSp else if f = 16 then some rstreamSp else none
theorem S_rop_ok : ∀ f s, S_rop f = some s → FOK Tryd.prog gl f s := fun f s h => by
 unfold S_rop at h
 split at h
 ·rename_i e; cases h; subst e; exact rtag_ok
 split at h
 ·rename_i e; cases h; subst e; exact rstream_ok
 cases h
theorem S_rop_det : ∀ f s, S_rop f = some s → SpDet s.sp := fun f s h => by
 unfold S_rop at h
 split at h
 ·cases h; exact mkE_det _ _ _ _ _
 split at h
 ·cases h; exact mkE_det _ _ _ _ _
 cases h
set_option maxHeartbeats 1000000 in
set_option maxRecDepth 20000 in
theorem rop_ok : FOK Tryd.prog gl 12 ropSp := by
 refine FOK.ofE (tyOf_ok Tryd.prog) (slots := [6, 7]) (nt := 46) Tryd.func12 rfl rfl rfl rfl (by decide) 3 (fun ⟨_, _, _⟩ => rfl) (by decide) (fun ⟨_, _, _⟩ => ⟨trivial, trivial, trivial, trivial⟩) ?_
 rintro ⟨k, a, c⟩ kk hlen hpre h
 have hl0 : (k).length ≤ 9223372036854775807 := hlen.1
 have hl1 : (a).length ≤ 9223372036854775807 := hlen.2.1
 have hl2 : (c).length ≤ 9223372036854775807 := hlen.2.2.1
 replace hpre : True := hpre
 show HT (cx Tryd.prog 46 (tyOf Tryd.prog) gl []) _ [(0, .p (.bs (k))), (1, .p (.bs (a))), (2, .p (.bs (c)))] [] _
 have hks := kSt_len k
 have hkt := kTg_len k
 have hdl : (c.drop (c.length - 32)).length = c.length - (c.length - 32) := List.length_drop
 have htl : (c.take (c.length - 32)).length = min (c.length - 32) c.length := List.length_take
 have hm32 := max32 c.length
 refine HT.seq (HT.region S_rop_ok (So.q rfl rfl (V.as (v := .p (.v (.slice none 0 0))) rfl (So.q rfl rfl (V.as (v := .p (.v (.int .i64 (0)))) rfl (So.e (HT.seq (HT.seq (HT.region S_rop_ok (So.q rfl rfl (V.mv (v := .p (.bs _)) rfl (So.q rfl rfl (V.len ty22 (v := .p (.bs _)) rfl rfl ?_)))))))))))))
 refine So.q rfl rfl (V.bin (a := (.v (.int .i64 _))) (b := (.v (.int .i64 (32)))) (r := .v (.bool _)) rfl rfl rfl trivial (So.e ?_))
 show HT _ _ _ _ _
 refine R.cond rfl rfl (fun h1 => ?_) (fun h1 => ?_)
 ·have h1 := of_decide_eq_false (bnT h1)
  refine HT.seq (HT.region S_rop_ok (So.q rfl rfl (V.as (v := .p (.v (.slice none 0 0))) rfl (So.q rfl rfl (V.as (v := .p (.v (.int .i64 (1)))) rfl (So.e ?_))))))
  show HT _ _ _ _ _
  refine R.phan 6 1 5 1 (.bs []) rfl rfl rfl ⟨rfl, rfl⟩ ?_
  refine HT.ret ?_
  first | have hR := op_1 (k := k) (a := a) (c := c) (by omega) | have hR := op_2 (k := k) (a := a) (c := c) (by omega) (by omega) | have hR := op_3 (k := k) (a := a) (c := c) (by omega) (by omega) (op_5 (by omega)) | have hR := op_4 (k := k) (a := a) (c := c) (by omega) (by omega) ((op_str (by omega)).1 (by assumption)) | have hR := op_3 (k := k) (a := a) (c := c) (by omega) (by omega) (mt (op_str (by omega)).2 (by assumption))
  exact ret_ok (sg [(2, 1)]) h rfl rfl rfl ⟨trivial, trivial⟩ ⟨rfl, trivial, trivial⟩ rfl ⟨⟨⟨le_own2 (by first | rfl | omega) (by first | exact hR.2.symm | exact hR.1.symm | exact congrArg List.length hR.1.symm | (rw [hR.1, turn_len]; done) | (rw [hR.1, List.length_append, turn_len, mark_len]; done)), rfl⟩, ⟨le_int (by first | exact hR.2.symm | exact hR.1.symm | exact congrArg List.length hR.1.symm | (rw [hR.1, turn_len]; done) | (rw [hR.1, List.length_append, turn_len, mark_len]; done)), trivial⟩, trivial⟩, ⟨⟨_, rfl, .inl (ob_bs (by first | rfl | ((try dsimp only); (first | exact hR.2.symm | exact hR.1.symm | exact congrArg List.length hR.1.symm | (rw [hR.1, turn_len]; done) | (rw [hR.1, List.length_append, turn_len, mark_len]; done)))) (by first | rfl | ((try dsimp only); (first | exact hR.2.symm | exact hR.1.symm | exact congrArg List.length hR.1.symm | (rw [hR.1, turn_len]; done) | (rw [hR.1, List.length_append, turn_len, mark_len]; done))))), trivial⟩, trivial⟩⟩
 ·have h1 := of_decide_eq_true (bnF h1)
  refine HT.skip (HT.seq (HT.seq (HT.region S_rop_ok (So.q rfl rfl (V.mv (v := .p (.bs _)) rfl (So.q rfl rfl (V.len ty22 (v := .p (.bs _)) rfl rfl (So.q rfl rfl (V.bin (a := (.v (.int .i64 _))) (b := (.v (.int .i64 (32768)))) (r := .v (.bool _)) rfl rfl rfl trivial (So.q rfl rfl (V.mv (v := .p (.v (.bool _))) rfl ?_)))))))))))
  refine So.gd rfl rfl (lk rfl) (lk rfl) (fun h2 => ?_) (fun h2 => ?_)
  ·have h2 := of_decide_eq_false h2
   refine A.v rfl (V.mv (v := .p (.bs _)) rfl (So.gy rfl rfl (lk rfl) (lk rfl) (A.v rfl (V.len ty22 (v := .p (.bs _)) rfl rfl (So.gy rfl rfl (lk rfl) (lk rfl) (A.v rfl (V.bin (a := (.v (.int .i64 _))) (b := (.v (.int .i64 (32800)))) (r := .v (.bool _)) rfl rfl rfl trivial (So.q rfl rfl (V.pkFalse (u := .p (.v (.bool _))) rfl rfl (So.e ?_))))))))))
   show HT _ _ _ _ _
   refine R.cond rfl rfl (fun h3 => ?_) (fun h3 => ?_)
   ·have h3 := of_decide_eq_true h3
    refine HT.seq (HT.region S_rop_ok (So.q rfl rfl (V.as (v := .p (.v (.slice none 0 0))) rfl (So.q rfl rfl (V.as (v := .p (.v (.int .i64 (2)))) rfl (So.e ?_))))))
    show HT _ _ _ _ _
    refine R.phan 6 1 5 1 (.bs []) rfl rfl rfl ⟨rfl, rfl⟩ ?_
    refine HT.ret ?_
    first | have hR := op_1 (k := k) (a := a) (c := c) (by omega) | have hR := op_2 (k := k) (a := a) (c := c) (by omega) (by omega) | have hR := op_3 (k := k) (a := a) (c := c) (by omega) (by omega) (op_5 (by omega)) | have hR := op_4 (k := k) (a := a) (c := c) (by omega) (by omega) ((op_str (by omega)).1 (by assumption)) | have hR := op_3 (k := k) (a := a) (c := c) (by omega) (by omega) (mt (op_str (by omega)).2 (by assumption))
    exact ret_ok (sg [(2, 1)]) h rfl rfl rfl ⟨trivial, trivial⟩ ⟨rfl, trivial, trivial⟩ rfl ⟨⟨⟨le_own2 (by first | rfl | omega) (by first | exact hR.2.symm | exact hR.1.symm | exact congrArg List.length hR.1.symm | (rw [hR.1, turn_len]; done) | (rw [hR.1, List.length_append, turn_len, mark_len]; done)), rfl⟩, ⟨le_int (by first | exact hR.2.symm | exact hR.1.symm | exact congrArg List.length hR.1.symm | (rw [hR.1, turn_len]; done) | (rw [hR.1, List.length_append, turn_len, mark_len]; done)), trivial⟩, trivial⟩, ⟨⟨_, rfl, .inl (ob_bs (by first | rfl | ((try dsimp only); (first | exact hR.2.symm | exact hR.1.symm | exact congrArg List.length hR.1.symm | (rw [hR.1, turn_len]; done) | (rw [hR.1, List.length_append, turn_len, mark_len]; done)))) (by first | rfl | ((try dsimp only); (first | exact hR.2.symm | exact hR.1.symm | exact congrArg List.length hR.1.symm | (rw [hR.1, turn_len]; done) | (rw [hR.1, List.length_append, turn_len, mark_len]; done))))), trivial⟩, trivial⟩⟩
   ·have h3 := of_decide_eq_false h3
    refine HT.skip (HT.seq (HT.region S_rop_ok (So.q rfl rfl (V.mv (v := .p (.bs _)) rfl (So.q rfl rfl (V.len ty22 (v := .p (.bs _)) rfl rfl (So.q rfl rfl (V.subI rfl rfl (by omega) (So.q rfl rfl (V.as (v := .p (.v (.int .i64 _))) rfl (So.e (HT.seq (HT.seq ?_)))))))))))))
    refine HT.drawn S_rop_ok S_rop_det mixed (by kernel_rfl) ?_
    refine Sd.n (lk rfl) (V.mv (v := .p (.v (.int .i64 _))) rfl (Sd.n (lk rfl) (V.bin (a := (.v (.int .i64 _))) (b := (.v (.int .i64 (0)))) (r := .v (.bool _)) rfl rfl rfl trivial (Sd.n (lk rfl) (V.mv (v := .p (.v (.bool _))) rfl ?_)))))
    refine Sd.gd rfl rfl (lk rfl) (lk rfl) (fun h4 => ?_) (fun h4 => ?_)
    ·have h4 := of_decide_eq_false h4
     refine V.mv (v := .p (.bs _)) rfl ?_
     refine Sd.gy rfl rfl (lk rfl) (lk rfl) ?_
     refine V.mv (v := .p (.bs _)) rfl ?_
     refine Sd.gy rfl rfl (lk rfl) (lk rfl) ?_
     refine V.mv (v := .p (.bs _)) rfl ?_
     refine Sd.gy rfl rfl (lk rfl) (lk rfl) ?_
     refine V.mv (v := .p (.v (.int .i64 _))) rfl ?_
     refine Sd.gy rfl rfl (lk rfl) (lk rfl) ?_
     refine V.pb (r := .v (.int .i64 _)) (by decide) rfl rfl ?_
     refine Sd.gy rfl rfl (lk rfl) (lk rfl) ?_
     refine V.cutBsH ty22 ty5 rfl rfl rfl (by omega) (.inl rfl) rfl ?_
     refine Sd.gy rfl rfl (lk rfl) (lk rfl) ?_
     refine V.call [.p (.bs _), .p (.bs _), .p (.bs _)] 1 rfl rfl rfl rfl ⟨trivial, trivial, trivial, trivial⟩ trivial (k, a, c.take (c.length - 32)) ⟨.refl _, .refl _, le_bs (by first | rfl | (rw [hm32]; done)), trivial⟩ trivial (by first | omega | (simp only [List.drop_zero, List.take_length]; omega) | (simp; done) | (simp; omega)) (Φ := fun _ => True) (fun _ _ => trivial) (.inl ⟨trivial, trivial, trivial, trivial⟩) (v := .p (.bs _)) rfl (fun h5 => ?_)
     refine Sd.gy rfl rfl (lk rfl) (lk rfl) ?_
     refine V.cvBs ty9 rfl rfl ?_
     refine Sd.gy rfl rfl (lk rfl) (lk rfl) ?_
     refine V.mv (v := .p (.bs _)) rfl ?_
     refine Sd.gy rfl rfl (lk rfl) (lk rfl) ?_
     refine V.mv (v := .p (.v (.int .i64 _))) rfl ?_
     refine Sd.gy rfl rfl (lk rfl) (lk rfl) ?_
     refine V.pb (r := .v (.int .i64 _)) (by decide) rfl rfl ?_
     refine Sd.gy rfl rfl (lk rfl) (lk rfl) ?_
     refine V.cutBsL (mx := none) ty22 ty5 rfl rfl rfl (by omega) rfl ?_
     refine Sd.gy rfl rfl (lk rfl) (lk rfl) ?_
     refine V.cvBs ty9 rfl rfl ?_
     refine Sd.gy rfl rfl (lk rfl) (lk rfl) ?_
     refine V.bin (a := (.str _)) (b := (.str _)) (r := .v (.bool _)) rfl rfl rfl trivial ?_
     refine Sd.n (lk rfl) (V.pkFalse (u := .p (.v (.bool _))) rfl rfl (Sd.e ?_))
     show HT _ _ _ _ _
     refine R.cond rfl rfl (fun h6 => ?_) (fun h6 => ?_)
     ·have h6 := of_decide_eq_false (bnT h6)
      refine HT.seq (HT.region S_rop_ok (So.q rfl rfl (V.as (v := .p (.v (.slice none 0 0))) rfl (So.q rfl rfl (V.as (v := .p (.v (.int .i64 (121)))) rfl (So.e ?_))))))
      show HT _ _ _ _ _
      refine R.phan 6 1 5 1 (.bs []) rfl rfl rfl ⟨rfl, rfl⟩ ?_
      refine HT.ret ?_
      first | have hR := op_1 (k := k) (a := a) (c := c) (by omega) | have hR := op_2 (k := k) (a := a) (c := c) (by omega) (by omega) | have hR := op_3 (k := k) (a := a) (c := c) (by omega) (by omega) (op_5 (by omega)) | have hR := op_4 (k := k) (a := a) (c := c) (by omega) (by omega) ((op_str (by omega)).1 (by assumption)) | have hR := op_3 (k := k) (a := a) (c := c) (by omega) (by omega) (mt (op_str (by omega)).2 (by assumption))
      exact ret_ok (sg [(2, 1)]) h rfl rfl rfl ⟨trivial, trivial⟩ ⟨rfl, trivial, trivial⟩ rfl ⟨⟨⟨le_own2 (by first | rfl | omega) (by first | exact hR.2.symm | exact hR.1.symm | exact congrArg List.length hR.1.symm | (rw [hR.1, turn_len]; done) | (rw [hR.1, List.length_append, turn_len, mark_len]; done)), rfl⟩, ⟨le_int (by first | exact hR.2.symm | exact hR.1.symm | exact congrArg List.length hR.1.symm | (rw [hR.1, turn_len]; done) | (rw [hR.1, List.length_append, turn_len, mark_len]; done)), trivial⟩, trivial⟩, ⟨⟨_, rfl, .inl (ob_bs (by first | rfl | ((try dsimp only); (first | exact hR.2.symm | exact hR.1.symm | exact congrArg List.length hR.1.symm | (rw [hR.1, turn_len]; done) | (rw [hR.1, List.length_append, turn_len, mark_len]; done)))) (by first | rfl | ((try dsimp only); (first | exact hR.2.symm | exact hR.1.symm | exact congrArg List.length hR.1.symm | (rw [hR.1, turn_len]; done) | (rw [hR.1, List.length_append, turn_len, mark_len]; done))))), trivial⟩, trivial⟩⟩
     ·have h6 := of_decide_eq_true (bnF h6)
      refine HT.skip (HT.seq (HT.region S_rop_ok (So.q rfl rfl (V.mv (v := .p (.bs _)) rfl (So.q rfl rfl (V.mv (v := .p (.bs _)) rfl (So.q rfl rfl (V.mv (v := .p (.v (.int .i64 _))) rfl (So.q rfl rfl (V.cutBsH ty22 ty5 rfl rfl rfl (by omega) (.inl rfl) rfl ?_))))))))))
      refine So.n (lk rfl) (A.call0 [.p (.bs _), .p (.bs _)] 1 rfl rfl rfl rfl ⟨trivial, trivial, trivial⟩ trivial (k, c.take (c.length - 32)) ⟨.refl _, le_bs (by first | rfl | (congr 1; omega)), trivial⟩ trivial (by first | omega | (simp only [List.drop_zero, List.take_length]; omega) | (simp; done) | (simp; omega)) (Φ := fun _ => True) (fun _ _ => trivial) (.inl rfl) (v := .own 3 0 _) rfl (O' := (3, ⟨5, 1, _, true, .bs _⟩) :: _) rfl (fun h7 => ?_))
      refine So.q rfl rfl (V.as (v := .own 3 0 _) rfl (So.q rfl rfl (V.as (v := .p (.v (.int .i64 (0)))) rfl (So.e ?_))))
      show HT _ _ _ _ _
      refine HT.ret ?_
      first | have hR := op_1 (k := k) (a := a) (c := c) (by omega) | have hR := op_2 (k := k) (a := a) (c := c) (by omega) (by omega) | have hR := op_3 (k := k) (a := a) (c := c) (by omega) (by omega) (op_5 (by omega)) | have hR := op_4 (k := k) (a := a) (c := c) (by omega) (by omega) ((op_str (by omega)).1 (by assumption)) | have hR := op_3 (k := k) (a := a) (c := c) (by omega) (by omega) (mt (op_str (by omega)).2 (by assumption))
      exact ret_ok (sg [(2, 3)]) h rfl rfl rfl ⟨trivial, trivial⟩ ⟨rfl, trivial, trivial⟩ rfl ⟨⟨⟨le_own2 (by first | rfl | omega) (by first | exact hR.2.symm | exact hR.1.symm | exact congrArg List.length hR.1.symm | (rw [hR.1, turn_len]; done) | (rw [hR.1, List.length_append, turn_len, mark_len]; done)), rfl⟩, ⟨le_int (by first | exact hR.2.symm | exact hR.1.symm | exact congrArg List.length hR.1.symm | (rw [hR.1, turn_len]; done) | (rw [hR.1, List.length_append, turn_len, mark_len]; done)), trivial⟩, trivial⟩, ⟨⟨_, rfl, .inl (ob_bs (by first | rfl | ((try dsimp only); (first | exact hR.2.symm | exact hR.1.symm | exact congrArg List.length hR.1.symm | (rw [hR.1, turn_len]; done) | (rw [hR.1, List.length_append, turn_len, mark_len]; done)))) (by first | rfl | ((try dsimp only); (first | exact hR.2.symm | exact hR.1.symm | exact congrArg List.length hR.1.symm | (rw [hR.1, turn_len]; done) | (rw [hR.1, List.length_append, turn_len, mark_len]; done))))), trivial⟩, trivial⟩⟩
    ·have h4 := of_decide_eq_true h4
     refine Sd.gn (b := true) rfl rfl rfl (lk rfl) (lk rfl) (Sd.gn (b := true) rfl rfl rfl (lk rfl) (lk rfl) (Sd.gn (b := true) rfl rfl rfl (lk rfl) (lk rfl) (Sd.gn (b := true) rfl rfl rfl (lk rfl) (lk rfl) (Sd.gn (b := true) rfl rfl rfl (lk rfl) (lk rfl) (Sd.gn (b := true) rfl rfl rfl (lk rfl) (lk rfl) (Sd.gn (b := true) rfl rfl rfl (lk rfl) (lk rfl) (Sd.gn (b := true) rfl rfl rfl (lk rfl) (lk rfl) (Sd.gn (b := true) rfl rfl rfl (lk rfl) (lk rfl) (Sd.gn (b := true) rfl rfl rfl (lk rfl) (lk rfl) ?_)))))))))
     refine Sd.gn (b := true) rfl rfl rfl (lk rfl) (lk rfl) (Sd.gn (b := true) rfl rfl rfl (lk rfl) (lk rfl) (Sd.gn (b := true) rfl rfl rfl (lk rfl) (lk rfl) (Sd.n (lk rfl) (V.pkTrue (u := .p (.v (.bool true))) rfl rfl (Sd.e ?_)))))
     show HT _ _ _ _ _
     refine R.condT rfl ?_
     refine HT.seq (HT.region S_rop_ok (So.q rfl rfl (V.as (v := .p (.v (.slice none 0 0))) rfl (So.q rfl rfl (V.as (v := .p (.v (.int .i64 (121)))) rfl (So.e ?_))))))
     show HT _ _ _ _ _
     refine R.phan 6 1 5 1 (.bs []) rfl rfl rfl ⟨rfl, rfl⟩ ?_
     refine HT.ret ?_
     first | have hR := op_1 (k := k) (a := a) (c := c) (by omega) | have hR := op_2 (k := k) (a := a) (c := c) (by omega) (by omega) | have hR := op_3 (k := k) (a := a) (c := c) (by omega) (by omega) (op_5 (by omega)) | have hR := op_4 (k := k) (a := a) (c := c) (by omega) (by omega) ((op_str (by omega)).1 (by assumption)) | have hR := op_3 (k := k) (a := a) (c := c) (by omega) (by omega) (mt (op_str (by omega)).2 (by assumption))
     exact ret_ok (sg [(2, 1)]) h rfl rfl rfl ⟨trivial, trivial⟩ ⟨rfl, trivial, trivial⟩ rfl ⟨⟨⟨le_own2 (by first | rfl | omega) (by first | exact hR.2.symm | exact hR.1.symm | exact congrArg List.length hR.1.symm | (rw [hR.1, turn_len]; done) | (rw [hR.1, List.length_append, turn_len, mark_len]; done)), rfl⟩, ⟨le_int (by first | exact hR.2.symm | exact hR.1.symm | exact congrArg List.length hR.1.symm | (rw [hR.1, turn_len]; done) | (rw [hR.1, List.length_append, turn_len, mark_len]; done)), trivial⟩, trivial⟩, ⟨⟨_, rfl, .inl (ob_bs (by first | rfl | ((try dsimp only); (first | exact hR.2.symm | exact hR.1.symm | exact congrArg List.length hR.1.symm | (rw [hR.1, turn_len]; done) | (rw [hR.1, List.length_append, turn_len, mark_len]; done)))) (by first | rfl | ((try dsimp only); (first | exact hR.2.symm | exact hR.1.symm | exact congrArg List.length hR.1.symm | (rw [hR.1, turn_len]; done) | (rw [hR.1, List.length_append, turn_len, mark_len]; done))))), trivial⟩, trivial⟩⟩
  ·have h2 := of_decide_eq_true h2
   refine So.gn (b := true) rfl rfl rfl (lk rfl) (lk rfl) (So.gn (b := true) rfl rfl rfl (lk rfl) (lk rfl) (So.q rfl rfl (V.pkTrue (u := .p (.v (.bool true))) rfl rfl (So.e ?_))))
   show HT _ _ _ _ _
   refine R.condT rfl ?_
   refine HT.seq (HT.region S_rop_ok (So.q rfl rfl (V.as (v := .p (.v (.slice none 0 0))) rfl (So.q rfl rfl (V.as (v := .p (.v (.int .i64 (2)))) rfl (So.e ?_))))))
   show HT _ _ _ _ _
   refine R.phan 6 1 5 1 (.bs []) rfl rfl rfl ⟨rfl, rfl⟩ ?_
   refine HT.ret ?_
   first | have hR := op_1 (k := k) (a := a) (c := c) (by omega) | have hR := op_2 (k := k) (a := a) (c := c) (by omega) (by omega) | have hR := op_3 (k := k) (a := a) (c := c) (by omega) (by omega) (op_5 (by omega)) | have hR := op_4 (k := k) (a := a) (c := c) (by omega) (by omega) ((op_str (by omega)).1 (by assumption)) | have hR := op_3 (k := k) (a := a) (c := c) (by omega) (by omega) (mt (op_str (by omega)).2 (by assumption))
   exact ret_ok (sg [(2, 1)]) h rfl rfl rfl ⟨trivial, trivial⟩ ⟨rfl, trivial, trivial⟩ rfl ⟨⟨⟨le_own2 (by first | rfl | omega) (by first | exact hR.2.symm | exact hR.1.symm | exact congrArg List.length hR.1.symm | (rw [hR.1, turn_len]; done) | (rw [hR.1, List.length_append, turn_len, mark_len]; done)), rfl⟩, ⟨le_int (by first | exact hR.2.symm | exact hR.1.symm | exact congrArg List.length hR.1.symm | (rw [hR.1, turn_len]; done) | (rw [hR.1, List.length_append, turn_len, mark_len]; done)), trivial⟩, trivial⟩, ⟨⟨_, rfl, .inl (ob_bs (by first | rfl | ((try dsimp only); (first | exact hR.2.symm | exact hR.1.symm | exact congrArg List.length hR.1.symm | (rw [hR.1, turn_len]; done) | (rw [hR.1, List.length_append, turn_len, mark_len]; done)))) (by first | rfl | ((try dsimp only); (first | exact hR.2.symm | exact hR.1.symm | exact congrArg List.length hR.1.symm | (rw [hR.1, turn_len]; done) | (rw [hR.1, List.length_append, turn_len, mark_len]; done))))), trivial⟩, trivial⟩⟩
end Go.Vh

set_option linter.unusedVariables false
set_option linter.unusedSimpArgs false
namespace Go.Vh
open Go Go.Vc Go.Proofs Go.Vw
def lawClosesSp : Sp := ⟨[], mkE (α := (List UInt8) × (List UInt8) × (List UInt8) × (List UInt8)) (fun (k, a, t, c) => [.p (.bs (k)), .p (.bs (a)), .p (.bs (t)), .p (.bs (c))]) (fun (k, a, t, c) => []) (fun (k, a, t, c) => True) (fun (k, a, t, c) => [.p (.v (.bool true))]) (fun (k, a, t, c) => [])⟩
def S_lawCloses : FuncId → Option Sp := fun f => if f = 7 then some headSp else if f = 8 then some greatSp else if f = 9 then some bclSp else if f = 10 then some bopSp else if f = 11 then some rclSp else if f = 12 then some ropSp else none
theorem S_lawCloses_ok : ∀ f s, S_lawCloses f = some s → FOK Tryd.prog gl f s := fun f s h => by
 unfold S_lawCloses at h
 split at h
 ·rename_i e; cases h; subst e; exact head_ok
 split at h
 ·rename_i e; cases h; subst e; exact great_ok
 split at h
 ·rename_i e; cases h; subst e; exact bcl_ok
 split at h
 ·rename_i e; cases h; subst e; exact bop_ok
 split at h
 ·rename_i e; cases h; subst e; exact rcl_ok
 split at h
 ·rename_i e; cases h; subst e; exact rop_ok
 cases h
set_option maxHeartbeats 1000000 in
set_option maxRecDepth 20000 in
theorem lawCloses_ok : FOK Tryd.prog gl 3 lawClosesSp := by
 refine FOK.ofE (tyOf_ok Tryd.prog) (slots := [8]) (nt := 121) Tryd.func3 rfl rfl rfl rfl (by decide) 4 (fun ⟨_, _, _, _⟩ => rfl) (by decide) (fun ⟨_, _, _, _⟩ => ⟨trivial, trivial, trivial, trivial, trivial⟩) ?_
 rintro ⟨k, a, t, c⟩ kk hlen hpre h
 have hl0 : (k).length ≤ 9223372036854775807 := hlen.1
 have hl1 : (a).length ≤ 9223372036854775807 := hlen.2.1
 have hl2 : (t).length ≤ 9223372036854775807 := hlen.2.2.1
 have hl3 : (c).length ≤ 9223372036854775807 := hlen.2.2.2.1
 replace hpre : True := hpre
 show HT (cx Tryd.prog 121 (tyOf Tryd.prog) gl []) _ [(0, .p (.bs (k))), (1, .p (.bs (a))), (2, .p (.bs (t))), (3, .p (.bs (c)))] [] _
 refine HT.seq (HT.region S_lawCloses_ok (So.q rfl rfl (V.as (v := .p (.v (.bool false))) rfl (So.e (HT.seq (HT.region S_lawCloses_ok ?_))))))
 refine So.n (lk rfl) (A.call0 [] 1 rfl rfl rfl rfl trivial trivial () trivial trivial (by trivial) (Φ := fun _ => True) (fun _ _ => trivial) (.inl rfl) (v := .p (.v (.bool true))) rfl (O' := _) rfl (fun h1 => ?_))
 refine So.q rfl rfl (V.as (v := .p (.v (.bool true))) rfl (So.e (HT.seq (HT.seq (HT.region S_lawCloses_ok (So.q rfl rfl (V.mv (v := .p (.bs _)) rfl ?_)))))))
 refine So.n (lk rfl) (A.call0 [.p (.bs _)] 1 rfl rfl rfl rfl ⟨trivial, trivial⟩ trivial _ ⟨.refl _, trivial⟩ trivial (by trivial) (Φ := fun _ => True) (fun _ _ => trivial) (.inl rfl) (v := .p (.v (.bool _))) rfl (O' := _) rfl (fun h2 => ?_))
 refine So.q rfl rfl (V.mv (v := .p (.v (.bool _))) rfl ?_)
 refine So.gd rfl rfl (lk rfl) (lk rfl) (fun h3 => ?_) (fun h3 => ?_)
 ·have h3 := of_decide_eq_false h3
  refine A.v rfl (V.mv (v := .p (.bs _)) rfl (So.gy rfl rfl (lk rfl) (lk rfl) ?_))
  refine A.call0 [.p (.bs _)] 1 rfl rfl rfl rfl ⟨trivial, trivial⟩ trivial _ ⟨.refl _, trivial⟩ trivial (by trivial) (Φ := fun _ => True) (fun _ _ => trivial) (.inl rfl) (v := .p (.v (.bool _))) rfl (O' := _) rfl (fun h4 => ?_)
  refine So.q rfl rfl (V.pkFalse (u := .p (.v (.bool _))) rfl rfl (So.q rfl rfl (V.mv (v := .p (.v (.bool _))) rfl ?_)))
  refine So.gd rfl rfl (lk rfl) (lk rfl) (fun h5 => ?_) (fun h5 => ?_)
  ·have h5 := of_decide_eq_false h5
   refine A.v rfl (V.mv (v := .p (.bs _)) rfl (So.gy rfl rfl (lk rfl) (lk rfl) ?_))
   refine A.call0 [.p (.bs _)] 1 rfl rfl rfl rfl ⟨trivial, trivial⟩ trivial _ ⟨.refl _, trivial⟩ trivial (by trivial) (Φ := fun _ => True) (fun _ _ => trivial) (.inl rfl) (v := .p (.v (.bool _))) rfl (O' := _) rfl (fun h6 => ?_)
   refine So.q rfl rfl (V.pkFalse (u := .p (.v (.bool _))) rfl rfl (So.q rfl rfl (V.mv (v := .p (.v (.bool _))) rfl ?_)))
   refine So.gd rfl rfl (lk rfl) (lk rfl) (fun h7 => ?_) (fun h7 => ?_)
   ·have h7 := of_decide_eq_false h7
    refine A.v rfl (V.mv (v := .p (.bs _)) rfl (So.gy rfl rfl (lk rfl) (lk rfl) ?_))
    refine A.call0 [.p (.bs _)] 1 rfl rfl rfl rfl ⟨trivial, trivial⟩ trivial _ ⟨.refl _, trivial⟩ trivial (by trivial) (Φ := fun _ => True) (fun _ _ => trivial) (.inl rfl) (v := .p (.v (.bool _))) rfl (O' := _) rfl (fun h8 => ?_)
    refine So.q rfl rfl (V.pkFalse (u := .p (.v (.bool _))) rfl rfl (So.e ?_))
    show HT _ _ _ _ _
    refine R.cond rfl rfl (fun h9 => ?_) (fun h9 => ?_)
    ·have h9 := of_decide_eq_true h9
     refine HT.seq (HT.region S_lawCloses_ok (So.q rfl rfl (V.mv (v := .p (.v (.bool true))) rfl (So.q rfl rfl (V.as (v := .p (.v (.bool true))) rfl (So.e ?_))))))
     show HT _ _ _ _ _
     refine HT.ret ?_
     exact ret_ok (sg []) h rfl rfl rfl trivial ⟨trivial, trivial⟩ rfl ⟨⟨⟨le_bool (by first | with_reducible rfl | exact decide_eq_true rfl | (simp; done)), trivial⟩, trivial⟩, trivial⟩
    ·have h9 := of_decide_eq_false h9
     refine HT.skip (HT.seq (HT.region S_lawCloses_ok (So.n (lk rfl) (A.bsl 1 ty22 ty5 rfl (lk rfl) (lk rfl) (fun _ => rfl) rfl rfl trivial trivial rfl (N := 0) rfl (c := .bs []) rfl (So.q rfl rfl (V.mv (v := .p (.bs _)) rfl (So.n (lk rfl) (A.apOwn ty22 ty5 rfl rfl rfl rfl (u := .p (.bs _)) rfl rfl (l' := t) (by simp) (mn := t.length) (by simp) (by first | rfl | omega | (simp; done) | (simp; omega)) rfl rfl rfl (So.q rfl rfl (V.as (v := .own 1 0 _) rfl (So.e (HT.seq (HT.region S_lawCloses_ok ?_)))))))))))))
     refine So.n (lk rfl) (A.bsl 2 ty22 ty5 rfl (lk rfl) (lk rfl) (fun _ => rfl) rfl rfl trivial trivial rfl (N := 0) rfl (c := .bs []) rfl (So.q rfl rfl (V.mv (v := .p (.bs _)) rfl (So.n (lk rfl) (A.apOwn ty22 ty5 rfl rfl rfl rfl (u := .p (.bs _)) rfl rfl (l' := c) (by simp) (mn := c.length) (by simp) (by first | rfl | omega | (simp; done) | (simp; omega)) rfl rfl rfl (So.q rfl rfl (V.as (v := .own 2 0 _) rfl (So.e (HT.seq (HT.region S_lawCloses_ok (So.q rfl rfl (V.mv (v := .p (.bs _)) rfl (So.q rfl rfl (V.mv (v := .p (.bs _)) rfl (So.q rfl rfl (V.mv (v := .own 1 0 _) rfl ?_))))))))))))))))
     refine So.n (lk rfl) (A.call0 [.p (.bs _), .p (.bs _), .p (.bs _)] 3 rfl rfl rfl rfl ⟨trivial, trivial, trivial, trivial⟩ trivial (_, _, _) ⟨.refl _, .refl _, le_full, trivial⟩ trivial (by trivial) (Φ := fun _ => True) (fun _ _ => trivial) (.inr ⟨fun j hj => by match j, hj with | 0, _ => exact trivial | 1, _ => exact trivial, by simp [Hp.scal, OC.scal, PV.scal, BV.scal]⟩) (v := .tup 2 _) rfl (O' := (5, ⟨5, 1, _, true, .bs _⟩) :: _) rfl (fun h10 => ?_))
     refine So.q rfl rfl (V.mv (v := .tup 2 _) rfl (So.q rfl rfl (V.ext rfl (lk rfl) (v := .own 5 0 _) rfl (So.q rfl rfl (V.ext rfl (lk rfl) (v := .p (.v (.int .i64 _))) rfl (So.q rfl rfl (V.as (v := .own 5 0 _) rfl (So.q rfl rfl (V.as (v := .p (.v (.int .i64 _))) rfl (So.e (HT.seq (HT.region S_lawCloses_ok (So.q rfl rfl (V.mv (v := .p (.bs _)) rfl (So.q rfl rfl (V.mv (v := .p (.bs _)) rfl ?_))))))))))))))))
     refine So.q rfl rfl (V.mv (v := .own 2 0 _) rfl ?_)
     refine So.n (lk rfl) (A.call0 [.p (.bs _), .p (.bs _), .p (.bs _)] 6 rfl rfl rfl rfl ⟨trivial, trivial, trivial, trivial⟩ trivial (_, _, _) ⟨.refl _, .refl _, le_full, trivial⟩ trivial (by trivial) (Φ := fun _ => True) (fun _ _ => trivial) (.inr ⟨fun j hj => by match j, hj with | 0, _ => exact trivial | 1, _ => exact trivial, by simp [Hp.scal, OC.scal, PV.scal, BV.scal]⟩) (v := .tup 2 _) rfl (O' := (8, ⟨5, 1, _, true, .bs _⟩) :: _) rfl (fun h11 => ?_))
     refine So.q rfl rfl (V.mv (v := .tup 2 _) rfl (So.q rfl rfl (V.ext rfl (lk rfl) (v := .own 8 0 _) rfl (So.q rfl rfl (V.ext rfl (lk rfl) (v := .p (.v (.int .i64 _))) rfl (So.q rfl rfl (V.as (v := .own 8 0 _) rfl (So.q rfl rfl (V.as (v := .p (.v (.int .i64 _))) rfl (So.e (HT.seq (HT.seq (HT.region S_lawCloses_ok (So.q rfl rfl (V.as (v := .p (.v (.int .i64 (0)))) rfl ?_)))))))))))))))
     refine So.e (HT.block ?_)
     refine R.loop (σ := Nat) (fun s => [(16, .p (.v (.int .i64 ((s : Int)))))]) (fun s => [(1, ⟨5, 1, t.length, true, .bs (incV s t)⟩)]) [0, 1, 2, 3, 8, 9, 10, 11, 12, 13, 14, 15] [2, 5, 8] (fun s => s ≤ t.length) (fun s => t.length - s) (0) (fr0 := [(0, .p (.bs _)), (1, .p (.bs _)), (2, .p (.bs _)), (3, .p (.bs _)), (8, .p (.v (.bool false))), (9, .p (.v (.bool true))), (10, .own 1 0 _), (11, .own 2 0 _), (12, .own 5 0 _), (13, .p (.v (.int .i64 _))), (14, .own 8 0 _), (15, .p (.v (.int .i64 _)))]) (O0 := [(2, ⟨_, _, _, _, .bs _⟩), (5, ⟨_, _, _, _, .bs _⟩), (8, ⟨_, _, _, _, .bs _⟩)]) rfl rfl (by first | rfl | omega | (simp; done) | (simp; omega)) ⟨⟨⟨le_int (by first | rfl | omega | (simp; done) | (simp; omega)), trivial⟩, ⟨.refl _, trivial⟩, ⟨.refl _, trivial⟩, ⟨.refl _, trivial⟩, ⟨.refl _, trivial⟩, ⟨.refl _, trivial⟩, ⟨.refl _, trivial⟩, ⟨.refl _, rfl⟩, ⟨.refl _, rfl⟩, ⟨.refl _, rfl⟩, ⟨.refl _, trivial⟩, ⟨.refl _, rfl⟩, ⟨.refl _, trivial⟩, trivial⟩, ⟨⟨_, rfl, .inl (ob_bs (by first | rfl | ((try dsimp only); first | rfl | omega | (simp; done) | (simp; omega))) (by first | rfl | ((try dsimp only); first | rfl | omega | (simp; done) | (simp; omega)))), trivial⟩, ⟨_, rfl, .inl rfl, trivial⟩, ⟨_, rfl, .inl rfl, trivial⟩, ⟨_, rfl, .inl rfl, trivial⟩, trivial⟩⟩ (fun s hP0 => ?_)
     refine HT.seq (HT.seq (HT.region S_lawCloses_ok (So.q rfl rfl (V.mv (v := .p (.v (.int .i64 ((_ : Nat) : Int)))) rfl (So.q rfl rfl (V.mv (v := .own 1 0 _) rfl (So.q rfl rfl (V.len ty22 (v := .own 1 0 _) rfl rfl (So.q rfl rfl (V.bin (a := (.v (.int .i64 ((_ : Nat) : Int)))) (b := (.v (.int .i64 _))) (r := .v (.bool _)) rfl rfl rfl trivial (So.e ?_)))))))))))
     show HT _ _ _ _ _
     refine R.cond rfl rfl (fun h12 => ?_) (fun h12 => ?_)
     ·have h12 := of_decide_eq_true h12
      refine HT.skip (HT.seq (HT.block (HT.region S_lawCloses_ok (So.q rfl rfl (V.mv (v := .own 1 0 _) rfl (So.q rfl rfl (V.mv (v := .p (.v (.int .i64 ((_ : Nat) : Int)))) rfl (So.q rfl rfl (V.ixOwn10 ty22 ty5 rfl rfl rfl rfl rfl (by omega) (Int.toNat_natCast _) (So.q rfl rfl (V.ldPtr ty5 rfl rfl rfl (by first | rfl | omega | (simp; done) | (simp; omega)) (v := .p (.u8 _)) rfl (So.q rfl rfl (V.bin (a := (.u8 _)) (b := (.u8 1)) (r := .u8 _) rfl rfl rfl trivial (So.q rfl rfl (V.ixOwn10 ty22 ty5 rfl rfl rfl rfl rfl (by omega) (Int.toNat_natCast _) ?_)))))))))))))))
      refine So.s (A.sto ty5 rfl rfl rfl (v := .p (.u8 _)) rfl trivial rfl (by first | rfl | omega | (simp; done) | (simp; omega)) rfl rfl (So.e (HT.region S_lawCloses_ok (So.q rfl rfl (V.mv (v := .p (.v (.int .i64 ((_ : Nat) : Int)))) rfl (So.q rfl rfl (V.addI rfl rfl (by omega) (So.q rfl rfl (V.as (v := .p (.v (.int .i64 _))) rfl (So.e ?_))))))))))
      refine ⟨s + 1, by first | rfl | omega | (simp; done) | (simp; omega), by omega, ⟨⟨⟨le_int (by first | rfl | omega | (simp; done) | (simp; omega)), trivial⟩, ⟨.refl _, trivial⟩, ⟨.refl _, trivial⟩, ⟨.refl _, trivial⟩, ⟨.refl _, trivial⟩, ⟨.refl _, trivial⟩, ⟨.refl _, trivial⟩, ⟨.refl _, rfl⟩, ⟨.refl _, rfl⟩, ⟨.refl _, rfl⟩, ⟨.refl _, trivial⟩, ⟨.refl _, rfl⟩, ⟨.refl _, trivial⟩, trivial⟩, ⟨⟨_, rfl, .inl (ob_bs (by first | rfl | ((try dsimp only); first | exact incV_0 _ | (exact incV_step (by omega)) | rfl)) (by first | rfl | ((try dsimp only); first | exact incV_0 _ | (exact incV_step (by omega)) | rfl))), trivial⟩, ⟨_, rfl, .inl rfl, trivial⟩, ⟨_, rfl, .inl rfl, trivial⟩, ⟨_, rfl, .inl rfl, trivial⟩, trivial⟩⟩⟩
     ·have h12 := of_decide_eq_false h12
      refine HT.exit ?_
      show HT _ _ _ _ _
      refine HT.seq (HT.seq (HT.region S_lawCloses_ok (So.q rfl rfl (V.as (v := .p (.v (.int .i64 (0)))) rfl (So.e (HT.block ?_))))))
      refine R.loop (σ := Nat) (fun r => [(17, .p (.v (.int .i64 ((r : Int)))))]) (fun r => [(2, ⟨5, 1, c.length, true, .bs (incV r c)⟩)]) [0, 1, 2, 3, 8, 9, 11, 12, 13, 14, 15] [1, 5, 8] (fun r => r ≤ c.length) (fun r => c.length - r) (0) (fr0 := [(0, .p (.bs _)), (1, .p (.bs _)), (2, .p (.bs _)), (3, .p (.bs _)), (8, .p (.v (.bool false))), (9, .p (.v (.bool true))), (11, .own 2 0 _), (12, .own 5 0 _), (13, .p (.v (.int .i64 _))), (14, .own 8 0 _), (15, .p (.v (.int .i64 _)))]) (O0 := [(1, ⟨_, _, _, _, .bs _⟩), (5, ⟨_, _, _, _, .bs _⟩), (8, ⟨_, _, _, _, .bs _⟩)]) rfl rfl (by first | rfl | omega | (simp; done) | (simp; omega)) ⟨⟨⟨le_int (by first | rfl | omega | (simp; done) | (simp; omega)), trivial⟩, ⟨.refl _, trivial⟩, ⟨.refl _, trivial⟩, ⟨.refl _, trivial⟩, ⟨.refl _, trivial⟩, ⟨.refl _, trivial⟩, ⟨.refl _, trivial⟩, ⟨.refl _, rfl⟩, ⟨.refl _, rfl⟩, ⟨.refl _, trivial⟩, ⟨.refl _, rfl⟩, ⟨.refl _, trivial⟩, trivial⟩, ⟨⟨_, rfl, .inl (ob_bs (by first | rfl | ((try dsimp only); first | rfl | omega | (simp; done) | (simp; omega))) (by first | rfl | ((try dsimp only); first | rfl | omega | (simp; done) | (simp; omega)))), trivial⟩, ⟨_, rfl, .inl rfl, trivial⟩, ⟨_, rfl, .inl rfl, trivial⟩, ⟨_, rfl, .inl rfl, trivial⟩, trivial⟩⟩ (fun r hP1 => ?_)
      refine HT.seq (HT.seq (HT.region S_lawCloses_ok (So.q rfl rfl (V.mv (v := .p (.v (.int .i64 ((_ : Nat) : Int)))) rfl (So.q rfl rfl (V.mv (v := .own 2 0 _) rfl (So.q rfl rfl (V.len ty22 (v := .own 2 0 _) rfl rfl (So.q rfl rfl (V.bin (a := (.v (.int .i64 ((_ : Nat) : Int)))) (b := (.v (.int .i64 _))) (r := .v (.bool _)) rfl rfl rfl trivial (So.e ?_)))))))))))
      show HT _ _ _ _ _
      refine R.cond rfl rfl (fun h13 => ?_) (fun h13 => ?_)
      ·have h13 := of_decide_eq_true h13
       refine HT.skip (HT.seq (HT.block (HT.region S_lawCloses_ok (So.q rfl rfl (V.mv (v := .own 2 0 _) rfl (So.q rfl rfl (V.mv (v := .p (.v (.int .i64 ((_ : Nat) : Int)))) rfl (So.q rfl rfl (V.ixOwn10 ty22 ty5 rfl rfl rfl rfl rfl (by omega) (Int.toNat_natCast _) (So.q rfl rfl (V.ldPtr ty5 rfl rfl rfl (by first | rfl | omega | (simp; done) | (simp; omega)) (v := .p (.u8 _)) rfl (So.q rfl rfl (V.bin (a := (.u8 _)) (b := (.u8 1)) (r := .u8 _) rfl rfl rfl trivial (So.q rfl rfl (V.ixOwn10 ty22 ty5 rfl rfl rfl rfl rfl (by omega) (Int.toNat_natCast _) ?_)))))))))))))))
       refine So.s (A.sto ty5 rfl rfl rfl (v := .p (.u8 _)) rfl trivial rfl (by first | rfl | omega | (simp; done) | (simp; omega)) rfl rfl (So.e (HT.region S_lawCloses_ok (So.q rfl rfl (V.mv (v := .p (.v (.int .i64 ((_ : Nat) : Int)))) rfl (So.q rfl rfl (V.addI rfl rfl (by omega) (So.q rfl rfl (V.as (v := .p (.v (.int .i64 _))) rfl (So.e ?_))))))))))
       refine ⟨r + 1, by first | rfl | omega | (simp; done) | (simp; omega), by omega, ⟨⟨⟨le_int (by first | rfl | omega | (simp; done) | (simp; omega)), trivial⟩, ⟨.refl _, trivial⟩, ⟨.refl _, trivial⟩, ⟨.refl _, trivial⟩, ⟨.refl _, trivial⟩, ⟨.refl _, trivial⟩, ⟨.refl _, trivial⟩, ⟨.refl _, rfl⟩, ⟨.refl _, rfl⟩, ⟨.refl _, trivial⟩, ⟨.refl _, rfl⟩, ⟨.refl _, trivial⟩, trivial⟩, ⟨⟨_, rfl, .inl (ob_bs (by first | rfl | ((try dsimp only); first | exact incV_0 _ | (exact incV_step (by omega)) | rfl)) (by first | rfl | ((try dsimp only); first | exact incV_0 _ | (exact incV_step (by omega)) | rfl))), trivial⟩, ⟨_, rfl, .inl rfl, trivial⟩, ⟨_, rfl, .inl rfl, trivial⟩, ⟨_, rfl, .inl rfl, trivial⟩, trivial⟩⟩⟩
      ·have h13 := of_decide_eq_false h13
       refine HT.exit ?_
       show HT _ _ _ _ _
       refine HT.seq (HT.region S_lawCloses_ok (So.q rfl rfl (V.mv (v := .p (.bs _)) rfl (So.q rfl rfl (V.mv (v := .p (.bs _)) rfl (So.q rfl rfl (V.mv (v := .p (.bs _)) rfl ?_)))))))
       refine So.n (lk rfl) (A.call0 [.p (.bs _), .p (.bs _), .p (.bs _)] 9 rfl rfl rfl rfl ⟨trivial, trivial, trivial, trivial⟩ trivial (_, _, _) ⟨.refl _, .refl _, .refl _, trivial⟩ trivial (by trivial) (Φ := fun _ => True) (fun _ _ => trivial) (.inl rfl) (v := .tup 2 _) rfl (O' := (11, ⟨5, 1, _, true, .bs _⟩) :: _) rfl (fun h14 => ?_))
       refine So.q rfl rfl (V.mv (v := .tup 2 _) rfl (So.q rfl rfl (V.ext rfl (lk rfl) (v := .own 11 0 _) rfl (So.q rfl rfl (V.ext rfl (lk rfl) (v := .p (.v (.int .i64 _))) rfl (So.q rfl rfl (V.as (v := .own 11 0 _) rfl (So.q rfl rfl (V.as (v := .p (.v (.int .i64 _))) rfl (So.e (HT.seq (HT.region S_lawCloses_ok (So.q rfl rfl (V.mv (v := .p (.bs _)) rfl (So.q rfl rfl (V.mv (v := .p (.bs _)) rfl ?_))))))))))))))))
       refine So.q rfl rfl (V.mv (v := .p (.bs _)) rfl ?_)
       refine So.n (lk rfl) (A.call0 [.p (.bs _), .p (.bs _), .p (.bs _)] 12 rfl rfl rfl rfl ⟨trivial, trivial, trivial, trivial⟩ trivial (_, _, _) ⟨.refl _, .refl _, .refl _, trivial⟩ trivial (by trivial) (Φ := fun _ => True) (fun _ _ => trivial) (.inl rfl) (v := .tup 2 _) rfl (O' := (14, ⟨5, 1, _, true, .bs _⟩) :: _) rfl (fun h15 => ?_))
       refine So.q rfl rfl (V.mv (v := .tup 2 _) rfl (So.q rfl rfl (V.ext rfl (lk rfl) (v := .own 14 0 _) rfl (So.q rfl rfl (V.ext rfl (lk rfl) (v := .p (.v (.int .i64 _))) rfl (So.q rfl rfl (V.as (v := .own 14 0 _) rfl (So.q rfl rfl (V.as (v := .p (.v (.int .i64 _))) rfl (So.e (HT.seq (HT.region S_lawCloses_ok (So.q rfl rfl (V.mv (v := .p (.v (.bool true))) rfl (So.q rfl rfl (V.mv (v := .p (.v (.bool true))) rfl ?_))))))))))))))))
       refine So.gy rfl rfl (lk rfl) (lk rfl) (A.v rfl (V.mv (v := .own 5 0 _) rfl (So.gy rfl rfl (lk rfl) (lk rfl) (A.v rfl (V.cvOwn ty9 rfl rfl rfl List.take_length (So.gy rfl rfl (lk rfl) (lk rfl) (A.v rfl (V.mv (v := .own 11 0 _) rfl (So.gy rfl rfl (lk rfl) (lk rfl) (A.v rfl (V.cvOwn ty9 rfl rfl rfl List.take_length (So.gy rfl rfl (lk rfl) (lk rfl) (A.v rfl (V.bin (a := (.str _)) (b := (.str _)) (r := .v (.bool _)) rfl rfl rfl trivial ?_))))))))))))))
       refine So.q rfl rfl (V.pkTrue (u := .p (.v (.bool _))) rfl rfl (So.q rfl rfl (V.mv (v := .p (.v (.bool _))) rfl ?_)))
       refine So.gd rfl rfl (lk rfl) (lk rfl) (fun h16 => ?_) (fun h16 => ?_)
       ·have h16 := of_decide_eq_true h16
        refine A.v rfl (V.mv (v := .p (.v (.int .i64 _))) rfl (So.gy rfl rfl (lk rfl) (lk rfl) (A.v rfl (V.mv (v := .p (.v (.int .i64 _))) rfl (So.gy rfl rfl (lk rfl) (lk rfl) (A.v rfl (V.bin (a := (.v (.int .i64 _))) (b := (.v (.int .i64 _))) (r := .v (.bool _)) rfl rfl rfl trivial (So.q rfl rfl (V.pkTrue (u := .p (.v (.bool _))) rfl rfl (So.q rfl rfl (V.mv (v := .p (.v (.bool _))) rfl ?_)))))))))))
        refine So.gd rfl rfl (lk rfl) (lk rfl) (fun h17 => ?_) (fun h17 => ?_)
        ·have h17 := of_decide_eq_true h17
         refine A.v rfl (V.mv (v := .own 8 0 _) rfl (So.gy rfl rfl (lk rfl) (lk rfl) (A.v rfl (V.cvOwn ty9 rfl rfl rfl List.take_length (So.gy rfl rfl (lk rfl) (lk rfl) (A.v rfl (V.mv (v := .own 14 0 _) rfl (So.gy rfl rfl (lk rfl) (lk rfl) (A.v rfl (V.cvOwn ty9 rfl rfl rfl List.take_length (So.gy rfl rfl (lk rfl) (lk rfl) (A.v rfl (V.bin (a := (.str _)) (b := (.str _)) (r := .v (.bool _)) rfl rfl rfl trivial (So.q rfl rfl (V.pkTrue (u := .p (.v (.bool _))) rfl rfl ?_)))))))))))))))
         refine So.q rfl rfl (V.mv (v := .p (.v (.bool _))) rfl ?_)
         refine So.gd rfl rfl (lk rfl) (lk rfl) (fun h18 => ?_) (fun h18 => ?_)
         ·have h18 := of_decide_eq_true h18
          refine A.v rfl (V.mv (v := .p (.v (.int .i64 _))) rfl (So.gy rfl rfl (lk rfl) (lk rfl) (A.v rfl (V.mv (v := .p (.v (.int .i64 _))) rfl (So.gy rfl rfl (lk rfl) (lk rfl) (A.v rfl (V.bin (a := (.v (.int .i64 _))) (b := (.v (.int .i64 _))) (r := .v (.bool _)) rfl rfl rfl trivial (So.q rfl rfl (V.pkTrue (u := .p (.v (.bool _))) rfl rfl (So.q rfl rfl (V.as (v := .p (.v (.bool _))) rfl (So.e ?_))))))))))))
          show HT _ _ _ _ _
          refine HT.ret ?_
          exact ret_ok (sg []) h rfl rfl rfl trivial ⟨trivial, trivial⟩ rfl ⟨⟨⟨le_bool (by first | with_reducible rfl | exact decide_eq_true rfl | (simp; done)), trivial⟩, trivial⟩, trivial⟩
         ·have h18 := of_decide_eq_false h18
          first | exact absurd (by first | with_reducible rfl | (simp only [take_full]; done) | rfl) h18 | exact absurd h18 (by first | with_reducible rfl | (simp only [take_full]; done) | rfl)
        ·have h17 := of_decide_eq_false h17
         first | exact absurd (by first | with_reducible rfl | (simp only [take_full]; done) | rfl) h17 | exact absurd h17 (by first | with_reducible rfl | (simp only [take_full]; done) | rfl)
       ·have h16 := of_decide_eq_false h16
        first | exact absurd (by first | with_reducible rfl | (simp only [take_full]; done) | rfl) h16 | exact absurd h16 (by first | with_reducible rfl | (simp only [take_full]; done) | rfl)
   ·have h7 := of_decide_eq_true h7
    refine So.gn (b := true) rfl rfl rfl (lk rfl) (lk rfl) (So.q rfl rfl (V.pkTrue (u := .p (.v (.bool true))) rfl rfl (So.e ?_)))
    show HT _ _ _ _ _
    refine R.condT rfl ?_
    refine HT.seq (HT.region S_lawCloses_ok (So.q rfl rfl (V.mv (v := .p (.v (.bool true))) rfl (So.q rfl rfl (V.as (v := .p (.v (.bool true))) rfl (So.e ?_))))))
    show HT _ _ _ _ _
    refine HT.ret ?_
    exact ret_ok (sg []) h rfl rfl rfl trivial ⟨trivial, trivial⟩ rfl ⟨⟨⟨le_bool (by first | with_reducible rfl | exact decide_eq_true rfl | (simp; done)), trivial⟩, trivial⟩, trivial⟩
  ·have h5 := of_decide_eq_true h5
   refine So.gn (b := true) rfl rfl rfl (lk rfl) (lk rfl) (So.q rfl rfl (V.pkTrue (u := .p (.v (.bool true))) rfl rfl (So.q rfl rfl (V.mv (v := .p (.v (.bool true))) rfl (So.gn (b := true) rfl rfl rfl (lk rfl) (lk rfl) (So.gn (b := true) rfl rfl rfl (lk rfl) (lk rfl) (So.q rfl rfl (V.pkTrue (u := .p (.v (.bool true))) rfl rfl (So.e ?_)))))))))
   show HT _ _ _ _ _
   refine R.condT rfl ?_
   refine HT.seq (HT.region S_lawCloses_ok (So.q rfl rfl (V.mv (v := .p (.v (.bool true))) rfl (So.q rfl rfl (V.as (v := .p (.v (.bool true))) rfl (So.e ?_))))))
   show HT _ _ _ _ _
   refine HT.ret ?_
   exact ret_ok (sg []) h rfl rfl rfl trivial ⟨trivial, trivial⟩ rfl ⟨⟨⟨le_bool (by first | with_reducible rfl | exact decide_eq_true rfl | (simp; done)), trivial⟩, trivial⟩, trivial⟩
 ·have h3 := of_decide_eq_true h3
  refine So.gn (b := true) rfl rfl rfl (lk rfl) (lk rfl) (So.q rfl rfl (V.pkTrue (u := .p (.v (.bool true))) rfl rfl (So.q rfl rfl (V.mv (v := .p (.v (.bool true))) rfl (So.gn (b := true) rfl rfl rfl (lk rfl) (lk rfl) (So.gn (b := true) rfl rfl rfl (lk rfl) (lk rfl) (So.q rfl rfl (V.pkTrue (u := .p (.v (.bool true))) rfl rfl (So.q rfl rfl (V.mv (v := .p (.v (.bool true))) rfl (So.gn (b := true) rfl rfl rfl (lk rfl) (lk rfl) (So.gn (b := true) rfl rfl rfl (lk rfl) (lk rfl) (So.q rfl rfl (V.pkTrue (u := .p (.v (.bool true))) rfl rfl ?_))))))))))))))
  refine So.e ?_
  show HT _ _ _ _ _
  refine R.condT rfl ?_
  refine HT.seq (HT.region S_lawCloses_ok (So.q rfl rfl (V.mv (v := .p (.v (.bool true))) rfl (So.q rfl rfl (V.as (v := .p (.v (.bool true))) rfl (So.e ?_))))))
  show HT _ _ _ _ _
  refine HT.ret ?_
  exact ret_ok (sg []) h rfl rfl rfl trivial ⟨trivial, trivial⟩ rfl ⟨⟨⟨le_bool (by first | with_reducible rfl | exact decide_eq_true rfl | (simp; done)), trivial⟩, trivial⟩, trivial⟩
end Go.Vh
