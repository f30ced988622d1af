/- What is proved: each function of the seat's program does what its contract says, wherever it is called; no condition. -/
import Derived.Test.YtkjomelpdpclcaaDoorWalk0
import Derived.Test.YtkjomelpdpclcaaDoorWalk2
import Derived.Test.YtkjomelpdpclcaaDoorWalk1
set_option linter.unusedVariables false
set_option linter.unusedSimpArgs false
set_option linter.unusedVariables false
set_option linter.unusedSimpArgs false
namespace Go.Vh
open Go Go.Vc Go.Proofs Go.Vw
def ropSp : Sp := ⟨[], mkE (α := (List UInt8) × (List UInt8) × (List UInt8)) (fun (k, a, c) => [.p (.bs (k)), .p (.bs (a)), .p (.bs (c))]) (fun (k, a, c) => []) (fun (k, a, c) => True) (fun (k, a, c) => [.own 2 (0) ((opF k a c).length), .p (.v (.int .i64 (opE k a c)))]) (fun (k, a, c) => [(2, ⟨5, 1, (opF k a c).length, true, .bs (opF k a c)⟩)])⟩
def S_rop : FuncId → Option Sp := fun f => if f = 17 then some rtagSp else if f = 16 then some rstreamSp else none
theorem S_rop_ok : ∀ f s, S_rop f = some s → FOK Tryd.prog gl f s := fun f s h => by
 unfold S_rop at h
 split at h
 ·rename_i e; cases h; subst e; exact rtag_ok
 split at h
 ·rename_i e; cases h; subst e; exact rstream_ok
 cases h
theorem S_rop_det : ∀ f s, S_rop f = some s → SpDet s.sp := fun f s h => by
 unfold S_rop at h
 split at h
 ·cases h; exact mkE_det _ _ _ _ _
 split at h
 ·cases h; exact mkE_det _ _ _ _ _
 cases h
set_option maxHeartbeats 1000000 in
set_option maxRecDepth 20000 in
theorem rop_ok : FOK Tryd.prog gl 12 ropSp := by
 refine FOK.ofE (tyOf_ok Tryd.prog) (slots := [6, 7]) (nt := 46) Tryd.func12 rfl rfl rfl rfl (by decide) 3 (fun ⟨_, _, _⟩ => rfl) (by decide) (fun ⟨_, _, _⟩ => ⟨trivial, trivial, trivial, trivial⟩) ?_
 rintro ⟨k, a, c⟩ kk hlen hpre h
 have hl0 : (k).length ≤ 9223372036854775807 := hlen.1
 have hl1 : (a).length ≤ 9223372036854775807 := hlen.2.1
 have hl2 : (c).length ≤ 9223372036854775807 := hlen.2.2.1
 replace hpre : True := hpre
 show HT (cx Tryd.prog 46 (tyOf Tryd.prog) gl []) _ [(0, .p (.bs (k))), (1, .p (.bs (a))), (2, .p (.bs (c)))] [] _
 have hks := kSt_len k
 have hkt := kTg_len k
 have hdl : (c.drop (c.length - 32)).length = c.length - (c.length - 32) := List.length_drop
 have htl : (c.take (c.length - 32)).length = min (c.length - 32) c.length := List.length_take
 have hm32 := max32 c.length
 refine HT.seq (HT.region S_rop_ok (So.q rfl rfl (V.as (v := .p (.v (.slice none 0 0))) rfl (So.q rfl rfl (V.as (v := .p (.v (.int .i64 (0)))) rfl (So.e (HT.seq (HT.seq (HT.region S_rop_ok (So.q rfl rfl (V.mv (v := .p (.bs _)) rfl (So.q rfl rfl (V.len ty22 (v := .p (.bs _)) rfl rfl ?_)))))))))))))
 refine So.q rfl rfl (V.bin (a := (.v (.int .i64 _))) (b := (.v (.int .i64 (32)))) (r := .v (.bool _)) rfl rfl rfl trivial (So.e ?_))
 show HT _ _ _ _ _
 refine R.cond rfl rfl (fun h1 => ?_) (fun h1 => ?_)
 ·have h1 := of_decide_eq_false (bnT h1)
  refine HT.seq (HT.region S_rop_ok (So.q rfl rfl (V.as (v := .p (.v (.slice none 0 0))) rfl (So.q rfl rfl (V.as (v := .p (.v (.int .i64 (1)))) rfl (So.e ?_))))))
  show HT _ _ _ _ _
  refine R.phan 6 1 5 1 (.bs []) rfl rfl rfl ⟨rfl, rfl⟩ ?_
  refine HT.ret ?_
  first | have hR := op_1 (k := k) (a := a) (c := c) (by omega) | have hR := op_2 (k := k) (a := a) (c := c) (by omega) (by omega) | have hR := op_3 (k := k) (a := a) (c := c) (by omega) (by omega) (op_5 (by omega)) | have hR := op_4 (k := k) (a := a) (c := c) (by omega) (by omega) ((op_str (by omega)).1 (by assumption)) | have hR := op_3 (k := k) (a := a) (c := c) (by omega) (by omega) (mt (op_str (by omega)).2 (by assumption))
  exact ret_ok (sg [(2, 1)]) h rfl rfl rfl ⟨trivial, trivial⟩ ⟨rfl, trivial, trivial⟩ rfl ⟨⟨⟨le_own2 (by first | rfl | omega) (by first | exact hR.2.symm | exact hR.1.symm | exact congrArg List.length hR.1.symm | (rw [hR.1, turn_len]; done) | (rw [hR.1, List.length_append, turn_len, mark_len]; done)), rfl⟩, ⟨le_int (by first | exact hR.2.symm | exact hR.1.symm | exact congrArg List.length hR.1.symm | (rw [hR.1, turn_len]; done) | (rw [hR.1, List.length_append, turn_len, mark_len]; done)), trivial⟩, trivial⟩, ⟨⟨_, rfl, .inl (ob_bs (by first | rfl | ((try dsimp only); (first | exact hR.2.symm | exact hR.1.symm | exact congrArg List.length hR.1.symm | (rw [hR.1, turn_len]; done) | (rw [hR.1, List.length_append, turn_len, mark_len]; done)))) (by first | rfl | ((try dsimp only); (first | exact hR.2.symm | exact hR.1.symm | exact congrArg List.length hR.1.symm | (rw [hR.1, turn_len]; done) | (rw [hR.1, List.length_append, turn_len, mark_len]; done))))), trivial⟩, trivial⟩⟩
 ·have h1 := of_decide_eq_true (bnF h1)
  refine HT.skip (HT.seq (HT.seq (HT.region S_rop_ok (So.q rfl rfl (V.mv (v := .p (.bs _)) rfl (So.q rfl rfl (V.len ty22 (v := .p (.bs _)) rfl rfl (So.q rfl rfl (V.bin (a := (.v (.int .i64 _))) (b := (.v (.int .i64 (32768)))) (r := .v (.bool _)) rfl rfl rfl trivial (So.q rfl rfl (V.mv (v := .p (.v (.bool _))) rfl ?_)))))))))))
  refine So.gd rfl rfl (lk rfl) (lk rfl) (fun h2 => ?_) (fun h2 => ?_)
  ·have h2 := of_decide_eq_false h2
   refine A.v rfl (V.mv (v := .p (.bs _)) rfl (So.gy rfl rfl (lk rfl) (lk rfl) (A.v rfl (V.len ty22 (v := .p (.bs _)) rfl rfl (So.gy rfl rfl (lk rfl) (lk rfl) (A.v rfl (V.bin (a := (.v (.int .i64 _))) (b := (.v (.int .i64 (32800)))) (r := .v (.bool _)) rfl rfl rfl trivial (So.q rfl rfl (V.pkFalse (u := .p (.v (.bool _))) rfl rfl (So.e ?_))))))))))
   show HT _ _ _ _ _
   refine R.cond rfl rfl (fun h3 => ?_) (fun h3 => ?_)
   ·have h3 := of_decide_eq_true h3
    refine HT.seq (HT.region S_rop_ok (So.q rfl rfl (V.as (v := .p (.v (.slice none 0 0))) rfl (So.q rfl rfl (V.as (v := .p (.v (.int .i64 (2)))) rfl (So.e ?_))))))
    show HT _ _ _ _ _
    refine R.phan 6 1 5 1 (.bs []) rfl rfl rfl ⟨rfl, rfl⟩ ?_
    refine HT.ret ?_
    first | have hR := op_1 (k := k) (a := a) (c := c) (by omega) | have hR := op_2 (k := k) (a := a) (c := c) (by omega) (by omega) | have hR := op_3 (k := k) (a := a) (c := c) (by omega) (by omega) (op_5 (by omega)) | have hR := op_4 (k := k) (a := a) (c := c) (by omega) (by omega) ((op_str (by omega)).1 (by assumption)) | have hR := op_3 (k := k) (a := a) (c := c) (by omega) (by omega) (mt (op_str (by omega)).2 (by assumption))
    exact ret_ok (sg [(2, 1)]) h rfl rfl rfl ⟨trivial, trivial⟩ ⟨rfl, trivial, trivial⟩ rfl ⟨⟨⟨le_own2 (by first | rfl | omega) (by first | exact hR.2.symm | exact hR.1.symm | exact congrArg List.length hR.1.symm | (rw [hR.1, turn_len]; done) | (rw [hR.1, List.length_append, turn_len, mark_len]; done)), rfl⟩, ⟨le_int (by first | exact hR.2.symm | exact hR.1.symm | exact congrArg List.length hR.1.symm | (rw [hR.1, turn_len]; done) | (rw [hR.1, List.length_append, turn_len, mark_len]; done)), trivial⟩, trivial⟩, ⟨⟨_, rfl, .inl (ob_bs (by first | rfl | ((try dsimp only); (first | exact hR.2.symm | exact hR.1.symm | exact congrArg List.length hR.1.symm | (rw [hR.1, turn_len]; done) | (rw [hR.1, List.length_append, turn_len, mark_len]; done)))) (by first | rfl | ((try dsimp only); (first | exact hR.2.symm | exact hR.1.symm | exact congrArg List.length hR.1.symm | (rw [hR.1, turn_len]; done) | (rw [hR.1, List.length_append, turn_len, mark_len]; done))))), trivial⟩, trivial⟩⟩
   ·have h3 := of_decide_eq_false h3
    refine HT.skip (HT.seq (HT.region S_rop_ok (So.q rfl rfl (V.mv (v := .p (.bs _)) rfl (So.q rfl rfl (V.len ty22 (v := .p (.bs _)) rfl rfl (So.q rfl rfl (V.subI rfl rfl (by omega) (So.q rfl rfl (V.as (v := .p (.v (.int .i64 _))) rfl (So.e (HT.seq (HT.seq ?_)))))))))))))
    refine HT.drawn S_rop_ok S_rop_det mixed (by kernel_rfl) ?_
    refine Sd.n (lk rfl) (V.mv (v := .p (.v (.int .i64 _))) rfl (Sd.n (lk rfl) (V.bin (a := (.v (.int .i64 _))) (b := (.v (.int .i64 (0)))) (r := .v (.bool _)) rfl rfl rfl trivial (Sd.n (lk rfl) (V.mv (v := .p (.v (.bool _))) rfl ?_)))))
    refine Sd.gd rfl rfl (lk rfl) (lk rfl) (fun h4 => ?_) (fun h4 => ?_)
    ·have h4 := of_decide_eq_false h4
     refine V.mv (v := .p (.bs _)) rfl ?_
     refine Sd.gy rfl rfl (lk rfl) (lk rfl) ?_
     refine V.mv (v := .p (.bs _)) rfl ?_
     refine Sd.gy rfl rfl (lk rfl) (lk rfl) ?_
     refine V.mv (v := .p (.bs _)) rfl ?_
     refine Sd.gy rfl rfl (lk rfl) (lk rfl) ?_
     refine V.mv (v := .p (.v (.int .i64 _))) rfl ?_
     refine Sd.gy rfl rfl (lk rfl) (lk rfl) ?_
     refine V.pb (r := .v (.int .i64 _)) (by decide) rfl rfl ?_
     refine Sd.gy rfl rfl (lk rfl) (lk rfl) ?_
     refine V.cutBsH ty22 ty5 rfl rfl rfl (by omega) (.inl rfl) rfl ?_
     refine Sd.gy rfl rfl (lk rfl) (lk rfl) ?_
     refine V.call [.p (.bs _), .p (.bs _), .p (.bs _)] 1 rfl rfl rfl rfl ⟨trivial, trivial, trivial, trivial⟩ trivial (k, a, c.take (c.length - 32)) ⟨.refl _, .refl _, le_bs (by first | rfl | (rw [hm32]; done)), trivial⟩ trivial (by first | omega | (simp only [List.drop_zero, List.take_length]; omega) | (simp; done) | (simp; omega)) (Φ := fun _ => True) (fun _ _ => trivial) (.inl ⟨trivial, trivial, trivial, trivial⟩) (v := .p (.bs _)) rfl (fun h5 => ?_)
     refine Sd.gy rfl rfl (lk rfl) (lk rfl) ?_
     refine V.cvBs ty9 rfl rfl ?_
     refine Sd.gy rfl rfl (lk rfl) (lk rfl) ?_
     refine V.mv (v := .p (.bs _)) rfl ?_
     refine Sd.gy rfl rfl (lk rfl) (lk rfl) ?_
     refine V.mv (v := .p (.v (.int .i64 _))) rfl ?_
     refine Sd.gy rfl rfl (lk rfl) (lk rfl) ?_
     refine V.pb (r := .v (.int .i64 _)) (by decide) rfl rfl ?_
     refine Sd.gy rfl rfl (lk rfl) (lk rfl) ?_
     refine V.cutBsL (mx := none) ty22 ty5 rfl rfl rfl (by omega) rfl ?_
     refine Sd.gy rfl rfl (lk rfl) (lk rfl) ?_
     refine V.cvBs ty9 rfl rfl ?_
     refine Sd.gy rfl rfl (lk rfl) (lk rfl) ?_
     refine V.bin (a := (.str _)) (b := (.str _)) (r := .v (.bool _)) rfl rfl rfl trivial ?_
     refine Sd.n (lk rfl) (V.pkFalse (u := .p (.v (.bool _))) rfl rfl (Sd.e ?_))
     show HT _ _ _ _ _
     refine R.cond rfl rfl (fun h6 => ?_) (fun h6 => ?_)
     ·have h6 := of_decide_eq_false (bnT h6)
      refine HT.seq (HT.region S_rop_ok (So.q rfl rfl (V.as (v := .p (.v (.slice none 0 0))) rfl (So.q rfl rfl (V.as (v := .p (.v (.int .i64 (121)))) rfl (So.e ?_))))))
      show HT _ _ _ _ _
      refine R.phan 6 1 5 1 (.bs []) rfl rfl rfl ⟨rfl, rfl⟩ ?_
      refine HT.ret ?_
      first | have hR := op_1 (k := k) (a := a) (c := c) (by omega) | have hR := op_2 (k := k) (a := a) (c := c) (by omega) (by omega) | have hR := op_3 (k := k) (a := a) (c := c) (by omega) (by omega) (op_5 (by omega)) | have hR := op_4 (k := k) (a := a) (c := c) (by omega) (by omega) ((op_str (by omega)).1 (by assumption)) | have hR := op_3 (k := k) (a := a) (c := c) (by omega) (by omega) (mt (op_str (by omega)).2 (by assumption))
      exact ret_ok (sg [(2, 1)]) h rfl rfl rfl ⟨trivial, trivial⟩ ⟨rfl, trivial, trivial⟩ rfl ⟨⟨⟨le_own2 (by first | rfl | omega) (by first | exact hR.2.symm | exact hR.1.symm | exact congrArg List.length hR.1.symm | (rw [hR.1, turn_len]; done) | (rw [hR.1, List.length_append, turn_len, mark_len]; done)), rfl⟩, ⟨le_int (by first | exact hR.2.symm | exact hR.1.symm | exact congrArg List.length hR.1.symm | (rw [hR.1, turn_len]; done) | (rw [hR.1, List.length_append, turn_len, mark_len]; done)), trivial⟩, trivial⟩, ⟨⟨_, rfl, .inl (ob_bs (by first | rfl | ((try dsimp only); (first | exact hR.2.symm | exact hR.1.symm | exact congrArg List.length hR.1.symm | (rw [hR.1, turn_len]; done) | (rw [hR.1, List.length_append, turn_len, mark_len]; done)))) (by first | rfl | ((try dsimp only); (first | exact hR.2.symm | exact hR.1.symm | exact congrArg List.length hR.1.symm | (rw [hR.1, turn_len]; done) | (rw [hR.1, List.length_append, turn_len, mark_len]; done))))), trivial⟩, trivial⟩⟩
     ·have h6 := of_decide_eq_true (bnF h6)
      refine HT.skip (HT.seq (HT.region S_rop_ok (So.q rfl rfl (V.mv (v := .p (.bs _)) rfl (So.q rfl rfl (V.mv (v := .p (.bs _)) rfl (So.q rfl rfl (V.mv (v := .p (.v (.int .i64 _))) rfl (So.q rfl rfl (V.cutBsH ty22 ty5 rfl rfl rfl (by omega) (.inl rfl) rfl ?_))))))))))
      refine So.n (lk rfl) (A.call0 [.p (.bs _), .p (.bs _)] 1 rfl rfl rfl rfl ⟨trivial, trivial, trivial⟩ trivial (k, c.take (c.length - 32)) ⟨.refl _, le_bs (by first | rfl | (congr 1; omega)), trivial⟩ trivial (by first | omega | (simp only [List.drop_zero, List.take_length]; omega) | (simp; done) | (simp; omega)) (Φ := fun _ => True) (fun _ _ => trivial) (.inl rfl) (v := .own 3 0 _) rfl (O' := (3, ⟨5, 1, _, true, .bs _⟩) :: _) rfl (fun h7 => ?_))
      refine So.q rfl rfl (V.as (v := .own 3 0 _) rfl (So.q rfl rfl (V.as (v := .p (.v (.int .i64 (0)))) rfl (So.e ?_))))
      show HT _ _ _ _ _
      refine HT.ret ?_
      first | have hR := op_1 (k := k) (a := a) (c := c) (by omega) | have hR := op_2 (k := k) (a := a) (c := c) (by omega) (by omega) | have hR := op_3 (k := k) (a := a) (c := c) (by omega) (by omega) (op_5 (by omega)) | have hR := op_4 (k := k) (a := a) (c := c) (by omega) (by omega) ((op_str (by omega)).1 (by assumption)) | have hR := op_3 (k := k) (a := a) (c := c) (by omega) (by omega) (mt (op_str (by omega)).2 (by assumption))
      exact ret_ok (sg [(2, 3)]) h rfl rfl rfl ⟨trivial, trivial⟩ ⟨rfl, trivial, trivial⟩ rfl ⟨⟨⟨le_own2 (by first | rfl | omega) (by first | exact hR.2.symm | exact hR.1.symm | exact congrArg List.length hR.1.symm | (rw [hR.1, turn_len]; done) | (rw [hR.1, List.length_append, turn_len, mark_len]; done)), rfl⟩, ⟨le_int (by first | exact hR.2.symm | exact hR.1.symm | exact congrArg List.length hR.1.symm | (rw [hR.1, turn_len]; done) | (rw [hR.1, List.length_append, turn_len, mark_len]; done)), trivial⟩, trivial⟩, ⟨⟨_, rfl, .inl (ob_bs (by first | rfl | ((try dsimp only); (first | exact hR.2.symm | exact hR.1.symm | exact congrArg List.length hR.1.symm | (rw [hR.1, turn_len]; done) | (rw [hR.1, List.length_append, turn_len, mark_len]; done)))) (by first | rfl | ((try dsimp only); (first | exact hR.2.symm | exact hR.1.symm | exact congrArg List.length hR.1.symm | (rw [hR.1, turn_len]; done) | (rw [hR.1, List.length_append, turn_len, mark_len]; done))))), trivial⟩, trivial⟩⟩
    ·have h4 := of_decide_eq_true h4
     refine Sd.gn (b := true) rfl rfl rfl (lk rfl) (lk rfl) (Sd.gn (b := true) rfl rfl rfl (lk rfl) (lk rfl) (Sd.gn (b := true) rfl rfl rfl (lk rfl) (lk rfl) (Sd.gn (b := true) rfl rfl rfl (lk rfl) (lk rfl) (Sd.gn (b := true) rfl rfl rfl (lk rfl) (lk rfl) (Sd.gn (b := true) rfl rfl rfl (lk rfl) (lk rfl) (Sd.gn (b := true) rfl rfl rfl (lk rfl) (lk rfl) (Sd.gn (b := true) rfl rfl rfl (lk rfl) (lk rfl) (Sd.gn (b := true) rfl rfl rfl (lk rfl) (lk rfl) (Sd.gn (b := true) rfl rfl rfl (lk rfl) (lk rfl) ?_)))))))))
     refine Sd.gn (b := true) rfl rfl rfl (lk rfl) (lk rfl) (Sd.gn (b := true) rfl rfl rfl (lk rfl) (lk rfl) (Sd.gn (b := true) rfl rfl rfl (lk rfl) (lk rfl) (Sd.n (lk rfl) (V.pkTrue (u := .p (.v (.bool true))) rfl rfl (Sd.e ?_)))))
     show HT _ _ _ _ _
     refine R.condT rfl ?_
     refine HT.seq (HT.region S_rop_ok (So.q rfl rfl (V.as (v := .p (.v (.slice none 0 0))) rfl (So.q rfl rfl (V.as (v := .p (.v (.int .i64 (121)))) rfl (So.e ?_))))))
     show HT _ _ _ _ _
     refine R.phan 6 1 5 1 (.bs []) rfl rfl rfl ⟨rfl, rfl⟩ ?_
     refine HT.ret ?_
     first | have hR := op_1 (k := k) (a := a) (c := c) (by omega) | have hR := op_2 (k := k) (a := a) (c := c) (by omega) (by omega) | have hR := op_3 (k := k) (a := a) (c := c) (by omega) (by omega) (op_5 (by omega)) | have hR := op_4 (k := k) (a := a) (c := c) (by omega) (by omega) ((op_str (by omega)).1 (by assumption)) | have hR := op_3 (k := k) (a := a) (c := c) (by omega) (by omega) (mt (op_str (by omega)).2 (by assumption))
     exact ret_ok (sg [(2, 1)]) h rfl rfl rfl ⟨trivial, trivial⟩ ⟨rfl, trivial, trivial⟩ rfl ⟨⟨⟨le_own2 (by first | rfl | omega) (by first | exact hR.2.symm | exact hR.1.symm | exact congrArg List.length hR.1.symm | (rw [hR.1, turn_len]; done) | (rw [hR.1, List.length_append, turn_len, mark_len]; done)), rfl⟩, ⟨le_int (by first | exact hR.2.symm | exact hR.1.symm | exact congrArg List.length hR.1.symm | (rw [hR.1, turn_len]; done) | (rw [hR.1, List.length_append, turn_len, mark_len]; done)), trivial⟩, trivial⟩, ⟨⟨_, rfl, .inl (ob_bs (by first | rfl | ((try dsimp only); (first | exact hR.2.symm | exact hR.1.symm | exact congrArg List.length hR.1.symm | (rw [hR.1, turn_len]; done) | (rw [hR.1, List.length_append, turn_len, mark_len]; done)))) (by first | rfl | ((try dsimp only); (first | exact hR.2.symm | exact hR.1.symm | exact congrArg List.length hR.1.symm | (rw [hR.1, turn_len]; done) | (rw [hR.1, List.length_append, turn_len, mark_len]; done))))), trivial⟩, trivial⟩⟩
  ·have h2 := of_decide_eq_true h2
   refine So.gn (b := true) rfl rfl rfl (lk rfl) (lk rfl) (So.gn (b := true) rfl rfl rfl (lk rfl) (lk rfl) (So.q rfl rfl (V.pkTrue (u := .p (.v (.bool true))) rfl rfl (So.e ?_))))
   show HT _ _ _ _ _
   refine R.condT rfl ?_
   refine HT.seq (HT.region S_rop_ok (So.q rfl rfl (V.as (v := .p (.v (.slice none 0 0))) rfl (So.q rfl rfl (V.as (v := .p (.v (.int .i64 (2)))) rfl (So.e ?_))))))
   show HT _ _ _ _ _
   refine R.phan 6 1 5 1 (.bs []) rfl rfl rfl ⟨rfl, rfl⟩ ?_
   refine HT.ret ?_
   first | have hR := op_1 (k := k) (a := a) (c := c) (by omega) | have hR := op_2 (k := k) (a := a) (c := c) (by omega) (by omega) | have hR := op_3 (k := k) (a := a) (c := c) (by omega) (by omega) (op_5 (by omega)) | have hR := op_4 (k := k) (a := a) (c := c) (by omega) (by omega) ((op_str (by omega)).1 (by assumption)) | have hR := op_3 (k := k) (a := a) (c := c) (by omega) (by omega) (mt (op_str (by omega)).2 (by assumption))
   exact ret_ok (sg [(2, 1)]) h rfl rfl rfl ⟨trivial, trivial⟩ ⟨rfl, trivial, trivial⟩ rfl ⟨⟨⟨le_own2 (by first | rfl | omega) (by first | exact hR.2.symm | exact hR.1.symm | exact congrArg List.length hR.1.symm | (rw [hR.1, turn_len]; done) | (rw [hR.1, List.length_append, turn_len, mark_len]; done)), rfl⟩, ⟨le_int (by first | exact hR.2.symm | exact hR.1.symm | exact congrArg List.length hR.1.symm | (rw [hR.1, turn_len]; done) | (rw [hR.1, List.length_append, turn_len, mark_len]; done)), trivial⟩, trivial⟩, ⟨⟨_, rfl, .inl (ob_bs (by first | rfl | ((try dsimp only); (first | exact hR.2.symm | exact hR.1.symm | exact congrArg List.length hR.1.symm | (rw [hR.1, turn_len]; done) | (rw [hR.1, List.length_append, turn_len, mark_len]; done)))) (by first | rfl | ((try dsimp only); (first | exact hR.2.symm | exact hR.1.symm | exact congrArg List.length hR.1.symm | (rw [hR.1, turn_len]; done) | (rw [hR.1, List.length_append, turn_len, mark_len]; done))))), trivial⟩, trivial⟩⟩
end Go.Vh

set_option linter.unusedVariables false
set_option linter.unusedSimpArgs false
namespace Go.Vh
open Go Go.Vc Go.Proofs Go.Vw
def lawBoundSp : Sp := ⟨[], mkE (α := (List UInt8) × (List UInt8) × (List UInt8) × (List UInt8) × Int × UInt8) (fun (k, a, t, o, i, y) => [.p (.bs (k)), .p (.bs (a)), .p (.bs (t)), .p (.bs (o)), .p (.v (.int .u16 (i))), .p (.u8 (y))]) (fun (k, a, t, o, i, y) => []) (fun (k, a, t, o, i, y) => 0 ≤ i ∧ i < 65536) (fun (k, a, t, o, i, y) => [.p (.v (.bool true))]) (fun (k, a, t, o, i, y) => [])⟩
def S_lawBound : FuncId → Option Sp := fun f => if f = 7 then some headSp else if f = 9 then some bclSp else if f = 8 then some greatSp else if f = 10 then some bopSp else if f = 12 then some ropSp else none
theorem S_lawBound_ok : ∀ f s, S_lawBound f = some s → FOK Tryd.prog gl f s := fun f s h => by
 unfold S_lawBound at h
 split at h
 ·rename_i e; cases h; subst e; exact head_ok
 split at h
 ·rename_i e; cases h; subst e; exact bcl_ok
 split at h
 ·rename_i e; cases h; subst e; exact great_ok
 split at h
 ·rename_i e; cases h; subst e; exact bop_ok
 split at h
 ·rename_i e; cases h; subst e; exact rop_ok
 cases h
set_option maxHeartbeats 1000000 in
set_option maxRecDepth 20000 in
theorem lawBound_ok : FOK Tryd.prog gl 5 lawBoundSp := by
 refine FOK.ofE (tyOf_ok Tryd.prog) (slots := [12]) (nt := 111) Tryd.func5 rfl rfl rfl rfl (by decide) 6 (fun ⟨_, _, _, _, _, _⟩ => rfl) (by decide) (fun ⟨_, _, _, _, _, _⟩ => ⟨trivial, trivial, trivial, trivial, trivial, trivial, trivial⟩) ?_
 rintro ⟨k, a, t, o, i, y⟩ kk hlen hpre h
 have hl0 : (k).length ≤ 9223372036854775807 := hlen.1
 have hl1 : (a).length ≤ 9223372036854775807 := hlen.2.1
 have hl2 : (t).length ≤ 9223372036854775807 := hlen.2.2.1
 have hl3 : (o).length ≤ 9223372036854775807 := hlen.2.2.2.1
 replace hpre : 0 ≤ i ∧ i < 65536 := hpre
 show HT (cx Tryd.prog 111 (tyOf Tryd.prog) gl []) _ [(0, .p (.bs (k))), (1, .p (.bs (a))), (2, .p (.bs (t))), (3, .p (.bs (o))), (4, .p (.v (.int .u16 (i)))), (5, .p (.u8 (y)))] [] _
 refine HT.seq (HT.region S_lawBound_ok (So.q rfl rfl (V.as (v := .p (.v (.bool false))) rfl (So.e (HT.seq (HT.region S_lawBound_ok ?_))))))
 refine So.n (lk rfl) (A.call0 [] 1 rfl rfl rfl rfl trivial trivial () trivial trivial (by trivial) (Φ := fun _ => True) (fun _ _ => trivial) (.inl rfl) (v := .p (.v (.bool true))) rfl (O' := _) rfl (fun h1 => ?_))
 refine So.q rfl rfl (V.as (v := .p (.v (.bool true))) rfl (So.e (HT.seq (HT.region S_lawBound_ok (So.q rfl rfl (V.mv (v := .p (.bs _)) rfl (So.q rfl rfl (V.mv (v := .p (.bs _)) rfl (So.q rfl rfl (V.mv (v := .p (.bs _)) rfl ?_))))))))))
 refine So.n (lk rfl) (A.call0 [.p (.bs _), .p (.bs _), .p (.bs _)] 1 rfl rfl rfl rfl ⟨trivial, trivial, trivial, trivial⟩ trivial (_, _, _) ⟨.refl _, .refl _, .refl _, trivial⟩ trivial (by trivial) (Φ := fun _ => True) (fun _ _ => trivial) (.inl rfl) (v := .tup 2 _) rfl (O' := (3, ⟨5, 1, _, true, .bs _⟩) :: _) rfl (fun h2 => ?_))
 refine So.q rfl rfl (V.mv (v := .tup 2 _) rfl (So.q rfl rfl (V.ext rfl (lk rfl) (v := .own 3 0 _) rfl (So.q rfl rfl (V.ext rfl (lk rfl) (v := .p (.v (.int .i64 _))) rfl (So.q rfl rfl (V.as (v := .own 3 0 _) rfl (So.q rfl rfl (V.as (v := .p (.v (.int .i64 _))) rfl (So.e (HT.seq (HT.seq (HT.region S_lawBound_ok (So.q rfl rfl (V.mv (v := .p (.v (.int .i64 _))) rfl ?_)))))))))))))))
 refine So.q rfl rfl (V.bin (a := (.v (.int .i64 _))) (b := (.v (.int .i64 (0)))) (r := .v (.bool _)) rfl rfl rfl trivial (So.q rfl rfl (V.mv (v := .p (.v (.bool _))) rfl ?_)))
 refine So.gd rfl rfl (lk rfl) (lk rfl) (fun h3 => ?_) (fun h3 => ?_)
 ·have h3 := of_decide_eq_true (bnF h3)
  refine A.v rfl (V.mv (v := .p (.bs _)) rfl (So.gy rfl rfl (lk rfl) (lk rfl) ?_))
  refine A.call0 [.p (.bs _)] 4 rfl rfl rfl rfl ⟨trivial, trivial⟩ trivial _ ⟨.refl _, trivial⟩ trivial (by trivial) (Φ := fun _ => True) (fun _ _ => trivial) (.inl rfl) (v := .p (.v (.bool _))) rfl (O' := _) rfl (fun h4 => ?_)
  refine So.q rfl rfl (V.pkFalse (u := .p (.v (.bool _))) rfl rfl (So.q rfl rfl (V.mv (v := .p (.v (.bool _))) rfl ?_)))
  refine So.gd rfl rfl (lk rfl) (lk rfl) (fun h5 => ?_) (fun h5 => ?_)
  ·have h5 := of_decide_eq_false h5
   refine A.v rfl (V.mv (v := .p (.bs _)) rfl (So.gy rfl rfl (lk rfl) (lk rfl) (A.v rfl (V.len ty22 (v := .p (.bs _)) rfl rfl (So.gy rfl rfl (lk rfl) (lk rfl) (A.v rfl (V.bin (a := (.v (.int .i64 _))) (b := (.v (.int .i64 (32768)))) (r := .v (.bool _)) rfl rfl rfl trivial (So.q rfl rfl (V.pkFalse (u := .p (.v (.bool _))) rfl rfl (So.q rfl rfl (V.mv (v := .p (.v (.bool _))) rfl ?_)))))))))))
   refine So.gd rfl rfl (lk rfl) (lk rfl) (fun h6 => ?_) (fun h6 => ?_)
   ·have h6 := of_decide_eq_false h6
    refine A.v rfl (V.mv (v := .own 3 0 _) rfl (So.gy rfl rfl (lk rfl) (lk rfl) (A.v rfl (V.len ty22 (v := .own 3 0 _) rfl rfl (So.gy rfl rfl (lk rfl) (lk rfl) (A.v rfl (V.bin (a := (.v (.int .i64 _))) (b := (.v (.int .i64 (32)))) (r := .v (.bool _)) rfl rfl rfl trivial (So.q rfl rfl (V.pkFalse (u := .p (.v (.bool _))) rfl rfl (So.e ?_))))))))))
    show HT _ _ _ _ _
    refine R.cond rfl rfl (fun h7 => ?_) (fun h7 => ?_)
    ·have h7 := of_decide_eq_true h7
     refine HT.seq (HT.region S_lawBound_ok ?_)
     have hcl := fun h => cl_len (k := k) (a := a) (t := t) h
     refine So.q rfl rfl (V.mv (v := .p (.v (.bool true))) rfl (So.q rfl rfl (V.mv (v := .p (.v (.bool true))) rfl (So.gy rfl rfl (lk rfl) (lk rfl) (A.v rfl (V.mv (v := .p (.v (.int .i64 _))) rfl (So.gy rfl rfl (lk rfl) (lk rfl) (A.v rfl (V.bin (a := (.v (.int .i64 _))) (b := (.v (.int .i64 (0)))) (r := .v (.bool _)) rfl rfl rfl trivial (So.gy rfl rfl (lk rfl) (lk rfl) (A.v rfl (V.mv (v := .p (.v (.bool _))) rfl ?_))))))))))))
     refine So.gd rfl rfl (lk rfl) (lk rfl) (fun h8 => ?_) (fun h8 => ?_)
     ·have h8 := of_decide_eq_true (bnF h8)
      refine A.v rfl (V.mv (v := .p (.bs _)) rfl (So.gy rfl rfl (lk rfl) (lk rfl) (A.v rfl (V.len ty22 (v := .p (.bs _)) rfl rfl (So.gy rfl rfl (lk rfl) (lk rfl) (A.v rfl (V.bin (a := (.v (.int .i64 _))) (b := (.v (.int .i64 (32768)))) (r := .v (.bool _)) rfl rfl rfl trivial (So.gy rfl rfl (lk rfl) (lk rfl) (A.v rfl (V.pkFalse (u := .p (.v (.bool _))) rfl rfl (So.q rfl rfl (V.pkTrue (u := .p (.v (.bool _))) rfl rfl (So.q rfl rfl (V.as (v := .p (.v (.bool _))) rfl (So.e ?_)))))))))))))))
      show HT _ _ _ _ _
      refine HT.ret ?_
      exact ret_ok (sg []) h rfl rfl rfl trivial ⟨trivial, trivial⟩ rfl ⟨⟨⟨le_bool (by first | rfl | exact decide_eq_true (by first | omega | (subst_vars; exact bound_ok (by assumption)) | (have := hcl (by omega); omega))), trivial⟩, trivial⟩, trivial⟩
     ·have h8 := of_decide_eq_false (bnT h8)
      refine So.gn (b := true) rfl rfl rfl (lk rfl) (lk rfl) (So.gn (b := true) rfl rfl rfl (lk rfl) (lk rfl) (So.gy rfl rfl (lk rfl) (lk rfl) (A.v rfl (V.pkTrue (u := .p (.v (.bool true))) rfl rfl (So.q rfl rfl (V.pkTrue (u := .p (.v (.bool true))) rfl rfl (So.q rfl rfl (V.as (v := .p (.v (.bool true))) rfl (So.e ?_)))))))))
      show HT _ _ _ _ _
      refine HT.ret ?_
      exact ret_ok (sg []) h rfl rfl rfl trivial ⟨trivial, trivial⟩ rfl ⟨⟨⟨le_bool (by first | rfl | exact decide_eq_true (by first | omega | (subst_vars; exact bound_ok (by assumption)) | (have := hcl (by omega); omega))), trivial⟩, trivial⟩, trivial⟩
    ·have h7 := of_decide_eq_false h7
     refine HT.skip (HT.seq ?_)
     refine HT.tail S_lawBound_ok mixed 17 (by kernel_rfl) (by kernel_rfl) ?_
     have hce : clE k a t = 0 := by omega
     have hcl := cl_len hce
     have hmd := Nat.mod_lt i.toNat (show (clF k a t).length > 0 by omega)
     have hmi := emod_nat (L := (clF k a t).length) hpre.1
     have hm0 := Int.emod_nonneg i (show ((clF k a t).length : Int) ≠ 0 by omega)
     have hm1 := Int.emod_lt_of_pos i (show 0 < ((clF k a t).length : Int) by omega)
     refine So.q rfl rfl (V.mv (v := .own 3 0 _) rfl (So.q rfl rfl (V.mv (v := .p (.v (.int .u16 _))) rfl (So.q rfl rfl (V.cvI ty3 ty30 rfl (by omega) (So.q rfl rfl (V.mv (v := .own 3 0 _) rfl (So.q rfl rfl (V.len ty22 (v := .own 3 0 _) rfl rfl (So.q rfl rfl (V.remI rfl rfl (by omega) (So.q rfl rfl (V.mv (v := .own 3 0 _) rfl (So.q rfl rfl (V.mv (v := .p (.v (.int .u16 _))) rfl (So.q rfl rfl (V.cvI ty3 ty30 rfl (by omega) (So.q rfl rfl (V.mv (v := .own 3 0 _) rfl ?_)))))))))))))))))))
     refine So.q rfl rfl (V.len ty22 (v := .own 3 0 _) rfl rfl (So.q rfl rfl (V.remI rfl rfl (by omega) (So.q rfl rfl (V.ixOwn10 (mi := (i.toNat % (clF k a t).length)) ty22 ty5 rfl rfl rfl rfl rfl (by omega) (by omega) (So.q rfl rfl (V.ldPtr ty5 rfl rfl rfl (by first | rfl | omega | (simp; done) | (simp; omega)) (v := .p (.u8 _)) rfl (So.q rfl rfl (V.mv (v := .p (.u8 _)) rfl (So.q rfl rfl (V.bin (a := (.u8 _)) (b := (.u8 _)) (r := .u8 _) rfl rfl rfl trivial (So.q rfl rfl (V.ixOwn10 (mi := (i.toNat % (clF k a t).length)) ty22 ty5 rfl rfl rfl rfl rfl (by omega) (by omega) (So.s (A.sto ty5 rfl rfl rfl (v := .p (.u8 _)) rfl trivial rfl (by first | rfl | omega | (simp; done) | (simp; omega)) rfl rfl (So.e (HT.seq ?_)))))))))))))))))
     refine R.tell [] [(3, ⟨5, 1, (clF k a t).length, true, .bs (chgF (clF k a t) i y)⟩)] [0, 1, 3, 5, 12, 13, 14] [] (fr0 := [(0, .p (.bs _)), (1, .p (.bs _)), (3, .p (.bs _)), (5, .p (.u8 _)), (12, .p (.v (.bool false))), (13, .p (.v (.bool true))), (14, .own 3 0 _)]) (O0 := []) rfl rfl ⟨⟨⟨.refl _, trivial⟩, ⟨.refl _, trivial⟩, ⟨.refl _, trivial⟩, ⟨.refl _, trivial⟩, ⟨.refl _, trivial⟩, ⟨.refl _, trivial⟩, ⟨.refl _, rfl⟩, trivial⟩, ⟨⟨_, rfl, .inl (ob_bs (by rfl) (by rfl)), trivial⟩, trivial⟩⟩ ?_
     show HT _ _ _ _ _
     refine HT.region S_lawBound_ok (So.q rfl rfl (V.mv (v := .p (.bs _)) rfl (So.q rfl rfl (V.mv (v := .p (.bs _)) rfl (So.q rfl rfl (V.mv (v := .own 3 0 _) rfl ?_))))))
     refine So.n (lk rfl) (A.call0 [.p (.bs _), .p (.bs _), .p (.bs _)] 4 rfl rfl rfl rfl ⟨trivial, trivial, trivial, trivial⟩ trivial (k, o, chgF (clF k a t) i y) ⟨.refl _, .refl _, le_bs (by rw [List.drop_zero, List.take_of_length_le (by rw [chg_len]; exact Nat.le_refl _)]), trivial⟩ trivial (by trivial) (Φ := fun _ => True) (fun _ _ => trivial) (.inr ⟨fun j hj => by match j, hj with | 0, _ => exact trivial | 1, _ => exact trivial, by simp [Hp.scal, OC.scal, PV.scal, BV.scal]⟩) (v := .tup 2 _) rfl (O' := (6, ⟨5, 1, _, true, .bs _⟩) :: _) rfl (fun h9 => ?_))
     refine So.q rfl rfl (V.mv (v := .tup 2 _) rfl (So.q rfl rfl (V.ext rfl (lk rfl) (v := .own 6 0 _) rfl (So.q rfl rfl (V.ext rfl (lk rfl) (v := .p (.v (.int .i64 _))) rfl (So.q rfl rfl (V.as (v := .own 6 0 _) rfl (So.q rfl rfl (V.as (v := .p (.v (.int .i64 _))) rfl (So.e (HT.seq (HT.region S_lawBound_ok (So.q rfl rfl (V.mv (v := .p (.bs _)) rfl (So.q rfl rfl (V.mv (v := .p (.bs _)) rfl ?_))))))))))))))))
     refine So.q rfl rfl (V.mv (v := .own 3 0 _) rfl ?_)
     refine So.n (lk rfl) (A.call0 [.p (.bs _), .p (.bs _), .p (.bs _)] 7 rfl rfl rfl rfl ⟨trivial, trivial, trivial, trivial⟩ trivial (k, o, chgF (clF k a t) i y) ⟨.refl _, .refl _, le_bs (by rw [List.drop_zero, List.take_of_length_le (by rw [chg_len]; exact Nat.le_refl _)]), trivial⟩ trivial (by trivial) (Φ := fun _ => True) (fun _ _ => trivial) (.inr ⟨fun j hj => by match j, hj with | 0, _ => exact trivial | 1, _ => exact trivial, by simp [Hp.scal, OC.scal, PV.scal, BV.scal]⟩) (v := .tup 2 _) rfl (O' := (9, ⟨5, 1, _, true, .bs _⟩) :: _) rfl (fun h10 => ?_))
     refine So.q rfl rfl (V.mv (v := .tup 2 _) rfl (So.q rfl rfl (V.ext rfl (lk rfl) (v := .own 9 0 _) rfl (So.q rfl rfl (V.ext rfl (lk rfl) (v := .p (.v (.int .i64 _))) rfl (So.q rfl rfl (V.as (v := .own 9 0 _) rfl (So.q rfl rfl (V.as (v := .p (.v (.int .i64 _))) rfl (So.e (HT.seq (HT.seq (HT.region S_lawBound_ok (So.q rfl rfl (V.mv (v := .p (.v (.int .i64 _))) rfl ?_)))))))))))))))
     refine So.q rfl rfl (V.mv (v := .p (.v (.int .i64 _))) rfl (So.q rfl rfl (V.bin (a := (.v (.int .i64 _))) (b := (.v (.int .i64 _))) (r := .v (.bool _)) rfl rfl rfl trivial (So.q rfl rfl (V.mv (v := .p (.v (.bool _))) rfl ?_)))))
     refine So.gd rfl rfl (lk rfl) (lk rfl) (fun h11 => ?_) (fun h11 => ?_)
     ·have h11 := of_decide_eq_true (bnF h11)
      refine A.v rfl (V.mv (v := .own 6 0 _) rfl (So.gy rfl rfl (lk rfl) (lk rfl) (A.v rfl (V.cvOwn ty9 rfl rfl rfl List.take_length (So.gy rfl rfl (lk rfl) (lk rfl) (A.v rfl (V.mv (v := .own 9 0 _) rfl (So.gy rfl rfl (lk rfl) (lk rfl) (A.v rfl (V.cvOwn ty9 rfl rfl rfl List.take_length (So.gy rfl rfl (lk rfl) (lk rfl) (A.v rfl (V.bin (a := (.str _)) (b := (.str _)) (r := .v (.bool _)) rfl rfl rfl trivial (So.q rfl rfl (V.pkFalse (u := .p (.v (.bool _))) rfl rfl ?_)))))))))))))))
      refine So.e ?_
      show HT _ _ _ _ _
      refine R.cond rfl rfl (fun h12 => ?_) (fun h12 => ?_)
      ·have h12 := of_decide_eq_false (bnT h12)
       refine HT.seq ?_
       exfalso; first | omega | exact absurd rfl (by assumption) | (simp_all; done)
      ·have h12 := of_decide_eq_true (bnF h12)
       refine HT.skip (HT.seq (HT.region S_lawBound_ok (So.q rfl rfl (V.mv (v := .p (.v (.bool true))) rfl (So.q rfl rfl (V.mv (v := .p (.v (.bool true))) rfl (So.gy rfl rfl (lk rfl) (lk rfl) (A.v rfl (V.mv (v := .p (.u8 _)) rfl (So.gy rfl rfl (lk rfl) (lk rfl) (A.v rfl (V.bin (a := (.u8 _)) (b := (.u8 0)) (r := .v (.bool _)) rfl rfl rfl trivial (So.gy rfl rfl (lk rfl) (lk rfl) ?_)))))))))))))
       refine A.v rfl (V.mv (v := .p (.v (.bool _))) rfl ?_)
       refine So.gd rfl rfl (lk rfl) (lk rfl) (fun h13 => ?_) (fun h13 => ?_)
       ·have h13 := of_decide_eq_true (bnF h13)
        refine A.v rfl (V.mv (v := .p (.bs _)) rfl (So.gy rfl rfl (lk rfl) (lk rfl) (A.v rfl (V.cvBs ty9 rfl rfl (So.gy rfl rfl (lk rfl) (lk rfl) (A.v rfl (V.mv (v := .p (.bs _)) rfl (So.gy rfl rfl (lk rfl) (lk rfl) (A.v rfl (V.cvBs ty9 rfl rfl (So.gy rfl rfl (lk rfl) (lk rfl) (A.v rfl (V.bin (a := (.str _)) (b := (.str _)) (r := .v (.bool _)) rfl rfl rfl trivial (So.gy rfl rfl (lk rfl) (lk rfl) ?_))))))))))))))
        refine A.v rfl (V.pkFalse (u := .p (.v (.bool _))) rfl rfl (So.gy rfl rfl (lk rfl) (lk rfl) (A.v rfl (V.mv (v := .p (.v (.bool _))) rfl ?_))))
        refine So.gd rfl rfl (lk rfl) (lk rfl) (fun h14 => ?_) (fun h14 => ?_)
        ·have h14 := of_decide_eq_true (bnF h14)
         refine A.v rfl (V.mv (v := .p (.v (.int .i64 _))) rfl (So.gy rfl rfl (lk rfl) (lk rfl) (A.v rfl (V.bin (a := (.v (.int .i64 _))) (b := (.v (.int .i64 (0)))) (r := .v (.bool _)) rfl rfl rfl trivial (So.gy rfl rfl (lk rfl) (lk rfl) (A.v rfl (V.pkFalse (u := .p (.v (.bool _))) rfl rfl (So.q rfl rfl (V.pkTrue (u := .p (.v (.bool _))) rfl rfl (So.q rfl rfl (V.as (v := .p (.v (.bool _))) rfl (So.e ?_))))))))))))
         show HT _ _ _ _ _
         refine HT.ret ?_
         exact ret_ok (sg []) h rfl rfl rfl trivial ⟨trivial, trivial⟩ rfl ⟨⟨⟨le_bool (by first | rfl | exact decide_eq_true (by first | omega | (subst_vars; exact bound_ok (by assumption)) | (have := hcl (by omega); omega))), trivial⟩, trivial⟩, trivial⟩
        ·have h14 := of_decide_eq_false (bnT h14)
         refine So.gn (b := true) rfl rfl rfl (lk rfl) (lk rfl) (So.gy rfl rfl (lk rfl) (lk rfl) (A.v rfl (V.pkTrue (u := .p (.v (.bool true))) rfl rfl (So.q rfl rfl (V.pkTrue (u := .p (.v (.bool true))) rfl rfl (So.q rfl rfl (V.as (v := .p (.v (.bool true))) rfl (So.e ?_))))))))
         show HT _ _ _ _ _
         refine HT.ret ?_
         exact ret_ok (sg []) h rfl rfl rfl trivial ⟨trivial, trivial⟩ rfl ⟨⟨⟨le_bool (by first | rfl | exact decide_eq_true (by first | omega | (subst_vars; exact bound_ok (by assumption)) | (have := hcl (by omega); omega))), trivial⟩, trivial⟩, trivial⟩
       ·have h13 := of_decide_eq_false (bnT h13)
        refine So.gn (b := true) rfl rfl rfl (lk rfl) (lk rfl) (So.gn (b := true) rfl rfl rfl (lk rfl) (lk rfl) (So.gn (b := true) rfl rfl rfl (lk rfl) (lk rfl) (So.gn (b := true) rfl rfl rfl (lk rfl) (lk rfl) (So.gy rfl rfl (lk rfl) (lk rfl) (A.v rfl (V.pkTrue (u := .p (.v (.bool true))) rfl rfl (So.gy rfl rfl (lk rfl) (lk rfl) (A.v rfl (V.mv (v := .p (.v (.bool true))) rfl (So.gn (b := true) rfl rfl rfl (lk rfl) (lk rfl) (So.gn (b := true) rfl rfl rfl (lk rfl) (lk rfl) ?_)))))))))))
        refine So.gy rfl rfl (lk rfl) (lk rfl) (A.v rfl (V.pkTrue (u := .p (.v (.bool true))) rfl rfl (So.q rfl rfl (V.pkTrue (u := .p (.v (.bool true))) rfl rfl (So.q rfl rfl (V.as (v := .p (.v (.bool true))) rfl (So.e ?_)))))))
        show HT _ _ _ _ _
        refine HT.ret ?_
        exact ret_ok (sg []) h rfl rfl rfl trivial ⟨trivial, trivial⟩ rfl ⟨⟨⟨le_bool (by first | rfl | exact decide_eq_true (by first | omega | (subst_vars; exact bound_ok (by assumption)) | (have := hcl (by omega); omega))), trivial⟩, trivial⟩, trivial⟩
     ·have h11 := of_decide_eq_false (bnT h11)
      refine So.gn (b := true) rfl rfl rfl (lk rfl) (lk rfl) (So.gn (b := true) rfl rfl rfl (lk rfl) (lk rfl) (So.gn (b := true) rfl rfl rfl (lk rfl) (lk rfl) (So.gn (b := true) rfl rfl rfl (lk rfl) (lk rfl) (So.q rfl rfl (V.pkTrue (u := .p (.v (.bool true))) rfl rfl (So.e ?_))))))
      show HT _ _ _ _ _
      refine R.condT rfl ?_
      refine HT.seq ?_
      exfalso; first | omega | exact absurd rfl (by assumption) | (simp_all; done)
   ·have h6 := of_decide_eq_true h6
    refine So.gn (b := true) rfl rfl rfl (lk rfl) (lk rfl) (So.gn (b := true) rfl rfl rfl (lk rfl) (lk rfl) (So.q rfl rfl (V.pkTrue (u := .p (.v (.bool true))) rfl rfl (So.e ?_))))
    show HT _ _ _ _ _
    refine R.condT rfl ?_
    refine HT.seq (HT.region S_lawBound_ok ?_)
    have hcl := fun h => cl_len (k := k) (a := a) (t := t) h
    refine So.q rfl rfl (V.mv (v := .p (.v (.bool true))) rfl (So.q rfl rfl (V.mv (v := .p (.v (.bool true))) rfl (So.gy rfl rfl (lk rfl) (lk rfl) (A.v rfl (V.mv (v := .p (.v (.int .i64 _))) rfl (So.gy rfl rfl (lk rfl) (lk rfl) (A.v rfl (V.bin (a := (.v (.int .i64 _))) (b := (.v (.int .i64 (0)))) (r := .v (.bool _)) rfl rfl rfl trivial (So.gy rfl rfl (lk rfl) (lk rfl) (A.v rfl (V.mv (v := .p (.v (.bool _))) rfl ?_))))))))))))
    refine So.gd rfl rfl (lk rfl) (lk rfl) (fun h15 => ?_) (fun h15 => ?_)
    ·have h15 := of_decide_eq_true (bnF h15)
     refine A.v rfl (V.mv (v := .p (.bs _)) rfl (So.gy rfl rfl (lk rfl) (lk rfl) (A.v rfl (V.len ty22 (v := .p (.bs _)) rfl rfl (So.gy rfl rfl (lk rfl) (lk rfl) (A.v rfl (V.bin (a := (.v (.int .i64 _))) (b := (.v (.int .i64 (32768)))) (r := .v (.bool _)) rfl rfl rfl trivial (So.gy rfl rfl (lk rfl) (lk rfl) (A.v rfl (V.pkFalse (u := .p (.v (.bool _))) rfl rfl (So.q rfl rfl (V.pkTrue (u := .p (.v (.bool _))) rfl rfl (So.q rfl rfl (V.as (v := .p (.v (.bool _))) rfl (So.e ?_)))))))))))))))
     show HT _ _ _ _ _
     refine HT.ret ?_
     exact ret_ok (sg []) h rfl rfl rfl trivial ⟨trivial, trivial⟩ rfl ⟨⟨⟨le_bool (by first | rfl | exact decide_eq_true (by first | omega | (subst_vars; exact bound_ok (by assumption)) | (have := hcl (by omega); omega))), trivial⟩, trivial⟩, trivial⟩
    ·have h15 := of_decide_eq_false (bnT h15)
     refine So.gn (b := true) rfl rfl rfl (lk rfl) (lk rfl) (So.gn (b := true) rfl rfl rfl (lk rfl) (lk rfl) (So.gy rfl rfl (lk rfl) (lk rfl) (A.v rfl (V.pkTrue (u := .p (.v (.bool true))) rfl rfl (So.q rfl rfl (V.pkTrue (u := .p (.v (.bool true))) rfl rfl (So.q rfl rfl (V.as (v := .p (.v (.bool true))) rfl (So.e ?_)))))))))
     show HT _ _ _ _ _
     refine HT.ret ?_
     exact ret_ok (sg []) h rfl rfl rfl trivial ⟨trivial, trivial⟩ rfl ⟨⟨⟨le_bool (by first | rfl | exact decide_eq_true (by first | omega | (subst_vars; exact bound_ok (by assumption)) | (have := hcl (by omega); omega))), trivial⟩, trivial⟩, trivial⟩
  ·have h5 := of_decide_eq_true h5
   refine So.gn (b := true) rfl rfl rfl (lk rfl) (lk rfl) (So.gn (b := true) rfl rfl rfl (lk rfl) (lk rfl) (So.q rfl rfl (V.pkTrue (u := .p (.v (.bool true))) rfl rfl (So.q rfl rfl (V.mv (v := .p (.v (.bool true))) rfl (So.gn (b := true) rfl rfl rfl (lk rfl) (lk rfl) (So.gn (b := true) rfl rfl rfl (lk rfl) (lk rfl) (So.gn (b := true) rfl rfl rfl (lk rfl) (lk rfl) (So.q rfl rfl (V.pkTrue (u := .p (.v (.bool true))) rfl rfl (So.e ?_)))))))))))
   show HT _ _ _ _ _
   refine R.condT rfl ?_
   refine HT.seq (HT.region S_lawBound_ok ?_)
   have hcl := fun h => cl_len (k := k) (a := a) (t := t) h
   refine So.q rfl rfl (V.mv (v := .p (.v (.bool true))) rfl (So.q rfl rfl (V.mv (v := .p (.v (.bool true))) rfl (So.gy rfl rfl (lk rfl) (lk rfl) (A.v rfl (V.mv (v := .p (.v (.int .i64 _))) rfl (So.gy rfl rfl (lk rfl) (lk rfl) (A.v rfl (V.bin (a := (.v (.int .i64 _))) (b := (.v (.int .i64 (0)))) (r := .v (.bool _)) rfl rfl rfl trivial (So.gy rfl rfl (lk rfl) (lk rfl) (A.v rfl (V.mv (v := .p (.v (.bool _))) rfl ?_))))))))))))
   refine So.gd rfl rfl (lk rfl) (lk rfl) (fun h16 => ?_) (fun h16 => ?_)
   ·have h16 := of_decide_eq_true (bnF h16)
    refine A.v rfl (V.mv (v := .p (.bs _)) rfl (So.gy rfl rfl (lk rfl) (lk rfl) (A.v rfl (V.len ty22 (v := .p (.bs _)) rfl rfl (So.gy rfl rfl (lk rfl) (lk rfl) (A.v rfl (V.bin (a := (.v (.int .i64 _))) (b := (.v (.int .i64 (32768)))) (r := .v (.bool _)) rfl rfl rfl trivial (So.gy rfl rfl (lk rfl) (lk rfl) (A.v rfl (V.pkFalse (u := .p (.v (.bool _))) rfl rfl (So.q rfl rfl (V.pkTrue (u := .p (.v (.bool _))) rfl rfl (So.q rfl rfl (V.as (v := .p (.v (.bool _))) rfl (So.e ?_)))))))))))))))
    show HT _ _ _ _ _
    refine HT.ret ?_
    exact ret_ok (sg []) h rfl rfl rfl trivial ⟨trivial, trivial⟩ rfl ⟨⟨⟨le_bool (by first | rfl | exact decide_eq_true (by first | omega | (subst_vars; exact bound_ok (by assumption)) | (have := hcl (by omega); omega))), trivial⟩, trivial⟩, trivial⟩
   ·have h16 := of_decide_eq_false (bnT h16)
    refine So.gn (b := true) rfl rfl rfl (lk rfl) (lk rfl) (So.gn (b := true) rfl rfl rfl (lk rfl) (lk rfl) (So.gy rfl rfl (lk rfl) (lk rfl) (A.v rfl (V.pkTrue (u := .p (.v (.bool true))) rfl rfl (So.q rfl rfl (V.pkTrue (u := .p (.v (.bool true))) rfl rfl (So.q rfl rfl (V.as (v := .p (.v (.bool true))) rfl (So.e ?_)))))))))
    show HT _ _ _ _ _
    refine HT.ret ?_
    exact ret_ok (sg []) h rfl rfl rfl trivial ⟨trivial, trivial⟩ rfl ⟨⟨⟨le_bool (by first | rfl | exact decide_eq_true (by first | omega | (subst_vars; exact bound_ok (by assumption)) | (have := hcl (by omega); omega))), trivial⟩, trivial⟩, trivial⟩
 ·have h3 := of_decide_eq_false (bnT h3)
  refine So.gn (b := true) rfl rfl rfl (lk rfl) (lk rfl) (So.q rfl rfl (V.pkTrue (u := .p (.v (.bool true))) rfl rfl (So.q rfl rfl (V.mv (v := .p (.v (.bool true))) rfl (So.gn (b := true) rfl rfl rfl (lk rfl) (lk rfl) (So.gn (b := true) rfl rfl rfl (lk rfl) (lk rfl) (So.gn (b := true) rfl rfl rfl (lk rfl) (lk rfl) (So.q rfl rfl (V.pkTrue (u := .p (.v (.bool true))) rfl rfl (So.q rfl rfl (V.mv (v := .p (.v (.bool true))) rfl (So.gn (b := true) rfl rfl rfl (lk rfl) (lk rfl) (So.gn (b := true) rfl rfl rfl (lk rfl) (lk rfl) ?_)))))))))))))
  refine So.gn (b := true) rfl rfl rfl (lk rfl) (lk rfl) (So.q rfl rfl (V.pkTrue (u := .p (.v (.bool true))) rfl rfl (So.e ?_)))
  show HT _ _ _ _ _
  refine R.condT rfl ?_
  refine HT.seq (HT.region S_lawBound_ok ?_)
  have hcl := fun h => cl_len (k := k) (a := a) (t := t) h
  refine So.q rfl rfl (V.mv (v := .p (.v (.bool true))) rfl (So.q rfl rfl (V.mv (v := .p (.v (.bool true))) rfl (So.gy rfl rfl (lk rfl) (lk rfl) (A.v rfl (V.mv (v := .p (.v (.int .i64 _))) rfl (So.gy rfl rfl (lk rfl) (lk rfl) (A.v rfl (V.bin (a := (.v (.int .i64 _))) (b := (.v (.int .i64 (0)))) (r := .v (.bool _)) rfl rfl rfl trivial (So.gy rfl rfl (lk rfl) (lk rfl) (A.v rfl (V.mv (v := .p (.v (.bool _))) rfl ?_))))))))))))
  refine So.gd rfl rfl (lk rfl) (lk rfl) (fun h17 => ?_) (fun h17 => ?_)
  ·have h17 := of_decide_eq_true (bnF h17)
   refine A.v rfl (V.mv (v := .p (.bs _)) rfl (So.gy rfl rfl (lk rfl) (lk rfl) (A.v rfl (V.len ty22 (v := .p (.bs _)) rfl rfl (So.gy rfl rfl (lk rfl) (lk rfl) (A.v rfl (V.bin (a := (.v (.int .i64 _))) (b := (.v (.int .i64 (32768)))) (r := .v (.bool _)) rfl rfl rfl trivial (So.gy rfl rfl (lk rfl) (lk rfl) (A.v rfl (V.pkFalse (u := .p (.v (.bool _))) rfl rfl (So.q rfl rfl (V.pkTrue (u := .p (.v (.bool _))) rfl rfl (So.q rfl rfl (V.as (v := .p (.v (.bool _))) rfl (So.e ?_)))))))))))))))
   show HT _ _ _ _ _
   refine HT.ret ?_
   exact ret_ok (sg []) h rfl rfl rfl trivial ⟨trivial, trivial⟩ rfl ⟨⟨⟨le_bool (by first | rfl | exact decide_eq_true (by first | omega | (subst_vars; exact bound_ok (by assumption)) | (have := hcl (by omega); omega))), trivial⟩, trivial⟩, trivial⟩
  ·have h17 := of_decide_eq_false (bnT h17)
   refine So.gn (b := true) rfl rfl rfl (lk rfl) (lk rfl) (So.gn (b := true) rfl rfl rfl (lk rfl) (lk rfl) (So.gy rfl rfl (lk rfl) (lk rfl) (A.v rfl (V.pkTrue (u := .p (.v (.bool true))) rfl rfl (So.q rfl rfl (V.pkTrue (u := .p (.v (.bool true))) rfl rfl (So.q rfl rfl (V.as (v := .p (.v (.bool true))) rfl (So.e ?_)))))))))
   show HT _ _ _ _ _
   refine HT.ret ?_
   exact ret_ok (sg []) h rfl rfl rfl trivial ⟨trivial, trivial⟩ rfl ⟨⟨⟨le_bool (by first | rfl | exact decide_eq_true (by first | omega | (subst_vars; exact bound_ok (by assumption)) | (have := hcl (by omega); omega))), trivial⟩, trivial⟩, trivial⟩
end Go.Vh
