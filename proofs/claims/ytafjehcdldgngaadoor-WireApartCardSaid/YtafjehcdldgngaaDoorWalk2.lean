/- What is proved: each function of the seat's program does what its contract says, wherever it is called; no condition. -/
import Derived.Test.YtafjehcdldgngaaDoorWalk0
import Derived.Test.YtafjehcdldgngaaDoorWalk1
set_option linter.unusedVariables false
set_option linter.unusedSimpArgs false
set_option linter.unusedVariables false
set_option linter.unusedSimpArgs false
namespace Go.Vw
open Go Go.Vc Go.Proofs

/-! ### sodality/sodalityref11.GetText -/
def rgetTextSp : Sp := ⟨[], mkE (α := (List UInt8) × Int) (fun (b, i) => [.p (.bs (b)), .p (.v (.int .i64 (i)))]) (fun (b, i) => []) (fun (b, i) => True) (fun (b, i) => [.own 1 (0) ((getTextF b i).1.length), .p (.v (.int .i64 ((getTextF b i).2.1))), .p (.v (.int .i64 ((getTextF b i).2.2)))]) (fun (b, i) => [(1, ⟨5, 1, ((getTextF b i).1).length, true, .bs ((getTextF b i).1)⟩)])⟩
def S21 : FuncId → Option Sp := fun f => if f = 31 then some rhdSp else none
theorem S21_ok : ∀ f s, S21 f = some s → FOK Tryd.prog gl f s := fun f s h => by
  unfold S21 at h
  split at h
  · rename_i e; cases h; subst e; exact rhd_ok
  cases h
theorem S21_det : ∀ f s, S21 f = some s → SpDet s.sp := fun f s h => by
  unfold S21 at h
  split at h
  · cases h; exact mkE_det _ _ _ _ _
  cases h
set_option maxHeartbeats 1000000 in
theorem rgetText_ok : FOK Tryd.prog gl 21 rgetTextSp := by
  refine FOK.ofE (tyOf_ok Tryd.prog) (slots := [4, 5, 6]) (nt := 31) Tryd.func21 rfl rfl rfl rfl (by decide) 2 (fun ⟨_, _⟩ => rfl) (by decide) (fun ⟨_, _⟩ => ⟨trivial, trivial, trivial⟩) ?_
  rintro ⟨b, i⟩ kk hlen hpre h
  have hl0 : (b).length ≤ 9223372036854775807 := hlen.1
  replace hpre : True := hpre
  show HT ⟨Tryd.prog, 31, tyOf Tryd.prog, gl, []⟩ _ [(0, .p (.bs (b))), (1, .p (.v (.int .i64 (i))))] [] _
  refine HT.seq ?_
  refine HT.region S21_ok ?_
  refine So.n (Nat.le_of_ble_eq_true rfl) (A.v rfl (V.as (v := .p (.v (.slice none 0 0))) rfl ?_))
  refine So.n (Nat.le_of_ble_eq_true rfl) (A.v rfl (V.as (v := .p (.v (.int .i64 (0)))) rfl ?_))
  refine So.n (Nat.le_of_ble_eq_true rfl) (A.v rfl (V.as (v := .p (.v (.int .i64 (0)))) rfl ?_))
  refine So.e ?_
  show HT _ _ _ _ _
  refine HT.seq ?_
  refine HT.region S21_ok ?_
  refine So.n (Nat.le_of_ble_eq_true rfl) (A.v rfl (V.mv (v := .p (.bs _)) rfl ?_))
  refine So.n (Nat.le_of_ble_eq_true rfl) (A.v rfl (V.mv (v := .p (.v (.int .i64 _))) rfl ?_))
  refine So.n (Nat.le_of_ble_eq_true rfl) (A.call0 [.p (.bs _), .p (.v (.int .i64 _))] 1 rfl rfl rfl rfl ⟨trivial, trivial, trivial⟩ trivial (_, _) ⟨.refl _, .refl _, trivial⟩ trivial (by trivial) (Φ := fun (b, i) => (hdF b i).2.2 = 0 → 0 ≤ i ∧ i < (hdF b i).2.1 ∧ 0 ≤ (hdF b i).1 ∧ (hdF b i).2.1 + (hdF b i).1 ≤ b.length ∧ (hdF b i).1 ≤ 1048576) (fun (b, i) _ => hdF_ok b i) (.inl rfl) (v := .tup 3 _) rfl (O' := _) rfl (fun h1 => ?_))
  try dsimp only at h1
  refine So.n (Nat.le_of_ble_eq_true rfl) (A.v rfl (V.mv (v := .tup 3 _) rfl ?_))
  refine So.n (Nat.le_of_ble_eq_true rfl) (A.v rfl (V.ext rfl (Nat.le_of_ble_eq_true rfl) (v := .p (.v (.int .i64 _))) rfl ?_))
  refine So.n (Nat.le_of_ble_eq_true rfl) (A.v rfl (V.ext rfl (Nat.le_of_ble_eq_true rfl) (v := .p (.v (.int .i64 _))) rfl ?_))
  refine So.n (Nat.le_of_ble_eq_true rfl) (A.v rfl (V.ext rfl (Nat.le_of_ble_eq_true rfl) (v := .p (.v (.int .i64 _))) rfl ?_))
  refine So.n (Nat.le_of_ble_eq_true rfl) (A.v rfl (V.as (v := .p (.v (.int .i64 _))) rfl ?_))
  refine So.n (Nat.le_of_ble_eq_true rfl) (A.v rfl (V.as (v := .p (.v (.int .i64 _))) rfl ?_))
  refine So.n (Nat.le_of_ble_eq_true rfl) (A.v rfl (V.as (v := .p (.v (.int .i64 _))) rfl ?_))
  refine So.e ?_
  show HT _ _ _ _ _
  refine HT.seq ?_
  refine HT.seq ?_
  refine HT.region S21_ok ?_
  have hhd : (hdF b i).2.2 = (spanF b i).2.2 := rfl
  refine So.n (Nat.le_of_ble_eq_true rfl) (A.v rfl (V.mv (v := .p (.v (.int .i64 _))) rfl ?_))
  refine So.n (Nat.le_of_ble_eq_true rfl) (A.v rfl (V.bin (a := (.v (.int .i64 _))) (b := (.v (.int .i64 (0)))) (r := .v (.bool _)) rfl rfl rfl trivial ?_))
  refine So.e ?_
  show HT _ _ _ _ _
  refine R.cond rfl rfl (fun h2 => ?_) (fun h2 => ?_)
  · have h2 := of_decide_eq_false (bnT h2)
    refine HT.seq ?_
    refine HT.region S21_ok ?_
    refine So.n (Nat.le_of_ble_eq_true rfl) (A.v rfl (V.mv (v := .p (.v (.int .i64 _))) rfl ?_))
    refine So.n (Nat.le_of_ble_eq_true rfl) (A.v rfl (V.as (v := .p (.v (.slice none 0 0))) rfl ?_))
    refine So.n (Nat.le_of_ble_eq_true rfl) (A.v rfl (V.as (v := .p (.v (.int .i64 (0)))) rfl ?_))
    refine So.n (Nat.le_of_ble_eq_true rfl) (A.v rfl (V.as (v := .p (.v (.int .i64 _))) rfl ?_))
    refine So.e ?_
    show HT _ _ _ _ _
    refine R.phan 4 1 5 1 (.bs []) rfl rfl rfl ⟨rfl, rfl⟩ ?_
    refine HT.ret ?_
    exact ret_ok (sg [(1, 1)]) h rfl rfl rfl ⟨trivial, trivial⟩ ⟨rfl, trivial, trivial, trivial⟩ rfl ⟨⟨⟨le_own2 (by first | rfl | omega) (by first | rfl | (unfold getTextF; simp (disch := omega) only [if_pos, if_neg, ne_eq, hd_to2, hd_from] <;> first | rfl | (simp; done))), rfl⟩, ⟨le_int (by first | rfl | (unfold getTextF; simp (disch := omega) only [if_pos, if_neg, ne_eq, hd_to2, hd_from] <;> first | rfl | (simp; done))), trivial⟩, ⟨le_int (by first | rfl | (unfold getTextF; simp (disch := omega) only [if_pos, if_neg, ne_eq, hd_to2, hd_from] <;> first | rfl | (simp; done))), trivial⟩, trivial⟩, ⟨⟨_, rfl, .inl (ob_bs (by first | rfl | ((try dsimp only); (first | rfl | (unfold getTextF; simp (disch := omega) only [if_pos, if_neg, ne_eq, hd_to2, hd_from] <;> first | rfl | (simp; done))))) (by first | rfl | ((try dsimp only); (first | rfl | (unfold getTextF; simp (disch := omega) only [if_pos, if_neg, ne_eq, hd_to2, hd_from] <;> first | rfl | (simp; done)))))), trivial⟩, trivial⟩⟩
  · have h2 := of_decide_eq_true (bnF h2)
    refine HT.skip ?_
    show HT _ _ _ _ _
    refine HT.seq ?_
    refine HT.region S21_ok ?_
    refine So.n (Nat.le_of_ble_eq_true rfl) (A.bsl 1 ty22 ty5 rfl (Nat.le_of_ble_eq_true rfl) (Nat.le_of_ble_eq_true rfl) (fun _ => rfl) rfl rfl trivial trivial rfl (N := 0) rfl (c := .bs []) rfl ?_)
    refine So.n (Nat.le_of_ble_eq_true rfl) (A.v rfl (V.mv (v := .p (.bs _)) rfl ?_))
    refine So.n (Nat.le_of_ble_eq_true rfl) (A.v rfl (V.mv (v := .p (.v (.int .i64 _))) rfl ?_))
    refine So.n (Nat.le_of_ble_eq_true rfl) (A.v rfl (V.mv (v := .p (.v (.int .i64 _))) rfl ?_))
    refine So.n (Nat.le_of_ble_eq_true rfl) (A.v rfl (V.mv (v := .p (.v (.int .i64 _))) rfl ?_))
    refine So.n (Nat.le_of_ble_eq_true rfl) (A.v rfl (V.addI rfl rfl (by omega) ?_))
    refine So.n (Nat.le_of_ble_eq_true rfl) (A.v rfl (V.cutBs ty22 ty5 rfl rfl rfl rfl (by omega) (.inl rfl) rfl ?_))
    refine So.n (Nat.le_of_ble_eq_true rfl) (A.apOwn ty22 ty5 rfl rfl rfl rfl (u := .p (.bs _)) rfl rfl rfl rfl (by first | rfl | omega | (simp; done) | (simp; omega)) rfl rfl rfl ?_)
    refine So.n (Nat.le_of_ble_eq_true rfl) (A.v rfl (V.mv (v := .p (.v (.int .i64 _))) rfl ?_))
    refine So.n (Nat.le_of_ble_eq_true rfl) (A.v rfl (V.mv (v := .p (.v (.int .i64 _))) rfl ?_))
    refine So.n (Nat.le_of_ble_eq_true rfl) (A.v rfl (V.addI rfl rfl (by omega) ?_))
    refine So.n (Nat.le_of_ble_eq_true rfl) (A.v rfl (V.as (v := .own 1 0 _) rfl ?_))
    refine So.n (Nat.le_of_ble_eq_true rfl) (A.v rfl (V.as (v := .p (.v (.int .i64 _))) rfl ?_))
    refine So.n (Nat.le_of_ble_eq_true rfl) (A.v rfl (V.as (v := .p (.v (.int .i64 (0)))) rfl ?_))
    refine So.e ?_
    show HT _ _ _ _ _
    refine HT.ret ?_
    exact ret_ok (sg [(1, 1)]) h rfl rfl rfl ⟨trivial, trivial⟩ ⟨rfl, trivial, trivial, trivial⟩ rfl ⟨⟨⟨le_own2 (by first | rfl | omega) (by first | rfl | (unfold getTextF; simp (disch := omega) only [if_pos, if_neg, ne_eq, hd_to2, hd_from] <;> first | rfl | (simp; done))), rfl⟩, ⟨le_int (by first | rfl | (unfold getTextF; simp (disch := omega) only [if_pos, if_neg, ne_eq, hd_to2, hd_from] <;> first | rfl | (simp; done))), trivial⟩, ⟨le_int (by first | rfl | (unfold getTextF; simp (disch := omega) only [if_pos, if_neg, ne_eq, hd_to2, hd_from] <;> first | rfl | (simp; done))), trivial⟩, trivial⟩, ⟨⟨_, rfl, .inl (ob_bs (by first | rfl | ((try dsimp only); (first | rfl | (unfold getTextF; simp (disch := omega) only [if_pos, if_neg, ne_eq, hd_to2, hd_from] <;> first | rfl | (simp; done))))) (by first | rfl | ((try dsimp only); (first | rfl | (unfold getTextF; simp (disch := omega) only [if_pos, if_neg, ne_eq, hd_to2, hd_from] <;> first | rfl | (simp; done)))))), trivial⟩, trivial⟩⟩

/-! ### sodality/sodalityref11.List -/
def rlistSp : Sp := ⟨[], mkE (α := (List (List UInt8))) (fun l => [.p (.sl (l).length 1 (fun j => .bs ((l).getD j [])))]) (fun l => []) (fun l => True) (fun l => [.own 1 (0) ((listF l).length), .p (.v (.int .i64 (listE l)))]) (fun l => [(1, ⟨5, 1, (listF l).length, true, .bs (listF l)⟩)])⟩
def S19 : FuncId → Option Sp := fun f => if f = 18 then some rtextSp else none
theorem S19_ok : ∀ f s, S19 f = some s → FOK Tryd.prog gl f s := fun f s h => by
  unfold S19 at h
  split at h
  · rename_i e; cases h; subst e; exact rtext_ok
  cases h
theorem S19_det : ∀ f s, S19 f = some s → SpDet s.sp := fun f s h => by
  unfold S19 at h
  split at h
  · cases h; exact mkE_det _ _ _ _ _
  cases h
set_option maxHeartbeats 1000000 in
theorem rlist_ok : FOK Tryd.prog gl 19 rlistSp := by
  refine FOK.ofE (tyOf_ok Tryd.prog) (slots := [2, 3]) (nt := 35) Tryd.func19 rfl rfl rfl rfl (by decide) 1 (fun _ => rfl) (by decide) (fun _ => ⟨trivial, trivial⟩) ?_
  rintro l kk hlen hpre h
  have hl0 : (l).length ≤ 9223372036854775807 := hlen.1
  replace hpre : True := hpre
  show HT ⟨Tryd.prog, 35, tyOf Tryd.prog, gl, []⟩ _ [(0, .p (.sl (l).length 1 (fun j => .bs ((l).getD j []))))] [] _
  refine HT.seq ?_
  refine HT.region S19_ok ?_
  refine So.n (Nat.le_of_ble_eq_true rfl) (A.v rfl (V.as (v := .p (.v (.slice none 0 0))) rfl ?_))
  refine So.n (Nat.le_of_ble_eq_true rfl) (A.v rfl (V.as (v := .p (.v (.int .i64 (0)))) rfl ?_))
  refine So.e ?_
  show HT _ _ _ _ _
  refine HT.seq ?_
  refine HT.region S19_ok ?_
  refine So.n (Nat.le_of_ble_eq_true rfl) (A.v rfl (V.as (v := .p (.v (.slice none 0 0))) rfl ?_))
  refine So.e ?_
  show HT _ _ _ _ _
  refine HT.seq ?_
  refine HT.seq ?_
  refine HT.region S19_ok ?_
  refine So.n (Nat.le_of_ble_eq_true rfl) (A.v rfl (V.as (v := .p (.v (.int .i64 (0)))) rfl ?_))
  refine So.e ?_
  show HT _ _ _ _ _
  refine HT.block ?_
  refine R.phan 4 1 5 1 (.bs []) rfl rfl rfl ⟨rfl, rfl⟩ ?_
  refine R.loop (σ := Nat) (fun s => [(4, .own 1 (0) ((catT (l.take s)).length)), (5, .p (.v (.int .i64 ((s : Int)))))]) (fun s => [(1, ⟨5, 1, (catT (l.take s)).length, true, .bs (catT (l.take s))⟩)]) [0] [] (fun s => s ≤ l.length ∧ okT (l.take s)) (fun s => l.length - s) (0) (fr0 := [(0, .p (.sl _ 1 _))]) (O0 := []) rfl rfl (by exact ⟨Nat.zero_le _, okT_nil⟩) ⟨⟨⟨le_own2 (by first | rfl | omega) (by first | rfl | omega | (simp; done) | (simp; omega)), rfl⟩, ⟨le_int (by first | rfl | omega | (simp; done) | (simp; omega)), trivial⟩, ⟨.refl _, trivial⟩, trivial⟩, ⟨⟨_, rfl, .inl (ob_bs (by first | rfl | ((try dsimp only); first | rfl | omega | (simp; done) | (simp; omega))) (by first | rfl | ((try dsimp only); first | rfl | omega | (simp; done) | (simp; omega)))), trivial⟩, trivial⟩⟩ (fun s hP0 => ?_)
  have hok := hP0.2.2
  have hE := @textE_eq (l.getD s [])
  have hsl := hP0.1
  refine HT.seq ?_
  refine HT.seq ?_
  refine HT.region S19_ok ?_
  refine So.n (Nat.le_of_ble_eq_true rfl) (A.v rfl (V.mv (v := .p (.v (.int .i64 ((_ : Nat) : Int)))) rfl ?_))
  refine So.n (Nat.le_of_ble_eq_true rfl) (A.v rfl (V.mv (v := .p (.sl _ 1 _)) rfl ?_))
  refine So.n (Nat.le_of_ble_eq_true rfl) (A.v rfl (V.len ty34 (v := .p (.sl _ 1 _)) rfl rfl ?_))
  refine So.n (Nat.le_of_ble_eq_true rfl) (A.v rfl (V.bin (a := (.v (.int .i64 ((_ : Nat) : Int)))) (b := (.v (.int .i64 _))) (r := .v (.bool _)) rfl rfl rfl trivial ?_))
  refine So.e ?_
  show HT _ _ _ _ _
  refine R.cond rfl rfl (fun h1 => ?_) (fun h1 => ?_)
  · have h1 := of_decide_eq_true h1
    refine HT.skip ?_
    show HT _ _ _ _ _
    refine HT.seq ?_
    refine HT.block ?_
    refine HT.seq ?_
    refine HT.region S19_ok ?_
    refine So.n (Nat.le_of_ble_eq_true rfl) (A.v rfl (V.mv (v := .p (.sl _ 1 _)) rfl ?_))
    refine So.n (Nat.le_of_ble_eq_true rfl) (A.v rfl (V.mv (v := .p (.v (.int .i64 ((_ : Nat) : Int)))) rfl ?_))
    refine So.n (Nat.le_of_ble_eq_true rfl) (A.v rfl (V.ixSl1 ty34 ty22 rfl rfl rfl (by omega) (Int.toNat_natCast _) ?_))
    refine So.n (Nat.le_of_ble_eq_true rfl) (A.v rfl (V.ldRp ty22 rfl rfl (Nat.le_of_ble_eq_true rfl) (v := (.bs _)) rfl ?_))
    refine So.n (Nat.le_of_ble_eq_true rfl) (A.call0 [.p (.bs _)] 2 rfl rfl rfl rfl ⟨trivial, trivial⟩ trivial _ ⟨.refl _, trivial⟩ trivial (by trivial) (Φ := fun s => (textF s).length ≤ 1048580) (fun s _ => textF_len s) (.inl rfl) (v := .tup 2 _) rfl (O' := (3, ⟨5, 1, _, true, .bs _⟩) :: _) rfl (fun h2 => ?_))
    try dsimp only at h2
    refine So.n (Nat.le_of_ble_eq_true rfl) (A.v rfl (V.mv (v := .tup 2 _) rfl ?_))
    refine So.n (Nat.le_of_ble_eq_true rfl) (A.v rfl (V.ext rfl (Nat.le_of_ble_eq_true rfl) (v := .own 3 0 _) rfl ?_))
    refine So.n (Nat.le_of_ble_eq_true rfl) (A.v rfl (V.ext rfl (Nat.le_of_ble_eq_true rfl) (v := .p (.v (.int .i64 _))) rfl ?_))
    refine So.n (Nat.le_of_ble_eq_true rfl) (A.v rfl (V.as (v := .own 3 0 _) rfl ?_))
    refine So.n (Nat.le_of_ble_eq_true rfl) (A.v rfl (V.as (v := .p (.v (.int .i64 _))) rfl ?_))
    refine So.e ?_
    show HT _ _ _ _ _
    refine HT.seq ?_
    refine HT.seq ?_
    refine HT.region S19_ok ?_
    refine So.n (Nat.le_of_ble_eq_true rfl) (A.v rfl (V.mv (v := .p (.v (.int .i64 _))) rfl ?_))
    refine So.n (Nat.le_of_ble_eq_true rfl) (A.v rfl (V.bin (a := (.v (.int .i64 _))) (b := (.v (.int .i64 (0)))) (r := .v (.bool _)) rfl rfl rfl trivial ?_))
    refine So.e ?_
    show HT _ _ _ _ _
    refine R.cond rfl rfl (fun h3 => ?_) (fun h3 => ?_)
    · have h3 := of_decide_eq_false (bnT h3)
      refine HT.seq ?_
      refine HT.region S19_ok ?_
      refine So.n (Nat.le_of_ble_eq_true rfl) (A.v rfl (V.mv (v := .p (.v (.int .i64 _))) rfl ?_))
      refine So.n (Nat.le_of_ble_eq_true rfl) (A.v rfl (V.as (v := .p (.v (.slice none 0 0))) rfl ?_))
      refine So.n (Nat.le_of_ble_eq_true rfl) (A.v rfl (V.as (v := .p (.v (.int .i64 _))) rfl ?_))
      refine So.e ?_
      show HT _ _ _ _ _
      refine R.phan 2 4 5 1 (.bs []) rfl rfl rfl ⟨rfl, rfl⟩ ?_
      refine HT.ret ?_
      exact ret_ok (sg [(1, 4)]) h rfl rfl rfl ⟨trivial, trivial⟩ ⟨rfl, trivial, trivial⟩ rfl ⟨⟨⟨le_own2 (by first | rfl | omega) (by first | rfl | (rw [listF_no (okT_not1 (s := s) (by omega) (textE_ne (by assumption)))] <;> rfl) | (rw [listE_no (okT_not1 (s := s) (by omega) (textE_ne (by assumption)))]; exact textE_two (by assumption)) | (rw [listF_no (okT_not2 (s := s) (by omega) (by omega))] <;> rfl) | (rw [listE_no (okT_not2 (s := s) (by omega) (by omega))]) | (rw [← listF_yes hP0.2 (by omega)] <;> first | rfl | (simp; done)) | (rw [← listE_yes hP0.2 (by omega)] <;> first | rfl | (simp; done))), rfl⟩, ⟨le_int (by first | rfl | (rw [listF_no (okT_not1 (s := s) (by omega) (textE_ne (by assumption)))] <;> rfl) | (rw [listE_no (okT_not1 (s := s) (by omega) (textE_ne (by assumption)))]; exact textE_two (by assumption)) | (rw [listF_no (okT_not2 (s := s) (by omega) (by omega))] <;> rfl) | (rw [listE_no (okT_not2 (s := s) (by omega) (by omega))]) | (rw [← listF_yes hP0.2 (by omega)] <;> first | rfl | (simp; done)) | (rw [← listE_yes hP0.2 (by omega)] <;> first | rfl | (simp; done))), trivial⟩, trivial⟩, ⟨⟨_, rfl, .inl (ob_bs (by first | rfl | ((try dsimp only); (first | rfl | (rw [listF_no (okT_not1 (s := s) (by omega) (textE_ne (by assumption)))] <;> rfl) | (rw [listE_no (okT_not1 (s := s) (by omega) (textE_ne (by assumption)))]; exact textE_two (by assumption)) | (rw [listF_no (okT_not2 (s := s) (by omega) (by omega))] <;> rfl) | (rw [listE_no (okT_not2 (s := s) (by omega) (by omega))]) | (rw [← listF_yes hP0.2 (by omega)] <;> first | rfl | (simp; done)) | (rw [← listE_yes hP0.2 (by omega)] <;> first | rfl | (simp; done))))) (by first | rfl | ((try dsimp only); (first | rfl | (rw [listF_no (okT_not1 (s := s) (by omega) (textE_ne (by assumption)))] <;> rfl) | (rw [listE_no (okT_not1 (s := s) (by omega) (textE_ne (by assumption)))]; exact textE_two (by assumption)) | (rw [listF_no (okT_not2 (s := s) (by omega) (by omega))] <;> rfl) | (rw [listE_no (okT_not2 (s := s) (by omega) (by omega))]) | (rw [← listF_yes hP0.2 (by omega)] <;> first | rfl | (simp; done)) | (rw [← listE_yes hP0.2 (by omega)] <;> first | rfl | (simp; done)))))), trivial⟩, trivial⟩⟩
    · have h3 := of_decide_eq_true (bnF h3)
      refine HT.skip ?_
      show HT _ _ _ _ _
      refine HT.seq ?_
      refine HT.region S19_ok ?_
      refine So.n (Nat.le_of_ble_eq_true rfl) (A.v rfl (V.mv (v := .own 1 0 _) rfl ?_))
      refine So.n (Nat.le_of_ble_eq_true rfl) (A.v rfl (V.mv (v := .own 3 0 _) rfl ?_))
      refine So.n (Nat.le_of_ble_eq_true rfl) (A.apOwn ty22 ty5 rfl rfl rfl rfl (u := .own 3 0 _) rfl rfl rfl rfl (by first | rfl | omega | (simp; done) | (simp; omega)) rfl rfl rfl ?_)
      refine So.n (Nat.le_of_ble_eq_true rfl) (A.v rfl (V.as (v := .own 1 0 _) rfl ?_))
      refine So.e ?_
      show HT _ _ _ _ _
      refine HT.seq ?_
      refine HT.region S19_ok ?_
      refine So.n (Nat.le_of_ble_eq_true rfl) (A.v rfl (V.mv (v := .own 1 0 _) rfl ?_))
      refine So.n (Nat.le_of_ble_eq_true rfl) (A.v rfl (V.len ty22 (v := .own 1 0 _) rfl rfl ?_))
      refine So.n (Nat.le_of_ble_eq_true rfl) (A.v rfl (V.bin (a := (.v (.int .i64 _))) (b := (.v (.int .i64 (1048576)))) (r := .v (.bool _)) rfl rfl rfl trivial ?_))
      refine So.e ?_
      show HT _ _ _ _ _
      refine R.cond rfl rfl (fun h4 => ?_) (fun h4 => ?_)
      · have h4 := of_decide_eq_true h4
        refine HT.seq ?_
        refine HT.region S19_ok ?_
        refine So.n (Nat.le_of_ble_eq_true rfl) (A.v rfl (V.as (v := .p (.v (.slice none 0 0))) rfl ?_))
        refine So.n (Nat.le_of_ble_eq_true rfl) (A.v rfl (V.as (v := .p (.v (.int .i64 (2)))) rfl ?_))
        refine So.e ?_
        show HT _ _ _ _ _
        refine R.phan 2 4 5 1 (.bs []) rfl rfl rfl ⟨rfl, rfl⟩ ?_
        refine HT.ret ?_
        exact ret_ok (sg [(1, 4)]) h rfl rfl rfl ⟨trivial, trivial⟩ ⟨rfl, trivial, trivial⟩ rfl ⟨⟨⟨le_own2 (by first | rfl | omega) (by first | rfl | (rw [listF_no (okT_not1 (s := s) (by omega) (textE_ne (by assumption)))] <;> rfl) | (rw [listE_no (okT_not1 (s := s) (by omega) (textE_ne (by assumption)))]; exact textE_two (by assumption)) | (rw [listF_no (okT_not2 (s := s) (by omega) (by omega))] <;> rfl) | (rw [listE_no (okT_not2 (s := s) (by omega) (by omega))]) | (rw [← listF_yes hP0.2 (by omega)] <;> first | rfl | (simp; done)) | (rw [← listE_yes hP0.2 (by omega)] <;> first | rfl | (simp; done))), rfl⟩, ⟨le_int (by first | rfl | (rw [listF_no (okT_not1 (s := s) (by omega) (textE_ne (by assumption)))] <;> rfl) | (rw [listE_no (okT_not1 (s := s) (by omega) (textE_ne (by assumption)))]; exact textE_two (by assumption)) | (rw [listF_no (okT_not2 (s := s) (by omega) (by omega))] <;> rfl) | (rw [listE_no (okT_not2 (s := s) (by omega) (by omega))]) | (rw [← listF_yes hP0.2 (by omega)] <;> first | rfl | (simp; done)) | (rw [← listE_yes hP0.2 (by omega)] <;> first | rfl | (simp; done))), trivial⟩, trivial⟩, ⟨⟨_, rfl, .inl (ob_bs (by first | rfl | ((try dsimp only); (first | rfl | (rw [listF_no (okT_not1 (s := s) (by omega) (textE_ne (by assumption)))] <;> rfl) | (rw [listE_no (okT_not1 (s := s) (by omega) (textE_ne (by assumption)))]; exact textE_two (by assumption)) | (rw [listF_no (okT_not2 (s := s) (by omega) (by omega))] <;> rfl) | (rw [listE_no (okT_not2 (s := s) (by omega) (by omega))]) | (rw [← listF_yes hP0.2 (by omega)] <;> first | rfl | (simp; done)) | (rw [← listE_yes hP0.2 (by omega)] <;> first | rfl | (simp; done))))) (by first | rfl | ((try dsimp only); (first | rfl | (rw [listF_no (okT_not1 (s := s) (by omega) (textE_ne (by assumption)))] <;> rfl) | (rw [listE_no (okT_not1 (s := s) (by omega) (textE_ne (by assumption)))]; exact textE_two (by assumption)) | (rw [listF_no (okT_not2 (s := s) (by omega) (by omega))] <;> rfl) | (rw [listE_no (okT_not2 (s := s) (by omega) (by omega))]) | (rw [← listF_yes hP0.2 (by omega)] <;> first | rfl | (simp; done)) | (rw [← listE_yes hP0.2 (by omega)] <;> first | rfl | (simp; done)))))), trivial⟩, trivial⟩⟩
      · have h4 := of_decide_eq_false h4
        refine HT.skip ?_
        show HT _ _ _ _ _
        refine HT.region S19_ok ?_
        refine So.n (Nat.le_of_ble_eq_true rfl) (A.v rfl (V.mv (v := .p (.v (.int .i64 ((_ : Nat) : Int)))) rfl ?_))
        refine So.n (Nat.le_of_ble_eq_true rfl) (A.v rfl (V.addI rfl rfl (by omega) ?_))
        refine So.n (Nat.le_of_ble_eq_true rfl) (A.v rfl (V.as (v := .p (.v (.int .i64 _))) rfl ?_))
        refine So.e ?_
        refine ⟨s + 1, by exact ⟨by omega, okT_take (by omega) hP0.2 (hE (by omega)) (by omega)⟩, by omega, ⟨⟨⟨le_own2 (by first | rfl | omega) (by rw [catT_take (by omega)]; simp), rfl⟩, ⟨le_int (by first | rfl | omega | (simp; done) | (simp; omega)), trivial⟩, ⟨.refl _, trivial⟩, trivial⟩, ⟨⟨_, rfl, .inl (ob_bs (by first | rfl | ((try dsimp only); first | (rw [catT_take (by omega)]; exact take_full _ _ _ _ (Nat.le_refl _) (Nat.le_refl _)) | (rw [catT_take (by omega)]; simp))) (by first | rfl | ((try dsimp only); first | (rw [catT_take (by omega)]; exact take_full _ _ _ _ (Nat.le_refl _) (Nat.le_refl _)) | (rw [catT_take (by omega)]; simp)))), trivial⟩, trivial⟩⟩⟩
  · have h1 := of_decide_eq_false h1
    refine HT.exit ?_
    show HT _ _ _ _ _
    refine HT.seq ?_
    refine HT.region S19_ok ?_
    refine So.n (Nat.le_of_ble_eq_true rfl) (A.v rfl (V.mv (v := .own 1 0 _) rfl ?_))
    refine So.n (Nat.le_of_ble_eq_true rfl) (A.call0 [.p (.bs _)] 2 rfl rfl rfl rfl ⟨trivial, trivial⟩ trivial _ ⟨le_full, trivial⟩ trivial (by trivial) (Φ := fun s => (textF s).length ≤ 1048580) (fun s _ => textF_len s) (.inr ⟨fun j hj => by match j, hj with | 0, _ => trivial | 1, _ => trivial, by simp [Hp.scal, OC.scal]⟩) (v := .tup 2 _) rfl (O' := (3, ⟨5, 1, _, true, .bs _⟩) :: _) rfl (fun h5 => ?_))
    try dsimp only at h5
    refine So.n (Nat.le_of_ble_eq_true rfl) (A.v rfl (V.ext rfl (Nat.le_of_ble_eq_true rfl) (v := .own 3 0 _) rfl ?_))
    refine So.n (Nat.le_of_ble_eq_true rfl) (A.v rfl (V.ext rfl (Nat.le_of_ble_eq_true rfl) (v := .p (.v (.int .i64 _))) rfl ?_))
    refine So.n (Nat.le_of_ble_eq_true rfl) (A.v rfl (V.as (v := .own 3 0 _) rfl ?_))
    refine So.n (Nat.le_of_ble_eq_true rfl) (A.v rfl (V.as (v := .p (.v (.int .i64 _))) rfl ?_))
    refine So.e ?_
    show HT _ _ _ _ _
    refine HT.ret ?_
    exact ret_ok (sg [(1, 3)]) h rfl rfl rfl ⟨trivial, trivial⟩ ⟨rfl, trivial, trivial⟩ rfl ⟨⟨⟨le_own2 (by first | rfl | omega) (by first | rfl | (rw [listF_no (okT_not1 (s := s) (by omega) (textE_ne (by assumption)))] <;> rfl) | (rw [listE_no (okT_not1 (s := s) (by omega) (textE_ne (by assumption)))]; exact textE_two (by assumption)) | (rw [listF_no (okT_not2 (s := s) (by omega) (by omega))] <;> rfl) | (rw [listE_no (okT_not2 (s := s) (by omega) (by omega))]) | (rw [← listF_yes hP0.2 (by omega)] <;> first | rfl | (simp; done)) | (rw [← listE_yes hP0.2 (by omega)] <;> first | rfl | (simp; done))), rfl⟩, ⟨le_int (by first | rfl | (rw [listF_no (okT_not1 (s := s) (by omega) (textE_ne (by assumption)))] <;> rfl) | (rw [listE_no (okT_not1 (s := s) (by omega) (textE_ne (by assumption)))]; exact textE_two (by assumption)) | (rw [listF_no (okT_not2 (s := s) (by omega) (by omega))] <;> rfl) | (rw [listE_no (okT_not2 (s := s) (by omega) (by omega))]) | (rw [← listF_yes hP0.2 (by omega)] <;> first | rfl | (simp; done)) | (rw [← listE_yes hP0.2 (by omega)] <;> first | rfl | (simp; done))), trivial⟩, trivial⟩, ⟨⟨_, rfl, .inl (ob_bs (by first | rfl | ((try dsimp only); (first | rfl | (rw [listF_no (okT_not1 (s := s) (by omega) (textE_ne (by assumption)))] <;> rfl) | (rw [listE_no (okT_not1 (s := s) (by omega) (textE_ne (by assumption)))]; exact textE_two (by assumption)) | (rw [listF_no (okT_not2 (s := s) (by omega) (by omega))] <;> rfl) | (rw [listE_no (okT_not2 (s := s) (by omega) (by omega))]) | (rw [← listF_yes hP0.2 (by omega)] <;> first | rfl | (simp; done)) | (rw [← listE_yes hP0.2 (by omega)] <;> first | rfl | (simp; done))))) (by first | rfl | ((try dsimp only); (first | rfl | (rw [listF_no (okT_not1 (s := s) (by omega) (textE_ne (by assumption)))] <;> rfl) | (rw [listE_no (okT_not1 (s := s) (by omega) (textE_ne (by assumption)))]; exact textE_two (by assumption)) | (rw [listF_no (okT_not2 (s := s) (by omega) (by omega))] <;> rfl) | (rw [listE_no (okT_not2 (s := s) (by omega) (by omega))]) | (rw [← listF_yes hP0.2 (by omega)] <;> first | rfl | (simp; done)) | (rw [← listE_yes hP0.2 (by omega)] <;> first | rfl | (simp; done)))))), trivial⟩, trivial⟩⟩

/-! ### sodality/sodalityref11.GetList -/
def rgetListSp : Sp := ⟨[], mkE (α := (List UInt8) × Int) (fun (b, i) => [.p (.bs (b)), .p (.v (.int .i64 (i)))]) (fun (b, i) => []) (fun (b, i) => True) (fun (b, i) => [.own 1 (0) ((getListF b i).1.length), .p (.v (.int .i64 ((getListF b i).2.1))), .p (.v (.int .i64 ((getListF b i).2.2)))]) (fun (b, i) => [(1, ⟨22, 1, ((getListF b i).1).length, true, .rows (fun j => .bs (((getListF b i).1).getD j []))⟩)])⟩
def S23 : FuncId → Option Sp := fun f => if f = 21 then some rgetTextSp else none
theorem S23_ok : ∀ f s, S23 f = some s → FOK Tryd.prog gl f s := fun f s h => by
  unfold S23 at h
  split at h
  · rename_i e; cases h; subst e; exact rgetText_ok
  cases h
theorem S23_det : ∀ f s, S23 f = some s → SpDet s.sp := fun f s h => by
  unfold S23 at h
  split at h
  · cases h; exact mkE_det _ _ _ _ _
  cases h
set_option maxHeartbeats 1000000 in
theorem rgetList_ok : FOK Tryd.prog gl 23 rgetListSp := by
  refine FOK.ofE (tyOf_ok Tryd.prog) (slots := [4, 5, 6]) (nt := 46) Tryd.func23 rfl rfl rfl rfl (by decide) 2 (fun ⟨_, _⟩ => rfl) (by decide) (fun ⟨_, _⟩ => ⟨trivial, trivial, trivial⟩) ?_
  rintro ⟨b, i⟩ kk hlen hpre h
  have hl0 : (b).length ≤ 9223372036854775807 := hlen.1
  replace hpre : True := hpre
  show HT ⟨Tryd.prog, 46, tyOf Tryd.prog, gl, []⟩ _ [(0, .p (.bs (b))), (1, .p (.v (.int .i64 (i))))] [] _
  refine HT.seq ?_
  refine HT.region S23_ok ?_
  refine So.n (Nat.le_of_ble_eq_true rfl) (A.v rfl (V.as (v := .p (.v (.slice none 0 0))) rfl ?_))
  refine So.n (Nat.le_of_ble_eq_true rfl) (A.v rfl (V.as (v := .p (.v (.int .i64 (0)))) rfl ?_))
  refine So.n (Nat.le_of_ble_eq_true rfl) (A.v rfl (V.as (v := .p (.v (.int .i64 (0)))) rfl ?_))
  refine So.e ?_
  show HT _ _ _ _ _
  refine HT.seq ?_
  refine HT.region S23_ok ?_
  refine So.n (Nat.le_of_ble_eq_true rfl) (A.v rfl (V.mv (v := .p (.bs _)) rfl ?_))
  refine So.n (Nat.le_of_ble_eq_true rfl) (A.v rfl (V.mv (v := .p (.v (.int .i64 _))) rfl ?_))
  refine So.n (Nat.le_of_ble_eq_true rfl) (A.call0 [.p (.bs _), .p (.v (.int .i64 _))] 1 rfl rfl rfl rfl ⟨trivial, trivial, trivial⟩ trivial (_, _) ⟨.refl _, .refl _, trivial⟩ trivial (by trivial) (Φ := fun (b, i) => ((getTextF b i).2.2 = 0 → 0 ≤ i ∧ i < (getTextF b i).2.1 ∧ (getTextF b i).2.1 ≤ b.length) ∧ (getTextF b i).1.length ≤ 1048576) (fun (b, i) _ => ⟨getTextF_ok b i, getTextF_len b i⟩) (.inl rfl) (v := .tup 3 _) rfl (O' := (2, ⟨5, 1, _, true, .bs _⟩) :: _) rfl (fun h1 => ?_))
  try dsimp only at h1
  refine So.n (Nat.le_of_ble_eq_true rfl) (A.v rfl (V.mv (v := .tup 3 _) rfl ?_))
  refine So.n (Nat.le_of_ble_eq_true rfl) (A.v rfl (V.ext rfl (Nat.le_of_ble_eq_true rfl) (v := .own 2 0 _) rfl ?_))
  refine So.n (Nat.le_of_ble_eq_true rfl) (A.v rfl (V.ext rfl (Nat.le_of_ble_eq_true rfl) (v := .p (.v (.int .i64 _))) rfl ?_))
  refine So.n (Nat.le_of_ble_eq_true rfl) (A.v rfl (V.ext rfl (Nat.le_of_ble_eq_true rfl) (v := .p (.v (.int .i64 _))) rfl ?_))
  refine So.n (Nat.le_of_ble_eq_true rfl) (A.v rfl (V.as (v := .own 2 0 _) rfl ?_))
  refine So.n (Nat.le_of_ble_eq_true rfl) (A.v rfl (V.as (v := .p (.v (.int .i64 _))) rfl ?_))
  refine So.n (Nat.le_of_ble_eq_true rfl) (A.v rfl (V.as (v := .p (.v (.int .i64 _))) rfl ?_))
  refine So.e ?_
  show HT _ _ _ _ _
  refine HT.seq ?_
  refine HT.seq ?_
  refine HT.region S23_ok ?_
  refine So.n (Nat.le_of_ble_eq_true rfl) (A.v rfl (V.mv (v := .p (.v (.int .i64 _))) rfl ?_))
  refine So.n (Nat.le_of_ble_eq_true rfl) (A.v rfl (V.bin (a := (.v (.int .i64 _))) (b := (.v (.int .i64 (0)))) (r := .v (.bool _)) rfl rfl rfl trivial ?_))
  refine So.e ?_
  show HT _ _ _ _ _
  refine R.cond rfl rfl (fun h2 => ?_) (fun h2 => ?_)
  · have h2 := of_decide_eq_false (bnT h2)
    refine HT.seq ?_
    refine HT.region S23_ok ?_
    refine So.n (Nat.le_of_ble_eq_true rfl) (A.v rfl (V.mv (v := .p (.v (.int .i64 _))) rfl ?_))
    refine So.n (Nat.le_of_ble_eq_true rfl) (A.v rfl (V.as (v := .p (.v (.slice none 0 0))) rfl ?_))
    refine So.n (Nat.le_of_ble_eq_true rfl) (A.v rfl (V.as (v := .p (.v (.int .i64 (0)))) rfl ?_))
    refine So.n (Nat.le_of_ble_eq_true rfl) (A.v rfl (V.as (v := .p (.v (.int .i64 _))) rfl ?_))
    refine So.e ?_
    show HT _ _ _ _ _
    refine R.phan 4 3 22 1 (.rows (fun j => .bs (([] : List (List UInt8)).getD j []))) rfl rfl rfl trivial ?_
    refine HT.ret ?_
    exact ret_ok (sg [(1, 3)]) h rfl rfl rfl ⟨trivial, trivial⟩ ⟨rfl, trivial, trivial, trivial⟩ rfl ⟨⟨⟨le_own2 (by first | rfl | omega) (by first | rfl | (intro j hj; (try dsimp only at hj); omega) | (rw [glr_e0 (by omega)] <;> rfl) | (rw [glr_e1 (by omega) hP0 (by assumption) (by assumption)] <;> rfl) | (rw [glr_fin (by omega) hP0 (by assumption)] <;> rfl) | (intro j hj; rw [glr_fin (by omega) hP0 (by assumption)])), rfl⟩, ⟨le_int (by first | rfl | (intro j hj; (try dsimp only at hj); omega) | (rw [glr_e0 (by omega)] <;> rfl) | (rw [glr_e1 (by omega) hP0 (by assumption) (by assumption)] <;> rfl) | (rw [glr_fin (by omega) hP0 (by assumption)] <;> rfl) | (intro j hj; rw [glr_fin (by omega) hP0 (by assumption)])), trivial⟩, ⟨le_int (by first | rfl | (intro j hj; (try dsimp only at hj); omega) | (rw [glr_e0 (by omega)] <;> rfl) | (rw [glr_e1 (by omega) hP0 (by assumption) (by assumption)] <;> rfl) | (rw [glr_fin (by omega) hP0 (by assumption)] <;> rfl) | (intro j hj; rw [glr_fin (by omega) hP0 (by assumption)])), trivial⟩, trivial⟩, ⟨⟨_, rfl, .inr (ob_rows (by first | rfl | ((try dsimp only); (first | rfl | (intro j hj; (try dsimp only at hj); omega) | (rw [glr_e0 (by omega)] <;> rfl) | (rw [glr_e1 (by omega) hP0 (by assumption) (by assumption)] <;> rfl) | (rw [glr_fin (by omega) hP0 (by assumption)] <;> rfl) | (intro j hj; rw [glr_fin (by omega) hP0 (by assumption)])))) (by first | rfl | ((try dsimp only); (first | rfl | (intro j hj; (try dsimp only at hj); omega) | (rw [glr_e0 (by omega)] <;> rfl) | (rw [glr_e1 (by omega) hP0 (by assumption) (by assumption)] <;> rfl) | (rw [glr_fin (by omega) hP0 (by assumption)] <;> rfl) | (intro j hj; rw [glr_fin (by omega) hP0 (by assumption)]))))), trivial⟩, trivial⟩⟩
  · have h2 := of_decide_eq_true (bnF h2)
    refine HT.skip ?_
    show HT _ _ _ _ _
    refine HT.seq ?_
    refine HT.region S23_ok ?_
    refine So.n (Nat.le_of_ble_eq_true rfl) (A.v rfl (V.as (v := .p (.v (.slice none 0 0))) rfl ?_))
    refine So.e ?_
    show HT _ _ _ _ _
    refine HT.seq ?_
    refine HT.seq ?_
    refine HT.region S23_ok ?_
    refine So.n (Nat.le_of_ble_eq_true rfl) (A.v rfl (V.as (v := .p (.v (.int .i64 (0)))) rfl ?_))
    refine So.e ?_
    show HT _ _ _ _ _
    refine HT.block ?_
    refine R.phan 10 3 22 1 (.rows (fun j => .bs (([] : List (List UInt8)).getD j []))) rfl rfl rfl trivial ?_
    refine R.loop (σ := List (List UInt8) × Int) (fun s => [(10, .own 3 (0) (s.1.length)), (11, .p (.v (.int .i64 (s.2))))]) (fun s => [(3, ⟨22, 1, (s.1).length, true, .rows (fun j => .bs ((s.1).getD j []))⟩)]) [7, 8] [2] (fun s => PL (getTextF b i).1 s) (fun s => ((getTextF b i).1.length - s.2).toNat) (([], 0)) (fr0 := [(7, .own 2 0 _), (8, .p (.v (.int .i64 _)))]) (O0 := [(2, ⟨_, _, _, _, .bs _⟩)]) rfl rfl (by exact PL_0 _) ⟨⟨⟨le_own2 (by first | rfl | omega) (by first | rfl | omega | (simp; done) | (simp; omega)), rfl⟩, ⟨le_int (by first | rfl | omega | (simp; done) | (simp; omega)), trivial⟩, ⟨.refl _, rfl⟩, ⟨.refl _, trivial⟩, trivial⟩, ⟨⟨_, rfl, .inr (ob_rows (by first | rfl | ((try dsimp only); first | rfl | omega | (simp; done) | (simp; omega))) (by first | rfl | ((try dsimp only); first | rfl | omega | (simp; done) | (simp; omega)))), trivial⟩, ⟨_, rfl, .inl rfl, trivial⟩, trivial⟩⟩ (fun s hP0 => ?_)
    obtain ⟨hq1, hq2, hq3, hq4⟩ := hP0
    have hP0 : PL (getTextF b i).1 s := ⟨hq1, hq2, hq3, hq4⟩
    have hal : (getTextF b i).1.length ≤ 1048576 := getTextF_len b i
    refine HT.seq ?_
    refine HT.seq ?_
    refine HT.region S23_ok ?_
    refine So.n (Nat.le_of_ble_eq_true rfl) (A.v rfl (V.mv (v := .p (.v (.int .i64 _))) rfl ?_))
    refine So.n (Nat.le_of_ble_eq_true rfl) (A.v rfl (V.mv (v := .own 2 0 _) rfl ?_))
    refine So.n (Nat.le_of_ble_eq_true rfl) (A.v rfl (V.len ty22 (v := .own 2 0 _) rfl rfl ?_))
    refine So.n (Nat.le_of_ble_eq_true rfl) (A.v rfl (V.bin (a := (.v (.int .i64 _))) (b := (.v (.int .i64 _))) (r := .v (.bool _)) rfl rfl rfl trivial ?_))
    refine So.e ?_
    show HT _ _ _ _ _
    refine R.cond rfl rfl (fun h3 => ?_) (fun h3 => ?_)
    · have h3 := of_decide_eq_true h3
      refine HT.skip ?_
      show HT _ _ _ _ _
      refine HT.block ?_
      refine HT.seq ?_
      refine HT.region S23_ok ?_
      refine So.n (Nat.le_of_ble_eq_true rfl) (A.v rfl (V.mv (v := .own 2 0 _) rfl ?_))
      refine So.n (Nat.le_of_ble_eq_true rfl) (A.v rfl (V.mv (v := .p (.v (.int .i64 _))) rfl ?_))
      refine So.n (Nat.le_of_ble_eq_true rfl) (A.call0 [.p (.bs _), .p (.v (.int .i64 _))] 4 rfl rfl rfl rfl ⟨trivial, trivial, trivial⟩ trivial (_, _) ⟨le_full, .refl _, trivial⟩ trivial (by trivial) (Φ := fun (b, i) => ((getTextF b i).2.2 = 0 → 0 ≤ i ∧ i < (getTextF b i).2.1 ∧ (getTextF b i).2.1 ≤ b.length) ∧ (getTextF b i).1.length ≤ 1048576) (fun (b, i) _ => ⟨getTextF_ok b i, getTextF_len b i⟩) (.inr ⟨fun j hj => by match j, hj with | 0, _ => trivial | 1, _ => trivial | 2, _ => trivial, by simp [Hp.scal, OC.scal]⟩) (v := .tup 3 _) rfl (O' := (5, ⟨5, 1, _, true, .bs _⟩) :: _) rfl (fun h4 => ?_))
      try dsimp only at h4
      refine So.n (Nat.le_of_ble_eq_true rfl) (A.v rfl (V.mv (v := .tup 3 _) rfl ?_))
      refine So.n (Nat.le_of_ble_eq_true rfl) (A.v rfl (V.ext rfl (Nat.le_of_ble_eq_true rfl) (v := .own 5 0 _) rfl ?_))
      refine So.n (Nat.le_of_ble_eq_true rfl) (A.v rfl (V.ext rfl (Nat.le_of_ble_eq_true rfl) (v := .p (.v (.int .i64 _))) rfl ?_))
      refine So.n (Nat.le_of_ble_eq_true rfl) (A.v rfl (V.ext rfl (Nat.le_of_ble_eq_true rfl) (v := .p (.v (.int .i64 _))) rfl ?_))
      refine So.n (Nat.le_of_ble_eq_true rfl) (A.v rfl (V.as (v := .own 5 0 _) rfl ?_))
      refine So.n (Nat.le_of_ble_eq_true rfl) (A.v rfl (V.as (v := .p (.v (.int .i64 _))) rfl ?_))
      refine So.n (Nat.le_of_ble_eq_true rfl) (A.v rfl (V.as (v := .p (.v (.int .i64 _))) rfl ?_))
      refine So.e ?_
      show HT _ _ _ _ _
      refine HT.seq ?_
      refine HT.seq ?_
      refine HT.region S23_ok ?_
      refine So.n (Nat.le_of_ble_eq_true rfl) (A.v rfl (V.mv (v := .p (.v (.int .i64 _))) rfl ?_))
      refine So.n (Nat.le_of_ble_eq_true rfl) (A.v rfl (V.bin (a := (.v (.int .i64 _))) (b := (.v (.int .i64 (0)))) (r := .v (.bool _)) rfl rfl rfl trivial ?_))
      refine So.e ?_
      show HT _ _ _ _ _
      refine R.cond rfl rfl (fun h5 => ?_) (fun h5 => ?_)
      · have h5 := of_decide_eq_false (bnT h5)
        refine HT.seq ?_
        refine HT.region S23_ok ?_
        refine So.n (Nat.le_of_ble_eq_true rfl) (A.v rfl (V.mv (v := .p (.v (.int .i64 _))) rfl ?_))
        refine So.n (Nat.le_of_ble_eq_true rfl) (A.v rfl (V.as (v := .p (.v (.slice none 0 0))) rfl ?_))
        refine So.n (Nat.le_of_ble_eq_true rfl) (A.v rfl (V.as (v := .p (.v (.int .i64 (0)))) rfl ?_))
        refine So.n (Nat.le_of_ble_eq_true rfl) (A.v rfl (V.as (v := .p (.v (.int .i64 _))) rfl ?_))
        refine So.e ?_
        show HT _ _ _ _ _
        refine R.phan 4 6 22 1 (.rows (fun j => .bs (([] : List (List UInt8)).getD j []))) rfl rfl rfl trivial ?_
        refine HT.ret ?_
        exact ret_ok (sg [(1, 6)]) h rfl rfl rfl ⟨trivial, trivial⟩ ⟨rfl, trivial, trivial, trivial⟩ rfl ⟨⟨⟨le_own2 (by first | rfl | omega) (by first | rfl | (intro j hj; (try dsimp only at hj); omega) | (rw [glr_e0 (by omega)] <;> rfl) | (rw [glr_e1 (by omega) hP0 (by assumption) (by assumption)] <;> rfl) | (rw [glr_fin (by omega) hP0 (by assumption)] <;> rfl) | (intro j hj; rw [glr_fin (by omega) hP0 (by assumption)])), rfl⟩, ⟨le_int (by first | rfl | (intro j hj; (try dsimp only at hj); omega) | (rw [glr_e0 (by omega)] <;> rfl) | (rw [glr_e1 (by omega) hP0 (by assumption) (by assumption)] <;> rfl) | (rw [glr_fin (by omega) hP0 (by assumption)] <;> rfl) | (intro j hj; rw [glr_fin (by omega) hP0 (by assumption)])), trivial⟩, ⟨le_int (by first | rfl | (intro j hj; (try dsimp only at hj); omega) | (rw [glr_e0 (by omega)] <;> rfl) | (rw [glr_e1 (by omega) hP0 (by assumption) (by assumption)] <;> rfl) | (rw [glr_fin (by omega) hP0 (by assumption)] <;> rfl) | (intro j hj; rw [glr_fin (by omega) hP0 (by assumption)])), trivial⟩, trivial⟩, ⟨⟨_, rfl, .inr (ob_rows (by first | rfl | ((try dsimp only); (first | rfl | (intro j hj; (try dsimp only at hj); omega) | (rw [glr_e0 (by omega)] <;> rfl) | (rw [glr_e1 (by omega) hP0 (by assumption) (by assumption)] <;> rfl) | (rw [glr_fin (by omega) hP0 (by assumption)] <;> rfl) | (intro j hj; rw [glr_fin (by omega) hP0 (by assumption)])))) (by first | rfl | ((try dsimp only); (first | rfl | (intro j hj; (try dsimp only at hj); omega) | (rw [glr_e0 (by omega)] <;> rfl) | (rw [glr_e1 (by omega) hP0 (by assumption) (by assumption)] <;> rfl) | (rw [glr_fin (by omega) hP0 (by assumption)] <;> rfl) | (intro j hj; rw [glr_fin (by omega) hP0 (by assumption)]))))), trivial⟩, trivial⟩⟩
      · have h5 := of_decide_eq_true (bnF h5)
        refine HT.skip ?_
        show HT _ _ _ _ _
        refine HT.seq ?_
        refine HT.region S23_ok ?_
        refine So.n (Nat.le_of_ble_eq_true rfl) (A.v rfl (V.mv (v := .own 3 0 _) rfl ?_))
        refine So.n (Nat.le_of_ble_eq_true rfl) (A.v rfl (V.mv (v := .own 5 0 _) rfl ?_))
        refine So.n (Nat.le_of_ble_eq_true rfl) (A.bsl 4 ty34 ty22 rfl (Nat.le_of_ble_eq_true rfl) (Nat.le_of_ble_eq_true rfl) (fun _ => rfl) rfl rfl trivial ⟨trivial, trivial⟩ rfl (N := 1) rfl (c := .rows _) rfl ?_)
        refine So.n (Nat.le_of_ble_eq_true rfl) (A.apRows1 ty34 ty22 rfl rfl rfl rfl (Nat.le_of_ble_eq_true rfl) rfl rfl (u := .own 4 0 _) rfl rfl (by intro j hj; match j, hj with | 0, _ => trivial) rfl (by first | rfl | omega | (simp; done) | (simp; omega)) rfl rfl rfl ?_)
        refine So.n (Nat.le_of_ble_eq_true rfl) (A.v rfl (V.as (v := .own 3 0 _) rfl ?_))
        refine So.e ?_
        show HT _ _ _ _ _
        refine HT.region S23_ok ?_
        refine So.n (Nat.le_of_ble_eq_true rfl) (A.v rfl (V.mv (v := .p (.v (.int .i64 _))) rfl ?_))
        refine So.n (Nat.le_of_ble_eq_true rfl) (A.v rfl (V.as (v := .p (.v (.int .i64 _))) rfl ?_))
        refine So.e ?_
        refine ⟨(s.1 ++ [(getTextF (getTextF b i).1 s.2).1], (getTextF (getTextF b i).1 s.2).2.1), by exact PL_step hP0 (by assumption) (by omega), by (dsimp only; omega), ⟨⟨⟨le_own2 (by first | rfl | omega) (by simp), rfl⟩, ⟨le_int (by rfl), trivial⟩, ⟨.refl _, rfl⟩, ⟨.refl _, trivial⟩, trivial⟩, ⟨⟨_, rfl, .inr (ob_rows (by first | rfl | ((try dsimp only); first | (simp; done) | (intro j hj; simp only [List.drop_zero, List.take_length]; exact rows_snoc (emb := PV.bs) (d0 := []) (g := fun k => [PV.bs (getTextF (getTextF b i).1 s.2).1].getD (0 + k) (.v undef)) rfl rfl j hj))) (by first | rfl | ((try dsimp only); first | (simp; done) | (intro j hj; simp only [List.drop_zero, List.take_length]; exact rows_snoc (emb := PV.bs) (d0 := []) (g := fun k => [PV.bs (getTextF (getTextF b i).1 s.2).1].getD (0 + k) (.v undef)) rfl rfl j hj)))), trivial⟩, ⟨_, rfl, .inl rfl, trivial⟩, trivial⟩⟩⟩
    · have h3 := of_decide_eq_false h3
      refine HT.exit ?_
      show HT _ _ _ _ _
      refine HT.seq ?_
      refine HT.region S23_ok ?_
      refine So.n (Nat.le_of_ble_eq_true rfl) (A.v rfl (V.mv (v := .own 3 0 _) rfl ?_))
      refine So.n (Nat.le_of_ble_eq_true rfl) (A.v rfl (V.mv (v := .p (.v (.int .i64 _))) rfl ?_))
      refine So.n (Nat.le_of_ble_eq_true rfl) (A.v rfl (V.as (v := .own 3 0 _) rfl ?_))
      refine So.n (Nat.le_of_ble_eq_true rfl) (A.v rfl (V.as (v := .p (.v (.int .i64 _))) rfl ?_))
      refine So.n (Nat.le_of_ble_eq_true rfl) (A.v rfl (V.as (v := .p (.v (.int .i64 (0)))) rfl ?_))
      refine So.e ?_
      show HT _ _ _ _ _
      refine HT.ret ?_
      exact ret_ok (sg [(1, 3)]) h rfl rfl rfl ⟨trivial, trivial⟩ ⟨rfl, trivial, trivial, trivial⟩ rfl ⟨⟨⟨le_own2 (by first | rfl | omega) (by first | rfl | (intro j hj; (try dsimp only at hj); omega) | (rw [glr_e0 (by omega)] <;> rfl) | (rw [glr_e1 (by omega) hP0 (by assumption) (by assumption)] <;> rfl) | (rw [glr_fin (by omega) hP0 (by assumption)] <;> rfl) | (intro j hj; rw [glr_fin (by omega) hP0 (by assumption)])), rfl⟩, ⟨le_int (by first | rfl | (intro j hj; (try dsimp only at hj); omega) | (rw [glr_e0 (by omega)] <;> rfl) | (rw [glr_e1 (by omega) hP0 (by assumption) (by assumption)] <;> rfl) | (rw [glr_fin (by omega) hP0 (by assumption)] <;> rfl) | (intro j hj; rw [glr_fin (by omega) hP0 (by assumption)])), trivial⟩, ⟨le_int (by first | rfl | (intro j hj; (try dsimp only at hj); omega) | (rw [glr_e0 (by omega)] <;> rfl) | (rw [glr_e1 (by omega) hP0 (by assumption) (by assumption)] <;> rfl) | (rw [glr_fin (by omega) hP0 (by assumption)] <;> rfl) | (intro j hj; rw [glr_fin (by omega) hP0 (by assumption)])), trivial⟩, trivial⟩, ⟨⟨_, rfl, .inr (ob_rows (by first | rfl | ((try dsimp only); (first | rfl | (intro j hj; (try dsimp only at hj); omega) | (rw [glr_e0 (by omega)] <;> rfl) | (rw [glr_e1 (by omega) hP0 (by assumption) (by assumption)] <;> rfl) | (rw [glr_fin (by omega) hP0 (by assumption)] <;> rfl) | (intro j hj; rw [glr_fin (by omega) hP0 (by assumption)])))) (by first | rfl | ((try dsimp only); (first | rfl | (intro j hj; (try dsimp only at hj); omega) | (rw [glr_e0 (by omega)] <;> rfl) | (rw [glr_e1 (by omega) hP0 (by assumption) (by assumption)] <;> rfl) | (rw [glr_fin (by omega) hP0 (by assumption)] <;> rfl) | (intro j hj; rw [glr_fin (by omega) hP0 (by assumption)]))))), trivial⟩, trivial⟩⟩

/-! ### sodality/sodalityref11.Same -/
def rsameSp : Sp := ⟨[], mkE (α := (List (List UInt8)) × (List (List UInt8))) (fun (l, m) => [.p (.sl (l).length 1 (fun j => .bs ((l).getD j []))), .p (.sl (m).length 1 (fun j => .bs ((m).getD j [])))]) (fun (l, m) => []) (fun (l, m) => True) (fun (l, m) => [.p (.v (.bool (decide (l = m))))]) (fun (l, m) => [])⟩
def S24 : FuncId → Option Sp := fun _ => none
theorem S24_ok : ∀ f s, S24 f = some s → FOK Tryd.prog gl f s := fun f s h => by cases h
theorem S24_det : ∀ f s, S24 f = some s → SpDet s.sp := fun f s h => by cases h
set_option maxHeartbeats 1000000 in
theorem rsame_ok : FOK Tryd.prog gl 24 rsameSp := by
  refine FOK.ofE (tyOf_ok Tryd.prog) (slots := [4]) (nt := 28) Tryd.func24 rfl rfl rfl rfl (by decide) 2 (fun ⟨_, _⟩ => rfl) (by decide) (fun ⟨_, _⟩ => ⟨trivial, trivial, trivial⟩) ?_
  rintro ⟨l, m⟩ kk hlen hpre h
  have hl0 : (l).length ≤ 9223372036854775807 := hlen.1
  have hl1 : (m).length ≤ 9223372036854775807 := hlen.2.1
  replace hpre : True := hpre
  show HT ⟨Tryd.prog, 28, tyOf Tryd.prog, gl, []⟩ _ [(0, .p (.sl (l).length 1 (fun j => .bs ((l).getD j [])))), (1, .p (.sl (m).length 1 (fun j => .bs ((m).getD j []))))] [] _
  refine HT.seq ?_
  refine HT.region S24_ok ?_
  refine So.n (Nat.le_of_ble_eq_true rfl) (A.v rfl (V.as (v := .p (.v (.bool false))) rfl ?_))
  refine So.e ?_
  show HT _ _ _ _ _
  refine HT.seq ?_
  refine HT.seq ?_
  refine HT.region S24_ok ?_
  refine So.n (Nat.le_of_ble_eq_true rfl) (A.v rfl (V.mv (v := .p (.sl _ 1 _)) rfl ?_))
  refine So.n (Nat.le_of_ble_eq_true rfl) (A.v rfl (V.len ty34 (v := .p (.sl _ 1 _)) rfl rfl ?_))
  refine So.n (Nat.le_of_ble_eq_true rfl) (A.v rfl (V.mv (v := .p (.sl _ 1 _)) rfl ?_))
  refine So.n (Nat.le_of_ble_eq_true rfl) (A.v rfl (V.len ty34 (v := .p (.sl _ 1 _)) rfl rfl ?_))
  refine So.n (Nat.le_of_ble_eq_true rfl) (A.v rfl (V.bin (a := (.v (.int .i64 _))) (b := (.v (.int .i64 _))) (r := .v (.bool _)) rfl rfl rfl trivial ?_))
  refine So.e ?_
  show HT _ _ _ _ _
  refine R.cond rfl rfl (fun h1 => ?_) (fun h1 => ?_)
  · have h1 := of_decide_eq_false (bnT h1)
    refine HT.seq ?_
    refine HT.region S24_ok ?_
    refine So.n (Nat.le_of_ble_eq_true rfl) (A.v rfl (V.as (v := .p (.v (.bool false))) rfl ?_))
    refine So.e ?_
    show HT _ _ _ _ _
    refine HT.ret ?_
    exact ret_ok (sg []) h rfl rfl rfl trivial ⟨trivial, trivial⟩ rfl ⟨⟨⟨le_bool (by first | rfl | (exact (decide_eq_false (by rintro rfl; omega)).symm) | (exact (decide_eq_false (by rintro rfl; exact absurd rfl (by assumption))).symm) | (exact (decide_eq_true (same_all (by omega) (by omega) hP0.2)).symm)), trivial⟩, trivial⟩, trivial⟩
  · have h1 := of_decide_eq_true (bnF h1)
    refine HT.skip ?_
    show HT _ _ _ _ _
    refine HT.seq ?_
    refine HT.seq ?_
    refine HT.region S24_ok ?_
    refine So.n (Nat.le_of_ble_eq_true rfl) (A.v rfl (V.as (v := .p (.v (.int .i64 (0)))) rfl ?_))
    refine So.e ?_
    show HT _ _ _ _ _
    refine HT.block ?_
    refine R.loop (σ := Nat) (fun s => [(5, .p (.v (.int .i64 ((s : Int)))))]) (fun s => []) [0, 1] [] (fun s => s ≤ l.length ∧ ∀ j, j < s → l.getD j [] = m.getD j []) (fun s => l.length - s) (0) (fr0 := [(0, .p (.sl _ 1 _)), (1, .p (.sl _ 1 _))]) (O0 := []) rfl rfl (by exact ⟨Nat.zero_le _, fun j hj => by omega⟩) ⟨⟨⟨le_int (by first | rfl | omega | (simp; done) | (simp; omega)), trivial⟩, ⟨.refl _, trivial⟩, ⟨.refl _, trivial⟩, trivial⟩, trivial⟩ (fun s hP0 => ?_)
    have hsl := hP0.1
    refine HT.seq ?_
    refine HT.seq ?_
    refine HT.region S24_ok ?_
    refine So.n (Nat.le_of_ble_eq_true rfl) (A.v rfl (V.mv (v := .p (.v (.int .i64 ((_ : Nat) : Int)))) rfl ?_))
    refine So.n (Nat.le_of_ble_eq_true rfl) (A.v rfl (V.mv (v := .p (.sl _ 1 _)) rfl ?_))
    refine So.n (Nat.le_of_ble_eq_true rfl) (A.v rfl (V.len ty34 (v := .p (.sl _ 1 _)) rfl rfl ?_))
    refine So.n (Nat.le_of_ble_eq_true rfl) (A.v rfl (V.bin (a := (.v (.int .i64 ((_ : Nat) : Int)))) (b := (.v (.int .i64 _))) (r := .v (.bool _)) rfl rfl rfl trivial ?_))
    refine So.e ?_
    show HT _ _ _ _ _
    refine R.cond rfl rfl (fun h2 => ?_) (fun h2 => ?_)
    · have h2 := of_decide_eq_true h2
      refine HT.skip ?_
      show HT _ _ _ _ _
      refine HT.seq ?_
      refine HT.block ?_
      refine HT.seq ?_
      refine HT.drawn S24_ok S24_det mixed (by kernel_rfl) ?_
      refine Sd.n (Nat.le_of_ble_eq_true rfl) (V.mv (v := .p (.sl _ 1 _)) rfl ?_)
      refine Sd.n (Nat.le_of_ble_eq_true rfl) (V.mv (v := .p (.v (.int .i64 ((_ : Nat) : Int)))) rfl ?_)
      refine Sd.n (Nat.le_of_ble_eq_true rfl) (V.ixSl1 ty34 ty22 rfl rfl rfl (by omega) (Int.toNat_natCast _) ?_)
      refine Sd.n (Nat.le_of_ble_eq_true rfl) (V.ldRp ty22 rfl rfl (Nat.le_of_ble_eq_true rfl) (v := (.bs _)) rfl ?_)
      refine Sd.n (Nat.le_of_ble_eq_true rfl) (V.cvBs ty9 rfl rfl ?_)
      refine Sd.n (Nat.le_of_ble_eq_true rfl) (V.mv (v := .p (.sl _ 1 _)) rfl ?_)
      refine Sd.n (Nat.le_of_ble_eq_true rfl) (V.mv (v := .p (.v (.int .i64 ((_ : Nat) : Int)))) rfl ?_)
      refine Sd.n (Nat.le_of_ble_eq_true rfl) (V.ixSl1 ty34 ty22 rfl rfl rfl (by omega) (Int.toNat_natCast _) ?_)
      refine Sd.n (Nat.le_of_ble_eq_true rfl) (V.ldRp ty22 rfl rfl (Nat.le_of_ble_eq_true rfl) (v := (.bs _)) rfl ?_)
      refine Sd.n (Nat.le_of_ble_eq_true rfl) (V.cvBs ty9 rfl rfl ?_)
      refine Sd.n (Nat.le_of_ble_eq_true rfl) (V.bin (a := (.str _)) (b := (.str _)) (r := .v (.bool _)) rfl rfl rfl trivial ?_)
      refine Sd.e ?_
      show HT _ _ _ _ _
      refine R.cond rfl rfl (fun h3 => ?_) (fun h3 => ?_)
      · have h3 := of_decide_eq_false (bnT h3)
        refine HT.seq ?_
        refine HT.region S24_ok ?_
        refine So.n (Nat.le_of_ble_eq_true rfl) (A.v rfl (V.as (v := .p (.v (.bool false))) rfl ?_))
        refine So.e ?_
        show HT _ _ _ _ _
        refine HT.ret ?_
        exact ret_ok (sg []) h rfl rfl rfl trivial ⟨trivial, trivial⟩ rfl ⟨⟨⟨le_bool (by first | rfl | (exact (decide_eq_false (by rintro rfl; omega)).symm) | (exact (decide_eq_false (by rintro rfl; exact absurd rfl (by assumption))).symm) | (exact (decide_eq_true (same_all (by omega) (by omega) hP0.2)).symm)), trivial⟩, trivial⟩, trivial⟩
      · have h3 := of_decide_eq_true (bnF h3)
        refine HT.skip ?_
        show HT _ _ _ _ _
        refine HT.region S24_ok ?_
        refine So.n (Nat.le_of_ble_eq_true rfl) (A.v rfl (V.mv (v := .p (.v (.int .i64 ((_ : Nat) : Int)))) rfl ?_))
        refine So.n (Nat.le_of_ble_eq_true rfl) (A.v rfl (V.addI rfl rfl (by omega) ?_))
        refine So.n (Nat.le_of_ble_eq_true rfl) (A.v rfl (V.as (v := .p (.v (.int .i64 _))) rfl ?_))
        refine So.e ?_
        refine ⟨s + 1, by exact ⟨by omega, same_step hP0.2 (by assumption)⟩, by omega, ⟨⟨⟨le_int (by first | rfl | omega | (simp; done) | (simp; omega)), trivial⟩, ⟨.refl _, trivial⟩, ⟨.refl _, trivial⟩, trivial⟩, trivial⟩⟩
    · have h2 := of_decide_eq_false h2
      refine HT.exit ?_
      show HT _ _ _ _ _
      refine HT.seq ?_
      refine HT.region S24_ok ?_
      refine So.n (Nat.le_of_ble_eq_true rfl) (A.v rfl (V.as (v := .p (.v (.bool true))) rfl ?_))
      refine So.e ?_
      show HT _ _ _ _ _
      refine HT.ret ?_
      exact ret_ok (sg []) h rfl rfl rfl trivial ⟨trivial, trivial⟩ rfl ⟨⟨⟨le_bool (by first | rfl | (exact (decide_eq_false (by rintro rfl; omega)).symm) | (exact (decide_eq_false (by rintro rfl; exact absurd rfl (by assumption))).symm) | (exact (decide_eq_true (same_all (by omega) (by omega) hP0.2)).symm)), trivial⟩, trivial⟩, trivial⟩

/-! ### sodality/sodalitylaw11.great -/
def greatSp : Sp := ⟨[], mkE (α := (List UInt8)) (fun b => [.p (.bs (b))]) (fun b => []) (fun b => True) (fun b => [.p (.v (.bool (decide (2097152 < (b.length : Int)))))]) (fun b => [])⟩
def S11 : FuncId → Option Sp := fun _ => none
theorem S11_ok : ∀ f s, S11 f = some s → FOK Tryd.prog gl f s := fun f s h => by cases h
theorem S11_det : ∀ f s, S11 f = some s → SpDet s.sp := fun f s h => by cases h
set_option maxHeartbeats 1000000 in
theorem great_ok : FOK Tryd.prog gl 11 greatSp := by
  refine FOK.ofE (tyOf_ok Tryd.prog) (slots := [2]) (nt := 6) Tryd.func11 rfl rfl rfl rfl (by decide) 1 (fun _ => rfl) (by decide) (fun _ => ⟨trivial, trivial⟩) ?_
  rintro b kk hlen hpre h
  have hl0 : (b).length ≤ 9223372036854775807 := hlen.1
  replace hpre : True := hpre
  show HT ⟨Tryd.prog, 6, tyOf Tryd.prog, gl, []⟩ _ [(0, .p (.bs (b)))] [] _
  refine HT.seq ?_
  refine HT.region S11_ok ?_
  refine So.n (Nat.le_of_ble_eq_true rfl) (A.v rfl (V.as (v := .p (.v (.bool false))) rfl ?_))
  refine So.e ?_
  show HT _ _ _ _ _
  refine HT.seq ?_
  refine HT.region S11_ok ?_
  refine So.n (Nat.le_of_ble_eq_true rfl) (A.v rfl (V.mv (v := .p (.bs _)) rfl ?_))
  refine So.n (Nat.le_of_ble_eq_true rfl) (A.v rfl (V.len ty22 (v := .p (.bs _)) rfl rfl ?_))
  refine So.n (Nat.le_of_ble_eq_true rfl) (A.v rfl (V.bin (a := (.v (.int .i64 _))) (b := (.v (.int .i64 (2097152)))) (r := .v (.bool _)) rfl rfl rfl trivial ?_))
  refine So.n (Nat.le_of_ble_eq_true rfl) (A.v rfl (V.as (v := .p (.v (.bool _))) rfl ?_))
  refine So.e ?_
  show HT _ _ _ _ _
  refine HT.ret ?_
  exact ret_ok (sg []) h rfl rfl rfl trivial ⟨trivial, trivial⟩ rfl ⟨⟨⟨le_bool (by first | rfl | omega | (simp; done) | (simp; omega)), trivial⟩, trivial⟩, trivial⟩

/-! ### sodality/sodalitylaw11.begins -/
def beginsSp : Sp := ⟨[], mkE (α := (List UInt8) × (List UInt8)) (fun (a, b) => [.p (.bs (a)), .p (.bs (b))]) (fun (a, b) => []) (fun (a, b) => True) (fun (a, b) => [.p (.v (.bool (decide (b.length ≤ a.length ∧ a.take b.length = b))))]) (fun (a, b) => [])⟩
def S25 : FuncId → Option Sp := fun _ => none
theorem S25_ok : ∀ f s, S25 f = some s → FOK Tryd.prog gl f s := fun f s h => by cases h
theorem S25_det : ∀ f s, S25 f = some s → SpDet s.sp := fun f s h => by cases h
set_option maxHeartbeats 1000000 in
theorem begins_ok : FOK Tryd.prog gl 25 beginsSp := by
  refine FOK.ofE (tyOf_ok Tryd.prog) (slots := [4]) (nt := 20) Tryd.func25 rfl rfl rfl rfl (by decide) 2 (fun ⟨_, _⟩ => rfl) (by decide) (fun ⟨_, _⟩ => ⟨trivial, trivial, trivial⟩) ?_
  rintro ⟨a, b⟩ kk hlen hpre h
  have hl0 : (a).length ≤ 9223372036854775807 := hlen.1
  have hl1 : (b).length ≤ 9223372036854775807 := hlen.2.1
  replace hpre : True := hpre
  show HT ⟨Tryd.prog, 20, tyOf Tryd.prog, gl, []⟩ _ [(0, .p (.bs (a))), (1, .p (.bs (b)))] [] _
  refine HT.seq ?_
  refine HT.region S25_ok ?_
  refine So.n (Nat.le_of_ble_eq_true rfl) (A.v rfl (V.as (v := .p (.v (.bool false))) rfl ?_))
  refine So.e ?_
  show HT _ _ _ _ _
  refine HT.seq ?_
  refine HT.drawn S25_ok S25_det mixed (by kernel_rfl) ?_
  refine Sd.n (Nat.le_of_ble_eq_true rfl) (V.mv (v := .p (.bs _)) rfl ?_)
  refine Sd.n (Nat.le_of_ble_eq_true rfl) (V.len ty22 (v := .p (.bs _)) rfl rfl ?_)
  refine Sd.n (Nat.le_of_ble_eq_true rfl) (V.mv (v := .p (.bs _)) rfl ?_)
  refine Sd.n (Nat.le_of_ble_eq_true rfl) (V.len ty22 (v := .p (.bs _)) rfl rfl ?_)
  refine Sd.n (Nat.le_of_ble_eq_true rfl) (V.bin (a := (.v (.int .i64 _))) (b := (.v (.int .i64 _))) (r := .v (.bool _)) rfl rfl rfl trivial ?_)
  refine Sd.n (Nat.le_of_ble_eq_true rfl) (V.mv (v := .p (.v (.bool _))) rfl ?_)
  refine Sd.gd rfl rfl (Nat.le_of_ble_eq_true rfl) (Nat.le_of_ble_eq_true rfl) (fun h1 => ?_) (fun h1 => ?_)
  · have h1 := of_decide_eq_true h1
    refine V.mv (v := .p (.bs _)) rfl ?_
    refine Sd.gy rfl rfl (Nat.le_of_ble_eq_true rfl) (Nat.le_of_ble_eq_true rfl) ?_
    refine V.mv (v := .p (.bs _)) rfl ?_
    refine Sd.gy rfl rfl (Nat.le_of_ble_eq_true rfl) (Nat.le_of_ble_eq_true rfl) ?_
    refine V.len ty22 (v := .p (.bs _)) rfl rfl ?_
    refine Sd.gy rfl rfl (Nat.le_of_ble_eq_true rfl) (Nat.le_of_ble_eq_true rfl) ?_
    refine V.cutBsH ty22 ty5 rfl rfl rfl (by omega) (.inl rfl) rfl ?_
    refine Sd.gy rfl rfl (Nat.le_of_ble_eq_true rfl) (Nat.le_of_ble_eq_true rfl) ?_
    refine V.cvBs ty9 rfl rfl ?_
    refine Sd.gy rfl rfl (Nat.le_of_ble_eq_true rfl) (Nat.le_of_ble_eq_true rfl) ?_
    refine V.mv (v := .p (.bs _)) rfl ?_
    refine Sd.gy rfl rfl (Nat.le_of_ble_eq_true rfl) (Nat.le_of_ble_eq_true rfl) ?_
    refine V.cvBs ty9 rfl rfl ?_
    refine Sd.gy rfl rfl (Nat.le_of_ble_eq_true rfl) (Nat.le_of_ble_eq_true rfl) ?_
    refine V.bin (a := (.str _)) (b := (.str _)) (r := .v (.bool _)) rfl rfl rfl trivial ?_
    refine Sd.n (Nat.le_of_ble_eq_true rfl) (V.pkTrue (u := .p (.v (.bool _))) rfl rfl ?_)
    refine Sd.n (Nat.le_of_ble_eq_true rfl) (V.as (v := .p (.v (.bool _))) rfl ?_)
    refine Sd.e ?_
    show HT _ _ _ _ _
    refine HT.ret ?_
    exact ret_ok (sg []) h rfl rfl rfl trivial ⟨trivial, trivial⟩ rfl ⟨⟨⟨le_bool (by first | rfl | (have h9 : b.length ≤ a.length := (by omega); simp [h9]; done) | (exact (decide_eq_false (by rintro ⟨h9, _⟩; omega)).symm)), trivial⟩, trivial⟩, trivial⟩
  · have h1 := of_decide_eq_false h1
    refine Sd.gn (b := false) rfl rfl rfl (Nat.le_of_ble_eq_true rfl) (Nat.le_of_ble_eq_true rfl) ?_
    refine Sd.gn (b := false) rfl rfl rfl (Nat.le_of_ble_eq_true rfl) (Nat.le_of_ble_eq_true rfl) ?_
    refine Sd.gn (b := false) rfl rfl rfl (Nat.le_of_ble_eq_true rfl) (Nat.le_of_ble_eq_true rfl) ?_
    refine Sd.gn (b := false) rfl rfl rfl (Nat.le_of_ble_eq_true rfl) (Nat.le_of_ble_eq_true rfl) ?_
    refine Sd.gn (b := false) rfl rfl rfl (Nat.le_of_ble_eq_true rfl) (Nat.le_of_ble_eq_true rfl) ?_
    refine Sd.gn (b := false) rfl rfl rfl (Nat.le_of_ble_eq_true rfl) (Nat.le_of_ble_eq_true rfl) ?_
    refine Sd.gn (b := false) rfl rfl rfl (Nat.le_of_ble_eq_true rfl) (Nat.le_of_ble_eq_true rfl) ?_
    refine Sd.n (Nat.le_of_ble_eq_true rfl) (V.pkFalse (u := .p (.v (.bool false))) rfl rfl ?_)
    refine Sd.n (Nat.le_of_ble_eq_true rfl) (V.as (v := .p (.v (.bool false))) rfl ?_)
    refine Sd.e ?_
    show HT _ _ _ _ _
    refine HT.ret ?_
    exact ret_ok (sg []) h rfl rfl rfl trivial ⟨trivial, trivial⟩ rfl ⟨⟨⟨le_bool (by first | rfl | (have h9 : b.length ≤ a.length := (by omega); simp [h9]; done) | (exact (decide_eq_false (by rintro ⟨h9, _⟩; omega)).symm)), trivial⟩, trivial⟩, trivial⟩

/-! ### sodality/sodalitylaw11.head -/
def headSp : Sp := ⟨[], mkE (α := Unit) (fun _ => []) (fun _ => []) (fun _ => True) (fun _ => [.p (.v (.bool true))]) (fun _ => [])⟩
def S10 : FuncId → Option Sp := fun f => if f = 16 then some textSp else if f = 20 then some getTextSp else if f = 14 then some numSp else none
theorem S10_ok : ∀ f s, S10 f = some s → FOK Tryd.prog gl f s := fun f s h => by
  unfold S10 at h
  split at h
  · rename_i e; cases h; subst e; exact text_ok
  split at h
  · rename_i e; cases h; subst e; exact getText_ok
  split at h
  · rename_i e; cases h; subst e; exact num_ok
  cases h
theorem S10_det : ∀ f s, S10 f = some s → SpDet s.sp := fun f s h => by
  unfold S10 at h
  split at h
  · cases h; exact mkE_det _ _ _ _ _
  split at h
  · cases h; exact mkE_det _ _ _ _ _
  split at h
  · cases h; exact mkE_det _ _ _ _ _
  cases h
set_option maxHeartbeats 1000000 in
theorem head_ok : FOK Tryd.prog gl 10 headSp := by
  refine FOK.ofE (tyOf_ok Tryd.prog) (slots := [0]) (nt := 39) Tryd.func10 rfl rfl rfl rfl (by decide) 0 (fun _ => rfl) (by decide) (fun _ => trivial) ?_
  rintro _ kk hlen hpre h
  replace hpre : True := hpre
  show HT ⟨Tryd.prog, 39, tyOf Tryd.prog, gl, []⟩ _ [] [] _
  refine HT.seq ?_
  refine HT.region S10_ok ?_
  refine So.n (Nat.le_of_ble_eq_true rfl) (A.v rfl (V.as (v := .p (.v (.bool false))) rfl ?_))
  refine So.e ?_
  show HT _ _ _ _ _
  refine HT.seq ?_
  refine HT.region S10_ok ?_
  refine So.n (Nat.le_of_ble_eq_true rfl) (A.bsl 1 ty22 ty5 rfl (Nat.le_of_ble_eq_true rfl) (Nat.le_of_ble_eq_true rfl) (fun _ => rfl) rfl rfl trivial ⟨trivial, trivial, trivial⟩ rfl (N := 2) rfl (c := .bs [_, _]) rfl ?_)
  refine So.n (Nat.le_of_ble_eq_true rfl) (A.cvM ty22 ty5 rfl (by first | rfl | omega | decide | (simp; done)) rfl rfl ?_)
  refine So.n (Nat.le_of_ble_eq_true rfl) (A.call0 [.p (.bs _)] 2 rfl rfl rfl rfl ⟨trivial, trivial⟩ trivial _ ⟨.refl _, trivial⟩ trivial (by trivial) (Φ := fun s => (textF s).length ≤ 1048580) (fun s _ => textF_len s) (.inr ⟨fun j hj => by match j, hj with | 0, _ => trivial | 1, _ => trivial, by simp [Hp.scal, OC.scal]⟩) (v := .tup 2 _) rfl (O' := (3, ⟨5, 1, _, true, .bs _⟩) :: _) rfl (fun h1 => ?_))
  try dsimp only at h1
  refine So.n (Nat.le_of_ble_eq_true rfl) (A.v rfl (V.mv (v := .tup 2 _) rfl ?_))
  refine So.n (Nat.le_of_ble_eq_true rfl) (A.v rfl (V.ext rfl (Nat.le_of_ble_eq_true rfl) (v := .own 3 0 _) rfl ?_))
  refine So.n (Nat.le_of_ble_eq_true rfl) (A.v rfl (V.ext rfl (Nat.le_of_ble_eq_true rfl) (v := .p (.v (.int .i64 _))) rfl ?_))
  refine So.n (Nat.le_of_ble_eq_true rfl) (A.v rfl (V.as (v := .own 3 0 _) rfl ?_))
  refine So.n (Nat.le_of_ble_eq_true rfl) (A.v rfl (V.as (v := .p (.v (.int .i64 _))) rfl ?_))
  refine So.e ?_
  show HT _ _ _ _ _
  refine HT.seq ?_
  refine HT.region S10_ok ?_
  refine So.n (Nat.le_of_ble_eq_true rfl) (A.bsl 4 ty22 ty5 rfl (Nat.le_of_ble_eq_true rfl) (Nat.le_of_ble_eq_true rfl) (fun _ => rfl) rfl rfl trivial ⟨trivial, trivial, trivial, trivial⟩ rfl (N := 3) rfl (c := .bs [_, _, _]) rfl ?_)
  refine So.n (Nat.le_of_ble_eq_true rfl) (A.call0 [.p (.bs _), .p (.v (.int .i64 _))] 5 rfl rfl rfl rfl ⟨trivial, trivial, trivial⟩ trivial (_, _) ⟨.refl _, .refl _, trivial⟩ trivial (by trivial) (Φ := fun (b, i) => ((getTextF b i).2.2 = 0 → 0 ≤ i ∧ i < (getTextF b i).2.1 ∧ (getTextF b i).2.1 ≤ b.length) ∧ (getTextF b i).1.length ≤ 1048576) (fun (b, i) _ => ⟨getTextF_ok b i, getTextF_len b i⟩) (.inr ⟨fun j hj => by match j, hj with | 0, _ => trivial | 1, _ => trivial | 2, _ => trivial, by simp [Hp.scal, OC.scal]⟩) (v := .tup 3 _) rfl (O' := (6, ⟨5, 1, _, true, .bs _⟩) :: _) rfl (fun h2 => ?_))
  try dsimp only at h2
  refine So.n (Nat.le_of_ble_eq_true rfl) (A.v rfl (V.mv (v := .tup 3 _) rfl ?_))
  refine So.n (Nat.le_of_ble_eq_true rfl) (A.v rfl (V.ext rfl (Nat.le_of_ble_eq_true rfl) (v := .own 6 0 _) rfl ?_))
  refine So.n (Nat.le_of_ble_eq_true rfl) (A.v rfl (V.ext rfl (Nat.le_of_ble_eq_true rfl) (v := .p (.v (.int .i64 _))) rfl ?_))
  refine So.n (Nat.le_of_ble_eq_true rfl) (A.v rfl (V.ext rfl (Nat.le_of_ble_eq_true rfl) (v := .p (.v (.int .i64 _))) rfl ?_))
  refine So.n (Nat.le_of_ble_eq_true rfl) (A.v rfl (V.as (v := .own 6 0 _) rfl ?_))
  refine So.n (Nat.le_of_ble_eq_true rfl) (A.v rfl (V.as (v := .p (.v (.int .i64 _))) rfl ?_))
  refine So.n (Nat.le_of_ble_eq_true rfl) (A.v rfl (V.as (v := .p (.v (.int .i64 _))) rfl ?_))
  refine So.e ?_
  show HT _ _ _ _ _
  refine HT.seq ?_
  refine HT.region S10_ok ?_
  refine So.n (Nat.le_of_ble_eq_true rfl) (A.v rfl (V.mv (v := .p (.v (.int .i64 _))) rfl ?_))
  refine So.n (Nat.le_of_ble_eq_true rfl) (A.v rfl (V.bin (a := (.v (.int .i64 _))) (b := (.v (.int .i64 (0)))) (r := .v (.bool _)) rfl rfl rfl trivial ?_))
  refine So.n (Nat.le_of_ble_eq_true rfl) (A.v rfl (V.mv (v := .p (.v (.bool _))) rfl ?_))
  refine So.gd rfl rfl (Nat.le_of_ble_eq_true rfl) (Nat.le_of_ble_eq_true rfl) (fun h3 => ?_) (fun h3 => ?_)
  · have h3 := of_decide_eq_true h3
    refine A.v rfl (V.mv (v := .own 3 0 _) rfl ?_)
    refine So.gy rfl rfl (Nat.le_of_ble_eq_true rfl) (Nat.le_of_ble_eq_true rfl) ?_
    refine A.v rfl (V.cvOwn ty9 rfl rfl rfl rfl ?_)
    refine So.gy rfl rfl (Nat.le_of_ble_eq_true rfl) (Nat.le_of_ble_eq_true rfl) ?_
    refine A.v rfl (V.bin (a := (.str _)) (b := (.str [2, 97, 98])) (r := .v (.bool _)) rfl rfl rfl trivial ?_)
    refine So.n (Nat.le_of_ble_eq_true rfl) (A.v rfl (V.pkTrue (u := .p (.v (.bool _))) rfl rfl ?_))
    refine So.n (Nat.le_of_ble_eq_true rfl) (A.v rfl (V.mv (v := .p (.v (.bool _))) rfl ?_))
    refine So.gd rfl rfl (Nat.le_of_ble_eq_true rfl) (Nat.le_of_ble_eq_true rfl) (fun h4 => ?_) (fun h4 => ?_)
    · have h4 := of_decide_eq_true h4
      refine A.v rfl (V.mv (v := .p (.v (.int .i64 _))) rfl ?_)
      refine So.gy rfl rfl (Nat.le_of_ble_eq_true rfl) (Nat.le_of_ble_eq_true rfl) ?_
      refine A.v rfl (V.bin (a := (.v (.int .i64 _))) (b := (.v (.int .i64 (112)))) (r := .v (.bool _)) rfl rfl rfl trivial ?_)
      refine So.n (Nat.le_of_ble_eq_true rfl) (A.v rfl (V.pkTrue (u := .p (.v (.bool _))) rfl rfl ?_))
      refine So.n (Nat.le_of_ble_eq_true rfl) (A.v rfl (V.mv (v := .p (.v (.bool _))) rfl ?_))
      refine So.gd rfl rfl (Nat.le_of_ble_eq_true rfl) (Nat.le_of_ble_eq_true rfl) (fun h5 => ?_) (fun h5 => ?_)
      · have h5 := of_decide_eq_true h5
        refine A.call0 [.p (.v (.int .i64 _)), .p (.v (.int .i64 _))] 7 rfl rfl rfl rfl ⟨trivial, trivial, trivial⟩ trivial (_, _) ⟨.refl _, .refl _, trivial⟩ trivial (by trivial) (Φ := fun (n, k) => (numF n k).length ≤ 8) (fun _ _ => numF_len _ _) (.inl rfl) (v := .own 8 0 _) rfl (O' := (8, ⟨5, 1, _, true, .bs _⟩) :: _) rfl (fun h6 => ?_)
        try dsimp only at h6
        refine So.gy rfl rfl (Nat.le_of_ble_eq_true rfl) (Nat.le_of_ble_eq_true rfl) ?_
        refine A.v rfl (V.cvOwn ty9 rfl rfl rfl rfl ?_)
        refine So.gy rfl rfl (Nat.le_of_ble_eq_true rfl) (Nat.le_of_ble_eq_true rfl) ?_
        refine A.v rfl (V.bin (a := (.str _)) (b := (.str [1, 2])) (r := .v (.bool _)) rfl rfl rfl trivial ?_)
        refine So.n (Nat.le_of_ble_eq_true rfl) (A.v rfl (V.pkTrue (u := .p (.v (.bool _))) rfl rfl ?_))
        refine So.n (Nat.le_of_ble_eq_true rfl) (A.v rfl (V.mv (v := .p (.v (.bool _))) rfl ?_))
        refine So.gd rfl rfl (Nat.le_of_ble_eq_true rfl) (Nat.le_of_ble_eq_true rfl) (fun h7 => ?_) (fun h7 => ?_)
        · have h7 := of_decide_eq_true h7
          refine A.call0 [.p (.v (.int .i64 _)), .p (.v (.int .i64 _))] 9 rfl rfl rfl rfl ⟨trivial, trivial, trivial⟩ trivial (_, _) ⟨.refl _, .refl _, trivial⟩ trivial (by trivial) (Φ := fun (n, k) => (numF n k).length ≤ 8) (fun _ _ => numF_len _ _) (.inl rfl) (v := .own 10 0 _) rfl (O' := (10, ⟨5, 1, _, true, .bs _⟩) :: _) rfl (fun h8 => ?_)
          try dsimp only at h8
          refine So.gy rfl rfl (Nat.le_of_ble_eq_true rfl) (Nat.le_of_ble_eq_true rfl) ?_
          refine A.v rfl (V.len ty22 (v := .own 10 0 _) rfl rfl ?_)
          refine So.gy rfl rfl (Nat.le_of_ble_eq_true rfl) (Nat.le_of_ble_eq_true rfl) ?_
          refine A.v rfl (V.bin (a := (.v (.int .i64 _))) (b := (.v (.int .i64 (0)))) (r := .v (.bool _)) rfl rfl rfl trivial ?_)
          refine So.n (Nat.le_of_ble_eq_true rfl) (A.v rfl (V.pkTrue (u := .p (.v (.bool _))) rfl rfl ?_))
          refine So.n (Nat.le_of_ble_eq_true rfl) (A.v rfl (V.as (v := .p (.v (.bool _))) rfl ?_))
          refine So.e ?_
          show HT _ _ _ _ _
          refine HT.ret ?_
          exact ret_ok (sg []) h rfl rfl rfl trivial ⟨trivial, trivial⟩ rfl ⟨⟨⟨le_bool (by first | rfl | decide), trivial⟩, trivial⟩, trivial⟩
        · have h7 := of_decide_eq_false h7
          first | exact absurd (by first | rfl | decide | (simp; done)) h7 | exact absurd h7 (by first | rfl | decide | (simp; done))
      · have h5 := of_decide_eq_false h5
        first | exact absurd (by first | rfl | decide | (simp; done)) h5 | exact absurd h5 (by first | rfl | decide | (simp; done))
    · have h4 := of_decide_eq_false h4
      first | exact absurd (by first | rfl | decide | (simp; done)) h4 | exact absurd h4 (by first | rfl | decide | (simp; done))
  · have h3 := of_decide_eq_false h3
    first | exact absurd (by first | rfl | decide | (simp; done)) h3 | exact absurd h3 (by first | rfl | decide | (simp; done))

/-! ### sodality/sodalitylaw11.WireNumbers -/
def lawNumbersSp : Sp := ⟨[], mkE (α := Int × Int × (List UInt8) × Int) (fun (n, k, b, i) => [.p (.v (.int .i64 (n))), .p (.v (.int .i64 (k))), .p (.bs (b)), .p (.v (.int .i64 (i)))]) (fun (n, k, b, i) => []) (fun (n, k, b, i) => True) (fun (n, k, b, i) => [.p (.v (.bool true))]) (fun (n, k, b, i) => [])⟩
def S3 : FuncId → Option Sp := fun f => if f = 10 then some headSp else if f = 11 then some greatSp else if f = 12 then some getSp else if f = 13 then some rgetSp else if f = 14 then some numSp else if f = 15 then some rnumSp else none
theorem S3_ok : ∀ f s, S3 f = some s → FOK Tryd.prog gl f s := fun f s h => by
  unfold S3 at h
  split at h
  · rename_i e; cases h; subst e; exact head_ok
  split at h
  · rename_i e; cases h; subst e; exact great_ok
  split at h
  · rename_i e; cases h; subst e; exact get_ok
  split at h
  · rename_i e; cases h; subst e; exact rget_ok
  split at h
  · rename_i e; cases h; subst e; exact num_ok
  split at h
  · rename_i e; cases h; subst e; exact rnum_ok
  cases h
theorem S3_det : ∀ f s, S3 f = some s → SpDet s.sp := fun f s h => by
  unfold S3 at h
  split at h
  · cases h; exact mkE_det _ _ _ _ _
  split at h
  · cases h; exact mkE_det _ _ _ _ _
  split at h
  · cases h; exact mkE_det _ _ _ _ _
  split at h
  · cases h; exact mkE_det _ _ _ _ _
  split at h
  · cases h; exact mkE_det _ _ _ _ _
  split at h
  · cases h; exact mkE_det _ _ _ _ _
  cases h
set_option maxHeartbeats 1000000 in
theorem lawNumbers_ok : FOK Tryd.prog gl 3 lawNumbersSp := by
  refine FOK.ofE (tyOf_ok Tryd.prog) (slots := [8]) (nt := 63) Tryd.func3 rfl rfl rfl rfl (by decide) 4 (fun ⟨_, _, _, _⟩ => rfl) (by decide) (fun ⟨_, _, _, _⟩ => ⟨trivial, trivial, trivial, trivial, trivial⟩) ?_
  rintro ⟨n, k, b, i⟩ kk hlen hpre h
  have hl2 : (b).length ≤ 9223372036854775807 := hlen.2.2.1
  replace hpre : True := hpre
  show HT ⟨Tryd.prog, 63, tyOf Tryd.prog, gl, []⟩ _ [(0, .p (.v (.int .i64 (n)))), (1, .p (.v (.int .i64 (k)))), (2, .p (.bs (b))), (3, .p (.v (.int .i64 (i))))] [] _
  refine HT.seq ?_
  refine HT.region S3_ok ?_
  refine So.n (Nat.le_of_ble_eq_true rfl) (A.v rfl (V.as (v := .p (.v (.bool false))) rfl ?_))
  refine So.e ?_
  show HT _ _ _ _ _
  refine HT.seq ?_
  refine HT.region S3_ok ?_
  refine So.n (Nat.le_of_ble_eq_true rfl) (A.call0 [] 1 rfl rfl rfl rfl trivial trivial () trivial trivial (by trivial) (Φ := fun _ => True) (fun _ _ => trivial) (.inl rfl) (v := .p (.v (.bool true))) rfl (O' := _) rfl (fun h1 => ?_))
  refine So.n (Nat.le_of_ble_eq_true rfl) (A.v rfl (V.as (v := .p (.v (.bool true))) rfl ?_))
  refine So.e ?_
  show HT _ _ _ _ _
  refine HT.seq ?_
  refine HT.seq ?_
  refine HT.region S3_ok ?_
  refine So.n (Nat.le_of_ble_eq_true rfl) (A.v rfl (V.mv (v := .p (.bs _)) rfl ?_))
  refine So.n (Nat.le_of_ble_eq_true rfl) (A.call0 [.p (.bs _)] 1 rfl rfl rfl rfl ⟨trivial, trivial⟩ trivial _ ⟨.refl _, trivial⟩ trivial (by trivial) (Φ := fun _ => True) (fun _ _ => trivial) (.inl rfl) (v := .p (.v (.bool _))) rfl (O' := _) rfl (fun h2 => ?_))
  refine So.e ?_
  show HT _ _ _ _ _
  refine R.cond rfl rfl (fun h3 => ?_) (fun h3 => ?_)
  · have h3 := of_decide_eq_true h3
    refine HT.seq ?_
    refine HT.region S3_ok ?_
    refine So.n (Nat.le_of_ble_eq_true rfl) (A.v rfl (V.mv (v := .p (.v (.bool true))) rfl ?_))
    refine So.n (Nat.le_of_ble_eq_true rfl) (A.v rfl (V.as (v := .p (.v (.bool true))) rfl ?_))
    refine So.e ?_
    show HT _ _ _ _ _
    refine HT.ret ?_
    exact ret_ok (sg []) h rfl rfl rfl trivial ⟨trivial, trivial⟩ rfl ⟨⟨⟨le_bool (by first | rfl | (simp; done)), trivial⟩, trivial⟩, trivial⟩
  · have h3 := of_decide_eq_false h3
    refine HT.skip ?_
    show HT _ _ _ _ _
    refine HT.seq ?_
    refine HT.region S3_ok ?_
    refine So.n (Nat.le_of_ble_eq_true rfl) (A.v rfl (V.mv (v := .p (.bs _)) rfl ?_))
    refine So.n (Nat.le_of_ble_eq_true rfl) (A.v rfl (V.mv (v := .p (.v (.int .i64 _))) rfl ?_))
    refine So.n (Nat.le_of_ble_eq_true rfl) (A.v rfl (V.mv (v := .p (.v (.int .i64 _))) rfl ?_))
    refine So.n (Nat.le_of_ble_eq_true rfl) (A.call0 [.p (.bs _), .p (.v (.int .i64 _)), .p (.v (.int .i64 _))] 1 rfl rfl rfl rfl ⟨trivial, trivial, trivial, trivial⟩ trivial (_, _, _) ⟨.refl _, .refl _, .refl _, trivial⟩ trivial (by trivial) (Φ := fun (b, i, n) => 0 ≤ (getF b i n).2.1 ∧ (getF b i n).2.1 ≤ b.length) (fun (b, i, n) _ => ⟨(getF_from b i n).1, (getF_from b i n).2.1⟩) (.inl rfl) (v := .tup 3 _) rfl (O' := _) rfl (fun h4 => ?_))
    try dsimp only at h4
    refine So.n (Nat.le_of_ble_eq_true rfl) (A.v rfl (V.mv (v := .tup 3 _) rfl ?_))
    refine So.n (Nat.le_of_ble_eq_true rfl) (A.v rfl (V.ext rfl (Nat.le_of_ble_eq_true rfl) (v := .p (.v (.int .i64 _))) rfl ?_))
    refine So.n (Nat.le_of_ble_eq_true rfl) (A.v rfl (V.ext rfl (Nat.le_of_ble_eq_true rfl) (v := .p (.v (.int .i64 _))) rfl ?_))
    refine So.n (Nat.le_of_ble_eq_true rfl) (A.v rfl (V.ext rfl (Nat.le_of_ble_eq_true rfl) (v := .p (.v (.int .i64 _))) rfl ?_))
    refine So.n (Nat.le_of_ble_eq_true rfl) (A.v rfl (V.as (v := .p (.v (.int .i64 _))) rfl ?_))
    refine So.n (Nat.le_of_ble_eq_true rfl) (A.v rfl (V.as (v := .p (.v (.int .i64 _))) rfl ?_))
    refine So.n (Nat.le_of_ble_eq_true rfl) (A.v rfl (V.as (v := .p (.v (.int .i64 _))) rfl ?_))
    refine So.e ?_
    show HT _ _ _ _ _
    refine HT.seq ?_
    refine HT.region S3_ok ?_
    refine So.n (Nat.le_of_ble_eq_true rfl) (A.v rfl (V.mv (v := .p (.bs _)) rfl ?_))
    refine So.n (Nat.le_of_ble_eq_true rfl) (A.v rfl (V.mv (v := .p (.v (.int .i64 _))) rfl ?_))
    refine So.n (Nat.le_of_ble_eq_true rfl) (A.v rfl (V.mv (v := .p (.v (.int .i64 _))) rfl ?_))
    refine So.n (Nat.le_of_ble_eq_true rfl) (A.call0 [.p (.bs _), .p (.v (.int .i64 _)), .p (.v (.int .i64 _))] 1 rfl rfl rfl rfl ⟨trivial, trivial, trivial, trivial⟩ trivial (_, _, _) ⟨.refl _, .refl _, .refl _, trivial⟩ trivial (by trivial) (Φ := fun _ => True) (fun _ _ => trivial) (.inl rfl) (v := .tup 3 _) rfl (O' := _) rfl (fun h5 => ?_))
    refine So.n (Nat.le_of_ble_eq_true rfl) (A.v rfl (V.mv (v := .tup 3 _) rfl ?_))
    refine So.n (Nat.le_of_ble_eq_true rfl) (A.v rfl (V.ext rfl (Nat.le_of_ble_eq_true rfl) (v := .p (.v (.int .i64 _))) rfl ?_))
    refine So.n (Nat.le_of_ble_eq_true rfl) (A.v rfl (V.ext rfl (Nat.le_of_ble_eq_true rfl) (v := .p (.v (.int .i64 _))) rfl ?_))
    refine So.n (Nat.le_of_ble_eq_true rfl) (A.v rfl (V.ext rfl (Nat.le_of_ble_eq_true rfl) (v := .p (.v (.int .i64 _))) rfl ?_))
    refine So.n (Nat.le_of_ble_eq_true rfl) (A.v rfl (V.as (v := .p (.v (.int .i64 _))) rfl ?_))
    refine So.n (Nat.le_of_ble_eq_true rfl) (A.v rfl (V.as (v := .p (.v (.int .i64 _))) rfl ?_))
    refine So.n (Nat.le_of_ble_eq_true rfl) (A.v rfl (V.as (v := .p (.v (.int .i64 _))) rfl ?_))
    refine So.e ?_
    show HT _ _ _ _ _
    refine HT.seq ?_
    refine HT.drawn S3_ok S3_det mixed (by kernel_rfl) ?_
    refine Sd.n (Nat.le_of_ble_eq_true rfl) (V.mv (v := .p (.v (.bool true))) rfl ?_)
    refine Sd.n (Nat.le_of_ble_eq_true rfl) (V.mv (v := .p (.v (.bool true))) rfl ?_)
    refine Sd.gy rfl rfl (Nat.le_of_ble_eq_true rfl) (Nat.le_of_ble_eq_true rfl) ?_
    refine V.mv (v := .p (.v (.int .i64 _))) rfl ?_
    refine Sd.gy rfl rfl (Nat.le_of_ble_eq_true rfl) (Nat.le_of_ble_eq_true rfl) ?_
    refine V.mv (v := .p (.v (.int .i64 _))) rfl ?_
    refine Sd.gy rfl rfl (Nat.le_of_ble_eq_true rfl) (Nat.le_of_ble_eq_true rfl) ?_
    refine V.call [.p (.v (.int .i64 _)), .p (.v (.int .i64 _))] 1 rfl rfl rfl rfl ⟨trivial, trivial, trivial⟩ trivial (_, _) ⟨.refl _, .refl _, trivial⟩ trivial (by trivial) (Φ := fun (n, k) => (numF n k).length ≤ 8) (fun _ _ => numF_len _ _) (.inl ⟨trivial, trivial, trivial⟩) (v := .p (.bs _)) rfl (fun h6 => ?_)
    try dsimp only at h6
    refine Sd.gy rfl rfl (Nat.le_of_ble_eq_true rfl) (Nat.le_of_ble_eq_true rfl) ?_
    refine V.cvBs ty9 rfl rfl ?_
    refine Sd.gy rfl rfl (Nat.le_of_ble_eq_true rfl) (Nat.le_of_ble_eq_true rfl) ?_
    refine V.mv (v := .p (.v (.int .i64 _))) rfl ?_
    refine Sd.gy rfl rfl (Nat.le_of_ble_eq_true rfl) (Nat.le_of_ble_eq_true rfl) ?_
    refine V.mv (v := .p (.v (.int .i64 _))) rfl ?_
    refine Sd.gy rfl rfl (Nat.le_of_ble_eq_true rfl) (Nat.le_of_ble_eq_true rfl) ?_
    refine V.call [.p (.v (.int .i64 _)), .p (.v (.int .i64 _))] 1 rfl rfl rfl rfl ⟨trivial, trivial, trivial⟩ trivial (_, _) ⟨.refl _, .refl _, trivial⟩ trivial (by trivial) (Φ := fun (n, k) => (numF n k).length ≤ 8) (fun _ _ => numF_len _ _) (.inl ⟨trivial, trivial, trivial⟩) (v := .p (.bs _)) rfl (fun h7 => ?_)
    try dsimp only at h7
    refine Sd.gy rfl rfl (Nat.le_of_ble_eq_true rfl) (Nat.le_of_ble_eq_true rfl) ?_
    refine V.cvBs ty9 rfl rfl ?_
    refine Sd.gy rfl rfl (Nat.le_of_ble_eq_true rfl) (Nat.le_of_ble_eq_true rfl) ?_
    refine V.bin (a := (.str _)) (b := (.str _)) (r := .v (.bool _)) rfl rfl rfl trivial ?_
    refine Sd.n (Nat.le_of_ble_eq_true rfl) (V.pkTrue (u := .p (.v (.bool _))) rfl rfl ?_)
    refine Sd.n (Nat.le_of_ble_eq_true rfl) (V.mv (v := .p (.v (.bool _))) rfl ?_)
    refine Sd.gd rfl rfl (Nat.le_of_ble_eq_true rfl) (Nat.le_of_ble_eq_true rfl) (fun h8 => ?_) (fun h8 => ?_)
    · have h8 := of_decide_eq_true h8
      refine V.mv (v := .p (.v (.int .i64 _))) rfl ?_
      refine Sd.gy rfl rfl (Nat.le_of_ble_eq_true rfl) (Nat.le_of_ble_eq_true rfl) ?_
      refine V.mv (v := .p (.v (.int .i64 _))) rfl ?_
      refine Sd.gy rfl rfl (Nat.le_of_ble_eq_true rfl) (Nat.le_of_ble_eq_true rfl) ?_
      refine V.bin (a := (.v (.int .i64 _))) (b := (.v (.int .i64 _))) (r := .v (.bool _)) rfl rfl rfl trivial ?_
      refine Sd.n (Nat.le_of_ble_eq_true rfl) (V.pkTrue (u := .p (.v (.bool _))) rfl rfl ?_)
      refine Sd.n (Nat.le_of_ble_eq_true rfl) (V.mv (v := .p (.v (.bool _))) rfl ?_)
      refine Sd.gd rfl rfl (Nat.le_of_ble_eq_true rfl) (Nat.le_of_ble_eq_true rfl) (fun h9 => ?_) (fun h9 => ?_)
      · have h9 := of_decide_eq_true h9
        refine V.mv (v := .p (.v (.int .i64 _))) rfl ?_
        refine Sd.gy rfl rfl (Nat.le_of_ble_eq_true rfl) (Nat.le_of_ble_eq_true rfl) ?_
        refine V.mv (v := .p (.v (.int .i64 _))) rfl ?_
        refine Sd.gy rfl rfl (Nat.le_of_ble_eq_true rfl) (Nat.le_of_ble_eq_true rfl) ?_
        refine V.bin (a := (.v (.int .i64 _))) (b := (.v (.int .i64 _))) (r := .v (.bool _)) rfl rfl rfl trivial ?_
        refine Sd.n (Nat.le_of_ble_eq_true rfl) (V.pkTrue (u := .p (.v (.bool _))) rfl rfl ?_)
        refine Sd.n (Nat.le_of_ble_eq_true rfl) (V.mv (v := .p (.v (.bool _))) rfl ?_)
        refine Sd.gd rfl rfl (Nat.le_of_ble_eq_true rfl) (Nat.le_of_ble_eq_true rfl) (fun h10 => ?_) (fun h10 => ?_)
        · have h10 := of_decide_eq_true h10
          refine V.mv (v := .p (.v (.int .i64 _))) rfl ?_
          refine Sd.gy rfl rfl (Nat.le_of_ble_eq_true rfl) (Nat.le_of_ble_eq_true rfl) ?_
          refine V.mv (v := .p (.v (.int .i64 _))) rfl ?_
          refine Sd.gy rfl rfl (Nat.le_of_ble_eq_true rfl) (Nat.le_of_ble_eq_true rfl) ?_
          refine V.bin (a := (.v (.int .i64 _))) (b := (.v (.int .i64 _))) (r := .v (.bool _)) rfl rfl rfl trivial ?_
          refine Sd.n (Nat.le_of_ble_eq_true rfl) (V.pkTrue (u := .p (.v (.bool _))) rfl rfl ?_)
          refine Sd.n (Nat.le_of_ble_eq_true rfl) (V.as (v := .p (.v (.bool _))) rfl ?_)
          refine Sd.e ?_
          show HT _ _ _ _ _
          refine HT.ret ?_
          exact ret_ok (sg []) h rfl rfl rfl trivial ⟨trivial, trivial⟩ rfl ⟨⟨⟨le_bool (by first | rfl | (simp; done)), trivial⟩, trivial⟩, trivial⟩
        · have h10 := of_decide_eq_false h10
          first | exact absurd (by first | rfl | (simp; done)) h10 | exact absurd h10 (by first | rfl | (simp; done))
      · have h9 := of_decide_eq_false h9
        first | exact absurd (by first | rfl | (simp; done)) h9 | exact absurd h9 (by first | rfl | (simp; done))
    · have h8 := of_decide_eq_false h8
      first | exact absurd (by first | rfl | (simp; done)) h8 | exact absurd h8 (by first | rfl | (simp; done))

end Go.Vw

set_option linter.unusedVariables false
set_option linter.unusedSimpArgs false
namespace Go.Vw
open Go Go.Vc Go.Proofs

/-! ### sodality/wire.GetList#o -/
def getListOSp : Sp := ⟨[1], mkE (α := (List UInt8) × Nat × Int) (fun (c, m, i) => [.own 1 (0) (m), .p (.v (.int .i64 (i)))]) (fun (c, m, i) => [(1, ⟨5, 1, (c).length, true, .bs (c)⟩)]) (fun (c, m, i) => m ≤ c.length) (fun (c, m, i) => [.own 2 (0) ((getListF (c.take m) i).1.length), .p (.v (.int .i64 ((getListF (c.take m) i).2.1))), .p (.v (.int .i64 ((getListF (c.take m) i).2.2)))]) (fun (c, m, i) => [(1, ⟨5, 1, (c).length, true, .bs (c)⟩), (2, ⟨22, 1, ((getListF (c.take m) i).1).length, true, .rows (fun j => .bs (((getListF (c.take m) i).1).getD j []))⟩)])⟩
def S_getListO : FuncId → Option Sp := fun f => if f = 29 then some spanSp else if f = 20 then some getTextSp else none
theorem S_getListO_ok : ∀ f s, S_getListO f = some s → FOK Tryd.prog gl f s := fun f s h => by
  unfold S_getListO at h
  split at h
  · rename_i e; cases h; subst e; exact span_ok
  split at h
  · rename_i e; cases h; subst e; exact getText_ok
  cases h
theorem S_getListO_det : ∀ f s, S_getListO f = some s → SpDet s.sp := fun f s h => by
  unfold S_getListO at h
  split at h
  · cases h; exact mkE_det _ _ _ _ _
  split at h
  · cases h; exact mkE_det _ _ _ _ _
  cases h
set_option maxHeartbeats 1000000 in
theorem getListO_ok : FOK Tryd.prog gl 22 getListOSp := by
  refine FOK.ofE (tyOf_ok Tryd.prog) (slots := [4, 5, 6]) (nt := 48) Tryd.func22 rfl rfl rfl rfl (by decide) 2 (fun ⟨_, _, _⟩ => rfl) (by decide) (fun ⟨_, _, _⟩ => ⟨rfl, trivial, trivial⟩) ?_
  rintro ⟨c, m, i⟩ kk hlen hpre h
  have hl0 : _ ≤ 9223372036854775807 := hlen.1
  replace hpre : m ≤ c.length := hpre
  show HT ⟨Tryd.prog, 48, tyOf Tryd.prog, gl, [1]⟩ _ [(0, .own 1 (0) (m)), (1, .p (.v (.int .i64 (i))))] [(1, ⟨5, 1, (c).length, true, .bs (c)⟩)] _
  refine HT.seq ?_
  refine HT.region S_getListO_ok ?_
  refine So.n (Nat.le_of_ble_eq_true rfl) (A.v rfl (V.as (v := .p (.v (.slice none 0 0))) rfl ?_))
  refine So.n (Nat.le_of_ble_eq_true rfl) (A.v rfl (V.as (v := .p (.v (.int .i64 (0)))) rfl ?_))
  refine So.n (Nat.le_of_ble_eq_true rfl) (A.v rfl (V.as (v := .p (.v (.int .i64 (0)))) rfl ?_))
  refine So.e ?_
  show HT _ _ _ _ _
  refine HT.seq ?_
  refine HT.region S_getListO_ok ?_
  refine So.n (Nat.le_of_ble_eq_true rfl) (A.v rfl (V.mv (v := .own 1 0 _) rfl ?_))
  refine So.n (Nat.le_of_ble_eq_true rfl) (A.v rfl (V.mv (v := .p (.v (.int .i64 _))) rfl ?_))
  refine So.n (Nat.le_of_ble_eq_true rfl) (A.call0 [.p (.bs _), .p (.v (.int .i64 _))] 2 rfl rfl rfl rfl ⟨trivial, trivial, trivial⟩ ⟨Nat.le_of_ble_eq_true rfl, trivial⟩ (c.take m, i) ⟨.refl _, .refl _, trivial⟩ trivial (by trivial) (Φ := fun (b, i) => (spanF b i).2.2 = 0 → 0 ≤ i ∧ i < (spanF b i).1 ∧ (spanF b i).1 ≤ (spanF b i).2.1 ∧ (spanF b i).2.1 ≤ b.length ∧ (spanF b i).2.1 - (spanF b i).1 ≤ 1048576) (fun (b, i) _ => spanF_ok b i) (.inr ⟨fun j hj => by match j, hj with | 0, _ => trivial | 1, _ => trivial | 2, _ => trivial, by simp [Hp.scal, OC.scal]⟩) (v := .tup 3 _) rfl (O' := _) rfl (fun h1 => ?_))
  try dsimp only at h1
  refine So.n (Nat.le_of_ble_eq_true rfl) (A.v rfl (V.mv (v := .tup 3 _) rfl ?_))
  refine So.n (Nat.le_of_ble_eq_true rfl) (A.v rfl (V.ext rfl (Nat.le_of_ble_eq_true rfl) (v := .p (.v (.int .i64 _))) rfl ?_))
  refine So.n (Nat.le_of_ble_eq_true rfl) (A.v rfl (V.ext rfl (Nat.le_of_ble_eq_true rfl) (v := .p (.v (.int .i64 _))) rfl ?_))
  refine So.n (Nat.le_of_ble_eq_true rfl) (A.v rfl (V.ext rfl (Nat.le_of_ble_eq_true rfl) (v := .p (.v (.int .i64 _))) rfl ?_))
  refine So.n (Nat.le_of_ble_eq_true rfl) (A.v rfl (V.as (v := .p (.v (.int .i64 _))) rfl ?_))
  refine So.n (Nat.le_of_ble_eq_true rfl) (A.v rfl (V.as (v := .p (.v (.int .i64 _))) rfl ?_))
  refine So.n (Nat.le_of_ble_eq_true rfl) (A.v rfl (V.as (v := .p (.v (.int .i64 _))) rfl ?_))
  refine So.e ?_
  show HT _ _ _ _ _
  refine HT.seq ?_
  refine HT.seq ?_
  refine HT.region S_getListO_ok ?_
  have hsp := h1
  have hlc : (c.take m).length = m := by rw [List.length_take]; omega
  refine So.n (Nat.le_of_ble_eq_true rfl) (A.v rfl (V.mv (v := .p (.v (.int .i64 _))) rfl ?_))
  refine So.n (Nat.le_of_ble_eq_true rfl) (A.v rfl (V.bin (a := (.v (.int .i64 _))) (b := (.v (.int .i64 (0)))) (r := .v (.bool _)) rfl rfl rfl trivial ?_))
  refine So.e ?_
  show HT _ _ _ _ _
  refine R.cond rfl rfl (fun h2 => ?_) (fun h2 => ?_)
  · have h2 := of_decide_eq_false (bnT h2)
    refine HT.seq ?_
    refine HT.region S_getListO_ok ?_
    refine So.n (Nat.le_of_ble_eq_true rfl) (A.v rfl (V.mv (v := .p (.v (.int .i64 _))) rfl ?_))
    refine So.n (Nat.le_of_ble_eq_true rfl) (A.v rfl (V.as (v := .p (.v (.slice none 0 0))) rfl ?_))
    refine So.n (Nat.le_of_ble_eq_true rfl) (A.v rfl (V.as (v := .p (.v (.int .i64 (0)))) rfl ?_))
    refine So.n (Nat.le_of_ble_eq_true rfl) (A.v rfl (V.as (v := .p (.v (.int .i64 _))) rfl ?_))
    refine So.e ?_
    show HT _ _ _ _ _
    refine R.phan 4 2 22 1 (.rows (fun j => .bs (([] : List (List UInt8)).getD j []))) rfl rfl rfl trivial ?_
    refine HT.ret ?_
    exact ret_ok (sg [(1, 1), (2, 2)]) h rfl rfl rfl ⟨trivial, trivial, trivial⟩ ⟨rfl, trivial, trivial, trivial⟩ rfl ⟨⟨⟨le_own2 (by first | rfl | omega) (by first | rfl | (intro j hj; (try dsimp only at hj); omega) | (rw [gl_e0 (by omega)] <;> rfl) | (rw [gl_e1 (by omega) hP0 (by unfold allOf; omega) (by assumption)] <;> rfl) | (rw [gl_fin (by omega) hP0 (by unfold allOf; omega)] <;> rfl) | (intro j hj; rw [gl_fin (by omega) hP0 (by unfold allOf; omega)])), rfl⟩, ⟨le_int (by first | rfl | (intro j hj; (try dsimp only at hj); omega) | (rw [gl_e0 (by omega)] <;> rfl) | (rw [gl_e1 (by omega) hP0 (by unfold allOf; omega) (by assumption)] <;> rfl) | (rw [gl_fin (by omega) hP0 (by unfold allOf; omega)] <;> rfl) | (intro j hj; rw [gl_fin (by omega) hP0 (by unfold allOf; omega)])), trivial⟩, ⟨le_int (by first | rfl | (intro j hj; (try dsimp only at hj); omega) | (rw [gl_e0 (by omega)] <;> rfl) | (rw [gl_e1 (by omega) hP0 (by unfold allOf; omega) (by assumption)] <;> rfl) | (rw [gl_fin (by omega) hP0 (by unfold allOf; omega)] <;> rfl) | (intro j hj; rw [gl_fin (by omega) hP0 (by unfold allOf; omega)])), trivial⟩, trivial⟩, ⟨⟨_, rfl, .inl (ob_bs (by first | rfl | ((try dsimp only); (first | rfl | (intro j hj; (try dsimp only at hj); omega) | (rw [gl_e0 (by omega)] <;> rfl) | (rw [gl_e1 (by omega) hP0 (by unfold allOf; omega) (by assumption)] <;> rfl) | (rw [gl_fin (by omega) hP0 (by unfold allOf; omega)] <;> rfl) | (intro j hj; rw [gl_fin (by omega) hP0 (by unfold allOf; omega)])))) (by first | rfl | ((try dsimp only); (first | rfl | (intro j hj; (try dsimp only at hj); omega) | (rw [gl_e0 (by omega)] <;> rfl) | (rw [gl_e1 (by omega) hP0 (by unfold allOf; omega) (by assumption)] <;> rfl) | (rw [gl_fin (by omega) hP0 (by unfold allOf; omega)] <;> rfl) | (intro j hj; rw [gl_fin (by omega) hP0 (by unfold allOf; omega)]))))), trivial⟩, ⟨_, rfl, .inr (ob_rows (by first | rfl | ((try dsimp only); (first | rfl | (intro j hj; (try dsimp only at hj); omega) | (rw [gl_e0 (by omega)] <;> rfl) | (rw [gl_e1 (by omega) hP0 (by unfold allOf; omega) (by assumption)] <;> rfl) | (rw [gl_fin (by omega) hP0 (by unfold allOf; omega)] <;> rfl) | (intro j hj; rw [gl_fin (by omega) hP0 (by unfold allOf; omega)])))) (by first | rfl | ((try dsimp only); (first | rfl | (intro j hj; (try dsimp only at hj); omega) | (rw [gl_e0 (by omega)] <;> rfl) | (rw [gl_e1 (by omega) hP0 (by unfold allOf; omega) (by assumption)] <;> rfl) | (rw [gl_fin (by omega) hP0 (by unfold allOf; omega)] <;> rfl) | (intro j hj; rw [gl_fin (by omega) hP0 (by unfold allOf; omega)]))))), trivial⟩, trivial⟩⟩
  · have h2 := of_decide_eq_true (bnF h2)
    refine HT.skip ?_
    show HT _ _ _ _ _
    refine HT.seq ?_
    refine HT.region S_getListO_ok ?_
    refine So.n (Nat.le_of_ble_eq_true rfl) (A.v rfl (V.as (v := .p (.v (.slice none 0 0))) rfl ?_))
    refine So.e ?_
    show HT _ _ _ _ _
    refine HT.seq ?_
    refine HT.region S_getListO_ok ?_
    refine So.n (Nat.le_of_ble_eq_true rfl) (A.v rfl (V.mv (v := .own 1 0 _) rfl ?_))
    refine So.n (Nat.le_of_ble_eq_true rfl) (A.v rfl (V.mv (v := .p (.v (.int .i64 _))) rfl ?_))
    refine So.n (Nat.le_of_ble_eq_true rfl) (A.v rfl (V.mv (v := .p (.v (.int .i64 _))) rfl ?_))
    refine So.n (Nat.le_of_ble_eq_true rfl) (A.v rfl (V.cutOwn ty22 ty5 rfl rfl rfl rfl rfl (by omega) (.inl rfl) ?_))
    refine So.n (Nat.le_of_ble_eq_true rfl) (A.v rfl (V.as (v := .own 1 _ _) rfl ?_))
    refine So.e ?_
    show HT _ _ _ _ _
    refine HT.seq ?_
    refine HT.seq ?_
    refine HT.region S_getListO_ok ?_
    refine So.n (Nat.le_of_ble_eq_true rfl) (A.v rfl (V.as (v := .p (.v (.int .i64 (0)))) rfl ?_))
    refine So.e ?_
    show HT _ _ _ _ _
    refine HT.block ?_
    refine R.phan 10 2 22 1 (.rows (fun j => .bs (([] : List (List UInt8)).getD j []))) rfl rfl rfl trivial ?_
    refine R.loop (σ := List (List UInt8) × Int) (fun s => [(9, .p (.v (.int .i64 (0)))), (10, .own 2 (0) (s.1.length)), (12, .p (.v (.int .i64 (s.2))))]) (fun s => [(2, ⟨22, 1, (s.1).length, true, .rows (fun j => .bs ((s.1).getD j []))⟩)]) [8, 11] [1] (fun s => PL ((((c.take m).take (spanF (c.take m) i).2.1.toNat).drop (spanF (c.take m) i).1.toNat)) s) (fun s => (((((c.take m).take (spanF (c.take m) i).2.1.toNat).drop (spanF (c.take m) i).1.toNat)).length - s.2).toNat) (([], 0)) (fr0 := [(8, .p (.v (.int .i64 _))), (11, .own 1 _ _)]) (O0 := [(1, ⟨_, _, _, _, .bs _⟩)]) rfl rfl (by exact PL_0 _) ⟨⟨⟨le_int (by first | rfl | omega | (simp; done) | (simp; omega)), trivial⟩, ⟨le_own2 (by first | rfl | omega) (by first | rfl | omega | (simp; done) | (simp; omega)), rfl⟩, ⟨le_int (by first | rfl | omega | (simp; done) | (simp; omega)), trivial⟩, ⟨.refl _, trivial⟩, ⟨.refl _, rfl⟩, trivial⟩, ⟨⟨_, rfl, .inr (ob_rows (by first | rfl | ((try dsimp only); first | rfl | omega | (simp; done) | (simp; omega))) (by first | rfl | ((try dsimp only); first | rfl | omega | (simp; done) | (simp; omega)))), trivial⟩, ⟨_, rfl, .inl rfl, trivial⟩, trivial⟩⟩ (fun s hP0 => ?_)
    obtain ⟨hq1, hq2, hq3, hq4⟩ := hP0
    have hP0 : PL ((((c.take m).take (spanF (c.take m) i).2.1.toNat).drop (spanF (c.take m) i).1.toNat)) s := ⟨hq1, hq2, hq3, hq4⟩
    have hal : ((((c.take m).take (spanF (c.take m) i).2.1.toNat).drop (spanF (c.take m) i).1.toNat)).length ≤ 1048576 := by have := hsp (by omega); simp only [List.length_drop, List.length_take]; omega
    have hall : (((((c.take m).take (spanF (c.take m) i).2.1.toNat).drop (spanF (c.take m) i).1.toNat).length : Nat) : Int) = (((spanF (c.take m) i).2.1.toNat - (spanF (c.take m) i).1.toNat : Nat) : Int) := by have := hsp (by omega); simp only [List.length_drop, List.length_take]; omega
    refine HT.seq ?_
    refine HT.seq ?_
    refine HT.region S_getListO_ok ?_
    refine So.n (Nat.le_of_ble_eq_true rfl) (A.v rfl (V.mv (v := .p (.v (.int .i64 _))) rfl ?_))
    refine So.n (Nat.le_of_ble_eq_true rfl) (A.v rfl (V.mv (v := .own 1 _ _) rfl ?_))
    refine So.n (Nat.le_of_ble_eq_true rfl) (A.v rfl (V.len ty22 (v := .own 1 _ _) rfl rfl ?_))
    refine So.n (Nat.le_of_ble_eq_true rfl) (A.v rfl (V.bin (a := (.v (.int .i64 _))) (b := (.v (.int .i64 _))) (r := .v (.bool _)) rfl rfl rfl trivial ?_))
    refine So.e ?_
    show HT _ _ _ _ _
    refine R.cond rfl rfl (fun h3 => ?_) (fun h3 => ?_)
    · have h3 := of_decide_eq_true h3
      refine HT.skip ?_
      show HT _ _ _ _ _
      refine HT.block ?_
      refine HT.seq ?_
      refine HT.region S_getListO_ok ?_
      refine So.n (Nat.le_of_ble_eq_true rfl) (A.v rfl (V.as (v := .p (.v (.slice none 0 0))) rfl ?_))
      refine So.e ?_
      show HT _ _ _ _ _
      refine HT.seq ?_
      refine HT.seq ?_
      refine HT.region S_getListO_ok ?_
      refine So.n (Nat.le_of_ble_eq_true rfl) (A.v rfl (V.mv (v := .own 1 _ _) rfl ?_))
      refine So.n (Nat.le_of_ble_eq_true rfl) (A.v rfl (V.mv (v := .p (.v (.int .i64 _))) rfl ?_))
      refine So.n (Nat.le_of_ble_eq_true rfl) (A.call0 [.p (.bs _), .p (.v (.int .i64 _))] 3 rfl rfl rfl rfl ⟨trivial, trivial, trivial⟩ ⟨Nat.le_of_ble_eq_true rfl, trivial⟩ ((((c.take m).take (spanF (c.take m) i).2.1.toNat).drop (spanF (c.take m) i).1.toNat), s.2) ⟨le_bs (cutO (by omega)), .refl _, trivial⟩ trivial (by trivial) (Φ := fun (b, i) => ((getTextF b i).2.2 = 0 → 0 ≤ i ∧ i < (getTextF b i).2.1 ∧ (getTextF b i).2.1 ≤ b.length) ∧ (getTextF b i).1.length ≤ 1048576) (fun (b, i) _ => ⟨getTextF_ok b i, getTextF_len b i⟩) (.inr ⟨fun j hj => by match j, hj with | 0, _ => trivial | 1, _ => trivial | 2, _ => trivial, by simp [Hp.scal, OC.scal]⟩) (v := .tup 3 _) rfl (O' := (4, ⟨5, 1, _, true, .bs _⟩) :: _) rfl (fun h4 => ?_))
      try dsimp only at h4
      refine So.n (Nat.le_of_ble_eq_true rfl) (A.v rfl (V.mv (v := .tup 3 _) rfl ?_))
      refine So.n (Nat.le_of_ble_eq_true rfl) (A.v rfl (V.ext rfl (Nat.le_of_ble_eq_true rfl) (v := .own 4 0 _) rfl ?_))
      refine So.n (Nat.le_of_ble_eq_true rfl) (A.v rfl (V.ext rfl (Nat.le_of_ble_eq_true rfl) (v := .p (.v (.int .i64 _))) rfl ?_))
      refine So.n (Nat.le_of_ble_eq_true rfl) (A.v rfl (V.ext rfl (Nat.le_of_ble_eq_true rfl) (v := .p (.v (.int .i64 _))) rfl ?_))
      refine So.n (Nat.le_of_ble_eq_true rfl) (A.v rfl (V.as (v := .own 4 0 _) rfl ?_))
      refine So.n (Nat.le_of_ble_eq_true rfl) (A.v rfl (V.as (v := .p (.v (.int .i64 _))) rfl ?_))
      refine So.n (Nat.le_of_ble_eq_true rfl) (A.v rfl (V.as (v := .p (.v (.int .i64 _))) rfl ?_))
      refine So.e ?_
      show HT _ _ _ _ _
      refine HT.seq ?_
      refine HT.region S_getListO_ok ?_
      refine So.n (Nat.le_of_ble_eq_true rfl) (A.v rfl (V.mv (v := .p (.v (.int .i64 _))) rfl ?_))
      refine So.n (Nat.le_of_ble_eq_true rfl) (A.v rfl (V.bin (a := (.v (.int .i64 _))) (b := (.v (.int .i64 (0)))) (r := .v (.bool _)) rfl rfl rfl trivial ?_))
      refine So.e ?_
      show HT _ _ _ _ _
      refine R.cond rfl rfl (fun h5 => ?_) (fun h5 => ?_)
      · have h5 := of_decide_eq_false (bnT h5)
        refine HT.seq ?_
        refine HT.region S_getListO_ok ?_
        refine So.n (Nat.le_of_ble_eq_true rfl) (A.v rfl (V.mv (v := .p (.v (.int .i64 _))) rfl ?_))
        refine So.n (Nat.le_of_ble_eq_true rfl) (A.v rfl (V.as (v := .p (.v (.slice none 0 0))) rfl ?_))
        refine So.n (Nat.le_of_ble_eq_true rfl) (A.v rfl (V.as (v := .p (.v (.int .i64 (0)))) rfl ?_))
        refine So.n (Nat.le_of_ble_eq_true rfl) (A.v rfl (V.as (v := .p (.v (.int .i64 _))) rfl ?_))
        refine So.e ?_
        show HT _ _ _ _ _
        refine R.phan 4 5 22 1 (.rows (fun j => .bs (([] : List (List UInt8)).getD j []))) rfl rfl rfl trivial ?_
        refine HT.ret ?_
        exact ret_ok (sg [(1, 1), (2, 5)]) h rfl rfl rfl ⟨trivial, trivial, trivial⟩ ⟨rfl, trivial, trivial, trivial⟩ rfl ⟨⟨⟨le_own2 (by first | rfl | omega) (by first | rfl | (intro j hj; (try dsimp only at hj); omega) | (rw [gl_e0 (by omega)] <;> rfl) | (rw [gl_e1 (by omega) hP0 (by unfold allOf; omega) (by assumption)] <;> rfl) | (rw [gl_fin (by omega) hP0 (by unfold allOf; omega)] <;> rfl) | (intro j hj; rw [gl_fin (by omega) hP0 (by unfold allOf; omega)])), rfl⟩, ⟨le_int (by first | rfl | (intro j hj; (try dsimp only at hj); omega) | (rw [gl_e0 (by omega)] <;> rfl) | (rw [gl_e1 (by omega) hP0 (by unfold allOf; omega) (by assumption)] <;> rfl) | (rw [gl_fin (by omega) hP0 (by unfold allOf; omega)] <;> rfl) | (intro j hj; rw [gl_fin (by omega) hP0 (by unfold allOf; omega)])), trivial⟩, ⟨le_int (by first | rfl | (intro j hj; (try dsimp only at hj); omega) | (rw [gl_e0 (by omega)] <;> rfl) | (rw [gl_e1 (by omega) hP0 (by unfold allOf; omega) (by assumption)] <;> rfl) | (rw [gl_fin (by omega) hP0 (by unfold allOf; omega)] <;> rfl) | (intro j hj; rw [gl_fin (by omega) hP0 (by unfold allOf; omega)])), trivial⟩, trivial⟩, ⟨⟨_, rfl, .inl (ob_bs (by first | rfl | ((try dsimp only); (first | rfl | (intro j hj; (try dsimp only at hj); omega) | (rw [gl_e0 (by omega)] <;> rfl) | (rw [gl_e1 (by omega) hP0 (by unfold allOf; omega) (by assumption)] <;> rfl) | (rw [gl_fin (by omega) hP0 (by unfold allOf; omega)] <;> rfl) | (intro j hj; rw [gl_fin (by omega) hP0 (by unfold allOf; omega)])))) (by first | rfl | ((try dsimp only); (first | rfl | (intro j hj; (try dsimp only at hj); omega) | (rw [gl_e0 (by omega)] <;> rfl) | (rw [gl_e1 (by omega) hP0 (by unfold allOf; omega) (by assumption)] <;> rfl) | (rw [gl_fin (by omega) hP0 (by unfold allOf; omega)] <;> rfl) | (intro j hj; rw [gl_fin (by omega) hP0 (by unfold allOf; omega)]))))), trivial⟩, ⟨_, rfl, .inr (ob_rows (by first | rfl | ((try dsimp only); (first | rfl | (intro j hj; (try dsimp only at hj); omega) | (rw [gl_e0 (by omega)] <;> rfl) | (rw [gl_e1 (by omega) hP0 (by unfold allOf; omega) (by assumption)] <;> rfl) | (rw [gl_fin (by omega) hP0 (by unfold allOf; omega)] <;> rfl) | (intro j hj; rw [gl_fin (by omega) hP0 (by unfold allOf; omega)])))) (by first | rfl | ((try dsimp only); (first | rfl | (intro j hj; (try dsimp only at hj); omega) | (rw [gl_e0 (by omega)] <;> rfl) | (rw [gl_e1 (by omega) hP0 (by unfold allOf; omega) (by assumption)] <;> rfl) | (rw [gl_fin (by omega) hP0 (by unfold allOf; omega)] <;> rfl) | (intro j hj; rw [gl_fin (by omega) hP0 (by unfold allOf; omega)]))))), trivial⟩, trivial⟩⟩
      · have h5 := of_decide_eq_true (bnF h5)
        refine HT.skip ?_
        show HT _ _ _ _ _
        refine HT.region S_getListO_ok ?_
        refine So.n (Nat.le_of_ble_eq_true rfl) (A.v rfl (V.mv (v := .own 2 0 _) rfl ?_))
        refine So.n (Nat.le_of_ble_eq_true rfl) (A.v rfl (V.mv (v := .own 4 0 _) rfl ?_))
        refine So.n (Nat.le_of_ble_eq_true rfl) (A.bsl 3 ty34 ty22 rfl (Nat.le_of_ble_eq_true rfl) (Nat.le_of_ble_eq_true rfl) (fun _ => rfl) rfl rfl ⟨Nat.le_of_ble_eq_true rfl, trivial⟩ ⟨trivial, trivial⟩ rfl (N := 1) rfl (c := .rows _) rfl ?_)
        refine So.n (Nat.le_of_ble_eq_true rfl) (A.apRows1 ty34 ty22 rfl rfl rfl rfl (Nat.le_of_ble_eq_true rfl) rfl rfl (u := .own 3 0 _) rfl rfl (by intro j hj; match j, hj with | 0, _ => trivial) rfl (by first | rfl | omega | (simp; done) | (simp; omega)) rfl rfl rfl ?_)
        refine So.n (Nat.le_of_ble_eq_true rfl) (A.v rfl (V.as (v := .own 2 0 _) rfl ?_))
        refine So.e ?_
        refine ⟨(s.1 ++ [(getTextF ((((c.take m).take (spanF (c.take m) i).2.1.toNat).drop (spanF (c.take m) i).1.toNat)) s.2).1], (getTextF ((((c.take m).take (spanF (c.take m) i).2.1.toNat).drop (spanF (c.take m) i).1.toNat)) s.2).2.1), by exact PL_step hP0 (by omega) (by omega), by (dsimp only; omega), ⟨⟨⟨le_int (by omega), trivial⟩, ⟨le_own2 (by first | rfl | omega) (by simp), rfl⟩, ⟨le_int (by rfl), trivial⟩, ⟨.refl _, trivial⟩, ⟨.refl _, rfl⟩, trivial⟩, ⟨⟨_, rfl, .inr (ob_rows (by first | rfl | ((try dsimp only); first | (simp; done) | (intro j hj; simp only [List.drop_zero, List.take_length]; exact rows_snoc (emb := PV.bs) (d0 := []) (g := fun k => [PV.bs (getTextF ((((c.take m).take (spanF (c.take m) i).2.1.toNat).drop (spanF (c.take m) i).1.toNat)) s.2).1].getD (0 + k) (.v undef)) rfl rfl j hj))) (by first | rfl | ((try dsimp only); first | (simp; done) | (intro j hj; simp only [List.drop_zero, List.take_length]; exact rows_snoc (emb := PV.bs) (d0 := []) (g := fun k => [PV.bs (getTextF ((((c.take m).take (spanF (c.take m) i).2.1.toNat).drop (spanF (c.take m) i).1.toNat)) s.2).1].getD (0 + k) (.v undef)) rfl rfl j hj)))), trivial⟩, ⟨_, rfl, .inl rfl, trivial⟩, trivial⟩⟩⟩
    · have h3 := of_decide_eq_false h3
      refine HT.exit ?_
      show HT _ _ _ _ _
      refine HT.seq ?_
      refine HT.region S_getListO_ok ?_
      refine So.n (Nat.le_of_ble_eq_true rfl) (A.v rfl (V.mv (v := .own 2 0 _) rfl ?_))
      refine So.n (Nat.le_of_ble_eq_true rfl) (A.v rfl (V.mv (v := .p (.v (.int .i64 _))) rfl ?_))
      refine So.n (Nat.le_of_ble_eq_true rfl) (A.v rfl (V.as (v := .own 2 0 _) rfl ?_))
      refine So.n (Nat.le_of_ble_eq_true rfl) (A.v rfl (V.as (v := .p (.v (.int .i64 _))) rfl ?_))
      refine So.n (Nat.le_of_ble_eq_true rfl) (A.v rfl (V.as (v := .p (.v (.int .i64 (0)))) rfl ?_))
      refine So.e ?_
      show HT _ _ _ _ _
      refine HT.ret ?_
      exact ret_ok (sg [(1, 1), (2, 2)]) h rfl rfl rfl ⟨trivial, trivial, trivial⟩ ⟨rfl, trivial, trivial, trivial⟩ rfl ⟨⟨⟨le_own2 (by first | rfl | omega) (by first | rfl | (intro j hj; (try dsimp only at hj); omega) | (rw [gl_e0 (by omega)] <;> rfl) | (rw [gl_e1 (by omega) hP0 (by unfold allOf; omega) (by assumption)] <;> rfl) | (rw [gl_fin (by omega) hP0 (by unfold allOf; omega)] <;> rfl) | (intro j hj; rw [gl_fin (by omega) hP0 (by unfold allOf; omega)])), rfl⟩, ⟨le_int (by first | rfl | (intro j hj; (try dsimp only at hj); omega) | (rw [gl_e0 (by omega)] <;> rfl) | (rw [gl_e1 (by omega) hP0 (by unfold allOf; omega) (by assumption)] <;> rfl) | (rw [gl_fin (by omega) hP0 (by unfold allOf; omega)] <;> rfl) | (intro j hj; rw [gl_fin (by omega) hP0 (by unfold allOf; omega)])), trivial⟩, ⟨le_int (by first | rfl | (intro j hj; (try dsimp only at hj); omega) | (rw [gl_e0 (by omega)] <;> rfl) | (rw [gl_e1 (by omega) hP0 (by unfold allOf; omega) (by assumption)] <;> rfl) | (rw [gl_fin (by omega) hP0 (by unfold allOf; omega)] <;> rfl) | (intro j hj; rw [gl_fin (by omega) hP0 (by unfold allOf; omega)])), trivial⟩, trivial⟩, ⟨⟨_, rfl, .inl (ob_bs (by first | rfl | ((try dsimp only); (first | rfl | (intro j hj; (try dsimp only at hj); omega) | (rw [gl_e0 (by omega)] <;> rfl) | (rw [gl_e1 (by omega) hP0 (by unfold allOf; omega) (by assumption)] <;> rfl) | (rw [gl_fin (by omega) hP0 (by unfold allOf; omega)] <;> rfl) | (intro j hj; rw [gl_fin (by omega) hP0 (by unfold allOf; omega)])))) (by first | rfl | ((try dsimp only); (first | rfl | (intro j hj; (try dsimp only at hj); omega) | (rw [gl_e0 (by omega)] <;> rfl) | (rw [gl_e1 (by omega) hP0 (by unfold allOf; omega) (by assumption)] <;> rfl) | (rw [gl_fin (by omega) hP0 (by unfold allOf; omega)] <;> rfl) | (intro j hj; rw [gl_fin (by omega) hP0 (by unfold allOf; omega)]))))), trivial⟩, ⟨_, rfl, .inr (ob_rows (by first | rfl | ((try dsimp only); (first | rfl | (intro j hj; (try dsimp only at hj); omega) | (rw [gl_e0 (by omega)] <;> rfl) | (rw [gl_e1 (by omega) hP0 (by unfold allOf; omega) (by assumption)] <;> rfl) | (rw [gl_fin (by omega) hP0 (by unfold allOf; omega)] <;> rfl) | (intro j hj; rw [gl_fin (by omega) hP0 (by unfold allOf; omega)])))) (by first | rfl | ((try dsimp only); (first | rfl | (intro j hj; (try dsimp only at hj); omega) | (rw [gl_e0 (by omega)] <;> rfl) | (rw [gl_e1 (by omega) hP0 (by unfold allOf; omega) (by assumption)] <;> rfl) | (rw [gl_fin (by omega) hP0 (by unfold allOf; omega)] <;> rfl) | (intro j hj; rw [gl_fin (by omega) hP0 (by unfold allOf; omega)]))))), trivial⟩, trivial⟩⟩

end Go.Vw

set_option linter.unusedVariables false
set_option linter.unusedSimpArgs false
namespace Go.Vw
open Go Go.Vc Go.Proofs

/-! ### sodality/sodalitylaw11.WireApart -/
def lawApartSp : Sp := ⟨[], mkE (α := (List UInt8) × (List UInt8) × (List (List UInt8)) × (List (List UInt8)) × UInt32) (fun (s, t, l, m, n) => [.p (.bs (s)), .p (.bs (t)), .p (.sl (l).length 1 (fun j => .bs ((l).getD j []))), .p (.sl (m).length 1 (fun j => .bs ((m).getD j []))), .p (.u32 (n))]) (fun (s, t, l, m, n) => []) (fun (s, t, l, m, n) => True) (fun (s, t, l, m, n) => [.p (.v (.bool true))]) (fun (s, t, l, m, n) => [])⟩
def S_lawApart : FuncId → Option Sp := fun f => if f = 10 then some headSp else if f = 16 then some textSp else if f = 25 then some beginsSp else if f = 17 then some listSp else if f = 24 then some rsameSp else if f = 22 then some getListOSp else none
theorem S_lawApart_ok : ∀ f s, S_lawApart f = some s → FOK Tryd.prog gl f s := fun f s h => by
  unfold S_lawApart at h
  split at h
  · rename_i e; cases h; subst e; exact head_ok
  split at h
  · rename_i e; cases h; subst e; exact text_ok
  split at h
  · rename_i e; cases h; subst e; exact begins_ok
  split at h
  · rename_i e; cases h; subst e; exact list_ok
  split at h
  · rename_i e; cases h; subst e; exact rsame_ok
  split at h
  · rename_i e; cases h; subst e; exact getListO_ok
  cases h
theorem S_lawApart_det : ∀ f s, S_lawApart f = some s → SpDet s.sp := fun f s h => by
  unfold S_lawApart at h
  split at h
  · cases h; exact mkE_det _ _ _ _ _
  split at h
  · cases h; exact mkE_det _ _ _ _ _
  split at h
  · cases h; exact mkE_det _ _ _ _ _
  split at h
  · cases h; exact mkE_det _ _ _ _ _
  split at h
  · cases h; exact mkE_det _ _ _ _ _
  split at h
  · cases h; exact mkE_det _ _ _ _ _
  cases h
set_option maxHeartbeats 1000000 in
theorem lawApart_ok : FOK Tryd.prog gl 9 lawApartSp := by
  refine FOK.ofE (tyOf_ok Tryd.prog) (slots := [10]) (nt := 119) Tryd.func9 rfl rfl rfl rfl (by decide) 5 (fun ⟨_, _, _, _, _⟩ => rfl) (by decide) (fun ⟨_, _, _, _, _⟩ => ⟨trivial, trivial, trivial, trivial, trivial, trivial⟩) ?_
  rintro ⟨s, t, l, m, n⟩ kk hlen hpre h
  have hl0 : (s).length ≤ 9223372036854775807 := hlen.1
  have hl1 : (t).length ≤ 9223372036854775807 := hlen.2.1
  have hl2 : (l).length ≤ 9223372036854775807 := hlen.2.2.1
  have hl3 : (m).length ≤ 9223372036854775807 := hlen.2.2.2.1
  replace hpre : True := hpre
  show HT ⟨Tryd.prog, 119, tyOf Tryd.prog, gl, []⟩ _ [(0, .p (.bs (s))), (1, .p (.bs (t))), (2, .p (.sl (l).length 1 (fun j => .bs ((l).getD j [])))), (3, .p (.sl (m).length 1 (fun j => .bs ((m).getD j [])))), (4, .p (.u32 (n)))] [] _
  refine HT.seq ?_
  refine HT.region S_lawApart_ok ?_
  refine So.n (Nat.le_of_ble_eq_true rfl) (A.v rfl (V.as (v := .p (.v (.bool false))) rfl ?_))
  refine So.e ?_
  show HT _ _ _ _ _
  refine HT.seq ?_
  refine HT.region S_lawApart_ok ?_
  refine So.n (Nat.le_of_ble_eq_true rfl) (A.call0 [] 1 rfl rfl rfl rfl trivial trivial () trivial trivial (by trivial) (Φ := fun _ => True) (fun _ _ => trivial) (.inl rfl) (v := .p (.v (.bool true))) rfl (O' := _) rfl (fun h1 => ?_))
  refine So.n (Nat.le_of_ble_eq_true rfl) (A.v rfl (V.as (v := .p (.v (.bool true))) rfl ?_))
  refine So.e ?_
  show HT _ _ _ _ _
  refine HT.seq ?_
  refine HT.region S_lawApart_ok ?_
  refine So.n (Nat.le_of_ble_eq_true rfl) (A.v rfl (V.mv (v := .p (.bs _)) rfl ?_))
  refine So.n (Nat.le_of_ble_eq_true rfl) (A.call0 [.p (.bs _)] 1 rfl rfl rfl rfl ⟨trivial, trivial⟩ trivial _ ⟨.refl _, trivial⟩ trivial (by trivial) (Φ := fun s => (textF s).length ≤ 1048580) (fun s _ => textF_len s) (.inl rfl) (v := .tup 2 _) rfl (O' := (2, ⟨5, 1, _, true, .bs _⟩) :: _) rfl (fun h2 => ?_))
  try dsimp only at h2
  refine So.n (Nat.le_of_ble_eq_true rfl) (A.v rfl (V.mv (v := .tup 2 _) rfl ?_))
  refine So.n (Nat.le_of_ble_eq_true rfl) (A.v rfl (V.ext rfl (Nat.le_of_ble_eq_true rfl) (v := .own 2 0 _) rfl ?_))
  refine So.n (Nat.le_of_ble_eq_true rfl) (A.v rfl (V.ext rfl (Nat.le_of_ble_eq_true rfl) (v := .p (.v (.int .i64 _))) rfl ?_))
  refine So.n (Nat.le_of_ble_eq_true rfl) (A.v rfl (V.as (v := .own 2 0 _) rfl ?_))
  refine So.n (Nat.le_of_ble_eq_true rfl) (A.v rfl (V.as (v := .p (.v (.int .i64 _))) rfl ?_))
  refine So.e ?_
  show HT _ _ _ _ _
  refine HT.seq ?_
  refine HT.region S_lawApart_ok ?_
  refine So.n (Nat.le_of_ble_eq_true rfl) (A.v rfl (V.mv (v := .p (.bs _)) rfl ?_))
  refine So.n (Nat.le_of_ble_eq_true rfl) (A.call0 [.p (.bs _)] 3 rfl rfl rfl rfl ⟨trivial, trivial⟩ trivial _ ⟨.refl _, trivial⟩ trivial (by trivial) (Φ := fun s => (textF s).length ≤ 1048580) (fun s _ => textF_len s) (.inl rfl) (v := .tup 2 _) rfl (O' := (4, ⟨5, 1, _, true, .bs _⟩) :: _) rfl (fun h3 => ?_))
  try dsimp only at h3
  refine So.n (Nat.le_of_ble_eq_true rfl) (A.v rfl (V.mv (v := .tup 2 _) rfl ?_))
  refine So.n (Nat.le_of_ble_eq_true rfl) (A.v rfl (V.ext rfl (Nat.le_of_ble_eq_true rfl) (v := .own 4 0 _) rfl ?_))
  refine So.n (Nat.le_of_ble_eq_true rfl) (A.v rfl (V.ext rfl (Nat.le_of_ble_eq_true rfl) (v := .p (.v (.int .i64 _))) rfl ?_))
  refine So.n (Nat.le_of_ble_eq_true rfl) (A.v rfl (V.as (v := .own 4 0 _) rfl ?_))
  refine So.n (Nat.le_of_ble_eq_true rfl) (A.v rfl (V.as (v := .p (.v (.int .i64 _))) rfl ?_))
  refine So.e ?_
  show HT _ _ _ _ _
  refine R.cut (True) [] [] [2, 3, 4, 11] [2, 4] (fr0 := [(2, .p (.sl _ 1 _)), (3, .p (.sl _ 1 _)), (4, .p (.u32 _)), (11, .p (.v (.bool true)))]) (O0 := [(2, ⟨_, _, _, _, .bs _⟩), (4, ⟨_, _, _, _, .bs _⟩)]) rfl rfl ?_ (fun hphi => ?_)
  · refine HT.seq ?_
    refine HT.region S_lawApart_ok ?_
    refine So.n (Nat.le_of_ble_eq_true rfl) (A.v rfl (V.mv (v := .p (.v (.int .i64 _))) rfl ?_))
    refine So.n (Nat.le_of_ble_eq_true rfl) (A.v rfl (V.bin (a := (.v (.int .i64 _))) (b := (.v (.int .i64 (0)))) (r := .v (.bool _)) rfl rfl rfl trivial ?_))
    refine So.n (Nat.le_of_ble_eq_true rfl) (A.v rfl (V.mv (v := .p (.v (.bool _))) rfl ?_))
    refine So.gd rfl rfl (Nat.le_of_ble_eq_true rfl) (Nat.le_of_ble_eq_true rfl) (fun h4 => ?_) (fun h4 => ?_)
    · have h4 := of_decide_eq_true h4
      refine A.v rfl (V.mv (v := .p (.v (.int .i64 _))) rfl ?_)
      refine So.gy rfl rfl (Nat.le_of_ble_eq_true rfl) (Nat.le_of_ble_eq_true rfl) ?_
      refine A.v rfl (V.bin (a := (.v (.int .i64 _))) (b := (.v (.int .i64 (0)))) (r := .v (.bool _)) rfl rfl rfl trivial ?_)
      refine So.n (Nat.le_of_ble_eq_true rfl) (A.v rfl (V.pkTrue (u := .p (.v (.bool _))) rfl rfl ?_))
      refine So.n (Nat.le_of_ble_eq_true rfl) (A.v rfl (V.mv (v := .p (.v (.bool _))) rfl ?_))
      refine So.gd rfl rfl (Nat.le_of_ble_eq_true rfl) (Nat.le_of_ble_eq_true rfl) (fun h5 => ?_) (fun h5 => ?_)
      · have h5 := of_decide_eq_true h5
        refine A.v rfl (V.mv (v := .p (.bs _)) rfl ?_)
        refine So.gy rfl rfl (Nat.le_of_ble_eq_true rfl) (Nat.le_of_ble_eq_true rfl) ?_
        refine A.v rfl (V.cvBs ty9 rfl rfl ?_)
        refine So.gy rfl rfl (Nat.le_of_ble_eq_true rfl) (Nat.le_of_ble_eq_true rfl) ?_
        refine A.v rfl (V.mv (v := .p (.bs _)) rfl ?_)
        refine So.gy rfl rfl (Nat.le_of_ble_eq_true rfl) (Nat.le_of_ble_eq_true rfl) ?_
        refine A.v rfl (V.cvBs ty9 rfl rfl ?_)
        refine So.gy rfl rfl (Nat.le_of_ble_eq_true rfl) (Nat.le_of_ble_eq_true rfl) ?_
        refine A.v rfl (V.bin (a := (.str _)) (b := (.str _)) (r := .v (.bool _)) rfl rfl rfl trivial ?_)
        refine So.n (Nat.le_of_ble_eq_true rfl) (A.v rfl (V.pkTrue (u := .p (.v (.bool _))) rfl rfl ?_))
        refine So.n (Nat.le_of_ble_eq_true rfl) (A.v rfl (V.mv (v := .p (.v (.bool _))) rfl ?_))
        refine So.gd rfl rfl (Nat.le_of_ble_eq_true rfl) (Nat.le_of_ble_eq_true rfl) (fun h6 => ?_) (fun h6 => ?_)
        · have h6 := of_decide_eq_false (bnT h6)
          refine A.v rfl (V.mv (v := .own 2 0 _) rfl ?_)
          refine So.gy rfl rfl (Nat.le_of_ble_eq_true rfl) (Nat.le_of_ble_eq_true rfl) ?_
          refine A.v rfl (V.mv (v := .own 4 0 _) rfl ?_)
          refine So.gy rfl rfl (Nat.le_of_ble_eq_true rfl) (Nat.le_of_ble_eq_true rfl) ?_
          refine A.call0 [.p (.bs _), .p (.bs _)] 5 rfl rfl rfl rfl ⟨trivial, trivial, trivial⟩ trivial (_, _) ⟨le_full, le_full, trivial⟩ trivial (by trivial) (Φ := fun _ => True) (fun _ _ => trivial) (.inr ⟨trivial, by simp [Hp.scal, OC.scal]⟩) (v := .p (.v (.bool _))) rfl (O' := _) rfl (fun h7 => ?_)
          refine So.gy rfl rfl (Nat.le_of_ble_eq_true rfl) (Nat.le_of_ble_eq_true rfl) ?_
          refine A.v rfl (V.mv (v := .p (.v (.bool _))) rfl ?_)
          refine So.gd rfl rfl (Nat.le_of_ble_eq_true rfl) (Nat.le_of_ble_eq_true rfl) (fun h8 => ?_) (fun h8 => ?_)
          · have h8 := of_decide_eq_false h8
            refine A.v rfl (V.mv (v := .own 4 0 _) rfl ?_)
            refine So.gy rfl rfl (Nat.le_of_ble_eq_true rfl) (Nat.le_of_ble_eq_true rfl) ?_
            refine A.v rfl (V.mv (v := .own 2 0 _) rfl ?_)
            refine So.gy rfl rfl (Nat.le_of_ble_eq_true rfl) (Nat.le_of_ble_eq_true rfl) ?_
            refine A.call0 [.p (.bs _), .p (.bs _)] 5 rfl rfl rfl rfl ⟨trivial, trivial, trivial⟩ trivial (_, _) ⟨le_full, le_full, trivial⟩ trivial (by trivial) (Φ := fun _ => True) (fun _ _ => trivial) (.inr ⟨trivial, by simp [Hp.scal, OC.scal]⟩) (v := .p (.v (.bool _))) rfl (O' := _) rfl (fun h9 => ?_)
            refine So.gy rfl rfl (Nat.le_of_ble_eq_true rfl) (Nat.le_of_ble_eq_true rfl) ?_
            refine A.v rfl (V.pkFalse (u := .p (.v (.bool _))) rfl rfl ?_)
            refine So.n (Nat.le_of_ble_eq_true rfl) (A.v rfl (V.pkTrue (u := .p (.v (.bool _))) rfl rfl ?_))
            refine So.e ?_
            show HT _ _ _ _ _
            refine R.cond rfl rfl (fun h10 => ?_) (fun h10 => ?_)
            · have h10 := of_decide_eq_true h10
              refine HT.seq ?_
              first | exact (apartA (s := s) (t := t) (by assumption) (by assumption) (by assumption) (by assumption)).elim | exact (apartB (s := s) (t := t) (by assumption) (by assumption) (by assumption) (by assumption)).elim
            · have h10 := of_decide_eq_false h10
              refine HT.skip ?_
              exact ⟨by first | rfl | omega | exact hnz | (simp; done) | (simp; omega), ⟨⟨⟨.refl _, trivial⟩, ⟨.refl _, trivial⟩, ⟨.refl _, trivial⟩, ⟨.refl _, trivial⟩, trivial⟩, ⟨⟨_, rfl, .inl rfl, trivial⟩, ⟨_, rfl, .inl rfl, trivial⟩, trivial⟩⟩⟩
          · have h8 := of_decide_eq_true h8
            refine So.gn (b := true) rfl rfl rfl (Nat.le_of_ble_eq_true rfl) (Nat.le_of_ble_eq_true rfl) ?_
            refine So.gn (b := true) rfl rfl rfl (Nat.le_of_ble_eq_true rfl) (Nat.le_of_ble_eq_true rfl) ?_
            refine So.gy rfl rfl (Nat.le_of_ble_eq_true rfl) (Nat.le_of_ble_eq_true rfl) ?_
            refine A.v rfl (V.pkTrue (u := .p (.v (.bool true))) rfl rfl ?_)
            refine So.n (Nat.le_of_ble_eq_true rfl) (A.v rfl (V.pkTrue (u := .p (.v (.bool true))) rfl rfl ?_))
            refine So.e ?_
            show HT _ _ _ _ _
            refine R.condT rfl ?_
            refine HT.seq ?_
            first | exact (apartA (s := s) (t := t) (by assumption) (by assumption) (by assumption) (by assumption)).elim | exact (apartB (s := s) (t := t) (by assumption) (by assumption) (by assumption) (by assumption)).elim
        · have h6 := of_decide_eq_true (bnF h6)
          refine So.gn (b := false) rfl rfl rfl (Nat.le_of_ble_eq_true rfl) (Nat.le_of_ble_eq_true rfl) ?_
          refine So.gn (b := false) rfl rfl rfl (Nat.le_of_ble_eq_true rfl) (Nat.le_of_ble_eq_true rfl) ?_
          refine So.gn (b := false) rfl rfl rfl (Nat.le_of_ble_eq_true rfl) (Nat.le_of_ble_eq_true rfl) ?_
          refine So.gu rfl rfl (Nat.le_of_ble_eq_true rfl) ?_
          refine So.gu rfl rfl (Nat.le_of_ble_eq_true rfl) ?_
          refine So.gu rfl rfl (Nat.le_of_ble_eq_true rfl) ?_
          refine So.gn (b := false) rfl rfl rfl (Nat.le_of_ble_eq_true rfl) (Nat.le_of_ble_eq_true rfl) ?_
          refine So.n (Nat.le_of_ble_eq_true rfl) (A.v rfl (V.pkFalse (u := .p (.v (.bool false))) rfl rfl ?_))
          refine So.e ?_
          show HT _ _ _ _ _
          refine R.condF rfl ?_
          refine HT.skip ?_
          exact ⟨by first | rfl | omega | exact hnz | (simp; done) | (simp; omega), ⟨⟨⟨.refl _, trivial⟩, ⟨.refl _, trivial⟩, ⟨.refl _, trivial⟩, ⟨.refl _, trivial⟩, trivial⟩, ⟨⟨_, rfl, .inl rfl, trivial⟩, ⟨_, rfl, .inl rfl, trivial⟩, trivial⟩⟩⟩
      · have h5 := of_decide_eq_false h5
        refine So.gn (b := false) rfl rfl rfl (Nat.le_of_ble_eq_true rfl) (Nat.le_of_ble_eq_true rfl) ?_
        refine So.gn (b := false) rfl rfl rfl (Nat.le_of_ble_eq_true rfl) (Nat.le_of_ble_eq_true rfl) ?_
        refine So.gn (b := false) rfl rfl rfl (Nat.le_of_ble_eq_true rfl) (Nat.le_of_ble_eq_true rfl) ?_
        refine So.gn (b := false) rfl rfl rfl (Nat.le_of_ble_eq_true rfl) (Nat.le_of_ble_eq_true rfl) ?_
        refine So.n (Nat.le_of_ble_eq_true rfl) (A.v rfl (V.pkFalse (u := .p (.v (.bool false))) rfl rfl ?_))
        refine So.n (Nat.le_of_ble_eq_true rfl) (A.v rfl (V.mv (v := .p (.v (.bool false))) rfl ?_))
        refine So.gn (b := false) rfl rfl rfl (Nat.le_of_ble_eq_true rfl) (Nat.le_of_ble_eq_true rfl) ?_
        refine So.gn (b := false) rfl rfl rfl (Nat.le_of_ble_eq_true rfl) (Nat.le_of_ble_eq_true rfl) ?_
        refine So.gn (b := false) rfl rfl rfl (Nat.le_of_ble_eq_true rfl) (Nat.le_of_ble_eq_true rfl) ?_
        refine So.gn (b := false) rfl rfl rfl (Nat.le_of_ble_eq_true rfl) (Nat.le_of_ble_eq_true rfl) ?_
        refine So.gu rfl rfl (Nat.le_of_ble_eq_true rfl) ?_
        refine So.gu rfl rfl (Nat.le_of_ble_eq_true rfl) ?_
        refine So.gu rfl rfl (Nat.le_of_ble_eq_true rfl) ?_
        refine So.gn (b := false) rfl rfl rfl (Nat.le_of_ble_eq_true rfl) (Nat.le_of_ble_eq_true rfl) ?_
        refine So.n (Nat.le_of_ble_eq_true rfl) (A.v rfl (V.pkFalse (u := .p (.v (.bool false))) rfl rfl ?_))
        refine So.e ?_
        show HT _ _ _ _ _
        refine R.condF rfl ?_
        refine HT.skip ?_
        exact ⟨by first | rfl | omega | exact hnz | (simp; done) | (simp; omega), ⟨⟨⟨.refl _, trivial⟩, ⟨.refl _, trivial⟩, ⟨.refl _, trivial⟩, ⟨.refl _, trivial⟩, trivial⟩, ⟨⟨_, rfl, .inl rfl, trivial⟩, ⟨_, rfl, .inl rfl, trivial⟩, trivial⟩⟩⟩
    · have h4 := of_decide_eq_false h4
      refine So.gn (b := false) rfl rfl rfl (Nat.le_of_ble_eq_true rfl) (Nat.le_of_ble_eq_true rfl) ?_
      refine So.n (Nat.le_of_ble_eq_true rfl) (A.v rfl (V.pkFalse (u := .p (.v (.bool false))) rfl rfl ?_))
      refine So.n (Nat.le_of_ble_eq_true rfl) (A.v rfl (V.mv (v := .p (.v (.bool false))) rfl ?_))
      refine So.gn (b := false) rfl rfl rfl (Nat.le_of_ble_eq_true rfl) (Nat.le_of_ble_eq_true rfl) ?_
      refine So.gn (b := false) rfl rfl rfl (Nat.le_of_ble_eq_true rfl) (Nat.le_of_ble_eq_true rfl) ?_
      refine So.gn (b := false) rfl rfl rfl (Nat.le_of_ble_eq_true rfl) (Nat.le_of_ble_eq_true rfl) ?_
      refine So.gn (b := false) rfl rfl rfl (Nat.le_of_ble_eq_true rfl) (Nat.le_of_ble_eq_true rfl) ?_
      refine So.gn (b := false) rfl rfl rfl (Nat.le_of_ble_eq_true rfl) (Nat.le_of_ble_eq_true rfl) ?_
      refine So.n (Nat.le_of_ble_eq_true rfl) (A.v rfl (V.pkFalse (u := .p (.v (.bool false))) rfl rfl ?_))
      refine So.n (Nat.le_of_ble_eq_true rfl) (A.v rfl (V.mv (v := .p (.v (.bool false))) rfl ?_))
      refine So.gn (b := false) rfl rfl rfl (Nat.le_of_ble_eq_true rfl) (Nat.le_of_ble_eq_true rfl) ?_
      refine So.gn (b := false) rfl rfl rfl (Nat.le_of_ble_eq_true rfl) (Nat.le_of_ble_eq_true rfl) ?_
      refine So.gn (b := false) rfl rfl rfl (Nat.le_of_ble_eq_true rfl) (Nat.le_of_ble_eq_true rfl) ?_
      refine So.gn (b := false) rfl rfl rfl (Nat.le_of_ble_eq_true rfl) (Nat.le_of_ble_eq_true rfl) ?_
      refine So.gu rfl rfl (Nat.le_of_ble_eq_true rfl) ?_
      refine So.gu rfl rfl (Nat.le_of_ble_eq_true rfl) ?_
      refine So.gu rfl rfl (Nat.le_of_ble_eq_true rfl) ?_
      refine So.gn (b := false) rfl rfl rfl (Nat.le_of_ble_eq_true rfl) (Nat.le_of_ble_eq_true rfl) ?_
      refine So.n (Nat.le_of_ble_eq_true rfl) (A.v rfl (V.pkFalse (u := .p (.v (.bool false))) rfl rfl ?_))
      refine So.e ?_
      show HT _ _ _ _ _
      refine R.condF rfl ?_
      refine HT.skip ?_
      exact ⟨by first | rfl | omega | exact hnz | (simp; done) | (simp; omega), ⟨⟨⟨.refl _, trivial⟩, ⟨.refl _, trivial⟩, ⟨.refl _, trivial⟩, ⟨.refl _, trivial⟩, trivial⟩, ⟨⟨_, rfl, .inl rfl, trivial⟩, ⟨_, rfl, .inl rfl, trivial⟩, trivial⟩⟩⟩
  · refine HT.seq ?_
    refine HT.region S_lawApart_ok ?_
    refine So.n (Nat.le_of_ble_eq_true rfl) (A.v rfl (V.mv (v := .p (.sl _ 1 _)) rfl ?_))
    refine So.n (Nat.le_of_ble_eq_true rfl) (A.call0 [.p (.sl _ 1 _)] 5 rfl rfl rfl rfl ⟨trivial, trivial⟩ trivial _ ⟨.refl _, trivial⟩ trivial (by trivial) (Φ := fun _ => True) (fun _ _ => trivial) (.inl rfl) (v := .tup 2 _) rfl (O' := (6, ⟨5, 1, _, true, .bs _⟩) :: _) rfl (fun h11 => ?_))
    refine So.n (Nat.le_of_ble_eq_true rfl) (A.v rfl (V.mv (v := .tup 2 _) rfl ?_))
    refine So.n (Nat.le_of_ble_eq_true rfl) (A.v rfl (V.ext rfl (Nat.le_of_ble_eq_true rfl) (v := .own 6 0 _) rfl ?_))
    refine So.n (Nat.le_of_ble_eq_true rfl) (A.v rfl (V.ext rfl (Nat.le_of_ble_eq_true rfl) (v := .p (.v (.int .i64 _))) rfl ?_))
    refine So.n (Nat.le_of_ble_eq_true rfl) (A.v rfl (V.as (v := .own 6 0 _) rfl ?_))
    refine So.n (Nat.le_of_ble_eq_true rfl) (A.v rfl (V.as (v := .p (.v (.int .i64 _))) rfl ?_))
    refine So.e ?_
    show HT _ _ _ _ _
    refine HT.seq ?_
    refine HT.region S_lawApart_ok ?_
    refine So.n (Nat.le_of_ble_eq_true rfl) (A.v rfl (V.mv (v := .p (.sl _ 1 _)) rfl ?_))
    refine So.n (Nat.le_of_ble_eq_true rfl) (A.call0 [.p (.sl _ 1 _)] 7 rfl rfl rfl rfl ⟨trivial, trivial⟩ trivial _ ⟨.refl _, trivial⟩ trivial (by trivial) (Φ := fun _ => True) (fun _ _ => trivial) (.inl rfl) (v := .tup 2 _) rfl (O' := (8, ⟨5, 1, _, true, .bs _⟩) :: _) rfl (fun h12 => ?_))
    refine So.n (Nat.le_of_ble_eq_true rfl) (A.v rfl (V.mv (v := .tup 2 _) rfl ?_))
    refine So.n (Nat.le_of_ble_eq_true rfl) (A.v rfl (V.ext rfl (Nat.le_of_ble_eq_true rfl) (v := .own 8 0 _) rfl ?_))
    refine So.n (Nat.le_of_ble_eq_true rfl) (A.v rfl (V.ext rfl (Nat.le_of_ble_eq_true rfl) (v := .p (.v (.int .i64 _))) rfl ?_))
    refine So.n (Nat.le_of_ble_eq_true rfl) (A.v rfl (V.as (v := .own 8 0 _) rfl ?_))
    refine So.n (Nat.le_of_ble_eq_true rfl) (A.v rfl (V.as (v := .p (.v (.int .i64 _))) rfl ?_))
    refine So.e ?_
    show HT _ _ _ _ _
    refine HT.seq ?_
    refine HT.seq ?_
    refine HT.region S_lawApart_ok ?_
    refine So.n (Nat.le_of_ble_eq_true rfl) (A.v rfl (V.mv (v := .p (.v (.int .i64 _))) rfl ?_))
    refine So.n (Nat.le_of_ble_eq_true rfl) (A.v rfl (V.bin (a := (.v (.int .i64 _))) (b := (.v (.int .i64 (0)))) (r := .v (.bool _)) rfl rfl rfl trivial ?_))
    refine So.n (Nat.le_of_ble_eq_true rfl) (A.v rfl (V.mv (v := .p (.v (.bool _))) rfl ?_))
    refine So.gd rfl rfl (Nat.le_of_ble_eq_true rfl) (Nat.le_of_ble_eq_true rfl) (fun h13 => ?_) (fun h13 => ?_)
    · have h13 := of_decide_eq_true (bnF h13)
      refine A.v rfl (V.mv (v := .p (.v (.int .i64 _))) rfl ?_)
      refine So.gy rfl rfl (Nat.le_of_ble_eq_true rfl) (Nat.le_of_ble_eq_true rfl) ?_
      refine A.v rfl (V.bin (a := (.v (.int .i64 _))) (b := (.v (.int .i64 (0)))) (r := .v (.bool _)) rfl rfl rfl trivial ?_)
      refine So.n (Nat.le_of_ble_eq_true rfl) (A.v rfl (V.pkFalse (u := .p (.v (.bool _))) rfl rfl ?_))
      refine So.n (Nat.le_of_ble_eq_true rfl) (A.v rfl (V.mv (v := .p (.v (.bool _))) rfl ?_))
      refine So.gd rfl rfl (Nat.le_of_ble_eq_true rfl) (Nat.le_of_ble_eq_true rfl) (fun h14 => ?_) (fun h14 => ?_)
      · have h14 := of_decide_eq_true (bnF h14)
        refine A.v rfl (V.mv (v := .own 6 0 _) rfl ?_)
        refine So.gy rfl rfl (Nat.le_of_ble_eq_true rfl) (Nat.le_of_ble_eq_true rfl) ?_
        refine A.v rfl (V.len ty22 (v := .own 6 0 _) rfl rfl ?_)
        refine So.gy rfl rfl (Nat.le_of_ble_eq_true rfl) (Nat.le_of_ble_eq_true rfl) ?_
        refine A.v rfl (V.bin (a := (.v (.int .i64 _))) (b := (.v (.int .i64 (0)))) (r := .v (.bool _)) rfl rfl rfl trivial ?_)
        refine So.n (Nat.le_of_ble_eq_true rfl) (A.v rfl (V.pkFalse (u := .p (.v (.bool _))) rfl rfl ?_))
        refine So.e ?_
        show HT _ _ _ _ _
        refine R.cond rfl rfl (fun h15 => ?_) (fun h15 => ?_)
        · have h15 := of_decide_eq_true h15
          refine HT.seq ?_
          refine HT.region S_lawApart_ok ?_
          refine So.n (Nat.le_of_ble_eq_true rfl) (A.v rfl (V.mv (v := .p (.v (.bool true))) rfl ?_))
          refine So.n (Nat.le_of_ble_eq_true rfl) (A.v rfl (V.mv (v := .p (.v (.bool true))) rfl ?_))
          refine So.gy rfl rfl (Nat.le_of_ble_eq_true rfl) (Nat.le_of_ble_eq_true rfl) ?_
          refine A.v rfl (V.mv (v := .p (.v (.int .i64 _))) rfl ?_)
          refine So.gy rfl rfl (Nat.le_of_ble_eq_true rfl) (Nat.le_of_ble_eq_true rfl) ?_
          refine A.v rfl (V.bin (a := (.v (.int .i64 _))) (b := (.v (.int .i64 (0)))) (r := .v (.bool _)) rfl rfl rfl trivial ?_)
          refine So.gy rfl rfl (Nat.le_of_ble_eq_true rfl) (Nat.le_of_ble_eq_true rfl) ?_
          refine A.v rfl (V.mv (v := .p (.v (.bool _))) rfl ?_)
          refine So.gd rfl rfl (Nat.le_of_ble_eq_true rfl) (Nat.le_of_ble_eq_true rfl) (fun h16 => ?_) (fun h16 => ?_)
          · have h16 := of_decide_eq_true (bnF h16)
            refine A.v rfl (V.mv (v := .p (.v (.int .i64 _))) rfl ?_)
            refine So.gy rfl rfl (Nat.le_of_ble_eq_true rfl) (Nat.le_of_ble_eq_true rfl) ?_
            refine A.v rfl (V.bin (a := (.v (.int .i64 _))) (b := (.v (.int .i64 (0)))) (r := .v (.bool _)) rfl rfl rfl trivial ?_)
            refine So.gy rfl rfl (Nat.le_of_ble_eq_true rfl) (Nat.le_of_ble_eq_true rfl) ?_
            refine A.v rfl (V.pkFalse (u := .p (.v (.bool _))) rfl rfl ?_)
            refine So.n (Nat.le_of_ble_eq_true rfl) (A.v rfl (V.pkTrue (u := .p (.v (.bool _))) rfl rfl ?_))
            refine So.n (Nat.le_of_ble_eq_true rfl) (A.v rfl (V.as (v := .p (.v (.bool _))) rfl ?_))
            refine So.e ?_
            show HT _ _ _ _ _
            refine HT.ret ?_
            exact ret_ok (sg []) h rfl rfl rfl trivial ⟨trivial, trivial⟩ rfl ⟨⟨⟨le_bool (by first | rfl | (exfalso; omega) | (simp; omega) | (exact decide_eq_true (list_cut (listE_ok (by omega)) hct)) | (exfalso; have h98 := listF_pos (listE_ok (l := l) (by omega)); omega) | (simp; done)), trivial⟩, trivial⟩, trivial⟩
          · have h16 := of_decide_eq_false (bnT h16)
            refine So.gn (b := true) rfl rfl rfl (Nat.le_of_ble_eq_true rfl) (Nat.le_of_ble_eq_true rfl) ?_
            refine So.gy rfl rfl (Nat.le_of_ble_eq_true rfl) (Nat.le_of_ble_eq_true rfl) ?_
            refine A.v rfl (V.pkTrue (u := .p (.v (.bool true))) rfl rfl ?_)
            refine So.n (Nat.le_of_ble_eq_true rfl) (A.v rfl (V.pkTrue (u := .p (.v (.bool true))) rfl rfl ?_))
            refine So.n (Nat.le_of_ble_eq_true rfl) (A.v rfl (V.as (v := .p (.v (.bool true))) rfl ?_))
            refine So.e ?_
            show HT _ _ _ _ _
            refine HT.ret ?_
            exact ret_ok (sg []) h rfl rfl rfl trivial ⟨trivial, trivial⟩ rfl ⟨⟨⟨le_bool (by first | rfl | (exfalso; omega) | (simp; omega) | (exact decide_eq_true (list_cut (listE_ok (by omega)) hct)) | (exfalso; have h98 := listF_pos (listE_ok (l := l) (by omega)); omega) | (simp; done)), trivial⟩, trivial⟩, trivial⟩
        · have h15 := of_decide_eq_false h15
          refine HT.skip ?_
          show HT _ _ _ _ _
          refine R.cut (True) [] [] [4, 11, 16] [2, 4, 6, 8] (fr0 := [(4, .p (.u32 _)), (11, .p (.v (.bool true))), (16, .own 6 0 _)]) (O0 := [(2, ⟨_, _, _, _, .bs _⟩), (4, ⟨_, _, _, _, .bs _⟩), (6, ⟨_, _, _, _, .bs _⟩), (8, ⟨_, _, _, _, .bs _⟩)]) rfl rfl ?_ (fun hphi => ?_)
          · refine HT.seq ?_
            refine HT.region S_lawApart_ok ?_
            refine So.n (Nat.le_of_ble_eq_true rfl) (A.v rfl (V.mv (v := .p (.sl _ 1 _)) rfl ?_))
            refine So.n (Nat.le_of_ble_eq_true rfl) (A.v rfl (V.mv (v := .p (.sl _ 1 _)) rfl ?_))
            refine So.n (Nat.le_of_ble_eq_true rfl) (A.call0 [.p (.sl _ 1 _), .p (.sl _ 1 _)] 9 rfl rfl rfl rfl ⟨trivial, trivial, trivial⟩ trivial (_, _) ⟨.refl _, .refl _, trivial⟩ trivial (by trivial) (Φ := fun _ => True) (fun _ _ => trivial) (.inl rfl) (v := .p (.v (.bool _))) rfl (O' := _) rfl (fun h17 => ?_))
            refine So.n (Nat.le_of_ble_eq_true rfl) (A.v rfl (V.not rfl ?_))
            refine So.n (Nat.le_of_ble_eq_true rfl) (A.v rfl (V.mv (v := .p (.v (.bool _))) rfl ?_))
            refine So.gd rfl rfl (Nat.le_of_ble_eq_true rfl) (Nat.le_of_ble_eq_true rfl) (fun h18 => ?_) (fun h18 => ?_)
            · have h18 := of_decide_eq_false (bnT h18)
              refine A.v rfl (V.mv (v := .own 6 0 _) rfl ?_)
              refine So.gy rfl rfl (Nat.le_of_ble_eq_true rfl) (Nat.le_of_ble_eq_true rfl) ?_
              refine A.v rfl (V.mv (v := .own 8 0 _) rfl ?_)
              refine So.gy rfl rfl (Nat.le_of_ble_eq_true rfl) (Nat.le_of_ble_eq_true rfl) ?_
              refine A.call0 [.p (.bs _), .p (.bs _)] 9 rfl rfl rfl rfl ⟨trivial, trivial, trivial⟩ trivial (_, _) ⟨le_full, le_full, trivial⟩ trivial (by trivial) (Φ := fun _ => True) (fun _ _ => trivial) (.inr ⟨trivial, by simp [Hp.scal, OC.scal]⟩) (v := .p (.v (.bool _))) rfl (O' := _) rfl (fun h19 => ?_)
              refine So.gy rfl rfl (Nat.le_of_ble_eq_true rfl) (Nat.le_of_ble_eq_true rfl) ?_
              refine A.v rfl (V.mv (v := .p (.v (.bool _))) rfl ?_)
              refine So.gd rfl rfl (Nat.le_of_ble_eq_true rfl) (Nat.le_of_ble_eq_true rfl) (fun h20 => ?_) (fun h20 => ?_)
              · have h20 := of_decide_eq_false h20
                refine A.v rfl (V.mv (v := .own 8 0 _) rfl ?_)
                refine So.gy rfl rfl (Nat.le_of_ble_eq_true rfl) (Nat.le_of_ble_eq_true rfl) ?_
                refine A.v rfl (V.mv (v := .own 6 0 _) rfl ?_)
                refine So.gy rfl rfl (Nat.le_of_ble_eq_true rfl) (Nat.le_of_ble_eq_true rfl) ?_
                refine A.call0 [.p (.bs _), .p (.bs _)] 9 rfl rfl rfl rfl ⟨trivial, trivial, trivial⟩ trivial (_, _) ⟨le_full, le_full, trivial⟩ trivial (by trivial) (Φ := fun _ => True) (fun _ _ => trivial) (.inr ⟨trivial, by simp [Hp.scal, OC.scal]⟩) (v := .p (.v (.bool _))) rfl (O' := _) rfl (fun h21 => ?_)
                refine So.gy rfl rfl (Nat.le_of_ble_eq_true rfl) (Nat.le_of_ble_eq_true rfl) ?_
                refine A.v rfl (V.pkFalse (u := .p (.v (.bool _))) rfl rfl ?_)
                refine So.n (Nat.le_of_ble_eq_true rfl) (A.v rfl (V.pkTrue (u := .p (.v (.bool _))) rfl rfl ?_))
                refine So.e ?_
                show HT _ _ _ _ _
                refine R.cond rfl rfl (fun h22 => ?_) (fun h22 => ?_)
                · have h22 := of_decide_eq_true h22
                  refine HT.seq ?_
                  first | exact (apartC (l := l) (m := m) (by assumption) (by assumption) (by assumption) (by assumption)).elim | exact (apartD (l := l) (m := m) (by assumption) (by assumption) (by assumption) (by assumption)).elim
                · have h22 := of_decide_eq_false h22
                  refine HT.skip ?_
                  exact ⟨by first | rfl | omega | exact hnz | (simp; done) | (simp; omega), ⟨⟨⟨.refl _, trivial⟩, ⟨.refl _, trivial⟩, ⟨.refl _, rfl⟩, trivial⟩, ⟨⟨_, rfl, .inl rfl, trivial⟩, ⟨_, rfl, .inl rfl, trivial⟩, ⟨_, rfl, .inl rfl, trivial⟩, ⟨_, rfl, .inl rfl, trivial⟩, trivial⟩⟩⟩
              · have h20 := of_decide_eq_true h20
                refine So.gn (b := true) rfl rfl rfl (Nat.le_of_ble_eq_true rfl) (Nat.le_of_ble_eq_true rfl) ?_
                refine So.gn (b := true) rfl rfl rfl (Nat.le_of_ble_eq_true rfl) (Nat.le_of_ble_eq_true rfl) ?_
                refine So.gy rfl rfl (Nat.le_of_ble_eq_true rfl) (Nat.le_of_ble_eq_true rfl) ?_
                refine A.v rfl (V.pkTrue (u := .p (.v (.bool true))) rfl rfl ?_)
                refine So.n (Nat.le_of_ble_eq_true rfl) (A.v rfl (V.pkTrue (u := .p (.v (.bool true))) rfl rfl ?_))
                refine So.e ?_
                show HT _ _ _ _ _
                refine R.condT rfl ?_
                refine HT.seq ?_
                first | exact (apartC (l := l) (m := m) (by assumption) (by assumption) (by assumption) (by assumption)).elim | exact (apartD (l := l) (m := m) (by assumption) (by assumption) (by assumption) (by assumption)).elim
            · have h18 := of_decide_eq_true (bnF h18)
              refine So.gn (b := false) rfl rfl rfl (Nat.le_of_ble_eq_true rfl) (Nat.le_of_ble_eq_true rfl) ?_
              refine So.gn (b := false) rfl rfl rfl (Nat.le_of_ble_eq_true rfl) (Nat.le_of_ble_eq_true rfl) ?_
              refine So.gn (b := false) rfl rfl rfl (Nat.le_of_ble_eq_true rfl) (Nat.le_of_ble_eq_true rfl) ?_
              refine So.gu rfl rfl (Nat.le_of_ble_eq_true rfl) ?_
              refine So.gu rfl rfl (Nat.le_of_ble_eq_true rfl) ?_
              refine So.gu rfl rfl (Nat.le_of_ble_eq_true rfl) ?_
              refine So.gn (b := false) rfl rfl rfl (Nat.le_of_ble_eq_true rfl) (Nat.le_of_ble_eq_true rfl) ?_
              refine So.n (Nat.le_of_ble_eq_true rfl) (A.v rfl (V.pkFalse (u := .p (.v (.bool false))) rfl rfl ?_))
              refine So.e ?_
              show HT _ _ _ _ _
              refine R.condF rfl ?_
              refine HT.skip ?_
              exact ⟨by first | rfl | omega | exact hnz | (simp; done) | (simp; omega), ⟨⟨⟨.refl _, trivial⟩, ⟨.refl _, trivial⟩, ⟨.refl _, rfl⟩, trivial⟩, ⟨⟨_, rfl, .inl rfl, trivial⟩, ⟨_, rfl, .inl rfl, trivial⟩, ⟨_, rfl, .inl rfl, trivial⟩, ⟨_, rfl, .inl rfl, trivial⟩, trivial⟩⟩⟩
          · refine HT.seq ?_
            refine HT.region S_lawApart_ok ?_
            have hlf := listF_len l
            have hlp := listF_pos (listE_ok (l := l) (by omega))
            have hnz := cut_nz hlp hlf
            have hct := cut_lt n hlp hlf
            refine So.n (Nat.le_of_ble_eq_true rfl) (A.v rfl (V.mv (v := .own 6 0 _) rfl ?_))
            refine So.n (Nat.le_of_ble_eq_true rfl) (A.v rfl (V.mv (v := .p (.u32 _)) rfl ?_))
            refine So.n (Nat.le_of_ble_eq_true rfl) (A.v rfl (V.mv (v := .own 6 0 _) rfl ?_))
            refine So.n (Nat.le_of_ble_eq_true rfl) (A.v rfl (V.len ty22 (v := .own 6 0 _) rfl rfl ?_))
            refine So.n (Nat.le_of_ble_eq_true rfl) (A.v rfl (V.cvN ty30 ty3 (a := (.v (.int .i64 _))) (r := (.u32 _)) rfl rfl ?_))
            refine So.n (Nat.le_of_ble_eq_true rfl) (A.v rfl (V.bin (a := (.u32 _)) (b := (.u32 _)) (r := .u32 _) rfl rfl rfl (by first | rfl | omega | exact hnz | (simp; done) | (simp; omega)) ?_))
            refine So.n (Nat.le_of_ble_eq_true rfl) (A.v rfl (V.cvN ty3 ty30 (a := (.u32 _)) (r := (.v (.int .i64 _))) rfl rfl ?_))
            refine So.n (Nat.le_of_ble_eq_true rfl) (A.v rfl (V.cutOwnH ty22 ty5 rfl rfl rfl rfl (by omega) (.inl rfl) rfl ?_))
            refine So.n (Nat.le_of_ble_eq_true rfl) (A.call [.own 1 _ _, .p (.v (.int .i64 _))] [(1, ⟨_, _, _, _, .bs _⟩)] (sg [(1, 6)]) 9 rfl rfl rfl rfl ⟨rfl, trivial⟩ rfl ⟨trivial, trivial⟩ ⟨rfl, trivial, trivial⟩ trivial rfl (listF l, _, 0) ⟨.refl _, .refl _, trivial⟩ ⟨⟨_, rfl, .inl rfl, trivial⟩, trivial⟩ (by first | exact Nat.le_refl _ | omega | (simp; omega)) (Φ := fun _ => True) (fun _ _ => trivial) ⟨⟨_, _, rfl, rfl, rfl, Nat.le_refl _⟩, trivial⟩ (.inl rfl) rfl (v := .tup 3 _) rfl (O' := (6, ⟨_, _, _, _, .bs _⟩) :: (11, ⟨_, _, _, _, .rows _⟩) :: _) rfl (fun h23 => ?_))
            refine So.n (Nat.le_of_ble_eq_true rfl) (A.v rfl (V.mv (v := .tup 3 _) rfl ?_))
            refine So.n (Nat.le_of_ble_eq_true rfl) (A.v rfl (V.ext rfl (Nat.le_of_ble_eq_true rfl) (v := .own 11 0 _) rfl ?_))
            refine So.n (Nat.le_of_ble_eq_true rfl) (A.v rfl (V.ext rfl (Nat.le_of_ble_eq_true rfl) (v := .p (.v (.int .i64 _))) rfl ?_))
            refine So.n (Nat.le_of_ble_eq_true rfl) (A.v rfl (V.ext rfl (Nat.le_of_ble_eq_true rfl) (v := .p (.v (.int .i64 _))) rfl ?_))
            refine So.n (Nat.le_of_ble_eq_true rfl) (A.v rfl (V.as (v := .own 11 0 _) rfl ?_))
            refine So.n (Nat.le_of_ble_eq_true rfl) (A.v rfl (V.as (v := .p (.v (.int .i64 _))) rfl ?_))
            refine So.n (Nat.le_of_ble_eq_true rfl) (A.v rfl (V.as (v := .p (.v (.int .i64 _))) rfl ?_))
            refine So.e ?_
            show HT _ _ _ _ _
            refine HT.seq ?_
            refine HT.region S_lawApart_ok ?_
            refine So.n (Nat.le_of_ble_eq_true rfl) (A.v rfl (V.mv (v := .p (.v (.bool true))) rfl ?_))
            refine So.n (Nat.le_of_ble_eq_true rfl) (A.v rfl (V.mv (v := .p (.v (.bool true))) rfl ?_))
            refine So.gy rfl rfl (Nat.le_of_ble_eq_true rfl) (Nat.le_of_ble_eq_true rfl) ?_
            refine A.v rfl (V.mv (v := .p (.v (.int .i64 _))) rfl ?_)
            refine So.gy rfl rfl (Nat.le_of_ble_eq_true rfl) (Nat.le_of_ble_eq_true rfl) ?_
            refine A.v rfl (V.bin (a := (.v (.int .i64 _))) (b := (.v (.int .i64 (111)))) (r := .v (.bool _)) rfl rfl rfl trivial ?_)
            refine So.n (Nat.le_of_ble_eq_true rfl) (A.v rfl (V.pkTrue (u := .p (.v (.bool _))) rfl rfl ?_))
            refine So.n (Nat.le_of_ble_eq_true rfl) (A.v rfl (V.as (v := .p (.v (.bool _))) rfl ?_))
            refine So.e ?_
            show HT _ _ _ _ _
            refine HT.ret ?_
            exact ret_ok (sg []) h rfl rfl rfl trivial ⟨trivial, trivial⟩ rfl ⟨⟨⟨le_bool (by first | rfl | (exfalso; omega) | (simp; omega) | (exact decide_eq_true (list_cut (listE_ok (by omega)) hct)) | (exfalso; have h98 := listF_pos (listE_ok (l := l) (by omega)); omega) | (simp; done)), trivial⟩, trivial⟩, trivial⟩
      · have h14 := of_decide_eq_false (bnT h14)
        refine So.gn (b := true) rfl rfl rfl (Nat.le_of_ble_eq_true rfl) (Nat.le_of_ble_eq_true rfl) ?_
        refine So.gn (b := true) rfl rfl rfl (Nat.le_of_ble_eq_true rfl) (Nat.le_of_ble_eq_true rfl) ?_
        refine So.n (Nat.le_of_ble_eq_true rfl) (A.v rfl (V.pkTrue (u := .p (.v (.bool true))) rfl rfl ?_))
        refine So.e ?_
        show HT _ _ _ _ _
        refine R.condT rfl ?_
        refine HT.seq ?_
        refine HT.region S_lawApart_ok ?_
        refine So.n (Nat.le_of_ble_eq_true rfl) (A.v rfl (V.mv (v := .p (.v (.bool true))) rfl ?_))
        refine So.n (Nat.le_of_ble_eq_true rfl) (A.v rfl (V.mv (v := .p (.v (.bool true))) rfl ?_))
        refine So.gy rfl rfl (Nat.le_of_ble_eq_true rfl) (Nat.le_of_ble_eq_true rfl) ?_
        refine A.v rfl (V.mv (v := .p (.v (.int .i64 _))) rfl ?_)
        refine So.gy rfl rfl (Nat.le_of_ble_eq_true rfl) (Nat.le_of_ble_eq_true rfl) ?_
        refine A.v rfl (V.bin (a := (.v (.int .i64 _))) (b := (.v (.int .i64 (0)))) (r := .v (.bool _)) rfl rfl rfl trivial ?_)
        refine So.gy rfl rfl (Nat.le_of_ble_eq_true rfl) (Nat.le_of_ble_eq_true rfl) ?_
        refine A.v rfl (V.mv (v := .p (.v (.bool _))) rfl ?_)
        refine So.gd rfl rfl (Nat.le_of_ble_eq_true rfl) (Nat.le_of_ble_eq_true rfl) (fun h24 => ?_) (fun h24 => ?_)
        · have h24 := of_decide_eq_true (bnF h24)
          refine A.v rfl (V.mv (v := .p (.v (.int .i64 _))) rfl ?_)
          refine So.gy rfl rfl (Nat.le_of_ble_eq_true rfl) (Nat.le_of_ble_eq_true rfl) ?_
          refine A.v rfl (V.bin (a := (.v (.int .i64 _))) (b := (.v (.int .i64 (0)))) (r := .v (.bool _)) rfl rfl rfl trivial ?_)
          refine So.gy rfl rfl (Nat.le_of_ble_eq_true rfl) (Nat.le_of_ble_eq_true rfl) ?_
          refine A.v rfl (V.pkFalse (u := .p (.v (.bool _))) rfl rfl ?_)
          refine So.n (Nat.le_of_ble_eq_true rfl) (A.v rfl (V.pkTrue (u := .p (.v (.bool _))) rfl rfl ?_))
          refine So.n (Nat.le_of_ble_eq_true rfl) (A.v rfl (V.as (v := .p (.v (.bool _))) rfl ?_))
          refine So.e ?_
          show HT _ _ _ _ _
          refine HT.ret ?_
          exact ret_ok (sg []) h rfl rfl rfl trivial ⟨trivial, trivial⟩ rfl ⟨⟨⟨le_bool (by first | rfl | (exfalso; omega) | (simp; omega) | (exact decide_eq_true (list_cut (listE_ok (by omega)) hct)) | (exfalso; have h98 := listF_pos (listE_ok (l := l) (by omega)); omega) | (simp; done)), trivial⟩, trivial⟩, trivial⟩
        · have h24 := of_decide_eq_false (bnT h24)
          refine So.gn (b := true) rfl rfl rfl (Nat.le_of_ble_eq_true rfl) (Nat.le_of_ble_eq_true rfl) ?_
          refine So.gy rfl rfl (Nat.le_of_ble_eq_true rfl) (Nat.le_of_ble_eq_true rfl) ?_
          refine A.v rfl (V.pkTrue (u := .p (.v (.bool true))) rfl rfl ?_)
          refine So.n (Nat.le_of_ble_eq_true rfl) (A.v rfl (V.pkTrue (u := .p (.v (.bool true))) rfl rfl ?_))
          refine So.n (Nat.le_of_ble_eq_true rfl) (A.v rfl (V.as (v := .p (.v (.bool true))) rfl ?_))
          refine So.e ?_
          show HT _ _ _ _ _
          refine HT.ret ?_
          exact ret_ok (sg []) h rfl rfl rfl trivial ⟨trivial, trivial⟩ rfl ⟨⟨⟨le_bool (by first | rfl | (exfalso; omega) | (simp; omega) | (exact decide_eq_true (list_cut (listE_ok (by omega)) hct)) | (exfalso; have h98 := listF_pos (listE_ok (l := l) (by omega)); omega) | (simp; done)), trivial⟩, trivial⟩, trivial⟩
    · have h13 := of_decide_eq_false (bnT h13)
      refine So.gn (b := true) rfl rfl rfl (Nat.le_of_ble_eq_true rfl) (Nat.le_of_ble_eq_true rfl) ?_
      refine So.n (Nat.le_of_ble_eq_true rfl) (A.v rfl (V.pkTrue (u := .p (.v (.bool true))) rfl rfl ?_))
      refine So.n (Nat.le_of_ble_eq_true rfl) (A.v rfl (V.mv (v := .p (.v (.bool true))) rfl ?_))
      refine So.gn (b := true) rfl rfl rfl (Nat.le_of_ble_eq_true rfl) (Nat.le_of_ble_eq_true rfl) ?_
      refine So.gn (b := true) rfl rfl rfl (Nat.le_of_ble_eq_true rfl) (Nat.le_of_ble_eq_true rfl) ?_
      refine So.gn (b := true) rfl rfl rfl (Nat.le_of_ble_eq_true rfl) (Nat.le_of_ble_eq_true rfl) ?_
      refine So.n (Nat.le_of_ble_eq_true rfl) (A.v rfl (V.pkTrue (u := .p (.v (.bool true))) rfl rfl ?_))
      refine So.e ?_
      show HT _ _ _ _ _
      refine R.condT rfl ?_
      refine HT.seq ?_
      refine HT.region S_lawApart_ok ?_
      refine So.n (Nat.le_of_ble_eq_true rfl) (A.v rfl (V.mv (v := .p (.v (.bool true))) rfl ?_))
      refine So.n (Nat.le_of_ble_eq_true rfl) (A.v rfl (V.mv (v := .p (.v (.bool true))) rfl ?_))
      refine So.gy rfl rfl (Nat.le_of_ble_eq_true rfl) (Nat.le_of_ble_eq_true rfl) ?_
      refine A.v rfl (V.mv (v := .p (.v (.int .i64 _))) rfl ?_)
      refine So.gy rfl rfl (Nat.le_of_ble_eq_true rfl) (Nat.le_of_ble_eq_true rfl) ?_
      refine A.v rfl (V.bin (a := (.v (.int .i64 _))) (b := (.v (.int .i64 (0)))) (r := .v (.bool _)) rfl rfl rfl trivial ?_)
      refine So.gy rfl rfl (Nat.le_of_ble_eq_true rfl) (Nat.le_of_ble_eq_true rfl) ?_
      refine A.v rfl (V.mv (v := .p (.v (.bool _))) rfl ?_)
      refine So.gd rfl rfl (Nat.le_of_ble_eq_true rfl) (Nat.le_of_ble_eq_true rfl) (fun h25 => ?_) (fun h25 => ?_)
      · have h25 := of_decide_eq_true (bnF h25)
        refine A.v rfl (V.mv (v := .p (.v (.int .i64 _))) rfl ?_)
        refine So.gy rfl rfl (Nat.le_of_ble_eq_true rfl) (Nat.le_of_ble_eq_true rfl) ?_
        refine A.v rfl (V.bin (a := (.v (.int .i64 _))) (b := (.v (.int .i64 (0)))) (r := .v (.bool _)) rfl rfl rfl trivial ?_)
        refine So.gy rfl rfl (Nat.le_of_ble_eq_true rfl) (Nat.le_of_ble_eq_true rfl) ?_
        refine A.v rfl (V.pkFalse (u := .p (.v (.bool _))) rfl rfl ?_)
        refine So.n (Nat.le_of_ble_eq_true rfl) (A.v rfl (V.pkTrue (u := .p (.v (.bool _))) rfl rfl ?_))
        refine So.n (Nat.le_of_ble_eq_true rfl) (A.v rfl (V.as (v := .p (.v (.bool _))) rfl ?_))
        refine So.e ?_
        show HT _ _ _ _ _
        refine HT.ret ?_
        exact ret_ok (sg []) h rfl rfl rfl trivial ⟨trivial, trivial⟩ rfl ⟨⟨⟨le_bool (by first | rfl | (exfalso; omega) | (simp; omega) | (exact decide_eq_true (list_cut (listE_ok (by omega)) hct)) | (exfalso; have h98 := listF_pos (listE_ok (l := l) (by omega)); omega) | (simp; done)), trivial⟩, trivial⟩, trivial⟩
      · have h25 := of_decide_eq_false (bnT h25)
        refine So.gn (b := true) rfl rfl rfl (Nat.le_of_ble_eq_true rfl) (Nat.le_of_ble_eq_true rfl) ?_
        refine So.gy rfl rfl (Nat.le_of_ble_eq_true rfl) (Nat.le_of_ble_eq_true rfl) ?_
        refine A.v rfl (V.pkTrue (u := .p (.v (.bool true))) rfl rfl ?_)
        refine So.n (Nat.le_of_ble_eq_true rfl) (A.v rfl (V.pkTrue (u := .p (.v (.bool true))) rfl rfl ?_))
        refine So.n (Nat.le_of_ble_eq_true rfl) (A.v rfl (V.as (v := .p (.v (.bool true))) rfl ?_))
        refine So.e ?_
        show HT _ _ _ _ _
        refine HT.ret ?_
        exact ret_ok (sg []) h rfl rfl rfl trivial ⟨trivial, trivial⟩ rfl ⟨⟨⟨le_bool (by first | rfl | (exfalso; omega) | (simp; omega) | (exact decide_eq_true (list_cut (listE_ok (by omega)) hct)) | (exfalso; have h98 := listF_pos (listE_ok (l := l) (by omega)); omega) | (simp; done)), trivial⟩, trivial⟩, trivial⟩

end Go.Vw
