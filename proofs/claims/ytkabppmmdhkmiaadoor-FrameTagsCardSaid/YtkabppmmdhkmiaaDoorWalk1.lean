/- What is proved: each function of the seat's program does what its contract says, wherever it is called; no condition. -/
import Derived.Test.YtkabppmmdhkmiaaDoorWalk0
set_option linter.unusedVariables false
set_option linter.unusedSimpArgs false
set_option linter.unusedVariables false
set_option linter.unusedSimpArgs false
namespace Go.Vh
open Go Go.Vc Go.Proofs Go.Vw
def block10Sp : Sp := ⟨[1, 2], mkE (α := (Nat → UInt32) × (List UInt8) × Nat × Nat × UInt64) (fun (g, bb, o, n, m) => [.ptr 1 (0), .own 2 (o) (n)]) (fun (g, bb, o, n, m) => [(1, ⟨101, 1, 10, true, .cells [.p (.u32 (g 0)), .p (.u32 (g 1)), .p (.u32 (g 2)), .p (.u32 (g 3)), .p (.u32 (g 4)), .p (.u32 (g 5)), .p (.u32 (g 6)), .p (.u32 (g 7)), .own 2 (o) (n), .p (.u64 (m))]⟩), (2, ⟨5, 1, (bb).length, true, .bs (bb)⟩)]) (fun (g, bb, o, n, m) => 64 ≤ n ∧ o + n ≤ bb.length) (fun (g, bb, o, n, m) => []) (fun (g, bb, o, n, m) => [(1, ⟨101, 1, 10, true, .cells [.p (.u32 (comp g ((bb.drop o).take n) 0)), .p (.u32 (comp g ((bb.drop o).take n) 1)), .p (.u32 (comp g ((bb.drop o).take n) 2)), .p (.u32 (comp g ((bb.drop o).take n) 3)), .p (.u32 (comp g ((bb.drop o).take n) 4)), .p (.u32 (comp g ((bb.drop o).take n) 5)), .p (.u32 (comp g ((bb.drop o).take n) 6)), .p (.u32 (comp g ((bb.drop o).take n) 7)), .own 2 (o) (n), .p (.u64 (m))]⟩), (2, ⟨5, 1, (bb).length, true, .bs (bb)⟩)])⟩
def S_block10 : FuncId → Option Sp := fun f => if f = 66 then some wordsSp else if f = 67 then some rightSp else none
theorem S_block10_ok : ∀ f s, S_block10 f = some s → FOK Tryd.prog gl f s := fun f s h => by
 unfold S_block10 at h
 split at h
 ·rename_i e; cases h; subst e; exact words_ok
 split at h
 ·rename_i e; cases h; subst e; exact right_ok
 cases h
theorem S_block10_det : ∀ f s, S_block10 f = some s → SpDet s.sp := fun f s h => by
 unfold S_block10 at h
 split at h
 ·cases h; exact mkE_det _ _ _ _ _
 split at h
 ·cases h; exact mkE_det _ _ _ _ _
 cases h
set_option maxHeartbeats 1000000 in
set_option maxRecDepth 20000 in
theorem block10_ok : FOK Tryd.prog gl 65 block10Sp := by
 refine FOK.ofE (tyOf_ok Tryd.prog) (slots := []) (nt := 135) Tryd.func65 rfl rfl rfl rfl (by decide) 2 (fun ⟨_, _, _, _, _⟩ => rfl) (by decide) (fun ⟨_, _, _, _, _⟩ => ⟨rfl, rfl, trivial⟩) ?_
 rintro ⟨g, bb, o, n, m⟩ kk hlen hpre h
 have hl1 : _ ≤ 9223372036854775807 := hlen.2.1
 replace hpre : 64 ≤ n ∧ o + n ≤ bb.length := hpre
 show HT (cx Tryd.prog 135 (tyOf Tryd.prog) gl [1, 2]) _ [(0, .ptr 1 (0)), (1, .own 2 (o) (n))] [(1, ⟨101, 1, 10, true, .cells [.p (.u32 (g 0)), .p (.u32 (g 1)), .p (.u32 (g 2)), .p (.u32 (g 3)), .p (.u32 (g 4)), .p (.u32 (g 5)), .p (.u32 (g 6)), .p (.u32 (g 7)), .own 2 (o) (n), .p (.u64 (m))]⟩), (2, ⟨5, 1, (bb).length, true, .bs (bb)⟩)] _
 have hbl : ((bb.drop o).take n).length = n := by rw [List.length_take, List.length_drop]; omega
 refine R.jump (σ := Nat) 0 (fun s => [(4, .ptr 3 (0)), (5, .p (.u32 (rounds g (wd ((bb.drop o).take n)) s 0))), (6, .p (.u32 (rounds g (wd ((bb.drop o).take n)) s 1))), (7, .p (.u32 (rounds g (wd ((bb.drop o).take n)) s 2))), (8, .p (.u32 (rounds g (wd ((bb.drop o).take n)) s 3))), (9, .p (.u32 (rounds g (wd ((bb.drop o).take n)) s 4))), (10, .p (.u32 (rounds g (wd ((bb.drop o).take n)) s 5))), (11, .p (.u32 (rounds g (wd ((bb.drop o).take n)) s 6))), (12, .p (.u32 (rounds g (wd ((bb.drop o).take n)) s 7))), (13, .p (.v (.int .i64 ((s : Int)))))]) (fun s => [(3, ⟨104, 1, 64, true, .rows (fun j => .u32 (wd ((bb.drop o).take n) j))⟩)]) [0, 1] [1, 2] (fun s => s < 64) (fun s => 64 - s) rfl (fr0 := [(0, .ptr 1 0), (1, .own 2 _ _)]) (O0 := [(1, ⟨_, _, _, _, .cells _⟩), (2, ⟨_, _, _, _, .bs _⟩)]) rfl rfl ?_ (fun s hPj => ?_)
 ·refine HT.seq ?_
  refine HT.region S_block10_ok ?_
  refine So.q rfl rfl (V.mv (v := .own 2 _ _) rfl ?_)
  refine So.n (lk rfl) (A.call0 [.p (.bs _)] 3 rfl rfl rfl rfl ⟨trivial, trivial⟩ ⟨lk rfl, lk rfl, trivial⟩ _ ⟨.refl _, trivial⟩ trivial (by first | omega | (simp; done) | (simp; omega)) (Φ := fun _ => True) (fun _ _ => trivial) (.inr ⟨(fun _ _ => trivial), by simp [Hp.scal, OC.scal, PV.scal, BV.scal]⟩) (v := .agg 64 _) rfl (O' := _) rfl (fun h1 => ?_))
  refine So.n (lk rfl) (A.alloc 3 1 ty104 rfl ⟨lk rfl, lk rfl, trivial⟩ (f := fun _ => .u32 0) (fun _ _ => rfl) ?_)
  refine So.s (A.stoAg ty104 rfl (n := 64) rfl (by decide) (by intro j hj; first | rfl | trivial) rfl rfl rfl ?_)
  refine So.e ?_
  show HT _ _ _ _ _
  refine HT.seq ?_
  refine HT.drawn S_block10_ok S_block10_det mixed (by kernel_rfl) ?_
  refine Sd.n (lk rfl) (V.mv (v := .ptr 1 0) rfl ?_)
  refine Sd.n (lk rfl) (V.ncPtr rfl ?_)
  refine Sd.n (lk rfl) (V.ixArrP10 ty98 ty96 rfl rfl rfl (by first | rfl | omega | (simp; done) | (simp; omega)) rfl (by omega) rfl ?_)
  refine Sd.n (lk rfl) (V.ldPtr ty96 rfl rfl rfl (lk rfl) (v := .p (.u32 _)) rfl ?_)
  refine Sd.n (lk rfl) (V.mv (v := .ptr 1 0) rfl ?_)
  refine Sd.n (lk rfl) (V.ncPtr rfl ?_)
  refine Sd.n (lk rfl) (V.ixArrP10 ty98 ty96 rfl rfl rfl (by first | rfl | omega | (simp; done) | (simp; omega)) rfl (by omega) rfl ?_)
  refine Sd.n (lk rfl) (V.ldPtr ty96 rfl rfl rfl (lk rfl) (v := .p (.u32 _)) rfl ?_)
  refine Sd.n (lk rfl) (V.mv (v := .ptr 1 0) rfl ?_)
  refine Sd.n (lk rfl) (V.ncPtr rfl ?_)
  refine Sd.n (lk rfl) (V.ixArrP10 ty98 ty96 rfl rfl rfl (by first | rfl | omega | (simp; done) | (simp; omega)) rfl (by omega) rfl ?_)
  refine Sd.n (lk rfl) (V.ldPtr ty96 rfl rfl rfl (lk rfl) (v := .p (.u32 _)) rfl ?_)
  refine Sd.n (lk rfl) (V.mv (v := .ptr 1 0) rfl ?_)
  refine Sd.n (lk rfl) (V.ncPtr rfl ?_)
  refine Sd.n (lk rfl) (V.ixArrP10 ty98 ty96 rfl rfl rfl (by first | rfl | omega | (simp; done) | (simp; omega)) rfl (by omega) rfl ?_)
  refine Sd.n (lk rfl) (V.ldPtr ty96 rfl rfl rfl (lk rfl) (v := .p (.u32 _)) rfl ?_)
  refine Sd.n (lk rfl) (V.mv (v := .ptr 1 0) rfl ?_)
  refine Sd.n (lk rfl) (V.ncPtr rfl ?_)
  refine Sd.n (lk rfl) (V.ixArrP10 ty98 ty96 rfl rfl rfl (by first | rfl | omega | (simp; done) | (simp; omega)) rfl (by omega) rfl ?_)
  refine Sd.n (lk rfl) (V.ldPtr ty96 rfl rfl rfl (lk rfl) (v := .p (.u32 _)) rfl ?_)
  refine Sd.n (lk rfl) (V.mv (v := .ptr 1 0) rfl ?_)
  refine Sd.n (lk rfl) (V.ncPtr rfl ?_)
  refine Sd.n (lk rfl) (V.ixArrP10 ty98 ty96 rfl rfl rfl (by first | rfl | omega | (simp; done) | (simp; omega)) rfl (by omega) rfl ?_)
  refine Sd.n (lk rfl) (V.ldPtr ty96 rfl rfl rfl (lk rfl) (v := .p (.u32 _)) rfl ?_)
  refine Sd.n (lk rfl) (V.mv (v := .ptr 1 0) rfl ?_)
  refine Sd.n (lk rfl) (V.ncPtr rfl ?_)
  refine Sd.n (lk rfl) (V.ixArrP10 ty98 ty96 rfl rfl rfl (by first | rfl | omega | (simp; done) | (simp; omega)) rfl (by omega) rfl ?_)
  refine Sd.n (lk rfl) (V.ldPtr ty96 rfl rfl rfl (lk rfl) (v := .p (.u32 _)) rfl ?_)
  refine Sd.n (lk rfl) (V.mv (v := .ptr 1 0) rfl ?_)
  refine Sd.n (lk rfl) (V.ncPtr rfl ?_)
  refine Sd.n (lk rfl) (V.ixArrP10 ty98 ty96 rfl rfl rfl (by first | rfl | omega | (simp; done) | (simp; omega)) rfl (by omega) rfl ?_)
  refine Sd.n (lk rfl) (V.ldPtr ty96 rfl rfl rfl (lk rfl) (v := .p (.u32 _)) rfl ?_)
  refine Sd.n (lk rfl) (V.as (v := .p (.u32 _)) rfl ?_)
  refine Sd.n (lk rfl) (V.as (v := .p (.u32 _)) rfl ?_)
  refine Sd.n (lk rfl) (V.as (v := .p (.u32 _)) rfl ?_)
  refine Sd.n (lk rfl) (V.as (v := .p (.u32 _)) rfl ?_)
  refine Sd.n (lk rfl) (V.as (v := .p (.u32 _)) rfl ?_)
  refine Sd.n (lk rfl) (V.as (v := .p (.u32 _)) rfl ?_)
  refine Sd.n (lk rfl) (V.as (v := .p (.u32 _)) rfl ?_)
  refine Sd.n (lk rfl) (V.as (v := .p (.u32 _)) rfl ?_)
  refine Sd.e ?_
  show HT _ _ _ _ _
  refine HT.seq ?_
  refine HT.region S_block10_ok ?_
  refine So.q rfl rfl (V.as (v := .p (.v (.int .i64 (0)))) rfl ?_)
  refine So.e ?_
  show HT _ _ _ _ _
  refine HT.seq ?_
  refine HT.label ?_
  show HT _ _ _ _ _
  refine HT.seq ?_
  refine HT.drawn S_block10_ok S_block10_det mixed (by kernel_rfl) ?_
  refine Sd.n (lk rfl) (V.mv (v := .p (.u32 _)) rfl ?_)
  refine Sd.n (lk rfl) (V.mv (v := .p (.u32 _)) rfl ?_)
  refine Sd.n (lk rfl) (V.call [.p (.u32 _), .p (.v (.int .i64 _))] 4 rfl rfl rfl rfl ⟨trivial, trivial, trivial⟩ ⟨lk rfl, lk rfl, trivial⟩ (_, _) ⟨.refl _, .refl _, trivial⟩ trivial (by first | omega | decide) (Φ := fun _ => True) (fun _ _ => trivial) (.inl ⟨trivial, trivial, trivial⟩) (v := .p (.u32 _)) rfl (fun h2 => ?_))
  refine Sd.n (lk rfl) (V.mv (v := .p (.u32 _)) rfl ?_)
  refine Sd.n (lk rfl) (V.call [.p (.u32 _), .p (.v (.int .i64 _))] 4 rfl rfl rfl rfl ⟨trivial, trivial, trivial⟩ ⟨lk rfl, lk rfl, trivial⟩ (_, _) ⟨.refl _, .refl _, trivial⟩ trivial (by first | omega | decide) (Φ := fun _ => True) (fun _ _ => trivial) (.inl ⟨trivial, trivial, trivial⟩) (v := .p (.u32 _)) rfl (fun h3 => ?_))
  refine Sd.n (lk rfl) (V.bin (a := (.u32 _)) (b := (.u32 _)) (r := .u32 _) rfl rfl rfl trivial ?_)
  refine Sd.n (lk rfl) (V.mv (v := .p (.u32 _)) rfl ?_)
  refine Sd.n (lk rfl) (V.call [.p (.u32 _), .p (.v (.int .i64 _))] 4 rfl rfl rfl rfl ⟨trivial, trivial, trivial⟩ ⟨lk rfl, lk rfl, trivial⟩ (_, _) ⟨.refl _, .refl _, trivial⟩ trivial (by first | omega | decide) (Φ := fun _ => True) (fun _ _ => trivial) (.inl ⟨trivial, trivial, trivial⟩) (v := .p (.u32 _)) rfl (fun h4 => ?_))
  refine Sd.n (lk rfl) (V.bin (a := (.u32 _)) (b := (.u32 _)) (r := .u32 _) rfl rfl rfl trivial ?_)
  refine Sd.n (lk rfl) (V.bin (a := (.u32 _)) (b := (.u32 _)) (r := .u32 _) rfl rfl rfl trivial ?_)
  refine Sd.n (lk rfl) (V.mv (v := .p (.u32 _)) rfl ?_)
  refine Sd.n (lk rfl) (V.mv (v := .p (.u32 _)) rfl ?_)
  refine Sd.n (lk rfl) (V.mv (v := .p (.u32 _)) rfl ?_)
  refine Sd.n (lk rfl) (V.mv (v := .p (.u32 _)) rfl ?_)
  refine Sd.n (lk rfl) (V.bin (a := (.u32 _)) (b := (.u32 _)) (r := .u32 _) rfl rfl rfl trivial ?_)
  refine Sd.n (lk rfl) (V.bin (a := (.u32 _)) (b := (.u32 _)) (r := .u32 _) rfl rfl rfl trivial ?_)
  refine Sd.n (lk rfl) (V.bin (a := (.u32 _)) (b := (.u32 _)) (r := .u32 _) rfl rfl rfl trivial ?_)
  refine Sd.n (lk rfl) (V.bin (a := (.u32 _)) (b := (.u32 _)) (r := .u32 _) rfl rfl rfl trivial ?_)
  refine Sd.n (lk rfl) (V.mv (v := .p (.v (.int .i64 _))) rfl ?_)
  refine Sd.n (lk rfl) (V.ixArr1 ty104 ty96 rfl rfl (lk rfl) rfl (by omega) rfl ?_)
  refine Sd.n (lk rfl) (V.ldRp ty96 rfl rfl (lk rfl) (v := (.u32 _)) rfl ?_)
  refine Sd.n (lk rfl) (V.bin (a := (.u32 _)) (b := (.u32 _)) (r := .u32 _) rfl rfl rfl trivial ?_)
  refine Sd.n (lk rfl) (V.mv (v := .p (.v (.int .i64 _))) rfl ?_)
  refine Sd.n (lk rfl) (V.ixArrP10 ty104 ty96 rfl rfl rfl (by first | rfl | omega | (simp; done) | (simp; omega)) rfl (by omega) rfl ?_)
  refine Sd.n (lk rfl) (V.ldPtr ty96 rfl rfl rfl (by first | rfl | omega | (simp; done) | (simp; omega)) (v := .p (.u32 _)) rfl ?_)
  refine Sd.n (lk rfl) (V.bin (a := (.u32 _)) (b := (.u32 _)) (r := .u32 _) rfl rfl rfl trivial ?_)
  refine Sd.n (lk rfl) (V.as (v := .p (.u32 _)) rfl ?_)
  refine Sd.e ?_
  show HT _ _ _ _ _
  refine HT.seq ?_
  refine HT.region S_block10_ok ?_
  refine So.q rfl rfl (V.mv (v := .p (.u32 _)) rfl ?_)
  refine So.n (lk rfl) (A.call0 [.p (.u32 _), .p (.v (.int .i64 _))] 4 rfl rfl rfl rfl ⟨trivial, trivial, trivial⟩ ⟨lk rfl, lk rfl, trivial⟩ (_, _) ⟨.refl _, .refl _, trivial⟩ trivial (by first | omega | decide) (Φ := fun _ => True) (fun _ _ => trivial) (.inl rfl) (v := .p (.u32 _)) rfl (O' := _) rfl (fun h5 => ?_))
  refine So.q rfl rfl (V.mv (v := .p (.u32 _)) rfl ?_)
  refine So.n (lk rfl) (A.call0 [.p (.u32 _), .p (.v (.int .i64 _))] 4 rfl rfl rfl rfl ⟨trivial, trivial, trivial⟩ ⟨lk rfl, lk rfl, trivial⟩ (_, _) ⟨.refl _, .refl _, trivial⟩ trivial (by first | omega | decide) (Φ := fun _ => True) (fun _ _ => trivial) (.inl rfl) (v := .p (.u32 _)) rfl (O' := _) rfl (fun h6 => ?_))
  refine So.q rfl rfl (V.bin (a := (.u32 _)) (b := (.u32 _)) (r := .u32 _) rfl rfl rfl trivial ?_)
  refine So.q rfl rfl (V.mv (v := .p (.u32 _)) rfl ?_)
  refine So.n (lk rfl) (A.call0 [.p (.u32 _), .p (.v (.int .i64 _))] 4 rfl rfl rfl rfl ⟨trivial, trivial, trivial⟩ ⟨lk rfl, lk rfl, trivial⟩ (_, _) ⟨.refl _, .refl _, trivial⟩ trivial (by first | omega | decide) (Φ := fun _ => True) (fun _ _ => trivial) (.inl rfl) (v := .p (.u32 _)) rfl (O' := _) rfl (fun h7 => ?_))
  refine So.q rfl rfl (V.bin (a := (.u32 _)) (b := (.u32 _)) (r := .u32 _) rfl rfl rfl trivial ?_)
  refine So.q rfl rfl (V.mv (v := .p (.u32 _)) rfl ?_)
  refine So.q rfl rfl (V.mv (v := .p (.u32 _)) rfl ?_)
  refine So.q rfl rfl (V.bin (a := (.u32 _)) (b := (.u32 _)) (r := .u32 _) rfl rfl rfl trivial ?_)
  refine So.q rfl rfl (V.mv (v := .p (.u32 _)) rfl ?_)
  refine So.q rfl rfl (V.mv (v := .p (.u32 _)) rfl ?_)
  refine So.q rfl rfl (V.mv (v := .p (.u32 _)) rfl ?_)
  refine So.q rfl rfl (V.bin (a := (.u32 _)) (b := (.u32 _)) (r := .u32 _) rfl rfl rfl trivial ?_)
  refine So.q rfl rfl (V.bin (a := (.u32 _)) (b := (.u32 _)) (r := .u32 _) rfl rfl rfl trivial ?_)
  refine So.q rfl rfl (V.bin (a := (.u32 _)) (b := (.u32 _)) (r := .u32 _) rfl rfl rfl trivial ?_)
  refine So.q rfl rfl (V.bin (a := (.u32 _)) (b := (.u32 _)) (r := .u32 _) rfl rfl rfl trivial ?_)
  refine So.q rfl rfl (V.as (v := .p (.u32 _)) rfl ?_)
  refine So.e ?_
  show HT _ _ _ _ _
  refine HT.seq ?_
  refine HT.region S_block10_ok ?_
  refine So.q rfl rfl (V.mv (v := .p (.u32 _)) rfl ?_)
  refine So.q rfl rfl (V.mv (v := .p (.u32 _)) rfl ?_)
  refine So.q rfl rfl (V.bin (a := (.u32 _)) (b := (.u32 _)) (r := .u32 _) rfl rfl rfl trivial ?_)
  refine So.q rfl rfl (V.mv (v := .p (.u32 _)) rfl ?_)
  refine So.q rfl rfl (V.mv (v := .p (.u32 _)) rfl ?_)
  refine So.q rfl rfl (V.mv (v := .p (.u32 _)) rfl ?_)
  refine So.q rfl rfl (V.mv (v := .p (.u32 _)) rfl ?_)
  refine So.q rfl rfl (V.mv (v := .p (.u32 _)) rfl ?_)
  refine So.q rfl rfl (V.bin (a := (.u32 _)) (b := (.u32 _)) (r := .u32 _) rfl rfl rfl trivial ?_)
  refine So.q rfl rfl (V.mv (v := .p (.u32 _)) rfl ?_)
  refine So.q rfl rfl (V.mv (v := .p (.u32 _)) rfl ?_)
  refine So.q rfl rfl (V.mv (v := .p (.u32 _)) rfl ?_)
  refine So.q rfl rfl (V.as (v := .p (.u32 _)) rfl ?_)
  refine So.q rfl rfl (V.as (v := .p (.u32 _)) rfl ?_)
  refine So.q rfl rfl (V.as (v := .p (.u32 _)) rfl ?_)
  refine So.q rfl rfl (V.as (v := .p (.u32 _)) rfl ?_)
  refine So.q rfl rfl (V.as (v := .p (.u32 _)) rfl ?_)
  refine So.q rfl rfl (V.as (v := .p (.u32 _)) rfl ?_)
  refine So.q rfl rfl (V.as (v := .p (.u32 _)) rfl ?_)
  refine So.q rfl rfl (V.as (v := .p (.u32 _)) rfl ?_)
  refine So.e ?_
  show HT _ _ _ _ _
  refine HT.seq ?_
  refine HT.seq ?_
  refine HT.region S_block10_ok ?_
  refine So.q rfl rfl (V.mv (v := .p (.v (.int .i64 _))) rfl ?_)
  refine So.q rfl rfl (V.addI rfl rfl (by omega) ?_)
  refine So.q rfl rfl (V.as (v := .p (.v (.int .i64 _))) rfl ?_)
  refine So.e ?_
  show HT _ _ _ _ _
  refine HT.seq ?_
  refine HT.region S_block10_ok ?_
  refine So.q rfl rfl (V.mv (v := .p (.v (.int .i64 _))) rfl ?_)
  refine So.q rfl rfl (V.bin (a := (.v (.int .i64 _))) (b := (.v (.int .i64 (64)))) (r := .v (.bool _)) rfl rfl rfl trivial ?_)
  refine So.e ?_
  show HT _ _ _ _ _
  refine R.cond rfl rfl (fun h8 => ?_) (fun h8 => ?_)
  ·have h8 := of_decide_eq_true h8
   refine HT.goto ?_
   exact ⟨rfl, 1, by first | rfl | omega | (intro j hj; rfl), ⟨⟨⟨.refl _, rfl⟩, ⟨le_u32 (by first | rfl | omega | (intro j hj; rfl)), trivial⟩, ⟨le_u32 (by first | rfl | omega | (intro j hj; rfl)), trivial⟩, ⟨le_u32 (by first | rfl | omega | (intro j hj; rfl)), trivial⟩, ⟨le_u32 (by first | rfl | omega | (intro j hj; rfl)), trivial⟩, ⟨le_u32 (by first | rfl | omega | (intro j hj; rfl)), trivial⟩, ⟨le_u32 (by first | rfl | omega | (intro j hj; rfl)), trivial⟩, ⟨le_u32 (by first | rfl | omega | (intro j hj; rfl)), trivial⟩, ⟨le_u32 (by first | rfl | omega | (intro j hj; rfl)), trivial⟩, ⟨le_int (by first | rfl | omega | (intro j hj; rfl)), trivial⟩, ⟨.refl _, rfl⟩, ⟨.refl _, rfl⟩, trivial⟩, ⟨⟨_, rfl, .inr (ob_rows (by first | rfl | ((try dsimp only); first | rfl | omega | (intro j hj; rfl))) (by first | rfl | ((try dsimp only); first | rfl | omega | (intro j hj; rfl)))), trivial⟩, ⟨_, rfl, .inl rfl, ⟨trivial, trivial, trivial, trivial, trivial, trivial, trivial, trivial, rfl, trivial, trivial⟩⟩, ⟨_, rfl, .inl rfl, trivial⟩, trivial⟩⟩⟩
  ·have h8 := of_decide_eq_false h8
   first | exact absurd (by omega) h8 | exact absurd h8 (by omega)
 ·show HT _ _ _ _ _
  refine HT.seq ?_
  refine HT.skip ?_
  show HT _ _ _ _ _
  refine HT.seq ?_
  refine HT.drawn S_block10_ok S_block10_det mixed (by kernel_rfl) ?_
  refine Sd.n (lk rfl) (V.mv (v := .p (.u32 _)) rfl ?_)
  refine Sd.n (lk rfl) (V.mv (v := .p (.u32 _)) rfl ?_)
  refine Sd.n (lk rfl) (V.call [.p (.u32 _), .p (.v (.int .i64 _))] 4 rfl rfl rfl rfl ⟨trivial, trivial, trivial⟩ ⟨lk rfl, lk rfl, trivial⟩ (_, _) ⟨.refl _, .refl _, trivial⟩ trivial (by first | omega | decide) (Φ := fun _ => True) (fun _ _ => trivial) (.inl ⟨trivial, trivial, trivial⟩) (v := .p (.u32 _)) rfl (fun h9 => ?_))
  refine Sd.n (lk rfl) (V.mv (v := .p (.u32 _)) rfl ?_)
  refine Sd.n (lk rfl) (V.call [.p (.u32 _), .p (.v (.int .i64 _))] 4 rfl rfl rfl rfl ⟨trivial, trivial, trivial⟩ ⟨lk rfl, lk rfl, trivial⟩ (_, _) ⟨.refl _, .refl _, trivial⟩ trivial (by first | omega | decide) (Φ := fun _ => True) (fun _ _ => trivial) (.inl ⟨trivial, trivial, trivial⟩) (v := .p (.u32 _)) rfl (fun h10 => ?_))
  refine Sd.n (lk rfl) (V.bin (a := (.u32 _)) (b := (.u32 _)) (r := .u32 _) rfl rfl rfl trivial ?_)
  refine Sd.n (lk rfl) (V.mv (v := .p (.u32 _)) rfl ?_)
  refine Sd.n (lk rfl) (V.call [.p (.u32 _), .p (.v (.int .i64 _))] 4 rfl rfl rfl rfl ⟨trivial, trivial, trivial⟩ ⟨lk rfl, lk rfl, trivial⟩ (_, _) ⟨.refl _, .refl _, trivial⟩ trivial (by first | omega | decide) (Φ := fun _ => True) (fun _ _ => trivial) (.inl ⟨trivial, trivial, trivial⟩) (v := .p (.u32 _)) rfl (fun h11 => ?_))
  refine Sd.n (lk rfl) (V.bin (a := (.u32 _)) (b := (.u32 _)) (r := .u32 _) rfl rfl rfl trivial ?_)
  refine Sd.n (lk rfl) (V.bin (a := (.u32 _)) (b := (.u32 _)) (r := .u32 _) rfl rfl rfl trivial ?_)
  refine Sd.n (lk rfl) (V.mv (v := .p (.u32 _)) rfl ?_)
  refine Sd.n (lk rfl) (V.mv (v := .p (.u32 _)) rfl ?_)
  refine Sd.n (lk rfl) (V.mv (v := .p (.u32 _)) rfl ?_)
  refine Sd.n (lk rfl) (V.mv (v := .p (.u32 _)) rfl ?_)
  refine Sd.n (lk rfl) (V.bin (a := (.u32 _)) (b := (.u32 _)) (r := .u32 _) rfl rfl rfl trivial ?_)
  refine Sd.n (lk rfl) (V.bin (a := (.u32 _)) (b := (.u32 _)) (r := .u32 _) rfl rfl rfl trivial ?_)
  refine Sd.n (lk rfl) (V.bin (a := (.u32 _)) (b := (.u32 _)) (r := .u32 _) rfl rfl rfl trivial ?_)
  refine Sd.n (lk rfl) (V.bin (a := (.u32 _)) (b := (.u32 _)) (r := .u32 _) rfl rfl rfl trivial ?_)
  refine Sd.n (lk rfl) (V.mv (v := .p (.v (.int .i64 ((_ : Nat) : Int)))) rfl ?_)
  refine Sd.n (lk rfl) (V.ixArr1 ty104 ty96 rfl rfl (lk rfl) rfl (by omega) (Int.toNat_natCast _) ?_)
  refine Sd.n (lk rfl) (V.ldRp ty96 rfl rfl (lk rfl) (v := (.u32 _)) rfl ?_)
  refine Sd.n (lk rfl) (V.bin (a := (.u32 _)) (b := (.u32 _)) (r := .u32 _) rfl rfl rfl trivial ?_)
  refine Sd.n (lk rfl) (V.mv (v := .p (.v (.int .i64 ((_ : Nat) : Int)))) rfl ?_)
  refine Sd.n (lk rfl) (V.ixArrP10 ty104 ty96 rfl rfl rfl (by first | rfl | omega | (simp; done) | (simp; omega)) rfl (by omega) (Int.toNat_natCast _) ?_)
  refine Sd.n (lk rfl) (V.ldPtr ty96 rfl rfl rfl (by first | rfl | omega | (simp; done) | (simp; omega)) (v := .p (.u32 _)) rfl ?_)
  refine Sd.n (lk rfl) (V.bin (a := (.u32 _)) (b := (.u32 _)) (r := .u32 _) rfl rfl rfl trivial ?_)
  refine Sd.n (lk rfl) (V.as (v := .p (.u32 _)) rfl ?_)
  refine Sd.e ?_
  show HT _ _ _ _ _
  refine HT.seq ?_
  refine HT.region S_block10_ok ?_
  refine So.q rfl rfl (V.mv (v := .p (.u32 _)) rfl ?_)
  refine So.n (lk rfl) (A.call0 [.p (.u32 _), .p (.v (.int .i64 _))] 4 rfl rfl rfl rfl ⟨trivial, trivial, trivial⟩ ⟨lk rfl, lk rfl, trivial⟩ (_, _) ⟨.refl _, .refl _, trivial⟩ trivial (by first | omega | decide) (Φ := fun _ => True) (fun _ _ => trivial) (.inl rfl) (v := .p (.u32 _)) rfl (O' := _) rfl (fun h12 => ?_))
  refine So.q rfl rfl (V.mv (v := .p (.u32 _)) rfl ?_)
  refine So.n (lk rfl) (A.call0 [.p (.u32 _), .p (.v (.int .i64 _))] 4 rfl rfl rfl rfl ⟨trivial, trivial, trivial⟩ ⟨lk rfl, lk rfl, trivial⟩ (_, _) ⟨.refl _, .refl _, trivial⟩ trivial (by first | omega | decide) (Φ := fun _ => True) (fun _ _ => trivial) (.inl rfl) (v := .p (.u32 _)) rfl (O' := _) rfl (fun h13 => ?_))
  refine So.q rfl rfl (V.bin (a := (.u32 _)) (b := (.u32 _)) (r := .u32 _) rfl rfl rfl trivial ?_)
  refine So.q rfl rfl (V.mv (v := .p (.u32 _)) rfl ?_)
  refine So.n (lk rfl) (A.call0 [.p (.u32 _), .p (.v (.int .i64 _))] 4 rfl rfl rfl rfl ⟨trivial, trivial, trivial⟩ ⟨lk rfl, lk rfl, trivial⟩ (_, _) ⟨.refl _, .refl _, trivial⟩ trivial (by first | omega | decide) (Φ := fun _ => True) (fun _ _ => trivial) (.inl rfl) (v := .p (.u32 _)) rfl (O' := _) rfl (fun h14 => ?_))
  refine So.q rfl rfl (V.bin (a := (.u32 _)) (b := (.u32 _)) (r := .u32 _) rfl rfl rfl trivial ?_)
  refine So.q rfl rfl (V.mv (v := .p (.u32 _)) rfl ?_)
  refine So.q rfl rfl (V.mv (v := .p (.u32 _)) rfl ?_)
  refine So.q rfl rfl (V.bin (a := (.u32 _)) (b := (.u32 _)) (r := .u32 _) rfl rfl rfl trivial ?_)
  refine So.q rfl rfl (V.mv (v := .p (.u32 _)) rfl ?_)
  refine So.q rfl rfl (V.mv (v := .p (.u32 _)) rfl ?_)
  refine So.q rfl rfl (V.mv (v := .p (.u32 _)) rfl ?_)
  refine So.q rfl rfl (V.bin (a := (.u32 _)) (b := (.u32 _)) (r := .u32 _) rfl rfl rfl trivial ?_)
  refine So.q rfl rfl (V.bin (a := (.u32 _)) (b := (.u32 _)) (r := .u32 _) rfl rfl rfl trivial ?_)
  refine So.q rfl rfl (V.bin (a := (.u32 _)) (b := (.u32 _)) (r := .u32 _) rfl rfl rfl trivial ?_)
  refine So.q rfl rfl (V.bin (a := (.u32 _)) (b := (.u32 _)) (r := .u32 _) rfl rfl rfl trivial ?_)
  refine So.q rfl rfl (V.as (v := .p (.u32 _)) rfl ?_)
  refine So.e ?_
  show HT _ _ _ _ _
  refine HT.seq ?_
  refine HT.region S_block10_ok ?_
  refine So.q rfl rfl (V.mv (v := .p (.u32 _)) rfl ?_)
  refine So.q rfl rfl (V.mv (v := .p (.u32 _)) rfl ?_)
  refine So.q rfl rfl (V.bin (a := (.u32 _)) (b := (.u32 _)) (r := .u32 _) rfl rfl rfl trivial ?_)
  refine So.q rfl rfl (V.mv (v := .p (.u32 _)) rfl ?_)
  refine So.q rfl rfl (V.mv (v := .p (.u32 _)) rfl ?_)
  refine So.q rfl rfl (V.mv (v := .p (.u32 _)) rfl ?_)
  refine So.q rfl rfl (V.mv (v := .p (.u32 _)) rfl ?_)
  refine So.q rfl rfl (V.mv (v := .p (.u32 _)) rfl ?_)
  refine So.q rfl rfl (V.bin (a := (.u32 _)) (b := (.u32 _)) (r := .u32 _) rfl rfl rfl trivial ?_)
  refine So.q rfl rfl (V.mv (v := .p (.u32 _)) rfl ?_)
  refine So.q rfl rfl (V.mv (v := .p (.u32 _)) rfl ?_)
  refine So.q rfl rfl (V.mv (v := .p (.u32 _)) rfl ?_)
  refine So.q rfl rfl (V.as (v := .p (.u32 _)) rfl ?_)
  refine So.q rfl rfl (V.as (v := .p (.u32 _)) rfl ?_)
  refine So.q rfl rfl (V.as (v := .p (.u32 _)) rfl ?_)
  refine So.q rfl rfl (V.as (v := .p (.u32 _)) rfl ?_)
  refine So.q rfl rfl (V.as (v := .p (.u32 _)) rfl ?_)
  refine So.q rfl rfl (V.as (v := .p (.u32 _)) rfl ?_)
  refine So.q rfl rfl (V.as (v := .p (.u32 _)) rfl ?_)
  refine So.q rfl rfl (V.as (v := .p (.u32 _)) rfl ?_)
  refine So.e ?_
  show HT _ _ _ _ _
  refine HT.seq ?_
  refine HT.seq ?_
  refine HT.region S_block10_ok ?_
  refine So.q rfl rfl (V.mv (v := .p (.v (.int .i64 ((_ : Nat) : Int)))) rfl ?_)
  refine So.q rfl rfl (V.addI rfl rfl (by omega) ?_)
  refine So.q rfl rfl (V.as (v := .p (.v (.int .i64 _))) rfl ?_)
  refine So.e ?_
  show HT _ _ _ _ _
  refine HT.seq ?_
  refine HT.region S_block10_ok ?_
  refine So.q rfl rfl (V.mv (v := .p (.v (.int .i64 _))) rfl ?_)
  refine So.q rfl rfl (V.bin (a := (.v (.int .i64 _))) (b := (.v (.int .i64 (64)))) (r := .v (.bool _)) rfl rfl rfl trivial ?_)
  refine So.e ?_
  show HT _ _ _ _ _
  refine R.cond rfl rfl (fun h15 => ?_) (fun h15 => ?_)
  ·have h15 := of_decide_eq_true h15
   refine HT.goto ?_
   exact ⟨rfl, s + 1, by first | rfl | omega | (intro j hj; rfl), by omega, ⟨⟨⟨.refl _, rfl⟩, ⟨le_u32 (by first | rfl | omega | (intro j hj; rfl)), trivial⟩, ⟨le_u32 (by first | rfl | omega | (intro j hj; rfl)), trivial⟩, ⟨le_u32 (by first | rfl | omega | (intro j hj; rfl)), trivial⟩, ⟨le_u32 (by first | rfl | omega | (intro j hj; rfl)), trivial⟩, ⟨le_u32 (by first | rfl | omega | (intro j hj; rfl)), trivial⟩, ⟨le_u32 (by first | rfl | omega | (intro j hj; rfl)), trivial⟩, ⟨le_u32 (by first | rfl | omega | (intro j hj; rfl)), trivial⟩, ⟨le_u32 (by first | rfl | omega | (intro j hj; rfl)), trivial⟩, ⟨le_int (by first | rfl | omega | (intro j hj; rfl)), trivial⟩, ⟨.refl _, rfl⟩, ⟨.refl _, rfl⟩, trivial⟩, ⟨⟨_, rfl, .inr (ob_rows (by first | rfl | ((try dsimp only); first | rfl | omega | (intro j hj; rfl))) (by first | rfl | ((try dsimp only); first | rfl | omega | (intro j hj; rfl)))), trivial⟩, ⟨_, rfl, .inl rfl, ⟨trivial, trivial, trivial, trivial, trivial, trivial, trivial, trivial, rfl, trivial, trivial⟩⟩, ⟨_, rfl, .inl rfl, trivial⟩, trivial⟩⟩⟩
  ·have h15 := of_decide_eq_false h15
   refine HT.skip ?_
   show HT _ _ _ _ _
   refine HT.seq ?_
   refine HT.region S_block10_ok ?_
   have hs : s + 1 = 64 := by omega
   refine So.q rfl rfl (V.mv (v := .p (.u32 _)) rfl ?_)
   refine So.q rfl rfl (V.mv (v := .p (.u32 _)) rfl ?_)
   refine So.q rfl rfl (V.mv (v := .p (.u32 _)) rfl ?_)
   refine So.q rfl rfl (V.mv (v := .p (.u32 _)) rfl ?_)
   refine So.q rfl rfl (V.mv (v := .p (.u32 _)) rfl ?_)
   refine So.q rfl rfl (V.mv (v := .p (.u32 _)) rfl ?_)
   refine So.q rfl rfl (V.mv (v := .p (.u32 _)) rfl ?_)
   refine So.q rfl rfl (V.mv (v := .p (.u32 _)) rfl ?_)
   refine So.n (lk rfl) (A.bldA ty97 rfl rfl ⟨by first | exact trivial | exact rfl | (intro j hj; first | trivial | rfl | (simp [BV.one]; done)), by first | exact trivial | exact rfl | (intro j hj; first | trivial | rfl | (simp [BV.one]; done)), by first | exact trivial | exact rfl | (intro j hj; first | trivial | rfl | (simp [BV.one]; done)), by first | exact trivial | exact rfl | (intro j hj; first | trivial | rfl | (simp [BV.one]; done)), by first | exact trivial | exact rfl | (intro j hj; first | trivial | rfl | (simp [BV.one]; done)), by first | exact trivial | exact rfl | (intro j hj; first | trivial | rfl | (simp [BV.one]; done)), by first | exact trivial | exact rfl | (intro j hj; first | trivial | rfl | (simp [BV.one]; done)), by first | exact trivial | exact rfl | (intro j hj; first | trivial | rfl | (simp [BV.one]; done)), trivial⟩ rfl (f := fun j => .u32 (rounds g (wd ((bb.drop o).take n)) (s + 1) j)) (by exact allP_spec (P := fun j => _ = _) ⟨⟨⟨⟨⟨⟨⟨⟨trivial, rfl⟩, rfl⟩, rfl⟩, rfl⟩, rfl⟩, rfl⟩, rfl⟩, rfl⟩) ?_)
   refine So.q rfl rfl (V.mv (v := .p (.v (.int .i64 (0)))) rfl ?_)
   refine So.e ?_
   show HT _ _ _ _ _
   refine HT.block ?_
   refine R.loop (σ := Nat) (fun r => [(121, .p (.v (.int .i64 ((r : Int)))))]) (fun r => [(1, ⟨101, 1, 10, true, .cells [.p (.u32 (if 0 < r then comp g ((bb.drop o).take n) 0 else g 0)), .p (.u32 (if 1 < r then comp g ((bb.drop o).take n) 1 else g 1)), .p (.u32 (if 2 < r then comp g ((bb.drop o).take n) 2 else g 2)), .p (.u32 (if 3 < r then comp g ((bb.drop o).take n) 3 else g 3)), .p (.u32 (if 4 < r then comp g ((bb.drop o).take n) 4 else g 4)), .p (.u32 (if 5 < r then comp g ((bb.drop o).take n) 5 else g 5)), .p (.u32 (if 6 < r then comp g ((bb.drop o).take n) 6 else g 6)), .p (.u32 (if 7 < r then comp g ((bb.drop o).take n) 7 else g 7)), .own 2 (o) (n), .p (.u64 (m))]⟩)]) [0, 120] [2, 3] (fun r => r ≤ 8) (fun r => 8 - r) (0) (fr0 := [(0, .ptr 1 0), (120, .agg 8 _)]) (O0 := [(2, ⟨_, _, _, _, .bs _⟩), (3, ⟨_, _, _, _, .rows _⟩)]) rfl rfl (by first | rfl | omega | (simp; done) | (simp; omega)) ⟨⟨⟨le_int (by first | rfl | omega | (simp; done)), trivial⟩, ⟨.refl _, rfl⟩, ⟨.refl _, trivial⟩, trivial⟩, ⟨⟨_, rfl, .inl (by first | rfl | ((try dsimp only); first | rfl | omega | (simp; done))), ⟨trivial, trivial, trivial, trivial, trivial, trivial, trivial, trivial, rfl, trivial, trivial⟩⟩, ⟨_, rfl, .inl rfl, trivial⟩, ⟨_, rfl, .inl rfl, trivial⟩, trivial⟩⟩ (fun r hP0 => ?_)
   refine HT.seq ?_
   refine HT.region S_block10_ok ?_
   refine So.q rfl rfl (V.bin (a := (.v (.int .i64 ((_ : Nat) : Int)))) (b := (.v (.int .i64 (8)))) (r := .v (.bool _)) rfl rfl rfl trivial ?_)
   refine So.e ?_
   show HT _ _ _ _ _
   refine HT.seq ?_
   refine R.cond rfl rfl (fun h16 => ?_) (fun h16 => ?_)
   ·have h16 := of_decide_eq_true h16
    refine HT.skip ?_
    show HT _ _ _ _ _
    refine HT.seq ?_
    refine HT.block ?_
    refine HT.seq ?_
    refine HT.region S_block10_ok ?_
    refine So.q rfl rfl (V.mv (v := .p (.v (.int .i64 ((_ : Nat) : Int)))) rfl ?_)
    refine So.q rfl rfl (V.ixV1 ty97 ty96 rfl rfl rfl rfl (by omega) (lk rfl) (Int.toNat_natCast _) (v := (.u32 _)) rfl ?_)
    refine So.q rfl rfl (V.as (v := .p (.v (.int .i64 ((_ : Nat) : Int)))) rfl ?_)
    refine So.q rfl rfl (V.as (v := .p (.u32 _)) rfl ?_)
    refine So.e ?_
    show HT _ _ _ _ _
    refine HT.tail S_block10_ok mixed 9 (by kernel_rfl) (by kernel_rfl) ?_
    refine So.q rfl rfl (V.mv (v := .ptr 1 0) rfl ?_)
    refine So.q rfl rfl (V.mv (v := .p (.v (.int .i64 ((_ : Nat) : Int)))) rfl ?_)
    refine So.q rfl rfl (V.ncPtr rfl ?_)
    refine So.q rfl rfl (V.ixArrP10 (mi := r) ty98 ty96 rfl rfl rfl (by first | rfl | omega | (simp; done) | (simp; omega)) rfl (by omega) (by omega) ?_)
    refine So.q rfl rfl (V.ldPtr ty96 rfl rfl rfl (by first | rfl | omega | (simp; done) | (simp; omega)) (v := .p (.u32 _)) (c8_get (g := fun j => .p (.u32 (if j < r then comp g ((bb.drop o).take n) j else g j))) (r := [.own 2 o n, .p (.u64 m)]) (by first | rfl | omega | (simp; done) | (simp; omega))) ?_)
    refine So.q rfl rfl (V.mv (v := .p (.u32 _)) rfl ?_)
    refine So.q rfl rfl (V.bin (a := (.u32 _)) (b := (.u32 _)) (r := .u32 _) rfl rfl rfl trivial ?_)
    refine So.q rfl rfl (V.ncPtr rfl ?_)
    refine So.q rfl rfl (V.ixArrP10 (mi := r) ty98 ty96 rfl rfl rfl (by first | rfl | omega | (simp; done) | (simp; omega)) rfl (by omega) (by omega) ?_)
    refine So.s (A.sto ty96 rfl rfl rfl (v := .p (.u32 _)) rfl trivial rfl (by first | rfl | omega | (simp; done) | (simp; omega)) (c8_put (g := fun j => .p (.u32 (if j < r then comp g ((bb.drop o).take n) j else g j))) (g' := fun j => .p (.u32 (if j < r + 1 then comp g ((bb.drop o).take n) j else g j))) (r := [.own 2 o n, .p (.u64 m)]) (by first | rfl | omega | (simp; done) | (simp; omega)) (by intro j hj; by_cases h9 : j = r <;> simp [h9, comp, hs] <;> (by_cases h8 : j < r <;> simp [h8] <;> omega))) rfl ?_)
    refine So.e ?_
    show HT _ _ _ _ _
    refine HT.region S_block10_ok ?_
    refine So.q rfl rfl (V.addI rfl rfl (by omega) ?_)
    refine So.q rfl rfl (V.mv (v := .p (.v (.int .i64 _))) rfl ?_)
    refine So.e ?_
    refine ⟨r + 1, by first | rfl | omega | (simp; done) | (simp; omega), by omega, ⟨⟨⟨le_int (by first | rfl | omega | (simp; done) | (simp; omega)), trivial⟩, ⟨.refl _, rfl⟩, ⟨.refl _, trivial⟩, trivial⟩, ⟨⟨_, rfl, .inl (by first | rfl | ((try dsimp only); first | rfl | omega | (simp; done) | (simp; omega))), ⟨trivial, trivial, trivial, trivial, trivial, trivial, trivial, trivial, rfl, trivial, trivial⟩⟩, ⟨_, rfl, .inl rfl, trivial⟩, ⟨_, rfl, .inl rfl, trivial⟩, trivial⟩⟩⟩
   ·have h16 := of_decide_eq_false h16
    refine HT.exit ?_
    exact ret_ok (sg [(1, 1), (2, 2)]) h rfl rfl rfl ⟨⟨trivial, trivial, trivial, trivial, trivial, trivial, trivial, trivial, rfl, trivial, trivial⟩, trivial, trivial⟩ trivial rfl ⟨trivial, ⟨⟨_, rfl, .inl (by first | rfl | ((try dsimp only); (first | rfl | (replace hP0 : r = 8 := (by omega); subst hP0; rfl)))), ⟨trivial, trivial, trivial, trivial, trivial, trivial, trivial, trivial, rfl, trivial, trivial⟩⟩, ⟨_, rfl, .inl (ob_bs (by first | rfl | ((try dsimp only); (first | rfl | (replace hP0 : r = 8 := (by omega); subst hP0; rfl)))) (by first | rfl | ((try dsimp only); (first | rfl | (replace hP0 : r = 8 := (by omega); subst hP0; rfl))))), trivial⟩, trivial⟩⟩
end Go.Vh

set_option linter.unusedVariables false
set_option linter.unusedSimpArgs false
namespace Go.Vh
open Go Go.Vc Go.Proofs Go.Vw
def writeSp : Sp := ⟨[1], mkE (α := (List UInt8) × (List UInt8) × (List UInt8)) (fun (tx, p, j) => [.ptr 1 (0), .p (.bs (p))]) (fun (tx, p, j) => [(1, ⟨101, 1, 10, true, .cells [.p (.u32 (hst (tx) 0)), .p (.u32 (hst (tx) 1)), .p (.u32 (hst (tx) 2)), .p (.u32 (hst (tx) 3)), .p (.u32 (hst (tx) 4)), .p (.u32 (hst (tx) 5)), .p (.u32 (hst (tx) 6)), .p (.u32 (hst (tx) 7)), .own 2 ((j).length) ((rst (tx)).length), .p (.u64 (UInt64.ofNat (tx).length))]⟩), (2, ⟨5, 1, (j ++ rst tx).length, true, .bs (j ++ rst tx)⟩)]) (fun (tx, p, j) => p.length ≤ 1099511627776 ∧ tx.length ≤ 1099511627776 ∧ j.length ≤ 1099511627776) (fun (tx, p, j) => []) (fun (tx, p, j) => [(1, ⟨101, 1, 10, true, .cells [.p (.u32 (hst (tx ++ p) 0)), .p (.u32 (hst (tx ++ p) 1)), .p (.u32 (hst (tx ++ p) 2)), .p (.u32 (hst (tx ++ p) 3)), .p (.u32 (hst (tx ++ p) 4)), .p (.u32 (hst (tx ++ p) 5)), .p (.u32 (hst (tx ++ p) 6)), .p (.u32 (hst (tx ++ p) 7)), .own 2 ((jn tx p).length) ((rst (tx ++ p)).length), .p (.u64 (UInt64.ofNat (tx ++ p).length))]⟩), (2, ⟨5, 1, (jn tx p ++ rst (tx ++ p)).length, true, .bs (jn tx p ++ rst (tx ++ p))⟩)])⟩
def S_write : FuncId → Option Sp := fun f => if f = 65 then some block10Sp else none
theorem S_write_ok : ∀ f s, S_write f = some s → FOK Tryd.prog gl f s := fun f s h => by
 unfold S_write at h
 split at h
 ·rename_i e; cases h; subst e; exact block10_ok
 cases h
theorem S_write_det : ∀ f s, S_write f = some s → SpDet s.sp := fun f s h => by
 unfold S_write at h
 split at h
 ·cases h; exact mkE_det _ _ _ _ _
 cases h
set_option maxHeartbeats 1000000 in
set_option maxRecDepth 20000 in
theorem write_ok : FOK Tryd.prog gl 56 writeSp := by
 refine FOK.ofE (tyOf_ok Tryd.prog) (slots := []) (nt := 56) Tryd.func56 rfl rfl rfl rfl (by decide) 2 (fun ⟨_, _, _⟩ => rfl) (by decide) (fun ⟨_, _, _⟩ => ⟨rfl, trivial, trivial⟩) ?_
 rintro ⟨tx, p, j⟩ kk hlen hpre h
 have hl1 : (p).length ≤ 9223372036854775807 := hlen.2.1
 replace hpre : p.length ≤ 1099511627776 ∧ tx.length ≤ 1099511627776 ∧ j.length ≤ 1099511627776 := hpre
 show HT (cx Tryd.prog 56 (tyOf Tryd.prog) gl [1]) _ [(0, .ptr 1 (0)), (1, .p (.bs (p)))] [(1, ⟨101, 1, 10, true, .cells [.p (.u32 (hst (tx) 0)), .p (.u32 (hst (tx) 1)), .p (.u32 (hst (tx) 2)), .p (.u32 (hst (tx) 3)), .p (.u32 (hst (tx) 4)), .p (.u32 (hst (tx) 5)), .p (.u32 (hst (tx) 6)), .p (.u32 (hst (tx) 7)), .own 2 ((j).length) ((rst (tx)).length), .p (.u64 (UInt64.ofNat (tx).length))]⟩), (2, ⟨5, 1, (j ++ rst tx).length, true, .bs (j ++ rst tx)⟩)] _
 have hrl := rst_len tx
 have hXl : (rst tx ++ p).length = (rst tx).length + p.length := List.length_append
 refine HT.seq ?_
 refine HT.region S_write_ok ?_
 refine So.q rfl rfl (V.mv (v := .ptr 1 0) rfl ?_)
 refine So.q rfl rfl (V.ncPtr rfl ?_)
 refine So.q rfl rfl (V.faPtr ty101 rfl ty95 (lk rfl) rfl rfl (lk rfl) ?_)
 refine So.q rfl rfl (V.ldPtr ty95 rfl rfl rfl (lk rfl) (v := .p (.u64 _)) rfl ?_)
 refine So.q rfl rfl (V.mv (v := .p (.bs _)) rfl ?_)
 refine So.q rfl rfl (V.len ty22 (v := .p (.bs _)) rfl rfl ?_)
 refine So.q rfl rfl (V.cvN ty95 ty3 (a := (.v (.int .i64 _))) (r := (.u64 _)) rfl rfl ?_)
 refine So.q rfl rfl (V.bin (a := (.u64 _)) (b := (.u64 _)) (r := .u64 _) rfl rfl rfl trivial ?_)
 refine So.q rfl rfl (V.ncPtr rfl ?_)
 refine So.q rfl rfl (V.faPtr ty101 rfl ty95 (lk rfl) rfl rfl (lk rfl) ?_)
 refine So.s (A.sto ty95 rfl rfl rfl (v := .p (.u64 _)) rfl trivial rfl (lk rfl) rfl rfl ?_)
 refine So.e ?_
 show HT _ _ _ _ _
 refine HT.seq ?_
 refine HT.planS S_write_ok S_write_det mixed [] [⟨[0, 1, 2, 3, 4, 5, 6, 7, 8, 9, 10, 11, 12, 13, 14, 15, 16], 17, [0]⟩, ⟨[0, 18, 19], 20, []⟩] (by kernel_rfl) ?_
 refine Pl.lk ?_
 refine Si.n rfl (lk rfl) (V.mv (v := .ptr 1 0) rfl ?_)
 refine Si.n rfl (lk rfl) (V.mv (v := .ptr 1 0) rfl ?_)
 refine Si.n rfl (lk rfl) (V.ncPtr rfl ?_)
 refine Si.n rfl (lk rfl) (V.faPtr ty101 rfl ty22 (lk rfl) rfl rfl (lk rfl) ?_)
 refine Si.n rfl (lk rfl) (V.ldPtr ty22 rfl rfl rfl (lk rfl) (v := .own 2 _ _) rfl ?_)
 refine Si.n rfl (lk rfl) (V.mv (v := .ptr 1 0) rfl ?_)
 refine Si.n rfl (lk rfl) (V.ncPtr rfl ?_)
 refine Si.n rfl (lk rfl) (V.faPtr ty101 rfl ty22 (lk rfl) rfl rfl (lk rfl) ?_)
 refine Si.n rfl (lk rfl) (V.ldPtr ty22 rfl rfl rfl (lk rfl) (v := .own 2 _ _) rfl ?_)
 refine Si.n rfl (lk rfl) (V.len ty22 (v := .own 2 _ _) rfl rfl ?_)
 refine Si.n rfl (lk rfl) (V.mv (v := .ptr 1 0) rfl ?_)
 refine Si.n rfl (lk rfl) (V.ncPtr rfl ?_)
 refine Si.n rfl (lk rfl) (V.faPtr ty101 rfl ty22 (lk rfl) rfl rfl (lk rfl) ?_)
 refine Si.n rfl (lk rfl) (V.ldPtr ty22 rfl rfl rfl (lk rfl) (v := .own 2 _ _) rfl ?_)
 refine Si.n rfl (lk rfl) (V.len ty22 (v := .own 2 _ _) rfl rfl ?_)
 refine Si.n rfl (lk rfl) (V.cutOwnH ty22 ty5 rfl rfl rfl rfl (by omega) (.inr ⟨_, _, rfl, rfl, rfl, by omega⟩) rfl ?_)
 refine Si.n rfl (lk rfl) (V.mv (v := .p (.bs _)) rfl ?_)
 refine Si.e ?_
 refine ⟨flEq_nil, fun ff => ?_⟩
 refine Lo.n rfl (lk rfl) (A.apOwn ty22 ty5 rfl rfl rfl rfl (u := .p (.bs _)) rfl rfl (l' := (rst tx ++ p)) (by simp) (mn := (rst tx ++ p).length) (by omega) (by omega) rfl rfl rfl ?_)
 refine ⟨_, fun ff => Fr.kill 2 (ff), ap1d, rfl, (FG.kill 2 (flP_cons rfl flP_nil)), ?_⟩
 show planA _ _ _ _ _ [(0, .ptr 1 0)] _ _ _
 refine Pl.l0 ?_
 refine Si.n rfl (lk rfl) (V.mv (v := .ptr 1 0) rfl ?_)
 refine Si.n rfl (lk rfl) (V.ncPtr rfl ?_)
 refine Si.n rfl (lk rfl) (V.faPtr ty101 rfl ty22 (lk rfl) rfl rfl (lk rfl) ?_)
 refine Si.e ?_
 refine ⟨(flEq_cons rfl flEq_nil), ?_⟩
 refine Lo.s rfl (A.sto ty22 rfl rfl rfl (v := .own 2 0 _) rfl trivial rfl (lk rfl) rfl rfl ?_)
 refine Pl.e ?_
 refine Si.e ?_
 refine ⟨flEq_nil, ?_⟩
 show HT _ _ _ _ _
 refine HT.block ?_
 refine R.loop (σ := Nat) (fun s => []) (fun s => [(1, ⟨101, 1, 10, true, .cells [.p (.u32 (stN (tx ++ p) (tx.length / 64 + s) 0)), .p (.u32 (stN (tx ++ p) (tx.length / 64 + s) 1)), .p (.u32 (stN (tx ++ p) (tx.length / 64 + s) 2)), .p (.u32 (stN (tx ++ p) (tx.length / 64 + s) 3)), .p (.u32 (stN (tx ++ p) (tx.length / 64 + s) 4)), .p (.u32 (stN (tx ++ p) (tx.length / 64 + s) 5)), .p (.u32 (stN (tx ++ p) (tx.length / 64 + s) 6)), .p (.u32 (stN (tx ++ p) (tx.length / 64 + s) 7)), .own 2 (64 * s) ((rst tx ++ p).length - 64 * s), .p (.u64 (UInt64.ofNat (tx ++ p).length))]⟩)]) [0] [2] (fun s => 64 * s ≤ (rst tx ++ p).length) (fun s => (rst tx ++ p).length - 64 * s) (0) (fr0 := [(0, .ptr 1 0)]) (O0 := [(2, ⟨_, _, _, _, .bs _⟩)]) rfl rfl (by omega) ⟨⟨⟨.refl _, rfl⟩, trivial⟩, ⟨⟨_, rfl, .inl (by first | rfl | ((try dsimp only); first | rfl | (simp only [← wr_0, u64_app]; rfl))), ⟨trivial, trivial, trivial, trivial, trivial, trivial, trivial, trivial, rfl, trivial, trivial⟩⟩, ⟨_, rfl, .inl rfl, trivial⟩, trivial⟩⟩ (fun s hP0 => ?_)
 refine HT.seq ?_
 refine HT.seq ?_
 refine HT.region S_write_ok ?_
 refine So.q rfl rfl (V.mv (v := .ptr 1 0) rfl ?_)
 refine So.q rfl rfl (V.ncPtr rfl ?_)
 refine So.q rfl rfl (V.faPtr ty101 rfl ty22 (lk rfl) rfl rfl (lk rfl) ?_)
 refine So.q rfl rfl (V.ldPtr ty22 rfl rfl rfl (lk rfl) (v := .own 2 _ _) rfl ?_)
 refine So.q rfl rfl (V.len ty22 (v := .own 2 _ _) rfl rfl ?_)
 refine So.q rfl rfl (V.bin (a := (.v (.int .i64 _))) (b := (.v (.int .i64 (64)))) (r := .v (.bool _)) rfl rfl rfl trivial ?_)
 refine So.e ?_
 show HT _ _ _ _ _
 refine R.cond rfl rfl (fun h1 => ?_) (fun h1 => ?_)
 ·have h1 := of_decide_eq_true h1
  refine HT.skip ?_
  show HT _ _ _ _ _
  refine HT.seq ?_
  refine HT.block ?_
  refine HT.tail S_write_ok mixed 7 (by kernel_rfl) (by kernel_rfl) ?_
  refine So.q rfl rfl (V.mv (v := .ptr 1 0) rfl ?_)
  refine So.q rfl rfl (V.ncPtr rfl ?_)
  refine So.q rfl rfl (V.faPtr ty101 rfl ty98 (lk rfl) rfl rfl (lk rfl) ?_)
  refine So.q rfl rfl (V.mv (v := .ptr 1 0) rfl ?_)
  refine So.q rfl rfl (V.ncPtr rfl ?_)
  refine So.q rfl rfl (V.faPtr ty101 rfl ty22 (lk rfl) rfl rfl (lk rfl) ?_)
  refine So.q rfl rfl (V.ldPtr ty22 rfl rfl rfl (lk rfl) (v := .own 2 _ _) rfl ?_)
  refine So.n (lk rfl) (A.call [.ptr 1 _, .own 2 _ _] [(1, ⟨_, _, _, _, .cells [.p (.u32 _), .p (.u32 _), .p (.u32 _), .p (.u32 _), .p (.u32 _), .p (.u32 _), .p (.u32 _), .p (.u32 _), .own 2 _ _, .p (.u64 _)]⟩), (2, ⟨_, _, _, _, .bs _⟩)] (sg [(1, 1), (2, 2)]) 3 rfl rfl rfl rfl ⟨rfl, rfl, trivial⟩ rfl ⟨⟨trivial, trivial, trivial, trivial, trivial, trivial, trivial, trivial, rfl, trivial, trivial⟩, trivial, trivial⟩ ⟨rfl, rfl, trivial⟩ ⟨lk rfl, trivial⟩ rfl (stN (tx ++ p) (tx.length / 64 + s), rst tx ++ p, 64 * s, (rst tx ++ p).length - 64 * s, _) ⟨.refl _, .refl _, trivial⟩ ⟨⟨_, rfl, .inl rfl, ⟨trivial, trivial, trivial, trivial, trivial, trivial, trivial, trivial, rfl, trivial, trivial⟩⟩, ⟨_, rfl, .inl rfl, trivial⟩, trivial⟩ (by first | omega | (simp; done) | (simp; omega)) (Φ := fun _ => True) (fun _ _ => trivial) ⟨⟨_, _, rfl, rfl, rfl, Nat.le_refl _⟩, ⟨_, _, rfl, rfl, rfl, Nat.le_refl _⟩, trivial⟩ (.inl rfl) rfl (v := .tup 0 _) rfl (O' := (1, ⟨_, _, _, _, .cells _⟩) :: (2, ⟨_, _, _, _, .bs _⟩) :: _) rfl (fun h2 => ?_))
  refine So.e ?_
  show HT _ _ _ _ _
  refine HT.region S_write_ok ?_
  refine So.q rfl rfl (V.mv (v := .ptr 1 0) rfl ?_)
  refine So.q rfl rfl (V.mv (v := .ptr 1 0) rfl ?_)
  refine So.q rfl rfl (V.ncPtr rfl ?_)
  refine So.q rfl rfl (V.faPtr ty101 rfl ty22 (lk rfl) rfl rfl (lk rfl) ?_)
  refine So.q rfl rfl (V.ldPtr ty22 rfl rfl rfl (lk rfl) (v := .own 2 _ _) rfl ?_)
  refine So.q rfl rfl (V.cutOwnL ty22 ty5 (s := 1) rfl rfl rfl rfl rfl (by omega) rfl ?_)
  refine So.q rfl rfl (V.ncPtr rfl ?_)
  refine So.q rfl rfl (V.faPtr ty101 rfl ty22 (lk rfl) rfl rfl (lk rfl) ?_)
  refine So.s (A.sto ty22 rfl rfl rfl (v := .own 2 _ _) rfl trivial rfl (lk rfl) rfl rfl ?_)
  refine So.e ?_
  refine ⟨s + 1, by first | rfl | omega | (simp; done) | (simp; omega), by omega, ⟨⟨⟨.refl _, rfl⟩, trivial⟩, ⟨⟨_, rfl, .inl (by simp only [wr_1 (show 64 ≤ (rst tx ++ p).length - 64 * s by omega)]; rw [show 64 * (s + 1) = 64 * s + 64 by omega, show (rst tx ++ p).length - (64 * s + 64) = (rst tx ++ p).length - 64 * s - 64 by omega]; rfl), ⟨trivial, trivial, trivial, trivial, trivial, trivial, trivial, trivial, rfl, trivial, trivial⟩⟩, ⟨_, rfl, .inl rfl, trivial⟩, trivial⟩⟩⟩
 ·have h1 := of_decide_eq_false h1
  refine HT.exit ?_
  exact ret_ok (sg [(1, 1), (2, 2)]) h rfl rfl rfl ⟨⟨trivial, trivial, trivial, trivial, trivial, trivial, trivial, trivial, rfl, trivial, trivial⟩, trivial, trivial⟩ trivial rfl ⟨trivial, ⟨⟨_, rfl, .inl (by first | (exact (jn_rst tx p).symm) | (rw [jn_rst]; done) | (simp only [wr_2 (l := tx) (p := p) hP0 (by omega), jn_len, rst_app, List.length_drop, show (rst tx ++ p).length / 64 = s by omega]; rfl)), ⟨trivial, trivial, trivial, trivial, trivial, trivial, trivial, trivial, rfl, trivial, trivial⟩⟩, ⟨_, rfl, .inl (ob_bs (by first | (exact (jn_rst tx p).symm) | (rw [jn_rst]; done) | (simp only [wr_2 (l := tx) (p := p) hP0 (by omega), jn_len, rst_app, List.length_drop, show (rst tx ++ p).length / 64 = s by omega]; rfl)) (by first | (exact (jn_rst tx p).symm) | (rw [jn_rst]; done) | (simp only [wr_2 (l := tx) (p := p) hP0 (by omega), jn_len, rst_app, List.length_drop, show (rst tx ++ p).length / 64 = s by omega]; rfl))), trivial⟩, trivial⟩⟩
end Go.Vh

set_option linter.unusedVariables false
set_option linter.unusedSimpArgs false
namespace Go.Vh
open Go Go.Vc Go.Proofs Go.Vw
def newSp : Sp := ⟨[], mkE (α := Unit) (fun _ => []) (fun _ => []) (fun _ => True) (fun _ => [.ptr 1 (0)]) (fun _ => [(1, ⟨101, 1, 10, true, .cells [.p (.u32 (hst (nl) 0)), .p (.u32 (hst (nl) 1)), .p (.u32 (hst (nl) 2)), .p (.u32 (hst (nl) 3)), .p (.u32 (hst (nl) 4)), .p (.u32 (hst (nl) 5)), .p (.u32 (hst (nl) 6)), .p (.u32 (hst (nl) 7)), .own 2 ((nl).length) ((rst (nl)).length), .p (.u64 (UInt64.ofNat (nl).length))]⟩), (2, ⟨5, 1, (nl ++ rst nl).length, true, .bs (nl ++ rst nl)⟩)])⟩
def S_new : FuncId → Option Sp := fun f => if f = 64 then some beginSp else none
theorem S_new_ok : ∀ f s, S_new f = some s → FOK Tryd.prog gl f s := fun f s h => by
 unfold S_new at h
 split at h
 ·rename_i e; cases h; subst e; exact begin_ok
 cases h
set_option maxHeartbeats 1000000 in
set_option maxRecDepth 20000 in
theorem new_ok : FOK Tryd.prog gl 55 newSp := by
 refine FOK.ofE (tyOf_ok Tryd.prog) (slots := [0]) (nt := 4) Tryd.func55 rfl rfl rfl rfl (by decide) 0 (fun _ => rfl) (by decide) (fun _ => trivial) ?_
 rintro _ kk hlen hpre h
 replace hpre : True := hpre
 show HT (cx Tryd.prog 4 (tyOf Tryd.prog) gl []) _ [] [] _
 refine HT.seq ?_
 refine HT.region S_new_ok ?_
 refine So.q rfl rfl (V.as (v := _) rfl ?_)
 refine So.e ?_
 show HT _ _ _ _ _
 refine HT.seq ?_
 refine HT.region S_new_ok ?_
 refine So.n (lk rfl) (A.call0 [] 1 rfl rfl rfl rfl trivial trivial () trivial trivial (by trivial) (Φ := fun _ => True) (fun _ _ => trivial) (.inl rfl) (v := .agg 8 _) rfl (O' := _) rfl (fun h1 => ?_))
 refine So.n (lk rfl) (A.bldS ty101 rfl rfl ⟨by first | exact trivial | exact rfl | (intro j hj; first | trivial | rfl | (simp [BV.one]; done)), trivial⟩ rfl (f := fun j => if j < 8 then .u32 (h0 j) else if j = 8 then .v (.slice none 0 0) else .u64 0) (by exact allP_spec (P := fun j => _ = _) ⟨⟨⟨⟨⟨⟨⟨⟨⟨⟨trivial, rfl⟩, rfl⟩, rfl⟩, rfl⟩, rfl⟩, rfl⟩, rfl⟩, rfl⟩, rfl⟩, rfl⟩) ?_)
 refine So.n (lk rfl) (A.boxAg 1 1 (n := 10) rfl (by intro j hj; first | rfl | trivial | (match j, hj with | 0, _ => (first | trivial | rfl) | 1, _ => (first | trivial | rfl) | 2, _ => (first | trivial | rfl) | 3, _ => (first | trivial | rfl) | 4, _ => (first | trivial | rfl) | 5, _ => (first | trivial | rfl) | 6, _ => (first | trivial | rfl) | 7, _ => (first | trivial | rfl) | 8, _ => (first | trivial | rfl) | 9, _ => (first | trivial | rfl)) | (split <;> first | rfl | trivial | (split <;> first | rfl | trivial))) rfl trivial ?_)
 refine So.q rfl rfl (V.as (v := .ptr 1 0) rfl ?_)
 refine So.e ?_
 show HT _ _ _ _ _
 refine HT.phanC 1 2 5 1 (.bs []) (c' := .cells [.p (.u32 (h0 0)), .p (.u32 (h0 1)), .p (.u32 (h0 2)), .p (.u32 (h0 3)), .p (.u32 (h0 4)), .p (.u32 (h0 5)), .p (.u32 (h0 6)), .p (.u32 (h0 7)), .own 2 0 0, .p (.u64 0)]) rfl rfl rfl ⟨rfl, rfl⟩ rfl (allP_spec (P := fun j => _ ∨ _) ⟨⟨⟨⟨⟨⟨⟨⟨⟨⟨trivial, .inl rfl⟩, .inl rfl⟩, .inl rfl⟩, .inl rfl⟩, .inl rfl⟩, .inl rfl⟩, .inl rfl⟩, .inl rfl⟩, .inr ⟨rfl, rfl⟩⟩, .inl rfl⟩) rfl ?_
 refine HT.ret ?_
 exact ret_ok (sg [(1, 1), (2, 2)]) h rfl rfl rfl ⟨⟨trivial, trivial, trivial, trivial, trivial, trivial, trivial, trivial, rfl, trivial, trivial⟩, trivial, trivial⟩ ⟨rfl, trivial⟩ rfl ⟨⟨⟨.refl _, rfl⟩, trivial⟩, ⟨⟨_, rfl, .inl (by first | rfl | ((try dsimp only); (first | rfl))), ⟨trivial, trivial, trivial, trivial, trivial, trivial, trivial, trivial, rfl, trivial, trivial⟩⟩, ⟨_, rfl, .inl (ob_bs (by first | rfl | ((try dsimp only); (first | rfl))) (by first | rfl | ((try dsimp only); (first | rfl)))), trivial⟩, trivial⟩⟩
end Go.Vh

set_option linter.unusedVariables false
set_option linter.unusedSimpArgs false
namespace Go.Vh
open Go Go.Vc Go.Proofs Go.Vw
def blockSp : Sp := ⟨[1], mkE (α := (Nat → UInt32) × (List UInt8)) (fun (g, b) => [.ptr 1 (0), .p (.bs (b))]) (fun (g, b) => [(1, ⟨98, 1, 8, true, .rows (fun j => .u32 (g j))⟩)]) (fun (g, b) => 64 ≤ b.length) (fun (g, b) => []) (fun (g, b) => [(1, ⟨98, 1, 8, true, .rows (fun j => .u32 (comp g b j))⟩)])⟩
def S_block : FuncId → Option Sp := fun f => if f = 66 then some wordsSp else if f = 67 then some rightSp else none
theorem S_block_ok : ∀ f s, S_block f = some s → FOK Tryd.prog gl f s := fun f s h => by
 unfold S_block at h
 split at h
 ·rename_i e; cases h; subst e; exact words_ok
 split at h
 ·rename_i e; cases h; subst e; exact right_ok
 cases h
theorem S_block_det : ∀ f s, S_block f = some s → SpDet s.sp := fun f s h => by
 unfold S_block at h
 split at h
 ·cases h; exact mkE_det _ _ _ _ _
 split at h
 ·cases h; exact mkE_det _ _ _ _ _
 cases h
set_option maxHeartbeats 1000000 in
set_option maxRecDepth 20000 in
theorem block_ok : FOK Tryd.prog gl 65 blockSp := by
 refine FOK.ofE (tyOf_ok Tryd.prog) (slots := []) (nt := 135) Tryd.func65 rfl rfl rfl rfl (by decide) 2 (fun ⟨_, _⟩ => rfl) (by decide) (fun ⟨_, _⟩ => ⟨rfl, trivial, trivial⟩) ?_
 rintro ⟨g, b⟩ kk hlen hpre h
 have hl1 : (b).length ≤ 9223372036854775807 := hlen.2.1
 replace hpre : 64 ≤ b.length := hpre
 show HT (cx Tryd.prog 135 (tyOf Tryd.prog) gl [1]) _ [(0, .ptr 1 (0)), (1, .p (.bs (b)))] [(1, ⟨98, 1, 8, true, .rows (fun j => .u32 (g j))⟩)] _
 refine R.jump (σ := Nat) 0 (fun s => [(4, .ptr 2 (0)), (5, .p (.u32 (rounds g (wd b) s 0))), (6, .p (.u32 (rounds g (wd b) s 1))), (7, .p (.u32 (rounds g (wd b) s 2))), (8, .p (.u32 (rounds g (wd b) s 3))), (9, .p (.u32 (rounds g (wd b) s 4))), (10, .p (.u32 (rounds g (wd b) s 5))), (11, .p (.u32 (rounds g (wd b) s 6))), (12, .p (.u32 (rounds g (wd b) s 7))), (13, .p (.v (.int .i64 ((s : Int)))))]) (fun s => [(2, ⟨104, 1, 64, true, .rows (fun j => .u32 (wd b j))⟩)]) [0, 1] [1] (fun s => s < 64) (fun s => 64 - s) rfl (fr0 := [(0, .ptr 1 0), (1, .p (.bs _))]) (O0 := [(1, ⟨_, _, _, _, .rows _⟩)]) rfl rfl ?_ (fun s hPj => ?_)
 ·refine HT.seq ?_
  refine HT.region S_block_ok ?_
  refine So.q rfl rfl (V.mv (v := .p (.bs _)) rfl ?_)
  refine So.n (lk rfl) (A.call0 [.p (.bs _)] 2 rfl rfl rfl rfl ⟨trivial, trivial⟩ ⟨lk rfl, trivial⟩ _ ⟨.refl _, trivial⟩ trivial (by first | omega | (simp; done) | (simp; omega)) (Φ := fun _ => True) (fun _ _ => trivial) (.inl rfl) (v := .agg 64 _) rfl (O' := _) rfl (fun h1 => ?_))
  refine So.n (lk rfl) (A.alloc 2 1 ty104 rfl ⟨lk rfl, trivial⟩ (f := fun _ => .u32 0) (fun _ _ => rfl) ?_)
  refine So.s (A.stoAg ty104 rfl (n := 64) rfl (by decide) (by intro j hj; first | rfl | trivial) rfl rfl rfl ?_)
  refine So.e ?_
  show HT _ _ _ _ _
  refine HT.seq ?_
  refine HT.drawn S_block_ok S_block_det mixed (by kernel_rfl) ?_
  refine Sd.n (lk rfl) (V.mv (v := .ptr 1 0) rfl ?_)
  refine Sd.n (lk rfl) (V.ncPtr rfl ?_)
  refine Sd.n (lk rfl) (V.ixArrP10 ty98 ty96 rfl rfl rfl (by first | rfl | omega | (simp; done) | (simp; omega)) rfl (by omega) rfl ?_)
  refine Sd.n (lk rfl) (V.ldPtr ty96 rfl rfl rfl (by first | rfl | omega | (simp; done) | (simp; omega)) (v := .p (.u32 _)) rfl ?_)
  refine Sd.n (lk rfl) (V.mv (v := .ptr 1 0) rfl ?_)
  refine Sd.n (lk rfl) (V.ncPtr rfl ?_)
  refine Sd.n (lk rfl) (V.ixArrP10 ty98 ty96 rfl rfl rfl (by first | rfl | omega | (simp; done) | (simp; omega)) rfl (by omega) rfl ?_)
  refine Sd.n (lk rfl) (V.ldPtr ty96 rfl rfl rfl (by first | rfl | omega | (simp; done) | (simp; omega)) (v := .p (.u32 _)) rfl ?_)
  refine Sd.n (lk rfl) (V.mv (v := .ptr 1 0) rfl ?_)
  refine Sd.n (lk rfl) (V.ncPtr rfl ?_)
  refine Sd.n (lk rfl) (V.ixArrP10 ty98 ty96 rfl rfl rfl (by first | rfl | omega | (simp; done) | (simp; omega)) rfl (by omega) rfl ?_)
  refine Sd.n (lk rfl) (V.ldPtr ty96 rfl rfl rfl (by first | rfl | omega | (simp; done) | (simp; omega)) (v := .p (.u32 _)) rfl ?_)
  refine Sd.n (lk rfl) (V.mv (v := .ptr 1 0) rfl ?_)
  refine Sd.n (lk rfl) (V.ncPtr rfl ?_)
  refine Sd.n (lk rfl) (V.ixArrP10 ty98 ty96 rfl rfl rfl (by first | rfl | omega | (simp; done) | (simp; omega)) rfl (by omega) rfl ?_)
  refine Sd.n (lk rfl) (V.ldPtr ty96 rfl rfl rfl (by first | rfl | omega | (simp; done) | (simp; omega)) (v := .p (.u32 _)) rfl ?_)
  refine Sd.n (lk rfl) (V.mv (v := .ptr 1 0) rfl ?_)
  refine Sd.n (lk rfl) (V.ncPtr rfl ?_)
  refine Sd.n (lk rfl) (V.ixArrP10 ty98 ty96 rfl rfl rfl (by first | rfl | omega | (simp; done) | (simp; omega)) rfl (by omega) rfl ?_)
  refine Sd.n (lk rfl) (V.ldPtr ty96 rfl rfl rfl (by first | rfl | omega | (simp; done) | (simp; omega)) (v := .p (.u32 _)) rfl ?_)
  refine Sd.n (lk rfl) (V.mv (v := .ptr 1 0) rfl ?_)
  refine Sd.n (lk rfl) (V.ncPtr rfl ?_)
  refine Sd.n (lk rfl) (V.ixArrP10 ty98 ty96 rfl rfl rfl (by first | rfl | omega | (simp; done) | (simp; omega)) rfl (by omega) rfl ?_)
  refine Sd.n (lk rfl) (V.ldPtr ty96 rfl rfl rfl (by first | rfl | omega | (simp; done) | (simp; omega)) (v := .p (.u32 _)) rfl ?_)
  refine Sd.n (lk rfl) (V.mv (v := .ptr 1 0) rfl ?_)
  refine Sd.n (lk rfl) (V.ncPtr rfl ?_)
  refine Sd.n (lk rfl) (V.ixArrP10 ty98 ty96 rfl rfl rfl (by first | rfl | omega | (simp; done) | (simp; omega)) rfl (by omega) rfl ?_)
  refine Sd.n (lk rfl) (V.ldPtr ty96 rfl rfl rfl (by first | rfl | omega | (simp; done) | (simp; omega)) (v := .p (.u32 _)) rfl ?_)
  refine Sd.n (lk rfl) (V.mv (v := .ptr 1 0) rfl ?_)
  refine Sd.n (lk rfl) (V.ncPtr rfl ?_)
  refine Sd.n (lk rfl) (V.ixArrP10 ty98 ty96 rfl rfl rfl (by first | rfl | omega | (simp; done) | (simp; omega)) rfl (by omega) rfl ?_)
  refine Sd.n (lk rfl) (V.ldPtr ty96 rfl rfl rfl (by first | rfl | omega | (simp; done) | (simp; omega)) (v := .p (.u32 _)) rfl ?_)
  refine Sd.n (lk rfl) (V.as (v := .p (.u32 _)) rfl ?_)
  refine Sd.n (lk rfl) (V.as (v := .p (.u32 _)) rfl ?_)
  refine Sd.n (lk rfl) (V.as (v := .p (.u32 _)) rfl ?_)
  refine Sd.n (lk rfl) (V.as (v := .p (.u32 _)) rfl ?_)
  refine Sd.n (lk rfl) (V.as (v := .p (.u32 _)) rfl ?_)
  refine Sd.n (lk rfl) (V.as (v := .p (.u32 _)) rfl ?_)
  refine Sd.n (lk rfl) (V.as (v := .p (.u32 _)) rfl ?_)
  refine Sd.n (lk rfl) (V.as (v := .p (.u32 _)) rfl ?_)
  refine Sd.e ?_
  show HT _ _ _ _ _
  refine HT.seq ?_
  refine HT.region S_block_ok ?_
  refine So.q rfl rfl (V.as (v := .p (.v (.int .i64 (0)))) rfl ?_)
  refine So.e ?_
  show HT _ _ _ _ _
  refine HT.seq ?_
  refine HT.label ?_
  show HT _ _ _ _ _
  refine HT.seq ?_
  refine HT.drawn S_block_ok S_block_det mixed (by kernel_rfl) ?_
  refine Sd.n (lk rfl) (V.mv (v := .p (.u32 _)) rfl ?_)
  refine Sd.n (lk rfl) (V.mv (v := .p (.u32 _)) rfl ?_)
  refine Sd.n (lk rfl) (V.call [.p (.u32 _), .p (.v (.int .i64 _))] 3 rfl rfl rfl rfl ⟨trivial, trivial, trivial⟩ ⟨lk rfl, trivial⟩ (_, _) ⟨.refl _, .refl _, trivial⟩ trivial (by first | omega | decide) (Φ := fun _ => True) (fun _ _ => trivial) (.inl ⟨trivial, trivial, trivial⟩) (v := .p (.u32 _)) rfl (fun h2 => ?_))
  refine Sd.n (lk rfl) (V.mv (v := .p (.u32 _)) rfl ?_)
  refine Sd.n (lk rfl) (V.call [.p (.u32 _), .p (.v (.int .i64 _))] 3 rfl rfl rfl rfl ⟨trivial, trivial, trivial⟩ ⟨lk rfl, trivial⟩ (_, _) ⟨.refl _, .refl _, trivial⟩ trivial (by first | omega | decide) (Φ := fun _ => True) (fun _ _ => trivial) (.inl ⟨trivial, trivial, trivial⟩) (v := .p (.u32 _)) rfl (fun h3 => ?_))
  refine Sd.n (lk rfl) (V.bin (a := (.u32 _)) (b := (.u32 _)) (r := .u32 _) rfl rfl rfl trivial ?_)
  refine Sd.n (lk rfl) (V.mv (v := .p (.u32 _)) rfl ?_)
  refine Sd.n (lk rfl) (V.call [.p (.u32 _), .p (.v (.int .i64 _))] 3 rfl rfl rfl rfl ⟨trivial, trivial, trivial⟩ ⟨lk rfl, trivial⟩ (_, _) ⟨.refl _, .refl _, trivial⟩ trivial (by first | omega | decide) (Φ := fun _ => True) (fun _ _ => trivial) (.inl ⟨trivial, trivial, trivial⟩) (v := .p (.u32 _)) rfl (fun h4 => ?_))
  refine Sd.n (lk rfl) (V.bin (a := (.u32 _)) (b := (.u32 _)) (r := .u32 _) rfl rfl rfl trivial ?_)
  refine Sd.n (lk rfl) (V.bin (a := (.u32 _)) (b := (.u32 _)) (r := .u32 _) rfl rfl rfl trivial ?_)
  refine Sd.n (lk rfl) (V.mv (v := .p (.u32 _)) rfl ?_)
  refine Sd.n (lk rfl) (V.mv (v := .p (.u32 _)) rfl ?_)
  refine Sd.n (lk rfl) (V.mv (v := .p (.u32 _)) rfl ?_)
  refine Sd.n (lk rfl) (V.mv (v := .p (.u32 _)) rfl ?_)
  refine Sd.n (lk rfl) (V.bin (a := (.u32 _)) (b := (.u32 _)) (r := .u32 _) rfl rfl rfl trivial ?_)
  refine Sd.n (lk rfl) (V.bin (a := (.u32 _)) (b := (.u32 _)) (r := .u32 _) rfl rfl rfl trivial ?_)
  refine Sd.n (lk rfl) (V.bin (a := (.u32 _)) (b := (.u32 _)) (r := .u32 _) rfl rfl rfl trivial ?_)
  refine Sd.n (lk rfl) (V.bin (a := (.u32 _)) (b := (.u32 _)) (r := .u32 _) rfl rfl rfl trivial ?_)
  refine Sd.n (lk rfl) (V.mv (v := .p (.v (.int .i64 _))) rfl ?_)
  refine Sd.n (lk rfl) (V.ixArr1 ty104 ty96 rfl rfl (lk rfl) rfl (by omega) rfl ?_)
  refine Sd.n (lk rfl) (V.ldRp ty96 rfl rfl (lk rfl) (v := (.u32 _)) rfl ?_)
  refine Sd.n (lk rfl) (V.bin (a := (.u32 _)) (b := (.u32 _)) (r := .u32 _) rfl rfl rfl trivial ?_)
  refine Sd.n (lk rfl) (V.mv (v := .p (.v (.int .i64 _))) rfl ?_)
  refine Sd.n (lk rfl) (V.ixArrP10 ty104 ty96 rfl rfl rfl (by first | rfl | omega | (simp; done) | (simp; omega)) rfl (by omega) rfl ?_)
  refine Sd.n (lk rfl) (V.ldPtr ty96 rfl rfl rfl (by first | rfl | omega | (simp; done) | (simp; omega)) (v := .p (.u32 _)) rfl ?_)
  refine Sd.n (lk rfl) (V.bin (a := (.u32 _)) (b := (.u32 _)) (r := .u32 _) rfl rfl rfl trivial ?_)
  refine Sd.n (lk rfl) (V.as (v := .p (.u32 _)) rfl ?_)
  refine Sd.e ?_
  show HT _ _ _ _ _
  refine HT.seq ?_
  refine HT.region S_block_ok ?_
  refine So.q rfl rfl (V.mv (v := .p (.u32 _)) rfl ?_)
  refine So.n (lk rfl) (A.call0 [.p (.u32 _), .p (.v (.int .i64 _))] 3 rfl rfl rfl rfl ⟨trivial, trivial, trivial⟩ ⟨lk rfl, trivial⟩ (_, _) ⟨.refl _, .refl _, trivial⟩ trivial (by first | omega | decide) (Φ := fun _ => True) (fun _ _ => trivial) (.inl rfl) (v := .p (.u32 _)) rfl (O' := _) rfl (fun h5 => ?_))
  refine So.q rfl rfl (V.mv (v := .p (.u32 _)) rfl ?_)
  refine So.n (lk rfl) (A.call0 [.p (.u32 _), .p (.v (.int .i64 _))] 3 rfl rfl rfl rfl ⟨trivial, trivial, trivial⟩ ⟨lk rfl, trivial⟩ (_, _) ⟨.refl _, .refl _, trivial⟩ trivial (by first | omega | decide) (Φ := fun _ => True) (fun _ _ => trivial) (.inl rfl) (v := .p (.u32 _)) rfl (O' := _) rfl (fun h6 => ?_))
  refine So.q rfl rfl (V.bin (a := (.u32 _)) (b := (.u32 _)) (r := .u32 _) rfl rfl rfl trivial ?_)
  refine So.q rfl rfl (V.mv (v := .p (.u32 _)) rfl ?_)
  refine So.n (lk rfl) (A.call0 [.p (.u32 _), .p (.v (.int .i64 _))] 3 rfl rfl rfl rfl ⟨trivial, trivial, trivial⟩ ⟨lk rfl, trivial⟩ (_, _) ⟨.refl _, .refl _, trivial⟩ trivial (by first | omega | decide) (Φ := fun _ => True) (fun _ _ => trivial) (.inl rfl) (v := .p (.u32 _)) rfl (O' := _) rfl (fun h7 => ?_))
  refine So.q rfl rfl (V.bin (a := (.u32 _)) (b := (.u32 _)) (r := .u32 _) rfl rfl rfl trivial ?_)
  refine So.q rfl rfl (V.mv (v := .p (.u32 _)) rfl ?_)
  refine So.q rfl rfl (V.mv (v := .p (.u32 _)) rfl ?_)
  refine So.q rfl rfl (V.bin (a := (.u32 _)) (b := (.u32 _)) (r := .u32 _) rfl rfl rfl trivial ?_)
  refine So.q rfl rfl (V.mv (v := .p (.u32 _)) rfl ?_)
  refine So.q rfl rfl (V.mv (v := .p (.u32 _)) rfl ?_)
  refine So.q rfl rfl (V.mv (v := .p (.u32 _)) rfl ?_)
  refine So.q rfl rfl (V.bin (a := (.u32 _)) (b := (.u32 _)) (r := .u32 _) rfl rfl rfl trivial ?_)
  refine So.q rfl rfl (V.bin (a := (.u32 _)) (b := (.u32 _)) (r := .u32 _) rfl rfl rfl trivial ?_)
  refine So.q rfl rfl (V.bin (a := (.u32 _)) (b := (.u32 _)) (r := .u32 _) rfl rfl rfl trivial ?_)
  refine So.q rfl rfl (V.bin (a := (.u32 _)) (b := (.u32 _)) (r := .u32 _) rfl rfl rfl trivial ?_)
  refine So.q rfl rfl (V.as (v := .p (.u32 _)) rfl ?_)
  refine So.e ?_
  show HT _ _ _ _ _
  refine HT.seq ?_
  refine HT.region S_block_ok ?_
  refine So.q rfl rfl (V.mv (v := .p (.u32 _)) rfl ?_)
  refine So.q rfl rfl (V.mv (v := .p (.u32 _)) rfl ?_)
  refine So.q rfl rfl (V.bin (a := (.u32 _)) (b := (.u32 _)) (r := .u32 _) rfl rfl rfl trivial ?_)
  refine So.q rfl rfl (V.mv (v := .p (.u32 _)) rfl ?_)
  refine So.q rfl rfl (V.mv (v := .p (.u32 _)) rfl ?_)
  refine So.q rfl rfl (V.mv (v := .p (.u32 _)) rfl ?_)
  refine So.q rfl rfl (V.mv (v := .p (.u32 _)) rfl ?_)
  refine So.q rfl rfl (V.mv (v := .p (.u32 _)) rfl ?_)
  refine So.q rfl rfl (V.bin (a := (.u32 _)) (b := (.u32 _)) (r := .u32 _) rfl rfl rfl trivial ?_)
  refine So.q rfl rfl (V.mv (v := .p (.u32 _)) rfl ?_)
  refine So.q rfl rfl (V.mv (v := .p (.u32 _)) rfl ?_)
  refine So.q rfl rfl (V.mv (v := .p (.u32 _)) rfl ?_)
  refine So.q rfl rfl (V.as (v := .p (.u32 _)) rfl ?_)
  refine So.q rfl rfl (V.as (v := .p (.u32 _)) rfl ?_)
  refine So.q rfl rfl (V.as (v := .p (.u32 _)) rfl ?_)
  refine So.q rfl rfl (V.as (v := .p (.u32 _)) rfl ?_)
  refine So.q rfl rfl (V.as (v := .p (.u32 _)) rfl ?_)
  refine So.q rfl rfl (V.as (v := .p (.u32 _)) rfl ?_)
  refine So.q rfl rfl (V.as (v := .p (.u32 _)) rfl ?_)
  refine So.q rfl rfl (V.as (v := .p (.u32 _)) rfl ?_)
  refine So.e ?_
  show HT _ _ _ _ _
  refine HT.seq ?_
  refine HT.seq ?_
  refine HT.region S_block_ok ?_
  refine So.q rfl rfl (V.mv (v := .p (.v (.int .i64 _))) rfl ?_)
  refine So.q rfl rfl (V.addI rfl rfl (by omega) ?_)
  refine So.q rfl rfl (V.as (v := .p (.v (.int .i64 _))) rfl ?_)
  refine So.e ?_
  show HT _ _ _ _ _
  refine HT.seq ?_
  refine HT.region S_block_ok ?_
  refine So.q rfl rfl (V.mv (v := .p (.v (.int .i64 _))) rfl ?_)
  refine So.q rfl rfl (V.bin (a := (.v (.int .i64 _))) (b := (.v (.int .i64 (64)))) (r := .v (.bool _)) rfl rfl rfl trivial ?_)
  refine So.e ?_
  show HT _ _ _ _ _
  refine R.cond rfl rfl (fun h8 => ?_) (fun h8 => ?_)
  ·have h8 := of_decide_eq_true h8
   refine HT.goto ?_
   exact ⟨rfl, 1, by first | rfl | omega | (intro j hj; rfl), ⟨⟨⟨.refl _, rfl⟩, ⟨le_u32 (by first | rfl | omega | (intro j hj; rfl)), trivial⟩, ⟨le_u32 (by first | rfl | omega | (intro j hj; rfl)), trivial⟩, ⟨le_u32 (by first | rfl | omega | (intro j hj; rfl)), trivial⟩, ⟨le_u32 (by first | rfl | omega | (intro j hj; rfl)), trivial⟩, ⟨le_u32 (by first | rfl | omega | (intro j hj; rfl)), trivial⟩, ⟨le_u32 (by first | rfl | omega | (intro j hj; rfl)), trivial⟩, ⟨le_u32 (by first | rfl | omega | (intro j hj; rfl)), trivial⟩, ⟨le_u32 (by first | rfl | omega | (intro j hj; rfl)), trivial⟩, ⟨le_int (by first | rfl | omega | (intro j hj; rfl)), trivial⟩, ⟨.refl _, rfl⟩, ⟨.refl _, trivial⟩, trivial⟩, ⟨⟨_, rfl, .inr (ob_rows (by first | rfl | ((try dsimp only); first | rfl | omega | (intro j hj; rfl))) (by first | rfl | ((try dsimp only); first | rfl | omega | (intro j hj; rfl)))), trivial⟩, ⟨_, rfl, .inl rfl, trivial⟩, trivial⟩⟩⟩
  ·have h8 := of_decide_eq_false h8
   first | exact absurd (by omega) h8 | exact absurd h8 (by omega)
 ·show HT _ _ _ _ _
  refine HT.seq ?_
  refine HT.skip ?_
  show HT _ _ _ _ _
  refine HT.seq ?_
  refine HT.drawn S_block_ok S_block_det mixed (by kernel_rfl) ?_
  refine Sd.n (lk rfl) (V.mv (v := .p (.u32 _)) rfl ?_)
  refine Sd.n (lk rfl) (V.mv (v := .p (.u32 _)) rfl ?_)
  refine Sd.n (lk rfl) (V.call [.p (.u32 _), .p (.v (.int .i64 _))] 3 rfl rfl rfl rfl ⟨trivial, trivial, trivial⟩ ⟨lk rfl, trivial⟩ (_, _) ⟨.refl _, .refl _, trivial⟩ trivial (by first | omega | decide) (Φ := fun _ => True) (fun _ _ => trivial) (.inl ⟨trivial, trivial, trivial⟩) (v := .p (.u32 _)) rfl (fun h9 => ?_))
  refine Sd.n (lk rfl) (V.mv (v := .p (.u32 _)) rfl ?_)
  refine Sd.n (lk rfl) (V.call [.p (.u32 _), .p (.v (.int .i64 _))] 3 rfl rfl rfl rfl ⟨trivial, trivial, trivial⟩ ⟨lk rfl, trivial⟩ (_, _) ⟨.refl _, .refl _, trivial⟩ trivial (by first | omega | decide) (Φ := fun _ => True) (fun _ _ => trivial) (.inl ⟨trivial, trivial, trivial⟩) (v := .p (.u32 _)) rfl (fun h10 => ?_))
  refine Sd.n (lk rfl) (V.bin (a := (.u32 _)) (b := (.u32 _)) (r := .u32 _) rfl rfl rfl trivial ?_)
  refine Sd.n (lk rfl) (V.mv (v := .p (.u32 _)) rfl ?_)
  refine Sd.n (lk rfl) (V.call [.p (.u32 _), .p (.v (.int .i64 _))] 3 rfl rfl rfl rfl ⟨trivial, trivial, trivial⟩ ⟨lk rfl, trivial⟩ (_, _) ⟨.refl _, .refl _, trivial⟩ trivial (by first | omega | decide) (Φ := fun _ => True) (fun _ _ => trivial) (.inl ⟨trivial, trivial, trivial⟩) (v := .p (.u32 _)) rfl (fun h11 => ?_))
  refine Sd.n (lk rfl) (V.bin (a := (.u32 _)) (b := (.u32 _)) (r := .u32 _) rfl rfl rfl trivial ?_)
  refine Sd.n (lk rfl) (V.bin (a := (.u32 _)) (b := (.u32 _)) (r := .u32 _) rfl rfl rfl trivial ?_)
  refine Sd.n (lk rfl) (V.mv (v := .p (.u32 _)) rfl ?_)
  refine Sd.n (lk rfl) (V.mv (v := .p (.u32 _)) rfl ?_)
  refine Sd.n (lk rfl) (V.mv (v := .p (.u32 _)) rfl ?_)
  refine Sd.n (lk rfl) (V.mv (v := .p (.u32 _)) rfl ?_)
  refine Sd.n (lk rfl) (V.bin (a := (.u32 _)) (b := (.u32 _)) (r := .u32 _) rfl rfl rfl trivial ?_)
  refine Sd.n (lk rfl) (V.bin (a := (.u32 _)) (b := (.u32 _)) (r := .u32 _) rfl rfl rfl trivial ?_)
  refine Sd.n (lk rfl) (V.bin (a := (.u32 _)) (b := (.u32 _)) (r := .u32 _) rfl rfl rfl trivial ?_)
  refine Sd.n (lk rfl) (V.bin (a := (.u32 _)) (b := (.u32 _)) (r := .u32 _) rfl rfl rfl trivial ?_)
  refine Sd.n (lk rfl) (V.mv (v := .p (.v (.int .i64 ((_ : Nat) : Int)))) rfl ?_)
  refine Sd.n (lk rfl) (V.ixArr1 ty104 ty96 rfl rfl (lk rfl) rfl (by omega) (Int.toNat_natCast _) ?_)
  refine Sd.n (lk rfl) (V.ldRp ty96 rfl rfl (lk rfl) (v := (.u32 _)) rfl ?_)
  refine Sd.n (lk rfl) (V.bin (a := (.u32 _)) (b := (.u32 _)) (r := .u32 _) rfl rfl rfl trivial ?_)
  refine Sd.n (lk rfl) (V.mv (v := .p (.v (.int .i64 ((_ : Nat) : Int)))) rfl ?_)
  refine Sd.n (lk rfl) (V.ixArrP10 ty104 ty96 rfl rfl rfl (by first | rfl | omega | (simp; done) | (simp; omega)) rfl (by omega) (Int.toNat_natCast _) ?_)
  refine Sd.n (lk rfl) (V.ldPtr ty96 rfl rfl rfl (by first | rfl | omega | (simp; done) | (simp; omega)) (v := .p (.u32 _)) rfl ?_)
  refine Sd.n (lk rfl) (V.bin (a := (.u32 _)) (b := (.u32 _)) (r := .u32 _) rfl rfl rfl trivial ?_)
  refine Sd.n (lk rfl) (V.as (v := .p (.u32 _)) rfl ?_)
  refine Sd.e ?_
  show HT _ _ _ _ _
  refine HT.seq ?_
  refine HT.region S_block_ok ?_
  refine So.q rfl rfl (V.mv (v := .p (.u32 _)) rfl ?_)
  refine So.n (lk rfl) (A.call0 [.p (.u32 _), .p (.v (.int .i64 _))] 3 rfl rfl rfl rfl ⟨trivial, trivial, trivial⟩ ⟨lk rfl, trivial⟩ (_, _) ⟨.refl _, .refl _, trivial⟩ trivial (by first | omega | decide) (Φ := fun _ => True) (fun _ _ => trivial) (.inl rfl) (v := .p (.u32 _)) rfl (O' := _) rfl (fun h12 => ?_))
  refine So.q rfl rfl (V.mv (v := .p (.u32 _)) rfl ?_)
  refine So.n (lk rfl) (A.call0 [.p (.u32 _), .p (.v (.int .i64 _))] 3 rfl rfl rfl rfl ⟨trivial, trivial, trivial⟩ ⟨lk rfl, trivial⟩ (_, _) ⟨.refl _, .refl _, trivial⟩ trivial (by first | omega | decide) (Φ := fun _ => True) (fun _ _ => trivial) (.inl rfl) (v := .p (.u32 _)) rfl (O' := _) rfl (fun h13 => ?_))
  refine So.q rfl rfl (V.bin (a := (.u32 _)) (b := (.u32 _)) (r := .u32 _) rfl rfl rfl trivial ?_)
  refine So.q rfl rfl (V.mv (v := .p (.u32 _)) rfl ?_)
  refine So.n (lk rfl) (A.call0 [.p (.u32 _), .p (.v (.int .i64 _))] 3 rfl rfl rfl rfl ⟨trivial, trivial, trivial⟩ ⟨lk rfl, trivial⟩ (_, _) ⟨.refl _, .refl _, trivial⟩ trivial (by first | omega | decide) (Φ := fun _ => True) (fun _ _ => trivial) (.inl rfl) (v := .p (.u32 _)) rfl (O' := _) rfl (fun h14 => ?_))
  refine So.q rfl rfl (V.bin (a := (.u32 _)) (b := (.u32 _)) (r := .u32 _) rfl rfl rfl trivial ?_)
  refine So.q rfl rfl (V.mv (v := .p (.u32 _)) rfl ?_)
  refine So.q rfl rfl (V.mv (v := .p (.u32 _)) rfl ?_)
  refine So.q rfl rfl (V.bin (a := (.u32 _)) (b := (.u32 _)) (r := .u32 _) rfl rfl rfl trivial ?_)
  refine So.q rfl rfl (V.mv (v := .p (.u32 _)) rfl ?_)
  refine So.q rfl rfl (V.mv (v := .p (.u32 _)) rfl ?_)
  refine So.q rfl rfl (V.mv (v := .p (.u32 _)) rfl ?_)
  refine So.q rfl rfl (V.bin (a := (.u32 _)) (b := (.u32 _)) (r := .u32 _) rfl rfl rfl trivial ?_)
  refine So.q rfl rfl (V.bin (a := (.u32 _)) (b := (.u32 _)) (r := .u32 _) rfl rfl rfl trivial ?_)
  refine So.q rfl rfl (V.bin (a := (.u32 _)) (b := (.u32 _)) (r := .u32 _) rfl rfl rfl trivial ?_)
  refine So.q rfl rfl (V.bin (a := (.u32 _)) (b := (.u32 _)) (r := .u32 _) rfl rfl rfl trivial ?_)
  refine So.q rfl rfl (V.as (v := .p (.u32 _)) rfl ?_)
  refine So.e ?_
  show HT _ _ _ _ _
  refine HT.seq ?_
  refine HT.region S_block_ok ?_
  refine So.q rfl rfl (V.mv (v := .p (.u32 _)) rfl ?_)
  refine So.q rfl rfl (V.mv (v := .p (.u32 _)) rfl ?_)
  refine So.q rfl rfl (V.bin (a := (.u32 _)) (b := (.u32 _)) (r := .u32 _) rfl rfl rfl trivial ?_)
  refine So.q rfl rfl (V.mv (v := .p (.u32 _)) rfl ?_)
  refine So.q rfl rfl (V.mv (v := .p (.u32 _)) rfl ?_)
  refine So.q rfl rfl (V.mv (v := .p (.u32 _)) rfl ?_)
  refine So.q rfl rfl (V.mv (v := .p (.u32 _)) rfl ?_)
  refine So.q rfl rfl (V.mv (v := .p (.u32 _)) rfl ?_)
  refine So.q rfl rfl (V.bin (a := (.u32 _)) (b := (.u32 _)) (r := .u32 _) rfl rfl rfl trivial ?_)
  refine So.q rfl rfl (V.mv (v := .p (.u32 _)) rfl ?_)
  refine So.q rfl rfl (V.mv (v := .p (.u32 _)) rfl ?_)
  refine So.q rfl rfl (V.mv (v := .p (.u32 _)) rfl ?_)
  refine So.q rfl rfl (V.as (v := .p (.u32 _)) rfl ?_)
  refine So.q rfl rfl (V.as (v := .p (.u32 _)) rfl ?_)
  refine So.q rfl rfl (V.as (v := .p (.u32 _)) rfl ?_)
  refine So.q rfl rfl (V.as (v := .p (.u32 _)) rfl ?_)
  refine So.q rfl rfl (V.as (v := .p (.u32 _)) rfl ?_)
  refine So.q rfl rfl (V.as (v := .p (.u32 _)) rfl ?_)
  refine So.q rfl rfl (V.as (v := .p (.u32 _)) rfl ?_)
  refine So.q rfl rfl (V.as (v := .p (.u32 _)) rfl ?_)
  refine So.e ?_
  show HT _ _ _ _ _
  refine HT.seq ?_
  refine HT.seq ?_
  refine HT.region S_block_ok ?_
  refine So.q rfl rfl (V.mv (v := .p (.v (.int .i64 ((_ : Nat) : Int)))) rfl ?_)
  refine So.q rfl rfl (V.addI rfl rfl (by omega) ?_)
  refine So.q rfl rfl (V.as (v := .p (.v (.int .i64 _))) rfl ?_)
  refine So.e ?_
  show HT _ _ _ _ _
  refine HT.seq ?_
  refine HT.region S_block_ok ?_
  refine So.q rfl rfl (V.mv (v := .p (.v (.int .i64 _))) rfl ?_)
  refine So.q rfl rfl (V.bin (a := (.v (.int .i64 _))) (b := (.v (.int .i64 (64)))) (r := .v (.bool _)) rfl rfl rfl trivial ?_)
  refine So.e ?_
  show HT _ _ _ _ _
  refine R.cond rfl rfl (fun h15 => ?_) (fun h15 => ?_)
  ·have h15 := of_decide_eq_true h15
   refine HT.goto ?_
   exact ⟨rfl, s + 1, by first | rfl | omega | (intro j hj; rfl), by omega, ⟨⟨⟨.refl _, rfl⟩, ⟨le_u32 (by first | rfl | omega | (intro j hj; rfl)), trivial⟩, ⟨le_u32 (by first | rfl | omega | (intro j hj; rfl)), trivial⟩, ⟨le_u32 (by first | rfl | omega | (intro j hj; rfl)), trivial⟩, ⟨le_u32 (by first | rfl | omega | (intro j hj; rfl)), trivial⟩, ⟨le_u32 (by first | rfl | omega | (intro j hj; rfl)), trivial⟩, ⟨le_u32 (by first | rfl | omega | (intro j hj; rfl)), trivial⟩, ⟨le_u32 (by first | rfl | omega | (intro j hj; rfl)), trivial⟩, ⟨le_u32 (by first | rfl | omega | (intro j hj; rfl)), trivial⟩, ⟨le_int (by first | rfl | omega | (intro j hj; rfl)), trivial⟩, ⟨.refl _, rfl⟩, ⟨.refl _, trivial⟩, trivial⟩, ⟨⟨_, rfl, .inr (ob_rows (by first | rfl | ((try dsimp only); first | rfl | omega | (intro j hj; rfl))) (by first | rfl | ((try dsimp only); first | rfl | omega | (intro j hj; rfl)))), trivial⟩, ⟨_, rfl, .inl rfl, trivial⟩, trivial⟩⟩⟩
  ·have h15 := of_decide_eq_false h15
   refine HT.skip ?_
   show HT _ _ _ _ _
   refine HT.seq ?_
   refine HT.region S_block_ok ?_
   have hs : s + 1 = 64 := by omega
   refine So.q rfl rfl (V.mv (v := .p (.u32 _)) rfl ?_)
   refine So.q rfl rfl (V.mv (v := .p (.u32 _)) rfl ?_)
   refine So.q rfl rfl (V.mv (v := .p (.u32 _)) rfl ?_)
   refine So.q rfl rfl (V.mv (v := .p (.u32 _)) rfl ?_)
   refine So.q rfl rfl (V.mv (v := .p (.u32 _)) rfl ?_)
   refine So.q rfl rfl (V.mv (v := .p (.u32 _)) rfl ?_)
   refine So.q rfl rfl (V.mv (v := .p (.u32 _)) rfl ?_)
   refine So.q rfl rfl (V.mv (v := .p (.u32 _)) rfl ?_)
   refine So.n (lk rfl) (A.bldA ty97 rfl rfl ⟨by first | exact trivial | exact rfl | (intro j hj; first | trivial | rfl | (simp [BV.one]; done)), by first | exact trivial | exact rfl | (intro j hj; first | trivial | rfl | (simp [BV.one]; done)), by first | exact trivial | exact rfl | (intro j hj; first | trivial | rfl | (simp [BV.one]; done)), by first | exact trivial | exact rfl | (intro j hj; first | trivial | rfl | (simp [BV.one]; done)), by first | exact trivial | exact rfl | (intro j hj; first | trivial | rfl | (simp [BV.one]; done)), by first | exact trivial | exact rfl | (intro j hj; first | trivial | rfl | (simp [BV.one]; done)), by first | exact trivial | exact rfl | (intro j hj; first | trivial | rfl | (simp [BV.one]; done)), by first | exact trivial | exact rfl | (intro j hj; first | trivial | rfl | (simp [BV.one]; done)), trivial⟩ rfl (f := fun j => .u32 (rounds g (wd b) (s + 1) j)) (by exact allP_spec (P := fun j => _ = _) ⟨⟨⟨⟨⟨⟨⟨⟨trivial, rfl⟩, rfl⟩, rfl⟩, rfl⟩, rfl⟩, rfl⟩, rfl⟩, rfl⟩) ?_)
   refine So.q rfl rfl (V.mv (v := .p (.v (.int .i64 (0)))) rfl ?_)
   refine So.e ?_
   show HT _ _ _ _ _
   refine HT.block ?_
   refine R.loop (σ := Nat) (fun r => [(121, .p (.v (.int .i64 ((r : Int)))))]) (fun r => [(1, ⟨98, 1, 8, true, .rows (fun j => .u32 (if j < r then comp g b j else g j))⟩)]) [0, 120] [2] (fun r => r ≤ 8) (fun r => 8 - r) (0) (fr0 := [(0, .ptr 1 0), (120, .agg 8 _)]) (O0 := [(2, ⟨_, _, _, _, .rows _⟩)]) rfl rfl (by first | rfl | omega | (simp; done) | (simp; omega)) ⟨⟨⟨le_int (by first | rfl | omega | (simp; done)), trivial⟩, ⟨.refl _, rfl⟩, ⟨.refl _, trivial⟩, trivial⟩, ⟨⟨_, rfl, .inr (ob_rows (by first | rfl | ((try dsimp only); first | rfl | omega | (simp; done))) (by first | rfl | ((try dsimp only); first | rfl | omega | (simp; done)))), trivial⟩, ⟨_, rfl, .inl rfl, trivial⟩, trivial⟩⟩ (fun r hP0 => ?_)
   refine HT.seq ?_
   refine HT.region S_block_ok ?_
   refine So.q rfl rfl (V.bin (a := (.v (.int .i64 ((_ : Nat) : Int)))) (b := (.v (.int .i64 (8)))) (r := .v (.bool _)) rfl rfl rfl trivial ?_)
   refine So.e ?_
   show HT _ _ _ _ _
   refine HT.seq ?_
   refine R.cond rfl rfl (fun h16 => ?_) (fun h16 => ?_)
   ·have h16 := of_decide_eq_true h16
    refine HT.skip ?_
    show HT _ _ _ _ _
    refine HT.seq ?_
    refine HT.block ?_
    refine HT.seq ?_
    refine HT.region S_block_ok ?_
    refine So.q rfl rfl (V.mv (v := .p (.v (.int .i64 ((_ : Nat) : Int)))) rfl ?_)
    refine So.q rfl rfl (V.ixV1 ty97 ty96 rfl rfl rfl rfl (by omega) (lk rfl) (Int.toNat_natCast _) (v := (.u32 _)) rfl ?_)
    refine So.q rfl rfl (V.as (v := .p (.v (.int .i64 ((_ : Nat) : Int)))) rfl ?_)
    refine So.q rfl rfl (V.as (v := .p (.u32 _)) rfl ?_)
    refine So.e ?_
    show HT _ _ _ _ _
    refine HT.tail S_block_ok mixed 9 (by kernel_rfl) (by kernel_rfl) ?_
    refine So.q rfl rfl (V.mv (v := .ptr 1 0) rfl ?_)
    refine So.q rfl rfl (V.mv (v := .p (.v (.int .i64 ((_ : Nat) : Int)))) rfl ?_)
    refine So.q rfl rfl (V.ncPtr rfl ?_)
    refine So.q rfl rfl (V.ixArrP10 (mi := r) ty98 ty96 rfl rfl rfl (by first | rfl | omega | (simp; done) | (simp; omega)) rfl (by omega) (by omega) ?_)
    refine So.q rfl rfl (V.ldPtr ty96 rfl rfl rfl (by first | rfl | omega | (simp; done) | (simp; omega)) (v := .p (.u32 _)) rfl ?_)
    refine So.q rfl rfl (V.mv (v := .p (.u32 _)) rfl ?_)
    refine So.q rfl rfl (V.bin (a := (.u32 _)) (b := (.u32 _)) (r := .u32 _) rfl rfl rfl trivial ?_)
    refine So.q rfl rfl (V.ncPtr rfl ?_)
    refine So.q rfl rfl (V.ixArrP10 (mi := r) ty98 ty96 rfl rfl rfl (by first | rfl | omega | (simp; done) | (simp; omega)) rfl (by omega) (by omega) ?_)
    refine So.s (A.sto ty96 rfl rfl rfl (v := .p (.u32 _)) rfl trivial rfl (by first | rfl | omega | (simp; done) | (simp; omega)) (c' := .rows (fun j => .u32 (if j = r then comp g b r else if j < r then comp g b j else g j))) (congrArg (fun g => some (OC.rows g)) (funext fun j => by by_cases h9 : j = r <;> simp [h9, comp, hs])) rfl ?_)
    refine So.e ?_
    show HT _ _ _ _ _
    refine HT.region S_block_ok ?_
    refine So.q rfl rfl (V.addI rfl rfl (by omega) ?_)
    refine So.q rfl rfl (V.mv (v := .p (.v (.int .i64 _))) rfl ?_)
    refine So.e ?_
    refine ⟨r + 1, by first | rfl | omega | (simp; done) | (simp; omega), by omega, ⟨⟨⟨le_int (by first | rfl | omega | (simp; done) | (simp; omega)), trivial⟩, ⟨.refl _, rfl⟩, ⟨.refl _, trivial⟩, trivial⟩, ⟨⟨_, rfl, .inr (ob_rows (by first | rfl | ((try dsimp only); (intro j hj; by_cases h9 : j = r <;> simp [h9] <;> (by_cases h8 : j < r <;> simp [h8] <;> omega)))) (by first | rfl | ((try dsimp only); (intro j hj; by_cases h9 : j = r <;> simp [h9] <;> (by_cases h8 : j < r <;> simp [h8] <;> omega))))), trivial⟩, ⟨_, rfl, .inl rfl, trivial⟩, trivial⟩⟩⟩
   ·have h16 := of_decide_eq_false h16
    refine HT.exit ?_
    exact ret_ok (sg [(1, 1)]) h rfl rfl rfl ⟨trivial, trivial⟩ trivial rfl ⟨trivial, ⟨⟨_, rfl, .inr (ob_rows (by first | rfl | ((try dsimp only); (first | rfl | (intro j hj; rw [if_pos (by omega)])))) (by first | rfl | ((try dsimp only); (first | rfl | (intro j hj; rw [if_pos (by omega)]))))), trivial⟩, trivial⟩⟩
end Go.Vh

set_option linter.unusedVariables false
set_option linter.unusedSimpArgs false
namespace Go.Vh
open Go Go.Vc Go.Proofs Go.Vw
def hsumSp : Sp := ⟨[1, 2], mkE (α := (List UInt8) × (List UInt8)) (fun (tx, j) => [.ptr 1 (0)]) (fun (tx, j) => [(1, ⟨101, 1, 10, true, .cells [.p (.u32 (hst (tx) 0)), .p (.u32 (hst (tx) 1)), .p (.u32 (hst (tx) 2)), .p (.u32 (hst (tx) 3)), .p (.u32 (hst (tx) 4)), .p (.u32 (hst (tx) 5)), .p (.u32 (hst (tx) 6)), .p (.u32 (hst (tx) 7)), .own 2 ((j).length) ((rst (tx)).length), .p (.u64 (UInt64.ofNat (tx).length))]⟩), (2, ⟨5, 1, (j ++ rst tx).length, true, .bs (j ++ rst tx)⟩)]) (fun (tx, j) => tx.length ≤ 1099511627776 ∧ j.length ≤ 1099511627776) (fun (tx, j) => [.own 3 (0) (32)]) (fun (tx, j) => [(1, ⟨101, 1, 10, true, .cells [.p (.u32 (hst (tx) 0)), .p (.u32 (hst (tx) 1)), .p (.u32 (hst (tx) 2)), .p (.u32 (hst (tx) 3)), .p (.u32 (hst (tx) 4)), .p (.u32 (hst (tx) 5)), .p (.u32 (hst (tx) 6)), .p (.u32 (hst (tx) 7)), .own 2 ((j).length) ((rst (tx)).length), .p (.u64 (UInt64.ofNat (tx).length))]⟩), (2, ⟨5, 1, (j ++ rst tx).length, true, .bs (j ++ rst tx)⟩), (3, ⟨5, 1, 32, true, .bs (sha tx)⟩)])⟩
def S_hsum : FuncId → Option Sp := fun f => if f = 65 then some blockSp else none
theorem S_hsum_ok : ∀ f s, S_hsum f = some s → FOK Tryd.prog gl f s := fun f s h => by
 unfold S_hsum at h
 split at h
 ·rename_i e; cases h; subst e; exact block_ok
 cases h
set_option maxHeartbeats 1000000 in
set_option maxRecDepth 20000 in
theorem hsum_ok : FOK Tryd.prog gl 57 hsumSp := by
 refine FOK.ofE (tyOf_ok Tryd.prog) (slots := [2]) (nt := 70) Tryd.func57 rfl rfl rfl rfl (by decide) 1 (fun ⟨_, _⟩ => rfl) (by decide) (fun ⟨_, _⟩ => ⟨rfl, trivial⟩) ?_
 rintro ⟨tx, j⟩ kk hlen hpre h
 replace hpre : tx.length ≤ 1099511627776 ∧ j.length ≤ 1099511627776 := hpre
 show HT (cx Tryd.prog 70 (tyOf Tryd.prog) gl [1, 2]) _ [(0, .ptr 1 (0))] [(1, ⟨101, 1, 10, true, .cells [.p (.u32 (hst (tx) 0)), .p (.u32 (hst (tx) 1)), .p (.u32 (hst (tx) 2)), .p (.u32 (hst (tx) 3)), .p (.u32 (hst (tx) 4)), .p (.u32 (hst (tx) 5)), .p (.u32 (hst (tx) 6)), .p (.u32 (hst (tx) 7)), .own 2 ((j).length) ((rst (tx)).length), .p (.u64 (UInt64.ofNat (tx).length))]⟩), (2, ⟨5, 1, (j ++ rst tx).length, true, .bs (j ++ rst tx)⟩)] _
 have hrl := rst_len tx
 have hzl : zlen tx.length < 64 := by unfold zlen; omega
 have hEl : (rst tx ++ pad tx).length = (rst tx).length + (9 + zlen tx.length) := by rw [List.length_append, pad_len]
 have hE64 : (rst tx ++ pad tx).length % 64 = 0 := by rw [hEl]; unfold zlen; omega
 refine HT.seq ?_
 refine HT.region S_hsum_ok ?_
 refine So.q rfl rfl (V.as (v := .p (.v (.slice none 0 0))) rfl ?_)
 refine So.e ?_
 show HT _ _ _ _ _
 refine HT.seq ?_
 refine HT.region S_hsum_ok ?_
 refine So.q rfl rfl (V.mv (v := .ptr 1 0) rfl ?_)
 refine So.q rfl rfl (V.ncPtr rfl ?_)
 refine So.q rfl rfl (V.faPtr ty101 rfl ty98 (lk rfl) rfl rfl (lk rfl) ?_)
 refine So.q rfl rfl (V.ldPtrA ty98 rfl rfl rfl rfl (lk rfl) ?_)
 refine So.n (lk rfl) (A.alloc 3 1 ty98 rfl ⟨lk rfl, lk rfl, trivial⟩ (f := fun _ => .u32 0) (fun _ _ => rfl) ?_)
 refine So.s (A.stoAg ty98 rfl (n := 8) rfl (by decide) (by intro j hj; first | rfl | trivial | (match j, hj with | 0, _ => (first | trivial | rfl) | 1, _ => (first | trivial | rfl) | 2, _ => (first | trivial | rfl) | 3, _ => (first | trivial | rfl) | 4, _ => (first | trivial | rfl) | 5, _ => (first | trivial | rfl) | 6, _ => (first | trivial | rfl) | 7, _ => (first | trivial | rfl))) rfl rfl rfl ?_)
 refine So.e ?_
 show HT _ _ _ _ _
 refine HT.seq ?_
 refine HT.region S_hsum_ok ?_
 refine So.n (lk rfl) (A.bsl 4 ty22 ty5 rfl (lk rfl) (lk rfl) (fun _ => rfl) rfl rfl ⟨lk rfl, lk rfl, trivial⟩ trivial rfl (N := 0) rfl (c := .bs []) rfl ?_)
 refine So.q rfl rfl (V.mv (v := .ptr 1 0) rfl ?_)
 refine So.q rfl rfl (V.ncPtr rfl ?_)
 refine So.q rfl rfl (V.faPtr ty101 rfl ty22 (lk rfl) rfl rfl (lk rfl) ?_)
 refine So.q rfl rfl (V.ldPtr ty22 rfl rfl rfl (lk rfl) (v := .own 2 _ _) rfl ?_)
 refine So.n (lk rfl) (A.apOwn ty22 ty5 rfl rfl rfl rfl (u := .own 2 _ _) rfl rfl (l' := rst tx) (by simp) (mn := (rst tx).length) (by simp) (by first | rfl | omega | (simp; done) | (simp; omega)) rfl rfl rfl ?_)
 refine So.n (lk rfl) (A.bsl 5 ty22 ty5 rfl (lk rfl) (lk rfl) (fun _ => rfl) rfl rfl ⟨lk rfl, lk rfl, trivial⟩ ⟨trivial, trivial⟩ rfl (N := 1) rfl (c := .bs [_]) rfl ?_)
 refine So.n (lk rfl) (A.apOwn ty22 ty5 rfl rfl rfl rfl (u := .own 5 0 _) rfl rfl (l' := rst tx ++ [128]) (by simp) (mn := (rst tx).length + 1) (by simp) (by first | rfl | omega | (simp; done) | (simp; omega)) rfl rfl rfl ?_)
 refine So.q rfl rfl (V.as (v := .own 4 0 _) rfl ?_)
 refine So.e ?_
 show HT _ _ _ _ _
 refine HT.seq ?_
 refine HT.block ?_
 refine R.loop (σ := Nat) (fun s => [(4, .own 4 (0) ((rst tx).length + 1 + s))]) (fun s => [(4, ⟨5, 1, (rst tx).length + 1 + s, true, .bs (rst tx ++ [128] ++ List.replicate s 0)⟩)]) [0, 2, 3] [1, 2, 3, 5] (fun s => s ≤ zlen tx.length) (fun s => zlen tx.length - s) (0) (fr0 := [(0, .ptr 1 0), (2, .p (.v (.slice none 0 0))), (3, .ptr 3 0)]) (O0 := [(1, ⟨_, _, _, _, .cells _⟩), (2, ⟨_, _, _, _, .bs _⟩), (3, ⟨_, _, _, _, .rows _⟩), (5, ⟨_, _, _, _, .bs _⟩)]) rfl rfl (by first | rfl | omega | (simp; done) | (simp; omega)) ⟨⟨⟨le_own2 (by first | rfl | omega) (by first | rfl | omega | (simp; done)), rfl⟩, ⟨.refl _, rfl⟩, ⟨.refl _, trivial⟩, ⟨.refl _, rfl⟩, trivial⟩, ⟨⟨_, rfl, .inl (ob_bs (by first | rfl | ((try dsimp only); first | rfl | omega | (simp; done))) (by first | rfl | ((try dsimp only); first | rfl | omega | (simp; done)))), trivial⟩, ⟨_, rfl, .inl rfl, ⟨trivial, trivial, trivial, trivial, trivial, trivial, trivial, trivial, rfl, trivial, trivial⟩⟩, ⟨_, rfl, .inl rfl, trivial⟩, ⟨_, rfl, .inl rfl, trivial⟩, ⟨_, rfl, .inl rfl, trivial⟩, trivial⟩⟩ (fun s hP0 => ?_)
 refine HT.seq ?_
 refine HT.seq ?_
 refine HT.region S_hsum_ok ?_
 refine So.q rfl rfl (V.mv (v := .own 4 0 _) rfl ?_)
 refine So.q rfl rfl (V.len ty22 (v := .own 4 0 _) rfl rfl ?_)
 refine So.q rfl rfl (V.remI rfl rfl (by omega) ?_)
 refine So.q rfl rfl (V.bin (a := (.v (.int .i64 _))) (b := (.v (.int .i64 (56)))) (r := .v (.bool _)) rfl rfl rfl trivial ?_)
 refine So.e ?_
 show HT _ _ _ _ _
 refine R.cond rfl rfl (fun h1 => ?_) (fun h1 => ?_)
 ·have h1 := of_decide_eq_false (bnT h1)
  refine HT.skip ?_
  show HT _ _ _ _ _
  refine HT.block ?_
  refine HT.region S_hsum_ok ?_
  refine So.q rfl rfl (V.mv (v := .own 4 0 _) rfl ?_)
  refine So.n (lk rfl) (A.bsl 6 ty22 ty5 rfl (lk rfl) (lk rfl) (fun _ => rfl) rfl rfl ⟨lk rfl, lk rfl, trivial⟩ ⟨trivial, trivial⟩ rfl (N := 1) rfl (c := .bs [_]) rfl ?_)
  refine So.n (lk rfl) (A.apOwn ty22 ty5 rfl rfl rfl rfl (u := .own 6 0 _) rfl rfl (l' := rst tx ++ [128] ++ List.replicate (s + 1) 0) (by rw [ap_full (by simp; omega)]; simp [List.replicate_succ']) (mn := (rst tx).length + 1 + (s + 1)) (by first | omega | (simp; done) | (simp; omega)) (by first | rfl | omega | (simp; done) | (simp; omega)) rfl rfl rfl ?_)
  refine So.q rfl rfl (V.as (v := .own 4 0 _) rfl ?_)
  refine So.e ?_
  refine ⟨s + 1, by unfold zlen at *; omega, by unfold zlen at *; omega, ⟨⟨⟨le_own2 (by first | rfl | omega) (by first | rfl | omega | (simp; done) | (simp; omega)), rfl⟩, ⟨.refl _, rfl⟩, ⟨.refl _, trivial⟩, ⟨.refl _, rfl⟩, trivial⟩, ⟨⟨_, rfl, .inl (ob_bs (by first | rfl | ((try dsimp only); first | rfl | omega | (simp; done) | (simp; omega))) (by first | rfl | ((try dsimp only); first | rfl | omega | (simp; done) | (simp; omega)))), trivial⟩, ⟨_, rfl, .inl rfl, ⟨trivial, trivial, trivial, trivial, trivial, trivial, trivial, trivial, rfl, trivial, trivial⟩⟩, ⟨_, rfl, .inl rfl, trivial⟩, ⟨_, rfl, .inl rfl, trivial⟩, ⟨_, rfl, .inl rfl, trivial⟩, trivial⟩⟩⟩
 ·have h1 := of_decide_eq_true (bnF h1)
  refine HT.exit ?_
  show HT _ _ _ _ _
  refine HT.seq ?_
  refine HT.seq ?_
  refine HT.region S_hsum_ok ?_
  have hs : s = zlen tx.length := by unfold zlen at *; omega
  refine So.q rfl rfl (V.as (v := .p (.v (.int .i64 (56)))) rfl ?_)
  refine So.e ?_
  show HT _ _ _ _ _
  refine HT.block ?_
  refine R.loop (σ := Nat) (fun r => [(4, .own 4 (0) ((rst tx).length + 1 + zlen tx.length + r)), (5, .p (.v (.int .i64 (56 - 8 * (r : Int)))))]) (fun r => [(4, ⟨5, 1, (rst tx).length + 1 + zlen tx.length + r, true, .bs (rst tx ++ [128] ++ List.replicate (zlen tx.length) 0 ++ len8 (UInt64.ofNat tx.length) r)⟩)]) [0, 2, 3] [1, 2, 3, 5] (fun r => r ≤ 8) (fun r => 8 - r) (0) (fr0 := [(0, .ptr 1 0), (2, .p (.v (.slice none 0 0))), (3, .ptr 3 0)]) (O0 := [(1, ⟨_, _, _, _, .cells _⟩), (2, ⟨_, _, _, _, .bs _⟩), (3, ⟨_, _, _, _, .rows _⟩), (5, ⟨_, _, _, _, .bs _⟩)]) rfl rfl (by first | rfl | omega | (simp; done) | (simp; omega)) ⟨⟨⟨le_own2 (by first | rfl | omega) (by first | rfl | omega | (rw [hs]; simp [len8]; done) | (rw [hs])), rfl⟩, ⟨le_int (by first | rfl | omega | (rw [hs]; simp [len8]; done) | (rw [hs])), trivial⟩, ⟨.refl _, rfl⟩, ⟨.refl _, trivial⟩, ⟨.refl _, rfl⟩, trivial⟩, ⟨⟨_, rfl, .inl (ob_bs (by first | rfl | ((try dsimp only); first | rfl | omega | (rw [hs]; simp [len8]; done) | (rw [hs]))) (by first | rfl | ((try dsimp only); first | rfl | omega | (rw [hs]; simp [len8]; done) | (rw [hs])))), trivial⟩, ⟨_, rfl, .inl rfl, ⟨trivial, trivial, trivial, trivial, trivial, trivial, trivial, trivial, rfl, trivial, trivial⟩⟩, ⟨_, rfl, .inl rfl, trivial⟩, ⟨_, rfl, .inl rfl, trivial⟩, ⟨_, rfl, .inl rfl, trivial⟩, trivial⟩⟩ (fun r hP1 => ?_)
  refine HT.seq ?_
  refine HT.seq ?_
  refine HT.region S_hsum_ok ?_
  refine So.q rfl rfl (V.mv (v := .p (.v (.int .i64 _))) rfl ?_)
  refine So.q rfl rfl (V.bin (a := (.v (.int .i64 _))) (b := (.v (.int .i64 (0)))) (r := .v (.bool _)) rfl rfl rfl trivial ?_)
  refine So.e ?_
  show HT _ _ _ _ _
  refine R.cond rfl rfl (fun h2 => ?_) (fun h2 => ?_)
  ·have h2 := of_decide_eq_true h2
   refine HT.skip ?_
   show HT _ _ _ _ _
   refine HT.seq ?_
   refine HT.block ?_
   refine HT.region S_hsum_ok ?_
   refine So.q rfl rfl (V.mv (v := .own 4 0 _) rfl ?_)
   refine So.q rfl rfl (V.mv (v := .ptr 1 0) rfl ?_)
   refine So.q rfl rfl (V.ncPtr rfl ?_)
   refine So.q rfl rfl (V.faPtr ty101 rfl ty95 (lk rfl) rfl rfl (lk rfl) ?_)
   refine So.q rfl rfl (V.ldPtr ty95 rfl rfl rfl (lk rfl) (v := .p (.u64 _)) rfl ?_)
   refine So.q rfl rfl (V.shlC (n := 3) (a := (.u64 _)) (b := (.u64 3)) (r := .u64 (u64Shl _ 3)) rfl rfl rfl rfl ?_)
   refine So.q rfl rfl (V.mv (v := .p (.v (.int .i64 _))) rfl ?_)
   refine So.q rfl rfl (V.bin (a := (.u64 _)) (b := (.v (.int .i64 _))) (r := .u64 _) rfl rfl rfl (by first | rfl | omega | (simp; done) | (simp; omega)) ?_)
   refine So.q rfl rfl (V.cvN ty5 ty95 (a := (.u64 _)) (r := (.u8 _)) rfl rfl ?_)
   refine So.n (lk rfl) (A.bsl 6 ty22 ty5 rfl (lk rfl) (lk rfl) (fun _ => rfl) rfl rfl ⟨lk rfl, lk rfl, trivial⟩ ⟨trivial, trivial⟩ rfl (N := 1) rfl (c := .bs [_]) rfl ?_)
   refine So.n (lk rfl) (A.apOwn ty22 ty5 rfl rfl rfl rfl (u := .own 6 0 _) rfl rfl (l' := rst tx ++ [128] ++ List.replicate (zlen tx.length) 0 ++ len8 (UInt64.ofNat tx.length) (r + 1)) (by rw [ap_full (by simp [len8_len]; omega)]; simp only [len8, show (56 - 8 * (r : Int)).toNat = 56 - 8 * r by omega]; simp) (mn := (rst tx).length + 1 + zlen tx.length + (r + 1)) (by first | omega | (simp; done) | (simp; omega)) (by first | rfl | omega | (simp; done) | (simp; omega)) rfl rfl rfl ?_)
   refine So.q rfl rfl (V.as (v := .own 4 0 _) rfl ?_)
   refine So.e ?_
   show HT _ _ _ _ _
   refine HT.region S_hsum_ok ?_
   refine So.q rfl rfl (V.mv (v := .p (.v (.int .i64 _))) rfl ?_)
   refine So.q rfl rfl (V.subI rfl rfl (by omega) ?_)
   refine So.q rfl rfl (V.as (v := .p (.v (.int .i64 _))) rfl ?_)
   refine So.e ?_
   refine ⟨r + 1, by first | rfl | omega | (simp; done) | (simp; omega), by omega, ⟨⟨⟨le_own2 (by first | rfl | omega) (by first | rfl | omega | (simp; done) | (simp; omega)), rfl⟩, ⟨le_int (by first | rfl | omega | (simp; done) | (simp; omega)), trivial⟩, ⟨.refl _, rfl⟩, ⟨.refl _, trivial⟩, ⟨.refl _, rfl⟩, trivial⟩, ⟨⟨_, rfl, .inl (ob_bs (by first | rfl | ((try dsimp only); first | rfl | omega | (simp; done) | (simp; omega))) (by first | rfl | ((try dsimp only); first | rfl | omega | (simp; done) | (simp; omega)))), trivial⟩, ⟨_, rfl, .inl rfl, ⟨trivial, trivial, trivial, trivial, trivial, trivial, trivial, trivial, rfl, trivial, trivial⟩⟩, ⟨_, rfl, .inl rfl, trivial⟩, ⟨_, rfl, .inl rfl, trivial⟩, ⟨_, rfl, .inl rfl, trivial⟩, trivial⟩⟩⟩
  ·have h2 := of_decide_eq_false h2
   refine HT.exit ?_
   show HT _ _ _ _ _
   refine HT.seq ?_
   refine HT.block ?_
   refine R.loop (σ := Nat) (fun q => [(4, .own 4 (64 * q) ((rst tx ++ pad tx).length - 64 * q))]) (fun q => [(3, ⟨98, 1, 8, true, .rows (fun j => .u32 (stN (ptx tx) (tx.length / 64 + q) j))⟩), (4, ⟨5, 1, ((rst tx ++ pad tx)).length, true, .bs ((rst tx ++ pad tx))⟩)]) [2, 3] [1, 2, 5] (fun q => 64 * q ≤ (rst tx ++ pad tx).length) (fun q => (rst tx ++ pad tx).length - 64 * q) (0) (fr0 := [(2, .p (.v (.slice none 0 0))), (3, .ptr 3 0)]) (O0 := [(1, ⟨_, _, _, _, .cells _⟩), (2, ⟨_, _, _, _, .bs _⟩), (5, ⟨_, _, _, _, .bs _⟩)]) rfl rfl (by omega) ⟨⟨⟨le_own2 (by first | rfl | omega) (by first | rfl | omega | (intro j hj; have hj8 : j < 8 := hj; simp only [← su_0]; match j, hj8 with | 0, _ => rfl | 1, _ => rfl | 2, _ => rfl | 3, _ => rfl | 4, _ => rfl | 5, _ => rfl | 6, _ => rfl | 7, _ => rfl) | (replace hP1 : r = 8 := (by omega); subst hP1; simp [pad]; done)), rfl⟩, ⟨.refl _, trivial⟩, ⟨.refl _, rfl⟩, trivial⟩, ⟨⟨_, rfl, .inr (ob_rows (by first | rfl | ((try dsimp only); first | rfl | omega | (intro j hj; have hj8 : j < 8 := hj; simp only [← su_0]; match j, hj8 with | 0, _ => rfl | 1, _ => rfl | 2, _ => rfl | 3, _ => rfl | 4, _ => rfl | 5, _ => rfl | 6, _ => rfl | 7, _ => rfl) | (replace hP1 : r = 8 := (by omega); subst hP1; simp [pad]; done))) (by first | rfl | ((try dsimp only); first | rfl | omega | (intro j hj; have hj8 : j < 8 := hj; simp only [← su_0]; match j, hj8 with | 0, _ => rfl | 1, _ => rfl | 2, _ => rfl | 3, _ => rfl | 4, _ => rfl | 5, _ => rfl | 6, _ => rfl | 7, _ => rfl) | (replace hP1 : r = 8 := (by omega); subst hP1; simp [pad]; done)))), trivial⟩, ⟨_, rfl, .inl (ob_bs (by first | rfl | ((try dsimp only); first | rfl | omega | (intro j hj; have hj8 : j < 8 := hj; simp only [← su_0]; match j, hj8 with | 0, _ => rfl | 1, _ => rfl | 2, _ => rfl | 3, _ => rfl | 4, _ => rfl | 5, _ => rfl | 6, _ => rfl | 7, _ => rfl) | (replace hP1 : r = 8 := (by omega); subst hP1; simp [pad]; done))) (by first | rfl | ((try dsimp only); first | rfl | omega | (intro j hj; have hj8 : j < 8 := hj; simp only [← su_0]; match j, hj8 with | 0, _ => rfl | 1, _ => rfl | 2, _ => rfl | 3, _ => rfl | 4, _ => rfl | 5, _ => rfl | 6, _ => rfl | 7, _ => rfl) | (replace hP1 : r = 8 := (by omega); subst hP1; simp [pad]; done)))), trivial⟩, ⟨_, rfl, .inl rfl, ⟨trivial, trivial, trivial, trivial, trivial, trivial, trivial, trivial, rfl, trivial, trivial⟩⟩, ⟨_, rfl, .inl rfl, trivial⟩, ⟨_, rfl, .inl rfl, trivial⟩, trivial⟩⟩ (fun q hP2 => ?_)
   refine HT.seq ?_
   refine HT.seq ?_
   refine HT.region S_hsum_ok ?_
   refine So.q rfl rfl (V.mv (v := .own 4 _ _) rfl ?_)
   refine So.q rfl rfl (V.len ty22 (v := .own 4 _ _) rfl rfl ?_)
   refine So.q rfl rfl (V.bin (a := (.v (.int .i64 _))) (b := (.v (.int .i64 (0)))) (r := .v (.bool _)) rfl rfl rfl trivial ?_)
   refine So.e ?_
   show HT _ _ _ _ _
   refine R.cond rfl rfl (fun h3 => ?_) (fun h3 => ?_)
   ·have h3 := of_decide_eq_true h3
    refine HT.skip ?_
    show HT _ _ _ _ _
    refine HT.seq ?_
    refine HT.block ?_
    refine HT.region S_hsum_ok ?_
    have hbl : (List.take ((rst tx ++ pad tx).length - 64 * q) (List.drop (64 * q) (rst tx ++ pad tx))).length = (rst tx ++ pad tx).length - 64 * q := by rw [List.length_take, List.length_drop]; omega
    refine So.q rfl rfl (V.mv (v := .own 4 _ _) rfl ?_)
    refine So.n (lk rfl) (A.call [.ptr 1 _, .p (.bs _)] [(1, ⟨_, _, _, _, .rows _⟩)] (sg [(1, 3)]) 6 rfl rfl rfl rfl ⟨rfl, trivial⟩ rfl ⟨trivial, trivial⟩ ⟨rfl, trivial, trivial⟩ ⟨lk rfl, lk rfl, trivial⟩ rfl (_, _) ⟨.refl _, .refl _, trivial⟩ ⟨⟨_, rfl, .inl rfl, trivial⟩, trivial⟩ (by first | omega | (simp; done) | (simp; omega)) (Φ := fun _ => True) (fun _ _ => trivial) ⟨⟨_, _, rfl, rfl, rfl, Nat.le_refl _⟩, trivial⟩ (.inr ⟨fun _ hj => absurd hj (Nat.not_lt_zero _), by simp [Hp.scal, OC.scal, PV.scal, BV.scal]⟩) rfl (v := .tup 0 _) rfl (O' := (3, ⟨_, _, _, _, .rows _⟩) :: _) rfl (fun h4 => ?_))
    refine So.e ?_
    show HT _ _ _ _ _
    refine HT.region S_hsum_ok ?_
    refine So.q rfl rfl (V.mv (v := .own 4 _ _) rfl ?_)
    refine So.q rfl rfl (V.cutOwnL ty22 ty5 (s := 1) rfl rfl rfl rfl rfl (by omega) rfl ?_)
    refine So.q rfl rfl (V.as (v := .own 4 _ _) rfl ?_)
    refine So.e ?_
    refine ⟨q + 1, by first | rfl | omega | (simp; done) | (simp; omega), by omega, ⟨⟨⟨le_own2 (by first | rfl | omega) (by first | rfl | omega | (simp; done) | (simp; omega)), rfl⟩, ⟨.refl _, trivial⟩, ⟨.refl _, rfl⟩, trivial⟩, ⟨⟨_, rfl, .inr (ob_rows (by first | (intro j hj; exact congrArg PV.u32 (su_1 (by omega) j)) | rfl) (by first | (intro j hj; exact congrArg PV.u32 (su_1 (by omega) j)) | rfl)), trivial⟩, ⟨_, rfl, .inl (ob_bs (by first | rfl | ((try dsimp only); first | rfl | omega | (simp; done) | (simp; omega))) (by first | rfl | ((try dsimp only); first | rfl | omega | (simp; done) | (simp; omega)))), trivial⟩, ⟨_, rfl, .inl rfl, ⟨trivial, trivial, trivial, trivial, trivial, trivial, trivial, trivial, rfl, trivial, trivial⟩⟩, ⟨_, rfl, .inl rfl, trivial⟩, ⟨_, rfl, .inl rfl, trivial⟩, trivial⟩⟩⟩
   ·have h3 := of_decide_eq_false h3
    refine HT.exit ?_
    show HT _ _ _ _ _
    refine HT.seq ?_
    refine HT.region S_hsum_ok ?_
    refine So.q rfl rfl (V.as (v := .p (.v (.slice none 0 0))) rfl ?_)
    refine So.e ?_
    show HT _ _ _ _ _
    refine HT.seq ?_
    refine HT.seq ?_
    refine HT.region S_hsum_ok ?_
    refine So.q rfl rfl (V.ldPtrA ty98 rfl rfl rfl rfl (lk rfl) ?_)
    refine So.q rfl rfl (V.mv (v := .p (.v (.int .i64 (0)))) rfl ?_)
    refine So.e ?_
    show HT _ _ _ _ _
    refine HT.block ?_
    refine R.phan 6 6 5 1 (.bs []) rfl rfl rfl ⟨rfl, rfl⟩ ?_
    refine R.loop (σ := Nat) (fun r => [(6, .own 6 (0) (4 * r)), (51, .p (.v (.int .i64 ((r : Int)))))]) (fun r => [(6, ⟨5, 1, 4 * r, true, .bs (outN (stN (ptx tx) (tx.length / 64 + q)) r)⟩)]) [2, 50] [1, 2, 3, 4, 5] (fun r => r ≤ 8) (fun r => 8 - r) (0) (fr0 := [(2, .p (.v (.slice none 0 0))), (50, .agg 8 _)]) (O0 := [(1, ⟨_, _, _, _, .cells _⟩), (2, ⟨_, _, _, _, .bs _⟩), (3, ⟨_, _, _, _, .rows _⟩), (4, ⟨_, _, _, _, .bs _⟩), (5, ⟨_, _, _, _, .bs _⟩)]) rfl rfl (by first | rfl | omega | (simp; done) | (simp; omega)) ⟨⟨⟨le_own2 (by first | rfl | omega) (by first | rfl | omega), rfl⟩, ⟨le_int (by first | rfl | omega), trivial⟩, ⟨.refl _, trivial⟩, ⟨.refl _, trivial⟩, trivial⟩, ⟨⟨_, rfl, .inl (ob_bs (by first | rfl | ((try dsimp only); first | rfl | omega)) (by first | rfl | ((try dsimp only); first | rfl | omega))), trivial⟩, ⟨_, rfl, .inl rfl, ⟨trivial, trivial, trivial, trivial, trivial, trivial, trivial, trivial, rfl, trivial, trivial⟩⟩, ⟨_, rfl, .inl rfl, trivial⟩, ⟨_, rfl, .inl rfl, trivial⟩, ⟨_, rfl, .inl rfl, trivial⟩, ⟨_, rfl, .inl rfl, trivial⟩, trivial⟩⟩ (fun r hP3 => ?_)
    refine HT.seq ?_
    refine HT.region S_hsum_ok ?_
    refine So.q rfl rfl (V.bin (a := (.v (.int .i64 ((_ : Nat) : Int)))) (b := (.v (.int .i64 (8)))) (r := .v (.bool _)) rfl rfl rfl trivial ?_)
    refine So.e ?_
    show HT _ _ _ _ _
    refine HT.seq ?_
    refine R.cond rfl rfl (fun h5 => ?_) (fun h5 => ?_)
    ·have h5 := of_decide_eq_true h5
     refine HT.skip ?_
     show HT _ _ _ _ _
     refine HT.seq ?_
     refine HT.block ?_
     refine HT.seq ?_
     refine HT.region S_hsum_ok ?_
     refine So.q rfl rfl (V.ixV1 (mi := r) ty98 ty96 rfl rfl rfl rfl (by omega) (lk rfl) (by omega) (v := (.u32 _)) rfl ?_)
     refine So.q rfl rfl (V.as (v := .p (.u32 _)) rfl ?_)
     refine So.e ?_
     show HT _ _ _ _ _
     refine HT.region S_hsum_ok ?_
     refine So.q rfl rfl (V.mv (v := .own 6 0 _) rfl ?_)
     refine So.q rfl rfl (V.mv (v := .p (.u32 _)) rfl ?_)
     refine So.q rfl rfl (V.shrC (n := 24) (a := (.u32 _)) (b := (.u64 24)) (r := .u32 (u32Shr _ 24)) rfl rfl rfl rfl ?_)
     refine So.q rfl rfl (V.cvN ty5 ty96 (a := (.u32 _)) (r := (.u8 _)) rfl rfl ?_)
     refine So.q rfl rfl (V.mv (v := .p (.u32 _)) rfl ?_)
     refine So.q rfl rfl (V.shrC (n := 16) (a := (.u32 _)) (b := (.u64 16)) (r := .u32 (u32Shr _ 16)) rfl rfl rfl rfl ?_)
     refine So.q rfl rfl (V.cvN ty5 ty96 (a := (.u32 _)) (r := (.u8 _)) rfl rfl ?_)
     refine So.q rfl rfl (V.mv (v := .p (.u32 _)) rfl ?_)
     refine So.q rfl rfl (V.shrC (n := 8) (a := (.u32 _)) (b := (.u64 8)) (r := .u32 (u32Shr _ 8)) rfl rfl rfl rfl ?_)
     refine So.q rfl rfl (V.cvN ty5 ty96 (a := (.u32 _)) (r := (.u8 _)) rfl rfl ?_)
     refine So.q rfl rfl (V.mv (v := .p (.u32 _)) rfl ?_)
     refine So.q rfl rfl (V.cvN ty5 ty96 (a := (.u32 _)) (r := (.u8 _)) rfl rfl ?_)
     refine So.n (lk rfl) (A.bsl 7 ty22 ty5 rfl (lk rfl) (lk rfl) (fun _ => rfl) rfl rfl ⟨lk rfl, lk rfl, trivial⟩ ⟨trivial, trivial, trivial, trivial, trivial⟩ rfl (N := 4) rfl (c := .bs [_, _, _, _]) rfl ?_)
     refine So.n (lk rfl) (A.apOwn ty22 ty5 rfl rfl rfl rfl (u := .own 7 0 _) rfl rfl (l' := outN (stN (ptx tx) (tx.length / 64 + q)) (r + 1)) (by rw [ap_full (by rw [outN_len]; omega)]; simp [outN, w4]) (mn := 4 * (r + 1)) (by first | omega | (simp; done) | (simp; omega)) (by first | rfl | omega | (simp; done) | (simp; omega)) rfl rfl rfl ?_)
     refine So.q rfl rfl (V.as (v := .own 6 0 _) rfl ?_)
     refine So.e ?_
     show HT _ _ _ _ _
     refine HT.region S_hsum_ok ?_
     refine So.q rfl rfl (V.addI rfl rfl (by omega) ?_)
     refine So.q rfl rfl (V.mv (v := .p (.v (.int .i64 _))) rfl ?_)
     refine So.e ?_
     refine ⟨r + 1, by first | rfl | omega | (simp; done) | (simp; omega), by omega, ⟨⟨⟨le_own2 (by first | rfl | omega) (by first | rfl | omega | (simp; done) | (simp; omega)), rfl⟩, ⟨le_int (by first | rfl | omega | (simp; done) | (simp; omega)), trivial⟩, ⟨.refl _, trivial⟩, ⟨.refl _, trivial⟩, trivial⟩, ⟨⟨_, rfl, .inl (ob_bs (by first | rfl | ((try dsimp only); first | rfl | omega | (simp; done) | (simp; omega))) (by first | rfl | ((try dsimp only); first | rfl | omega | (simp; done) | (simp; omega)))), trivial⟩, ⟨_, rfl, .inl rfl, ⟨trivial, trivial, trivial, trivial, trivial, trivial, trivial, trivial, rfl, trivial, trivial⟩⟩, ⟨_, rfl, .inl rfl, trivial⟩, ⟨_, rfl, .inl rfl, trivial⟩, ⟨_, rfl, .inl rfl, trivial⟩, ⟨_, rfl, .inl rfl, trivial⟩, trivial⟩⟩⟩
    ·have h5 := of_decide_eq_false h5
     refine HT.exit ?_
     show HT _ _ _ _ _
     refine HT.seq ?_
     refine HT.region S_hsum_ok ?_
     refine So.q rfl rfl (V.mv (v := .own 6 0 _) rfl ?_)
     refine So.q rfl rfl (V.as (v := .own 6 0 _) rfl ?_)
     refine So.e ?_
     show HT _ _ _ _ _
     refine HT.ret ?_
     exact ret_ok (sg [(1, 1), (2, 2), (3, 6)]) h rfl rfl rfl ⟨⟨trivial, trivial, trivial, trivial, trivial, trivial, trivial, trivial, rfl, trivial, trivial⟩, trivial, trivial, trivial⟩ ⟨rfl, trivial⟩ rfl ⟨⟨⟨le_own2 (by first | rfl | omega) (by first | rfl | (replace hP3 : r = 8 := (by omega); subst hP3; first | rfl | (unfold sha; rw [su_2 (s := q) (by omega)]))), rfl⟩, trivial⟩, ⟨⟨_, rfl, .inl (by first | rfl | ((try dsimp only); (first | rfl | (replace hP3 : r = 8 := (by omega); subst hP3; first | rfl | (unfold sha; rw [su_2 (s := q) (by omega)]))))), ⟨trivial, trivial, trivial, trivial, trivial, trivial, trivial, trivial, rfl, trivial, trivial⟩⟩, ⟨_, rfl, .inl (ob_bs (by first | rfl | ((try dsimp only); (first | rfl | (replace hP3 : r = 8 := (by omega); subst hP3; first | rfl | (unfold sha; rw [su_2 (s := q) (by omega)]))))) (by first | rfl | ((try dsimp only); (first | rfl | (replace hP3 : r = 8 := (by omega); subst hP3; first | rfl | (unfold sha; rw [su_2 (s := q) (by omega)])))))), trivial⟩, ⟨_, rfl, .inl (ob_bs (by first | rfl | ((try dsimp only); (first | rfl | (replace hP3 : r = 8 := (by omega); subst hP3; first | rfl | (unfold sha; rw [su_2 (s := q) (by omega)]))))) (by first | rfl | ((try dsimp only); (first | rfl | (replace hP3 : r = 8 := (by omega); subst hP3; first | rfl | (unfold sha; rw [su_2 (s := q) (by omega)])))))), trivial⟩, trivial⟩⟩
end Go.Vh

set_option linter.unusedVariables false
set_option linter.unusedSimpArgs false
namespace Go.Vh
open Go Go.Vc Go.Proofs Go.Vw
def shasumSp : Sp := ⟨[], mkE (α := (List UInt8)) (fun b => [.p (.bs (b))]) (fun b => []) (fun b => b.length ≤ 1099511627776) (fun b => [.own 2 (0) (32)]) (fun b => [(2, ⟨5, 1, 32, true, .bs (sha b)⟩)])⟩
def S_shasum : FuncId → Option Sp := fun f => if f = 55 then some newSp else if f = 56 then some writeSp else if f = 57 then some hsumSp else none
theorem S_shasum_ok : ∀ f s, S_shasum f = some s → FOK Tryd.prog gl f s := fun f s h => by
 unfold S_shasum at h
 split at h
 ·rename_i e; cases h; subst e; exact new_ok
 split at h
 ·rename_i e; cases h; subst e; exact write_ok
 split at h
 ·rename_i e; cases h; subst e; exact hsum_ok
 cases h
set_option maxHeartbeats 1000000 in
set_option maxRecDepth 20000 in
theorem shasum_ok : FOK Tryd.prog gl 53 shasumSp := by
 refine FOK.ofE (tyOf_ok Tryd.prog) (slots := [2]) (nt := 10) Tryd.func53 rfl rfl rfl rfl (by decide) 1 (fun _ => rfl) (by decide) (fun _ => ⟨trivial, trivial⟩) ?_
 rintro b kk hlen hpre h
 have hl0 : (b).length ≤ 9223372036854775807 := hlen.1
 replace hpre : b.length ≤ 1099511627776 := hpre
 show HT (cx Tryd.prog 10 (tyOf Tryd.prog) gl []) _ [(0, .p (.bs (b)))] [] _
 refine HT.seq ?_
 refine HT.region S_shasum_ok ?_
 refine So.q rfl rfl (V.as (v := .p (.v (.slice none 0 0))) rfl ?_)
 refine So.e ?_
 show HT _ _ _ _ _
 refine HT.seq ?_
 refine HT.region S_shasum_ok ?_
 refine So.n (lk rfl) (A.call0 [] 1 rfl rfl rfl rfl trivial trivial () trivial trivial (by trivial) (Φ := fun _ => True) (fun _ _ => trivial) (.inl rfl) (v := .ptr 2 0) rfl (O' := (2, ⟨101, 1, _, true, .cells _⟩) :: (3, ⟨5, 1, _, true, .bs _⟩) :: _) rfl (fun h1 => ?_))
 refine So.q rfl rfl (V.as (v := .ptr 2 0) rfl ?_)
 refine So.e ?_
 show HT _ _ _ _ _
 refine HT.seq ?_
 refine HT.region S_shasum_ok ?_
 refine So.q rfl rfl (V.mv (v := .ptr 2 0) rfl ?_)
 refine So.q rfl rfl (V.mv (v := .p (.bs _)) rfl ?_)
 refine So.n (lk rfl) (A.call [.ptr 1 _, .p (.bs _)] [(1, ⟨_, _, _, _, .cells [.p (.u32 _), .p (.u32 _), .p (.u32 _), .p (.u32 _), .p (.u32 _), .p (.u32 _), .p (.u32 _), .p (.u32 _), .own 2 _ _, .p (.u64 _)]⟩), (2, ⟨_, _, _, _, .bs _⟩)] (sg [(1, 2), (2, 3)]) 4 rfl rfl rfl rfl ⟨rfl, rfl, trivial⟩ rfl ⟨⟨trivial, trivial, trivial, trivial, trivial, trivial, trivial, trivial, rfl, trivial, trivial⟩, trivial, trivial⟩ ⟨rfl, trivial, trivial⟩ trivial rfl (nl, b, nl) ⟨.refl _, .refl _, trivial⟩ ⟨⟨_, rfl, .inl rfl, ⟨trivial, trivial, trivial, trivial, trivial, trivial, trivial, trivial, rfl, trivial, trivial⟩⟩, ⟨_, rfl, .inl rfl, trivial⟩, trivial⟩ (by first | omega | (simp; done) | (simp; omega)) (Φ := fun _ => True) (fun _ _ => trivial) ⟨⟨_, _, rfl, rfl, rfl, Nat.le_refl _⟩, trivial⟩ (.inl rfl) rfl (v := .tup 0 _) rfl (O' := (2, ⟨_, _, _, _, .cells _⟩) :: (6, ⟨_, _, _, _, .bs _⟩) :: _) rfl (fun h2 => ?_))
 refine So.e ?_
 show HT _ _ _ _ _
 refine HT.seq ?_
 refine HT.region S_shasum_ok ?_
 refine So.q rfl rfl (V.mv (v := .ptr 2 0) rfl ?_)
 refine So.n (lk rfl) (A.call [.ptr 1 _] [(1, ⟨_, _, _, _, .cells [.p (.u32 _), .p (.u32 _), .p (.u32 _), .p (.u32 _), .p (.u32 _), .p (.u32 _), .p (.u32 _), .p (.u32 _), .own 2 _ _, .p (.u64 _)]⟩), (2, ⟨_, _, _, _, .bs _⟩)] (sg [(1, 2), (2, 6)]) 7 rfl rfl rfl rfl ⟨rfl, rfl, trivial⟩ rfl ⟨⟨trivial, trivial, trivial, trivial, trivial, trivial, trivial, trivial, rfl, trivial, trivial⟩, trivial, trivial⟩ ⟨rfl, trivial⟩ trivial rfl (nl ++ b, jn nl b) ⟨.refl _, trivial⟩ ⟨⟨_, rfl, .inl rfl, ⟨trivial, trivial, trivial, trivial, trivial, trivial, trivial, trivial, rfl, trivial, trivial⟩⟩, ⟨_, rfl, .inl rfl, trivial⟩, trivial⟩ (by first | omega | (simp [jn_len, rst]; omega)) (Φ := fun _ => True) (fun _ _ => trivial) ⟨⟨_, _, rfl, rfl, rfl, Nat.le_refl _⟩, ⟨_, _, rfl, rfl, rfl, Nat.le_refl _⟩, trivial⟩ (.inl rfl) rfl (v := .own 10 0 _) rfl (O' := (2, ⟨_, _, _, _, .cells _⟩) :: (6, ⟨_, _, _, _, .bs _⟩) :: (10, ⟨_, _, _, _, .bs _⟩) :: _) rfl (fun h3 => ?_))
 refine So.q rfl rfl (V.as (v := .own 10 0 _) rfl ?_)
 refine So.e ?_
 show HT _ _ _ _ _
 refine HT.ret ?_
 exact ret_ok (sg [(2, 10)]) h rfl rfl rfl ⟨trivial, trivial⟩ ⟨rfl, trivial⟩ rfl ⟨⟨⟨le_own2 (by first | rfl | omega) (by first | rfl), rfl⟩, trivial⟩, ⟨⟨_, rfl, .inl (ob_bs (by first | rfl | ((try dsimp only); (first | rfl))) (by first | rfl | ((try dsimp only); (first | rfl)))), trivial⟩, trivial⟩⟩
end Go.Vh

set_option linter.unusedVariables false
set_option linter.unusedSimpArgs false
namespace Go.Vh
open Go Go.Vc Go.Proofs Go.Vw
def hmacSp : Sp := ⟨[], mkE (α := (List UInt8) × (List UInt8)) (fun (k, t) => [.p (.bs (k)), .p (.bs (t))]) (fun (k, t) => []) (fun (k, t) => k.length ≤ 1000000000 ∧ t.length ≤ 1000000000) (fun (k, t) => [.own 2 (0) (32)]) (fun (k, t) => [(2, ⟨5, 1, 32, true, .bs (mac k t)⟩)])⟩
def S_hmac : FuncId → Option Sp := fun f => if f = 53 then some shasumSp else if f = 55 then some newSp else if f = 54 then some padcSp else if f = 56 then some writeSp else if f = 57 then some hsumSp else none
theorem S_hmac_ok : ∀ f s, S_hmac f = some s → FOK Tryd.prog gl f s := fun f s h => by
 unfold S_hmac at h
 split at h
 ·rename_i e; cases h; subst e; exact shasum_ok
 split at h
 ·rename_i e; cases h; subst e; exact new_ok
 split at h
 ·rename_i e; cases h; subst e; exact padc_ok
 split at h
 ·rename_i e; cases h; subst e; exact write_ok
 split at h
 ·rename_i e; cases h; subst e; exact hsum_ok
 cases h
set_option maxHeartbeats 1000000 in
set_option maxRecDepth 20000 in
theorem hmac_ok : FOK Tryd.prog gl 43 hmacSp := by
 refine FOK.ofE (tyOf_ok Tryd.prog) (slots := [4]) (nt := 29) Tryd.func43 rfl rfl rfl rfl (by decide) 2 (fun ⟨_, _⟩ => rfl) (by decide) (fun ⟨_, _⟩ => ⟨trivial, trivial, trivial⟩) ?_
 rintro ⟨k, t⟩ kk hlen hpre h
 have hl0 : (k).length ≤ 9223372036854775807 := hlen.1
 have hl1 : (t).length ≤ 9223372036854775807 := hlen.2.1
 replace hpre : k.length ≤ 1000000000 ∧ t.length ≤ 1000000000 := hpre
 show HT (cx Tryd.prog 29 (tyOf Tryd.prog) gl []) _ [(0, .p (.bs (k))), (1, .p (.bs (t)))] [] _
 have hk0 := key0_le k
 have hp1 := padF_len (key0 k) 54
 have hp2 := padF_len (key0 k) 92
 have hs0 := sha_len (padF (key0 k) 54 ++ t)
 have hs1 := sha_len (nl ++ padF (key0 k) 54 ++ t)
 have hj1 : (jn nl (padF (key0 k) 54)).length ≤ 64 := by rw [jn_len]; simp [rst]; omega
 have hj2 : (jn (nl ++ padF (key0 k) 54) t).length ≤ 1000000064 := by have := rst_len (nl ++ padF (key0 k) 54); rw [jn_len, List.length_append]; omega
 have hnl : (nl ++ padF (key0 k) 54).length = 64 := hp1
 have hnt : (nl ++ padF (key0 k) 54 ++ t).length = 64 + t.length := by rw [List.length_append, hnl]
 refine HT.seq ?_
 refine HT.region S_hmac_ok ?_
 refine So.n (lk rfl) (A.box1 1 (v := .p (.bs _)) rfl (by first | rfl | trivial) rfl rfl trivial ?_)
 refine So.q rfl rfl (V.as (v := .p (.v (.slice none 0 0))) rfl ?_)
 refine So.e ?_
 show HT _ _ _ _ _
 refine R.cut (True) [] [(1, ⟨22, 1, 1, true, .cells [.p (.bs (key0 k))]⟩)] [1, 2, 4] [] (fr0 := [(1, .p (.bs _)), (2, .ptr 1 0), (4, .p (.v (.slice none 0 0)))]) (O0 := []) rfl rfl ?_ (fun hphi => ?_)
 ·refine HT.seq ?_
  refine HT.region S_hmac_ok ?_
  refine So.q rfl rfl (V.ldPtr ty22 rfl rfl rfl (lk rfl) (v := .p (.bs _)) rfl ?_)
  refine So.q rfl rfl (V.len ty22 (v := .p (.bs _)) rfl rfl ?_)
  refine So.q rfl rfl (V.bin (a := (.v (.int .i64 _))) (b := (.v (.int .i64 (64)))) (r := .v (.bool _)) rfl rfl rfl trivial ?_)
  refine So.e ?_
  show HT _ _ _ _ _
  refine R.cond rfl rfl (fun h1 => ?_) (fun h1 => ?_)
  ·have h1 := of_decide_eq_true h1
   refine HT.region S_hmac_ok ?_
   refine So.q rfl rfl (V.ldPtr ty22 rfl rfl rfl (lk rfl) (v := .p (.bs _)) rfl ?_)
   refine So.n (lk rfl) (A.call0F S_hmac_ok [.p (.bs _)] 2 rfl rfl rfl rfl ⟨trivial, trivial⟩ trivial _ ⟨.refl _, trivial⟩ trivial (by first | omega | (simp; done) | (simp; omega)) (Φ := fun _ => True) (fun _ _ => trivial) (.inl rfl) (t := 4) (off := 0) rfl (O' := (4, ⟨5, 1, _, true, .bs _⟩) :: _) rfl rfl rfl (y := .p (.bs _)) rfl rfl (fun h2 => ?_))
   refine So.s (A.sto ty22 rfl rfl rfl (v := .p (.bs _)) rfl trivial rfl (lk rfl) rfl rfl ?_)
   refine So.e ?_
   exact ⟨by first | trivial | (unfold key0; rw [if_pos (by omega)]; rfl) | (unfold key0; rw [if_pos (by omega), ap_sha k]; rfl) | (unfold key0; rw [if_neg (by omega)]; done) | (unfold key0; rw [if_neg (by omega)]; rfl), ⟨⟨⟨.refl _, trivial⟩, ⟨.refl _, rfl⟩, ⟨.refl _, trivial⟩, trivial⟩, ⟨⟨_, rfl, .inl (by first | rfl | ((try dsimp only); first | trivial | (unfold key0; rw [if_pos (by omega)]; rfl) | (unfold key0; rw [if_pos (by omega), ap_sha k]; rfl) | (unfold key0; rw [if_neg (by omega)]; done) | (unfold key0; rw [if_neg (by omega)]; rfl))), ⟨trivial, trivial⟩⟩, trivial⟩⟩⟩
  ·have h1 := of_decide_eq_false h1
   refine HT.skip ?_
   exact ⟨by first | trivial | (unfold key0; rw [if_pos (by omega)]; rfl) | (unfold key0; rw [if_pos (by omega), ap_sha k]; rfl) | (unfold key0; rw [if_neg (by omega)]; done) | (unfold key0; rw [if_neg (by omega)]; rfl), ⟨⟨⟨.refl _, trivial⟩, ⟨.refl _, rfl⟩, ⟨.refl _, trivial⟩, trivial⟩, ⟨⟨_, rfl, .inl (by first | rfl | ((try dsimp only); first | trivial | (unfold key0; rw [if_pos (by omega)]; rfl) | (unfold key0; rw [if_pos (by omega), ap_sha k]; rfl) | (unfold key0; rw [if_neg (by omega)]; done) | (unfold key0; rw [if_neg (by omega)]; rfl))), ⟨trivial, trivial⟩⟩, trivial⟩⟩⟩
 ·refine HT.seq ?_
  refine HT.region S_hmac_ok ?_
  refine So.n (lk rfl) (A.mkf (cs := [.ptr 1 _]) rfl rfl ?_)
  refine So.q rfl rfl (V.as (v := .clo 54 [.ptr 1 _]) rfl ?_)
  refine So.e ?_
  show HT _ _ _ _ _
  refine HT.seq ?_
  refine HT.region S_hmac_ok ?_
  refine So.n (lk rfl) (A.call0 [] 2 rfl rfl rfl rfl trivial trivial () trivial trivial (by trivial) (Φ := fun _ => True) (fun _ _ => trivial) (.inl rfl) (v := .ptr 3 0) rfl (O' := (3, ⟨101, 1, _, true, .cells _⟩) :: (4, ⟨5, 1, _, true, .bs _⟩) :: _) rfl (fun h3 => ?_))
  refine So.q rfl rfl (V.as (v := .ptr 3 0) rfl ?_)
  refine So.e ?_
  show HT _ _ _ _ _
  refine HT.seq ?_
  refine HT.region S_hmac_ok ?_
  refine So.q rfl rfl (V.mv (v := .ptr 3 0) rfl ?_)
  refine So.q rfl rfl (V.mv (v := .clo 54 [.ptr 1 _]) rfl ?_)
  refine So.n (lk rfl) (A.call [.p (.u8 _), .ptr 1 _] [(1, ⟨_, _, _, _, .cells [.p (.bs _)]⟩)] (sg [(1, 1)]) 5 rfl rfl rfl rfl ⟨rfl, trivial⟩ rfl ⟨⟨trivial, trivial⟩, trivial⟩ ⟨trivial, rfl, trivial⟩ trivial rfl (54, key0 k) ⟨.refl _, .refl _, trivial⟩ ⟨⟨_, rfl, .inl rfl, ⟨trivial, trivial⟩⟩, trivial⟩ (by first | omega | exact key0_le _) (Φ := fun _ => True) (fun _ _ => trivial) ⟨⟨_, _, rfl, rfl, rfl, Nat.le_refl _⟩, trivial⟩ (.inl rfl) rfl (v := .own 7 0 _) rfl (O' := (1, ⟨_, _, _, _, .cells _⟩) :: (7, ⟨_, _, _, _, .bs _⟩) :: _) rfl (fun h4 => ?_))
  refine So.n (lk rfl) (A.call [.ptr 1 _, .p (.bs _)] [(1, ⟨_, _, _, _, .cells [.p (.u32 _), .p (.u32 _), .p (.u32 _), .p (.u32 _), .p (.u32 _), .p (.u32 _), .p (.u32 _), .p (.u32 _), .own 2 _ _, .p (.u64 _)]⟩), (2, ⟨_, _, _, _, .bs _⟩)] (sg [(1, 3), (2, 4)]) 8 rfl rfl rfl rfl ⟨rfl, rfl, trivial⟩ rfl ⟨⟨trivial, trivial, trivial, trivial, trivial, trivial, trivial, trivial, rfl, trivial, trivial⟩, trivial, trivial⟩ ⟨rfl, trivial, trivial⟩ trivial rfl (nl, padF (key0 k) 54, nl) ⟨.refl _, le_bs (by rw [List.drop_zero, List.take_of_length_le (by omega)]), trivial⟩ ⟨⟨_, rfl, .inl rfl, ⟨trivial, trivial, trivial, trivial, trivial, trivial, trivial, trivial, rfl, trivial, trivial⟩⟩, ⟨_, rfl, .inl rfl, trivial⟩, trivial⟩ (by first | omega | (simp; done) | (simp; omega)) (Φ := fun _ => True) (fun _ _ => trivial) ⟨⟨_, _, rfl, rfl, rfl, Nat.le_refl _⟩, trivial⟩ (.inr ⟨fun _ hj => absurd hj (Nat.not_lt_zero _), by simp [Hp.scal, OC.scal, PV.scal, BV.scal]⟩) rfl (v := .tup 0 _) rfl (O' := (3, ⟨_, _, _, _, .cells _⟩) :: (10, ⟨_, _, _, _, .bs _⟩) :: _) rfl (fun h5 => ?_))
  refine So.e ?_
  show HT _ _ _ _ _
  refine HT.seq ?_
  refine R.norm [1, 4, 5, 6] [1, 3, 10] (fr0 := [(1, .p (.bs _)), (4, .p (.v (.slice none 0 0))), (5, .clo 54 [.ptr 1 _]), (6, .ptr 3 0)]) (O0 := [(1, ⟨_, _, _, _, .cells [.p (.bs _)]⟩), (3, ⟨_, _, _, _, .cells [.p (.u32 _), .p (.u32 _), .p (.u32 _), .p (.u32 _), .p (.u32 _), .p (.u32 _), .p (.u32 _), .p (.u32 _), .own 10 _ _, .p (.u64 _)]⟩), (10, ⟨_, _, _, _, .bs _⟩)]) rfl rfl ⟨⟨⟨.refl _, trivial⟩, ⟨.refl _, trivial⟩, ⟨.refl _, ⟨rfl, trivial⟩⟩, ⟨.refl _, rfl⟩, trivial⟩, ⟨⟨_, rfl, .inl rfl, ⟨trivial, trivial⟩⟩, ⟨_, rfl, .inl rfl, ⟨trivial, trivial, trivial, trivial, trivial, trivial, trivial, trivial, rfl, trivial, trivial⟩⟩, ⟨_, rfl, .inl rfl, trivial⟩, trivial⟩⟩ ?_
  refine HT.region S_hmac_ok ?_
  refine So.q rfl rfl (V.mv (v := .ptr 3 0) rfl ?_)
  refine So.q rfl rfl (V.mv (v := .p (.bs _)) rfl ?_)
  refine So.n (lk rfl) (A.call [.ptr 1 _, .p (.bs _)] [(1, ⟨_, _, _, _, .cells [.p (.u32 _), .p (.u32 _), .p (.u32 _), .p (.u32 _), .p (.u32 _), .p (.u32 _), .p (.u32 _), .p (.u32 _), .own 2 _ _, .p (.u64 _)]⟩), (2, ⟨_, _, _, _, .bs _⟩)] (sg [(1, 3), (2, 10)]) 11 rfl rfl rfl rfl ⟨rfl, rfl, trivial⟩ rfl ⟨⟨trivial, trivial, trivial, trivial, trivial, trivial, trivial, trivial, rfl, trivial, trivial⟩, trivial, trivial⟩ ⟨rfl, trivial, trivial⟩ trivial rfl (nl ++ padF (key0 k) 54, t, jn nl (padF (key0 k) 54)) ⟨.refl _, .refl _, trivial⟩ ⟨⟨_, rfl, .inl rfl, ⟨trivial, trivial, trivial, trivial, trivial, trivial, trivial, trivial, rfl, trivial, trivial⟩⟩, ⟨_, rfl, .inl rfl, trivial⟩, trivial⟩ (by first | omega | (simp; done) | (simp; omega)) (Φ := fun _ => True) (fun _ _ => trivial) ⟨⟨_, _, rfl, rfl, rfl, Nat.le_refl _⟩, trivial⟩ (.inl rfl) rfl (v := .tup 0 _) rfl (O' := (3, ⟨_, _, _, _, .cells _⟩) :: (13, ⟨_, _, _, _, .bs _⟩) :: _) rfl (fun h6 => ?_))
  refine So.e ?_
  show HT _ _ _ _ _
  refine HT.seq ?_
  refine R.norm [4, 5, 6] [1, 3, 13] (fr0 := [(4, .p (.v (.slice none 0 0))), (5, .clo 54 [.ptr 1 _]), (6, .ptr 3 0)]) (O0 := [(1, ⟨_, _, _, _, .cells [.p (.bs _)]⟩), (3, ⟨_, _, _, _, .cells [.p (.u32 _), .p (.u32 _), .p (.u32 _), .p (.u32 _), .p (.u32 _), .p (.u32 _), .p (.u32 _), .p (.u32 _), .own 13 _ _, .p (.u64 _)]⟩), (13, ⟨_, _, _, _, .bs _⟩)]) rfl rfl ⟨⟨⟨.refl _, trivial⟩, ⟨.refl _, ⟨rfl, trivial⟩⟩, ⟨.refl _, rfl⟩, trivial⟩, ⟨⟨_, rfl, .inl rfl, ⟨trivial, trivial⟩⟩, ⟨_, rfl, .inl rfl, ⟨trivial, trivial, trivial, trivial, trivial, trivial, trivial, trivial, rfl, trivial, trivial⟩⟩, ⟨_, rfl, .inl rfl, trivial⟩, trivial⟩⟩ ?_
  refine HT.region S_hmac_ok ?_
  refine So.q rfl rfl (V.mv (v := .ptr 3 0) rfl ?_)
  refine So.n (lk rfl) (A.call [.ptr 1 _] [(1, ⟨_, _, _, _, .cells [.p (.u32 _), .p (.u32 _), .p (.u32 _), .p (.u32 _), .p (.u32 _), .p (.u32 _), .p (.u32 _), .p (.u32 _), .own 2 _ _, .p (.u64 _)]⟩), (2, ⟨_, _, _, _, .bs _⟩)] (sg [(1, 3), (2, 13)]) 14 rfl rfl rfl rfl ⟨rfl, rfl, trivial⟩ rfl ⟨⟨trivial, trivial, trivial, trivial, trivial, trivial, trivial, trivial, rfl, trivial, trivial⟩, trivial, trivial⟩ ⟨rfl, trivial⟩ trivial rfl ((nl ++ padF (key0 k) 54) ++ t, jn (nl ++ padF (key0 k) 54) t) ⟨.refl _, trivial⟩ ⟨⟨_, rfl, .inl rfl, ⟨trivial, trivial, trivial, trivial, trivial, trivial, trivial, trivial, rfl, trivial, trivial⟩⟩, ⟨_, rfl, .inl rfl, trivial⟩, trivial⟩ (by first | omega | (simp [jn_len, rst]; omega)) (Φ := fun _ => True) (fun _ _ => trivial) ⟨⟨_, _, rfl, rfl, rfl, Nat.le_refl _⟩, ⟨_, _, rfl, rfl, rfl, Nat.le_refl _⟩, trivial⟩ (.inl rfl) rfl (v := .own 17 0 _) rfl (O' := (3, ⟨_, _, _, _, .cells _⟩) :: (13, ⟨_, _, _, _, .bs _⟩) :: (17, ⟨_, _, _, _, .bs _⟩) :: _) rfl (fun h7 => ?_))
  refine So.q rfl rfl (V.as (v := .own 17 0 _) rfl ?_)
  refine So.e ?_
  show HT _ _ _ _ _
  refine HT.seq ?_
  refine R.norm [4, 5, 7] [1, 17] (fr0 := [(4, .p (.v (.slice none 0 0))), (5, .clo 54 [.ptr 1 _]), (7, .own 17 0 _)]) (O0 := [(1, ⟨_, _, _, _, .cells [.p (.bs _)]⟩), (17, ⟨_, _, _, _, .bs _⟩)]) rfl rfl ⟨⟨⟨.refl _, trivial⟩, ⟨.refl _, ⟨rfl, trivial⟩⟩, ⟨.refl _, rfl⟩, trivial⟩, ⟨⟨_, rfl, .inl rfl, ⟨trivial, trivial⟩⟩, ⟨_, rfl, .inl rfl, trivial⟩, trivial⟩⟩ ?_
  refine HT.region S_hmac_ok ?_
  refine So.q rfl rfl (V.mv (v := .clo 54 [.ptr 1 _]) rfl ?_)
  refine So.n (lk rfl) (A.call [.p (.u8 _), .ptr 1 _] [(1, ⟨_, _, _, _, .cells [.p (.bs _)]⟩)] (sg [(1, 1)]) 18 rfl rfl rfl rfl ⟨rfl, trivial⟩ rfl ⟨⟨trivial, trivial⟩, trivial⟩ ⟨trivial, rfl, trivial⟩ trivial rfl (92, key0 k) ⟨.refl _, .refl _, trivial⟩ ⟨⟨_, rfl, .inl rfl, ⟨trivial, trivial⟩⟩, trivial⟩ (by first | omega | exact key0_le _) (Φ := fun _ => True) (fun _ _ => trivial) ⟨⟨_, _, rfl, rfl, rfl, Nat.le_refl _⟩, trivial⟩ (.inl rfl) rfl (v := .own 20 0 _) rfl (O' := (1, ⟨_, _, _, _, .cells _⟩) :: (20, ⟨_, _, _, _, .bs _⟩) :: _) rfl (fun h8 => ?_))
  refine So.q rfl rfl (V.mv (v := .own 17 0 _) rfl ?_)
  refine So.n (lk rfl) (A.apOwn ty22 ty5 rfl rfl rfl rfl (u := .own 17 0 _) rfl rfl (l' := padF (key0 k) 92 ++ sha (padF (key0 k) 54 ++ t)) (by rw [ap_full (by omega)]; rw [List.drop_zero, List.take_of_length_le (by omega)]; rfl) (mn := 96) (by rfl) (by first | rfl | omega | (simp; done) | (simp; omega)) rfl rfl rfl ?_)
  refine So.n (lk rfl) (A.call0 [.p (.bs _)] 21 rfl rfl rfl rfl ⟨trivial, trivial⟩ trivial (padF (key0 k) 92 ++ sha (padF (key0 k) 54 ++ t)) ⟨le_bs (by rw [List.drop_zero, List.take_of_length_le (by rw [List.length_append]; omega)]), trivial⟩ trivial (by first | omega | (simp; done) | (simp; omega)) (Φ := fun _ => True) (fun _ _ => trivial) (.inr ⟨trivial, by simp [Hp.scal, OC.scal, PV.scal, BV.scal]⟩) (v := .own 23 0 _) rfl (O' := (23, ⟨5, 1, _, true, .bs _⟩) :: _) rfl (fun h9 => ?_))
  refine So.q rfl rfl (V.as (v := .own 23 0 _) rfl ?_)
  refine So.e ?_
  show HT _ _ _ _ _
  refine HT.ret ?_
  exact ret_ok (sg [(2, 23)]) h rfl rfl rfl ⟨trivial, trivial⟩ ⟨rfl, trivial⟩ rfl ⟨⟨⟨le_own2 (by first | rfl | omega) (by first | (unfold mac; rfl) | rfl), rfl⟩, trivial⟩, ⟨⟨_, rfl, .inl (ob_bs (by first | rfl | ((try dsimp only); (first | (unfold mac; rfl) | rfl))) (by first | rfl | ((try dsimp only); (first | (unfold mac; rfl) | rfl)))), trivial⟩, trivial⟩⟩
end Go.Vh

set_option linter.unusedVariables false
set_option linter.unusedSimpArgs false
namespace Go.Vh
open Go Go.Vc Go.Proofs Go.Vw
def ftagmSp : Sp := ⟨[], mkE (α := (List UInt8) × (List UInt8) × Int × Int × Int × (List UInt8) × (List UInt8) × (List UInt8) × (List UInt8)) (fun (k, g, ep, fr, kd, bd, sn, cf, mb) => [.p (.bs (k)), .agg 8 (fun j => ([.bs g, .v (.int .i64 ep), .v (.int .i64 fr), .v (.int .i64 kd), .bs bd, .bs sn, .bs cf, .bs mb] : List PV).getD j (.v undef))]) (fun (k, g, ep, fr, kd, bd, sn, cf, mb) => []) (fun (k, g, ep, fr, kd, bd, sn, cf, mb) => k.length ≤ 1000000000) (fun (k, g, ep, fr, kd, bd, sn, cf, mb) => [.own 2 (0) ((tagF k g ep fr kd bd sn cf mb).length)]) (fun (k, g, ep, fr, kd, bd, sn, cf, mb) => [(2, ⟨5, 1, (tagF k g ep fr kd bd sn cf mb).length, true, .bs (tagF k g ep fr kd bd sn cf mb)⟩)])⟩
def S_ftagm : FuncId → Option Sp := fun f => if f = 24 then some fmsgSp else if f = 10 then some fputSp else if f = 43 then some hmacSp else none
theorem S_ftagm_ok : ∀ f s, S_ftagm f = some s → FOK Tryd.prog gl f s := fun f s h => by
 unfold S_ftagm at h
 split at h
 ·rename_i e; cases h; subst e; exact fmsg_ok
 split at h
 ·rename_i e; cases h; subst e; exact fput_ok
 split at h
 ·rename_i e; cases h; subst e; exact hmac_ok
 cases h
set_option maxHeartbeats 1000000 in
set_option maxRecDepth 20000 in
theorem ftagm_ok : FOK Tryd.prog gl 22 ftagmSp := by
 refine FOK.ofE (tyOf_ok Tryd.prog) (slots := [4]) (nt := 19) Tryd.func22 rfl rfl rfl rfl (by decide) 2 (fun ⟨_, _, _, _, _, _, _, _, _⟩ => rfl) (by decide) (fun ⟨_, _, _, _, _, _, _, _, _⟩ => ⟨trivial, trivial, trivial⟩) ?_
 rintro ⟨k, g, ep, fr, kd, bd, sn, cf, mb⟩ kk hlen hpre h
 have hl0 : (k).length ≤ 9223372036854775807 := hlen.1
 replace hpre : k.length ≤ 1000000000 := hpre
 show HT (cx Tryd.prog 19 (tyOf Tryd.prog) gl []) _ [(0, .p (.bs (k))), (1, .agg 8 (fun j => ([.bs g, .v (.int .i64 ep), .v (.int .i64 fr), .v (.int .i64 kd), .bs bd, .bs sn, .bs cf, .bs mb] : List PV).getD j (.v undef)))] [] _
 have hpl := put_len g ep fr kd bd sn cf []
 refine HT.seq ?_
 refine HT.region S_ftagm_ok ?_
 refine So.n (lk rfl) (A.boxAg 1 1 (n := 8) rfl (by intro j hj; first | rfl | trivial | (match j, hj with | 0, _ => (first | trivial | rfl) | 1, _ => (first | trivial | rfl) | 2, _ => (first | trivial | rfl) | 3, _ => (first | trivial | rfl) | 4, _ => (first | trivial | rfl) | 5, _ => (first | trivial | rfl) | 6, _ => (first | trivial | rfl) | 7, _ => (first | trivial | rfl)) | (split <;> first | rfl | trivial | (split <;> first | rfl | trivial))) rfl trivial ?_)
 refine So.q rfl rfl (V.as (v := .p (.v (.slice none 0 0))) rfl ?_)
 refine So.e ?_
 show HT _ _ _ _ _
 refine HT.seq ?_
 refine HT.seq ?_
 refine HT.region S_ftagm_ok ?_
 refine So.q rfl rfl (V.ldPtrA ty26 rfl rfl rfl rfl (lk rfl) ?_)
 refine So.n (lk rfl) (A.call0 [.agg 8 _] 2 rfl rfl rfl rfl ⟨trivial, trivial⟩ trivial (g, ep, fr, kd, bd, sn, cf, mb) ⟨le_agg (fun j hj => by match j, hj with | 0, _ => rfl | 1, _ => rfl | 2, _ => rfl | 3, _ => rfl | 4, _ => rfl | 5, _ => rfl | 6, _ => rfl | 7, _ => rfl), trivial⟩ trivial (by trivial) (Φ := fun _ => True) (fun _ _ => trivial) (.inl rfl) (v := .p (.v (.bool _))) rfl (O' := _) rfl (fun h1 => ?_))
 refine So.q rfl rfl (V.not rfl ?_)
 refine So.e ?_
 show HT _ _ _ _ _
 refine R.cond rfl rfl (fun h2 => ?_) (fun h2 => ?_)
 ·have h2 := of_decide_eq_false (bnT h2)
  refine HT.seq ?_
  refine HT.region S_ftagm_ok ?_
  refine So.q rfl rfl (V.as (v := .p (.v (.slice none 0 0))) rfl ?_)
  refine So.e ?_
  show HT _ _ _ _ _
  refine R.phan 4 2 5 1 (.bs []) rfl rfl rfl ⟨rfl, rfl⟩ ?_
  refine HT.ret ?_
  exact ret_ok (sg [(2, 2)]) h rfl rfl rfl ⟨trivial, trivial⟩ ⟨rfl, trivial⟩ rfl ⟨⟨⟨le_own2 (by first | rfl | omega) (by first | with_reducible rfl | (rw [tagF_no (by assumption)]; rfl) | (rw [tagF_no (by assumption)]; done) | (rw [tagF_yes (by assumption), mac_len]; done) | (rw [tagF_yes (by assumption)]; done)), rfl⟩, trivial⟩, ⟨⟨_, rfl, .inl (ob_bs (by first | rfl | ((try dsimp only); (first | with_reducible rfl | (rw [tagF_no (by assumption)]; rfl) | (rw [tagF_no (by assumption)]; done) | (rw [tagF_yes (by assumption), mac_len]; done) | (rw [tagF_yes (by assumption)]; done)))) (by first | rfl | ((try dsimp only); (first | with_reducible rfl | (rw [tagF_no (by assumption)]; rfl) | (rw [tagF_no (by assumption)]; done) | (rw [tagF_yes (by assumption), mac_len]; done) | (rw [tagF_yes (by assumption)]; done))))), trivial⟩, trivial⟩⟩
 ·have h2 := of_decide_eq_true (bnF h2)
  refine HT.skip ?_
  show HT _ _ _ _ _
  refine HT.seq ?_
  refine HT.region S_ftagm_ok ?_
  refine So.q rfl rfl (V.faPtr ty26 rfl ty22 (lk rfl) rfl rfl (lk rfl) ?_)
  refine So.s (A.sto ty22 rfl rfl rfl (v := .p (.v (.slice none 0 0))) rfl rfl rfl (lk rfl) rfl rfl ?_)
  refine So.e ?_
  show HT _ _ _ _ _
  refine HT.seq ?_
  refine HT.region S_ftagm_ok ?_
  refine So.q rfl rfl (V.ldPtrA ty26 rfl rfl rfl rfl (lk rfl) ?_)
  refine So.n (lk rfl) (A.call0 [.agg 8 _] 2 rfl rfl rfl rfl ⟨trivial, trivial⟩ trivial (g, ep, fr, kd, bd, sn, cf, []) ⟨.agg _ _ _ (fun j hj => by match j, hj with | 0, _ => exact .refl _ | 1, _ => exact .refl _ | 2, _ => exact .refl _ | 3, _ => exact .refl _ | 4, _ => exact .refl _ | 5, _ => exact .refl _ | 6, _ => exact .refl _ | 7, _ => exact .nilBs), trivial⟩ trivial (by trivial) (Φ := fun _ => True) (fun _ _ => trivial) (.inl rfl) (v := .tup 2 _) rfl (O' := (4, ⟨5, 1, _, true, .bs _⟩) :: _) rfl (fun h3 => ?_))
  refine So.q rfl rfl (V.mv (v := .tup 2 _) rfl ?_)
  refine So.q rfl rfl (V.ext rfl (lk rfl) (v := .own 4 0 _) rfl ?_)
  refine So.q rfl rfl (V.ext rfl (lk rfl) (v := .p (.v (.int .i64 _))) rfl ?_)
  refine So.q rfl rfl (V.as (v := .own 4 0 _) rfl ?_)
  refine So.q rfl rfl (V.as (v := .p (.v (.int .i64 _))) rfl ?_)
  refine So.e ?_
  show HT _ _ _ _ _
  refine HT.seq ?_
  refine HT.region S_ftagm_ok ?_
  refine So.q rfl rfl (V.mv (v := .p (.bs _)) rfl ?_)
  refine So.q rfl rfl (V.mv (v := .own 4 0 _) rfl ?_)
  refine So.n (lk rfl) (A.call0 [.p (.bs _), .p (.bs _)] 5 rfl rfl rfl rfl ⟨trivial, trivial, trivial⟩ trivial (k, putF g ep fr kd bd sn cf []) ⟨.refl _, le_full, trivial⟩ trivial (by first | omega | (simp only [List.drop_zero, List.take_length]; omega) | (simp; done) | (simp; omega)) (Φ := fun _ => True) (fun _ _ => trivial) (.inr ⟨trivial, by simp [Hp.scal, OC.scal, PV.scal, BV.scal]⟩) (v := .own 7 0 _) rfl (O' := (7, ⟨5, 1, _, true, .bs _⟩) :: _) rfl (fun h4 => ?_))
  refine So.q rfl rfl (V.as (v := .own 7 0 _) rfl ?_)
  refine So.e ?_
  show HT _ _ _ _ _
  refine HT.ret ?_
  exact ret_ok (sg [(2, 7)]) h rfl rfl rfl ⟨trivial, trivial⟩ ⟨rfl, trivial⟩ rfl ⟨⟨⟨le_own2 (by first | rfl | omega) (by first | with_reducible rfl | (rw [tagF_no (by assumption)]; rfl) | (rw [tagF_no (by assumption)]; done) | (rw [tagF_yes (by assumption), mac_len]; done) | (rw [tagF_yes (by assumption)]; done)), rfl⟩, trivial⟩, ⟨⟨_, rfl, .inl (ob_bs (by first | rfl | ((try dsimp only); (first | with_reducible rfl | (rw [tagF_no (by assumption)]; rfl) | (rw [tagF_no (by assumption)]; done) | (rw [tagF_yes (by assumption), mac_len]; done) | (rw [tagF_yes (by assumption)]; done)))) (by first | rfl | ((try dsimp only); (first | with_reducible rfl | (rw [tagF_no (by assumption)]; rfl) | (rw [tagF_no (by assumption)]; done) | (rw [tagF_yes (by assumption), mac_len]; done) | (rw [tagF_yes (by assumption)]; done))))), trivial⟩, trivial⟩⟩
end Go.Vh

set_option linter.unusedVariables false
set_option linter.unusedSimpArgs false
namespace Go.Vh
open Go Go.Vc Go.Proofs Go.Vw
def greatSp : Sp := ⟨[], mkE (α := (List (List UInt8))) (fun l => [.p (.sl (l).length 1 (fun j => .bs ((l).getD j [])))]) (fun l => []) (fun l => True) (fun l => [.p (.v (.bool (greatF l)))]) (fun l => [])⟩
def S_great : FuncId → Option Sp := fun _ => none
theorem S_great_ok : ∀ f s, S_great f = some s → FOK Tryd.prog gl f s := fun f s h => by cases h
set_option maxHeartbeats 1000000 in
set_option maxRecDepth 1000 in
theorem great_ok : FOK Tryd.prog gl 9 greatSp := by
 refine FOK.ofE (tyOf_ok Tryd.prog) (slots := [2]) (nt := 16) Tryd.func9 rfl rfl rfl rfl (by decide) 1 (fun _ => rfl) (by decide) (fun _ => ⟨trivial, trivial⟩) ?_
 rintro l kk hlen hpre h
 have hl0 : (l).length ≤ 9223372036854775807 := hlen.1
 replace hpre : True := hpre
 show HT (cx Tryd.prog 16 (tyOf Tryd.prog) gl []) _ [(0, .p (.sl (l).length 1 (fun j => .bs ((l).getD j []))))] [] _
 refine HT.seq ?_
 refine HT.region S_great_ok ?_
 refine So.q rfl rfl (V.as (v := .p (.v (.bool false))) rfl ?_)
 refine So.e ?_
 show HT _ _ _ _ _
 refine HT.seq ?_
 refine HT.seq ?_
 refine HT.region S_great_ok ?_
 refine So.q rfl rfl (V.as (v := .p (.v (.int .i64 (0)))) rfl ?_)
 refine So.e ?_
 show HT _ _ _ _ _
 refine HT.block ?_
 refine R.loop (σ := Nat) (fun s => [(3, .p (.v (.int .i64 ((s : Int)))))]) (fun s => []) [0] [] (fun s => s ≤ l.length ∧ ∀ k, k < s → (l.getD k []).length ≤ 60000) (fun s => l.length - s) (0) (fr0 := [(0, .p (.sl _ 1 _))]) (O0 := []) rfl rfl (by exact ⟨Nat.zero_le _, fun k hk => absurd hk (Nat.not_lt_zero _)⟩) ⟨⟨⟨le_int (by first | rfl | omega), trivial⟩, ⟨.refl _, trivial⟩, trivial⟩, trivial⟩ (fun s hP0 => ?_)
 refine HT.seq ?_
 refine HT.seq ?_
 refine HT.region S_great_ok ?_
 refine So.q rfl rfl (V.mv (v := .p (.v (.int .i64 ((_ : Nat) : Int)))) rfl ?_)
 refine So.q rfl rfl (V.mv (v := .p (.sl _ 1 _)) rfl ?_)
 refine So.q rfl rfl (V.len ty51 (v := .p (.sl _ 1 _)) rfl rfl ?_)
 refine So.q rfl rfl (V.bin (a := (.v (.int .i64 ((_ : Nat) : Int)))) (b := (.v (.int .i64 _))) (r := .v (.bool _)) rfl rfl rfl trivial ?_)
 refine So.e ?_
 show HT _ _ _ _ _
 refine R.cond rfl rfl (fun h1 => ?_) (fun h1 => ?_)
 ·have h1 := of_decide_eq_true h1
  refine HT.skip ?_
  show HT _ _ _ _ _
  refine HT.seq ?_
  refine HT.block ?_
  refine HT.seq ?_
  refine HT.region S_great_ok ?_
  refine So.q rfl rfl (V.mv (v := .p (.sl _ 1 _)) rfl ?_)
  refine So.q rfl rfl (V.mv (v := .p (.v (.int .i64 ((_ : Nat) : Int)))) rfl ?_)
  refine So.q rfl rfl (V.ixSl1 (mi := s) ty51 ty22 rfl rfl rfl (by omega) (by omega) ?_)
  refine So.q rfl rfl (V.ldRp ty22 rfl rfl (lk rfl) (v := (.bs _)) rfl ?_)
  refine So.q rfl rfl (V.len ty22 (v := .p (.bs _)) rfl rfl ?_)
  refine So.q rfl rfl (V.bin (a := (.v (.int .i64 _))) (b := (.v (.int .i64 (60000)))) (r := .v (.bool _)) rfl rfl rfl trivial ?_)
  refine So.e ?_
  show HT _ _ _ _ _
  refine R.cond rfl rfl (fun h2 => ?_) (fun h2 => ?_)
  ·have h2 := of_decide_eq_true h2
   refine HT.seq ?_
   refine HT.region S_great_ok ?_
   refine So.q rfl rfl (V.as (v := .p (.v (.bool true))) rfl ?_)
   refine So.e ?_
   show HT _ _ _ _ _
   refine HT.ret ?_
   exact ret_ok (sg []) h rfl rfl rfl trivial ⟨trivial, trivial⟩ rfl ⟨⟨⟨le_bool (by first | exact great_yes (s := s) (by omega) (by assumption) | exact great_no (s := s) (by assumption) hP0.2), trivial⟩, trivial⟩, trivial⟩
  ·have h2 := of_decide_eq_false h2
   refine HT.skip ?_
   show HT _ _ _ _ _
   refine HT.region S_great_ok ?_
   refine So.q rfl rfl (V.mv (v := .p (.v (.int .i64 ((_ : Nat) : Int)))) rfl ?_)
   refine So.q rfl rfl (V.addI rfl rfl (by omega) ?_)
   refine So.q rfl rfl (V.as (v := .p (.v (.int .i64 _))) rfl ?_)
   refine So.e ?_
   refine ⟨s + 1, by exact ⟨by omega, fun k hk => by rcases Nat.lt_or_eq_of_le (Nat.le_of_lt_succ hk) with q | q; exact hP0.2 k q; subst q; omega⟩, by omega, ⟨⟨⟨le_int (by first | rfl | omega | (simp; done) | (simp; omega)), trivial⟩, ⟨.refl _, trivial⟩, trivial⟩, trivial⟩⟩
 ·have h1 := of_decide_eq_false h1
  refine HT.exit ?_
  show HT _ _ _ _ _
  refine HT.seq ?_
  refine HT.region S_great_ok ?_
  refine So.q rfl rfl (V.as (v := .p (.v (.bool false))) rfl ?_)
  refine So.e ?_
  show HT _ _ _ _ _
  refine HT.ret ?_
  exact ret_ok (sg []) h rfl rfl rfl trivial ⟨trivial, trivial⟩ rfl ⟨⟨⟨le_bool (by first | exact great_yes (s := s) (by omega) (by assumption) | exact great_no (s := s) (by assumption) hP0.2), trivial⟩, trivial⟩, trivial⟩
end Go.Vh

set_option linter.unusedVariables false
set_option linter.unusedSimpArgs false
namespace Go.Vh
open Go Go.Vc Go.Proofs Go.Vw
def faheadSp : Sp := ⟨[], mkE (α := (List UInt8) × Int × Int × Int × (List UInt8)) (fun (g, ep, fr, gn, cl) => [.agg 5 (fun j => ([.bs g, .v (.int .i64 ep), .v (.int .i64 fr), .v (.int .i64 gn), .bs cl] : List PV).getD j (.v undef))]) (fun (g, ep, fr, gn, cl) => []) (fun (g, ep, fr, gn, cl) => True) (fun (g, ep, fr, gn, cl) => [.own 2 (0) ((aheadF g ep fr gn cl).length)]) (fun (g, ep, fr, gn, cl) => [(2, ⟨5, 1, (aheadF g ep fr gn cl).length, true, .bs (aheadF g ep fr gn cl)⟩)])⟩
def S_fahead : FuncId → Option Sp := fun f => if f = 29 then some fsealSp else if f = 39 then some fwhereSp else if f = 38 then some wplaceSp else if f = 40 then some wnumSp else none
theorem S_fahead_ok : ∀ f s, S_fahead f = some s → FOK Tryd.prog gl f s := fun f s h => by
 unfold S_fahead at h
 split at h
 ·rename_i e; cases h; subst e; exact fseal_ok
 split at h
 ·rename_i e; cases h; subst e; exact fwhere_ok
 split at h
 ·rename_i e; cases h; subst e; exact wplace_ok
 split at h
 ·rename_i e; cases h; subst e; exact wnum_ok
 cases h
set_option maxHeartbeats 1000000 in
set_option maxRecDepth 1000 in
theorem fahead_ok : FOK Tryd.prog gl 18 faheadSp := by
 refine FOK.ofE (tyOf_ok Tryd.prog) (slots := [2]) (nt := 21) Tryd.func18 rfl rfl rfl rfl (by decide) 1 (fun ⟨_, _, _, _, _⟩ => rfl) (by decide) (fun ⟨_, _, _, _, _⟩ => ⟨trivial, trivial⟩) ?_
 rintro ⟨g, ep, fr, gn, cl⟩ kk hlen hpre h
 replace hpre : True := hpre
 show HT (cx Tryd.prog 21 (tyOf Tryd.prog) gl []) _ [(0, .agg 5 (fun j => ([.bs g, .v (.int .i64 ep), .v (.int .i64 fr), .v (.int .i64 gn), .bs cl] : List PV).getD j (.v undef)))] [] _
 have h8 := nu_len ep 8
 have h4 := nu_len fr 4
 have htg := tx_len g
 have hp3 : (txF g ++ nuF ep 8 ++ nuF fr 4).length = (txF g).length + (nuF ep 8).length + (nuF fr 4).length := by rw [List.length_append, List.length_append]
 have hgn := nu_len gn 4
 refine HT.seq ?_
 refine HT.region S_fahead_ok ?_
 refine So.n (lk rfl) (A.boxAg 1 1 (n := 5) rfl (by intro j hj; first | rfl | trivial | (match j, hj with | 0, _ => (first | trivial | rfl) | 1, _ => (first | trivial | rfl) | 2, _ => (first | trivial | rfl) | 3, _ => (first | trivial | rfl) | 4, _ => (first | trivial | rfl)) | (split <;> first | rfl | trivial | (split <;> first | rfl | trivial))) rfl trivial ?_)
 refine So.q rfl rfl (V.as (v := .p (.v (.slice none 0 0))) rfl ?_)
 refine So.e ?_
 show HT _ _ _ _ _
 refine HT.seq ?_
 refine HT.seq ?_
 refine HT.region S_fahead_ok ?_
 refine So.q rfl rfl (V.ldPtrA ty35 rfl rfl rfl rfl (lk rfl) ?_)
 refine So.n (lk rfl) (A.call0 [.agg 5 _] 2 rfl rfl rfl rfl ⟨trivial, trivial⟩ trivial (g, ep, fr, gn, cl) ⟨le_agg (fun j hj => by match j, hj with | 0, _ => rfl | 1, _ => rfl | 2, _ => rfl | 3, _ => rfl | 4, _ => rfl), trivial⟩ trivial (by trivial) (Φ := fun _ => True) (fun _ _ => trivial) (.inl rfl) (v := .p (.v (.bool _))) rfl (O' := _) rfl (fun h1 => ?_))
 refine So.q rfl rfl (V.not rfl ?_)
 refine So.e ?_
 show HT _ _ _ _ _
 refine R.cond rfl rfl (fun h2 => ?_) (fun h2 => ?_)
 ·have h2 := of_decide_eq_false (bnT h2)
  refine HT.seq ?_
  refine HT.region S_fahead_ok ?_
  refine So.q rfl rfl (V.as (v := .p (.v (.slice none 0 0))) rfl ?_)
  refine So.e ?_
  show HT _ _ _ _ _
  refine R.phan 2 2 5 1 (.bs []) rfl rfl rfl ⟨rfl, rfl⟩ ?_
  refine HT.ret ?_
  exact ret_ok (sg [(2, 2)]) h rfl rfl rfl ⟨trivial, trivial⟩ ⟨rfl, trivial⟩ rfl ⟨⟨⟨le_own2 (by first | rfl | omega) (by first | with_reducible rfl | (show (_ : Nat) = _; first | (rw [aheadF_no (by assumption)]; done) | (rw [aheadF_no (by assumption)]; rfl) | (rw [aheadF_yes (by assumption)]; done) | (rw [aheadF_yes (by assumption)]; rfl)) | (show (_ : List UInt8) = _; first | (rw [aheadF_no (by assumption)]; done) | (rw [aheadF_yes (by assumption)]; done) | (rw [aheadF_yes (by assumption)]; rfl)) | (show (_ : Int) = _; first | (rw [sealE_no (by assumption)]; done) | (rw [sealE_yes (by assumption)]; done))), rfl⟩, trivial⟩, ⟨⟨_, rfl, .inl (ob_bs (by first | rfl | ((try dsimp only); (first | with_reducible rfl | (show (_ : Nat) = _; first | (rw [aheadF_no (by assumption)]; done) | (rw [aheadF_no (by assumption)]; rfl) | (rw [aheadF_yes (by assumption)]; done) | (rw [aheadF_yes (by assumption)]; rfl)) | (show (_ : List UInt8) = _; first | (rw [aheadF_no (by assumption)]; done) | (rw [aheadF_yes (by assumption)]; done) | (rw [aheadF_yes (by assumption)]; rfl)) | (show (_ : Int) = _; first | (rw [sealE_no (by assumption)]; done) | (rw [sealE_yes (by assumption)]; done))))) (by first | rfl | ((try dsimp only); (first | with_reducible rfl | (show (_ : Nat) = _; first | (rw [aheadF_no (by assumption)]; done) | (rw [aheadF_no (by assumption)]; rfl) | (rw [aheadF_yes (by assumption)]; done) | (rw [aheadF_yes (by assumption)]; rfl)) | (show (_ : List UInt8) = _; first | (rw [aheadF_no (by assumption)]; done) | (rw [aheadF_yes (by assumption)]; done) | (rw [aheadF_yes (by assumption)]; rfl)) | (show (_ : Int) = _; first | (rw [sealE_no (by assumption)]; done) | (rw [sealE_yes (by assumption)]; done)))))), trivial⟩, trivial⟩⟩
 ·have h2 := of_decide_eq_true (bnF h2)
  refine HT.skip ?_
  show HT _ _ _ _ _
  refine HT.seq ?_
  refine HT.region S_fahead_ok ?_
  refine So.n (lk rfl) (A.bldG ty54 rfl trivial rfl rfl ?_)
  refine So.n (lk rfl) (A.boxG 2 1 [.p (.v (.slice none 0 0))] rfl (by intro j hj; match j, hj with | 0, _ => (first | exact trivial | exact rfl)) rfl (by intro j hj; match j, hj with | 0, _ => rfl) rfl trivial ?_)
  refine So.q rfl rfl (V.as (v := .ptr 2 0) rfl ?_)
  refine So.e ?_
  show HT _ _ _ _ _
  refine HT.seq ?_
  refine HT.phanC 2 3 5 1 (.bs []) (c' := .cells [.own 3 0 0]) rfl rfl rfl ⟨rfl, rfl⟩ rfl (allP_spec (P := fun j => _ ∨ _) ⟨trivial, .inr ⟨rfl, rfl⟩⟩) rfl ?_
  show HT _ _ _ _ _
  refine HT.region S_fahead_ok ?_
  refine So.q rfl rfl (V.mv (v := .ptr 2 0) rfl ?_)
  refine So.q rfl rfl (V.ldPtrA ty35 rfl rfl rfl rfl (lk rfl) ?_)
  refine So.n (lk rfl) (A.call0 [.agg 5 _] 4 rfl rfl rfl rfl ⟨trivial, trivial⟩ trivial (g, ep, fr, gn, cl) ⟨le_agg (fun j hj => by match j, hj with | 0, _ => rfl | 1, _ => rfl | 2, _ => rfl | 3, _ => rfl | 4, _ => rfl), trivial⟩ trivial (by trivial) (Φ := fun _ => True) (fun _ _ => trivial) (.inl rfl) (v := .agg 3 _) rfl (O' := _) rfl (fun h3 => ?_))
  refine So.n (lk rfl) (A.call [.ptr 1 _, .agg 3 _] [(1, ⟨_, _, _, _, .cells [.own 2 0 _]⟩), (2, ⟨_, _, _, _, .bs _⟩)] (sg [(1, 2), (2, 3)]) 4 rfl rfl rfl rfl ⟨rfl, rfl, trivial⟩ rfl ⟨⟨rfl, trivial⟩, trivial, trivial⟩ ⟨rfl, trivial, trivial⟩ trivial rfl (nl, g, ep, fr) ⟨.refl _, .refl _, trivial⟩ ⟨⟨_, rfl, .inl rfl, ⟨rfl, trivial⟩⟩, ⟨_, rfl, .inl rfl, trivial⟩, trivial⟩ (by first | omega | (simp only [List.drop_zero, List.take_length]; omega) | (simp; done) | (simp; omega)) (Φ := fun _ => True) (fun _ _ => trivial) ⟨⟨_, _, rfl, rfl, rfl, Nat.le_refl _⟩, trivial⟩ (.inl rfl) rfl (v := .tup 0 _) rfl (O' := (2, ⟨_, _, _, _, .cells _⟩) :: (6, ⟨_, _, _, _, .bs _⟩) :: _) rfl (fun h4 => ?_))
  refine So.e ?_
  show HT _ _ _ _ _
  refine HT.seq ?_
  refine R.tell [] [(2, ⟨54, 1, 1, true, .cells [.own 6 (0) ((txF g ++ nuF ep 8 ++ nuF fr 4).length)]⟩), (6, ⟨5, 1, (txF g ++ nuF ep 8 ++ nuF fr 4).length, true, .bs (txF g ++ nuF ep 8 ++ nuF fr 4)⟩)] [1, 2, 3] [1] (fr0 := [(1, .ptr 1 0), (2, .p (.v (.slice none 0 0))), (3, .ptr 2 0)]) (O0 := [(1, ⟨_, _, _, _, .rows _⟩)]) rfl rfl ⟨⟨⟨.refl _, rfl⟩, ⟨.refl _, trivial⟩, ⟨.refl _, rfl⟩, trivial⟩, ⟨⟨_, rfl, .inl (by first | rfl | (simp only [nl, List.nil_append]; rfl) | (simp only [nl, List.nil_append])), ⟨rfl, trivial⟩⟩, ⟨_, rfl, .inl (ob_bs (by first | rfl | (simp only [nl, List.nil_append]; rfl) | (simp only [nl, List.nil_append])) (by first | rfl | (simp only [nl, List.nil_append]; rfl) | (simp only [nl, List.nil_append]))), trivial⟩, ⟨_, rfl, .inl rfl, trivial⟩, trivial⟩⟩ ?_
  show HT _ _ _ _ _
  refine HT.region S_fahead_ok ?_
  refine So.q rfl rfl (V.mv (v := .ptr 2 0) rfl ?_)
  refine So.q rfl rfl (V.faPtr ty35 rfl ty2 (lk rfl) rfl rfl (lk rfl) ?_)
  refine So.q rfl rfl (V.ldPtr ty2 rfl rfl rfl (lk rfl) (v := .p (.v (.int .i64 _))) rfl ?_)
  refine So.n (lk rfl) (A.call [.ptr 1 _, .p (.v (.int .i64 _)), .p (.v (.int .i64 _))] [(1, ⟨_, _, _, _, .cells [.own 2 0 _]⟩), (2, ⟨_, _, _, _, .bs _⟩)] (sg [(1, 2), (2, 6)]) 7 rfl rfl rfl rfl ⟨rfl, rfl, trivial⟩ rfl ⟨⟨rfl, trivial⟩, trivial, trivial⟩ ⟨rfl, trivial, trivial, trivial⟩ trivial rfl (txF g ++ nuF ep 8 ++ nuF fr 4, gn, 4) ⟨.refl _, .refl _, .refl _, trivial⟩ ⟨⟨_, rfl, .inl rfl, ⟨rfl, trivial⟩⟩, ⟨_, rfl, .inl rfl, trivial⟩, trivial⟩ (by first | omega | (simp only [List.drop_zero, List.take_length]; omega) | (simp; done) | (simp; omega)) (Φ := fun _ => True) (fun _ _ => trivial) ⟨⟨_, _, rfl, rfl, rfl, Nat.le_refl _⟩, trivial⟩ (.inl rfl) rfl (v := .tup 0 _) rfl (O' := (2, ⟨_, _, _, _, .cells _⟩) :: (9, ⟨_, _, _, _, .bs _⟩) :: _) rfl (fun h5 => ?_))
  refine So.e ?_
  show HT _ _ _ _ _
  refine HT.seq ?_
  refine R.tell [] [(2, ⟨54, 1, 1, true, .cells [.own 9 (0) ((aheadB g ep fr gn).length)]⟩), (9, ⟨5, 1, (aheadB g ep fr gn).length, true, .bs (aheadB g ep fr gn)⟩)] [2, 3] [] (fr0 := [(2, .p (.v (.slice none 0 0))), (3, .ptr 2 0)]) (O0 := []) rfl rfl ⟨⟨⟨.refl _, trivial⟩, ⟨.refl _, rfl⟩, trivial⟩, ⟨⟨_, rfl, .inl (by first | rfl | (skip; rfl) | (skip)), ⟨rfl, trivial⟩⟩, ⟨_, rfl, .inl (ob_bs (by first | rfl | (skip; rfl) | (skip)) (by first | rfl | (skip; rfl) | (skip))), trivial⟩, trivial⟩⟩ ?_
  show HT _ _ _ _ _
  refine HT.region S_fahead_ok ?_
  refine So.q rfl rfl (V.mv (v := .ptr 2 0) rfl ?_)
  refine So.q rfl rfl (V.ncPtr rfl ?_)
  refine So.q rfl rfl (V.faPtr ty54 rfl ty22 (lk rfl) rfl rfl (lk rfl) ?_)
  refine So.q rfl rfl (V.ldPtr ty22 rfl rfl rfl (lk rfl) (v := .own 9 0 _) rfl ?_)
  refine So.q rfl rfl (V.as (v := .own 9 0 _) rfl ?_)
  refine So.e ?_
  show HT _ _ _ _ _
  refine HT.ret ?_
  exact ret_ok (sg [(2, 9)]) h rfl rfl rfl ⟨trivial, trivial⟩ ⟨rfl, trivial⟩ rfl ⟨⟨⟨le_own2 (by first | rfl | omega) (by first | with_reducible rfl | (show (_ : Nat) = _; first | (rw [aheadF_no (by assumption)]; done) | (rw [aheadF_no (by assumption)]; rfl) | (rw [aheadF_yes (by assumption)]; done) | (rw [aheadF_yes (by assumption)]; rfl)) | (show (_ : List UInt8) = _; first | (rw [aheadF_no (by assumption)]; done) | (rw [aheadF_yes (by assumption)]; done) | (rw [aheadF_yes (by assumption)]; rfl)) | (show (_ : Int) = _; first | (rw [sealE_no (by assumption)]; done) | (rw [sealE_yes (by assumption)]; done))), rfl⟩, trivial⟩, ⟨⟨_, rfl, .inl (ob_bs (by first | rfl | ((try dsimp only); (first | with_reducible rfl | (show (_ : Nat) = _; first | (rw [aheadF_no (by assumption)]; done) | (rw [aheadF_no (by assumption)]; rfl) | (rw [aheadF_yes (by assumption)]; done) | (rw [aheadF_yes (by assumption)]; rfl)) | (show (_ : List UInt8) = _; first | (rw [aheadF_no (by assumption)]; done) | (rw [aheadF_yes (by assumption)]; done) | (rw [aheadF_yes (by assumption)]; rfl)) | (show (_ : Int) = _; first | (rw [sealE_no (by assumption)]; done) | (rw [sealE_yes (by assumption)]; done))))) (by first | rfl | ((try dsimp only); (first | with_reducible rfl | (show (_ : Nat) = _; first | (rw [aheadF_no (by assumption)]; done) | (rw [aheadF_no (by assumption)]; rfl) | (rw [aheadF_yes (by assumption)]; done) | (rw [aheadF_yes (by assumption)]; rfl)) | (show (_ : List UInt8) = _; first | (rw [aheadF_no (by assumption)]; done) | (rw [aheadF_yes (by assumption)]; done) | (rw [aheadF_yes (by assumption)]; rfl)) | (show (_ : Int) = _; first | (rw [sealE_no (by assumption)]; done) | (rw [sealE_yes (by assumption)]; done)))))), trivial⟩, trivial⟩⟩
end Go.Vh

set_option linter.unusedVariables false
set_option linter.unusedSimpArgs false
namespace Go.Vh
open Go Go.Vc Go.Proofs Go.Vw
def fputsSp : Sp := ⟨[], mkE (α := (List UInt8) × Int × Int × Int × (List UInt8)) (fun (g, ep, fr, gn, cl) => [.agg 5 (fun j => ([.bs g, .v (.int .i64 ep), .v (.int .i64 fr), .v (.int .i64 gn), .bs cl] : List PV).getD j (.v undef))]) (fun (g, ep, fr, gn, cl) => []) (fun (g, ep, fr, gn, cl) => True) (fun (g, ep, fr, gn, cl) => [.own 2 (0) ((sealF g ep fr gn cl).length), .p (.v (.int .i64 (sealE g ep fr gn cl)))]) (fun (g, ep, fr, gn, cl) => [(2, ⟨5, 1, (sealF g ep fr gn cl).length, true, .bs (sealF g ep fr gn cl)⟩)])⟩
def S_fputs : FuncId → Option Sp := fun f => if f = 29 then some fsealSp else if f = 18 then some faheadSp else if f = 25 then some wtextSp else none
theorem S_fputs_ok : ∀ f s, S_fputs f = some s → FOK Tryd.prog gl f s := fun f s h => by
 unfold S_fputs at h
 split at h
 ·rename_i e; cases h; subst e; exact fseal_ok
 split at h
 ·rename_i e; cases h; subst e; exact fahead_ok
 split at h
 ·rename_i e; cases h; subst e; exact wtext_ok
 cases h
set_option maxHeartbeats 1000000 in
set_option maxRecDepth 1000 in
theorem fputs_ok : FOK Tryd.prog gl 13 fputsSp := by
 refine FOK.ofE (tyOf_ok Tryd.prog) (slots := [2, 3]) (nt := 21) Tryd.func13 rfl rfl rfl rfl (by decide) 1 (fun ⟨_, _, _, _, _⟩ => rfl) (by decide) (fun ⟨_, _, _, _, _⟩ => ⟨trivial, trivial⟩) ?_
 rintro ⟨g, ep, fr, gn, cl⟩ kk hlen hpre h
 replace hpre : True := hpre
 show HT (cx Tryd.prog 21 (tyOf Tryd.prog) gl []) _ [(0, .agg 5 (fun j => ([.bs g, .v (.int .i64 ep), .v (.int .i64 fr), .v (.int .i64 gn), .bs cl] : List PV).getD j (.v undef)))] [] _
 have hal := ahead_len g ep fr gn
 refine HT.seq ?_
 refine HT.region S_fputs_ok ?_
 refine So.n (lk rfl) (A.boxAg 1 1 (n := 5) rfl (by intro j hj; first | rfl | trivial | (match j, hj with | 0, _ => (first | trivial | rfl) | 1, _ => (first | trivial | rfl) | 2, _ => (first | trivial | rfl) | 3, _ => (first | trivial | rfl) | 4, _ => (first | trivial | rfl)) | (split <;> first | rfl | trivial | (split <;> first | rfl | trivial))) rfl trivial ?_)
 refine So.q rfl rfl (V.as (v := .p (.v (.slice none 0 0))) rfl ?_)
 refine So.q rfl rfl (V.as (v := .p (.v (.int .i64 (0)))) rfl ?_)
 refine So.e ?_
 show HT _ _ _ _ _
 refine HT.seq ?_
 refine HT.seq ?_
 refine HT.region S_fputs_ok ?_
 refine So.q rfl rfl (V.ldPtrA ty35 rfl rfl rfl rfl (lk rfl) ?_)
 refine So.n (lk rfl) (A.call0 [.agg 5 _] 2 rfl rfl rfl rfl ⟨trivial, trivial⟩ trivial (g, ep, fr, gn, cl) ⟨le_agg (fun j hj => by match j, hj with | 0, _ => rfl | 1, _ => rfl | 2, _ => rfl | 3, _ => rfl | 4, _ => rfl), trivial⟩ trivial (by trivial) (Φ := fun _ => True) (fun _ _ => trivial) (.inl rfl) (v := .p (.v (.bool _))) rfl (O' := _) rfl (fun h1 => ?_))
 refine So.q rfl rfl (V.not rfl ?_)
 refine So.e ?_
 show HT _ _ _ _ _
 refine R.cond rfl rfl (fun h2 => ?_) (fun h2 => ?_)
 ·have h2 := of_decide_eq_false (bnT h2)
  refine HT.seq ?_
  refine HT.region S_fputs_ok ?_
  refine So.q rfl rfl (V.as (v := .p (.v (.slice none 0 0))) rfl ?_)
  refine So.q rfl rfl (V.as (v := .p (.v (.int .i64 (181)))) rfl ?_)
  refine So.e ?_
  show HT _ _ _ _ _
  refine R.phan 2 2 5 1 (.bs []) rfl rfl rfl ⟨rfl, rfl⟩ ?_
  refine HT.ret ?_
  exact ret_ok (sg [(2, 2)]) h rfl rfl rfl ⟨trivial, trivial⟩ ⟨rfl, trivial, trivial⟩ rfl ⟨⟨⟨le_own2 (by first | rfl | omega) (by first | with_reducible rfl | (show (_ : Nat) = _; first | (rw [sealF_no (by assumption)]; done) | (rw [sealF_no (by assumption)]; rfl) | (rw [sealF_yes (by assumption)]; done) | (rw [sealF_yes (by assumption)]; rfl)) | (show (_ : List UInt8) = _; first | (rw [sealF_no (by assumption)]; done) | (rw [sealF_yes (by assumption)]; done) | (rw [sealF_yes (by assumption)]; rfl)) | (show (_ : Int) = _; first | (rw [sealE_no (by assumption)]; done) | (rw [sealE_yes (by assumption)]; done))), rfl⟩, ⟨le_int (by first | with_reducible rfl | (show (_ : Nat) = _; first | (rw [sealF_no (by assumption)]; done) | (rw [sealF_no (by assumption)]; rfl) | (rw [sealF_yes (by assumption)]; done) | (rw [sealF_yes (by assumption)]; rfl)) | (show (_ : List UInt8) = _; first | (rw [sealF_no (by assumption)]; done) | (rw [sealF_yes (by assumption)]; done) | (rw [sealF_yes (by assumption)]; rfl)) | (show (_ : Int) = _; first | (rw [sealE_no (by assumption)]; done) | (rw [sealE_yes (by assumption)]; done))), trivial⟩, trivial⟩, ⟨⟨_, rfl, .inl (ob_bs (by first | rfl | ((try dsimp only); (first | with_reducible rfl | (show (_ : Nat) = _; first | (rw [sealF_no (by assumption)]; done) | (rw [sealF_no (by assumption)]; rfl) | (rw [sealF_yes (by assumption)]; done) | (rw [sealF_yes (by assumption)]; rfl)) | (show (_ : List UInt8) = _; first | (rw [sealF_no (by assumption)]; done) | (rw [sealF_yes (by assumption)]; done) | (rw [sealF_yes (by assumption)]; rfl)) | (show (_ : Int) = _; first | (rw [sealE_no (by assumption)]; done) | (rw [sealE_yes (by assumption)]; done))))) (by first | rfl | ((try dsimp only); (first | with_reducible rfl | (show (_ : Nat) = _; first | (rw [sealF_no (by assumption)]; done) | (rw [sealF_no (by assumption)]; rfl) | (rw [sealF_yes (by assumption)]; done) | (rw [sealF_yes (by assumption)]; rfl)) | (show (_ : List UInt8) = _; first | (rw [sealF_no (by assumption)]; done) | (rw [sealF_yes (by assumption)]; done) | (rw [sealF_yes (by assumption)]; rfl)) | (show (_ : Int) = _; first | (rw [sealE_no (by assumption)]; done) | (rw [sealE_yes (by assumption)]; done)))))), trivial⟩, trivial⟩⟩
 ·have h2 := of_decide_eq_true (bnF h2)
  refine HT.skip ?_
  show HT _ _ _ _ _
  refine HT.seq ?_
  refine HT.region S_fputs_ok ?_
  refine So.q rfl rfl (V.ldPtrA ty35 rfl rfl rfl rfl (lk rfl) ?_)
  refine So.n (lk rfl) (A.call0 [.agg 5 _] 2 rfl rfl rfl rfl ⟨trivial, trivial⟩ trivial (g, ep, fr, gn, cl) ⟨le_agg (fun j hj => by match j, hj with | 0, _ => rfl | 1, _ => rfl | 2, _ => rfl | 3, _ => rfl | 4, _ => rfl), trivial⟩ trivial (by trivial) (Φ := fun _ => True) (fun _ _ => trivial) (.inl rfl) (v := .own 4 0 _) rfl (O' := (4, ⟨5, 1, _, true, .bs _⟩) :: _) rfl (fun h3 => ?_))
  refine So.n (lk rfl) (A.bldG ty54 rfl ⟨by first | exact trivial | exact rfl | (intro j hj; first | trivial | rfl | (simp [BV.one]; done)), trivial⟩ rfl rfl ?_)
  refine So.n (lk rfl) (A.boxG 5 1 [.own 4 0 _] rfl (by intro j hj; match j, hj with | 0, _ => (first | exact trivial | exact rfl)) rfl (by intro j hj; match j, hj with | 0, _ => rfl) rfl trivial ?_)
  refine So.q rfl rfl (V.as (v := .ptr 5 0) rfl ?_)
  refine So.e ?_
  show HT _ _ _ _ _
  refine HT.seq ?_
  refine HT.region S_fputs_ok ?_
  have haf := aheadF_yes (by assumption : sealP g ep fr gn cl)
  have hafl := congrArg List.length haf
  refine So.q rfl rfl (V.mv (v := .ptr 5 0) rfl ?_)
  refine So.q rfl rfl (V.faPtr ty35 rfl ty22 (lk rfl) rfl rfl (lk rfl) ?_)
  refine So.q rfl rfl (V.ldPtr ty22 rfl rfl rfl (lk rfl) (v := .p (.bs _)) rfl ?_)
  refine So.n (lk rfl) (A.bsl 6 ty51 ty22 rfl (lk rfl) (lk rfl) (fun _ => rfl) rfl rfl trivial ⟨trivial, trivial⟩ rfl (N := 1) rfl (c := .rows _) rfl ?_)
  refine So.n (lk rfl) (A.call [.ptr 1 _, .p (.sl _ _ _)] [(1, ⟨_, _, _, _, .cells [.own 2 0 _]⟩), (2, ⟨_, _, _, _, .bs _⟩)] (sg [(1, 5), (2, 4)]) 7 rfl rfl rfl rfl ⟨rfl, rfl, trivial⟩ rfl ⟨⟨rfl, trivial⟩, trivial, trivial⟩ ⟨rfl, trivial, trivial⟩ trivial rfl (aheadF g ep fr gn cl, [cl]) ⟨.refl _, le_sl rfl (by intro j hj; match j, hj with | 0, _ => rfl), trivial⟩ ⟨⟨_, rfl, .inl rfl, ⟨rfl, trivial⟩⟩, ⟨_, rfl, .inl rfl, trivial⟩, trivial⟩ (by first | omega | (simp only [List.drop_zero, List.take_length]; omega) | (simp; done) | (simp; omega)) (Φ := fun _ => True) (fun _ _ => trivial) ⟨⟨_, _, rfl, rfl, rfl, Nat.le_refl _⟩, trivial⟩ (.inr ⟨fun _ hj => absurd hj (Nat.not_lt_zero _), by simp [Hp.scal, OC.scal, PV.scal, BV.scal]⟩) rfl (v := .tup 0 _) rfl (O' := (5, ⟨_, _, _, _, .cells _⟩) :: (9, ⟨_, _, _, _, .bs _⟩) :: _) rfl (fun h4 => ?_))
  refine So.e ?_
  show HT _ _ _ _ _
  refine HT.seq ?_
  refine R.tell [] [(5, ⟨54, 1, 1, true, .cells [.own 9 (0) ((aheadB g ep fr gn ++ txF cl).length)]⟩), (9, ⟨5, 1, (aheadB g ep fr gn ++ txF cl).length, true, .bs (aheadB g ep fr gn ++ txF cl)⟩)] [2, 3, 4] [] (fr0 := [(2, .p (.v (.slice none 0 0))), (3, .p (.v (.int .i64 _))), (4, .ptr 5 0)]) (O0 := []) rfl rfl ⟨⟨⟨.refl _, trivial⟩, ⟨.refl _, trivial⟩, ⟨.refl _, rfl⟩, trivial⟩, ⟨⟨_, rfl, .inl (by first | rfl | (rw [txL_1, haf]; rfl) | (rw [txL_1, haf])), ⟨rfl, trivial⟩⟩, ⟨_, rfl, .inl (ob_bs (by first | rfl | (rw [txL_1, haf]; rfl) | (rw [txL_1, haf])) (by first | rfl | (rw [txL_1, haf]; rfl) | (rw [txL_1, haf]))), trivial⟩, trivial⟩⟩ ?_
  show HT _ _ _ _ _
  refine HT.region S_fputs_ok ?_
  refine So.q rfl rfl (V.mv (v := .ptr 5 0) rfl ?_)
  refine So.q rfl rfl (V.ncPtr rfl ?_)
  refine So.q rfl rfl (V.faPtr ty54 rfl ty22 (lk rfl) rfl rfl (lk rfl) ?_)
  refine So.q rfl rfl (V.ldPtr ty22 rfl rfl rfl (lk rfl) (v := .own 9 0 _) rfl ?_)
  refine So.q rfl rfl (V.as (v := .own 9 0 _) rfl ?_)
  refine So.q rfl rfl (V.as (v := .p (.v (.int .i64 (0)))) rfl ?_)
  refine So.e ?_
  show HT _ _ _ _ _
  refine HT.ret ?_
  exact ret_ok (sg [(2, 9)]) h rfl rfl rfl ⟨trivial, trivial⟩ ⟨rfl, trivial, trivial⟩ rfl ⟨⟨⟨le_own2 (by first | rfl | omega) (by first | with_reducible rfl | (show (_ : Nat) = _; first | (rw [sealF_no (by assumption)]; done) | (rw [sealF_no (by assumption)]; rfl) | (rw [sealF_yes (by assumption)]; done) | (rw [sealF_yes (by assumption)]; rfl)) | (show (_ : List UInt8) = _; first | (rw [sealF_no (by assumption)]; done) | (rw [sealF_yes (by assumption)]; done) | (rw [sealF_yes (by assumption)]; rfl)) | (show (_ : Int) = _; first | (rw [sealE_no (by assumption)]; done) | (rw [sealE_yes (by assumption)]; done))), rfl⟩, ⟨le_int (by first | with_reducible rfl | (show (_ : Nat) = _; first | (rw [sealF_no (by assumption)]; done) | (rw [sealF_no (by assumption)]; rfl) | (rw [sealF_yes (by assumption)]; done) | (rw [sealF_yes (by assumption)]; rfl)) | (show (_ : List UInt8) = _; first | (rw [sealF_no (by assumption)]; done) | (rw [sealF_yes (by assumption)]; done) | (rw [sealF_yes (by assumption)]; rfl)) | (show (_ : Int) = _; first | (rw [sealE_no (by assumption)]; done) | (rw [sealE_yes (by assumption)]; done))), trivial⟩, trivial⟩, ⟨⟨_, rfl, .inl (ob_bs (by first | rfl | ((try dsimp only); (first | with_reducible rfl | (show (_ : Nat) = _; first | (rw [sealF_no (by assumption)]; done) | (rw [sealF_no (by assumption)]; rfl) | (rw [sealF_yes (by assumption)]; done) | (rw [sealF_yes (by assumption)]; rfl)) | (show (_ : List UInt8) = _; first | (rw [sealF_no (by assumption)]; done) | (rw [sealF_yes (by assumption)]; done) | (rw [sealF_yes (by assumption)]; rfl)) | (show (_ : Int) = _; first | (rw [sealE_no (by assumption)]; done) | (rw [sealE_yes (by assumption)]; done))))) (by first | rfl | ((try dsimp only); (first | with_reducible rfl | (show (_ : Nat) = _; first | (rw [sealF_no (by assumption)]; done) | (rw [sealF_no (by assumption)]; rfl) | (rw [sealF_yes (by assumption)]; done) | (rw [sealF_yes (by assumption)]; rfl)) | (show (_ : List UInt8) = _; first | (rw [sealF_no (by assumption)]; done) | (rw [sealF_yes (by assumption)]; done) | (rw [sealF_yes (by assumption)]; rfl)) | (show (_ : Int) = _; first | (rw [sealE_no (by assumption)]; done) | (rw [sealE_yes (by assumption)]; done)))))), trivial⟩, trivial⟩⟩
end Go.Vh

set_option linter.unusedVariables false
set_option linter.unusedSimpArgs false
namespace Go.Vh
open Go Go.Vc Go.Proofs Go.Vw
def getTextSp : Sp := ⟨[], mkE (α := (List UInt8) × Int) (fun (b, i) => [.p (.bs (b)), .p (.v (.int .i64 (i)))]) (fun (b, i) => []) (fun (b, i) => True) (fun (b, i) => [.own 1 (0) ((getTextF b i).1.length), .p (.v (.int .i64 ((getTextF b i).2.1))), .p (.v (.int .i64 ((getTextF b i).2.2)))]) (fun (b, i) => [(1, ⟨5, 1, ((getTextF b i).1).length, true, .bs ((getTextF b i).1)⟩)])⟩
def S_getText : FuncId → Option Sp := fun f => if f = 61 then some spanSp else if f = 62 then some cloneSp else none
theorem S_getText_ok : ∀ f s, S_getText f = some s → FOK Tryd.prog gl f s := fun f s h => by
 unfold S_getText at h
 split at h
 ·rename_i e; cases h; subst e; exact span_ok
 split at h
 ·rename_i e; cases h; subst e; exact clone_ok
 cases h
set_option maxHeartbeats 1000000 in
set_option maxRecDepth 1000 in
theorem getText_ok : FOK Tryd.prog gl 49 getTextSp := by
 refine FOK.ofE (tyOf_ok Tryd.prog) (slots := [4, 5, 6]) (nt := 26) Tryd.func49 rfl rfl rfl rfl (by decide) 2 (fun ⟨_, _⟩ => rfl) (by decide) (fun ⟨_, _⟩ => ⟨trivial, trivial, trivial⟩) ?_
 rintro ⟨b, i⟩ kk hlen hpre h
 have hl0 : (b).length ≤ 9223372036854775807 := hlen.1
 replace hpre : True := hpre
 show HT (cx Tryd.prog 26 (tyOf Tryd.prog) gl []) _ [(0, .p (.bs (b))), (1, .p (.v (.int .i64 (i))))] [] _
 refine HT.seq ?_
 refine HT.region S_getText_ok ?_
 refine So.q rfl rfl (V.as (v := .p (.v (.slice none 0 0))) rfl ?_)
 refine So.q rfl rfl (V.as (v := .p (.v (.int .i64 (0)))) rfl ?_)
 refine So.q rfl rfl (V.as (v := .p (.v (.int .i64 (0)))) rfl ?_)
 refine So.e ?_
 show HT _ _ _ _ _
 refine HT.seq ?_
 refine HT.region S_getText_ok ?_
 refine So.q rfl rfl (V.mv (v := .p (.bs _)) rfl ?_)
 refine So.q rfl rfl (V.mv (v := .p (.v (.int .i64 _))) rfl ?_)
 refine So.n (lk rfl) (A.call0 [.p (.bs _), .p (.v (.int .i64 _))] 1 rfl rfl rfl rfl ⟨trivial, trivial, trivial⟩ trivial (_, _) ⟨.refl _, .refl _, trivial⟩ trivial (by trivial) (Φ := fun (b, i) => (spanF b i).2.2 = 0 → 0 ≤ i ∧ i < (spanF b i).1 ∧ (spanF b i).1 ≤ (spanF b i).2.1 ∧ (spanF b i).2.1 ≤ b.length ∧ (spanF b i).2.1 - (spanF b i).1 ≤ 1048576) (fun (b, i) _ => spanF_ok b i) (.inl rfl) (v := .tup 3 _) rfl (O' := _) rfl (fun h1 => ?_))
 try dsimp only at h1
 refine So.q rfl rfl (V.mv (v := .tup 3 _) rfl ?_)
 refine So.q rfl rfl (V.ext rfl (lk rfl) (v := .p (.v (.int .i64 _))) rfl ?_)
 refine So.q rfl rfl (V.ext rfl (lk rfl) (v := .p (.v (.int .i64 _))) rfl ?_)
 refine So.q rfl rfl (V.ext rfl (lk rfl) (v := .p (.v (.int .i64 _))) rfl ?_)
 refine So.q rfl rfl (V.as (v := .p (.v (.int .i64 _))) rfl ?_)
 refine So.q rfl rfl (V.as (v := .p (.v (.int .i64 _))) rfl ?_)
 refine So.q rfl rfl (V.as (v := .p (.v (.int .i64 _))) rfl ?_)
 refine So.e ?_
 show HT _ _ _ _ _
 refine HT.seq ?_
 refine HT.seq ?_
 refine HT.region S_getText_ok ?_
 refine So.q rfl rfl (V.mv (v := .p (.v (.int .i64 _))) rfl ?_)
 refine So.q rfl rfl (V.bin (a := (.v (.int .i64 _))) (b := (.v (.int .i64 (0)))) (r := .v (.bool _)) rfl rfl rfl trivial ?_)
 refine So.e ?_
 show HT _ _ _ _ _
 refine R.cond rfl rfl (fun h2 => ?_) (fun h2 => ?_)
 ·have h2 := of_decide_eq_false (bnT h2)
  refine HT.seq ?_
  refine HT.region S_getText_ok ?_
  refine So.q rfl rfl (V.mv (v := .p (.v (.int .i64 _))) rfl ?_)
  refine So.q rfl rfl (V.as (v := .p (.v (.slice none 0 0))) rfl ?_)
  refine So.q rfl rfl (V.as (v := .p (.v (.int .i64 (0)))) rfl ?_)
  refine So.q rfl rfl (V.as (v := .p (.v (.int .i64 _))) rfl ?_)
  refine So.e ?_
  show HT _ _ _ _ _
  refine R.phan 4 1 5 1 (.bs []) rfl rfl rfl ⟨rfl, rfl⟩ ?_
  refine HT.ret ?_
  exact ret_ok (sg [(1, 1)]) h rfl rfl rfl ⟨trivial, trivial⟩ ⟨rfl, trivial, trivial, trivial⟩ rfl ⟨⟨⟨le_own2 (by first | rfl | omega) (by first | rfl | (unfold getTextF; simp (disch := omega) only [if_pos, if_neg, ne_eq] <;> first | rfl | (simp; done))), rfl⟩, ⟨le_int (by first | rfl | (unfold getTextF; simp (disch := omega) only [if_pos, if_neg, ne_eq] <;> first | rfl | (simp; done))), trivial⟩, ⟨le_int (by first | rfl | (unfold getTextF; simp (disch := omega) only [if_pos, if_neg, ne_eq] <;> first | rfl | (simp; done))), trivial⟩, trivial⟩, ⟨⟨_, rfl, .inl (ob_bs (by first | rfl | ((try dsimp only); (first | rfl | (unfold getTextF; simp (disch := omega) only [if_pos, if_neg, ne_eq] <;> first | rfl | (simp; done))))) (by first | rfl | ((try dsimp only); (first | rfl | (unfold getTextF; simp (disch := omega) only [if_pos, if_neg, ne_eq] <;> first | rfl | (simp; done)))))), trivial⟩, trivial⟩⟩
 ·have h2 := of_decide_eq_true (bnF h2)
  refine HT.skip ?_
  show HT _ _ _ _ _
  refine HT.seq ?_
  refine HT.region S_getText_ok ?_
  refine So.q rfl rfl (V.mv (v := .p (.bs _)) rfl ?_)
  refine So.q rfl rfl (V.mv (v := .p (.v (.int .i64 _))) rfl ?_)
  refine So.q rfl rfl (V.mv (v := .p (.v (.int .i64 _))) rfl ?_)
  refine So.q rfl rfl (V.cutBs ty22 ty5 rfl rfl rfl rfl (by omega) (.inl rfl) rfl ?_)
  refine So.n (lk rfl) (A.call0 [.p (.bs _)] 1 rfl rfl rfl rfl ⟨trivial, trivial⟩ trivial _ ⟨.refl _, trivial⟩ trivial (by first | omega | (simp; omega)) (Φ := fun _ => True) (fun _ _ => trivial) (.inl rfl) (v := .own 2 0 _) rfl (O' := (2, ⟨5, 1, _, true, .bs _⟩) :: _) rfl (fun h3 => ?_))
  refine So.q rfl rfl (V.mv (v := .p (.v (.int .i64 _))) rfl ?_)
  refine So.q rfl rfl (V.as (v := .own 2 0 _) rfl ?_)
  refine So.q rfl rfl (V.as (v := .p (.v (.int .i64 _))) rfl ?_)
  refine So.q rfl rfl (V.as (v := .p (.v (.int .i64 (0)))) rfl ?_)
  refine So.e ?_
  show HT _ _ _ _ _
  refine HT.ret ?_
  exact ret_ok (sg [(1, 2)]) h rfl rfl rfl ⟨trivial, trivial⟩ ⟨rfl, trivial, trivial, trivial⟩ rfl ⟨⟨⟨le_own2 (by first | rfl | omega) (by first | rfl | (unfold getTextF; simp (disch := omega) only [if_pos, if_neg, ne_eq] <;> first | rfl | (simp; done))), rfl⟩, ⟨le_int (by first | rfl | (unfold getTextF; simp (disch := omega) only [if_pos, if_neg, ne_eq] <;> first | rfl | (simp; done))), trivial⟩, ⟨le_int (by first | rfl | (unfold getTextF; simp (disch := omega) only [if_pos, if_neg, ne_eq] <;> first | rfl | (simp; done))), trivial⟩, trivial⟩, ⟨⟨_, rfl, .inl (ob_bs (by first | rfl | ((try dsimp only); (first | rfl | (unfold getTextF; simp (disch := omega) only [if_pos, if_neg, ne_eq] <;> first | rfl | (simp; done))))) (by first | rfl | ((try dsimp only); (first | rfl | (unfold getTextF; simp (disch := omega) only [if_pos, if_neg, ne_eq] <;> first | rfl | (simp; done)))))), trivial⟩, trivial⟩⟩
end Go.Vh

set_option linter.unusedVariables false
set_option linter.unusedSimpArgs false
namespace Go.Vh
open Go Go.Vc Go.Proofs Go.Vw
def rtext_pSp : Sp := ⟨[1, 2], mkE (α := (List UInt8) × Int × Int × (Nat → PV)) (fun (b, p, e, f) => [.ptr 1 (0), .own 3 (0) (1)]) (fun (b, p, e, f) => [(1, ⟨63, 1, 3, true, .rows (fun j => ([.bs b, .v (.int .i64 p), .v (.int .i64 e)] : List PV).getD j (.v undef))⟩), (2, ⟨57, 1, 3, true, .rows (fun j => if j = 0 then .bs ([]) else f j)⟩), (3, ⟨67, 1, 1, true, .cells [.ptr 2 (0)]⟩)]) (fun (b, p, e, f) => True) (fun (b, p, e, f) => []) (fun (b, p, e, f) => [(1, ⟨63, 1, 3, true, .rows (fun j => ([.bs b, .v (.int .i64 (rdT b p e).2.1), .v (.int .i64 (rdT b p e).2.2)] : List PV).getD j (.v undef))⟩), (2, ⟨57, 1, 3, true, .rows (fun j => if j = 0 then .bs ((rdT b p e).1) else f j)⟩)])⟩
def S_rtext_p : FuncId → Option Sp := fun f => if f = 49 then some getTextSp else none
theorem S_rtext_p_ok : ∀ f s, S_rtext_p f = some s → FOK Tryd.prog gl f s := fun f s h => by
 unfold S_rtext_p at h
 split at h
 ·rename_i e; cases h; subst e; exact getText_ok
 cases h
theorem S_rtext_p_det : ∀ f s, S_rtext_p f = some s → SpDet s.sp := fun f s h => by
 unfold S_rtext_p at h
 split at h
 ·cases h; exact mkE_det _ _ _ _ _
 cases h
set_option maxHeartbeats 1000000 in
set_option maxRecDepth 1000 in
theorem rtext_p_ok : FOK Tryd.prog gl 34 rtext_pSp := by
 refine FOK.ofE (tyOf_ok Tryd.prog) (slots := []) (nt := 39) Tryd.func34 rfl rfl rfl rfl (by decide) 2 (fun ⟨_, _, _, _⟩ => rfl) (by decide) (fun ⟨_, _, _, _⟩ => ⟨rfl, rfl, trivial⟩) ?_
 rintro ⟨b, p, e, f⟩ kk hlen hpre h
 have hl1 : _ ≤ 9223372036854775807 := hlen.2.1
 replace hpre : True := hpre
 show HT (cx Tryd.prog 39 (tyOf Tryd.prog) gl [1, 2]) _ [(0, .ptr 1 (0)), (1, .own 3 (0) (1))] [(1, ⟨63, 1, 3, true, .rows (fun j => ([.bs b, .v (.int .i64 p), .v (.int .i64 e)] : List PV).getD j (.v undef))⟩), (2, ⟨57, 1, 3, true, .rows (fun j => if j = 0 then .bs ([]) else f j)⟩), (3, ⟨67, 1, 1, true, .cells [.ptr 2 (0)]⟩)] _
 refine HT.seq ?_
 refine HT.region S_rtext_p_ok ?_
 refine So.q rfl rfl (V.mv (v := .own 3 0 _) rfl ?_)
 refine So.q rfl rfl (V.len ty83 (v := .own 3 0 _) rfl rfl ?_)
 refine So.q rfl rfl (V.mv (v := .p (.v (.int .i64 (0)))) rfl ?_)
 refine So.e ?_
 show HT _ _ _ _ _
 refine HT.block ?_
 refine HT.rounds 2 ?_
 show HT _ _ _ _ _
 refine HT.seq ?_
 refine HT.region S_rtext_p_ok ?_
 refine So.q rfl rfl (V.bin (a := (.v (.int .i64 _))) (b := (.v (.int .i64 _))) (r := .v (.bool _)) rfl rfl rfl trivial ?_)
 refine So.e ?_
 show HT _ _ _ _ _
 refine HT.seq ?_
 refine R.cond rfl rfl (fun h1 => ?_) (fun h1 => ?_)
 ·have h1 := of_decide_eq_true h1
  refine HT.skip ?_
  show HT _ _ _ _ _
  refine R.cut (True) [] [(1, ⟨63, 1, 3, true, .rows (fun j => ([.bs b, .v (.int .i64 (rdT b p e).2.1), .v (.int .i64 (rdT b p e).2.2)] : List PV).getD j (.v undef))⟩), (2, ⟨57, 1, 3, true, .rows (fun j => if j = 0 then .bs ((rdT b p e).1) else f j)⟩)] [0, 6, 7, 8] [3] (fr0 := [(0, .ptr 1 0), (6, .own 3 0 _), (7, .p (.v (.int .i64 _))), (8, .p (.v (.int .i64 _)))]) (O0 := [(3, ⟨_, _, _, _, .cells _⟩)]) rfl rfl ?_ (fun hphi => ?_)
  ·refine HT.block ?_
   refine HT.seq ?_
   refine HT.region S_rtext_p_ok ?_
   refine So.q rfl rfl (V.ixOwn10 ty83 ty67 rfl rfl rfl rfl rfl (by omega) rfl ?_)
   refine So.q rfl rfl (V.ldPtr ty67 rfl rfl rfl (lk rfl) (v := .ptr 2 0) rfl ?_)
   refine So.q rfl rfl (V.as (v := .ptr 2 0) rfl ?_)
   refine So.e ?_
   show HT _ _ _ _ _
   refine HT.seq ?_
   refine HT.region S_rtext_p_ok ?_
   refine So.q rfl rfl (V.mv (v := .ptr 1 0) rfl ?_)
   refine So.q rfl rfl (V.ncPtr rfl ?_)
   refine So.q rfl rfl (V.faPtr ty63 rfl ty29 (lk rfl) rfl rfl (lk rfl) ?_)
   refine So.q rfl rfl (V.ldPtr ty29 rfl rfl rfl (lk rfl) (v := .p (.v (.int .i64 _))) rfl ?_)
   refine So.q rfl rfl (V.bin (a := (.v (.int .i64 _))) (b := (.v (.int .i64 (0)))) (r := .v (.bool _)) rfl rfl rfl trivial ?_)
   refine So.e ?_
   show HT _ _ _ _ _
   refine R.cond rfl rfl (fun h2 => ?_) (fun h2 => ?_)
   ·have h2 := of_decide_eq_true h2
    refine HT.planS S_rtext_p_ok S_rtext_p_det mixed [] [⟨[0, 1, 2, 3, 4, 5, 6, 7, 8, 9, 10, 11, 12, 13, 14, 15, 16], 17, [1, 2, 14, 15]⟩, ⟨[1, 2, 14, 15, 18, 19], 20, [2, 15]⟩, ⟨[2, 15, 21, 22], 23, []⟩] (by kernel_rfl) ?_
    refine Pl.lk ?_
    refine Si.n rfl (lk rfl) (V.mv (v := .ptr 2 0) rfl ?_)
    refine Si.n rfl (lk rfl) (V.mv (v := .ptr 1 0) rfl ?_)
    refine Si.n rfl (lk rfl) (V.mv (v := .ptr 1 0) rfl ?_)
    refine Si.n rfl (lk rfl) (V.mv (v := .ptr 1 0) rfl ?_)
    refine Si.n rfl (lk rfl) (V.ncPtr rfl ?_)
    refine Si.n rfl (lk rfl) (V.faPtr ty63 rfl ty22 (lk rfl) rfl rfl (lk rfl) ?_)
    refine Si.n rfl (lk rfl) (V.ldPtr ty22 rfl rfl rfl (lk rfl) (v := .p (.bs _)) rfl ?_)
    refine Si.n rfl (lk rfl) (V.mv (v := .ptr 1 0) rfl ?_)
    refine Si.n rfl (lk rfl) (V.ncPtr rfl ?_)
    refine Si.n rfl (lk rfl) (V.faPtr ty63 rfl ty3 (lk rfl) rfl rfl (lk rfl) ?_)
    refine Si.n rfl (lk rfl) (V.ldPtr ty3 rfl rfl rfl (lk rfl) (v := .p (.v (.int .i64 _))) rfl ?_)
    refine Si.n rfl (lk rfl) (V.call [.p (.bs _), .p (.v (.int .i64 _))] 4 rfl rfl rfl rfl ⟨trivial, trivial, trivial⟩ ⟨lk rfl, lk rfl, trivial⟩ (_, _) ⟨.refl _, .refl _, trivial⟩ trivial (by trivial) (Φ := fun (b, i) => ((getTextF b i).2.2 = 0 → 0 ≤ i ∧ i < (getTextF b i).2.1 ∧ (getTextF b i).2.1 ≤ b.length) ∧ (getTextF b i).1.length ≤ 1048576) (fun (b, i) _ => ⟨getTextF_ok b i, getTextF_len b i⟩) (.inl ⟨trivial, trivial, trivial⟩) (v := .tup 3 _) rfl (fun h3 => ?_))
    try dsimp only at h3
    refine Si.n rfl (lk rfl) (V.mv (v := .tup 3 _) rfl ?_)
    refine Si.n rfl (lk rfl) (V.ext rfl (lk rfl) (v := .p (.bs _)) rfl ?_)
    refine Si.n rfl (lk rfl) (V.ext rfl (lk rfl) (v := .p (.v (.int .i64 _))) rfl ?_)
    refine Si.n rfl (lk rfl) (V.ext rfl (lk rfl) (v := .p (.v (.int .i64 _))) rfl ?_)
    refine Si.n rfl (lk rfl) (V.ncPtr rfl ?_)
    refine Si.e ?_
    refine ⟨flEq_nil, fun ff => ?_⟩
    refine Lo.s rfl (A.sto ty22 rfl rfl rfl (v := .p (.bs _)) rfl trivial rfl (lk rfl) rfl rfl ?_)
    refine ⟨_, fun ff => ff, ap0, rfl, FG.id, ?_⟩
    show planA _ _ _ _ _ [(1, .ptr 1 0), (2, .ptr 1 0), (14, .p (.v (.int .i64 _))), (15, .p (.v (.int .i64 _)))] _ _ _
    refine Pl.lk ?_
    refine Si.n rfl (lk rfl) (V.mv (v := .ptr 1 0) rfl ?_)
    refine Si.n rfl (lk rfl) (V.mv (v := .ptr 1 0) rfl ?_)
    refine Si.n rfl (lk rfl) (V.ext rfl (lk rfl) (v := .p (.v (.int .i64 _))) rfl ?_)
    refine Si.n rfl (lk rfl) (V.ext rfl (lk rfl) (v := .p (.v (.int .i64 _))) rfl ?_)
    refine Si.n rfl (lk rfl) (V.ncPtr rfl ?_)
    refine Si.n rfl (lk rfl) (V.faPtr ty63 rfl ty3 (lk rfl) rfl rfl (lk rfl) ?_)
    refine Si.e ?_
    refine ⟨(flEq_cons rfl (flEq_cons rfl (flEq_cons rfl (flEq_cons rfl flEq_nil)))), fun ff => ?_⟩
    refine Lo.s rfl (A.sto ty3 rfl rfl rfl (v := .p (.v (.int .i64 _))) rfl rfl rfl (lk rfl) rfl rfl ?_)
    refine ⟨_, fun ff => ff, ap0, rfl, FG.id, ?_⟩
    show planA _ _ _ _ _ [(2, .ptr 1 0), (15, .p (.v (.int .i64 _)))] _ _ _
    refine Pl.l0 ?_
    refine Si.n rfl (lk rfl) (V.mv (v := .ptr 1 0) rfl ?_)
    refine Si.n rfl (lk rfl) (V.ext rfl (lk rfl) (v := .p (.v (.int .i64 _))) rfl ?_)
    refine Si.n rfl (lk rfl) (V.ncPtr rfl ?_)
    refine Si.n rfl (lk rfl) (V.faPtr ty63 rfl ty29 (lk rfl) rfl rfl (lk rfl) ?_)
    refine Si.e ?_
    refine ⟨(flEq_cons rfl (flEq_cons rfl flEq_nil)), ?_⟩
    refine Lo.s rfl (A.sto ty29 rfl rfl rfl (v := .p (.v (.int .i64 _))) rfl rfl rfl (lk rfl) rfl rfl ?_)
    refine Pl.e ?_
    refine Si.e ?_
    refine ⟨flEq_nil, ?_⟩
    exact ⟨by first | rfl | omega | (simp; done) | (simp; omega), ⟨⟨⟨.refl _, rfl⟩, ⟨.refl _, rfl⟩, ⟨.refl _, trivial⟩, ⟨.refl _, trivial⟩, trivial⟩, ⟨⟨_, rfl, .inr (ob_rows (by rfl) (by first | (rw [show rdT b p e = Go.Vh.gT b p from rdT_0 (e := e) (by assumption)]; (intro j hj; match j, hj with | 0, _ => rfl | 1, _ => rfl | 2, _ => rfl)) | (rw [show rdT b p e = ([], p, e) from rdT_1 (e := e) (by assumption)]; (intro j hj; match j, hj with | 0, _ => rfl | 1, _ => rfl | 2, _ => rfl)))), trivial⟩, ⟨_, rfl, .inr (ob_rows (by rfl) (by first | (rw [show rdT b p e = Go.Vh.gT b p from rdT_0 (e := e) (by assumption)]; intro j hj; by_cases h0 : j = 0 <;> first | (simp [h0, gT]; done) | (exfalso; omega)) | (rw [show rdT b p e = ([], p, e) from rdT_1 (e := e) (by assumption)]; intro j hj; by_cases h0 : j = 0 <;> first | (simp [h0, gT]; done) | (exfalso; omega)))), trivial⟩, ⟨_, rfl, .inl rfl, ⟨rfl, trivial⟩⟩, trivial⟩⟩⟩
   ·have h2 := of_decide_eq_false h2
    refine HT.skip ?_
    exact ⟨by first | rfl | omega | (simp; done) | (simp; omega), ⟨⟨⟨.refl _, rfl⟩, ⟨.refl _, rfl⟩, ⟨.refl _, trivial⟩, ⟨.refl _, trivial⟩, trivial⟩, ⟨⟨_, rfl, .inr (ob_rows (by rfl) (by first | (rw [show rdT b p e = Go.Vh.gT b p from rdT_0 (e := e) (by assumption)]; (intro j hj; match j, hj with | 0, _ => rfl | 1, _ => rfl | 2, _ => rfl)) | (rw [show rdT b p e = ([], p, e) from rdT_1 (e := e) (by assumption)]; (intro j hj; match j, hj with | 0, _ => rfl | 1, _ => rfl | 2, _ => rfl)))), trivial⟩, ⟨_, rfl, .inr (ob_rows (by rfl) (by first | (rw [show rdT b p e = Go.Vh.gT b p from rdT_0 (e := e) (by assumption)]; intro j hj; by_cases h0 : j = 0 <;> first | (simp [h0, gT]; done) | (exfalso; omega)) | (rw [show rdT b p e = ([], p, e) from rdT_1 (e := e) (by assumption)]; intro j hj; by_cases h0 : j = 0 <;> first | (simp [h0, gT]; done) | (exfalso; omega)))), trivial⟩, ⟨_, rfl, .inl rfl, ⟨rfl, trivial⟩⟩, trivial⟩⟩⟩
  ·refine HT.region S_rtext_p_ok ?_
   refine So.q rfl rfl (V.addI rfl rfl (by omega) ?_)
   refine So.q rfl rfl (V.mv (v := .p (.v (.int .i64 _))) rfl ?_)
   refine So.e ?_
   show HT _ _ _ _ _
   refine HT.seq ?_
   refine HT.region S_rtext_p_ok ?_
   refine So.q rfl rfl (V.bin (a := (.v (.int .i64 _))) (b := (.v (.int .i64 _))) (r := .v (.bool _)) rfl rfl rfl trivial ?_)
   refine So.e ?_
   show HT _ _ _ _ _
   refine HT.seq ?_
   refine R.cond rfl rfl (fun h4 => ?_) (fun h4 => ?_)
   ·have h4 := of_decide_eq_true h4
    exfalso; omega
   ·have h4 := of_decide_eq_false h4
    refine HT.exit ?_
    exact ret_ok (sg [(1, 1), (2, 2)]) h rfl rfl rfl ⟨trivial, trivial, trivial⟩ trivial rfl ⟨trivial, ⟨⟨_, rfl, .inr (ob_rows (by first | rfl | ((try dsimp only); (first | with_reducible rfl | (intro j hj; rfl)))) (by first | rfl | ((try dsimp only); (first | with_reducible rfl | (intro j hj; rfl))))), trivial⟩, ⟨_, rfl, .inr (ob_rows (by first | rfl | ((try dsimp only); (first | with_reducible rfl | (intro j hj; rfl)))) (by first | rfl | ((try dsimp only); (first | with_reducible rfl | (intro j hj; rfl))))), trivial⟩, trivial⟩⟩
 ·have h1 := of_decide_eq_false h1
  exfalso; omega
def rtext_bSp : Sp := ⟨[1, 2], mkE (α := (List UInt8) × Int × Int × (Nat → PV)) (fun (b, p, e, f) => [.ptr 1 (0), .own 3 (0) (1)]) (fun (b, p, e, f) => [(1, ⟨63, 1, 3, true, .rows (fun j => ([.bs b, .v (.int .i64 p), .v (.int .i64 e)] : List PV).getD j (.v undef))⟩), (2, ⟨26, 1, 8, true, .rows (fun j => if j = 4 then .bs ([]) else f j)⟩), (3, ⟨67, 1, 1, true, .cells [.ptr 2 (4)]⟩)]) (fun (b, p, e, f) => True) (fun (b, p, e, f) => []) (fun (b, p, e, f) => [(1, ⟨63, 1, 3, true, .rows (fun j => ([.bs b, .v (.int .i64 (rdT b p e).2.1), .v (.int .i64 (rdT b p e).2.2)] : List PV).getD j (.v undef))⟩), (2, ⟨26, 1, 8, true, .rows (fun j => if j = 4 then .bs ((rdT b p e).1) else f j)⟩)])⟩
def S_rtext_b : FuncId → Option Sp := fun f => if f = 49 then some getTextSp else none
theorem S_rtext_b_ok : ∀ f s, S_rtext_b f = some s → FOK Tryd.prog gl f s := fun f s h => by
 unfold S_rtext_b at h
 split at h
 ·rename_i e; cases h; subst e; exact getText_ok
 cases h
theorem S_rtext_b_det : ∀ f s, S_rtext_b f = some s → SpDet s.sp := fun f s h => by
 unfold S_rtext_b at h
 split at h
 ·cases h; exact mkE_det _ _ _ _ _
 cases h
set_option maxHeartbeats 1000000 in
set_option maxRecDepth 1000 in
theorem rtext_b_ok : FOK Tryd.prog gl 34 rtext_bSp := by
 refine FOK.ofE (tyOf_ok Tryd.prog) (slots := []) (nt := 39) Tryd.func34 rfl rfl rfl rfl (by decide) 2 (fun ⟨_, _, _, _⟩ => rfl) (by decide) (fun ⟨_, _, _, _⟩ => ⟨rfl, rfl, trivial⟩) ?_
 rintro ⟨b, p, e, f⟩ kk hlen hpre h
 have hl1 : _ ≤ 9223372036854775807 := hlen.2.1
 replace hpre : True := hpre
 show HT (cx Tryd.prog 39 (tyOf Tryd.prog) gl [1, 2]) _ [(0, .ptr 1 (0)), (1, .own 3 (0) (1))] [(1, ⟨63, 1, 3, true, .rows (fun j => ([.bs b, .v (.int .i64 p), .v (.int .i64 e)] : List PV).getD j (.v undef))⟩), (2, ⟨26, 1, 8, true, .rows (fun j => if j = 4 then .bs ([]) else f j)⟩), (3, ⟨67, 1, 1, true, .cells [.ptr 2 (4)]⟩)] _
 refine HT.seq ?_
 refine HT.region S_rtext_b_ok ?_
 refine So.q rfl rfl (V.mv (v := .own 3 0 _) rfl ?_)
 refine So.q rfl rfl (V.len ty83 (v := .own 3 0 _) rfl rfl ?_)
 refine So.q rfl rfl (V.mv (v := .p (.v (.int .i64 (0)))) rfl ?_)
 refine So.e ?_
 show HT _ _ _ _ _
 refine HT.block ?_
 refine HT.rounds 2 ?_
 show HT _ _ _ _ _
 refine HT.seq ?_
 refine HT.region S_rtext_b_ok ?_
 refine So.q rfl rfl (V.bin (a := (.v (.int .i64 _))) (b := (.v (.int .i64 _))) (r := .v (.bool _)) rfl rfl rfl trivial ?_)
 refine So.e ?_
 show HT _ _ _ _ _
 refine HT.seq ?_
 refine R.cond rfl rfl (fun h1 => ?_) (fun h1 => ?_)
 ·have h1 := of_decide_eq_true h1
  refine HT.skip ?_
  show HT _ _ _ _ _
  refine R.cut (True) [] [(1, ⟨63, 1, 3, true, .rows (fun j => ([.bs b, .v (.int .i64 (rdT b p e).2.1), .v (.int .i64 (rdT b p e).2.2)] : List PV).getD j (.v undef))⟩), (2, ⟨26, 1, 8, true, .rows (fun j => if j = 4 then .bs ((rdT b p e).1) else f j)⟩)] [0, 6, 7, 8] [3] (fr0 := [(0, .ptr 1 0), (6, .own 3 0 _), (7, .p (.v (.int .i64 _))), (8, .p (.v (.int .i64 _)))]) (O0 := [(3, ⟨_, _, _, _, .cells _⟩)]) rfl rfl ?_ (fun hphi => ?_)
  ·refine HT.block ?_
   refine HT.seq ?_
   refine HT.region S_rtext_b_ok ?_
   refine So.q rfl rfl (V.ixOwn10 ty83 ty67 rfl rfl rfl rfl rfl (by omega) rfl ?_)
   refine So.q rfl rfl (V.ldPtr ty67 rfl rfl rfl (lk rfl) (v := .ptr 2 4) rfl ?_)
   refine So.q rfl rfl (V.as (v := .ptr 2 4) rfl ?_)
   refine So.e ?_
   show HT _ _ _ _ _
   refine HT.seq ?_
   refine HT.region S_rtext_b_ok ?_
   refine So.q rfl rfl (V.mv (v := .ptr 1 0) rfl ?_)
   refine So.q rfl rfl (V.ncPtr rfl ?_)
   refine So.q rfl rfl (V.faPtr ty63 rfl ty29 (lk rfl) rfl rfl (lk rfl) ?_)
   refine So.q rfl rfl (V.ldPtr ty29 rfl rfl rfl (lk rfl) (v := .p (.v (.int .i64 _))) rfl ?_)
   refine So.q rfl rfl (V.bin (a := (.v (.int .i64 _))) (b := (.v (.int .i64 (0)))) (r := .v (.bool _)) rfl rfl rfl trivial ?_)
   refine So.e ?_
   show HT _ _ _ _ _
   refine R.cond rfl rfl (fun h2 => ?_) (fun h2 => ?_)
   ·have h2 := of_decide_eq_true h2
    refine HT.planS S_rtext_b_ok S_rtext_b_det mixed [] [⟨[0, 1, 2, 3, 4, 5, 6, 7, 8, 9, 10, 11, 12, 13, 14, 15, 16], 17, [1, 2, 14, 15]⟩, ⟨[1, 2, 14, 15, 18, 19], 20, [2, 15]⟩, ⟨[2, 15, 21, 22], 23, []⟩] (by kernel_rfl) ?_
    refine Pl.lk ?_
    refine Si.n rfl (lk rfl) (V.mv (v := .ptr 2 4) rfl ?_)
    refine Si.n rfl (lk rfl) (V.mv (v := .ptr 1 0) rfl ?_)
    refine Si.n rfl (lk rfl) (V.mv (v := .ptr 1 0) rfl ?_)
    refine Si.n rfl (lk rfl) (V.mv (v := .ptr 1 0) rfl ?_)
    refine Si.n rfl (lk rfl) (V.ncPtr rfl ?_)
    refine Si.n rfl (lk rfl) (V.faPtr ty63 rfl ty22 (lk rfl) rfl rfl (lk rfl) ?_)
    refine Si.n rfl (lk rfl) (V.ldPtr ty22 rfl rfl rfl (lk rfl) (v := .p (.bs _)) rfl ?_)
    refine Si.n rfl (lk rfl) (V.mv (v := .ptr 1 0) rfl ?_)
    refine Si.n rfl (lk rfl) (V.ncPtr rfl ?_)
    refine Si.n rfl (lk rfl) (V.faPtr ty63 rfl ty3 (lk rfl) rfl rfl (lk rfl) ?_)
    refine Si.n rfl (lk rfl) (V.ldPtr ty3 rfl rfl rfl (lk rfl) (v := .p (.v (.int .i64 _))) rfl ?_)
    refine Si.n rfl (lk rfl) (V.call [.p (.bs _), .p (.v (.int .i64 _))] 4 rfl rfl rfl rfl ⟨trivial, trivial, trivial⟩ ⟨lk rfl, lk rfl, trivial⟩ (_, _) ⟨.refl _, .refl _, trivial⟩ trivial (by trivial) (Φ := fun (b, i) => ((getTextF b i).2.2 = 0 → 0 ≤ i ∧ i < (getTextF b i).2.1 ∧ (getTextF b i).2.1 ≤ b.length) ∧ (getTextF b i).1.length ≤ 1048576) (fun (b, i) _ => ⟨getTextF_ok b i, getTextF_len b i⟩) (.inl ⟨trivial, trivial, trivial⟩) (v := .tup 3 _) rfl (fun h3 => ?_))
    try dsimp only at h3
    refine Si.n rfl (lk rfl) (V.mv (v := .tup 3 _) rfl ?_)
    refine Si.n rfl (lk rfl) (V.ext rfl (lk rfl) (v := .p (.bs _)) rfl ?_)
    refine Si.n rfl (lk rfl) (V.ext rfl (lk rfl) (v := .p (.v (.int .i64 _))) rfl ?_)
    refine Si.n rfl (lk rfl) (V.ext rfl (lk rfl) (v := .p (.v (.int .i64 _))) rfl ?_)
    refine Si.n rfl (lk rfl) (V.ncPtr rfl ?_)
    refine Si.e ?_
    refine ⟨flEq_nil, fun ff => ?_⟩
    refine Lo.s rfl (A.sto ty22 rfl rfl rfl (v := .p (.bs _)) rfl trivial rfl (lk rfl) rfl rfl ?_)
    refine ⟨_, fun ff => ff, ap0, rfl, FG.id, ?_⟩
    show planA _ _ _ _ _ [(1, .ptr 1 0), (2, .ptr 1 0), (14, .p (.v (.int .i64 _))), (15, .p (.v (.int .i64 _)))] _ _ _
    refine Pl.lk ?_
    refine Si.n rfl (lk rfl) (V.mv (v := .ptr 1 0) rfl ?_)
    refine Si.n rfl (lk rfl) (V.mv (v := .ptr 1 0) rfl ?_)
    refine Si.n rfl (lk rfl) (V.ext rfl (lk rfl) (v := .p (.v (.int .i64 _))) rfl ?_)
    refine Si.n rfl (lk rfl) (V.ext rfl (lk rfl) (v := .p (.v (.int .i64 _))) rfl ?_)
    refine Si.n rfl (lk rfl) (V.ncPtr rfl ?_)
    refine Si.n rfl (lk rfl) (V.faPtr ty63 rfl ty3 (lk rfl) rfl rfl (lk rfl) ?_)
    refine Si.e ?_
    refine ⟨(flEq_cons rfl (flEq_cons rfl (flEq_cons rfl (flEq_cons rfl flEq_nil)))), fun ff => ?_⟩
    refine Lo.s rfl (A.sto ty3 rfl rfl rfl (v := .p (.v (.int .i64 _))) rfl rfl rfl (lk rfl) rfl rfl ?_)
    refine ⟨_, fun ff => ff, ap0, rfl, FG.id, ?_⟩
    show planA _ _ _ _ _ [(2, .ptr 1 0), (15, .p (.v (.int .i64 _)))] _ _ _
    refine Pl.l0 ?_
    refine Si.n rfl (lk rfl) (V.mv (v := .ptr 1 0) rfl ?_)
    refine Si.n rfl (lk rfl) (V.ext rfl (lk rfl) (v := .p (.v (.int .i64 _))) rfl ?_)
    refine Si.n rfl (lk rfl) (V.ncPtr rfl ?_)
    refine Si.n rfl (lk rfl) (V.faPtr ty63 rfl ty29 (lk rfl) rfl rfl (lk rfl) ?_)
    refine Si.e ?_
    refine ⟨(flEq_cons rfl (flEq_cons rfl flEq_nil)), ?_⟩
    refine Lo.s rfl (A.sto ty29 rfl rfl rfl (v := .p (.v (.int .i64 _))) rfl rfl rfl (lk rfl) rfl rfl ?_)
    refine Pl.e ?_
    refine Si.e ?_
    refine ⟨flEq_nil, ?_⟩
    exact ⟨by first | rfl | omega | (simp; done) | (simp; omega), ⟨⟨⟨.refl _, rfl⟩, ⟨.refl _, rfl⟩, ⟨.refl _, trivial⟩, ⟨.refl _, trivial⟩, trivial⟩, ⟨⟨_, rfl, .inr (ob_rows (by rfl) (by first | (rw [show rdT b p e = Go.Vh.gT b p from rdT_0 (e := e) (by assumption)]; (intro j hj; match j, hj with | 0, _ => rfl | 1, _ => rfl | 2, _ => rfl)) | (rw [show rdT b p e = ([], p, e) from rdT_1 (e := e) (by assumption)]; (intro j hj; match j, hj with | 0, _ => rfl | 1, _ => rfl | 2, _ => rfl)))), trivial⟩, ⟨_, rfl, .inr (ob_rows (by rfl) (by first | (rw [show rdT b p e = Go.Vh.gT b p from rdT_0 (e := e) (by assumption)]; intro j hj; by_cases h4 : j = 4 <;> first | (simp [h4, gT]; done) | (exfalso; omega)) | (rw [show rdT b p e = ([], p, e) from rdT_1 (e := e) (by assumption)]; intro j hj; by_cases h4 : j = 4 <;> first | (simp [h4, gT]; done) | (exfalso; omega)))), trivial⟩, ⟨_, rfl, .inl rfl, ⟨rfl, trivial⟩⟩, trivial⟩⟩⟩
   ·have h2 := of_decide_eq_false h2
    refine HT.skip ?_
    exact ⟨by first | rfl | omega | (simp; done) | (simp; omega), ⟨⟨⟨.refl _, rfl⟩, ⟨.refl _, rfl⟩, ⟨.refl _, trivial⟩, ⟨.refl _, trivial⟩, trivial⟩, ⟨⟨_, rfl, .inr (ob_rows (by rfl) (by first | (rw [show rdT b p e = Go.Vh.gT b p from rdT_0 (e := e) (by assumption)]; (intro j hj; match j, hj with | 0, _ => rfl | 1, _ => rfl | 2, _ => rfl)) | (rw [show rdT b p e = ([], p, e) from rdT_1 (e := e) (by assumption)]; (intro j hj; match j, hj with | 0, _ => rfl | 1, _ => rfl | 2, _ => rfl)))), trivial⟩, ⟨_, rfl, .inr (ob_rows (by rfl) (by first | (rw [show rdT b p e = Go.Vh.gT b p from rdT_0 (e := e) (by assumption)]; intro j hj; by_cases h4 : j = 4 <;> first | (simp [h4, gT]; done) | (exfalso; omega)) | (rw [show rdT b p e = ([], p, e) from rdT_1 (e := e) (by assumption)]; intro j hj; by_cases h4 : j = 4 <;> first | (simp [h4, gT]; done) | (exfalso; omega)))), trivial⟩, ⟨_, rfl, .inl rfl, ⟨rfl, trivial⟩⟩, trivial⟩⟩⟩
  ·refine HT.region S_rtext_b_ok ?_
   refine So.q rfl rfl (V.addI rfl rfl (by omega) ?_)
   refine So.q rfl rfl (V.mv (v := .p (.v (.int .i64 _))) rfl ?_)
   refine So.e ?_
   show HT _ _ _ _ _
   refine HT.seq ?_
   refine HT.region S_rtext_b_ok ?_
   refine So.q rfl rfl (V.bin (a := (.v (.int .i64 _))) (b := (.v (.int .i64 _))) (r := .v (.bool _)) rfl rfl rfl trivial ?_)
   refine So.e ?_
   show HT _ _ _ _ _
   refine HT.seq ?_
   refine R.cond rfl rfl (fun h4 => ?_) (fun h4 => ?_)
   ·have h4 := of_decide_eq_true h4
    exfalso; omega
   ·have h4 := of_decide_eq_false h4
    refine HT.exit ?_
    exact ret_ok (sg [(1, 1), (2, 2)]) h rfl rfl rfl ⟨trivial, trivial, trivial⟩ trivial rfl ⟨trivial, ⟨⟨_, rfl, .inr (ob_rows (by first | rfl | ((try dsimp only); (first | with_reducible rfl | (intro j hj; rfl)))) (by first | rfl | ((try dsimp only); (first | with_reducible rfl | (intro j hj; rfl))))), trivial⟩, ⟨_, rfl, .inr (ob_rows (by first | rfl | ((try dsimp only); (first | with_reducible rfl | (intro j hj; rfl)))) (by first | rfl | ((try dsimp only); (first | with_reducible rfl | (intro j hj; rfl))))), trivial⟩, trivial⟩⟩
 ·have h1 := of_decide_eq_false h1
  exfalso; omega
end Go.Vh

set_option linter.unusedVariables false
set_option linter.unusedSimpArgs false
namespace Go.Vh
open Go Go.Vc Go.Proofs Go.Vw
def frnumSp : Sp := ⟨[1], mkE (α := (List UInt8) × Int × Int × Int) (fun (b, p, e, k) => [.ptr 1 (0), .p (.v (.int .i64 (k)))]) (fun (b, p, e, k) => [(1, ⟨63, 1, 3, true, .rows (fun j => ([.bs b, .v (.int .i64 p), .v (.int .i64 e)] : List PV).getD j (.v undef))⟩)]) (fun (b, p, e, k) => True) (fun (b, p, e, k) => [.p (.v (.int .i64 ((rdN b p e k).1)))]) (fun (b, p, e, k) => [(1, ⟨63, 1, 3, true, .rows (fun j => ([.bs b, .v (.int .i64 (rdN b p e k).2.1), .v (.int .i64 (rdN b p e k).2.2)] : List PV).getD j (.v undef))⟩)])⟩
def S_frnum : FuncId → Option Sp := fun f => if f = 48 then some getSp else none
theorem S_frnum_ok : ∀ f s, S_frnum f = some s → FOK Tryd.prog gl f s := fun f s h => by
 unfold S_frnum at h
 split at h
 ·rename_i e; cases h; subst e; exact get_ok
 cases h
theorem S_frnum_det : ∀ f s, S_frnum f = some s → SpDet s.sp := fun f s h => by
 unfold S_frnum at h
 split at h
 ·cases h; exact mkE_det _ _ _ _ _
 cases h
set_option maxHeartbeats 1000000 in
set_option maxRecDepth 1000 in
theorem frnum_ok : FOK Tryd.prog gl 33 frnumSp := by
 refine FOK.ofE (tyOf_ok Tryd.prog) (slots := [4]) (nt := 32) Tryd.func33 rfl rfl rfl rfl (by decide) 2 (fun ⟨_, _, _, _⟩ => rfl) (by decide) (fun ⟨_, _, _, _⟩ => ⟨rfl, trivial, trivial⟩) ?_
 rintro ⟨b, p, e, k⟩ kk hlen hpre h
 replace hpre : True := hpre
 show HT (cx Tryd.prog 32 (tyOf Tryd.prog) gl [1]) _ [(0, .ptr 1 (0)), (1, .p (.v (.int .i64 (k))))] [(1, ⟨63, 1, 3, true, .rows (fun j => ([.bs b, .v (.int .i64 p), .v (.int .i64 e)] : List PV).getD j (.v undef))⟩)] _
 refine HT.seq ?_
 refine HT.region S_frnum_ok ?_
 refine So.q rfl rfl (V.as (v := .p (.v (.int .i64 (0)))) rfl ?_)
 refine So.e ?_
 show HT _ _ _ _ _
 refine HT.seq ?_
 refine HT.region S_frnum_ok ?_
 refine So.q rfl rfl (V.as (v := .p (.v (.int .i64 (0)))) rfl ?_)
 refine So.e ?_
 show HT _ _ _ _ _
 refine HT.seq ?_
 refine HT.seq ?_
 refine HT.region S_frnum_ok ?_
 refine So.q rfl rfl (V.mv (v := .ptr 1 0) rfl ?_)
 refine So.q rfl rfl (V.ncPtr rfl ?_)
 refine So.q rfl rfl (V.faPtr ty63 rfl ty29 (lk rfl) rfl rfl (lk rfl) ?_)
 refine So.q rfl rfl (V.ldPtr ty29 rfl rfl rfl (lk rfl) (v := .p (.v (.int .i64 _))) rfl ?_)
 refine So.q rfl rfl (V.bin (a := (.v (.int .i64 _))) (b := (.v (.int .i64 (0)))) (r := .v (.bool _)) rfl rfl rfl trivial ?_)
 refine So.e ?_
 show HT _ _ _ _ _
 refine R.cond rfl rfl (fun h1 => ?_) (fun h1 => ?_)
 ·have h1 := of_decide_eq_true h1
  refine HT.planS S_frnum_ok S_frnum_det mixed [] [⟨[0, 1, 2, 3, 4, 5, 6, 7, 8, 9, 10, 11, 12, 13, 14, 15, 16, 17, 18], 19, [1, 15]⟩, ⟨[1, 15, 20, 21], 22, []⟩] (by kernel_rfl) ?_
  refine Pl.lk ?_
  refine Si.n rfl (lk rfl) (V.mv (v := .ptr 1 0) rfl ?_)
  refine Si.n rfl (lk rfl) (V.mv (v := .ptr 1 0) rfl ?_)
  refine Si.n rfl (lk rfl) (V.mv (v := .ptr 1 0) rfl ?_)
  refine Si.n rfl (lk rfl) (V.ncPtr rfl ?_)
  refine Si.n rfl (lk rfl) (V.faPtr ty63 rfl ty22 (lk rfl) rfl rfl (lk rfl) ?_)
  refine Si.n rfl (lk rfl) (V.ldPtr ty22 rfl rfl rfl (lk rfl) (v := .p (.bs _)) rfl ?_)
  refine Si.n rfl (lk rfl) (V.mv (v := .ptr 1 0) rfl ?_)
  refine Si.n rfl (lk rfl) (V.ncPtr rfl ?_)
  refine Si.n rfl (lk rfl) (V.faPtr ty63 rfl ty3 (lk rfl) rfl rfl (lk rfl) ?_)
  refine Si.n rfl (lk rfl) (V.ldPtr ty3 rfl rfl rfl (lk rfl) (v := .p (.v (.int .i64 _))) rfl ?_)
  refine Si.n rfl (lk rfl) (V.mv (v := .p (.v (.int .i64 _))) rfl ?_)
  refine Si.n rfl (lk rfl) (V.call [.p (.bs _), .p (.v (.int .i64 _)), .p (.v (.int .i64 _))] 2 rfl rfl rfl rfl ⟨trivial, trivial, trivial, trivial⟩ ⟨lk rfl, trivial⟩ (_, _, _) ⟨.refl _, .refl _, .refl _, trivial⟩ trivial (by trivial) (Φ := fun (b, i, n) => 0 ≤ (getF b i n).2.1 ∧ (getF b i n).2.1 ≤ b.length) (fun (b, i, n) _ => ⟨(getF_from b i n).1, (getF_from b i n).2.1⟩) (.inl ⟨trivial, trivial, trivial, trivial⟩) (v := .tup 3 _) rfl (fun h2 => ?_))
  try dsimp only at h2
  refine Si.n rfl (lk rfl) (V.mv (v := .tup 3 _) rfl ?_)
  refine Si.n rfl (lk rfl) (V.ext rfl (lk rfl) (v := .p (.v (.int .i64 _))) rfl ?_)
  refine Si.n rfl (lk rfl) (V.ext rfl (lk rfl) (v := .p (.v (.int .i64 _))) rfl ?_)
  refine Si.n rfl (lk rfl) (V.ext rfl (lk rfl) (v := .p (.v (.int .i64 _))) rfl ?_)
  refine Si.n rfl (lk rfl) (V.as (v := .p (.v (.int .i64 _))) rfl ?_)
  refine Si.n rfl (lk rfl) (V.ncPtr rfl ?_)
  refine Si.n rfl (lk rfl) (V.faPtr ty63 rfl ty3 (lk rfl) rfl rfl (lk rfl) ?_)
  refine Si.e ?_
  refine ⟨flEq_nil, fun ff => ?_⟩
  refine Lo.s rfl (A.sto ty3 rfl rfl rfl (v := .p (.v (.int .i64 _))) rfl rfl rfl (lk rfl) rfl rfl ?_)
  refine ⟨_, fun ff => ff, ap0, rfl, FG.id, ?_⟩
  show planA _ _ _ _ _ [(1, .ptr 1 0), (15, .p (.v (.int .i64 _)))] _ _ _
  refine Pl.l0 ?_
  refine Si.n rfl (lk rfl) (V.mv (v := .ptr 1 0) rfl ?_)
  refine Si.n rfl (lk rfl) (V.ext rfl (lk rfl) (v := .p (.v (.int .i64 _))) rfl ?_)
  refine Si.n rfl (lk rfl) (V.ncPtr rfl ?_)
  refine Si.n rfl (lk rfl) (V.faPtr ty63 rfl ty29 (lk rfl) rfl rfl (lk rfl) ?_)
  refine Si.e ?_
  refine ⟨(flEq_cons rfl (flEq_cons rfl flEq_nil)), ?_⟩
  refine Lo.s rfl (A.sto ty29 rfl rfl rfl (v := .p (.v (.int .i64 _))) rfl rfl rfl (lk rfl) rfl rfl ?_)
  refine Pl.e ?_
  refine Si.e ?_
  refine ⟨flEq_nil, ?_⟩
  show HT _ _ _ _ _
  refine HT.seq ?_
  refine HT.region S_frnum_ok ?_
  refine So.q rfl rfl (V.mv (v := .p (.v (.int .i64 _))) rfl ?_)
  refine So.q rfl rfl (V.as (v := .p (.v (.int .i64 _))) rfl ?_)
  refine So.e ?_
  show HT _ _ _ _ _
  refine HT.ret ?_
  exact ret_ok (sg [(1, 1)]) h rfl rfl rfl ⟨trivial, trivial⟩ ⟨trivial, trivial⟩ rfl ⟨⟨⟨le_int (by first | with_reducible rfl | (rw [rdN_0 (by assumption)]; done) | (rw [rdN_1 (by assumption)]; done) | (rw [rdN_0 (by assumption)]; (intro j hj; match j, hj with | 0, _ => rfl | 1, _ => rfl | 2, _ => rfl)) | (rw [rdN_1 (by assumption)]; (intro j hj; match j, hj with | 0, _ => rfl | 1, _ => rfl | 2, _ => rfl)) | (rw [rdN_0 (by assumption), take_full])), trivial⟩, trivial⟩, ⟨⟨_, rfl, .inr (ob_rows (by first | rfl | ((try dsimp only); (first | with_reducible rfl | (rw [rdN_0 (by assumption)]; done) | (rw [rdN_1 (by assumption)]; done) | (rw [rdN_0 (by assumption)]; (intro j hj; match j, hj with | 0, _ => rfl | 1, _ => rfl | 2, _ => rfl)) | (rw [rdN_1 (by assumption)]; (intro j hj; match j, hj with | 0, _ => rfl | 1, _ => rfl | 2, _ => rfl)) | (rw [rdN_0 (by assumption), take_full])))) (by first | rfl | ((try dsimp only); (first | with_reducible rfl | (rw [rdN_0 (by assumption)]; done) | (rw [rdN_1 (by assumption)]; done) | (rw [rdN_0 (by assumption)]; (intro j hj; match j, hj with | 0, _ => rfl | 1, _ => rfl | 2, _ => rfl)) | (rw [rdN_1 (by assumption)]; (intro j hj; match j, hj with | 0, _ => rfl | 1, _ => rfl | 2, _ => rfl)) | (rw [rdN_0 (by assumption), take_full]))))), trivial⟩, trivial⟩⟩
 ·have h1 := of_decide_eq_false h1
  refine HT.skip ?_
  show HT _ _ _ _ _
  refine HT.seq ?_
  refine HT.region S_frnum_ok ?_
  refine So.q rfl rfl (V.mv (v := .p (.v (.int .i64 _))) rfl ?_)
  refine So.q rfl rfl (V.as (v := .p (.v (.int .i64 _))) rfl ?_)
  refine So.e ?_
  show HT _ _ _ _ _
  refine HT.ret ?_
  exact ret_ok (sg [(1, 1)]) h rfl rfl rfl ⟨trivial, trivial⟩ ⟨trivial, trivial⟩ rfl ⟨⟨⟨le_int (by first | with_reducible rfl | (rw [rdN_0 (by assumption)]; done) | (rw [rdN_1 (by assumption)]; done) | (rw [rdN_0 (by assumption)]; (intro j hj; match j, hj with | 0, _ => rfl | 1, _ => rfl | 2, _ => rfl)) | (rw [rdN_1 (by assumption)]; (intro j hj; match j, hj with | 0, _ => rfl | 1, _ => rfl | 2, _ => rfl)) | (rw [rdN_0 (by assumption), take_full])), trivial⟩, trivial⟩, ⟨⟨_, rfl, .inr (ob_rows (by first | rfl | ((try dsimp only); (first | with_reducible rfl | (rw [rdN_0 (by assumption)]; done) | (rw [rdN_1 (by assumption)]; done) | (rw [rdN_0 (by assumption)]; (intro j hj; match j, hj with | 0, _ => rfl | 1, _ => rfl | 2, _ => rfl)) | (rw [rdN_1 (by assumption)]; (intro j hj; match j, hj with | 0, _ => rfl | 1, _ => rfl | 2, _ => rfl)) | (rw [rdN_0 (by assumption), take_full])))) (by first | rfl | ((try dsimp only); (first | with_reducible rfl | (rw [rdN_0 (by assumption)]; done) | (rw [rdN_1 (by assumption)]; done) | (rw [rdN_0 (by assumption)]; (intro j hj; match j, hj with | 0, _ => rfl | 1, _ => rfl | 2, _ => rfl)) | (rw [rdN_1 (by assumption)]; (intro j hj; match j, hj with | 0, _ => rfl | 1, _ => rfl | 2, _ => rfl)) | (rw [rdN_0 (by assumption), take_full]))))), trivial⟩, trivial⟩⟩
end Go.Vh

set_option linter.unusedVariables false
set_option linter.unusedSimpArgs false
namespace Go.Vh
open Go Go.Vc Go.Proofs Go.Vw
def rplaceSp : Sp := ⟨[1], mkE (α := (List UInt8) × Int × Int) (fun (b, p, e) => [.ptr 1 (0)]) (fun (b, p, e) => [(1, ⟨63, 1, 3, true, .rows (fun j => ([.bs b, .v (.int .i64 p), .v (.int .i64 e)] : List PV).getD j (.v undef))⟩)]) (fun (b, p, e) => True) (fun (b, p, e) => [.agg 3 (fun j => ([.bs (pl1 b p e).1, .v (.int .i64 ((pl2 b p e).1)), .v (.int .i64 ((pl3 b p e).1))] : List PV).getD j (.v undef))]) (fun (b, p, e) => [(1, ⟨63, 1, 3, true, .rows (fun j => ([.bs b, .v (.int .i64 (pl3 b p e).2.1), .v (.int .i64 (pl3 b p e).2.2)] : List PV).getD j (.v undef))⟩)])⟩
def S_rplace : FuncId → Option Sp := fun f => if f = 34 then some rtext_pSp else if f = 33 then some frnumSp else none
theorem S_rplace_ok : ∀ f s, S_rplace f = some s → FOK Tryd.prog gl f s := fun f s h => by
 unfold S_rplace at h
 split at h
 ·rename_i e; cases h; subst e; exact rtext_p_ok
 split at h
 ·rename_i e; cases h; subst e; exact frnum_ok
 cases h
set_option maxHeartbeats 1000000 in
set_option maxRecDepth 1000 in
theorem rplace_ok : FOK Tryd.prog gl 32 rplaceSp := by
 refine FOK.ofEC (tyOf_ok Tryd.prog) (rvs := [.cell 2 57]) (nt := 15) Tryd.func32 rfl rfl rfl rfl (by decide) 1 (fun ⟨_, _, _⟩ => rfl) (by decide) (fun ⟨_, _, _⟩ => ⟨rfl, trivial⟩) ?_
 rintro ⟨b, p, e⟩ kk hlen hpre h
 replace hpre : True := hpre
 show HT (cx Tryd.prog 15 (tyOf Tryd.prog) gl [1]) _ [(0, .ptr 1 (0))] [(1, ⟨63, 1, 3, true, .rows (fun j => ([.bs b, .v (.int .i64 p), .v (.int .i64 e)] : List PV).getD j (.v undef))⟩)] _
 refine HT.seq ?_
 refine HT.region S_rplace_ok ?_
 refine So.n (lk rfl) (A.alloc 2 1 ty57 rfl ⟨lk rfl, trivial⟩ (f := fun j => ([.v (.slice none 0 0), .v (.int .i64 0), .v (.int .i64 0)] : List PV).getD j (.v undef)) (fun j hj => by match j, hj with | 0, _ => rfl | 1, _ => rfl | 2, _ => rfl) ?_)
 refine So.e ?_
 show HT _ _ _ _ _
 refine HT.seq ?_
 refine HT.region S_rplace_ok ?_
 refine So.n (lk rfl) (A.alloc 3 1 ty57 rfl ⟨lk rfl, trivial⟩ (f := fun j => ([.v (.slice none 0 0), .v (.int .i64 0), .v (.int .i64 0)] : List PV).getD j (.v undef)) (fun j hj => by match j, hj with | 0, _ => rfl | 1, _ => rfl | 2, _ => rfl) ?_)
 refine So.e ?_
 show HT _ _ _ _ _
 refine HT.seq ?_
 refine R.tell [] [(3, ⟨57, 1, 3, true, .rows (fun j => if j = 0 then .bs [] else .v (.int .i64 0))⟩)] [0, 2, 3] [1, 2] (fr0 := [(0, .ptr 1 0), (2, .ptr 2 0), (3, .ptr 3 0)]) (O0 := [(1, ⟨_, _, _, _, .rows _⟩), (2, ⟨_, _, _, _, .rows _⟩)]) rfl rfl ⟨⟨⟨.refl _, rfl⟩, ⟨.refl _, rfl⟩, ⟨.refl _, rfl⟩, trivial⟩, ⟨⟨_, rfl, .inr (ob_rowsL (by intro j hj; match j, hj with | 0, _ => exact le_nil rfl | 1, _ => exact .refl _ | 2, _ => exact .refl _)), trivial⟩, ⟨_, rfl, .inl rfl, trivial⟩, ⟨_, rfl, .inl rfl, trivial⟩, trivial⟩⟩ ?_
 show HT _ _ _ _ _
 refine HT.region S_rplace_ok ?_
 refine So.q rfl rfl (V.mv (v := .ptr 1 0) rfl ?_)
 refine So.q rfl rfl (V.faPtr ty57 rfl ty22 (lk rfl) rfl rfl (lk rfl) ?_)
 refine So.n (lk rfl) (A.bsl 4 ty83 ty67 rfl (lk rfl) (lk rfl) (fun _ => rfl) rfl rfl ⟨lk rfl, trivial⟩ ⟨trivial, trivial⟩ rfl (N := 1) rfl (c := .cells [.ptr 3 0]) rfl ?_)
 refine So.n (lk rfl) (A.call [.ptr 1 _, .own 3 _ _] [(1, ⟨_, _, _, _, .rows _⟩), (2, ⟨_, _, _, _, .rows _⟩), (3, ⟨_, _, _, _, .cells [.ptr 2 0]⟩)] (sg [(1, 1), (3, 4), (2, 3)]) 5 rfl rfl rfl rfl ⟨rfl, rfl, rfl, trivial⟩ rfl ⟨trivial, trivial, ⟨rfl, trivial⟩, trivial⟩ ⟨rfl, rfl, trivial⟩ ⟨lk rfl, trivial⟩ rfl (b, p, e, fun _ => .v (.int .i64 0)) ⟨.refl _, .refl _, trivial⟩ ⟨⟨_, rfl, .inl rfl, trivial⟩, ⟨_, rfl, .inl rfl, trivial⟩, ⟨_, rfl, .inl rfl, ⟨rfl, trivial⟩⟩, trivial⟩ (by trivial) (Φ := fun _ => True) (fun _ _ => trivial) ⟨⟨_, _, rfl, rfl, rfl, Nat.le_refl _⟩, ⟨_, _, rfl, rfl, rfl, Nat.le_refl _⟩, trivial⟩ (.inl rfl) rfl (v := .tup 0 _) rfl (O' := (1, ⟨_, _, _, _, .rows _⟩) :: (3, ⟨_, _, _, _, .rows _⟩) :: _) rfl (fun h1 => ?_))
 refine So.e ?_
 show HT _ _ _ _ _
 refine HT.seq ?_
 refine R.tell [] [(3, ⟨57, 1, 3, true, .rows (fun j => ([.bs (pl1 b p e).1, .v (.int .i64 0), .v (.int .i64 0)] : List PV).getD j (.v undef))⟩)] [0, 2, 3] [1, 2] (fr0 := [(0, .ptr 1 0), (2, .ptr 2 0), (3, .ptr 3 0)]) (O0 := [(1, ⟨_, _, _, _, .rows _⟩), (2, ⟨_, _, _, _, .rows _⟩)]) rfl rfl ⟨⟨⟨.refl _, rfl⟩, ⟨.refl _, rfl⟩, ⟨.refl _, rfl⟩, trivial⟩, ⟨⟨_, rfl, .inr (ob_rows (by rfl) (by (intro j hj; match j, hj with | 0, _ => rfl | 1, _ => rfl | 2, _ => rfl))), trivial⟩, ⟨_, rfl, .inl rfl, trivial⟩, ⟨_, rfl, .inl rfl, trivial⟩, trivial⟩⟩ ?_
 show HT _ _ _ _ _
 refine HT.region S_rplace_ok ?_
 refine So.q rfl rfl (V.mv (v := .ptr 1 0) rfl ?_)
 refine So.n (lk rfl) (A.call [.ptr 1 _, .p (.v (.int .i64 _))] [(1, ⟨_, _, _, _, .rows _⟩)] (sg [(1, 1)]) 4 rfl rfl rfl rfl ⟨rfl, trivial⟩ rfl ⟨trivial, trivial⟩ ⟨rfl, trivial, trivial⟩ ⟨lk rfl, trivial⟩ rfl (b, (pl1 b p e).2.1, (pl1 b p e).2.2, 8) ⟨.refl _, .refl _, trivial⟩ ⟨⟨_, rfl, .inl rfl, trivial⟩, trivial⟩ (by trivial) (Φ := fun _ => True) (fun _ _ => trivial) ⟨⟨_, _, rfl, rfl, rfl, Nat.le_refl _⟩, trivial⟩ (.inl rfl) rfl (v := .p (.v (.int .i64 _))) rfl (O' := (1, ⟨_, _, _, _, .rows _⟩) :: _) rfl (fun h2 => ?_))
 refine So.q rfl rfl (V.faPtr ty57 rfl ty2 (lk rfl) rfl rfl (lk rfl) ?_)
 refine So.s (A.sto ty2 rfl rfl rfl (v := .p (.v (.int .i64 _))) rfl rfl rfl (lk rfl) rfl rfl ?_)
 refine So.e ?_
 show HT _ _ _ _ _
 refine HT.seq ?_
 refine HT.region S_rplace_ok ?_
 refine So.q rfl rfl (V.mv (v := .ptr 1 0) rfl ?_)
 refine So.n (lk rfl) (A.call [.ptr 1 _, .p (.v (.int .i64 _))] [(1, ⟨_, _, _, _, .rows _⟩)] (sg [(1, 1)]) 4 rfl rfl rfl rfl ⟨rfl, trivial⟩ rfl ⟨trivial, trivial⟩ ⟨rfl, trivial, trivial⟩ ⟨lk rfl, trivial⟩ rfl (b, (pl2 b p e).2.1, (pl2 b p e).2.2, 4) ⟨.refl _, .refl _, trivial⟩ ⟨⟨_, rfl, .inl rfl, trivial⟩, trivial⟩ (by trivial) (Φ := fun _ => True) (fun _ _ => trivial) ⟨⟨_, _, rfl, rfl, rfl, Nat.le_refl _⟩, trivial⟩ (.inl rfl) rfl (v := .p (.v (.int .i64 _))) rfl (O' := (1, ⟨_, _, _, _, .rows _⟩) :: _) rfl (fun h3 => ?_))
 refine So.q rfl rfl (V.faPtr ty57 rfl ty3 (lk rfl) rfl rfl (lk rfl) ?_)
 refine So.s (A.sto ty3 rfl rfl rfl (v := .p (.v (.int .i64 _))) rfl rfl rfl (lk rfl) rfl rfl ?_)
 refine So.e ?_
 show HT _ _ _ _ _
 refine HT.seq ?_
 refine R.tell [] [(3, ⟨57, 1, 3, true, .rows (fun j => ([.bs (pl1 b p e).1, .v (.int .i64 ((pl2 b p e).1)), .v (.int .i64 ((pl3 b p e).1))] : List PV).getD j (.v undef))⟩)] [2, 3] [1, 2] (fr0 := [(2, .ptr 2 0), (3, .ptr 3 0)]) (O0 := [(1, ⟨_, _, _, _, .rows _⟩), (2, ⟨_, _, _, _, .rows _⟩)]) rfl rfl ⟨⟨⟨.refl _, rfl⟩, ⟨.refl _, rfl⟩, trivial⟩, ⟨⟨_, rfl, .inr (ob_rows (by rfl) (by (intro j hj; match j, hj with | 0, _ => rfl | 1, _ => rfl | 2, _ => rfl))), trivial⟩, ⟨_, rfl, .inl rfl, trivial⟩, ⟨_, rfl, .inl rfl, trivial⟩, trivial⟩⟩ ?_
 show HT _ _ _ _ _
 refine HT.region S_rplace_ok ?_
 refine So.q rfl rfl (V.ldPtrA ty57 rfl rfl rfl rfl (lk rfl) ?_)
 refine So.s (A.stoAg ty57 rfl (n := 3) rfl (by decide) (by intro j hj; first | rfl | trivial | (match j, hj with | 0, _ => (first | trivial | rfl) | 1, _ => (first | trivial | rfl) | 2, _ => (first | trivial | rfl))) rfl rfl rfl ?_)
 refine So.e ?_
 show HT _ _ _ _ _
 refine HT.ret ?_
 exact retC_ok (sg [(1, 1)]) [(2, .ptr 2 0)] [(2, ⟨57, 1, 3, true, .rows (fun j => ([.bs (pl1 b p e).1, .v (.int .i64 ((pl2 b p e).1)), .v (.int .i64 ((pl3 b p e).1))] : List PV).getD j (.v undef))⟩), (1, ⟨63, 1, 3, true, .rows (fun j => ([.bs b, .v (.int .i64 (pl3 b p e).2.1), .v (.int .i64 (pl3 b p e).2.2)] : List PV).getD j (.v undef))⟩)] h ⟨⟨⟨.refl _, rfl⟩, trivial⟩, ⟨⟨_, rfl, .inr (ob_rows rfl (by intro j hj; first | rfl | ((try dsimp only); (first | with_reducible rfl | rfl | (intro j hj; match j, hj with | 0, _ => rfl | 1, _ => rfl | 2, _ => rfl) | (match j, hj with | 0, _ => rfl | 1, _ => rfl | 2, _ => rfl))))), trivial⟩, ⟨_, rfl, .inr (ob_rows (by first | rfl | ((try dsimp only); (first | with_reducible rfl | rfl | (intro j hj; match j, hj with | 0, _ => rfl | 1, _ => rfl | 2, _ => rfl) | (match j, hj with | 0, _ => rfl | 1, _ => rfl | 2, _ => rfl)))) (by first | rfl | ((try dsimp only); (first | with_reducible rfl | rfl | (intro j hj; match j, hj with | 0, _ => rfl | 1, _ => rfl | 2, _ => rfl) | (match j, hj with | 0, _ => rfl | 1, _ => rfl | 2, _ => rfl))))), trivial⟩, trivial⟩⟩ ⟨rvA_cell ty57 rfl rfl rfl rfl (Nat.le_refl _) (le_agg (fun j _ => by first | rfl | (dsimp only; rw [Nat.zero_add]))), trivial⟩ ⟨rfl, trivial⟩ rfl ⟨trivial, trivial⟩ ⟨trivial, trivial⟩ rfl
end Go.Vh

set_option linter.unusedVariables false
set_option linter.unusedSimpArgs false
namespace Go.Vh
open Go Go.Vc Go.Proofs Go.Vw
def rendSp : Sp := ⟨[1], mkE (α := (List UInt8) × Int × Int × Bool) (fun (b, p, e, is) => [.ptr 1 (0), .p (.v (.bool (is)))]) (fun (b, p, e, is) => [(1, ⟨63, 1, 3, true, .rows (fun j => ([.bs b, .v (.int .i64 p), .v (.int .i64 e)] : List PV).getD j (.v undef))⟩)]) (fun (b, p, e, is) => True) (fun (b, p, e, is) => [.p (.v (.int .i64 (endF b p e is)))]) (fun (b, p, e, is) => [(1, ⟨63, 1, 3, true, .rows (fun j => ([.bs b, .v (.int .i64 p), .v (.int .i64 e)] : List PV).getD j (.v undef))⟩)])⟩
def S_rend : FuncId → Option Sp := fun _ => none
theorem S_rend_ok : ∀ f s, S_rend f = some s → FOK Tryd.prog gl f s := fun f s h => by cases h
theorem S_rend_det : ∀ f s, S_rend f = some s → SpDet s.sp := fun f s h => by cases h
set_option maxHeartbeats 1000000 in
set_option maxRecDepth 1000 in
theorem rend_ok : FOK Tryd.prog gl 35 rendSp := by
 refine FOK.ofE (tyOf_ok Tryd.prog) (slots := [4]) (nt := 30) Tryd.func35 rfl rfl rfl rfl (by decide) 2 (fun ⟨_, _, _, _⟩ => rfl) (by decide) (fun ⟨_, _, _, _⟩ => ⟨rfl, trivial, trivial⟩) ?_
 rintro ⟨b, p, e, is⟩ kk hlen hpre h
 replace hpre : True := hpre
 show HT (cx Tryd.prog 30 (tyOf Tryd.prog) gl [1]) _ [(0, .ptr 1 (0)), (1, .p (.v (.bool (is))))] [(1, ⟨63, 1, 3, true, .rows (fun j => ([.bs b, .v (.int .i64 p), .v (.int .i64 e)] : List PV).getD j (.v undef))⟩)] _
 refine HT.seq ?_
 refine HT.region S_rend_ok ?_
 refine So.q rfl rfl (V.as (v := .p (.v (.int .i64 (0)))) rfl ?_)
 refine So.e ?_
 show HT _ _ _ _ _
 refine HT.seq ?_
 refine HT.seq ?_
 refine HT.drawn S_rend_ok S_rend_det mixed (by kernel_rfl) ?_
 refine Sd.n (lk rfl) (V.mv (v := .ptr 1 0) rfl ?_)
 refine Sd.n (lk rfl) (V.ncPtr rfl ?_)
 refine Sd.n (lk rfl) (V.faPtr ty63 rfl ty29 (lk rfl) rfl rfl (lk rfl) ?_)
 refine Sd.n (lk rfl) (V.ldPtr ty29 rfl rfl rfl (lk rfl) (v := .p (.v (.int .i64 _))) rfl ?_)
 refine Sd.n (lk rfl) (V.bin (a := (.v (.int .i64 _))) (b := (.v (.int .i64 (0)))) (r := .v (.bool _)) rfl rfl rfl trivial ?_)
 refine Sd.n (lk rfl) (V.mv (v := .p (.v (.bool _))) rfl ?_)
 refine Sd.gd rfl rfl (lk rfl) (lk rfl) (fun h1 => ?_) (fun h1 => ?_)
 ·have h1 := of_decide_eq_true h1
  refine V.mv (v := .ptr 1 0) rfl ?_
  refine Sd.gy rfl rfl (lk rfl) (lk rfl) ?_
  refine V.ncPtr rfl ?_
  refine Sd.gy rfl rfl (lk rfl) (lk rfl) ?_
  refine V.faPtr ty63 rfl ty3 (lk rfl) rfl rfl (lk rfl) ?_
  refine Sd.gy rfl rfl (lk rfl) (lk rfl) ?_
  refine V.ldPtr ty3 rfl rfl rfl (lk rfl) (v := .p (.v (.int .i64 _))) rfl ?_
  refine Sd.gy rfl rfl (lk rfl) (lk rfl) ?_
  refine V.mv (v := .ptr 1 0) rfl ?_
  refine Sd.gy rfl rfl (lk rfl) (lk rfl) ?_
  refine V.ncPtr rfl ?_
  refine Sd.gy rfl rfl (lk rfl) (lk rfl) ?_
  refine V.faPtr ty63 rfl ty22 (lk rfl) rfl rfl (lk rfl) ?_
  refine Sd.gy rfl rfl (lk rfl) (lk rfl) ?_
  refine V.ldPtr ty22 rfl rfl rfl (lk rfl) (v := .p (.bs _)) rfl ?_
  refine Sd.gy rfl rfl (lk rfl) (lk rfl) ?_
  refine V.len ty22 (v := .p (.bs _)) rfl rfl ?_
  refine Sd.gy rfl rfl (lk rfl) (lk rfl) ?_
  refine V.bin (a := (.v (.int .i64 _))) (b := (.v (.int .i64 _))) (r := .v (.bool _)) rfl rfl rfl trivial ?_
  refine Sd.gy rfl rfl (lk rfl) (lk rfl) ?_
  refine V.mv (v := .p (.v (.bool _))) rfl ?_
  refine Sd.gd rfl rfl (lk rfl) (lk rfl) (fun h2 => ?_) (fun h2 => ?_)
  ·have h2 := of_decide_eq_true (bnF h2)
   refine V.mv (v := .p (.v (.bool _))) rfl ?_
   refine Sd.gy rfl rfl (lk rfl) (lk rfl) ?_
   refine V.not rfl ?_
   refine Sd.gy rfl rfl (lk rfl) (lk rfl) ?_
   refine V.pkFalse (u := .p (.v (.bool _))) rfl rfl ?_
   refine Sd.n (lk rfl) (V.pkTrue (u := .p (.v (.bool _))) rfl rfl ?_)
   refine Sd.e ?_
   show HT _ _ _ _ _
   refine R.cond rfl rfl (fun h3 => ?_) (fun h3 => ?_)
   ·refine HT.seq ?_
    refine HT.region S_rend_ok ?_
    refine So.q rfl rfl (V.as (v := .p (.v (.int .i64 (181)))) rfl ?_)
    refine So.e ?_
    show HT _ _ _ _ _
    refine HT.ret ?_
    exact ret_ok (sg [(1, 1)]) h rfl rfl rfl ⟨trivial, trivial⟩ ⟨trivial, trivial⟩ rfl ⟨⟨⟨le_int (by first | with_reducible rfl | (intro j hj; rfl) | exact (endF_1 (by assumption) (by assumption)).symm | exact (endF_2 (by assumption) (by cases is <;> simp_all)).symm | exact (endF_3 (by assumption) (by assumption) (by cases is <;> simp_all)).symm | exact (endF_4 (by assumption)).symm), trivial⟩, trivial⟩, ⟨⟨_, rfl, .inr (ob_rows (by first | rfl | ((try dsimp only); (first | with_reducible rfl | (intro j hj; rfl) | exact (endF_1 (by assumption) (by assumption)).symm | exact (endF_2 (by assumption) (by cases is <;> simp_all)).symm | exact (endF_3 (by assumption) (by assumption) (by cases is <;> simp_all)).symm | exact (endF_4 (by assumption)).symm))) (by first | rfl | ((try dsimp only); (first | with_reducible rfl | (intro j hj; rfl) | exact (endF_1 (by assumption) (by assumption)).symm | exact (endF_2 (by assumption) (by cases is <;> simp_all)).symm | exact (endF_3 (by assumption) (by assumption) (by cases is <;> simp_all)).symm | exact (endF_4 (by assumption)).symm)))), trivial⟩, trivial⟩⟩
   ·refine HT.skip ?_
    show HT _ _ _ _ _
    refine HT.seq ?_
    refine HT.region S_rend_ok ?_
    refine So.q rfl rfl (V.mv (v := .ptr 1 0) rfl ?_)
    refine So.q rfl rfl (V.ncPtr rfl ?_)
    refine So.q rfl rfl (V.faPtr ty63 rfl ty29 (lk rfl) rfl rfl (lk rfl) ?_)
    refine So.q rfl rfl (V.ldPtr ty29 rfl rfl rfl (lk rfl) (v := .p (.v (.int .i64 _))) rfl ?_)
    refine So.q rfl rfl (V.as (v := .p (.v (.int .i64 _))) rfl ?_)
    refine So.e ?_
    show HT _ _ _ _ _
    refine HT.ret ?_
    exact ret_ok (sg [(1, 1)]) h rfl rfl rfl ⟨trivial, trivial⟩ ⟨trivial, trivial⟩ rfl ⟨⟨⟨le_int (by first | with_reducible rfl | (intro j hj; rfl) | exact (endF_1 (by assumption) (by assumption)).symm | exact (endF_2 (by assumption) (by cases is <;> simp_all)).symm | exact (endF_3 (by assumption) (by assumption) (by cases is <;> simp_all)).symm | exact (endF_4 (by assumption)).symm), trivial⟩, trivial⟩, ⟨⟨_, rfl, .inr (ob_rows (by first | rfl | ((try dsimp only); (first | with_reducible rfl | (intro j hj; rfl) | exact (endF_1 (by assumption) (by assumption)).symm | exact (endF_2 (by assumption) (by cases is <;> simp_all)).symm | exact (endF_3 (by assumption) (by assumption) (by cases is <;> simp_all)).symm | exact (endF_4 (by assumption)).symm))) (by first | rfl | ((try dsimp only); (first | with_reducible rfl | (intro j hj; rfl) | exact (endF_1 (by assumption) (by assumption)).symm | exact (endF_2 (by assumption) (by cases is <;> simp_all)).symm | exact (endF_3 (by assumption) (by assumption) (by cases is <;> simp_all)).symm | exact (endF_4 (by assumption)).symm)))), trivial⟩, trivial⟩⟩
  ·have h2 := of_decide_eq_false (bnT h2)
   refine Sd.gn (b := true) rfl rfl rfl (lk rfl) (lk rfl) ?_
   refine Sd.gy rfl rfl (lk rfl) (lk rfl) ?_
   refine V.pkTrue (u := .p (.v (.bool true))) rfl rfl ?_
   refine Sd.n (lk rfl) (V.pkTrue (u := .p (.v (.bool true))) rfl rfl ?_)
   refine Sd.e ?_
   show HT _ _ _ _ _
   refine R.condT rfl ?_
   refine HT.seq ?_
   refine HT.region S_rend_ok ?_
   refine So.q rfl rfl (V.as (v := .p (.v (.int .i64 (181)))) rfl ?_)
   refine So.e ?_
   show HT _ _ _ _ _
   refine HT.ret ?_
   exact ret_ok (sg [(1, 1)]) h rfl rfl rfl ⟨trivial, trivial⟩ ⟨trivial, trivial⟩ rfl ⟨⟨⟨le_int (by first | with_reducible rfl | (intro j hj; rfl) | exact (endF_1 (by assumption) (by assumption)).symm | exact (endF_2 (by assumption) (by cases is <;> simp_all)).symm | exact (endF_3 (by assumption) (by assumption) (by cases is <;> simp_all)).symm | exact (endF_4 (by assumption)).symm), trivial⟩, trivial⟩, ⟨⟨_, rfl, .inr (ob_rows (by first | rfl | ((try dsimp only); (first | with_reducible rfl | (intro j hj; rfl) | exact (endF_1 (by assumption) (by assumption)).symm | exact (endF_2 (by assumption) (by cases is <;> simp_all)).symm | exact (endF_3 (by assumption) (by assumption) (by cases is <;> simp_all)).symm | exact (endF_4 (by assumption)).symm))) (by first | rfl | ((try dsimp only); (first | with_reducible rfl | (intro j hj; rfl) | exact (endF_1 (by assumption) (by assumption)).symm | exact (endF_2 (by assumption) (by cases is <;> simp_all)).symm | exact (endF_3 (by assumption) (by assumption) (by cases is <;> simp_all)).symm | exact (endF_4 (by assumption)).symm)))), trivial⟩, trivial⟩⟩
 ·have h1 := of_decide_eq_false h1
  refine Sd.gn (b := false) rfl rfl rfl (lk rfl) (lk rfl) ?_
  refine Sd.gn (b := false) rfl rfl rfl (lk rfl) (lk rfl) ?_
  refine Sd.gn (b := false) rfl rfl rfl (lk rfl) (lk rfl) ?_
  refine Sd.gn (b := false) rfl rfl rfl (lk rfl) (lk rfl) ?_
  refine Sd.gn (b := false) rfl rfl rfl (lk rfl) (lk rfl) ?_
  refine Sd.gn (b := false) rfl rfl rfl (lk rfl) (lk rfl) ?_
  refine Sd.gn (b := false) rfl rfl rfl (lk rfl) (lk rfl) ?_
  refine Sd.gn (b := false) rfl rfl rfl (lk rfl) (lk rfl) ?_
  refine Sd.gn (b := false) rfl rfl rfl (lk rfl) (lk rfl) ?_
  refine Sd.gn (b := false) rfl rfl rfl (lk rfl) (lk rfl) ?_
  refine Sd.gu rfl rfl (lk rfl) ?_
  refine Sd.gu rfl rfl (lk rfl) ?_
  refine Sd.gn (b := false) rfl rfl rfl (lk rfl) (lk rfl) ?_
  refine Sd.n (lk rfl) (V.pkFalse (u := .p (.v (.bool false))) rfl rfl ?_)
  refine Sd.e ?_
  show HT _ _ _ _ _
  refine R.condF rfl ?_
  refine HT.skip ?_
  show HT _ _ _ _ _
  refine HT.seq ?_
  refine HT.region S_rend_ok ?_
  refine So.q rfl rfl (V.mv (v := .ptr 1 0) rfl ?_)
  refine So.q rfl rfl (V.ncPtr rfl ?_)
  refine So.q rfl rfl (V.faPtr ty63 rfl ty29 (lk rfl) rfl rfl (lk rfl) ?_)
  refine So.q rfl rfl (V.ldPtr ty29 rfl rfl rfl (lk rfl) (v := .p (.v (.int .i64 _))) rfl ?_)
  refine So.q rfl rfl (V.as (v := .p (.v (.int .i64 _))) rfl ?_)
  refine So.e ?_
  show HT _ _ _ _ _
  refine HT.ret ?_
  exact ret_ok (sg [(1, 1)]) h rfl rfl rfl ⟨trivial, trivial⟩ ⟨trivial, trivial⟩ rfl ⟨⟨⟨le_int (by first | with_reducible rfl | (intro j hj; rfl) | exact (endF_1 (by assumption) (by assumption)).symm | exact (endF_2 (by assumption) (by cases is <;> simp_all)).symm | exact (endF_3 (by assumption) (by assumption) (by cases is <;> simp_all)).symm | exact (endF_4 (by assumption)).symm), trivial⟩, trivial⟩, ⟨⟨_, rfl, .inr (ob_rows (by first | rfl | ((try dsimp only); (first | with_reducible rfl | (intro j hj; rfl) | exact (endF_1 (by assumption) (by assumption)).symm | exact (endF_2 (by assumption) (by cases is <;> simp_all)).symm | exact (endF_3 (by assumption) (by assumption) (by cases is <;> simp_all)).symm | exact (endF_4 (by assumption)).symm))) (by first | rfl | ((try dsimp only); (first | with_reducible rfl | (intro j hj; rfl) | exact (endF_1 (by assumption) (by assumption)).symm | exact (endF_2 (by assumption) (by cases is <;> simp_all)).symm | exact (endF_3 (by assumption) (by assumption) (by cases is <;> simp_all)).symm | exact (endF_4 (by assumption)).symm)))), trivial⟩, trivial⟩⟩
end Go.Vh
