/- What is proved: each function of the seat's program does what its contract says, wherever it is called; no condition. -/
import Derived.Test.YtkjomelpdpclcaaDoorWalk0
import Derived.Test.YtkjomelpdpclcaaDoorWalk1
import Derived.Test.YtkjomelpdpclcaaDoorPure0
set_option linter.unusedVariables false
set_option linter.unusedSimpArgs false
set_option linter.unusedVariables false
set_option linter.unusedSimpArgs false
namespace Go.Vh
open Go Go.Vc Go.Proofs Go.Vw
def rkchangeSp : Sp := ⟨[], mkE (α := (Nat → UInt64)) (fun w => [.agg 25 (fun j => .u64 (tr w j))]) (fun w => []) (fun w => True) (fun w => [.agg 25 (fun j => .u64 (tr (kf w) j))]) (fun w => [])⟩
def S_rkchange : FuncId → Option Sp := fun f => if f = 66 then some kturnsSp else if f = 67 then some kconstsSp else if f = 68 then some kturnedSp else none
theorem S_rkchange_ok : ∀ f s, S_rkchange f = some s → FOK Tryd.prog gl f s := fun f s h => by
 unfold S_rkchange at h
 split at h
 ·rename_i e; cases h; subst e; exact kturns_ok
 split at h
 ·rename_i e; cases h; subst e; exact kconsts_ok
 split at h
 ·rename_i e; cases h; subst e; exact kturned_ok
 cases h
theorem S_rkchange_det : ∀ f s, S_rkchange f = some s → SpDet s.sp := fun f s h => by
 unfold S_rkchange at h
 split at h
 ·cases h; exact mkE_det _ _ _ _ _
 split at h
 ·cases h; exact mkE_det _ _ _ _ _
 split at h
 ·cases h; exact mkE_det _ _ _ _ _
 cases h
set_option maxHeartbeats 1000000 in
set_option maxRecDepth 20000 in
theorem rkchange_ok : FOK Tryd.prog gl 61 rkchangeSp := by
 refine FOK.ofEC (tyOf_ok Tryd.prog) (rvs := [.cell 2 84]) (nt := 136) Tryd.func61 rfl rfl rfl rfl (by decide) 1 (fun _ => rfl) (by decide) (fun _ => ⟨trivial, trivial⟩) ?_
 rintro w kk hlen hpre h
 replace hpre : True := hpre
 show HT (cx Tryd.prog 136 (tyOf Tryd.prog) gl []) _ [(0, .agg 25 (fun j => .u64 (tr w j)))] [] _
 refine HT.seq (HT.region S_rkchange_ok (So.n (lk rfl) (A.boxAg 1 5 (n := 25) rfl (by intro j hj; first | rfl | trivial | (split <;> first | rfl | trivial | (split <;> first | rfl | trivial))) rfl trivial (So.n (lk rfl) (A.alloc 2 5 ty84 rfl trivial (f := fun _ => .u64 0) (fun _ _ => rfl) (So.e (HT.seq (HT.region S_rkchange_ok ?_))))))))
 refine So.n (lk rfl) (A.call0 [] 3 rfl rfl rfl rfl trivial trivial () trivial trivial (by trivial) (Φ := fun _ => True) (fun _ _ => trivial) (.inl rfl) (v := .agg 25 _) rfl (O' := _) rfl (fun h1 => ?_))
 refine So.n (lk rfl) (A.alloc 3 5 ty90 rfl trivial (f := fun _ => .v (.int .i64 0)) (fun _ _ => rfl) (So.s (A.stoAg ty90 rfl (n := 25) rfl (by decide) (by intro j hj; first | rfl | trivial) rfl rfl rfl (So.e (HT.seq (HT.region S_rkchange_ok ?_))))))
 refine So.n (lk rfl) (A.call0 [] 4 rfl rfl rfl rfl trivial trivial () trivial trivial (by trivial) (Φ := fun _ => True) (fun _ _ => trivial) (.inl rfl) (v := .agg 24 _) rfl (O' := _) rfl (fun h2 => ?_))
 refine So.n (lk rfl) (A.alloc 4 1 ty92 rfl trivial (f := fun _ => .u64 0) (fun _ _ => rfl) (So.s (A.stoAg ty92 rfl (n := 24) rfl (by decide) (by intro j hj; first | rfl | trivial) rfl rfl rfl (So.e (HT.seq (HT.seq (HT.region S_rkchange_ok (So.q rfl rfl (V.as (v := .p (.v (.int .i64 (0)))) rfl (So.e (HT.block ?_)))))))))))
 refine R.loop (σ := Nat) (fun q => [(5, .p (.v (.int .i64 ((q : Int)))))]) (fun q => [(1, ⟨84, 5, 25, true, .rows (fun j => .u64 (tr (kfN w q) j))⟩)]) [1, 2, 3, 4] [2, 3, 4] (fun q => q ≤ 24) (fun q => 24 - q) (0) (fr0 := [(1, .ptr 1 0), (2, .ptr 2 0), (3, .ptr 3 0), (4, .ptr 4 0)]) (O0 := [(2, ⟨_, _, _, _, .rows _⟩), (3, ⟨_, _, _, _, .rows _⟩), (4, ⟨_, _, _, _, .rows _⟩)]) rfl rfl (by first | rfl | omega | (intro j hj; rfl) | (simp; done) | (simp; omega)) ⟨⟨⟨le_int (by first | rfl | omega | (intro j hj; rfl) | (simp; done) | (simp; omega)), trivial⟩, ⟨.refl _, rfl⟩, ⟨.refl _, rfl⟩, ⟨.refl _, rfl⟩, ⟨.refl _, rfl⟩, trivial⟩, ⟨⟨_, rfl, .inr (ob_rows (by first | rfl | ((try dsimp only); first | rfl | omega | (intro j hj; rfl) | (simp; done) | (simp; omega))) (by first | rfl | ((try dsimp only); first | rfl | omega | (intro j hj; rfl) | (simp; done) | (simp; omega)))), trivial⟩, ⟨_, rfl, .inl rfl, trivial⟩, ⟨_, rfl, .inl rfl, trivial⟩, ⟨_, rfl, .inl rfl, trivial⟩, trivial⟩⟩ (fun q hP0 => ?_)
 refine HT.seq (HT.seq (HT.region S_rkchange_ok (So.q rfl rfl (V.mv (v := .p (.v (.int .i64 ((_ : Nat) : Int)))) rfl (So.q rfl rfl (V.bin (a := (.v (.int .i64 ((_ : Nat) : Int)))) (b := (.v (.int .i64 (24)))) (r := .v (.bool _)) rfl rfl rfl trivial (So.e ?_)))))))
 show HT _ _ _ _ _
 refine R.cond rfl rfl (fun h3 => ?_) (fun h3 => ?_)
 ·have h3 := of_decide_eq_true h3
  refine HT.skip (HT.seq (HT.block (HT.seq (HT.region S_rkchange_ok (So.n (lk rfl) (A.alloc 5 1 ty83 rfl trivial (f := fun _ => .u64 0) (fun _ _ => rfl) (So.e (HT.seq (HT.seq (HT.region S_rkchange_ok ?_))))))))))
  refine So.q rfl rfl (V.as (v := .p (.v (.int .i64 (0)))) rfl (So.e (HT.block ?_)))
  refine R.loop (σ := Nat) (fun x => [(7, .p (.v (.int .i64 ((x : Int)))))]) (fun x => [(5, ⟨83, 1, 5, true, .rows (fun j => .u64 (if j < x then cR (tr (kfN w q)) j else 0))⟩)]) [1, 2, 3, 4, 5, 6] [1, 2, 3, 4] (fun x => x ≤ 5) (fun x => 5 - x) (0) (fr0 := [(1, .ptr 1 0), (2, .ptr 2 0), (3, .ptr 3 0), (4, .ptr 4 0), (5, .p (.v (.int .i64 ((_ : Nat) : Int)))), (6, .ptr 5 0)]) (O0 := [(1, ⟨_, _, _, _, .rows _⟩), (2, ⟨_, _, _, _, .rows _⟩), (3, ⟨_, _, _, _, .rows _⟩), (4, ⟨_, _, _, _, .rows _⟩)]) rfl rfl (by first | rfl | omega | (intro j hj; rfl) | (simp; done) | (simp; omega)) ⟨⟨⟨le_int (by first | rfl | omega | (intro j hj; rfl) | (simp; done) | (simp; omega) | (intro j hj; rw [if_neg (Nat.not_lt_zero j)])), trivial⟩, ⟨.refl _, rfl⟩, ⟨.refl _, rfl⟩, ⟨.refl _, rfl⟩, ⟨.refl _, rfl⟩, ⟨.refl _, trivial⟩, ⟨.refl _, rfl⟩, trivial⟩, ⟨⟨_, rfl, .inr (ob_rows (by first | rfl | ((try dsimp only); first | rfl | omega | (intro j hj; rfl) | (simp; done) | (simp; omega) | (intro j hj; rw [if_neg (Nat.not_lt_zero j)]))) (by first | rfl | ((try dsimp only); first | rfl | omega | (intro j hj; rfl) | (simp; done) | (simp; omega) | (intro j hj; rw [if_neg (Nat.not_lt_zero j)])))), trivial⟩, ⟨_, rfl, .inl rfl, trivial⟩, ⟨_, rfl, .inl rfl, trivial⟩, ⟨_, rfl, .inl rfl, trivial⟩, ⟨_, rfl, .inl rfl, trivial⟩, trivial⟩⟩ (fun x hP1 => ?_)
  refine HT.seq (HT.seq (HT.region S_rkchange_ok (So.q rfl rfl (V.mv (v := .p (.v (.int .i64 ((_ : Nat) : Int)))) rfl (So.q rfl rfl (V.bin (a := (.v (.int .i64 ((_ : Nat) : Int)))) (b := (.v (.int .i64 (5)))) (r := .v (.bool _)) rfl rfl rfl trivial (So.e ?_)))))))
  show HT _ _ _ _ _
  refine R.cond rfl rfl (fun h4 => ?_) (fun h4 => ?_)
  ·have h4 := of_decide_eq_true h4
   refine HT.skip (HT.seq (HT.block ?_))
   refine HT.tail S_rkchange_ok mixed 26 (by kernel_rfl) (by kernel_rfl) ?_
   refine So.q rfl rfl (V.mv (v := .p (.v (.int .i64 ((_ : Nat) : Int)))) rfl (So.q rfl rfl (V.mv (v := .p (.v (.int .i64 ((_ : Nat) : Int)))) rfl (So.q rfl rfl (V.ixArrPS0 (mi := x) (s := 5) ty84 ty83 rfl rfl rfl (by first | rfl | omega | (intro j hj; rfl) | (simp; done) | (simp; omega)) rfl (by omega) (by omega) (So.q rfl rfl (V.ixArrP1 ty83 ty66 rfl rfl rfl (by first | rfl | omega | (intro j hj; rfl) | (simp; done) | (simp; omega)) rfl (by omega) rfl (So.q rfl rfl (V.ldPtr ty66 rfl rfl rfl (by first | rfl | omega | (intro j hj; rfl) | (simp; done) | (simp; omega)) (v := .p (.u64 _)) rfl (So.q rfl rfl (V.mv (v := .p (.v (.int .i64 ((_ : Nat) : Int)))) rfl (So.q rfl rfl (V.ixArrPS0 (mi := x) (s := 5) ty84 ty83 rfl rfl rfl (by first | rfl | omega | (intro j hj; rfl) | (simp; done) | (simp; omega)) rfl (by omega) (by omega) (So.q rfl rfl (V.ixArrP1 ty83 ty66 rfl rfl rfl (by first | rfl | omega | (intro j hj; rfl) | (simp; done) | (simp; omega)) rfl (by omega) rfl (So.q rfl rfl (V.ldPtr ty66 rfl rfl rfl (by first | rfl | omega | (intro j hj; rfl) | (simp; done) | (simp; omega)) (v := .p (.u64 _)) rfl (So.q rfl rfl (V.bin (a := (.u64 _)) (b := (.u64 _)) (r := .u64 _) rfl rfl rfl trivial ?_)))))))))))))))))))
   refine So.q rfl rfl (V.mv (v := .p (.v (.int .i64 ((_ : Nat) : Int)))) rfl (So.q rfl rfl (V.ixArrPS0 (mi := x) (s := 5) ty84 ty83 rfl rfl rfl (by first | rfl | omega | (intro j hj; rfl) | (simp; done) | (simp; omega)) rfl (by omega) (by omega) (So.q rfl rfl (V.ixArrP1 ty83 ty66 rfl rfl rfl (by first | rfl | omega | (intro j hj; rfl) | (simp; done) | (simp; omega)) rfl (by omega) rfl (So.q rfl rfl (V.ldPtr ty66 rfl rfl rfl (by first | rfl | omega | (intro j hj; rfl) | (simp; done) | (simp; omega)) (v := .p (.u64 _)) rfl (So.q rfl rfl (V.bin (a := (.u64 _)) (b := (.u64 _)) (r := .u64 _) rfl rfl rfl trivial (So.q rfl rfl (V.mv (v := .p (.v (.int .i64 ((_ : Nat) : Int)))) rfl (So.q rfl rfl (V.ixArrPS0 (mi := x) (s := 5) ty84 ty83 rfl rfl rfl (by first | rfl | omega | (intro j hj; rfl) | (simp; done) | (simp; omega)) rfl (by omega) (by omega) (So.q rfl rfl (V.ixArrP1 ty83 ty66 rfl rfl rfl (by first | rfl | omega | (intro j hj; rfl) | (simp; done) | (simp; omega)) rfl (by omega) rfl (So.q rfl rfl (V.ldPtr ty66 rfl rfl rfl (by first | rfl | omega | (intro j hj; rfl) | (simp; done) | (simp; omega)) (v := .p (.u64 _)) rfl (So.q rfl rfl (V.bin (a := (.u64 _)) (b := (.u64 _)) (r := .u64 _) rfl rfl rfl trivial ?_)))))))))))))))))))
   refine So.q rfl rfl (V.mv (v := .p (.v (.int .i64 ((_ : Nat) : Int)))) rfl (So.q rfl rfl (V.ixArrPS0 (mi := x) (s := 5) ty84 ty83 rfl rfl rfl (by first | rfl | omega | (intro j hj; rfl) | (simp; done) | (simp; omega)) rfl (by omega) (by omega) (So.q rfl rfl (V.ixArrP1 ty83 ty66 rfl rfl rfl (by first | rfl | omega | (intro j hj; rfl) | (simp; done) | (simp; omega)) rfl (by omega) rfl (So.q rfl rfl (V.ldPtr ty66 rfl rfl rfl (by first | rfl | omega | (intro j hj; rfl) | (simp; done) | (simp; omega)) (v := .p (.u64 _)) rfl (So.q rfl rfl (V.bin (a := (.u64 _)) (b := (.u64 _)) (r := .u64 _) rfl rfl rfl trivial (So.q rfl rfl (V.ixArrP10 (mi := x) ty83 ty66 rfl rfl rfl (by first | rfl | omega | (intro j hj; rfl) | (simp; done) | (simp; omega)) rfl (by omega) (by omega) (So.s (A.sto ty66 rfl rfl rfl (v := .p (.u64 _)) rfl trivial rfl (by first | rfl | omega | (intro j hj; rfl) | (simp; done) | (simp; omega)) (c' := .rows (fun j => .u64 (if j < x + 1 then cR (tr (kfN w q)) j else 0))) (congrArg (fun g => some (OC.rows g)) (funext fun j => by by_cases h9 : j = x; (subst h9; rw [if_pos rfl, if_pos (Nat.lt_succ_self _)]; rfl); (rw [if_neg h9]; dsimp only; by_cases h8 : j < x; (rw [if_pos h8, if_pos (by omega)]); (rw [if_neg h8, if_neg (by omega)])))) rfl (So.e (HT.region S_rkchange_ok (So.q rfl rfl (V.mv (v := .p (.v (.int .i64 ((_ : Nat) : Int)))) rfl ?_)))))))))))))))))
   refine So.q rfl rfl (V.addI rfl rfl (by omega) (So.q rfl rfl (V.as (v := .p (.v (.int .i64 _))) rfl (So.e ?_))))
   refine ⟨x + 1, by first | rfl | omega | (intro j hj; rfl) | (simp; done) | (simp; omega), by omega, ⟨⟨⟨le_int (by first | rfl | omega | (intro j hj; rfl) | (simp; done) | (simp; omega)), trivial⟩, ⟨.refl _, rfl⟩, ⟨.refl _, rfl⟩, ⟨.refl _, rfl⟩, ⟨.refl _, rfl⟩, ⟨.refl _, trivial⟩, ⟨.refl _, rfl⟩, trivial⟩, ⟨⟨_, rfl, .inr (ob_rows (by first | rfl | ((try dsimp only); first | rfl | omega | (intro j hj; rfl) | (simp; done) | (simp; omega))) (by first | rfl | ((try dsimp only); first | rfl | omega | (intro j hj; rfl) | (simp; done) | (simp; omega)))), trivial⟩, ⟨_, rfl, .inl rfl, trivial⟩, ⟨_, rfl, .inl rfl, trivial⟩, ⟨_, rfl, .inl rfl, trivial⟩, ⟨_, rfl, .inl rfl, trivial⟩, trivial⟩⟩⟩
  ·have h4 := of_decide_eq_false h4
   refine HT.exit ?_
   show HT _ _ _ _ _
   refine HT.seq ?_
   have hx : x = 5 := by omega
   subst hx
   refine R.tell [] [(5, ⟨83, 1, 5, true, .rows (fun j => .u64 (cR (tr (kfN w q)) j))⟩)] [1, 2, 3, 4, 5, 6] [1, 2, 3, 4] (fr0 := [(1, .ptr 1 0), (2, .ptr 2 0), (3, .ptr 3 0), (4, .ptr 4 0), (5, .p (.v (.int .i64 ((_ : Nat) : Int)))), (6, .ptr 5 0)]) (O0 := [(1, ⟨_, _, _, _, .rows _⟩), (2, ⟨_, _, _, _, .rows _⟩), (3, ⟨_, _, _, _, .rows _⟩), (4, ⟨_, _, _, _, .rows _⟩)]) rfl rfl ⟨⟨⟨.refl _, rfl⟩, ⟨.refl _, rfl⟩, ⟨.refl _, rfl⟩, ⟨.refl _, rfl⟩, ⟨.refl _, trivial⟩, ⟨.refl _, rfl⟩, trivial⟩, ⟨⟨_, rfl, .inr (ob_rows (by first | rfl | ((try dsimp only); (intro j hj; rw [if_pos (by omega)]))) (by first | rfl | ((try dsimp only); (intro j hj; rw [if_pos (by omega)])))), trivial⟩, ⟨_, rfl, .inl rfl, trivial⟩, ⟨_, rfl, .inl rfl, trivial⟩, ⟨_, rfl, .inl rfl, trivial⟩, ⟨_, rfl, .inl rfl, trivial⟩, trivial⟩⟩ ?_
   show HT _ _ _ _ _
   refine HT.region S_rkchange_ok (So.n (lk rfl) (A.alloc 6 5 ty84 rfl trivial (f := fun _ => .u64 0) (fun _ _ => rfl) (So.e (HT.seq (HT.seq (HT.region S_rkchange_ok (So.q rfl rfl (V.as (v := .p (.v (.int .i64 (0)))) rfl (So.e (HT.block ?_))))))))))
   refine R.loop (σ := Nat) (fun x => [(9, .p (.v (.int .i64 ((x : Int)))))]) (fun x => [(6, ⟨84, 5, 25, true, .rows (fun j => .u64 (if xR j < x then bR (tr (kfN w q)) j else 0))⟩)]) [1, 2, 3, 4, 5, 6, 8] [1, 2, 3, 4, 5] (fun x => x ≤ 5) (fun x => 5 - x) (0) (fr0 := [(1, .ptr 1 0), (2, .ptr 2 0), (3, .ptr 3 0), (4, .ptr 4 0), (5, .p (.v (.int .i64 ((_ : Nat) : Int)))), (6, .ptr 5 0), (8, .ptr 6 0)]) (O0 := [(1, ⟨_, _, _, _, .rows _⟩), (2, ⟨_, _, _, _, .rows _⟩), (3, ⟨_, _, _, _, .rows _⟩), (4, ⟨_, _, _, _, .rows _⟩), (5, ⟨_, _, _, _, .rows _⟩)]) rfl rfl (by first | rfl | omega | (intro j hj; rfl) | (simp; done) | (simp; omega)) ⟨⟨⟨le_int (by first | rfl | omega | (intro j hj; rfl) | (simp; done) | (simp; omega) | (intro j hj; rw [if_neg (Nat.not_lt_zero (xR j))])), trivial⟩, ⟨.refl _, rfl⟩, ⟨.refl _, rfl⟩, ⟨.refl _, rfl⟩, ⟨.refl _, rfl⟩, ⟨.refl _, trivial⟩, ⟨.refl _, rfl⟩, ⟨.refl _, rfl⟩, trivial⟩, ⟨⟨_, rfl, .inr (ob_rows (by first | rfl | ((try dsimp only); first | rfl | omega | (intro j hj; rfl) | (simp; done) | (simp; omega) | (intro j hj; rw [if_neg (Nat.not_lt_zero (xR j))]))) (by first | rfl | ((try dsimp only); first | rfl | omega | (intro j hj; rfl) | (simp; done) | (simp; omega) | (intro j hj; rw [if_neg (Nat.not_lt_zero (xR j))])))), trivial⟩, ⟨_, rfl, .inl rfl, trivial⟩, ⟨_, rfl, .inl rfl, trivial⟩, ⟨_, rfl, .inl rfl, trivial⟩, ⟨_, rfl, .inl rfl, trivial⟩, ⟨_, rfl, .inl rfl, trivial⟩, trivial⟩⟩ (fun x hP2 => ?_)
   refine HT.seq (HT.seq (HT.region S_rkchange_ok (So.q rfl rfl (V.mv (v := .p (.v (.int .i64 ((_ : Nat) : Int)))) rfl (So.q rfl rfl (V.bin (a := (.v (.int .i64 ((_ : Nat) : Int)))) (b := (.v (.int .i64 (5)))) (r := .v (.bool _)) rfl rfl rfl trivial (So.e ?_)))))))
   show HT _ _ _ _ _
   refine R.cond rfl rfl (fun h5 => ?_) (fun h5 => ?_)
   ·have h5 := of_decide_eq_true h5
    refine HT.skip (HT.seq (HT.block (HT.seq ?_)))
    refine HT.drawn S_rkchange_ok S_rkchange_det mixed (by kernel_rfl) ?_
    refine Sd.n (lk rfl) (V.mv (v := .p (.v (.int .i64 ((_ : Nat) : Int)))) rfl (Sd.n (lk rfl) (V.addI rfl rfl (by omega) (Sd.n (lk rfl) (V.remI rfl rfl (by omega) (Sd.n (lk rfl) (V.ixArrP10 (mi := (x + 4) % 5) ty83 ty66 rfl rfl rfl (by first | rfl | omega | (intro j hj; rfl) | (simp; done) | (simp; omega)) rfl (by omega) (by omega) (Sd.n (lk rfl) (V.ldPtr ty66 rfl rfl rfl (by first | rfl | omega | (intro j hj; rfl) | (simp; done) | (simp; omega)) (v := .p (.u64 _)) rfl (Sd.n (lk rfl) (V.mv (v := .p (.v (.int .i64 ((_ : Nat) : Int)))) rfl (Sd.n (lk rfl) (V.addI rfl rfl (by omega) (Sd.n (lk rfl) (V.remI rfl rfl (by omega) (Sd.n (lk rfl) (V.ixArrP10 (mi := (x + 1) % 5) ty83 ty66 rfl rfl rfl (by first | rfl | omega | (intro j hj; rfl) | (simp; done) | (simp; omega)) rfl (by omega) (by omega) (Sd.n (lk rfl) (V.ldPtr ty66 rfl rfl rfl (by first | rfl | omega | (intro j hj; rfl) | (simp; done) | (simp; omega)) (v := .p (.u64 _)) rfl ?_)))))))))))))))))))
    refine Sd.n (lk rfl) (V.call [.p (.u64 _), .p (.v (.int .i64 _))] 7 rfl rfl rfl rfl ⟨trivial, trivial, trivial⟩ trivial (cR (tr (kfN w q)) ((x + 1) % 5), 1) ⟨.refl _, .refl _, trivial⟩ trivial (by first | omega | decide) (Φ := fun _ => True) (fun _ _ => trivial) (.inl ⟨trivial, trivial, trivial⟩) (v := .p (.u64 _)) rfl (fun h6 => ?_))
    refine Sd.n (lk rfl) (V.bin (a := (.u64 _)) (b := (.u64 _)) (r := .u64 _) rfl rfl rfl trivial (Sd.n (lk rfl) (V.as (v := .p (.u64 _)) rfl (Sd.e (HT.seq ?_)))))
    refine R.tell [(10, .p (.u64 (dR (tr (kfN w q)) x)))] [] [1, 2, 3, 4, 5, 6, 8, 9] [1, 2, 3, 4, 5, 6] (fr0 := [(1, .ptr 1 0), (2, .ptr 2 0), (3, .ptr 3 0), (4, .ptr 4 0), (5, .p (.v (.int .i64 ((_ : Nat) : Int)))), (6, .ptr 5 0), (8, .ptr 6 0), (9, .p (.v (.int .i64 ((_ : Nat) : Int))))]) (O0 := [(1, ⟨_, _, _, _, .rows _⟩), (2, ⟨_, _, _, _, .rows _⟩), (3, ⟨_, _, _, _, .rows _⟩), (4, ⟨_, _, _, _, .rows _⟩), (5, ⟨_, _, _, _, .rows _⟩), (6, ⟨_, _, _, _, .rows _⟩)]) rfl rfl ⟨⟨⟨le_u64 (by rfl), trivial⟩, ⟨.refl _, rfl⟩, ⟨.refl _, rfl⟩, ⟨.refl _, rfl⟩, ⟨.refl _, rfl⟩, ⟨.refl _, trivial⟩, ⟨.refl _, rfl⟩, ⟨.refl _, rfl⟩, ⟨.refl _, trivial⟩, trivial⟩, ⟨⟨_, rfl, .inl rfl, trivial⟩, ⟨_, rfl, .inl rfl, trivial⟩, ⟨_, rfl, .inl rfl, trivial⟩, ⟨_, rfl, .inl rfl, trivial⟩, ⟨_, rfl, .inl rfl, trivial⟩, ⟨_, rfl, .inl rfl, trivial⟩, trivial⟩⟩ ?_
    show HT _ _ _ _ _
    refine HT.region S_rkchange_ok (So.q rfl rfl (V.as (v := .p (.v (.int .i64 (0)))) rfl (So.e (HT.block ?_))))
    refine R.loop (σ := Nat) (fun y => [(11, .p (.v (.int .i64 ((y : Int)))))]) (fun y => [(6, ⟨84, 5, 25, true, .rows (fun j => .u64 (if xR j < x ∨ (xR j = x ∧ j / 5 < y) then bR (tr (kfN w q)) j else 0))⟩)]) [1, 2, 3, 4, 5, 6, 8, 9, 10] [1, 2, 3, 4, 5] (fun y => y ≤ 5) (fun y => 5 - y) (0) (fr0 := [(1, .ptr 1 0), (2, .ptr 2 0), (3, .ptr 3 0), (4, .ptr 4 0), (5, .p (.v (.int .i64 ((_ : Nat) : Int)))), (6, .ptr 5 0), (8, .ptr 6 0), (9, .p (.v (.int .i64 ((_ : Nat) : Int)))), (10, .p (.u64 _))]) (O0 := [(1, ⟨_, _, _, _, .rows _⟩), (2, ⟨_, _, _, _, .rows _⟩), (3, ⟨_, _, _, _, .rows _⟩), (4, ⟨_, _, _, _, .rows _⟩), (5, ⟨_, _, _, _, .rows _⟩)]) rfl rfl (by first | rfl | omega | (intro j hj; rfl) | (simp; done) | (simp; omega)) ⟨⟨⟨le_int (by first | rfl | omega | (intro j hj; rfl) | (simp; done) | (simp; omega) | (intro j hj; by_cases h8 : xR j < x; (rw [if_pos h8, if_pos (.inl h8)]); (rw [if_neg h8, if_neg (by omega)]))), trivial⟩, ⟨.refl _, rfl⟩, ⟨.refl _, rfl⟩, ⟨.refl _, rfl⟩, ⟨.refl _, rfl⟩, ⟨.refl _, trivial⟩, ⟨.refl _, rfl⟩, ⟨.refl _, rfl⟩, ⟨.refl _, trivial⟩, ⟨.refl _, trivial⟩, trivial⟩, ⟨⟨_, rfl, .inr (ob_rows (by first | rfl | ((try dsimp only); first | rfl | omega | (intro j hj; rfl) | (simp; done) | (simp; omega) | (intro j hj; by_cases h8 : xR j < x; (rw [if_pos h8, if_pos (.inl h8)]); (rw [if_neg h8, if_neg (by omega)])))) (by first | rfl | ((try dsimp only); first | rfl | omega | (intro j hj; rfl) | (simp; done) | (simp; omega) | (intro j hj; by_cases h8 : xR j < x; (rw [if_pos h8, if_pos (.inl h8)]); (rw [if_neg h8, if_neg (by omega)]))))), trivial⟩, ⟨_, rfl, .inl rfl, trivial⟩, ⟨_, rfl, .inl rfl, trivial⟩, ⟨_, rfl, .inl rfl, trivial⟩, ⟨_, rfl, .inl rfl, trivial⟩, ⟨_, rfl, .inl rfl, trivial⟩, trivial⟩⟩ (fun y hP3 => ?_)
    refine HT.seq (HT.seq (HT.region S_rkchange_ok (So.q rfl rfl (V.mv (v := .p (.v (.int .i64 ((_ : Nat) : Int)))) rfl (So.q rfl rfl (V.bin (a := (.v (.int .i64 ((_ : Nat) : Int)))) (b := (.v (.int .i64 (5)))) (r := .v (.bool _)) rfl rfl rfl trivial (So.e ?_)))))))
    show HT _ _ _ _ _
    refine R.cond rfl rfl (fun h7 => ?_) (fun h7 => ?_)
    ·have h7 := of_decide_eq_true h7
     refine HT.skip (HT.seq (HT.block ?_))
     refine HT.planS S_rkchange_ok S_rkchange_det mixed [] [⟨[0, 1, 2, 3, 4, 5, 6, 7, 8, 9, 10, 11, 12, 13, 14, 15, 16, 17, 18, 19, 20, 21], 22, []⟩] (by kernel_rfl) ?_
     have htl := tL_le (x * 5 + y)
     refine Pl.l0 ?_
     refine Si.n rfl (lk rfl) (V.mv (v := .p (.v (.int .i64 ((_ : Nat) : Int)))) rfl (Si.n rfl (lk rfl) (V.mv (v := .p (.v (.int .i64 ((_ : Nat) : Int)))) rfl (Si.n rfl (lk rfl) (V.mulI rfl rfl (by omega) (Si.n rfl (lk rfl) (V.mv (v := .p (.v (.int .i64 ((_ : Nat) : Int)))) rfl (Si.n rfl (lk rfl) (V.mulI rfl rfl (by omega) (Si.n rfl (lk rfl) (V.addI rfl rfl (by omega) (Si.n rfl (lk rfl) (V.remI rfl rfl (by omega) (Si.n rfl (lk rfl) (V.mv (v := .p (.v (.int .i64 ((_ : Nat) : Int)))) rfl (Si.n rfl (lk rfl) (V.mv (v := .p (.v (.int .i64 ((_ : Nat) : Int)))) rfl (Si.n rfl (lk rfl) (V.ixArrPS0 (mi := x) (s := 5) ty84 ty83 rfl rfl rfl (by first | rfl | omega | (intro j hj; rfl) | (simp; done) | (simp; omega)) rfl (by omega) (by omega) ?_)))))))))))))))))))
     refine Si.n rfl (lk rfl) (V.ixArrP1 (mi := y) ty83 ty66 rfl rfl rfl (by first | rfl | omega | (intro j hj; rfl) | (simp; done) | (simp; omega)) rfl (by omega) (by omega) (Si.n rfl (lk rfl) (V.ldPtr ty66 rfl rfl rfl (by first | rfl | omega | (intro j hj; rfl) | (simp; done) | (simp; omega)) (v := .p (.u64 _)) rfl (Si.n rfl (lk rfl) (V.mv (v := .p (.u64 _)) rfl (Si.n rfl (lk rfl) (V.bin (a := (.u64 _)) (b := (.u64 _)) (r := .u64 _) rfl rfl rfl trivial (Si.n rfl (lk rfl) (V.mv (v := .p (.v (.int .i64 ((_ : Nat) : Int)))) rfl (Si.n rfl (lk rfl) (V.mv (v := .p (.v (.int .i64 ((_ : Nat) : Int)))) rfl (Si.n rfl (lk rfl) (V.ixArrPS0 (mi := x) (s := 5) ty90 ty89 rfl rfl rfl (by first | rfl | omega | (intro j hj; rfl) | (simp; done) | (simp; omega)) rfl (by omega) (by omega) (Si.n rfl (lk rfl) (V.ixArrP1 (mi := y) ty89 ty3 rfl rfl rfl (by first | rfl | omega | (intro j hj; rfl) | (simp; done) | (simp; omega)) rfl (by omega) (by omega) (Si.n rfl (lk rfl) (V.ldPtr ty3 rfl rfl rfl (by first | rfl | omega | (intro j hj; rfl) | (simp; done) | (simp; omega)) (v := .p (.v (.int .i64 _))) rfl ?_)))))))))))))))))
     refine Si.n rfl (lk rfl) (V.call [.p (.u64 _), .p (.v (.int .i64 _))] 7 rfl rfl rfl rfl ⟨trivial, trivial, trivial⟩ trivial ((tr (kfN w q)) (x * 5 + y) ^^^ dR (tr (kfN w q)) x, ((tL.getD (x * 5 + y) 0 : Nat) : Int)) ⟨.refl _, .refl _, trivial⟩ trivial (by first | omega | decide) (Φ := fun _ => True) (fun _ _ => trivial) (.inl ⟨trivial, trivial, trivial⟩) (v := .p (.u64 _)) rfl (fun h8 => ?_))
     refine Si.n rfl (lk rfl) (V.ixArrPS0 (mi := y) (s := 5) ty84 ty83 rfl rfl rfl (by first | rfl | omega | (intro j hj; rfl) | (simp; done) | (simp; omega)) rfl (by omega) (by omega) (Si.n rfl (lk rfl) (V.ixArrP1 (mi := (2 * x + 3 * y) % 5) ty83 ty66 rfl rfl rfl (by first | rfl | omega | (intro j hj; rfl) | (simp; done) | (simp; omega)) rfl (by omega) (by omega) (Si.e ?_))))
     refine ⟨flEq_nil, ?_⟩
     refine Lo.s rfl (A.sto ty66 rfl rfl rfl (v := .p (.u64 _)) rfl trivial rfl (by first | rfl | omega | (intro j hj; rfl) | (simp; done) | (simp; omega)) (c' := .rows (fun j => .u64 (if xR j < x ∨ (xR j = x ∧ j / 5 < y + 1) then bR (tr (kfN w q)) j else 0))) (congrArg (fun g => some (OC.rows g)) (funext fun j => by rw [← b_put (v := (tr (kfN w q))) (by omega) (by omega) j]; split <;> rfl)) rfl ?_)
     refine Pl.e ?_
     refine Si.e ?_
     refine ⟨flEq_nil, ?_⟩
     show HT _ _ _ _ _
     refine HT.region S_rkchange_ok (So.q rfl rfl (V.mv (v := .p (.v (.int .i64 ((_ : Nat) : Int)))) rfl (So.q rfl rfl (V.addI rfl rfl (by omega) (So.q rfl rfl (V.as (v := .p (.v (.int .i64 _))) rfl (So.e ?_)))))))
     refine ⟨y + 1, by first | rfl | omega | (intro j hj; rfl) | (simp; done) | (simp; omega), by omega, ⟨⟨⟨le_int (by first | rfl | omega | (intro j hj; rfl) | (simp; done) | (simp; omega)), trivial⟩, ⟨.refl _, rfl⟩, ⟨.refl _, rfl⟩, ⟨.refl _, rfl⟩, ⟨.refl _, rfl⟩, ⟨.refl _, trivial⟩, ⟨.refl _, rfl⟩, ⟨.refl _, rfl⟩, ⟨.refl _, trivial⟩, ⟨.refl _, trivial⟩, trivial⟩, ⟨⟨_, rfl, .inr (ob_rows (by first | rfl | ((try dsimp only); first | rfl | omega | (intro j hj; rfl) | (simp; done) | (simp; omega))) (by first | rfl | ((try dsimp only); first | rfl | omega | (intro j hj; rfl) | (simp; done) | (simp; omega)))), trivial⟩, ⟨_, rfl, .inl rfl, trivial⟩, ⟨_, rfl, .inl rfl, trivial⟩, ⟨_, rfl, .inl rfl, trivial⟩, ⟨_, rfl, .inl rfl, trivial⟩, ⟨_, rfl, .inl rfl, trivial⟩, trivial⟩⟩⟩
    ·have h7 := of_decide_eq_false h7
     refine HT.exit ?_
     show HT _ _ _ _ _
     refine HT.region S_rkchange_ok (So.q rfl rfl (V.mv (v := .p (.v (.int .i64 ((_ : Nat) : Int)))) rfl (So.q rfl rfl (V.addI rfl rfl (by omega) (So.q rfl rfl (V.as (v := .p (.v (.int .i64 _))) rfl (So.e ?_)))))))
     refine ⟨x + 1, by first | rfl | omega | (intro j hj; rfl) | (simp; done) | (simp; omega), by omega, ⟨⟨⟨le_int (by first | rfl | omega | (intro j hj; rfl) | (simp; done) | (simp; omega)), trivial⟩, ⟨.refl _, rfl⟩, ⟨.refl _, rfl⟩, ⟨.refl _, rfl⟩, ⟨.refl _, rfl⟩, ⟨.refl _, trivial⟩, ⟨.refl _, rfl⟩, ⟨.refl _, rfl⟩, trivial⟩, ⟨⟨_, rfl, .inr (ob_rows (by first | rfl | ((try dsimp only); (intro j hj; have hj5 : j / 5 < y := (by have : j < 25 := hj; omega); by_cases h8 : xR j < x; (rw [if_pos (.inl h8), if_pos (by omega)]); (by_cases h7 : xR j = x; (rw [if_pos (.inr ⟨h7, hj5⟩), if_pos (by omega)]); (rw [if_neg (by omega), if_neg (by omega)]))))) (by first | rfl | ((try dsimp only); (intro j hj; have hj5 : j / 5 < y := (by have : j < 25 := hj; omega); by_cases h8 : xR j < x; (rw [if_pos (.inl h8), if_pos (by omega)]); (by_cases h7 : xR j = x; (rw [if_pos (.inr ⟨h7, hj5⟩), if_pos (by omega)]); (rw [if_neg (by omega), if_neg (by omega)])))))), trivial⟩, ⟨_, rfl, .inl rfl, trivial⟩, ⟨_, rfl, .inl rfl, trivial⟩, ⟨_, rfl, .inl rfl, trivial⟩, ⟨_, rfl, .inl rfl, trivial⟩, ⟨_, rfl, .inl rfl, trivial⟩, trivial⟩⟩⟩
   ·have h5 := of_decide_eq_false h5
    refine HT.exit ?_
    show HT _ _ _ _ _
    refine HT.seq (HT.seq ?_)
    have hx : x = 5 := by omega
    subst hx
    refine R.tell [] [(6, ⟨84, 5, 25, true, .rows (fun j => .u64 (bR (tr (kfN w q)) j))⟩)] [1, 2, 3, 4, 5, 8] [1, 2, 3, 4] (fr0 := [(1, .ptr 1 0), (2, .ptr 2 0), (3, .ptr 3 0), (4, .ptr 4 0), (5, .p (.v (.int .i64 ((_ : Nat) : Int)))), (8, .ptr 6 0)]) (O0 := [(1, ⟨_, _, _, _, .rows _⟩), (2, ⟨_, _, _, _, .rows _⟩), (3, ⟨_, _, _, _, .rows _⟩), (4, ⟨_, _, _, _, .rows _⟩)]) rfl rfl ⟨⟨⟨.refl _, rfl⟩, ⟨.refl _, rfl⟩, ⟨.refl _, rfl⟩, ⟨.refl _, rfl⟩, ⟨.refl _, trivial⟩, ⟨.refl _, rfl⟩, trivial⟩, ⟨⟨_, rfl, .inr (ob_rows (by first | rfl | ((try dsimp only); (intro j hj; rw [if_pos (xR_lt j)]))) (by first | rfl | ((try dsimp only); (intro j hj; rw [if_pos (xR_lt j)])))), trivial⟩, ⟨_, rfl, .inl rfl, trivial⟩, ⟨_, rfl, .inl rfl, trivial⟩, ⟨_, rfl, .inl rfl, trivial⟩, ⟨_, rfl, .inl rfl, trivial⟩, trivial⟩⟩ ?_
    show HT _ _ _ _ _
    refine HT.region S_rkchange_ok (So.q rfl rfl (V.as (v := .p (.v (.int .i64 (0)))) rfl (So.e (HT.block ?_))))
    refine R.loop (σ := Nat) (fun x => [(12, .p (.v (.int .i64 ((x : Int)))))]) (fun x => [(1, ⟨84, 5, 25, true, .rows (fun j => .u64 (if j < x * 5 then chR (bR (tr (kfN w q))) j else (tr (kfN w q)) j))⟩)]) [1, 2, 3, 4, 5, 8] [2, 3, 4, 6] (fun x => x ≤ 5) (fun x => 5 - x) (0) (fr0 := [(1, .ptr 1 0), (2, .ptr 2 0), (3, .ptr 3 0), (4, .ptr 4 0), (5, .p (.v (.int .i64 ((_ : Nat) : Int)))), (8, .ptr 6 0)]) (O0 := [(2, ⟨_, _, _, _, .rows _⟩), (3, ⟨_, _, _, _, .rows _⟩), (4, ⟨_, _, _, _, .rows _⟩), (6, ⟨_, _, _, _, .rows _⟩)]) rfl rfl (by first | rfl | omega | (intro j hj; rfl) | (simp; done) | (simp; omega)) ⟨⟨⟨le_int (by first | rfl | omega | (intro j hj; rfl) | (simp; done) | (simp; omega) | (intro j hj; rw [if_neg (by omega)])), trivial⟩, ⟨.refl _, rfl⟩, ⟨.refl _, rfl⟩, ⟨.refl _, rfl⟩, ⟨.refl _, rfl⟩, ⟨.refl _, trivial⟩, ⟨.refl _, rfl⟩, trivial⟩, ⟨⟨_, rfl, .inr (ob_rows (by first | rfl | ((try dsimp only); first | rfl | omega | (intro j hj; rfl) | (simp; done) | (simp; omega) | (intro j hj; rw [if_neg (by omega)]))) (by first | rfl | ((try dsimp only); first | rfl | omega | (intro j hj; rfl) | (simp; done) | (simp; omega) | (intro j hj; rw [if_neg (by omega)])))), trivial⟩, ⟨_, rfl, .inl rfl, trivial⟩, ⟨_, rfl, .inl rfl, trivial⟩, ⟨_, rfl, .inl rfl, trivial⟩, ⟨_, rfl, .inl rfl, trivial⟩, trivial⟩⟩ (fun x hP4 => ?_)
    refine HT.seq (HT.seq (HT.region S_rkchange_ok (So.q rfl rfl (V.mv (v := .p (.v (.int .i64 ((_ : Nat) : Int)))) rfl (So.q rfl rfl (V.bin (a := (.v (.int .i64 ((_ : Nat) : Int)))) (b := (.v (.int .i64 (5)))) (r := .v (.bool _)) rfl rfl rfl trivial (So.e ?_)))))))
    show HT _ _ _ _ _
    refine R.cond rfl rfl (fun h9 => ?_) (fun h9 => ?_)
    ·have h9 := of_decide_eq_true h9
     refine HT.skip (HT.seq (HT.block (HT.seq (HT.region S_rkchange_ok (So.q rfl rfl (V.as (v := .p (.v (.int .i64 (0)))) rfl (So.e (HT.block ?_))))))))
     refine R.loop (σ := Nat) (fun y => [(13, .p (.v (.int .i64 ((y : Int)))))]) (fun y => [(1, ⟨84, 5, 25, true, .rows (fun j => .u64 (if j < x * 5 + y then chR (bR (tr (kfN w q))) j else (tr (kfN w q)) j))⟩)]) [1, 2, 3, 4, 5, 8, 12] [2, 3, 4, 6] (fun y => y ≤ 5) (fun y => 5 - y) (0) (fr0 := [(1, .ptr 1 0), (2, .ptr 2 0), (3, .ptr 3 0), (4, .ptr 4 0), (5, .p (.v (.int .i64 ((_ : Nat) : Int)))), (8, .ptr 6 0), (12, .p (.v (.int .i64 ((_ : Nat) : Int))))]) (O0 := [(2, ⟨_, _, _, _, .rows _⟩), (3, ⟨_, _, _, _, .rows _⟩), (4, ⟨_, _, _, _, .rows _⟩), (6, ⟨_, _, _, _, .rows _⟩)]) rfl rfl (by first | rfl | omega | (intro j hj; rfl) | (simp; done) | (simp; omega)) ⟨⟨⟨le_int (by first | rfl | omega | (intro j hj; rfl) | (simp; done) | (simp; omega)), trivial⟩, ⟨.refl _, rfl⟩, ⟨.refl _, rfl⟩, ⟨.refl _, rfl⟩, ⟨.refl _, rfl⟩, ⟨.refl _, trivial⟩, ⟨.refl _, rfl⟩, ⟨.refl _, trivial⟩, trivial⟩, ⟨⟨_, rfl, .inr (ob_rows (by first | rfl | ((try dsimp only); first | rfl | omega | (intro j hj; rfl) | (simp; done) | (simp; omega))) (by first | rfl | ((try dsimp only); first | rfl | omega | (intro j hj; rfl) | (simp; done) | (simp; omega)))), trivial⟩, ⟨_, rfl, .inl rfl, trivial⟩, ⟨_, rfl, .inl rfl, trivial⟩, ⟨_, rfl, .inl rfl, trivial⟩, ⟨_, rfl, .inl rfl, trivial⟩, trivial⟩⟩ (fun y hP5 => ?_)
     refine HT.seq (HT.seq (HT.region S_rkchange_ok (So.q rfl rfl (V.mv (v := .p (.v (.int .i64 ((_ : Nat) : Int)))) rfl (So.q rfl rfl (V.bin (a := (.v (.int .i64 ((_ : Nat) : Int)))) (b := (.v (.int .i64 (5)))) (r := .v (.bool _)) rfl rfl rfl trivial (So.e ?_)))))))
     show HT _ _ _ _ _
     refine R.cond rfl rfl (fun h10 => ?_) (fun h10 => ?_)
     ·have h10 := of_decide_eq_true h10
      refine HT.skip (HT.seq (HT.block ?_))
      refine HT.tail S_rkchange_ok mixed 26 (by kernel_rfl) (by kernel_rfl) ?_
      refine So.q rfl rfl (V.mv (v := .p (.v (.int .i64 ((_ : Nat) : Int)))) rfl (So.q rfl rfl (V.mv (v := .p (.v (.int .i64 ((_ : Nat) : Int)))) rfl (So.q rfl rfl (V.mv (v := .p (.v (.int .i64 ((_ : Nat) : Int)))) rfl (So.q rfl rfl (V.mv (v := .p (.v (.int .i64 ((_ : Nat) : Int)))) rfl (So.q rfl rfl (V.ixArrPS0 (mi := x) (s := 5) ty84 ty83 rfl rfl rfl (by first | rfl | omega | (intro j hj; rfl) | (simp; done) | (simp; omega)) rfl (by omega) (by omega) (So.q rfl rfl (V.ixArrP1 (mi := y) ty83 ty66 rfl rfl rfl (by first | rfl | omega | (intro j hj; rfl) | (simp; done) | (simp; omega)) rfl (by omega) (by omega) (So.q rfl rfl (V.ldPtr ty66 rfl rfl rfl (by first | rfl | omega | (intro j hj; rfl) | (simp; done) | (simp; omega)) (v := .p (.u64 _)) rfl (So.q rfl rfl (V.mv (v := .p (.v (.int .i64 ((_ : Nat) : Int)))) rfl (So.q rfl rfl (V.addI rfl rfl (by omega) (So.q rfl rfl (V.remI rfl rfl (by omega) ?_)))))))))))))))))))
      refine So.q rfl rfl (V.mv (v := .p (.v (.int .i64 ((_ : Nat) : Int)))) rfl (So.q rfl rfl (V.ixArrPS0 (mi := (x + 1) % 5) (s := 5) ty84 ty83 rfl rfl rfl (by first | rfl | omega | (intro j hj; rfl) | (simp; done) | (simp; omega)) rfl (by omega) (by omega) (So.q rfl rfl (V.ixArrP1 (mi := y) ty83 ty66 rfl rfl rfl (by first | rfl | omega | (intro j hj; rfl) | (simp; done) | (simp; omega)) rfl (by omega) (by omega) (So.q rfl rfl (V.ldPtr ty66 rfl rfl rfl (by first | rfl | omega | (intro j hj; rfl) | (simp; done) | (simp; omega)) (v := .p (.u64 _)) rfl (So.q rfl rfl (V.xor64 rfl (So.q rfl rfl (V.mv (v := .p (.v (.int .i64 ((_ : Nat) : Int)))) rfl (So.q rfl rfl (V.addI rfl rfl (by omega) (So.q rfl rfl (V.remI rfl rfl (by omega) (So.q rfl rfl (V.mv (v := .p (.v (.int .i64 ((_ : Nat) : Int)))) rfl (So.q rfl rfl (V.ixArrPS0 (mi := (x + 2) % 5) (s := 5) ty84 ty83 rfl rfl rfl (by first | rfl | omega | (intro j hj; rfl) | (simp; done) | (simp; omega)) rfl (by omega) (by omega) ?_)))))))))))))))))))
      refine So.q rfl rfl (V.ixArrP1 (mi := y) ty83 ty66 rfl rfl rfl (by first | rfl | omega | (intro j hj; rfl) | (simp; done) | (simp; omega)) rfl (by omega) (by omega) (So.q rfl rfl (V.ldPtr ty66 rfl rfl rfl (by first | rfl | omega | (intro j hj; rfl) | (simp; done) | (simp; omega)) (v := .p (.u64 _)) rfl (So.q rfl rfl (V.bin (a := (.u64 _)) (b := (.u64 _)) (r := .u64 _) rfl rfl rfl trivial (So.q rfl rfl (V.bin (a := (.u64 _)) (b := (.u64 _)) (r := .u64 _) rfl rfl rfl trivial (So.q rfl rfl (V.ixArrPS0 (mi := x) (s := 5) ty84 ty83 rfl rfl rfl (by first | rfl | omega | (intro j hj; rfl) | (simp; done) | (simp; omega)) rfl (by omega) (by omega) (So.q rfl rfl (V.ixArrP1 (mi := y) ty83 ty66 rfl rfl rfl (by first | rfl | omega | (intro j hj; rfl) | (simp; done) | (simp; omega)) rfl (by omega) (by omega) (So.s (A.sto ty66 rfl rfl rfl (v := .p (.u64 _)) rfl trivial rfl (by first | rfl | omega | (intro j hj; rfl) | (simp; done) | (simp; omega)) (c' := .rows (fun j => .u64 (if j < x * 5 + (y + 1) then chR (bR (tr (kfN w q))) j else (tr (kfN w q)) j))) (congrArg (fun g => some (OC.rows g)) (funext fun j => by by_cases h9 : j = x * 5 + y; (rw [if_pos h9, if_pos (by omega), h9]; exact congrArg PV.u64 (chR_at (by omega))); (rw [if_neg h9]; dsimp only; by_cases h8 : j < x * 5 + y; (rw [if_pos h8, if_pos (by omega)]); (rw [if_neg h8, if_neg (by omega)])))) rfl (So.e (HT.region S_rkchange_ok (So.q rfl rfl (V.mv (v := .p (.v (.int .i64 ((_ : Nat) : Int)))) rfl ?_)))))))))))))))))
      refine So.q rfl rfl (V.addI rfl rfl (by omega) (So.q rfl rfl (V.as (v := .p (.v (.int .i64 _))) rfl (So.e ?_))))
      refine ⟨y + 1, by first | rfl | omega | (intro j hj; rfl) | (simp; done) | (simp; omega), by omega, ⟨⟨⟨le_int (by first | rfl | omega | (intro j hj; rfl) | (simp; done) | (simp; omega)), trivial⟩, ⟨.refl _, rfl⟩, ⟨.refl _, rfl⟩, ⟨.refl _, rfl⟩, ⟨.refl _, rfl⟩, ⟨.refl _, trivial⟩, ⟨.refl _, rfl⟩, ⟨.refl _, trivial⟩, trivial⟩, ⟨⟨_, rfl, .inr (ob_rows (by first | rfl | ((try dsimp only); first | rfl | omega | (intro j hj; rfl) | (simp; done) | (simp; omega))) (by first | rfl | ((try dsimp only); first | rfl | omega | (intro j hj; rfl) | (simp; done) | (simp; omega)))), trivial⟩, ⟨_, rfl, .inl rfl, trivial⟩, ⟨_, rfl, .inl rfl, trivial⟩, ⟨_, rfl, .inl rfl, trivial⟩, ⟨_, rfl, .inl rfl, trivial⟩, trivial⟩⟩⟩
     ·have h10 := of_decide_eq_false h10
      refine HT.exit ?_
      show HT _ _ _ _ _
      refine HT.region S_rkchange_ok (So.q rfl rfl (V.mv (v := .p (.v (.int .i64 ((_ : Nat) : Int)))) rfl (So.q rfl rfl (V.addI rfl rfl (by omega) (So.q rfl rfl (V.as (v := .p (.v (.int .i64 _))) rfl (So.e ?_)))))))
      refine ⟨x + 1, by first | rfl | omega | (intro j hj; rfl) | (simp; done) | (simp; omega), by omega, ⟨⟨⟨le_int (by first | rfl | omega | (intro j hj; rfl) | (simp; done) | (simp; omega)), trivial⟩, ⟨.refl _, rfl⟩, ⟨.refl _, rfl⟩, ⟨.refl _, rfl⟩, ⟨.refl _, rfl⟩, ⟨.refl _, trivial⟩, ⟨.refl _, rfl⟩, trivial⟩, ⟨⟨_, rfl, .inr (ob_rows (by first | rfl | ((try dsimp only); (intro j hj; rw [show (x + 1) * 5 = x * 5 + y by omega]))) (by first | rfl | ((try dsimp only); (intro j hj; rw [show (x + 1) * 5 = x * 5 + y by omega])))), trivial⟩, ⟨_, rfl, .inl rfl, trivial⟩, ⟨_, rfl, .inl rfl, trivial⟩, ⟨_, rfl, .inl rfl, trivial⟩, ⟨_, rfl, .inl rfl, trivial⟩, trivial⟩⟩⟩
    ·have h9 := of_decide_eq_false h9
     refine HT.exit ?_
     show HT _ _ _ _ _
     have hx : x = 5 := by omega
     subst hx
     refine R.tell [] [(1, ⟨84, 5, 25, true, .rows (fun j => .u64 (chR (bR (tr (kfN w q))) j))⟩)] [1, 2, 3, 4, 5] [2, 3, 4] (fr0 := [(1, .ptr 1 0), (2, .ptr 2 0), (3, .ptr 3 0), (4, .ptr 4 0), (5, .p (.v (.int .i64 ((_ : Nat) : Int))))]) (O0 := [(2, ⟨_, _, _, _, .rows _⟩), (3, ⟨_, _, _, _, .rows _⟩), (4, ⟨_, _, _, _, .rows _⟩)]) rfl rfl ⟨⟨⟨.refl _, rfl⟩, ⟨.refl _, rfl⟩, ⟨.refl _, rfl⟩, ⟨.refl _, rfl⟩, ⟨.refl _, trivial⟩, trivial⟩, ⟨⟨_, rfl, .inr (ob_rows (by first | rfl | ((try dsimp only); (intro j hj; rw [if_pos (by omega)]))) (by first | rfl | ((try dsimp only); (intro j hj; rw [if_pos (by omega)])))), trivial⟩, ⟨_, rfl, .inl rfl, trivial⟩, ⟨_, rfl, .inl rfl, trivial⟩, ⟨_, rfl, .inl rfl, trivial⟩, trivial⟩⟩ ?_
     show HT _ _ _ _ _
     refine HT.tail S_rkchange_ok mixed 9 (by kernel_rfl) (by kernel_rfl) ?_
     refine So.q rfl rfl (V.ixArrPS0 (s := 5) ty84 ty83 rfl rfl rfl (by first | rfl | omega | (intro j hj; rfl) | (simp; done) | (simp; omega)) rfl (by omega) rfl (So.q rfl rfl (V.ixArrP1 ty83 ty66 rfl rfl rfl (by first | rfl | omega | (intro j hj; rfl) | (simp; done) | (simp; omega)) rfl (by omega) rfl (So.q rfl rfl (V.ldPtr ty66 rfl rfl rfl (by first | rfl | omega | (intro j hj; rfl) | (simp; done) | (simp; omega)) (v := .p (.u64 _)) rfl (So.q rfl rfl (V.mv (v := .p (.v (.int .i64 ((_ : Nat) : Int)))) rfl (So.q rfl rfl (V.ixArrP10 (mi := q) ty92 ty66 rfl rfl rfl (by first | rfl | omega | (intro j hj; rfl) | (simp; done) | (simp; omega)) rfl (by omega) (by omega) (So.q rfl rfl (V.ldPtr ty66 rfl rfl rfl (by first | rfl | omega | (intro j hj; rfl) | (simp; done) | (simp; omega)) (v := .p (.u64 _)) rfl (So.q rfl rfl (V.bin (a := (.u64 _)) (b := (.u64 _)) (r := .u64 _) rfl rfl rfl trivial (So.q rfl rfl (V.ixArrPS0 (s := 5) ty84 ty83 rfl rfl rfl (by first | rfl | omega | (intro j hj; rfl) | (simp; done) | (simp; omega)) rfl (by omega) rfl (So.q rfl rfl (V.ixArrP1 ty83 ty66 rfl rfl rfl (by first | rfl | omega | (intro j hj; rfl) | (simp; done) | (simp; omega)) rfl (by omega) rfl (So.s (A.sto ty66 rfl rfl rfl (v := .p (.u64 _)) rfl trivial rfl (by first | rfl | omega | (intro j hj; rfl) | (simp; done) | (simp; omega)) (c' := .rows (fun j => .u64 (rdR (tr (kfN w q)) (constL.getD q 0) j))) (congrArg (fun g => some (OC.rows g)) (funext fun j => by unfold rdR; by_cases h9 : j = 0 <;> simp [h9])) rfl ?_)))))))))))))))))))
     refine So.e (HT.region S_rkchange_ok (So.q rfl rfl (V.mv (v := .p (.v (.int .i64 ((_ : Nat) : Int)))) rfl (So.q rfl rfl (V.addI rfl rfl (by omega) (So.q rfl rfl (V.as (v := .p (.v (.int .i64 _))) rfl (So.e ?_))))))))
     refine ⟨q + 1, by first | rfl | omega | (intro j hj; rfl) | (simp; done) | (simp; omega), by omega, ⟨⟨⟨le_int (by first | rfl | omega | (intro j hj; rfl) | (simp; done) | (simp; omega)), trivial⟩, ⟨.refl _, rfl⟩, ⟨.refl _, rfl⟩, ⟨.refl _, rfl⟩, ⟨.refl _, rfl⟩, trivial⟩, ⟨⟨_, rfl, .inr (ob_rows (by first | rfl | ((try dsimp only); (intro j hj; exact congrArg PV.u64 (rd_tr _ _ j hj)))) (by first | rfl | ((try dsimp only); (intro j hj; exact congrArg PV.u64 (rd_tr _ _ j hj))))), trivial⟩, ⟨_, rfl, .inl rfl, trivial⟩, ⟨_, rfl, .inl rfl, trivial⟩, ⟨_, rfl, .inl rfl, trivial⟩, trivial⟩⟩⟩
 ·have h3 := of_decide_eq_false h3
  refine HT.exit ?_
  show HT _ _ _ _ _
  refine HT.seq (HT.region S_rkchange_ok (So.q rfl rfl (V.ldPtrA ty84 rfl rfl rfl rfl (lk rfl) (So.s (A.stoAg ty84 rfl (n := 25) rfl (by decide) (by intro j hj; first | rfl | trivial) rfl rfl rfl (So.e ?_))))))
  show HT _ _ _ _ _
  refine HT.ret ?_
  exact retC_ok (sg []) [(2, .ptr 2 0)] [(2, ⟨84, 5, 25, true, .rows (fun j => .u64 (tr (kf w) j))⟩)] h ⟨⟨⟨.refl _, rfl⟩, trivial⟩, ⟨⟨_, rfl, .inr (ob_rowsL (by intro j hj; replace hP0 : q = 24 := (by omega); subst hP0; simp only [Nat.zero_add]; exact .refl _)), trivial⟩, trivial⟩⟩ ⟨rvA_cell ty84 rfl rfl rfl rfl (Nat.le_refl _) (le_agg (fun j _ => by first | rfl | (dsimp only; rw [Nat.zero_add]))), trivial⟩ trivial rfl trivial ⟨trivial, trivial⟩ rfl
end Go.Vh

set_option linter.unusedVariables false
set_option linter.unusedSimpArgs false
namespace Go.Vh
open Go Go.Vc Go.Proofs Go.Vw
def rklaySp : Sp := ⟨[1], mkE (α := Nat × UInt8 × (Nat → UInt64) × Nat × Bool × Nat × UInt8) (fun (r, e, w, p, g, q, c) => [.ptr 1 (0), .p (.v (.int .i64 ((q : Int)))), .p (.u8 (c))]) (fun (r, e, w, p, g, q, c) => [(1, ⟨86, 1, 29, true, .rows (spB r e (tr w) (p) g)⟩)]) (fun (r, e, w, p, g, q, c) => q < 192) (fun (r, e, w, p, g, q, c) => []) (fun (r, e, w, p, g, q, c) => [(1, ⟨86, 1, 29, true, .rows (spB r e (tr (layF w q c)) (p) g)⟩)])⟩
def S_rklay : FuncId → Option Sp := fun _ => none
theorem S_rklay_ok : ∀ f s, S_rklay f = some s → FOK Tryd.prog gl f s := fun f s h => by cases h
set_option maxHeartbeats 1000000 in
set_option maxRecDepth 20000 in
theorem rklay_ok : FOK Tryd.prog gl 60 rklaySp := by
 refine FOK.ofE (tyOf_ok Tryd.prog) (slots := []) (nt := 35) Tryd.func60 rfl rfl rfl rfl (by decide) 3 (fun ⟨_, _, _, _, _, _, _⟩ => rfl) (by decide) (fun ⟨_, _, _, _, _, _, _⟩ => ⟨rfl, trivial, trivial, trivial⟩) ?_
 rintro ⟨r, e, w, p, g, q, c⟩ kk hlen hpre h
 replace hpre : q < 192 := hpre
 show HT (cx Tryd.prog 35 (tyOf Tryd.prog) gl [1]) _ [(0, .ptr 1 (0)), (1, .p (.v (.int .i64 ((q : Int))))), (2, .p (.u8 (c)))] [(1, ⟨86, 1, 29, true, .rows (spB r e (tr w) (p) g)⟩)] _
 refine HT.seq (HT.region S_rklay_ok (So.q rfl rfl (V.mv (v := .p (.v (.int .i64 ((_ : Nat) : Int)))) rfl (So.q rfl rfl (V.quoI rfl rfl (by omega) (So.q rfl rfl (V.as (v := .p (.v (.int .i64 _))) rfl (So.e ?_))))))))
 show HT _ _ _ _ _
 refine HT.tail S_rklay_ok mixed 26 (by kernel_rfl) (by kernel_rfl) ?_
 refine So.q rfl rfl (V.mv (v := .ptr 1 0) rfl (So.q rfl rfl (V.mv (v := .p (.v (.int .i64 _))) rfl (So.q rfl rfl (V.remI rfl rfl (by omega) (So.q rfl rfl (V.mv (v := .p (.v (.int .i64 _))) rfl (So.q rfl rfl (V.quoI rfl rfl (by omega) (So.q rfl rfl (V.mv (v := .ptr 1 0) rfl (So.q rfl rfl (V.mv (v := .p (.v (.int .i64 _))) rfl (So.q rfl rfl (V.remI rfl rfl (by omega) (So.q rfl rfl (V.mv (v := .p (.v (.int .i64 _))) rfl (So.q rfl rfl (V.quoI rfl rfl (by omega) ?_)))))))))))))))))))
 refine So.q rfl rfl (V.ncPtr rfl (So.q rfl rfl (V.faPtr ty86 rfl ty84 (lk rfl) rfl rfl (lk rfl) (So.q rfl rfl (V.ixArrPS (mi := q / 8 % 5) (s := 5) ty84 ty83 rfl rfl rfl (by first | rfl | omega | (show _ < 29; omega) | (show _ ≤ 29; omega) | (intro j hj; rfl) | (simp; done) | (simp; omega)) rfl (by omega) (by omega) (So.q rfl rfl (V.ixArrP1 (mi := q / 8 / 5) ty83 ty66 rfl rfl rfl (by first | rfl | omega | (show _ < 29; omega) | (show _ ≤ 29; omega) | (intro j hj; rfl) | (simp; done) | (simp; omega)) rfl (by omega) (by omega) (So.q rfl rfl (V.ldPtr ty66 rfl rfl rfl (by first | rfl | omega | (show _ < 29; omega) | (show _ ≤ 29; omega) | (intro j hj; rfl) | (simp; done) | (simp; omega)) (v := .p (.u64 (w (q / 8)))) (by first | exact (congrArg BV.p (spB_w (i := q / 8 % 5 * 5 + q / 8 / 5) (by omega) (by omega))).trans (by rw [tr_at (by omega)]) | exact congrArg BV.p (spB_w (i := q / 8 % 5 * 5 + q / 8 / 5) (by omega) (by omega))) (So.q rfl rfl (V.mv (v := .p (.u8 _)) rfl (So.q rfl rfl (V.cvN ty66 ty5 (a := (.u8 _)) (r := (.u64 _)) rfl rfl (So.q rfl rfl (V.mv (v := .p (.v (.int .i64 ((_ : Nat) : Int)))) rfl (So.q rfl rfl (V.remI rfl rfl (by omega) (So.q rfl rfl (V.mulI rfl rfl (by omega) ?_)))))))))))))))))))
 refine So.q rfl rfl (V.bin (a := (.u64 _)) (b := (.v (.int .i64 _))) (r := .u64 _) rfl rfl rfl (by first | rfl | omega | (show _ < 29; omega) | (show _ ≤ 29; omega) | (intro j hj; rfl) | (simp; done) | (simp; omega)) (So.q rfl rfl (V.bin (a := (.u64 _)) (b := (.u64 _)) (r := .u64 _) rfl rfl rfl trivial (So.q rfl rfl (V.ncPtr rfl (So.q rfl rfl (V.faPtr ty86 rfl ty84 (lk rfl) rfl rfl (lk rfl) (So.q rfl rfl (V.ixArrPS (mi := q / 8 % 5) (s := 5) ty84 ty83 rfl rfl rfl (by first | rfl | omega | (show _ < 29; omega) | (show _ ≤ 29; omega) | (intro j hj; rfl) | (simp; done) | (simp; omega)) rfl (by omega) (by omega) (So.q rfl rfl (V.ixArrP1 (mi := q / 8 / 5) ty83 ty66 rfl rfl rfl (by first | rfl | omega | (show _ < 29; omega) | (show _ ≤ 29; omega) | (intro j hj; rfl) | (simp; done) | (simp; omega)) rfl (by omega) (by omega) (So.s (A.sto ty66 rfl rfl rfl (v := .p (.u64 _)) rfl trivial rfl (by first | rfl | omega | (show _ < 29; omega) | (show _ ≤ 29; omega) | (intro j hj; rfl) | (simp; done) | (simp; omega)) (c' := .rows (spB r e (tr (layF w q c)) p g)) (congrArg (fun g => some (OC.rows g)) (funext fun j => by exact spB_st (i := q / 8 % 5 * 5 + q / 8 / 5) (by omega) (by omega) (by rw [tr_at (by omega)]; unfold layF; rw [if_pos rfl]; first | rfl | (congr 2; omega)) (by intro j hj25 hj; show tr _ _ = tr _ _; unfold tr layF; exact if_neg (by omega)) j)) rfl (So.e ?_))))))))))))))
 exact ret_ok (sg [(1, 1)]) h rfl rfl rfl ⟨trivial, trivial⟩ trivial rfl ⟨trivial, ⟨⟨_, rfl, .inr (ob_rows (by first | rfl | ((try dsimp only); (first | rfl | (intro j hj; rfl)))) (by first | rfl | ((try dsimp only); (first | rfl | (intro j hj; rfl))))), trivial⟩, trivial⟩⟩
end Go.Vh

set_option linter.unusedVariables false
set_option linter.unusedSimpArgs false
namespace Go.Vh
open Go Go.Vc Go.Proofs Go.Vw
def rkwriteSp : Sp := ⟨[1], mkE (α := Nat × UInt8 × (List UInt8)) (fun (r, e, b) => [.ptr 1 (0), .p (.bs (b))]) (fun (r, e, b) => [(1, ⟨86, 1, 29, true, .rows (spB r e (fun _ => 0) (0) false)⟩)]) (fun (r, e, b) => 8 ≤ r ∧ r ≤ 192) (fun (r, e, b) => []) (fun (r, e, b) => [(1, ⟨86, 1, 29, true, .rows (spB r e (tr ((wrN r b b.length).1)) ((wrN r b b.length).2) false)⟩)])⟩
def S_rkwrite : FuncId → Option Sp := fun f => if f = 60 then some rklaySp else if f = 61 then some rkchangeSp else none
theorem S_rkwrite_ok : ∀ f s, S_rkwrite f = some s → FOK Tryd.prog gl f s := fun f s h => by
 unfold S_rkwrite at h
 split at h
 ·rename_i e; cases h; subst e; exact rklay_ok
 split at h
 ·rename_i e; cases h; subst e; exact rkchange_ok
 cases h
theorem S_rkwrite_det : ∀ f s, S_rkwrite f = some s → SpDet s.sp := fun f s h => by
 unfold S_rkwrite at h
 split at h
 ·cases h; exact mkE_det _ _ _ _ _
 split at h
 ·cases h; exact mkE_det _ _ _ _ _
 cases h
set_option maxHeartbeats 1000000 in
set_option maxRecDepth 20000 in
theorem rkwrite_ok : FOK Tryd.prog gl 50 rkwriteSp := by
 refine FOK.ofE (tyOf_ok Tryd.prog) (slots := []) (nt := 55) Tryd.func50 rfl rfl rfl rfl (by decide) 2 (fun ⟨_, _, _⟩ => rfl) (by decide) (fun ⟨_, _, _⟩ => ⟨rfl, trivial, trivial⟩) ?_
 rintro ⟨r, e, b⟩ kk hlen hpre h
 have hl1 : (b).length ≤ 9223372036854775807 := hlen.2.1
 replace hpre : 8 ≤ r ∧ r ≤ 192 := hpre
 show HT (cx Tryd.prog 55 (tyOf Tryd.prog) gl [1]) _ [(0, .ptr 1 (0)), (1, .p (.bs (b)))] [(1, ⟨86, 1, 29, true, .rows (spB r e (fun _ => 0) (0) false)⟩)] _
 refine HT.seq (HT.region S_rkwrite_ok (So.q rfl rfl (V.as (v := .p (.v (.int .i64 (0)))) rfl (So.e (HT.block ?_)))))
 refine R.loop (σ := Nat) (fun s => [(4, .p (.v (.int .i64 ((s : Int)))))]) (fun s => [(1, ⟨86, 1, 29, true, .rows (spB r e (tr (wrN r b s).1) ((wrN r b s).2) false)⟩)]) [0, 1] [] (fun s => s ≤ b.length) (fun s => b.length - s) (0) (fr0 := [(0, .ptr 1 0), (1, .p (.bs _))]) (O0 := []) rfl rfl (by first | rfl | omega | (show _ < 29; omega) | (show _ ≤ 29; omega) | (intro j hj; rfl) | (simp; done) | (simp; omega)) ⟨⟨⟨le_int (by first | rfl | omega | (intro j hj; rfl)), trivial⟩, ⟨.refl _, rfl⟩, ⟨.refl _, trivial⟩, trivial⟩, ⟨⟨_, rfl, .inr (ob_rows (by first | rfl | ((try dsimp only); first | rfl | omega | (intro j hj; rfl))) (by first | rfl | ((try dsimp only); first | rfl | omega | (intro j hj; rfl)))), trivial⟩, trivial⟩⟩ (fun s hP0 => ?_)
 refine HT.seq (HT.seq (HT.region S_rkwrite_ok (So.q rfl rfl (V.mv (v := .p (.v (.int .i64 ((_ : Nat) : Int)))) rfl (So.q rfl rfl (V.mv (v := .p (.bs _)) rfl (So.q rfl rfl (V.len ty22 (v := .p (.bs _)) rfl rfl (So.q rfl rfl (V.bin (a := (.v (.int .i64 ((_ : Nat) : Int)))) (b := (.v (.int .i64 _))) (r := .v (.bool _)) rfl rfl rfl trivial (So.q rfl rfl (V.mv (v := .p (.v (.bool _))) rfl ?_))))))))))))
 refine So.gd rfl rfl (lk rfl) (lk rfl) (fun h1 => ?_) (fun h1 => ?_)
 ·have h1 := of_decide_eq_true h1
  refine A.v rfl (V.mv (v := .ptr 1 0) rfl (So.gy rfl rfl (lk rfl) (lk rfl) (A.v rfl (V.ncPtr rfl (So.gy rfl rfl (lk rfl) (lk rfl) (A.v rfl (V.faPtr ty86 rfl ty4 (lk rfl) rfl rfl (lk rfl) (So.gy rfl rfl (lk rfl) (lk rfl) (A.v rfl (V.ldPtr ty4 rfl rfl rfl (lk rfl) (v := .p (.v (.bool false))) (by rfl) (So.gy rfl rfl (lk rfl) (lk rfl) (A.v rfl (V.not (b := false) rfl (So.q rfl rfl (V.pkTrue (u := .p (.v (.bool true))) rfl rfl ?_)))))))))))))))
  refine So.e ?_
  show HT _ _ _ _ _
  refine R.condT rfl ?_
  refine HT.skip (HT.seq (HT.block (HT.seq ?_)))
  refine HT.tail S_rkwrite_ok mixed 9 (by kernel_rfl) (by kernel_rfl) ?_
  have hwr := wrN_le r b (by omega) s
  refine So.q rfl rfl (V.mv (v := .ptr 1 0) rfl (So.q rfl rfl (V.mv (v := .ptr 1 0) rfl (So.q rfl rfl (V.ncPtr rfl (So.q rfl rfl (V.faPtr ty86 rfl ty3 (lk rfl) rfl rfl (lk rfl) (So.q rfl rfl (V.ldPtr ty3 rfl rfl rfl (lk rfl) (v := .p (.v (.int .i64 _))) rfl (So.q rfl rfl (V.mv (v := .p (.bs _)) rfl (So.q rfl rfl (V.mv (v := .p (.v (.int .i64 ((_ : Nat) : Int)))) rfl (So.q rfl rfl (V.ixBs ty22 ty5 rfl rfl rfl (by omega) (Int.toNat_natCast _) (So.q rfl rfl (V.ldRp ty5 rfl rfl (lk rfl) (v := (.u8 _)) rfl ?_)))))))))))))))))
  refine So.n (lk rfl) (A.call [.ptr 1 _, .p (.v (.int .i64 _)), .p (.u8 _)] [(1, ⟨_, _, _, _, .rows _⟩)] (sg [(1, 1)]) 2 rfl rfl rfl rfl ⟨rfl, trivial⟩ rfl ⟨trivial, trivial⟩ ⟨rfl, trivial, trivial, trivial⟩ ⟨lk rfl, trivial⟩ rfl (r, e, (wrN r b s).1, (wrN r b s).2, false, (wrN r b s).2, b.getD s 0) ⟨.refl _, .refl _, .refl _, trivial⟩ ⟨⟨_, rfl, .inl rfl, trivial⟩, trivial⟩ (by first | omega | (simp only [List.drop_zero, List.take_length]; omega) | (simp; done) | (simp; omega)) (Φ := fun _ => True) (fun _ _ => trivial) ⟨⟨_, _, rfl, rfl, rfl, Nat.le_refl _⟩, trivial⟩ (.inl rfl) rfl (v := .tup 0 _) rfl (O' := (1, ⟨_, _, _, _, .rows _⟩) :: _) rfl (fun h2 => ?_))
  refine So.e (HT.seq (HT.region S_rkwrite_ok (So.q rfl rfl (V.mv (v := .ptr 1 0) rfl (So.q rfl rfl (V.ncPtr rfl (So.q rfl rfl (V.faPtr ty86 rfl ty3 (lk rfl) rfl rfl (lk rfl) (So.q rfl rfl (V.ldPtr ty3 rfl rfl rfl (lk rfl) (v := .p (.v (.int .i64 _))) rfl (So.q rfl rfl (V.addI rfl rfl (by omega) (So.q rfl rfl (V.ncPtr rfl (So.q rfl rfl (V.faPtr ty86 rfl ty3 (lk rfl) rfl rfl (lk rfl) ?_))))))))))))))))
  refine So.s (A.sto ty3 rfl rfl rfl (v := .p (.v (.int .i64 _))) rfl rfl rfl (lk rfl) (c' := .rows (spB r e (tr (layF (wrN r b s).1 (wrN r b s).2 (b.getD s 0))) ((wrN r b s).2 + 1) false)) (congrArg (fun g => some (OC.rows g)) (funext fun j => by exact spB_at (by omega) j)) rfl (So.e (HT.seq ?_)))
  refine HT.drawn S_rkwrite_ok S_rkwrite_det mixed (by kernel_rfl) ?_
  refine Sd.n (lk rfl) (V.mv (v := .ptr 1 0) rfl (Sd.n (lk rfl) (V.ncPtr rfl (Sd.n (lk rfl) (V.faPtr ty86 rfl ty3 (lk rfl) rfl rfl (lk rfl) (Sd.n (lk rfl) (V.ldPtr ty3 rfl rfl rfl (lk rfl) (v := .p (.v (.int .i64 _))) rfl (Sd.n (lk rfl) (V.mv (v := .ptr 1 0) rfl (Sd.n (lk rfl) (V.ncPtr rfl (Sd.n (lk rfl) (V.faPtr ty86 rfl ty3 (lk rfl) rfl rfl (lk rfl) (Sd.n (lk rfl) (V.ldPtr ty3 rfl rfl rfl (lk rfl) (v := .p (.v (.int .i64 _))) rfl (Sd.n (lk rfl) (V.bin (a := (.v (.int .i64 _))) (b := (.v (.int .i64 _))) (r := .v (.bool _)) rfl rfl rfl trivial (Sd.e ?_))))))))))))))))))
  show HT _ _ _ _ _
  refine R.cond rfl rfl (fun h3 => ?_) (fun h3 => ?_)
  ·have h3 := of_decide_eq_true h3
   refine HT.seq (HT.region S_rkwrite_ok (So.q rfl rfl (V.mv (v := .ptr 1 0) rfl (So.q rfl rfl (V.mv (v := .ptr 1 0) rfl (So.q rfl rfl (V.ncPtr rfl (So.q rfl rfl (V.faPtr ty86 rfl ty84 (lk rfl) rfl rfl (lk rfl) (So.q rfl rfl (V.ldPtrA ty84 rfl rfl rfl rfl (lk rfl) ?_)))))))))))
   refine So.n (lk rfl) (A.call0 [.agg 25 _] 2 rfl rfl rfl rfl ⟨trivial, trivial⟩ ⟨lk rfl, trivial⟩ (layF (wrN r b s).1 (wrN r b s).2 (b.getD s 0)) ⟨le_agg (fun j hj => spB_w (i := j) rfl hj), trivial⟩ trivial (by trivial) (Φ := fun _ => True) (fun _ _ => trivial) (.inl rfl) (v := .agg 25 _) rfl (O' := _) rfl (fun h4 => ?_))
   refine So.q rfl rfl (V.ncPtr rfl (So.q rfl rfl (V.faPtr ty86 rfl ty84 (lk rfl) rfl rfl (lk rfl) (So.s (A.stoAgP ty84 rfl (n := 25) rfl (by decide) (by intro j hj; first | rfl | trivial) rfl (lk rfl) rfl (So.e ?_))))))
   show HT _ _ _ _ _
   refine R.tell [] [(1, ⟨86, 1, 29, true, .rows (spB r e (tr (kf (layF (wrN r b s).1 (wrN r b s).2 (b.getD s 0)))) ((wrN r b s).2 + 1) false)⟩)] [0, 1, 4] [] (fr0 := [(0, .ptr 1 0), (1, .p (.bs _)), (4, .p (.v (.int .i64 ((_ : Nat) : Int))))]) (O0 := []) rfl rfl ⟨⟨⟨.refl _, rfl⟩, ⟨.refl _, trivial⟩, ⟨.refl _, trivial⟩, trivial⟩, ⟨⟨_, rfl, .inr (ob_rows (by first | rfl | ((try dsimp only); (intro j hj; exact spB_ag _ (fun j hj => rfl) j))) (by first | rfl | ((try dsimp only); (intro j hj; exact spB_ag _ (fun j hj => rfl) j)))), trivial⟩, trivial⟩⟩ ?_
   show HT _ _ _ _ _
   refine HT.region S_rkwrite_ok (So.q rfl rfl (V.mv (v := .ptr 1 0) rfl (So.q rfl rfl (V.ncPtr rfl (So.q rfl rfl (V.faPtr ty86 rfl ty3 (lk rfl) rfl rfl (lk rfl) (So.s (A.sto ty3 rfl rfl rfl (v := .p (.v (.int .i64 _))) rfl rfl rfl (lk rfl) (c' := .rows (spB r e (tr (kf (layF (wrN r b s).1 (wrN r b s).2 (b.getD s 0)))) 0 false)) (congrArg (fun g => some (OC.rows g)) (funext fun j => by exact spB_at (by omega) j)) rfl (So.e (HT.region S_rkwrite_ok (So.q rfl rfl (V.mv (v := .p (.v (.int .i64 ((_ : Nat) : Int)))) rfl (So.q rfl rfl (V.addI rfl rfl (by omega) (So.q rfl rfl (V.as (v := .p (.v (.int .i64 _))) rfl ?_))))))))))))))))
   refine So.e ?_
   refine ⟨s + 1, by first | rfl | omega | (show _ < 29; omega) | (show _ ≤ 29; omega) | (intro j hj; rfl) | (simp; done) | (simp; omega), by omega, ⟨⟨⟨le_int (by first | rfl | omega | (show _ < 29; omega) | (show _ ≤ 29; omega) | (intro j hj; rfl) | (simp; done) | (simp; omega)), trivial⟩, ⟨.refl _, rfl⟩, ⟨.refl _, trivial⟩, trivial⟩, ⟨⟨_, rfl, .inr (ob_rows (by first | rfl | ((try dsimp only); (intro j hj; show _ = spB r e (tr (wrS r (wrN r b s) (b.getD s 0)).1) (wrS r (wrN r b s) (b.getD s 0)).2 false j; unfold wrS; by_cases h9 : (wrN r b s).2 + 1 = r <;> first | (exfalso; omega) | (rw [if_pos h9]; done) | (rw [if_pos h9]; rfl) | (rw [if_neg h9]; done) | (rw [if_neg h9]; rfl)))) (by first | rfl | ((try dsimp only); (intro j hj; show _ = spB r e (tr (wrS r (wrN r b s) (b.getD s 0)).1) (wrS r (wrN r b s) (b.getD s 0)).2 false j; unfold wrS; by_cases h9 : (wrN r b s).2 + 1 = r <;> first | (exfalso; omega) | (rw [if_pos h9]; done) | (rw [if_pos h9]; rfl) | (rw [if_neg h9]; done) | (rw [if_neg h9]; rfl))))), trivial⟩, trivial⟩⟩⟩
  ·have h3 := of_decide_eq_false h3
   refine HT.skip (HT.region S_rkwrite_ok (So.q rfl rfl (V.mv (v := .p (.v (.int .i64 ((_ : Nat) : Int)))) rfl (So.q rfl rfl (V.addI rfl rfl (by omega) (So.q rfl rfl (V.as (v := .p (.v (.int .i64 _))) rfl (So.e ?_))))))))
   refine ⟨s + 1, by first | rfl | omega | (show _ < 29; omega) | (show _ ≤ 29; omega) | (intro j hj; rfl) | (simp; done) | (simp; omega), by omega, ⟨⟨⟨le_int (by first | rfl | omega | (show _ < 29; omega) | (show _ ≤ 29; omega) | (intro j hj; rfl) | (simp; done) | (simp; omega)), trivial⟩, ⟨.refl _, rfl⟩, ⟨.refl _, trivial⟩, trivial⟩, ⟨⟨_, rfl, .inr (ob_rows (by first | rfl | ((try dsimp only); (intro j hj; show _ = spB r e (tr (wrS r (wrN r b s) (b.getD s 0)).1) (wrS r (wrN r b s) (b.getD s 0)).2 false j; unfold wrS; by_cases h9 : (wrN r b s).2 + 1 = r <;> first | (exfalso; omega) | (rw [if_pos h9]; done) | (rw [if_pos h9]; rfl) | (rw [if_neg h9]; done) | (rw [if_neg h9]; rfl)))) (by first | rfl | ((try dsimp only); (intro j hj; show _ = spB r e (tr (wrS r (wrN r b s) (b.getD s 0)).1) (wrS r (wrN r b s) (b.getD s 0)).2 false j; unfold wrS; by_cases h9 : (wrN r b s).2 + 1 = r <;> first | (exfalso; omega) | (rw [if_pos h9]; done) | (rw [if_pos h9]; rfl) | (rw [if_neg h9]; done) | (rw [if_neg h9]; rfl))))), trivial⟩, trivial⟩⟩⟩
 ·have h1 := of_decide_eq_false h1
  refine So.gn (b := false) rfl rfl rfl (lk rfl) (lk rfl) (So.gn (b := false) rfl rfl rfl (lk rfl) (lk rfl) (So.gn (b := false) rfl rfl rfl (lk rfl) (lk rfl) (So.gn (b := false) rfl rfl rfl (lk rfl) (lk rfl) (So.q rfl rfl (V.pkFalse (u := .p (.v (.bool false))) rfl rfl (So.e ?_))))))
  show HT _ _ _ _ _
  refine R.condF rfl ?_
  refine HT.exit ?_
  exact ret_ok (sg [(1, 1)]) h rfl rfl rfl ⟨trivial, trivial⟩ trivial rfl ⟨trivial, ⟨⟨_, rfl, .inr (ob_rows (by first | rfl | ((try dsimp only); (first | rfl | (replace hP0 : s = b.length := (by omega); subst hP0; first | rfl | (intro j hj; rfl))))) (by first | rfl | ((try dsimp only); (first | rfl | (replace hP0 : s = b.length := (by omega); subst hP0; first | rfl | (intro j hj; rfl)))))), trivial⟩, trivial⟩⟩
end Go.Vh

set_option linter.unusedVariables false
set_option linter.unusedSimpArgs false
namespace Go.Vh
open Go Go.Vc Go.Proofs Go.Vw
def rknewSp : Sp := ⟨[], mkE (α := Nat × UInt8) (fun (r, e) => [.p (.v (.int .i64 ((r : Int)))), .p (.u8 (e))]) (fun (r, e) => []) (fun (r, e) => 8 ≤ r ∧ r ≤ 192 ∧ r % 8 = 0) (fun (r, e) => [.ptr 1 (0)]) (fun (r, e) => [(1, ⟨86, 1, 29, true, .rows (spB r e (fun _ => 0) (0) false)⟩)])⟩
def S_rknew : FuncId → Option Sp := fun _ => none
theorem S_rknew_ok : ∀ f s, S_rknew f = some s → FOK Tryd.prog gl f s := fun f s h => by cases h
set_option maxHeartbeats 1000000 in
set_option maxRecDepth 20000 in
theorem rknew_ok : FOK Tryd.prog gl 49 rknewSp := by
 refine FOK.ofE (tyOf_ok Tryd.prog) (slots := [4]) (nt := 20) Tryd.func49 rfl rfl rfl rfl (by decide) 2 (fun ⟨_, _⟩ => rfl) (by decide) (fun ⟨_, _⟩ => ⟨trivial, trivial, trivial⟩) ?_
 rintro ⟨r, e⟩ kk hlen hpre h
 replace hpre : 8 ≤ r ∧ r ≤ 192 ∧ r % 8 = 0 := hpre
 show HT (cx Tryd.prog 20 (tyOf Tryd.prog) gl []) _ [(0, .p (.v (.int .i64 ((r : Int))))), (1, .p (.u8 (e)))] [] _
 have h7 := and7 (r := r) (by omega) (by omega)
 refine HT.seq (HT.region S_rknew_ok (So.q rfl rfl (V.as (v := _) rfl (So.e (HT.seq (HT.seq (HT.region S_rknew_ok (So.q rfl rfl (V.mv (v := .p (.v (.int .i64 ((_ : Nat) : Int)))) rfl (So.q rfl rfl (V.bin (a := (.v (.int .i64 ((_ : Nat) : Int)))) (b := (.v (.int .i64 (8)))) (r := .v (.bool _)) rfl rfl rfl trivial (So.q rfl rfl (V.mv (v := .p (.v (.bool _))) rfl ?_)))))))))))))
 refine So.gd rfl rfl (lk rfl) (lk rfl) (fun h1 => ?_) (fun h1 => ?_)
 ·have h1 := of_decide_eq_false h1
  refine A.v rfl (V.mv (v := .p (.v (.int .i64 ((_ : Nat) : Int)))) rfl (So.gy rfl rfl (lk rfl) (lk rfl) (A.v rfl (V.bin (a := (.v (.int .i64 ((_ : Nat) : Int)))) (b := (.v (.int .i64 (192)))) (r := .v (.bool _)) rfl rfl rfl trivial (So.q rfl rfl (V.pkFalse (u := .p (.v (.bool _))) rfl rfl (So.q rfl rfl (V.mv (v := .p (.v (.bool _))) rfl ?_))))))))
  refine So.gd rfl rfl (lk rfl) (lk rfl) (fun h2 => ?_) (fun h2 => ?_)
  ·have h2 := of_decide_eq_false h2
   refine A.v rfl (V.mv (v := .p (.v (.int .i64 ((_ : Nat) : Int)))) rfl (So.gy rfl rfl (lk rfl) (lk rfl) (A.v rfl (V.remI rfl rfl (by omega) (So.gy rfl rfl (lk rfl) (lk rfl) (A.v rfl (V.bin (a := (.v (.int .i64 _))) (b := (.v (.int .i64 (0)))) (r := .v (.bool _)) rfl rfl rfl trivial (So.q rfl rfl (V.pkFalse (u := .p (.v (.bool _))) rfl rfl (So.e ?_))))))))))
   show HT _ _ _ _ _
   refine R.cond rfl rfl (fun h3 => ?_) (fun h3 => ?_)
   ·have h3 := of_decide_eq_false (bnT h3)
    refine HT.seq ?_
    exfalso; first | omega | (simp_all; done)
   ·have h3 := of_decide_eq_true (bnF h3)
    refine HT.skip (HT.seq (HT.region S_rknew_ok (So.q rfl rfl (V.mv (v := .p (.v (.int .i64 ((_ : Nat) : Int)))) rfl (So.q rfl rfl (V.mv (v := .p (.u8 _)) rfl (So.n (lk rfl) (A.bldS ty86 rfl rfl ⟨by first | exact trivial | exact rfl | (intro j hj; first | trivial | rfl | (simp [BV.one]; done)), by first | exact trivial | exact rfl | (intro j hj; first | trivial | rfl | (simp [BV.one]; done)), trivial⟩ rfl (f := spB r e (fun _ => 0) 0 false) (by exact allP_spec (P := fun j => _ = _) ⟨⟨⟨⟨⟨⟨⟨⟨⟨⟨⟨⟨⟨⟨⟨⟨⟨⟨⟨⟨⟨⟨⟨⟨⟨⟨⟨⟨⟨trivial, rfl⟩, rfl⟩, rfl⟩, rfl⟩, rfl⟩, rfl⟩, rfl⟩, rfl⟩, rfl⟩, rfl⟩, rfl⟩, rfl⟩, rfl⟩, rfl⟩, rfl⟩, rfl⟩, rfl⟩, rfl⟩, rfl⟩, rfl⟩, rfl⟩, rfl⟩, rfl⟩, rfl⟩, rfl⟩, rfl⟩, rfl⟩, rfl⟩, rfl⟩) (So.n (lk rfl) (A.boxAg 1 1 (n := 29) rfl (by intro j hj; exact spB_one _) rfl trivial (So.q rfl rfl (V.as (v := .ptr 1 0) rfl (So.e ?_)))))))))))))
    show HT _ _ _ _ _
    refine HT.ret ?_
    exact ret_ok (sg [(1, 1)]) h rfl rfl rfl ⟨trivial, trivial⟩ ⟨rfl, trivial⟩ rfl ⟨⟨⟨.refl _, rfl⟩, trivial⟩, ⟨⟨_, rfl, .inr (ob_rows (by first | rfl | ((try dsimp only); (first | rfl | (intro j hj; rfl)))) (by first | rfl | ((try dsimp only); (first | rfl | (intro j hj; rfl))))), trivial⟩, trivial⟩⟩
  ·have h2 := of_decide_eq_true h2
   refine So.gn (b := true) rfl rfl rfl (lk rfl) (lk rfl) (So.gn (b := true) rfl rfl rfl (lk rfl) (lk rfl) (So.q rfl rfl (V.pkTrue (u := .p (.v (.bool true))) rfl rfl (So.e ?_))))
   show HT _ _ _ _ _
   refine R.condT rfl ?_
   refine HT.seq ?_
   exfalso; first | omega | (simp_all; done)
 ·have h1 := of_decide_eq_true h1
  refine So.gn (b := true) rfl rfl rfl (lk rfl) (lk rfl) (So.q rfl rfl (V.pkTrue (u := .p (.v (.bool true))) rfl rfl (So.q rfl rfl (V.mv (v := .p (.v (.bool true))) rfl (So.gn (b := true) rfl rfl rfl (lk rfl) (lk rfl) (So.gn (b := true) rfl rfl rfl (lk rfl) (lk rfl) (So.gn (b := true) rfl rfl rfl (lk rfl) (lk rfl) (So.q rfl rfl (V.pkTrue (u := .p (.v (.bool true))) rfl rfl (So.e ?_))))))))))
  show HT _ _ _ _ _
  refine R.condT rfl ?_
  refine HT.seq ?_
  exfalso; first | omega | (simp_all; done)
end Go.Vh

set_option linter.unusedVariables false
set_option linter.unusedSimpArgs false
namespace Go.Vh
open Go Go.Vc Go.Proofs Go.Vw
def rkreadSp : Sp := ⟨[1], mkE (α := Nat × UInt8 × (Nat → UInt64) × Nat × Nat) (fun (r, e, w, p, m) => [.ptr 1 (0), .p (.v (.int .i64 ((m : Int))))]) (fun (r, e, w, p, m) => [(1, ⟨86, 1, 29, true, .rows (spB r e (tr (w)) (p) false)⟩)]) (fun (r, e, w, p, m) => 8 ≤ r ∧ r ≤ 192 ∧ p < r ∧ m ≤ 65536) (fun (r, e, w, p, m) => [.own 2 (0) (m)]) (fun (r, e, w, p, m) => [(1, ⟨86, 1, 29, true, .rows (spB r e (tr ((gvN r (padK r e (w, p)) m).1)) ((gvN r (padK r e (w, p)) m).2) true)⟩), (2, ⟨5, 1, m, true, .bs (gvL r (padK r e (w, p)) m)⟩)])⟩
def S_rkread : FuncId → Option Sp := fun f => if f = 60 then some rklaySp else if f = 61 then some rkchangeSp else none
theorem S_rkread_ok : ∀ f s, S_rkread f = some s → FOK Tryd.prog gl f s := fun f s h => by
 unfold S_rkread at h
 split at h
 ·rename_i e; cases h; subst e; exact rklay_ok
 split at h
 ·rename_i e; cases h; subst e; exact rkchange_ok
 cases h
theorem S_rkread_det : ∀ f s, S_rkread f = some s → SpDet s.sp := fun f s h => by
 unfold S_rkread at h
 split at h
 ·cases h; exact mkE_det _ _ _ _ _
 split at h
 ·cases h; exact mkE_det _ _ _ _ _
 cases h
set_option maxHeartbeats 1000000 in
set_option maxRecDepth 20000 in
theorem rkread_ok : FOK Tryd.prog gl 51 rkreadSp := by
 refine FOK.ofE (tyOf_ok Tryd.prog) (slots := [4]) (nt := 109) Tryd.func51 rfl rfl rfl rfl (by decide) 2 (fun ⟨_, _, _, _, _⟩ => rfl) (by decide) (fun ⟨_, _, _, _, _⟩ => ⟨rfl, trivial, trivial⟩) ?_
 rintro ⟨r, e, w, p, m⟩ kk hlen hpre h
 replace hpre : 8 ≤ r ∧ r ≤ 192 ∧ p < r ∧ m ≤ 65536 := hpre
 show HT (cx Tryd.prog 109 (tyOf Tryd.prog) gl [1]) _ [(0, .ptr 1 (0)), (1, .p (.v (.int .i64 ((m : Int)))))] [(1, ⟨86, 1, 29, true, .rows (spB r e (tr (w)) (p) false)⟩)] _
 refine HT.seq (HT.region S_rkread_ok (So.q rfl rfl (V.as (v := .p (.v (.slice none 0 0))) rfl (So.e (HT.seq (HT.seq (HT.region S_rkread_ok (So.q rfl rfl (V.mv (v := .p (.v (.int .i64 ((_ : Nat) : Int)))) rfl (So.q rfl rfl (V.bin (a := (.v (.int .i64 ((_ : Nat) : Int)))) (b := (.v (.int .i64 (0)))) (r := .v (.bool _)) rfl rfl rfl trivial (So.q rfl rfl (V.mv (v := .p (.v (.bool _))) rfl ?_)))))))))))))
 refine So.gd rfl rfl (lk rfl) (lk rfl) (fun h1 => ?_) (fun h1 => ?_)
 ·have h1 := of_decide_eq_false h1
  refine A.v rfl (V.mv (v := .p (.v (.int .i64 ((_ : Nat) : Int)))) rfl (So.gy rfl rfl (lk rfl) (lk rfl) (A.v rfl (V.bin (a := (.v (.int .i64 ((_ : Nat) : Int)))) (b := (.v (.int .i64 (65536)))) (r := .v (.bool _)) rfl rfl rfl trivial (So.q rfl rfl (V.pkFalse (u := .p (.v (.bool _))) rfl rfl (So.e ?_)))))))
  show HT _ _ _ _ _
  refine R.cond rfl rfl (fun h2 => ?_) (fun h2 => ?_)
  ·have h2 := of_decide_eq_true h2
   refine HT.seq ?_
   exfalso; omega
  ·have h2 := of_decide_eq_false h2
   refine HT.skip (HT.seq (HT.seq (HT.region S_rkread_ok (So.q rfl rfl (V.mv (v := .ptr 1 0) rfl (So.q rfl rfl (V.ncPtr rfl (So.q rfl rfl (V.faPtr ty86 rfl ty4 (lk rfl) rfl rfl (lk rfl) (So.q rfl rfl (V.ldPtr ty4 rfl rfl rfl (lk rfl) (v := .p (.v (.bool false))) (by rfl) (So.q rfl rfl (V.not (b := false) rfl (So.e ?_))))))))))))))
   show HT _ _ _ _ _
   refine R.condT rfl ?_
   refine HT.seq ?_
   refine HT.tail S_rkread_ok mixed 9 (by kernel_rfl) (by kernel_rfl) ?_
   refine So.q rfl rfl (V.mv (v := .ptr 1 0) rfl (So.q rfl rfl (V.mv (v := .ptr 1 0) rfl (So.q rfl rfl (V.ncPtr rfl (So.q rfl rfl (V.faPtr ty86 rfl ty3 (lk rfl) rfl rfl (lk rfl) (So.q rfl rfl (V.ldPtr ty3 rfl rfl rfl (lk rfl) (v := .p (.v (.int .i64 _))) rfl (So.q rfl rfl (V.mv (v := .ptr 1 0) rfl (So.q rfl rfl (V.ncPtr rfl (So.q rfl rfl (V.faPtr ty86 rfl ty5 (lk rfl) rfl rfl (lk rfl) (So.q rfl rfl (V.ldPtr ty5 rfl rfl rfl (lk rfl) (v := .p (.u8 _)) rfl ?_)))))))))))))))))
   refine So.n (lk rfl) (A.call [.ptr 1 _, .p (.v (.int .i64 _)), .p (.u8 _)] [(1, ⟨_, _, _, _, .rows _⟩)] (sg [(1, 1)]) 2 rfl rfl rfl rfl ⟨rfl, trivial⟩ rfl ⟨trivial, trivial⟩ ⟨rfl, trivial, trivial, trivial⟩ ⟨lk rfl, trivial⟩ rfl (r, e, w, p, false, p, e) ⟨.refl _, .refl _, .refl _, trivial⟩ ⟨⟨_, rfl, .inl rfl, trivial⟩, trivial⟩ (by first | omega | (simp only [List.drop_zero, List.take_length]; omega) | (simp; done) | (simp; omega)) (Φ := fun _ => True) (fun _ _ => trivial) ⟨⟨_, _, rfl, rfl, rfl, Nat.le_refl _⟩, trivial⟩ (.inl rfl) rfl (v := .tup 0 _) rfl (O' := (1, ⟨_, _, _, _, .rows _⟩) :: _) rfl (fun h3 => ?_))
   refine So.e (HT.seq (HT.region S_rkread_ok (So.q rfl rfl (V.mv (v := .ptr 1 0) rfl (So.q rfl rfl (V.mv (v := .ptr 1 0) rfl (So.q rfl rfl (V.ncPtr rfl (So.q rfl rfl (V.faPtr ty86 rfl ty3 (lk rfl) rfl rfl (lk rfl) (So.q rfl rfl (V.ldPtr ty3 rfl rfl rfl (lk rfl) (v := .p (.v (.int .i64 _))) rfl (So.q rfl rfl (V.subI rfl rfl (by omega) ?_))))))))))))))
   refine So.n (lk rfl) (A.call [.ptr 1 _, .p (.v (.int .i64 _)), .p (.u8 _)] [(1, ⟨_, _, _, _, .rows _⟩)] (sg [(1, 1)]) 2 rfl rfl rfl rfl ⟨rfl, trivial⟩ rfl ⟨trivial, trivial⟩ ⟨rfl, trivial, trivial, trivial⟩ ⟨lk rfl, trivial⟩ rfl (r, e, layF w p e, p, false, r - 1, 128) ⟨.refl _, le_int (by omega), .refl _, trivial⟩ ⟨⟨_, rfl, .inl rfl, trivial⟩, trivial⟩ (by first | omega | (simp only [List.drop_zero, List.take_length]; omega) | (simp; done) | (simp; omega)) (Φ := fun _ => True) (fun _ _ => trivial) ⟨⟨_, _, rfl, rfl, rfl, Nat.le_refl _⟩, trivial⟩ (.inl rfl) rfl (v := .tup 0 _) rfl (O' := (1, ⟨_, _, _, _, .rows _⟩) :: _) rfl (fun h4 => ?_))
   refine So.e (HT.seq (HT.region S_rkread_ok (So.q rfl rfl (V.mv (v := .ptr 1 0) rfl (So.q rfl rfl (V.mv (v := .ptr 1 0) rfl (So.q rfl rfl (V.ncPtr rfl (So.q rfl rfl (V.faPtr ty86 rfl ty84 (lk rfl) rfl rfl (lk rfl) (So.q rfl rfl (V.ldPtrA ty84 rfl rfl rfl rfl (lk rfl) ?_))))))))))))
   refine So.n (lk rfl) (A.call0 [.agg 25 _] 2 rfl rfl rfl rfl ⟨trivial, trivial⟩ ⟨lk rfl, trivial⟩ (layF (layF w p e) (r - 1) 128) ⟨le_agg (fun j hj => spB_w (i := j) rfl hj), trivial⟩ trivial (by trivial) (Φ := fun _ => True) (fun _ _ => trivial) (.inl rfl) (v := .agg 25 _) rfl (O' := _) rfl (fun h5 => ?_))
   refine So.q rfl rfl (V.ncPtr rfl (So.q rfl rfl (V.faPtr ty86 rfl ty84 (lk rfl) rfl rfl (lk rfl) (So.s (A.stoAgP ty84 rfl (n := 25) rfl (by decide) (by intro j hj; first | rfl | trivial) rfl (lk rfl) rfl (So.e (HT.seq ?_)))))))
   refine R.tell [] [(1, ⟨86, 1, 29, true, .rows (spB r e (tr (padK r e (w, p))) (p) false)⟩)] [0, 1, 4] [] (fr0 := [(0, .ptr 1 0), (1, .p (.v (.int .i64 ((_ : Nat) : Int)))), (4, .p (.v (.slice none 0 0)))]) (O0 := []) rfl rfl ⟨⟨⟨.refl _, rfl⟩, ⟨.refl _, trivial⟩, ⟨.refl _, trivial⟩, trivial⟩, ⟨⟨_, rfl, .inr (ob_rows (by first | rfl | ((try dsimp only); (intro j hj; exact spB_ag _ (fun j hj => rfl) j))) (by first | rfl | ((try dsimp only); (intro j hj; exact spB_ag _ (fun j hj => rfl) j)))), trivial⟩, trivial⟩⟩ ?_
   show HT _ _ _ _ _
   refine HT.region S_rkread_ok (So.q rfl rfl (V.mv (v := .ptr 1 0) rfl (So.q rfl rfl (V.ncPtr rfl (So.q rfl rfl (V.faPtr ty86 rfl ty3 (lk rfl) rfl rfl (lk rfl) (So.s (A.sto ty3 rfl rfl rfl (v := .p (.v (.int .i64 _))) rfl rfl rfl (lk rfl) (c' := .rows (spB r e (tr (padK r e (w, p))) 0 false)) (congrArg (fun g => some (OC.rows g)) (funext fun j => by exact spB_at rfl j)) rfl (So.e (HT.region S_rkread_ok (So.q rfl rfl (V.mv (v := .ptr 1 0) rfl (So.q rfl rfl (V.ncPtr rfl (So.q rfl rfl (V.faPtr ty86 rfl ty4 (lk rfl) rfl rfl (lk rfl) ?_))))))))))))))))
   refine So.s (A.sto ty4 rfl rfl rfl (v := .p (.v (.bool true))) rfl rfl rfl (lk rfl) (c' := .rows (spB r e (tr (padK r e (w, p))) 0 true)) (congrArg (fun g => some (OC.rows g)) (funext fun j => by exact spB_gv j)) rfl (So.e (HT.seq (HT.region S_rkread_ok (So.q rfl rfl (V.as (v := .p (.v (.slice none 0 0))) rfl (So.e (HT.seq (HT.seq (HT.region S_rkread_ok (So.q rfl rfl (V.as (v := .p (.v (.int .i64 (0)))) rfl ?_))))))))))))
   refine So.e (HT.block ?_)
   refine R.phan 5 2 5 1 (.bs []) rfl rfl rfl ⟨rfl, rfl⟩ ?_
   refine R.loop (σ := Nat) (fun s => [(6, .p (.v (.int .i64 ((s : Int))))), (5, .own 2 (0) (s))]) (fun s => [(1, ⟨86, 1, 29, true, .rows (spB r e (tr (gvN r (padK r e (w, p)) s).1) ((gvN r (padK r e (w, p)) s).2) true)⟩), (2, ⟨5, 1, s, true, .bs (gvL r (padK r e (w, p)) s)⟩)]) [0, 1, 4] [] (fun s => s ≤ m) (fun s => m - s) (0) (fr0 := [(0, .ptr 1 0), (1, .p (.v (.int .i64 ((_ : Nat) : Int)))), (4, .p (.v (.slice none 0 0)))]) (O0 := []) rfl rfl (by first | rfl | omega | (show _ < 29; omega) | (show _ ≤ 29; omega) | (intro j hj; rfl) | (simp; done) | (simp; omega)) ⟨⟨⟨le_int (by first | rfl | omega | (intro j hj; rfl) | (simp; done)), trivial⟩, ⟨le_own2 (by first | rfl | omega) (by first | rfl | omega | (intro j hj; rfl) | (simp; done)), rfl⟩, ⟨.refl _, rfl⟩, ⟨.refl _, trivial⟩, ⟨.refl _, trivial⟩, trivial⟩, ⟨⟨_, rfl, .inr (ob_rows (by first | rfl | ((try dsimp only); first | rfl | omega | (intro j hj; rfl) | (simp; done))) (by first | rfl | ((try dsimp only); first | rfl | omega | (intro j hj; rfl) | (simp; done)))), trivial⟩, ⟨_, rfl, .inl (ob_bs (by first | rfl | ((try dsimp only); first | rfl | omega | (intro j hj; rfl) | (simp; done))) (by first | rfl | ((try dsimp only); first | rfl | omega | (intro j hj; rfl) | (simp; done)))), trivial⟩, trivial⟩⟩ (fun s hP0 => ?_)
   refine HT.seq (HT.seq (HT.region S_rkread_ok (So.q rfl rfl (V.mv (v := .p (.v (.int .i64 ((_ : Nat) : Int)))) rfl (So.q rfl rfl (V.mv (v := .p (.v (.int .i64 ((_ : Nat) : Int)))) rfl (So.q rfl rfl (V.bin (a := (.v (.int .i64 ((_ : Nat) : Int)))) (b := (.v (.int .i64 ((_ : Nat) : Int)))) (r := .v (.bool _)) rfl rfl rfl trivial (So.e ?_)))))))))
   show HT _ _ _ _ _
   refine R.cond rfl rfl (fun h6 => ?_) (fun h6 => ?_)
   ·have h6 := of_decide_eq_true h6
    refine HT.skip (HT.seq (HT.block ?_))
    refine R.cut (True) [] [(1, ⟨86, 1, 29, true, .rows (spB r e (tr (gvT r (gvN r (padK r e (w, p)) s)).1) ((gvT r (gvN r (padK r e (w, p)) s)).2) true)⟩)] [0, 1, 4, 5, 6] [2] (fr0 := [(0, .ptr 1 0), (1, .p (.v (.int .i64 ((_ : Nat) : Int)))), (4, .p (.v (.slice none 0 0))), (5, .own 2 0 _), (6, .p (.v (.int .i64 ((_ : Nat) : Int))))]) (O0 := [(2, ⟨_, _, _, _, .bs _⟩)]) rfl rfl ?_ (fun hphi => ?_)
    ·refine HT.seq ?_
     refine HT.drawn S_rkread_ok S_rkread_det mixed (by kernel_rfl) ?_
     have hgn := gvN_le r (padK r e (w, p)) (by omega) s
     refine Sd.n (lk rfl) (V.mv (v := .ptr 1 0) rfl (Sd.n (lk rfl) (V.ncPtr rfl (Sd.n (lk rfl) (V.faPtr ty86 rfl ty3 (lk rfl) rfl rfl (lk rfl) (Sd.n (lk rfl) (V.ldPtr ty3 rfl rfl rfl (lk rfl) (v := .p (.v (.int .i64 _))) rfl (Sd.n (lk rfl) (V.mv (v := .ptr 1 0) rfl (Sd.n (lk rfl) (V.ncPtr rfl (Sd.n (lk rfl) (V.faPtr ty86 rfl ty3 (lk rfl) rfl rfl (lk rfl) (Sd.n (lk rfl) (V.ldPtr ty3 rfl rfl rfl (lk rfl) (v := .p (.v (.int .i64 _))) rfl (Sd.n (lk rfl) (V.bin (a := (.v (.int .i64 _))) (b := (.v (.int .i64 _))) (r := .v (.bool _)) rfl rfl rfl trivial (Sd.e ?_))))))))))))))))))
     show HT _ _ _ _ _
     refine R.cond rfl rfl (fun h7 => ?_) (fun h7 => ?_)
     ·have h7 := of_decide_eq_true h7
      refine HT.seq (HT.region S_rkread_ok (So.q rfl rfl (V.mv (v := .ptr 1 0) rfl (So.q rfl rfl (V.mv (v := .ptr 1 0) rfl (So.q rfl rfl (V.ncPtr rfl (So.q rfl rfl (V.faPtr ty86 rfl ty84 (lk rfl) rfl rfl (lk rfl) (So.q rfl rfl (V.ldPtrA ty84 rfl rfl rfl rfl (lk rfl) ?_)))))))))))
      refine So.n (lk rfl) (A.call0 [.agg 25 _] 3 rfl rfl rfl rfl ⟨trivial, trivial⟩ ⟨lk rfl, trivial⟩ (gvN r (padK r e (w, p)) s).1 ⟨le_agg (fun j hj => spB_w (i := j) rfl hj), trivial⟩ trivial (by trivial) (Φ := fun _ => True) (fun _ _ => trivial) (.inl rfl) (v := .agg 25 _) rfl (O' := _) rfl (fun h8 => ?_))
      refine So.q rfl rfl (V.ncPtr rfl (So.q rfl rfl (V.faPtr ty86 rfl ty84 (lk rfl) rfl rfl (lk rfl) (So.s (A.stoAgP ty84 rfl (n := 25) rfl (by decide) (by intro j hj; first | rfl | trivial) rfl (lk rfl) rfl (So.e ?_))))))
      show HT _ _ _ _ _
      refine R.tell [] [(1, ⟨86, 1, 29, true, .rows (spB r e (tr (kf (gvN r (padK r e (w, p)) s).1)) ((gvN r (padK r e (w, p)) s).2) true)⟩)] [0, 1, 4, 5, 6] [2] (fr0 := [(0, .ptr 1 0), (1, .p (.v (.int .i64 ((_ : Nat) : Int)))), (4, .p (.v (.slice none 0 0))), (5, .own 2 0 _), (6, .p (.v (.int .i64 ((_ : Nat) : Int))))]) (O0 := [(2, ⟨_, _, _, _, .bs _⟩)]) rfl rfl ⟨⟨⟨.refl _, rfl⟩, ⟨.refl _, trivial⟩, ⟨.refl _, trivial⟩, ⟨.refl _, rfl⟩, ⟨.refl _, trivial⟩, trivial⟩, ⟨⟨_, rfl, .inr (ob_rows (by first | rfl | ((try dsimp only); (intro j hj; exact spB_ag _ (fun j hj => rfl) j))) (by first | rfl | ((try dsimp only); (intro j hj; exact spB_ag _ (fun j hj => rfl) j)))), trivial⟩, ⟨_, rfl, .inl rfl, trivial⟩, trivial⟩⟩ ?_
      show HT _ _ _ _ _
      refine HT.region S_rkread_ok (So.q rfl rfl (V.mv (v := .ptr 1 0) rfl (So.q rfl rfl (V.ncPtr rfl (So.q rfl rfl (V.faPtr ty86 rfl ty3 (lk rfl) rfl rfl (lk rfl) (So.s (A.sto ty3 rfl rfl rfl (v := .p (.v (.int .i64 _))) rfl rfl rfl (lk rfl) (c' := .rows (spB r e (tr (kf (gvN r (padK r e (w, p)) s).1)) 0 true)) (congrArg (fun g => some (OC.rows g)) (funext fun j => by exact spB_at rfl j)) rfl (So.e ?_)))))))))
      exact ⟨by first | trivial | rfl | (intro j hj; unfold gvT; first | rw [if_pos (by omega)] | rw [if_neg (by omega)]), ⟨⟨⟨.refl _, rfl⟩, ⟨.refl _, trivial⟩, ⟨.refl _, trivial⟩, ⟨.refl _, rfl⟩, ⟨.refl _, trivial⟩, trivial⟩, ⟨⟨_, rfl, .inr (ob_rows (by first | rfl | ((try dsimp only); first | trivial | rfl | (intro j hj; unfold gvT; first | rw [if_pos (by omega)] | rw [if_neg (by omega)]))) (by first | rfl | ((try dsimp only); first | trivial | rfl | (intro j hj; unfold gvT; first | rw [if_pos (by omega)] | rw [if_neg (by omega)])))), trivial⟩, ⟨_, rfl, .inl rfl, trivial⟩, trivial⟩⟩⟩
     ·have h7 := of_decide_eq_false h7
      refine HT.skip ?_
      exact ⟨by first | trivial | rfl | (intro j hj; unfold gvT; first | rw [if_pos (by omega)] | rw [if_neg (by omega)]), ⟨⟨⟨.refl _, rfl⟩, ⟨.refl _, trivial⟩, ⟨.refl _, trivial⟩, ⟨.refl _, rfl⟩, ⟨.refl _, trivial⟩, trivial⟩, ⟨⟨_, rfl, .inr (ob_rows (by first | rfl | ((try dsimp only); first | trivial | rfl | (intro j hj; unfold gvT; first | rw [if_pos (by omega)] | rw [if_neg (by omega)]))) (by first | rfl | ((try dsimp only); first | trivial | rfl | (intro j hj; unfold gvT; first | rw [if_pos (by omega)] | rw [if_neg (by omega)])))), trivial⟩, ⟨_, rfl, .inl rfl, trivial⟩, trivial⟩⟩⟩
    ·refine HT.seq ?_
     refine HT.region S_rkread_ok ?_
     have hgn := gvN_le r (padK r e (w, p)) (by omega) s
     have hgt := gvT_lt r (gvN r (padK r e (w, p)) s) (by omega) hgn
     refine So.q rfl rfl (V.mv (v := .ptr 1 0) rfl (So.q rfl rfl (V.ncPtr rfl (So.q rfl rfl (V.faPtr ty86 rfl ty3 (lk rfl) rfl rfl (lk rfl) (So.q rfl rfl (V.ldPtr ty3 rfl rfl rfl (lk rfl) (v := .p (.v (.int .i64 _))) rfl (So.q rfl rfl (V.quoI rfl rfl (by omega) (So.q rfl rfl (V.as (v := .p (.v (.int .i64 _))) rfl (So.e (HT.seq ?_)))))))))))))
     refine HT.planS S_rkread_ok S_rkread_det mixed [21] [⟨[0, 1, 2, 3, 4, 5, 6, 7, 8, 9, 10, 11, 12, 13, 14, 15, 16, 17, 18], 19, [0]⟩, ⟨[0], 20, []⟩] (by kernel_rfl) ?_
     refine Pl.lk ?_
     refine Si.n rfl (lk rfl) (V.mv (v := .own 2 0 _) rfl (Si.n rfl (lk rfl) (V.mv (v := .ptr 1 0) rfl (Si.n rfl (lk rfl) (V.mv (v := .p (.v (.int .i64 _))) rfl (Si.n rfl (lk rfl) (V.remI rfl rfl (by omega) (Si.n rfl (lk rfl) (V.mv (v := .p (.v (.int .i64 _))) rfl (Si.n rfl (lk rfl) (V.quoI rfl rfl (by omega) (Si.n rfl (lk rfl) (V.ncPtr rfl (Si.n rfl (lk rfl) (V.faPtr ty86 rfl ty84 (lk rfl) rfl rfl (lk rfl) (Si.n rfl (lk rfl) (V.ixArrPS (mi := (gvT r (gvN r (padK r e (w, p)) s)).2 / 8 % 5) (s := 5) ty84 ty83 rfl rfl rfl (by first | rfl | omega | (show _ < 29; omega) | (show _ ≤ 29; omega) | (intro j hj; rfl) | (simp; done) | (simp; omega)) rfl (by omega) (by omega) (Si.n rfl (lk rfl) (V.ixArrP1 (mi := (gvT r (gvN r (padK r e (w, p)) s)).2 / 8 / 5) ty83 ty66 rfl rfl rfl (by first | rfl | omega | (show _ < 29; omega) | (show _ ≤ 29; omega) | (intro j hj; rfl) | (simp; done) | (simp; omega)) rfl (by omega) (by omega) ?_)))))))))))))))))))
     refine Si.n rfl (lk rfl) (V.ldPtr ty66 rfl rfl rfl (by first | rfl | omega | (show _ < 29; omega) | (show _ ≤ 29; omega) | (intro j hj; rfl) | (simp; done) | (simp; omega)) (v := .p (.u64 ((gvT r (gvN r (padK r e (w, p)) s)).1 ((gvT r (gvN r (padK r e (w, p)) s)).2 / 8)))) (by first | exact (congrArg BV.p (spB_w (i := (gvT r (gvN r (padK r e (w, p)) s)).2 / 8 % 5 * 5 + (gvT r (gvN r (padK r e (w, p)) s)).2 / 8 / 5) (by omega) (by omega))).trans (by rw [tr_at (by omega)]) | exact congrArg BV.p (spB_w (i := (gvT r (gvN r (padK r e (w, p)) s)).2 / 8 % 5 * 5 + (gvT r (gvN r (padK r e (w, p)) s)).2 / 8 / 5) (by omega) (by omega))) (Si.n rfl (lk rfl) (V.mv (v := .ptr 1 0) rfl (Si.n rfl (lk rfl) (V.ncPtr rfl (Si.n rfl (lk rfl) (V.faPtr ty86 rfl ty3 (lk rfl) rfl rfl (lk rfl) (Si.n rfl (lk rfl) (V.ldPtr ty3 rfl rfl rfl (lk rfl) (v := .p (.v (.int .i64 _))) rfl (Si.n rfl (lk rfl) (V.remI rfl rfl (by omega) (Si.n rfl (lk rfl) (V.mulI rfl rfl (by omega) (Si.n rfl (lk rfl) (V.bin (a := (.u64 _)) (b := (.v (.int .i64 _))) (r := .u64 _) rfl rfl rfl (by first | rfl | omega | (show _ < 29; omega) | (show _ ≤ 29; omega) | (intro j hj; rfl) | (simp; done) | (simp; omega)) (Si.n rfl (lk rfl) (V.cvN ty5 ty66 (a := (.u64 _)) (r := (.u8 _)) rfl rfl (Si.e ?_))))))))))))))))))
     refine ⟨flEq_nil, fun ff => ?_⟩
     refine Lo.n rfl (lk rfl) (A.bsl 3 ty22 ty5 rfl (lk rfl) (lk rfl) (fun _ => rfl) rfl rfl ⟨lk rfl, trivial⟩ ⟨trivial, trivial⟩ rfl (N := 1) rfl (c := .bs [_]) rfl ?_)
     refine ⟨_, fun ff => ff, ap0d, rfl, FG.id, ?_⟩
     show planA _ _ _ _ _ [(0, .own 2 0 _)] _ _ _
     refine Pl.l0 ?_
     refine Si.n rfl (lk rfl) (V.mv (v := .own 2 0 _) rfl (Si.e ?_))
     refine ⟨(flEq_cons rfl flEq_nil), ?_⟩
     refine Lo.n rfl (lk rfl) (A.apOwn ty22 ty5 rfl rfl rfl rfl (u := .own 3 0 _) rfl rfl (l' := gvL r (padK r e (w, p)) (s + 1)) (by rw [ap_full (by rw [gvL_len]; exact Nat.le_refl _)]; show _ ++ [_] = _ ++ [gvB r (padK r e (w, p)) s]; unfold gvB; rw [show (8 * ((((gvT r (gvN r (padK r e (w, p)) s)).2 : Nat) : Int) % 8)).toNat = (gvT r (gvN r (padK r e (w, p)) s)).2 % 8 * 8 by omega]) (mn := s + 1) (by rfl) (by first | rfl | omega | (show _ < 29; omega) | (show _ ≤ 29; omega) | (intro j hj; rfl) | (simp; done) | (simp; omega)) rfl rfl rfl ?_)
     refine Pl.e ?_
     refine Si.n rfl (lk rfl) (V.as (v := .own 2 0 _) rfl (Si.e ?_))
     refine ⟨flEq_nil, ?_⟩
     show HT _ _ _ _ _
     refine HT.region S_rkread_ok (So.q rfl rfl (V.mv (v := .ptr 1 0) rfl (So.q rfl rfl (V.ncPtr rfl (So.q rfl rfl (V.faPtr ty86 rfl ty3 (lk rfl) rfl rfl (lk rfl) (So.q rfl rfl (V.ldPtr ty3 rfl rfl rfl (lk rfl) (v := .p (.v (.int .i64 _))) rfl (So.q rfl rfl (V.addI rfl rfl (by omega) (So.q rfl rfl (V.ncPtr rfl (So.q rfl rfl (V.faPtr ty86 rfl ty3 (lk rfl) rfl rfl (lk rfl) (So.s (A.sto ty3 rfl rfl rfl (v := .p (.v (.int .i64 _))) rfl rfl rfl (lk rfl) (c' := .rows (spB r e (tr (gvT r (gvN r (padK r e (w, p)) s)).1) ((gvT r (gvN r (padK r e (w, p)) s)).2 + 1) true)) (congrArg (fun g => some (OC.rows g)) (funext fun j => by exact spB_at (by omega) j)) rfl (So.e ?_)))))))))))))))))
     show HT _ _ _ _ _
     refine HT.region S_rkread_ok (So.q rfl rfl (V.mv (v := .p (.v (.int .i64 ((_ : Nat) : Int)))) rfl (So.q rfl rfl (V.addI rfl rfl (by omega) (So.q rfl rfl (V.as (v := .p (.v (.int .i64 _))) rfl (So.e ?_)))))))
     refine ⟨s + 1, by first | rfl | omega | (show _ < 29; omega) | (show _ ≤ 29; omega) | (intro j hj; rfl) | (simp; done) | (simp; omega), by omega, ⟨⟨⟨le_int (by first | rfl | omega | (show _ < 29; omega) | (show _ ≤ 29; omega) | (intro j hj; rfl) | (simp; done) | (simp; omega)), trivial⟩, ⟨le_own2 (by first | rfl | omega) (by first | rfl | omega | (show _ < 29; omega) | (show _ ≤ 29; omega) | (intro j hj; rfl) | (simp; done) | (simp; omega)), rfl⟩, ⟨.refl _, rfl⟩, ⟨.refl _, trivial⟩, ⟨.refl _, trivial⟩, trivial⟩, ⟨⟨_, rfl, .inr (ob_rows (by first | rfl | ((try dsimp only); first | rfl | omega | (show _ < 29; omega) | (show _ ≤ 29; omega) | (intro j hj; rfl) | (simp; done) | (simp; omega))) (by first | rfl | ((try dsimp only); first | rfl | omega | (show _ < 29; omega) | (show _ ≤ 29; omega) | (intro j hj; rfl) | (simp; done) | (simp; omega)))), trivial⟩, ⟨_, rfl, .inl (ob_bs (by first | rfl | ((try dsimp only); first | rfl | omega | (show _ < 29; omega) | (show _ ≤ 29; omega) | (intro j hj; rfl) | (simp; done) | (simp; omega))) (by first | rfl | ((try dsimp only); first | rfl | omega | (show _ < 29; omega) | (show _ ≤ 29; omega) | (intro j hj; rfl) | (simp; done) | (simp; omega)))), trivial⟩, trivial⟩⟩⟩
   ·have h6 := of_decide_eq_false h6
    refine HT.exit ?_
    show HT _ _ _ _ _
    refine HT.seq (HT.region S_rkread_ok (So.q rfl rfl (V.mv (v := .own 2 0 _) rfl (So.q rfl rfl (V.as (v := .own 2 0 _) rfl (So.e ?_))))))
    show HT _ _ _ _ _
    refine HT.ret ?_
    exact ret_ok (sg [(1, 1), (2, 2)]) h rfl rfl rfl ⟨trivial, trivial, trivial⟩ ⟨rfl, trivial⟩ rfl ⟨⟨⟨le_own2 (by first | rfl | omega) (by first | rfl | (replace hP0 : s = m := (by omega); subst hP0; first | rfl | (intro j hj; rfl))), rfl⟩, trivial⟩, ⟨⟨_, rfl, .inr (ob_rows (by first | rfl | ((try dsimp only); (first | rfl | (replace hP0 : s = m := (by omega); subst hP0; first | rfl | (intro j hj; rfl))))) (by first | rfl | ((try dsimp only); (first | rfl | (replace hP0 : s = m := (by omega); subst hP0; first | rfl | (intro j hj; rfl)))))), trivial⟩, ⟨_, rfl, .inl (ob_bs (by first | rfl | ((try dsimp only); (first | rfl | (replace hP0 : s = m := (by omega); subst hP0; first | rfl | (intro j hj; rfl))))) (by first | rfl | ((try dsimp only); (first | rfl | (replace hP0 : s = m := (by omega); subst hP0; first | rfl | (intro j hj; rfl)))))), trivial⟩, trivial⟩⟩
 ·have h1 := of_decide_eq_true h1
  refine So.gn (b := true) rfl rfl rfl (lk rfl) (lk rfl) (So.q rfl rfl (V.pkTrue (u := .p (.v (.bool true))) rfl rfl (So.e ?_)))
  show HT _ _ _ _ _
  refine R.condT rfl ?_
  refine HT.seq ?_
  exfalso; omega
end Go.Vh

set_option linter.unusedVariables false
set_option linter.unusedSimpArgs false
namespace Go.Vh
open Go Go.Vc Go.Proofs Go.Vw
def rkofSp : Sp := ⟨[], mkE (α := Nat × UInt8 × (List UInt8) × Nat) (fun (r, e, b, m) => [.p (.v (.int .i64 ((r : Int)))), .p (.u8 (e)), .p (.bs (b)), .p (.v (.int .i64 ((m : Int))))]) (fun (r, e, b, m) => []) (fun (r, e, b, m) => 8 ≤ r ∧ r ≤ 192 ∧ r % 8 = 0 ∧ m ≤ 65536) (fun (r, e, b, m) => [.own 2 (0) (m)]) (fun (r, e, b, m) => [(2, ⟨5, 1, m, true, .bs (spg r e b m)⟩)])⟩
def S_rkof : FuncId → Option Sp := fun f => if f = 49 then some rknewSp else if f = 50 then some rkwriteSp else if f = 51 then some rkreadSp else none
theorem S_rkof_ok : ∀ f s, S_rkof f = some s → FOK Tryd.prog gl f s := fun f s h => by
 unfold S_rkof at h
 split at h
 ·rename_i e; cases h; subst e; exact rknew_ok
 split at h
 ·rename_i e; cases h; subst e; exact rkwrite_ok
 split at h
 ·rename_i e; cases h; subst e; exact rkread_ok
 cases h
set_option maxHeartbeats 1000000 in
set_option maxRecDepth 20000 in
theorem rkof_ok : FOK Tryd.prog gl 36 rkofSp := by
 refine FOK.ofE (tyOf_ok Tryd.prog) (slots := [8]) (nt := 19) Tryd.func36 rfl rfl rfl rfl (by decide) 4 (fun ⟨_, _, _, _⟩ => rfl) (by decide) (fun ⟨_, _, _, _⟩ => ⟨trivial, trivial, trivial, trivial, trivial⟩) ?_
 rintro ⟨r, e, b, m⟩ kk hlen hpre h
 have hl2 : (b).length ≤ 9223372036854775807 := hlen.2.2.1
 replace hpre : 8 ≤ r ∧ r ≤ 192 ∧ r % 8 = 0 ∧ m ≤ 65536 := hpre
 show HT (cx Tryd.prog 19 (tyOf Tryd.prog) gl []) _ [(0, .p (.v (.int .i64 ((r : Int))))), (1, .p (.u8 (e))), (2, .p (.bs (b))), (3, .p (.v (.int .i64 ((m : Int)))))] [] _
 have hwr := wrN_le r b (by omega) b.length
 refine HT.seq (HT.region S_rkof_ok (So.q rfl rfl (V.as (v := .p (.v (.slice none 0 0))) rfl (So.e (HT.seq (HT.region S_rkof_ok (So.q rfl rfl (V.mv (v := .p (.v (.int .i64 ((_ : Nat) : Int)))) rfl (So.q rfl rfl (V.mv (v := .p (.u8 _)) rfl ?_))))))))))
 refine So.n (lk rfl) (A.call0 [.p (.v (.int .i64 ((_ : Nat) : Int))), .p (.u8 _)] 1 rfl rfl rfl rfl ⟨trivial, trivial, trivial⟩ trivial (r, e) ⟨.refl _, .refl _, trivial⟩ trivial (by first | omega | (simp only [List.drop_zero, List.take_length]; omega) | (simp; done) | (simp; omega)) (Φ := fun _ => True) (fun _ _ => trivial) (.inl rfl) (v := .ptr 2 0) rfl (O' := (2, ⟨86, 1, _, true, .rows _⟩) :: _) rfl (fun h1 => ?_))
 refine So.q rfl rfl (V.as (v := .ptr 2 0) rfl (So.e (HT.seq (HT.region S_rkof_ok (So.q rfl rfl (V.mv (v := .ptr 2 0) rfl (So.q rfl rfl (V.mv (v := .p (.bs _)) rfl ?_))))))))
 refine So.n (lk rfl) (A.call [.ptr 1 _, .p (.bs _)] [(1, ⟨_, _, _, _, .rows _⟩)] (sg [(1, 2)]) 3 rfl rfl rfl rfl ⟨rfl, trivial⟩ rfl ⟨trivial, trivial⟩ ⟨rfl, trivial, trivial⟩ trivial rfl (r, e, b) ⟨.refl _, .refl _, trivial⟩ ⟨⟨_, rfl, .inl rfl, trivial⟩, trivial⟩ (by first | omega | (simp only [List.drop_zero, List.take_length]; omega) | (simp; done) | (simp; omega)) (Φ := fun _ => True) (fun _ _ => trivial) ⟨⟨_, _, rfl, rfl, rfl, Nat.le_refl _⟩, trivial⟩ (.inl rfl) rfl (v := .tup 0 _) rfl (O' := (2, ⟨_, _, _, _, .rows _⟩) :: _) rfl (fun h2 => ?_))
 refine So.e (HT.seq (HT.region S_rkof_ok (So.q rfl rfl (V.mv (v := .ptr 2 0) rfl (So.q rfl rfl (V.mv (v := .p (.v (.int .i64 ((_ : Nat) : Int)))) rfl ?_))))))
 refine So.n (lk rfl) (A.call [.ptr 1 _, .p (.v (.int .i64 ((_ : Nat) : Int)))] [(1, ⟨_, _, _, _, .rows _⟩)] (sg [(1, 2)]) 3 rfl rfl rfl rfl ⟨rfl, trivial⟩ rfl ⟨trivial, trivial⟩ ⟨rfl, trivial, trivial⟩ trivial rfl (r, e, (wrN r b b.length).1, (wrN r b b.length).2, m) ⟨.refl _, .refl _, trivial⟩ ⟨⟨_, rfl, .inl rfl, trivial⟩, trivial⟩ (by first | omega | (simp only [List.drop_zero, List.take_length]; omega) | (simp; done) | (simp; omega)) (Φ := fun _ => True) (fun _ _ => trivial) ⟨⟨_, _, rfl, rfl, rfl, Nat.le_refl _⟩, trivial⟩ (.inl rfl) rfl (v := .own 5 0 _) rfl (O' := (2, ⟨_, _, _, _, .rows _⟩) :: (5, ⟨_, _, _, _, .bs _⟩) :: _) rfl (fun h3 => ?_))
 refine So.q rfl rfl (V.as (v := .own 5 0 _) rfl (So.e ?_))
 show HT _ _ _ _ _
 refine HT.ret ?_
 exact ret_ok (sg [(2, 5)]) h rfl rfl rfl ⟨trivial, trivial⟩ ⟨rfl, trivial⟩ rfl ⟨⟨⟨le_own2 (by first | rfl | omega) (by first | rfl), rfl⟩, trivial⟩, ⟨⟨_, rfl, .inl (ob_bs (by first | rfl | ((try dsimp only); (first | rfl))) (by first | rfl | ((try dsimp only); (first | rfl)))), trivial⟩, trivial⟩⟩
def rkshake256Sp : Sp := ⟨[], mkE (α := (List UInt8) × Nat) (fun (b, m) => [.p (.bs (b)), .p (.v (.int .i64 ((m : Int))))]) (fun (b, m) => []) (fun (b, m) => m ≤ 65536) (fun (b, m) => [.own 2 (0) (m)]) (fun (b, m) => [(2, ⟨5, 1, m, true, .bs (spg 136 31 b m)⟩)])⟩
def S_rkshake256 : FuncId → Option Sp := fun f => if f = 36 then some rkofSp else none
theorem S_rkshake256_ok : ∀ f s, S_rkshake256 f = some s → FOK Tryd.prog gl f s := fun f s h => by
 unfold S_rkshake256 at h
 split at h
 ·rename_i e; cases h; subst e; exact rkof_ok
 cases h
set_option maxHeartbeats 1000000 in
set_option maxRecDepth 20000 in
theorem rkshake256_ok : FOK Tryd.prog gl 22 rkshake256Sp := by
 refine FOK.ofE (tyOf_ok Tryd.prog) (slots := [4]) (nt := 8) Tryd.func22 rfl rfl rfl rfl (by decide) 2 (fun ⟨_, _⟩ => rfl) (by decide) (fun ⟨_, _⟩ => ⟨trivial, trivial, trivial⟩) ?_
 rintro ⟨b, m⟩ kk hlen hpre h
 have hl0 : (b).length ≤ 9223372036854775807 := hlen.1
 replace hpre : m ≤ 65536 := hpre
 show HT (cx Tryd.prog 8 (tyOf Tryd.prog) gl []) _ [(0, .p (.bs (b))), (1, .p (.v (.int .i64 ((m : Int)))))] [] _
 refine HT.seq (HT.region S_rkshake256_ok (So.q rfl rfl (V.as (v := .p (.v (.slice none 0 0))) rfl (So.e (HT.seq (HT.region S_rkshake256_ok (So.q rfl rfl (V.mv (v := .p (.bs _)) rfl (So.q rfl rfl (V.mv (v := .p (.v (.int .i64 ((_ : Nat) : Int)))) rfl ?_))))))))))
 refine So.n (lk rfl) (A.call0 [.p (.v (.int .i64 _)), .p (.u8 _), .p (.bs _), .p (.v (.int .i64 ((_ : Nat) : Int)))] 1 rfl rfl rfl rfl ⟨trivial, trivial, trivial, trivial, trivial⟩ trivial (136, 31, b, m) ⟨le_int rfl, .refl _, .refl _, .refl _, trivial⟩ trivial (by first | omega | (simp only [List.drop_zero, List.take_length]; omega) | (simp; done) | (simp; omega)) (Φ := fun _ => True) (fun _ _ => trivial) (.inl rfl) (v := .own 3 0 _) rfl (O' := (3, ⟨5, 1, _, true, .bs _⟩) :: _) rfl (fun h1 => ?_))
 refine So.q rfl rfl (V.as (v := .own 3 0 _) rfl (So.e ?_))
 show HT _ _ _ _ _
 refine HT.ret ?_
 exact ret_ok (sg [(2, 3)]) h rfl rfl rfl ⟨trivial, trivial⟩ ⟨rfl, trivial⟩ rfl ⟨⟨⟨le_own2 (by first | rfl | omega) (by first | rfl), rfl⟩, trivial⟩, ⟨⟨_, rfl, .inl (ob_bs (by first | rfl | ((try dsimp only); (first | rfl))) (by first | rfl | ((try dsimp only); (first | rfl)))), trivial⟩, trivial⟩⟩
end Go.Vh

set_option linter.unusedVariables false
set_option linter.unusedSimpArgs false
namespace Go.Vh
open Go Go.Vc Go.Proofs Go.Vw
def rinfoSp : Sp := ⟨[], mkE (α := (List UInt8) × (List UInt8) × Int) (fun (m, c, n) => [.p (.str (m)), .p (.bs (c)), .p (.v (.int .i64 (n)))]) (fun (m, c, n) => []) (fun (m, c, n) => True) (fun (m, c, n) => [.own 2 (0) ((infoF m c n).length)]) (fun (m, c, n) => [(2, ⟨5, 1, (infoF m c n).length, true, .bs (infoF m c n)⟩)])⟩
def S_rinfo : FuncId → Option Sp := fun f => if f = 52 then some rlongSp else none
theorem S_rinfo_ok : ∀ f s, S_rinfo f = some s → FOK Tryd.prog gl f s := fun f s h => by
 unfold S_rinfo at h
 split at h
 ·rename_i e; cases h; subst e; exact rlong_ok
 cases h
set_option maxHeartbeats 1000000 in
set_option maxRecDepth 20000 in
theorem rinfo_ok : FOK Tryd.prog gl 37 rinfoSp := by
 refine FOK.ofE (tyOf_ok Tryd.prog) (slots := [6]) (nt := 40) Tryd.func37 rfl rfl rfl rfl (by decide) 3 (fun ⟨_, _, _⟩ => rfl) (by decide) (fun ⟨_, _, _⟩ => ⟨trivial, trivial, trivial, trivial⟩) ?_
 rintro ⟨m, c, n⟩ kk hlen hpre h
 have hl1 : (c).length ≤ 9223372036854775807 := hlen.2.1
 replace hpre : True := hpre
 show HT (cx Tryd.prog 40 (tyOf Tryd.prog) gl []) _ [(0, .p (.str (m))), (1, .p (.bs (c))), (2, .p (.v (.int .i64 (n))))] [] _
 have hl1 := longF_len (lbl ++ m)
 have hl2 := longF_len c
 have hl3 : (lbl ++ m).length = 8 + m.length := by rw [List.length_append]; rfl
 refine HT.seq (HT.region S_rinfo_ok (So.q rfl rfl (V.as (v := .p (.v (.slice none 0 0))) rfl (So.e (HT.seq (HT.seq (HT.region S_rinfo_ok (So.q rfl rfl (V.mv (v := .p (.v (.int .i64 _))) rfl (So.q rfl rfl (V.bin (a := (.v (.int .i64 _))) (b := (.v (.int .i64 (0)))) (r := .v (.bool _)) rfl rfl rfl trivial (So.q rfl rfl (V.mv (v := .p (.v (.bool _))) rfl ?_)))))))))))))
 refine So.gd rfl rfl (lk rfl) (lk rfl) (fun h1 => ?_) (fun h1 => ?_)
 ·have h1 := of_decide_eq_false h1
  refine A.v rfl (V.mv (v := .p (.v (.int .i64 _))) rfl (So.gy rfl rfl (lk rfl) (lk rfl) (A.v rfl (V.bin (a := (.v (.int .i64 _))) (b := (.v (.int .i64 (8160)))) (r := .v (.bool _)) rfl rfl rfl trivial (So.q rfl rfl (V.pkFalse (u := .p (.v (.bool _))) rfl rfl (So.q rfl rfl (V.mv (v := .p (.v (.bool _))) rfl ?_))))))))
  refine So.gd rfl rfl (lk rfl) (lk rfl) (fun h2 => ?_) (fun h2 => ?_)
  ·have h2 := of_decide_eq_false h2
   refine A.v rfl (V.mv (v := .p (.str _)) rfl (So.gy rfl rfl (lk rfl) (lk rfl) (A.v rfl (V.lenStr ty9 rfl (So.gy rfl rfl (lk rfl) (lk rfl) (A.v rfl (V.bin (a := (.v (.int .i64 _))) (b := (.v (.int .i64 (40)))) (r := .v (.bool _)) rfl rfl rfl trivial (So.q rfl rfl (V.pkFalse (u := .p (.v (.bool _))) rfl rfl (So.q rfl rfl (V.mv (v := .p (.v (.bool _))) rfl ?_)))))))))))
   refine So.gd rfl rfl (lk rfl) (lk rfl) (fun h3 => ?_) (fun h3 => ?_)
   ·have h3 := of_decide_eq_false h3
    refine A.v rfl (V.mv (v := .p (.bs _)) rfl (So.gy rfl rfl (lk rfl) (lk rfl) (A.v rfl (V.len ty22 (v := .p (.bs _)) rfl rfl (So.gy rfl rfl (lk rfl) (lk rfl) (A.v rfl (V.bin (a := (.v (.int .i64 _))) (b := (.v (.int .i64 (16000)))) (r := .v (.bool _)) rfl rfl rfl trivial (So.q rfl rfl (V.pkFalse (u := .p (.v (.bool _))) rfl rfl (So.e ?_))))))))))
    show HT _ _ _ _ _
    refine R.cond rfl rfl (fun h4 => ?_) (fun h4 => ?_)
    ·have h4 := of_decide_eq_true h4
     refine HT.seq (HT.region S_rinfo_ok (So.q rfl rfl (V.as (v := .p (.v (.slice none 0 0))) rfl (So.e ?_))))
     show HT _ _ _ _ _
     refine R.phan 6 1 5 1 (.bs []) rfl rfl rfl ⟨rfl, rfl⟩ ?_
     refine HT.ret ?_
     exact ret_ok (sg [(2, 1)]) h rfl rfl rfl ⟨trivial, trivial⟩ ⟨rfl, trivial⟩ rfl ⟨⟨⟨le_own2 (by first | rfl | omega) (by first | (show (_ : Nat) = _; first | (rw [infoF_no (by omega)]; rfl) | (rw [infoF_yes (by omega)]; unfold infoG; simp; omega)) | (show (_ : List UInt8) = _; first | (rw [infoF_no (by omega)]; done) | (rw [infoF_yes (by omega)]; done)) | rfl), rfl⟩, trivial⟩, ⟨⟨_, rfl, .inl (ob_bs (by first | rfl | ((try dsimp only); (first | (show (_ : Nat) = _; first | (rw [infoF_no (by omega)]; rfl) | (rw [infoF_yes (by omega)]; unfold infoG; simp; omega)) | (show (_ : List UInt8) = _; first | (rw [infoF_no (by omega)]; done) | (rw [infoF_yes (by omega)]; done)) | rfl))) (by first | rfl | ((try dsimp only); (first | (show (_ : Nat) = _; first | (rw [infoF_no (by omega)]; rfl) | (rw [infoF_yes (by omega)]; unfold infoG; simp; omega)) | (show (_ : List UInt8) = _; first | (rw [infoF_no (by omega)]; done) | (rw [infoF_yes (by omega)]; done)) | rfl)))), trivial⟩, trivial⟩⟩
    ·have h4 := of_decide_eq_false h4
     refine HT.skip (HT.seq (HT.region S_rinfo_ok (So.q rfl rfl (V.mv (v := .p (.v (.int .i64 _))) rfl (So.q rfl rfl (V.shrI (n := 8) (M := 256) rfl rfl rfl (by decide) (So.q rfl rfl (V.cvN ty5 ty3 (a := (.v (.int .i64 _))) (r := (.u8 _)) rfl rfl (So.q rfl rfl (V.mv (v := .p (.v (.int .i64 _))) rfl (So.q rfl rfl (V.cvN ty5 ty3 (a := (.v (.int .i64 _))) (r := (.u8 _)) rfl rfl (So.n (lk rfl) (A.bsl 1 ty22 ty5 rfl (lk rfl) (lk rfl) (fun _ => rfl) rfl rfl trivial ⟨trivial, trivial, trivial⟩ rfl (N := 2) rfl (c := .bs [_, _]) rfl (So.q rfl rfl (V.as (v := .own 1 0 _) rfl ?_))))))))))))))))
     refine So.e (HT.seq (HT.region S_rinfo_ok (So.q rfl rfl (V.mv (v := .own 1 0 _) rfl (So.q rfl rfl (V.mv (v := .p (.str _)) rfl (So.q rfl rfl (V.bin (a := (.str [71, 75, 65, 32, 49, 46, 48, 32])) (b := (.str _)) (r := .str _) rfl rfl rfl (by first | rfl | omega | (simp; done) | (simp; omega) | (simp [maxLen]; omega)) (So.n (lk rfl) (A.cvS 2 ty22 ty5 ty9 rfl rfl (by first | rfl | omega | (simp; done) | (simp; omega) | (simp [maxLen]; omega)) rfl trivial ?_))))))))))
     refine So.n (lk rfl) (A.call0 [.p (.bs _)] 3 rfl rfl rfl rfl ⟨trivial, trivial⟩ trivial (lbl ++ m) ⟨le_bs (by rw [take_full]; rfl), trivial⟩ trivial (by first | omega | (simp; done) | (simp; omega)) (Φ := fun _ => True) (fun _ _ => trivial) (.inr ⟨trivial, by simp [Hp.scal, OC.scal, PV.scal, BV.scal]⟩) (v := .own 5 0 _) rfl (O' := (5, ⟨5, 1, _, true, .bs _⟩) :: _) rfl (fun h5 => ?_))
     refine So.n (lk rfl) (A.apOwn ty22 ty5 rfl rfl rfl rfl (u := .own 5 0 _) rfl rfl (l' := [UInt8.ofInt (n / 256), UInt8.ofInt n] ++ longF (lbl ++ m)) (by first | rfl | simp) (mn := 2 + (longF (lbl ++ m)).length) (by first | rfl | simp) (by first | rfl | omega | (simp; done) | (simp; omega) | (simp [maxLen]; omega)) rfl rfl rfl (So.q rfl rfl (V.as (v := .own 1 0 _) rfl (So.e (HT.seq (HT.region S_rinfo_ok (So.q rfl rfl (V.mv (v := .own 1 0 _) rfl (So.q rfl rfl (V.mv (v := .p (.bs _)) rfl ?_))))))))))
     refine So.n (lk rfl) (A.call0 [.p (.bs _)] 6 rfl rfl rfl rfl ⟨trivial, trivial⟩ trivial _ ⟨.refl _, trivial⟩ trivial (by first | omega | (simp; done) | (simp; omega)) (Φ := fun _ => True) (fun _ _ => trivial) (.inl rfl) (v := .own 8 0 _) rfl (O' := (8, ⟨5, 1, _, true, .bs _⟩) :: _) rfl (fun h6 => ?_))
     refine So.n (lk rfl) (A.apOwn ty22 ty5 rfl rfl rfl rfl (u := .own 8 0 _) rfl rfl (l' := infoG m c n) (by rw [ap_full (by simp; omega), take_full (longF c)]; unfold infoG; rfl) (mn := 2 + (longF (lbl ++ m)).length + (longF c).length) (by first | rfl | simp) (by first | rfl | omega | (simp; done) | (simp; omega) | (simp [maxLen]; omega)) rfl rfl rfl (So.q rfl rfl (V.as (v := .own 1 0 _) rfl (So.e ?_))))
     show HT _ _ _ _ _
     refine HT.ret ?_
     exact ret_ok (sg [(2, 1)]) h rfl rfl rfl ⟨trivial, trivial⟩ ⟨rfl, trivial⟩ rfl ⟨⟨⟨le_own2 (by first | rfl | omega) (by first | (show (_ : Nat) = _; first | (rw [infoF_no (by omega)]; rfl) | (rw [infoF_yes (by omega)]; unfold infoG; simp; omega)) | (show (_ : List UInt8) = _; first | (rw [infoF_no (by omega)]; done) | (rw [infoF_yes (by omega)]; done)) | rfl), rfl⟩, trivial⟩, ⟨⟨_, rfl, .inl (ob_bs (by first | rfl | ((try dsimp only); (first | (show (_ : Nat) = _; first | (rw [infoF_no (by omega)]; rfl) | (rw [infoF_yes (by omega)]; unfold infoG; simp; omega)) | (show (_ : List UInt8) = _; first | (rw [infoF_no (by omega)]; done) | (rw [infoF_yes (by omega)]; done)) | rfl))) (by first | rfl | ((try dsimp only); (first | (show (_ : Nat) = _; first | (rw [infoF_no (by omega)]; rfl) | (rw [infoF_yes (by omega)]; unfold infoG; simp; omega)) | (show (_ : List UInt8) = _; first | (rw [infoF_no (by omega)]; done) | (rw [infoF_yes (by omega)]; done)) | rfl)))), trivial⟩, trivial⟩⟩
   ·have h3 := of_decide_eq_true h3
    refine So.gn (b := true) rfl rfl rfl (lk rfl) (lk rfl) (So.gn (b := true) rfl rfl rfl (lk rfl) (lk rfl) (So.q rfl rfl (V.pkTrue (u := .p (.v (.bool true))) rfl rfl (So.e ?_))))
    show HT _ _ _ _ _
    refine R.condT rfl ?_
    refine HT.seq (HT.region S_rinfo_ok (So.q rfl rfl (V.as (v := .p (.v (.slice none 0 0))) rfl (So.e ?_))))
    show HT _ _ _ _ _
    refine R.phan 6 1 5 1 (.bs []) rfl rfl rfl ⟨rfl, rfl⟩ ?_
    refine HT.ret ?_
    exact ret_ok (sg [(2, 1)]) h rfl rfl rfl ⟨trivial, trivial⟩ ⟨rfl, trivial⟩ rfl ⟨⟨⟨le_own2 (by first | rfl | omega) (by first | (show (_ : Nat) = _; first | (rw [infoF_no (by omega)]; rfl) | (rw [infoF_yes (by omega)]; unfold infoG; simp; omega)) | (show (_ : List UInt8) = _; first | (rw [infoF_no (by omega)]; done) | (rw [infoF_yes (by omega)]; done)) | rfl), rfl⟩, trivial⟩, ⟨⟨_, rfl, .inl (ob_bs (by first | rfl | ((try dsimp only); (first | (show (_ : Nat) = _; first | (rw [infoF_no (by omega)]; rfl) | (rw [infoF_yes (by omega)]; unfold infoG; simp; omega)) | (show (_ : List UInt8) = _; first | (rw [infoF_no (by omega)]; done) | (rw [infoF_yes (by omega)]; done)) | rfl))) (by first | rfl | ((try dsimp only); (first | (show (_ : Nat) = _; first | (rw [infoF_no (by omega)]; rfl) | (rw [infoF_yes (by omega)]; unfold infoG; simp; omega)) | (show (_ : List UInt8) = _; first | (rw [infoF_no (by omega)]; done) | (rw [infoF_yes (by omega)]; done)) | rfl)))), trivial⟩, trivial⟩⟩
  ·have h2 := of_decide_eq_true h2
   refine So.gn (b := true) rfl rfl rfl (lk rfl) (lk rfl) (So.gn (b := true) rfl rfl rfl (lk rfl) (lk rfl) (So.q rfl rfl (V.pkTrue (u := .p (.v (.bool true))) rfl rfl (So.q rfl rfl (V.mv (v := .p (.v (.bool true))) rfl (So.gn (b := true) rfl rfl rfl (lk rfl) (lk rfl) (So.gn (b := true) rfl rfl rfl (lk rfl) (lk rfl) (So.gn (b := true) rfl rfl rfl (lk rfl) (lk rfl) (So.q rfl rfl (V.pkTrue (u := .p (.v (.bool true))) rfl rfl (So.e ?_)))))))))))
   show HT _ _ _ _ _
   refine R.condT rfl ?_
   refine HT.seq (HT.region S_rinfo_ok (So.q rfl rfl (V.as (v := .p (.v (.slice none 0 0))) rfl (So.e ?_))))
   show HT _ _ _ _ _
   refine R.phan 6 1 5 1 (.bs []) rfl rfl rfl ⟨rfl, rfl⟩ ?_
   refine HT.ret ?_
   exact ret_ok (sg [(2, 1)]) h rfl rfl rfl ⟨trivial, trivial⟩ ⟨rfl, trivial⟩ rfl ⟨⟨⟨le_own2 (by first | rfl | omega) (by first | (show (_ : Nat) = _; first | (rw [infoF_no (by omega)]; rfl) | (rw [infoF_yes (by omega)]; unfold infoG; simp; omega)) | (show (_ : List UInt8) = _; first | (rw [infoF_no (by omega)]; done) | (rw [infoF_yes (by omega)]; done)) | rfl), rfl⟩, trivial⟩, ⟨⟨_, rfl, .inl (ob_bs (by first | rfl | ((try dsimp only); (first | (show (_ : Nat) = _; first | (rw [infoF_no (by omega)]; rfl) | (rw [infoF_yes (by omega)]; unfold infoG; simp; omega)) | (show (_ : List UInt8) = _; first | (rw [infoF_no (by omega)]; done) | (rw [infoF_yes (by omega)]; done)) | rfl))) (by first | rfl | ((try dsimp only); (first | (show (_ : Nat) = _; first | (rw [infoF_no (by omega)]; rfl) | (rw [infoF_yes (by omega)]; unfold infoG; simp; omega)) | (show (_ : List UInt8) = _; first | (rw [infoF_no (by omega)]; done) | (rw [infoF_yes (by omega)]; done)) | rfl)))), trivial⟩, trivial⟩⟩
 ·have h1 := of_decide_eq_true h1
  refine So.gn (b := true) rfl rfl rfl (lk rfl) (lk rfl) (So.q rfl rfl (V.pkTrue (u := .p (.v (.bool true))) rfl rfl (So.q rfl rfl (V.mv (v := .p (.v (.bool true))) rfl (So.gn (b := true) rfl rfl rfl (lk rfl) (lk rfl) (So.gn (b := true) rfl rfl rfl (lk rfl) (lk rfl) (So.gn (b := true) rfl rfl rfl (lk rfl) (lk rfl) (So.q rfl rfl (V.pkTrue (u := .p (.v (.bool true))) rfl rfl (So.q rfl rfl (V.mv (v := .p (.v (.bool true))) rfl (So.gn (b := true) rfl rfl rfl (lk rfl) (lk rfl) (So.gn (b := true) rfl rfl rfl (lk rfl) (lk rfl) ?_)))))))))))))
  refine So.gn (b := true) rfl rfl rfl (lk rfl) (lk rfl) (So.q rfl rfl (V.pkTrue (u := .p (.v (.bool true))) rfl rfl (So.e ?_)))
  show HT _ _ _ _ _
  refine R.condT rfl ?_
  refine HT.seq (HT.region S_rinfo_ok (So.q rfl rfl (V.as (v := .p (.v (.slice none 0 0))) rfl (So.e ?_))))
  show HT _ _ _ _ _
  refine R.phan 6 1 5 1 (.bs []) rfl rfl rfl ⟨rfl, rfl⟩ ?_
  refine HT.ret ?_
  exact ret_ok (sg [(2, 1)]) h rfl rfl rfl ⟨trivial, trivial⟩ ⟨rfl, trivial⟩ rfl ⟨⟨⟨le_own2 (by first | rfl | omega) (by first | (show (_ : Nat) = _; first | (rw [infoF_no (by omega)]; rfl) | (rw [infoF_yes (by omega)]; unfold infoG; simp; omega)) | (show (_ : List UInt8) = _; first | (rw [infoF_no (by omega)]; done) | (rw [infoF_yes (by omega)]; done)) | rfl), rfl⟩, trivial⟩, ⟨⟨_, rfl, .inl (ob_bs (by first | rfl | ((try dsimp only); (first | (show (_ : Nat) = _; first | (rw [infoF_no (by omega)]; rfl) | (rw [infoF_yes (by omega)]; unfold infoG; simp; omega)) | (show (_ : List UInt8) = _; first | (rw [infoF_no (by omega)]; done) | (rw [infoF_yes (by omega)]; done)) | rfl))) (by first | rfl | ((try dsimp only); (first | (show (_ : Nat) = _; first | (rw [infoF_no (by omega)]; rfl) | (rw [infoF_yes (by omega)]; unfold infoG; simp; omega)) | (show (_ : List UInt8) = _; first | (rw [infoF_no (by omega)]; done) | (rw [infoF_yes (by omega)]; done)) | rfl)))), trivial⟩, trivial⟩⟩
end Go.Vh

set_option linter.unusedVariables false
set_option linter.unusedSimpArgs false
namespace Go.Vh
open Go Go.Vc Go.Proofs Go.Vw
def rblockSp : Sp := ⟨[], mkE (α := (Nat → UInt32) × (List UInt8)) (fun (g, b) => [.agg 8 (fun j => .u32 (g j)), .p (.bs (b))]) (fun (g, b) => []) (fun (g, b) => 64 ≤ b.length) (fun (g, b) => [.agg 8 (fun j => .u32 (comp g b j))]) (fun (g, b) => [])⟩
def S_rblock : FuncId → Option Sp := fun f => if f = 62 then some constantsSp else if f = 63 then some turnedSp else none
theorem S_rblock_ok : ∀ f s, S_rblock f = some s → FOK Tryd.prog gl f s := fun f s h => by
 unfold S_rblock at h
 split at h
 ·rename_i e; cases h; subst e; exact constants_ok
 split at h
 ·rename_i e; cases h; subst e; exact turned_ok
 cases h
theorem S_rblock_det : ∀ f s, S_rblock f = some s → SpDet s.sp := fun f s h => by
 unfold S_rblock at h
 split at h
 ·cases h; exact mkE_det _ _ _ _ _
 split at h
 ·cases h; exact mkE_det _ _ _ _ _
 cases h
set_option maxHeartbeats 1000000 in
set_option maxRecDepth 20000 in
theorem rblock_ok : FOK Tryd.prog gl 53 rblockSp := by
 refine FOK.ofEC (tyOf_ok Tryd.prog) (rvs := [.cell 4 63]) (nt := 196) Tryd.func53 rfl rfl rfl rfl (by decide) 2 (fun ⟨_, _⟩ => rfl) (by decide) (fun ⟨_, _⟩ => ⟨trivial, trivial, trivial⟩) ?_
 rintro ⟨g, b⟩ kk hlen hpre h
 have hl1 : (b).length ≤ 9223372036854775807 := hlen.2.1
 replace hpre : 64 ≤ b.length := hpre
 show HT (cx Tryd.prog 196 (tyOf Tryd.prog) gl []) _ [(0, .agg 8 (fun j => .u32 (g j))), (1, .p (.bs (b)))] [] _
 refine HT.seq (HT.region S_rblock_ok (So.n (lk rfl) (A.boxAg 1 1 (n := 8) rfl (by intro j hj; first | rfl | trivial | (match j, hj with | 0, _ => (first | trivial | rfl) | 1, _ => (first | trivial | rfl) | 2, _ => (first | trivial | rfl) | 3, _ => (first | trivial | rfl) | 4, _ => (first | trivial | rfl) | 5, _ => (first | trivial | rfl) | 6, _ => (first | trivial | rfl) | 7, _ => (first | trivial | rfl)) | (split <;> first | rfl | trivial | (split <;> first | rfl | trivial))) rfl trivial (So.n (lk rfl) (A.alloc 2 1 ty63 rfl trivial (f := fun _ => .u32 0) (fun _ _ => rfl) (So.e (HT.seq (HT.region S_rblock_ok ?_))))))))
 refine So.n (lk rfl) (A.call0 [] 3 rfl rfl rfl rfl trivial trivial () trivial trivial (by trivial) (Φ := fun _ => True) (fun _ _ => trivial) (.inl rfl) (v := .agg 64 _) rfl (O' := _) rfl (fun h1 => ?_))
 refine So.n (lk rfl) (A.alloc 3 1 ty80 rfl trivial (f := fun _ => .u32 0) (fun _ _ => rfl) (So.s (A.stoAg ty80 rfl (n := 64) rfl (by decide) (by intro j hj; first | rfl | trivial) rfl rfl rfl (So.e (HT.seq (HT.region S_rblock_ok (So.n (lk rfl) (A.alloc 4 1 ty80 rfl trivial (f := fun _ => .u32 0) (fun _ _ => rfl) (So.e (HT.seq (HT.seq (HT.region S_rblock_ok ?_))))))))))))
 refine So.q rfl rfl (V.as (v := .p (.v (.int .i64 (0)))) rfl (So.e (HT.block ?_)))
 refine R.loop (σ := Nat) (fun s => [(7, .p (.v (.int .i64 ((s : Int)))))]) (fun s => [(4, ⟨80, 1, 64, true, .rows (fun j => .u32 (if j < s then be b j else 0))⟩)]) [1, 2, 4, 5, 6] [1, 2, 3] (fun s => s ≤ 16) (fun s => 16 - s) (0) (fr0 := [(1, .p (.bs _)), (2, .ptr 1 0), (4, .ptr 2 0), (5, .ptr 3 0), (6, .ptr 4 0)]) (O0 := [(1, ⟨_, _, _, _, .rows _⟩), (2, ⟨_, _, _, _, .rows _⟩), (3, ⟨_, _, _, _, .rows _⟩)]) rfl rfl (by first | rfl | omega | (simp; done) | (simp; omega)) ⟨⟨⟨le_int (by first | rfl | omega | (simp; done)), trivial⟩, ⟨.refl _, trivial⟩, ⟨.refl _, rfl⟩, ⟨.refl _, rfl⟩, ⟨.refl _, rfl⟩, ⟨.refl _, rfl⟩, trivial⟩, ⟨⟨_, rfl, .inr (ob_rows (by first | rfl | ((try dsimp only); first | rfl | omega | (simp; done))) (by first | rfl | ((try dsimp only); first | rfl | omega | (simp; done)))), trivial⟩, ⟨_, rfl, .inl rfl, trivial⟩, ⟨_, rfl, .inl rfl, trivial⟩, ⟨_, rfl, .inl rfl, trivial⟩, trivial⟩⟩ (fun s hP0 => ?_)
 refine HT.seq (HT.seq (HT.region S_rblock_ok (So.q rfl rfl (V.mv (v := .p (.v (.int .i64 ((_ : Nat) : Int)))) rfl (So.q rfl rfl (V.bin (a := (.v (.int .i64 ((_ : Nat) : Int)))) (b := (.v (.int .i64 (16)))) (r := .v (.bool _)) rfl rfl rfl trivial (So.e ?_)))))))
 show HT _ _ _ _ _
 refine R.cond rfl rfl (fun h2 => ?_) (fun h2 => ?_)
 ·have h2 := of_decide_eq_true h2
  refine HT.skip (HT.seq (HT.block ?_))
  refine HT.tail S_rblock_ok mixed 35 (by kernel_rfl) (by kernel_rfl) ?_
  refine So.q rfl rfl (V.mv (v := .p (.v (.int .i64 ((_ : Nat) : Int)))) rfl (So.q rfl rfl (V.mv (v := .p (.bs _)) rfl (So.q rfl rfl (V.mv (v := .p (.v (.int .i64 ((_ : Nat) : Int)))) rfl (So.q rfl rfl (V.mulI rfl rfl (by omega) (So.q rfl rfl (V.ixBs (mi := 4 * s) ty22 ty5 rfl rfl rfl (by omega) (by omega) (So.q rfl rfl (V.ldRp ty5 rfl rfl (lk rfl) (v := (.u8 _)) rfl (So.q rfl rfl (V.cvN ty62 ty5 (a := (.u8 _)) (r := (.u32 _)) rfl rfl (So.q rfl rfl (V.shlC (n := 24) (a := (.u32 _)) (b := (.u64 24)) (r := .u32 (u32Shl _ 24)) rfl rfl rfl rfl (So.q rfl rfl (V.mv (v := .p (.bs _)) rfl (So.q rfl rfl (V.mv (v := .p (.v (.int .i64 ((_ : Nat) : Int)))) rfl ?_)))))))))))))))))))
  refine So.q rfl rfl (V.mulI rfl rfl (by omega) (So.q rfl rfl (V.addI rfl rfl (by omega) (So.q rfl rfl (V.ixBs (mi := 4 * s + 1) ty22 ty5 rfl rfl rfl (by omega) (by omega) (So.q rfl rfl (V.ldRp ty5 rfl rfl (lk rfl) (v := (.u8 _)) rfl (So.q rfl rfl (V.cvN ty62 ty5 (a := (.u8 _)) (r := (.u32 _)) rfl rfl (So.q rfl rfl (V.shlC (n := 16) (a := (.u32 _)) (b := (.u64 16)) (r := .u32 (u32Shl _ 16)) rfl rfl rfl rfl (So.q rfl rfl (V.bin (a := (.u32 _)) (b := (.u32 _)) (r := .u32 _) rfl rfl rfl trivial (So.q rfl rfl (V.mv (v := .p (.bs _)) rfl (So.q rfl rfl (V.mv (v := .p (.v (.int .i64 ((_ : Nat) : Int)))) rfl (So.q rfl rfl (V.mulI rfl rfl (by omega) ?_)))))))))))))))))))
  refine So.q rfl rfl (V.addI rfl rfl (by omega) (So.q rfl rfl (V.ixBs (mi := 4 * s + 2) ty22 ty5 rfl rfl rfl (by omega) (by omega) (So.q rfl rfl (V.ldRp ty5 rfl rfl (lk rfl) (v := (.u8 _)) rfl (So.q rfl rfl (V.cvN ty62 ty5 (a := (.u8 _)) (r := (.u32 _)) rfl rfl (So.q rfl rfl (V.shlC (n := 8) (a := (.u32 _)) (b := (.u64 8)) (r := .u32 (u32Shl _ 8)) rfl rfl rfl rfl (So.q rfl rfl (V.bin (a := (.u32 _)) (b := (.u32 _)) (r := .u32 _) rfl rfl rfl trivial (So.q rfl rfl (V.mv (v := .p (.bs _)) rfl (So.q rfl rfl (V.mv (v := .p (.v (.int .i64 ((_ : Nat) : Int)))) rfl (So.q rfl rfl (V.mulI rfl rfl (by omega) (So.q rfl rfl (V.addI rfl rfl (by omega) ?_)))))))))))))))))))
  refine So.q rfl rfl (V.ixBs (mi := 4 * s + 3) ty22 ty5 rfl rfl rfl (by omega) (by omega) (So.q rfl rfl (V.ldRp ty5 rfl rfl (lk rfl) (v := (.u8 _)) rfl (So.q rfl rfl (V.cvN ty62 ty5 (a := (.u8 _)) (r := (.u32 _)) rfl rfl (So.q rfl rfl (V.bin (a := (.u32 _)) (b := (.u32 _)) (r := .u32 _) rfl rfl rfl trivial (So.q rfl rfl (V.ixArrP10 (mi := s) ty80 ty62 rfl rfl rfl (by first | rfl | omega | (simp; done) | (simp; omega)) rfl (by omega) (by omega) (So.s (A.sto ty62 rfl rfl rfl (v := .p (.u32 _)) rfl trivial rfl (by first | rfl | omega | (simp; done) | (simp; omega)) (c' := .rows (fun j => .u32 (if j = s then be b s else if j < s then be b j else 0))) (congrArg (fun g => some (OC.rows g)) (funext fun j => by by_cases h9 : j = s <;> simp [h9, be])) rfl (So.e (HT.region S_rblock_ok (So.q rfl rfl (V.mv (v := .p (.v (.int .i64 ((_ : Nat) : Int)))) rfl (So.q rfl rfl (V.addI rfl rfl (by omega) ?_)))))))))))))))))
  refine So.q rfl rfl (V.as (v := .p (.v (.int .i64 _))) rfl (So.e ?_))
  refine ⟨s + 1, by first | rfl | omega | (simp; done) | (simp; omega), by omega, ⟨⟨⟨le_int (by first | rfl | omega | (simp; done) | (simp; omega)), trivial⟩, ⟨.refl _, trivial⟩, ⟨.refl _, rfl⟩, ⟨.refl _, rfl⟩, ⟨.refl _, rfl⟩, ⟨.refl _, rfl⟩, trivial⟩, ⟨⟨_, rfl, .inr (ob_rows (by first | rfl | ((try dsimp only); (intro j hj; by_cases h9 : j = s <;> simp [h9] <;> (try rw [if_pos (by omega)]) <;> (try (by_cases h8 : j < s <;> simp [h8] <;> omega))))) (by first | rfl | ((try dsimp only); (intro j hj; by_cases h9 : j = s <;> simp [h9] <;> (try rw [if_pos (by omega)]) <;> (try (by_cases h8 : j < s <;> simp [h8] <;> omega)))))), trivial⟩, ⟨_, rfl, .inl rfl, trivial⟩, ⟨_, rfl, .inl rfl, trivial⟩, ⟨_, rfl, .inl rfl, trivial⟩, trivial⟩⟩⟩
 ·have h2 := of_decide_eq_false h2
  refine HT.exit ?_
  show HT _ _ _ _ _
  refine HT.seq (HT.seq (HT.region S_rblock_ok (So.q rfl rfl (V.as (v := .p (.v (.int .i64 (16)))) rfl (So.e (HT.block ?_))))))
  refine R.loop (σ := Nat) (fun s => [(8, .p (.v (.int .i64 (((16 + s : Nat) : Int)))))]) (fun s => [(4, ⟨80, 1, 64, true, .rows (fun j => .u32 (wdN b s j))⟩)]) [2, 4, 5, 6] [1, 2, 3] (fun s => s ≤ 48) (fun s => 48 - s) (0) (fr0 := [(2, .ptr 1 0), (4, .ptr 2 0), (5, .ptr 3 0), (6, .ptr 4 0)]) (O0 := [(1, ⟨_, _, _, _, .rows _⟩), (2, ⟨_, _, _, _, .rows _⟩), (3, ⟨_, _, _, _, .rows _⟩)]) rfl rfl (by first | rfl | omega | (simp; done) | (simp; omega)) ⟨⟨⟨le_int (by first | rfl | omega | (intro j _; rw [show s = 16 by omega]; rfl)), trivial⟩, ⟨.refl _, rfl⟩, ⟨.refl _, rfl⟩, ⟨.refl _, rfl⟩, ⟨.refl _, rfl⟩, trivial⟩, ⟨⟨_, rfl, .inr (ob_rows (by first | rfl | ((try dsimp only); first | rfl | omega | (intro j _; rw [show s = 16 by omega]; rfl))) (by first | rfl | ((try dsimp only); first | rfl | omega | (intro j _; rw [show s = 16 by omega]; rfl)))), trivial⟩, ⟨_, rfl, .inl rfl, trivial⟩, ⟨_, rfl, .inl rfl, trivial⟩, ⟨_, rfl, .inl rfl, trivial⟩, trivial⟩⟩ (fun s hP1 => ?_)
  refine HT.seq (HT.seq (HT.region S_rblock_ok (So.q rfl rfl (V.mv (v := .p (.v (.int .i64 _))) rfl (So.q rfl rfl (V.bin (a := (.v (.int .i64 _))) (b := (.v (.int .i64 (64)))) (r := .v (.bool _)) rfl rfl rfl trivial (So.e ?_)))))))
  show HT _ _ _ _ _
  refine R.cond rfl rfl (fun h3 => ?_) (fun h3 => ?_)
  ·have h3 := of_decide_eq_true h3
   refine HT.skip (HT.seq (HT.block (HT.seq (HT.region S_rblock_ok (So.q rfl rfl (V.mv (v := .p (.v (.int .i64 _))) rfl (So.q rfl rfl (V.subI rfl rfl (by omega) (So.q rfl rfl (V.ixArrP10 (mi := s + 1) ty80 ty62 rfl rfl rfl (by first | rfl | omega | (simp; done) | (simp; omega)) rfl (by omega) (by omega) (So.q rfl rfl (V.ldPtr ty62 rfl rfl rfl (by first | rfl | omega | (simp; done) | (simp; omega)) (v := .p (.u32 _)) rfl (So.q rfl rfl (V.as (v := .p (.u32 _)) rfl ?_))))))))))))))
   refine So.e (HT.seq (HT.region S_rblock_ok (So.q rfl rfl (V.mv (v := .p (.v (.int .i64 _))) rfl (So.q rfl rfl (V.subI rfl rfl (by omega) (So.q rfl rfl (V.ixArrP10 (mi := s + 14) ty80 ty62 rfl rfl rfl (by first | rfl | omega | (simp; done) | (simp; omega)) rfl (by omega) (by omega) (So.q rfl rfl (V.ldPtr ty62 rfl rfl rfl (by first | rfl | omega | (simp; done) | (simp; omega)) (v := .p (.u32 _)) rfl (So.q rfl rfl (V.as (v := .p (.u32 _)) rfl (So.e ?_)))))))))))))
   show HT _ _ _ _ _
   refine HT.planS S_rblock_ok S_rblock_det mixed [] [⟨[0, 1, 2, 3, 4, 5, 6, 7, 8, 9, 10, 11, 12, 13, 14, 15, 16, 17, 18, 19, 20, 21, 22, 23, 24, 25, 26, 27, 28], 29, []⟩] (by kernel_rfl) ?_
   refine Pl.l0 ?_
   refine Si.n rfl (lk rfl) (V.mv (v := .p (.v (.int .i64 _))) rfl (Si.n rfl (lk rfl) (V.mv (v := .p (.v (.int .i64 _))) rfl (Si.n rfl (lk rfl) (V.subI rfl rfl (by omega) (Si.n rfl (lk rfl) (V.ixArrP10 (mi := s) ty80 ty62 rfl rfl rfl (by first | rfl | omega | (simp; done) | (simp; omega)) rfl (by omega) (by omega) (Si.n rfl (lk rfl) (V.ldPtr ty62 rfl rfl rfl (by first | rfl | omega | (simp; done) | (simp; omega)) (v := .p (.u32 _)) rfl (Si.n rfl (lk rfl) (V.mv (v := .p (.u32 _)) rfl ?_)))))))))))
   refine Si.n rfl (lk rfl) (V.call [.p (.u32 _), .p (.v (.int .i64 _))] 5 rfl rfl rfl rfl ⟨trivial, trivial, trivial⟩ trivial (_, _) ⟨.refl _, .refl _, trivial⟩ trivial (by first | omega | decide) (Φ := fun _ => True) (fun _ _ => trivial) (.inl ⟨trivial, trivial, trivial⟩) (v := .p (.u32 _)) rfl (fun h4 => ?_))
   refine Si.n rfl (lk rfl) (V.mv (v := .p (.u32 _)) rfl ?_)
   refine Si.n rfl (lk rfl) (V.call [.p (.u32 _), .p (.v (.int .i64 _))] 5 rfl rfl rfl rfl ⟨trivial, trivial, trivial⟩ trivial (_, _) ⟨.refl _, .refl _, trivial⟩ trivial (by first | omega | decide) (Φ := fun _ => True) (fun _ _ => trivial) (.inl ⟨trivial, trivial, trivial⟩) (v := .p (.u32 _)) rfl (fun h5 => ?_))
   refine Si.n rfl (lk rfl) (V.bin (a := (.u32 _)) (b := (.u32 _)) (r := .u32 _) rfl rfl rfl trivial (Si.n rfl (lk rfl) (V.mv (v := .p (.u32 _)) rfl (Si.n rfl (lk rfl) (V.shrC (n := 3) (a := (.u32 _)) (b := (.u64 3)) (r := .u32 (u32Shr _ 3)) rfl rfl rfl rfl (Si.n rfl (lk rfl) (V.bin (a := (.u32 _)) (b := (.u32 _)) (r := .u32 _) rfl rfl rfl trivial (Si.n rfl (lk rfl) (V.bin (a := (.u32 _)) (b := (.u32 _)) (r := .u32 _) rfl rfl rfl trivial (Si.n rfl (lk rfl) (V.mv (v := .p (.v (.int .i64 _))) rfl (Si.n rfl (lk rfl) (V.subI rfl rfl (by omega) (Si.n rfl (lk rfl) (V.ixArrP10 (mi := s + 9) ty80 ty62 rfl rfl rfl (by first | rfl | omega | (simp; done) | (simp; omega)) rfl (by omega) (by omega) (Si.n rfl (lk rfl) (V.ldPtr ty62 rfl rfl rfl (by first | rfl | omega | (simp; done) | (simp; omega)) (v := .p (.u32 _)) rfl (Si.n rfl (lk rfl) (V.bin (a := (.u32 _)) (b := (.u32 _)) (r := .u32 _) rfl rfl rfl trivial ?_)))))))))))))))))))
   refine Si.n rfl (lk rfl) (V.mv (v := .p (.u32 _)) rfl ?_)
   refine Si.n rfl (lk rfl) (V.call [.p (.u32 _), .p (.v (.int .i64 _))] 5 rfl rfl rfl rfl ⟨trivial, trivial, trivial⟩ trivial (_, _) ⟨.refl _, .refl _, trivial⟩ trivial (by first | omega | decide) (Φ := fun _ => True) (fun _ _ => trivial) (.inl ⟨trivial, trivial, trivial⟩) (v := .p (.u32 _)) rfl (fun h6 => ?_))
   refine Si.n rfl (lk rfl) (V.mv (v := .p (.u32 _)) rfl ?_)
   refine Si.n rfl (lk rfl) (V.call [.p (.u32 _), .p (.v (.int .i64 _))] 5 rfl rfl rfl rfl ⟨trivial, trivial, trivial⟩ trivial (_, _) ⟨.refl _, .refl _, trivial⟩ trivial (by first | omega | decide) (Φ := fun _ => True) (fun _ _ => trivial) (.inl ⟨trivial, trivial, trivial⟩) (v := .p (.u32 _)) rfl (fun h7 => ?_))
   refine Si.n rfl (lk rfl) (V.bin (a := (.u32 _)) (b := (.u32 _)) (r := .u32 _) rfl rfl rfl trivial (Si.n rfl (lk rfl) (V.mv (v := .p (.u32 _)) rfl (Si.n rfl (lk rfl) (V.shrC (n := 10) (a := (.u32 _)) (b := (.u64 10)) (r := .u32 (u32Shr _ 10)) rfl rfl rfl rfl (Si.n rfl (lk rfl) (V.bin (a := (.u32 _)) (b := (.u32 _)) (r := .u32 _) rfl rfl rfl trivial (Si.n rfl (lk rfl) (V.bin (a := (.u32 _)) (b := (.u32 _)) (r := .u32 _) rfl rfl rfl trivial (Si.n rfl (lk rfl) (V.ixArrP10 (mi := 16 + s) ty80 ty62 rfl rfl rfl (by first | rfl | omega | (simp; done) | (simp; omega)) rfl (by omega) (by omega) (Si.e ?_))))))))))))
   refine ⟨flEq_nil, ?_⟩
   refine Lo.s rfl (A.sto ty62 rfl rfl rfl (v := .p (.u32 _)) rfl trivial rfl (by first | rfl | omega | (simp; done) | (simp; omega)) (c' := .rows (fun j => .u32 (wdN b (s + 1) j))) (congrArg (fun g => some (OC.rows g)) (funext fun j => by by_cases h9 : j = 16 + s <;> simp [h9] <;> first | (rw [← wd_ref]; simp [sg0, sg1]; done) | (simp [wdN, h9]; done))) rfl ?_)
   refine Pl.e ?_
   refine Si.e ?_
   refine ⟨flEq_nil, ?_⟩
   show HT _ _ _ _ _
   refine HT.region S_rblock_ok (So.q rfl rfl (V.mv (v := .p (.v (.int .i64 _))) rfl (So.q rfl rfl (V.addI rfl rfl (by omega) (So.q rfl rfl (V.as (v := .p (.v (.int .i64 _))) rfl (So.e ?_)))))))
   refine ⟨s + 1, by first | rfl | omega | (simp; done) | (simp; omega), by omega, ⟨⟨⟨le_int (by first | rfl | omega | (simp; done) | (simp; omega)), trivial⟩, ⟨.refl _, rfl⟩, ⟨.refl _, rfl⟩, ⟨.refl _, rfl⟩, ⟨.refl _, rfl⟩, trivial⟩, ⟨⟨_, rfl, .inr (ob_rows (by first | rfl | ((try dsimp only); first | rfl | omega | (simp; done) | (simp; omega))) (by first | rfl | ((try dsimp only); first | rfl | omega | (simp; done) | (simp; omega)))), trivial⟩, ⟨_, rfl, .inl rfl, trivial⟩, ⟨_, rfl, .inl rfl, trivial⟩, ⟨_, rfl, .inl rfl, trivial⟩, trivial⟩⟩⟩
  ·have h3 := of_decide_eq_false h3
   refine HT.exit ?_
   show HT _ _ _ _ _
   refine HT.seq (HT.region S_rblock_ok ?_)
   have hs : s = 48 := by omega
   subst hs
   refine So.q rfl rfl (V.ldPtrA ty63 rfl rfl rfl rfl (lk rfl) (So.n (lk rfl) (A.alloc 5 1 ty63 rfl trivial (f := fun _ => .u32 0) (fun _ _ => rfl) (So.s (A.stoAg ty63 rfl (n := 8) rfl (by decide) (by intro j hj; first | rfl | trivial | (match j, hj with | 0, _ => (first | trivial | rfl) | 1, _ => (first | trivial | rfl) | 2, _ => (first | trivial | rfl) | 3, _ => (first | trivial | rfl) | 4, _ => (first | trivial | rfl) | 5, _ => (first | trivial | rfl) | 6, _ => (first | trivial | rfl) | 7, _ => (first | trivial | rfl))) rfl rfl rfl (So.e (HT.seq (HT.seq (HT.region S_rblock_ok (So.q rfl rfl (V.as (v := .p (.v (.int .i64 (0)))) rfl (So.e (HT.block ?_)))))))))))))
   refine R.loop (σ := Nat) (fun q => [(12, .p (.v (.int .i64 ((q : Int)))))]) (fun q => [(5, ⟨63, 1, 8, true, .rows (fun j => .u32 (rounds g (wd b) q j))⟩)]) [2, 4, 5, 6, 11] [1, 2, 3, 4] (fun q => q ≤ 64) (fun q => 64 - q) (0) (fr0 := [(2, .ptr 1 0), (4, .ptr 2 0), (5, .ptr 3 0), (6, .ptr 4 0), (11, .ptr 5 0)]) (O0 := [(1, ⟨_, _, _, _, .rows _⟩), (2, ⟨_, _, _, _, .rows _⟩), (3, ⟨_, _, _, _, .rows _⟩), (4, ⟨_, _, _, _, .rows _⟩)]) rfl rfl (by first | rfl | omega | (intro j hj; rfl)) ⟨⟨⟨le_int (by first | rfl | omega | (intro j hj; first | rfl | (rw [Nat.zero_add]; rfl))), trivial⟩, ⟨.refl _, rfl⟩, ⟨.refl _, rfl⟩, ⟨.refl _, rfl⟩, ⟨.refl _, rfl⟩, ⟨.refl _, rfl⟩, trivial⟩, ⟨⟨_, rfl, .inr (ob_rows (by first | rfl | ((try dsimp only); first | rfl | omega | (intro j hj; first | rfl | (rw [Nat.zero_add]; rfl)))) (by first | rfl | ((try dsimp only); first | rfl | omega | (intro j hj; first | rfl | (rw [Nat.zero_add]; rfl))))), trivial⟩, ⟨_, rfl, .inl rfl, trivial⟩, ⟨_, rfl, .inl rfl, trivial⟩, ⟨_, rfl, .inl rfl, trivial⟩, ⟨_, rfl, .inl rfl, trivial⟩, trivial⟩⟩ (fun q hP2 => ?_)
   refine HT.seq (HT.seq (HT.region S_rblock_ok (So.q rfl rfl (V.mv (v := .p (.v (.int .i64 ((_ : Nat) : Int)))) rfl (So.q rfl rfl (V.bin (a := (.v (.int .i64 ((_ : Nat) : Int)))) (b := (.v (.int .i64 (64)))) (r := .v (.bool _)) rfl rfl rfl trivial (So.e ?_)))))))
   show HT _ _ _ _ _
   refine R.cond rfl rfl (fun h8 => ?_) (fun h8 => ?_)
   ·have h8 := of_decide_eq_true h8
    refine HT.skip (HT.seq (HT.block (HT.seq (HT.region S_rblock_ok (So.q rfl rfl (V.ixArrP10 ty63 ty62 rfl rfl rfl (by first | rfl | omega | (simp; done) | (simp; omega)) rfl (by omega) rfl (So.q rfl rfl (V.ldPtr ty62 rfl rfl rfl (by first | rfl | omega | (simp; done) | (simp; omega)) (v := .p (.u32 _)) rfl (So.q rfl rfl (V.as (v := .p (.u32 _)) rfl (So.e (HT.seq ?_))))))))))))
    refine HT.region S_rblock_ok (So.q rfl rfl (V.ixArrP10 ty63 ty62 rfl rfl rfl (by first | rfl | omega | (simp; done) | (simp; omega)) rfl (by omega) rfl (So.q rfl rfl (V.ldPtr ty62 rfl rfl rfl (by first | rfl | omega | (simp; done) | (simp; omega)) (v := .p (.u32 _)) rfl (So.q rfl rfl (V.as (v := .p (.u32 _)) rfl (So.e (HT.seq ?_))))))))
    refine HT.drawn S_rblock_ok S_rblock_det mixed (by kernel_rfl) ?_
    refine Sd.n (lk rfl) (V.ixArrP10 ty63 ty62 rfl rfl rfl (by first | rfl | omega | (simp; done) | (simp; omega)) rfl (by omega) rfl (Sd.n (lk rfl) (V.ldPtr ty62 rfl rfl rfl (by first | rfl | omega | (simp; done) | (simp; omega)) (v := .p (.u32 _)) rfl (Sd.n (lk rfl) (V.mv (v := .p (.u32 _)) rfl ?_)))))
    refine Sd.n (lk rfl) (V.call [.p (.u32 _), .p (.v (.int .i64 _))] 6 rfl rfl rfl rfl ⟨trivial, trivial, trivial⟩ trivial (_, _) ⟨.refl _, .refl _, trivial⟩ trivial (by first | omega | decide) (Φ := fun _ => True) (fun _ _ => trivial) (.inl ⟨trivial, trivial, trivial⟩) (v := .p (.u32 _)) rfl (fun h9 => ?_))
    refine Sd.n (lk rfl) (V.mv (v := .p (.u32 _)) rfl ?_)
    refine Sd.n (lk rfl) (V.call [.p (.u32 _), .p (.v (.int .i64 _))] 6 rfl rfl rfl rfl ⟨trivial, trivial, trivial⟩ trivial (_, _) ⟨.refl _, .refl _, trivial⟩ trivial (by first | omega | decide) (Φ := fun _ => True) (fun _ _ => trivial) (.inl ⟨trivial, trivial, trivial⟩) (v := .p (.u32 _)) rfl (fun h10 => ?_))
    refine Sd.n (lk rfl) (V.bin (a := (.u32 _)) (b := (.u32 _)) (r := .u32 _) rfl rfl rfl trivial (Sd.n (lk rfl) (V.mv (v := .p (.u32 _)) rfl ?_)))
    refine Sd.n (lk rfl) (V.call [.p (.u32 _), .p (.v (.int .i64 _))] 6 rfl rfl rfl rfl ⟨trivial, trivial, trivial⟩ trivial (_, _) ⟨.refl _, .refl _, trivial⟩ trivial (by first | omega | decide) (Φ := fun _ => True) (fun _ _ => trivial) (.inl ⟨trivial, trivial, trivial⟩) (v := .p (.u32 _)) rfl (fun h11 => ?_))
    refine Sd.n (lk rfl) (V.bin (a := (.u32 _)) (b := (.u32 _)) (r := .u32 _) rfl rfl rfl trivial (Sd.n (lk rfl) (V.bin (a := (.u32 _)) (b := (.u32 _)) (r := .u32 _) rfl rfl rfl trivial (Sd.n (lk rfl) (V.mv (v := .p (.u32 _)) rfl (Sd.n (lk rfl) (V.ixArrP10 ty63 ty62 rfl rfl rfl (by first | rfl | omega | (simp; done) | (simp; omega)) rfl (by omega) rfl (Sd.n (lk rfl) (V.ldPtr ty62 rfl rfl rfl (by first | rfl | omega | (simp; done) | (simp; omega)) (v := .p (.u32 _)) rfl (Sd.n (lk rfl) (V.bin (a := (.u32 _)) (b := (.u32 _)) (r := .u32 _) rfl rfl rfl trivial (Sd.n (lk rfl) (V.mv (v := .p (.u32 _)) rfl (Sd.n (lk rfl) (V.xor32 rfl (Sd.n (lk rfl) (V.ixArrP10 ty63 ty62 rfl rfl rfl (by first | rfl | omega | (simp; done) | (simp; omega)) rfl (by omega) rfl (Sd.n (lk rfl) (V.ldPtr ty62 rfl rfl rfl (by first | rfl | omega | (simp; done) | (simp; omega)) (v := .p (.u32 _)) rfl ?_)))))))))))))))))))
    refine Sd.n (lk rfl) (V.bin (a := (.u32 _)) (b := (.u32 _)) (r := .u32 _) rfl rfl rfl trivial (Sd.n (lk rfl) (V.bin (a := (.u32 _)) (b := (.u32 _)) (r := .u32 _) rfl rfl rfl trivial (Sd.n (lk rfl) (V.bin (a := (.u32 _)) (b := (.u32 _)) (r := .u32 _) rfl rfl rfl trivial (Sd.n (lk rfl) (V.mv (v := .p (.v (.int .i64 ((_ : Nat) : Int)))) rfl (Sd.n (lk rfl) (V.ixArrP10 (mi := q) ty80 ty62 rfl rfl rfl (by first | rfl | omega | (simp; done) | (simp; omega)) rfl (by omega) (by omega) (Sd.n (lk rfl) (V.ldPtr ty62 rfl rfl rfl (by first | rfl | omega | (simp; done) | (simp; omega)) (v := .p (.u32 _)) rfl (Sd.n (lk rfl) (V.bin (a := (.u32 _)) (b := (.u32 _)) (r := .u32 _) rfl rfl rfl trivial (Sd.n (lk rfl) (V.mv (v := .p (.v (.int .i64 ((_ : Nat) : Int)))) rfl (Sd.n (lk rfl) (V.ixArrP10 (mi := q) ty80 ty62 rfl rfl rfl (by first | rfl | omega | (simp; done) | (simp; omega)) rfl (by omega) (by omega) (Sd.n (lk rfl) (V.ldPtr ty62 rfl rfl rfl (by first | rfl | omega | (simp; done) | (simp; omega)) (v := .p (.u32 _)) rfl ?_)))))))))))))))))))
    refine Sd.n (lk rfl) (V.bin (a := (.u32 _)) (b := (.u32 _)) (r := .u32 _) rfl rfl rfl trivial (Sd.n (lk rfl) (V.as (v := .p (.u32 _)) rfl (Sd.e (HT.seq ?_)))))
    refine HT.drawn S_rblock_ok S_rblock_det mixed (by kernel_rfl) ?_
    refine Sd.n (lk rfl) (V.mv (v := .p (.u32 _)) rfl ?_)
    refine Sd.n (lk rfl) (V.call [.p (.u32 _), .p (.v (.int .i64 _))] 6 rfl rfl rfl rfl ⟨trivial, trivial, trivial⟩ trivial (_, _) ⟨.refl _, .refl _, trivial⟩ trivial (by first | omega | decide) (Φ := fun _ => True) (fun _ _ => trivial) (.inl ⟨trivial, trivial, trivial⟩) (v := .p (.u32 _)) rfl (fun h12 => ?_))
    refine Sd.n (lk rfl) (V.mv (v := .p (.u32 _)) rfl ?_)
    refine Sd.n (lk rfl) (V.call [.p (.u32 _), .p (.v (.int .i64 _))] 6 rfl rfl rfl rfl ⟨trivial, trivial, trivial⟩ trivial (_, _) ⟨.refl _, .refl _, trivial⟩ trivial (by first | omega | decide) (Φ := fun _ => True) (fun _ _ => trivial) (.inl ⟨trivial, trivial, trivial⟩) (v := .p (.u32 _)) rfl (fun h13 => ?_))
    refine Sd.n (lk rfl) (V.bin (a := (.u32 _)) (b := (.u32 _)) (r := .u32 _) rfl rfl rfl trivial (Sd.n (lk rfl) (V.mv (v := .p (.u32 _)) rfl ?_)))
    refine Sd.n (lk rfl) (V.call [.p (.u32 _), .p (.v (.int .i64 _))] 6 rfl rfl rfl rfl ⟨trivial, trivial, trivial⟩ trivial (_, _) ⟨.refl _, .refl _, trivial⟩ trivial (by first | omega | decide) (Φ := fun _ => True) (fun _ _ => trivial) (.inl ⟨trivial, trivial, trivial⟩) (v := .p (.u32 _)) rfl (fun h14 => ?_))
    refine Sd.n (lk rfl) (V.bin (a := (.u32 _)) (b := (.u32 _)) (r := .u32 _) rfl rfl rfl trivial (Sd.n (lk rfl) (V.mv (v := .p (.u32 _)) rfl (Sd.n (lk rfl) (V.ixArrP10 ty63 ty62 rfl rfl rfl (by first | rfl | omega | (simp; done) | (simp; omega)) rfl (by omega) rfl (Sd.n (lk rfl) (V.ldPtr ty62 rfl rfl rfl (by first | rfl | omega | (simp; done) | (simp; omega)) (v := .p (.u32 _)) rfl (Sd.n (lk rfl) (V.bin (a := (.u32 _)) (b := (.u32 _)) (r := .u32 _) rfl rfl rfl trivial (Sd.n (lk rfl) (V.mv (v := .p (.u32 _)) rfl (Sd.n (lk rfl) (V.ixArrP10 ty63 ty62 rfl rfl rfl (by first | rfl | omega | (simp; done) | (simp; omega)) rfl (by omega) rfl (Sd.n (lk rfl) (V.ldPtr ty62 rfl rfl rfl (by first | rfl | omega | (simp; done) | (simp; omega)) (v := .p (.u32 _)) rfl (Sd.n (lk rfl) (V.bin (a := (.u32 _)) (b := (.u32 _)) (r := .u32 _) rfl rfl rfl trivial (Sd.n (lk rfl) (V.bin (a := (.u32 _)) (b := (.u32 _)) (r := .u32 _) rfl rfl rfl trivial ?_)))))))))))))))))))
    refine Sd.n (lk rfl) (V.ixArrP10 ty63 ty62 rfl rfl rfl (by first | rfl | omega | (simp; done) | (simp; omega)) rfl (by omega) rfl (Sd.n (lk rfl) (V.ldPtr ty62 rfl rfl rfl (by first | rfl | omega | (simp; done) | (simp; omega)) (v := .p (.u32 _)) rfl (Sd.n (lk rfl) (V.ixArrP10 ty63 ty62 rfl rfl rfl (by first | rfl | omega | (simp; done) | (simp; omega)) rfl (by omega) rfl (Sd.n (lk rfl) (V.ldPtr ty62 rfl rfl rfl (by first | rfl | omega | (simp; done) | (simp; omega)) (v := .p (.u32 _)) rfl (Sd.n (lk rfl) (V.bin (a := (.u32 _)) (b := (.u32 _)) (r := .u32 _) rfl rfl rfl trivial (Sd.n (lk rfl) (V.bin (a := (.u32 _)) (b := (.u32 _)) (r := .u32 _) rfl rfl rfl trivial (Sd.n (lk rfl) (V.bin (a := (.u32 _)) (b := (.u32 _)) (r := .u32 _) rfl rfl rfl trivial (Sd.n (lk rfl) (V.as (v := .p (.u32 _)) rfl (Sd.e (HT.region S_rblock_ok ?_)))))))))))))))))
    refine So.q rfl rfl (V.mv (v := .p (.u32 _)) rfl (So.q rfl rfl (V.mv (v := .p (.u32 _)) rfl (So.q rfl rfl (V.bin (a := (.u32 _)) (b := (.u32 _)) (r := .u32 _) rfl rfl rfl trivial (So.q rfl rfl (V.ixArrP10 ty63 ty62 rfl rfl rfl (by first | rfl | omega | (simp; done) | (simp; omega)) rfl (by omega) rfl (So.q rfl rfl (V.ldPtr ty62 rfl rfl rfl (by first | rfl | omega | (simp; done) | (simp; omega)) (v := .p (.u32 _)) rfl (So.q rfl rfl (V.ixArrP10 ty63 ty62 rfl rfl rfl (by first | rfl | omega | (simp; done) | (simp; omega)) rfl (by omega) rfl (So.q rfl rfl (V.ldPtr ty62 rfl rfl rfl (by first | rfl | omega | (simp; done) | (simp; omega)) (v := .p (.u32 _)) rfl (So.q rfl rfl (V.ixArrP10 ty63 ty62 rfl rfl rfl (by first | rfl | omega | (simp; done) | (simp; omega)) rfl (by omega) rfl (So.q rfl rfl (V.ldPtr ty62 rfl rfl rfl (by first | rfl | omega | (simp; done) | (simp; omega)) (v := .p (.u32 _)) rfl (So.q rfl rfl (V.ixArrP10 ty63 ty62 rfl rfl rfl (by first | rfl | omega | (simp; done) | (simp; omega)) rfl (by omega) rfl ?_)))))))))))))))))))
    refine So.q rfl rfl (V.ldPtr ty62 rfl rfl rfl (by first | rfl | omega | (simp; done) | (simp; omega)) (v := .p (.u32 _)) rfl (So.q rfl rfl (V.mv (v := .p (.u32 _)) rfl (So.q rfl rfl (V.bin (a := (.u32 _)) (b := (.u32 _)) (r := .u32 _) rfl rfl rfl trivial (So.q rfl rfl (V.ixArrP10 ty63 ty62 rfl rfl rfl (by first | rfl | omega | (simp; done) | (simp; omega)) rfl (by omega) rfl (So.q rfl rfl (V.ldPtr ty62 rfl rfl rfl (by first | rfl | omega | (simp; done) | (simp; omega)) (v := .p (.u32 _)) rfl (So.q rfl rfl (V.ixArrP10 ty63 ty62 rfl rfl rfl (by first | rfl | omega | (simp; done) | (simp; omega)) rfl (by omega) rfl (So.q rfl rfl (V.ldPtr ty62 rfl rfl rfl (by first | rfl | omega | (simp; done) | (simp; omega)) (v := .p (.u32 _)) rfl (So.q rfl rfl (V.ixArrP10 ty63 ty62 rfl rfl rfl (by first | rfl | omega | (simp; done) | (simp; omega)) rfl (by omega) rfl (So.q rfl rfl (V.ldPtr ty62 rfl rfl rfl (by first | rfl | omega | (simp; done) | (simp; omega)) (v := .p (.u32 _)) rfl (So.n (lk rfl) (A.bldA ty63 rfl rfl ⟨by first | exact trivial | exact rfl | (intro j hj; first | trivial | rfl | (simp [BV.one]; done)), by first | exact trivial | exact rfl | (intro j hj; first | trivial | rfl | (simp [BV.one]; done)), by first | exact trivial | exact rfl | (intro j hj; first | trivial | rfl | (simp [BV.one]; done)), by first | exact trivial | exact rfl | (intro j hj; first | trivial | rfl | (simp [BV.one]; done)), by first | exact trivial | exact rfl | (intro j hj; first | trivial | rfl | (simp [BV.one]; done)), by first | exact trivial | exact rfl | (intro j hj; first | trivial | rfl | (simp [BV.one]; done)), by first | exact trivial | exact rfl | (intro j hj; first | trivial | rfl | (simp [BV.one]; done)), by first | exact trivial | exact rfl | (intro j hj; first | trivial | rfl | (simp [BV.one]; done)), trivial⟩ rfl (f := fun j => .u32 (rounds g (wd b) (q + 1) j)) (by exact allP_spec (P := fun j => _ = _) ⟨⟨⟨⟨⟨⟨⟨⟨trivial, (congrArg (fun x => BV.p (PV.u32 x)) (ref0 (rounds g (wd b) q) (K256.getD q 0) (wd b q)))⟩, rfl⟩, rfl⟩, rfl⟩, (congrArg (fun x => BV.p (PV.u32 x)) (ref4 (rounds g (wd b) q) (K256.getD q 0) (wd b q)))⟩, rfl⟩, rfl⟩, rfl⟩) ?_)))))))))))))))))))
    refine So.s (A.stoAg ty63 rfl (n := 8) rfl (by decide) (by intro j hj; first | rfl | trivial | (match j, hj with | 0, _ => (first | trivial | rfl) | 1, _ => (first | trivial | rfl) | 2, _ => (first | trivial | rfl) | 3, _ => (first | trivial | rfl) | 4, _ => (first | trivial | rfl) | 5, _ => (first | trivial | rfl) | 6, _ => (first | trivial | rfl) | 7, _ => (first | trivial | rfl))) rfl rfl rfl (So.e (HT.region S_rblock_ok (So.q rfl rfl (V.mv (v := .p (.v (.int .i64 ((_ : Nat) : Int)))) rfl (So.q rfl rfl (V.addI rfl rfl (by omega) (So.q rfl rfl (V.as (v := .p (.v (.int .i64 _))) rfl (So.e ?_))))))))))
    refine ⟨q + 1, by first | rfl | omega | (intro j hj; rfl), by omega, ⟨⟨⟨le_int (by first | rfl | omega | (intro j hj; rfl)), trivial⟩, ⟨.refl _, rfl⟩, ⟨.refl _, rfl⟩, ⟨.refl _, rfl⟩, ⟨.refl _, rfl⟩, ⟨.refl _, rfl⟩, trivial⟩, ⟨⟨_, rfl, .inr (ob_rows (by first | rfl | ((try dsimp only); first | rfl | omega | (intro j hj; rfl))) (by first | rfl | ((try dsimp only); first | rfl | omega | (intro j hj; rfl)))), trivial⟩, ⟨_, rfl, .inl rfl, trivial⟩, ⟨_, rfl, .inl rfl, trivial⟩, ⟨_, rfl, .inl rfl, trivial⟩, ⟨_, rfl, .inl rfl, trivial⟩, trivial⟩⟩⟩
   ·have h8 := of_decide_eq_false h8
    refine HT.exit ?_
    show HT _ _ _ _ _
    refine HT.seq (HT.seq (HT.region S_rblock_ok ?_))
    have hq : q = 64 := by omega
    subst hq
    refine So.q rfl rfl (V.as (v := .p (.v (.int .i64 (0)))) rfl (So.e (HT.block ?_)))
    refine R.loop (σ := Nat) (fun r => [(17, .p (.v (.int .i64 ((r : Int)))))]) (fun r => [(1, ⟨63, 1, 8, true, .rows (fun j => .u32 (if j < r then comp g b j else g j))⟩)]) [2, 4, 11] [2, 3, 4, 5] (fun r => r ≤ 8) (fun r => 8 - r) (0) (fr0 := [(2, .ptr 1 0), (4, .ptr 2 0), (11, .ptr 5 0)]) (O0 := [(2, ⟨_, _, _, _, .rows _⟩), (3, ⟨_, _, _, _, .rows _⟩), (4, ⟨_, _, _, _, .rows _⟩), (5, ⟨_, _, _, _, .rows _⟩)]) rfl rfl (by first | rfl | omega | (simp; done) | (simp; omega)) ⟨⟨⟨le_int (by first | rfl | omega | (simp; done) | (intro j hj; simp; done)), trivial⟩, ⟨.refl _, rfl⟩, ⟨.refl _, rfl⟩, ⟨.refl _, rfl⟩, trivial⟩, ⟨⟨_, rfl, .inr (ob_rows (by first | rfl | ((try dsimp only); first | rfl | omega | (simp; done) | (intro j hj; simp; done))) (by first | rfl | ((try dsimp only); first | rfl | omega | (simp; done) | (intro j hj; simp; done)))), trivial⟩, ⟨_, rfl, .inl rfl, trivial⟩, ⟨_, rfl, .inl rfl, trivial⟩, ⟨_, rfl, .inl rfl, trivial⟩, ⟨_, rfl, .inl rfl, trivial⟩, trivial⟩⟩ (fun r hP3 => ?_)
    refine HT.seq (HT.seq (HT.region S_rblock_ok (So.q rfl rfl (V.mv (v := .p (.v (.int .i64 ((_ : Nat) : Int)))) rfl (So.q rfl rfl (V.bin (a := (.v (.int .i64 ((_ : Nat) : Int)))) (b := (.v (.int .i64 (8)))) (r := .v (.bool _)) rfl rfl rfl trivial (So.e ?_)))))))
    show HT _ _ _ _ _
    refine R.cond rfl rfl (fun h15 => ?_) (fun h15 => ?_)
    ·have h15 := of_decide_eq_true h15
     refine HT.skip (HT.seq (HT.block ?_))
     refine HT.tail S_rblock_ok mixed 9 (by kernel_rfl) (by kernel_rfl) ?_
     refine So.q rfl rfl (V.mv (v := .p (.v (.int .i64 ((_ : Nat) : Int)))) rfl (So.q rfl rfl (V.mv (v := .p (.v (.int .i64 ((_ : Nat) : Int)))) rfl (So.q rfl rfl (V.ixArrP10 (mi := r) ty63 ty62 rfl rfl rfl (by first | rfl | omega | (simp; done) | (simp; omega)) rfl (by omega) (by omega) (So.q rfl rfl (V.ldPtr ty62 rfl rfl rfl (by first | rfl | omega | (simp; done) | (simp; omega)) (v := .p (.u32 _)) rfl (So.q rfl rfl (V.mv (v := .p (.v (.int .i64 ((_ : Nat) : Int)))) rfl (So.q rfl rfl (V.ixArrP10 (mi := r) ty63 ty62 rfl rfl rfl (by first | rfl | omega | (simp; done) | (simp; omega)) rfl (by omega) (by omega) (So.q rfl rfl (V.ldPtr ty62 rfl rfl rfl (by first | rfl | omega | (simp; done) | (simp; omega)) (v := .p (.u32 _)) rfl (So.q rfl rfl (V.bin (a := (.u32 _)) (b := (.u32 _)) (r := .u32 _) rfl rfl rfl trivial (So.q rfl rfl (V.ixArrP10 (mi := r) ty63 ty62 rfl rfl rfl (by first | rfl | omega | (simp; done) | (simp; omega)) rfl (by omega) (by omega) (So.s (A.sto ty62 rfl rfl rfl (v := .p (.u32 _)) rfl trivial rfl (by first | rfl | omega | (simp; done) | (simp; omega)) (c' := .rows (fun j => .u32 (if j = r then comp g b r else if j < r then comp g b j else g j))) (congrArg (fun g => some (OC.rows g)) (funext fun j => by by_cases h9 : j = r <;> simp [h9, comp])) rfl ?_)))))))))))))))))))
     refine So.e (HT.region S_rblock_ok (So.q rfl rfl (V.mv (v := .p (.v (.int .i64 ((_ : Nat) : Int)))) rfl (So.q rfl rfl (V.addI rfl rfl (by omega) (So.q rfl rfl (V.as (v := .p (.v (.int .i64 _))) rfl (So.e ?_))))))))
     refine ⟨r + 1, by first | rfl | omega | (simp; done) | (simp; omega), by omega, ⟨⟨⟨le_int (by first | rfl | omega | (simp; done) | (simp; omega)), trivial⟩, ⟨.refl _, rfl⟩, ⟨.refl _, rfl⟩, ⟨.refl _, rfl⟩, trivial⟩, ⟨⟨_, rfl, .inr (ob_rows (by first | rfl | ((try dsimp only); (intro j hj; by_cases h9 : j = r <;> simp [h9] <;> (by_cases h8 : j < r <;> simp [h8] <;> omega)))) (by first | rfl | ((try dsimp only); (intro j hj; by_cases h9 : j = r <;> simp [h9] <;> (by_cases h8 : j < r <;> simp [h8] <;> omega))))), trivial⟩, ⟨_, rfl, .inl rfl, trivial⟩, ⟨_, rfl, .inl rfl, trivial⟩, ⟨_, rfl, .inl rfl, trivial⟩, ⟨_, rfl, .inl rfl, trivial⟩, trivial⟩⟩⟩
    ·have h15 := of_decide_eq_false h15
     refine HT.exit ?_
     show HT _ _ _ _ _
     refine HT.seq (HT.region S_rblock_ok (So.q rfl rfl (V.ldPtrA ty63 rfl rfl rfl rfl (lk rfl) (So.s (A.stoAg ty63 rfl (n := 8) rfl (by decide) (by intro j hj; first | rfl | trivial | (match j, hj with | 0, _ => (first | trivial | rfl) | 1, _ => (first | trivial | rfl) | 2, _ => (first | trivial | rfl) | 3, _ => (first | trivial | rfl) | 4, _ => (first | trivial | rfl) | 5, _ => (first | trivial | rfl) | 6, _ => (first | trivial | rfl) | 7, _ => (first | trivial | rfl))) rfl rfl rfl (So.e ?_))))))
     show HT _ _ _ _ _
     refine HT.ret ?_
     exact retC_ok (sg []) [(4, .ptr 2 0)] [(2, ⟨63, 1, 8, true, .rows (fun j => .u32 (comp g b j))⟩)] h ⟨⟨⟨.refl _, rfl⟩, trivial⟩, ⟨⟨_, rfl, .inr (ob_rows rfl (by intro j hj; first | rfl | ((try dsimp only); (first | rfl | (intro j hj; rw [if_pos (by omega)]) | (rw [if_pos (by omega), Nat.zero_add]))))), trivial⟩, trivial⟩⟩ ⟨rvA_cell ty63 rfl rfl rfl rfl (Nat.le_refl _) (le_agg (fun j _ => by first | rfl | (dsimp only; rw [Nat.zero_add]))), trivial⟩ trivial rfl trivial ⟨trivial, trivial⟩ rfl
end Go.Vh

set_option linter.unusedVariables false
set_option linter.unusedSimpArgs false
namespace Go.Vh
open Go Go.Vc Go.Proofs Go.Vw
def rsumSp : Sp := ⟨[], mkE (α := (List UInt8)) (fun b => [.p (.bs (b))]) (fun b => []) (fun b => b.length ≤ 1099511627776) (fun b => [.own 2 (0) (32)]) (fun b => [(2, ⟨5, 1, 32, true, .bs (sha b)⟩)])⟩
def S_rsum : FuncId → Option Sp := fun f => if f = 53 then some rblockSp else none
theorem S_rsum_ok : ∀ f s, S_rsum f = some s → FOK Tryd.prog gl f s := fun f s h => by
 unfold S_rsum at h
 split at h
 ·rename_i e; cases h; subst e; exact rblock_ok
 cases h
theorem S_rsum_det : ∀ f s, S_rsum f = some s → SpDet s.sp := fun f s h => by
 unfold S_rsum at h
 split at h
 ·cases h; exact mkE_det _ _ _ _ _
 cases h
set_option maxHeartbeats 1000000 in
set_option maxRecDepth 20000 in
theorem rsum_ok : FOK Tryd.prog gl 40 rsumSp := by
 refine FOK.ofE (tyOf_ok Tryd.prog) (slots := [2]) (nt := 78) Tryd.func40 rfl rfl rfl rfl (by decide) 1 (fun _ => rfl) (by decide) (fun _ => ⟨trivial, trivial⟩) ?_
 rintro b kk hlen hpre h
 have hl0 : (b).length ≤ 9223372036854775807 := hlen.1
 replace hpre : b.length ≤ 1099511627776 := hpre
 show HT (cx Tryd.prog 78 (tyOf Tryd.prog) gl []) _ [(0, .p (.bs (b)))] [] _
 have hzl : zlen b.length < 64 := by unfold zlen; omega
 have hEl : (ptx b).length = b.length + (9 + zlen b.length) := by unfold ptx; rw [List.length_append, pad_len]
 have hE64 := ptx_64 b
 refine HT.seq (HT.region S_rsum_ok (So.q rfl rfl (V.as (v := .p (.v (.slice none 0 0))) rfl (So.e (HT.seq (HT.region S_rsum_ok (So.n (lk rfl) (A.bsl 1 ty22 ty5 rfl (lk rfl) (lk rfl) (fun _ => rfl) rfl rfl trivial trivial rfl (N := 0) rfl (c := .bs []) rfl (So.q rfl rfl (V.mv (v := .p (.bs _)) rfl (So.n (lk rfl) (A.apOwn ty22 ty5 rfl rfl rfl rfl (u := .p (.bs _)) rfl rfl (l' := b) (by simp) (mn := b.length) (by simp) (by first | rfl | omega | (simp; done) | (simp; omega)) rfl rfl rfl (So.n (lk rfl) (A.bsl 2 ty22 ty5 rfl (lk rfl) (lk rfl) (fun _ => rfl) rfl rfl trivial ⟨trivial, trivial⟩ rfl (N := 1) rfl (c := .bs [_]) rfl ?_))))))))))))))
 refine So.n (lk rfl) (A.apOwn ty22 ty5 rfl rfl rfl rfl (u := .own 2 0 _) rfl rfl (l' := b ++ [128]) (by simp) (mn := b.length + 1) (by simp) (by first | rfl | omega | (simp; done) | (simp; omega)) rfl rfl rfl (So.q rfl rfl (V.as (v := .own 1 0 _) rfl (So.e (HT.seq (HT.block ?_))))))
 refine R.loop (σ := Nat) (fun s => [(3, .own 1 (0) (b.length + 1 + s))]) (fun s => [(1, ⟨5, 1, b.length + 1 + s, true, .bs (b ++ [128] ++ List.replicate s 0)⟩)]) [0, 2] [2] (fun s => s ≤ zlen b.length) (fun s => zlen b.length - s) (0) (fr0 := [(0, .p (.bs _)), (2, .p (.v (.slice none 0 0)))]) (O0 := [(2, ⟨_, _, _, _, .bs _⟩)]) rfl rfl (by first | rfl | omega | (simp; done) | (simp; omega)) ⟨⟨⟨le_own2 (by first | rfl | omega) (by first | rfl | omega | (simp; done)), rfl⟩, ⟨.refl _, trivial⟩, ⟨.refl _, trivial⟩, trivial⟩, ⟨⟨_, rfl, .inl (ob_bs (by first | rfl | ((try dsimp only); first | rfl | omega | (simp; done))) (by first | rfl | ((try dsimp only); first | rfl | omega | (simp; done)))), trivial⟩, ⟨_, rfl, .inl rfl, trivial⟩, trivial⟩⟩ (fun s hP0 => ?_)
 refine HT.seq (HT.seq (HT.region S_rsum_ok (So.q rfl rfl (V.mv (v := .own 1 0 _) rfl (So.q rfl rfl (V.len ty22 (v := .own 1 0 _) rfl rfl (So.q rfl rfl (V.remI rfl rfl (by omega) (So.q rfl rfl (V.bin (a := (.v (.int .i64 _))) (b := (.v (.int .i64 (56)))) (r := .v (.bool _)) rfl rfl rfl trivial (So.e ?_)))))))))))
 show HT _ _ _ _ _
 refine R.cond rfl rfl (fun h1 => ?_) (fun h1 => ?_)
 ·have h1 := of_decide_eq_false (bnT h1)
  refine HT.skip (HT.block (HT.region S_rsum_ok (So.q rfl rfl (V.mv (v := .own 1 0 _) rfl (So.n (lk rfl) (A.bsl 3 ty22 ty5 rfl (lk rfl) (lk rfl) (fun _ => rfl) rfl rfl trivial ⟨trivial, trivial⟩ rfl (N := 1) rfl (c := .bs [_]) rfl (So.n (lk rfl) (A.apOwn ty22 ty5 rfl rfl rfl rfl (u := .own 3 0 _) rfl rfl (l' := b ++ [128] ++ List.replicate (s + 1) 0) (by rw [ap_full (by simp; omega)]; simp [List.replicate_succ']) (mn := b.length + 1 + (s + 1)) (by first | omega | (simp; done) | (simp; omega)) (by first | rfl | omega | (simp; done) | (simp; omega)) rfl rfl rfl (So.q rfl rfl (V.as (v := .own 1 0 _) rfl (So.e ?_)))))))))))
  refine ⟨s + 1, by unfold zlen at *; omega, by unfold zlen at *; omega, ⟨⟨⟨le_own2 (by first | rfl | omega) (by first | rfl | omega | (simp; done) | (simp; omega)), rfl⟩, ⟨.refl _, trivial⟩, ⟨.refl _, trivial⟩, trivial⟩, ⟨⟨_, rfl, .inl (ob_bs (by first | rfl | ((try dsimp only); first | rfl | omega | (simp; done) | (simp; omega))) (by first | rfl | ((try dsimp only); first | rfl | omega | (simp; done) | (simp; omega)))), trivial⟩, ⟨_, rfl, .inl rfl, trivial⟩, trivial⟩⟩⟩
 ·have h1 := of_decide_eq_true (bnF h1)
  refine HT.exit ?_
  show HT _ _ _ _ _
  refine HT.seq (HT.region S_rsum_ok ?_)
  have hs : s = zlen b.length := by unfold zlen at *; omega
  refine So.q rfl rfl (V.mv (v := .p (.bs _)) rfl (So.q rfl rfl (V.len ty22 (v := .p (.bs _)) rfl rfl (So.q rfl rfl (V.cvN ty66 ty3 (a := (.v (.int .i64 _))) (r := (.u64 _)) rfl rfl (So.q rfl rfl (V.bin (a := (.u64 _)) (b := (.u64 8)) (r := .u64 _) rfl rfl rfl trivial (So.q rfl rfl (V.as (v := .p (.u64 _)) rfl (So.e (HT.seq (HT.seq (HT.region S_rsum_ok (So.q rfl rfl (V.as (v := .p (.v (.int .i64 (56)))) rfl ?_)))))))))))))))
  refine So.e (HT.block ?_)
  refine R.loop (σ := Nat) (fun r => [(3, .own 1 (0) (b.length + 1 + zlen b.length + r)), (5, .p (.v (.int .i64 (56 - 8 * (r : Int)))))]) (fun r => [(1, ⟨5, 1, b.length + 1 + zlen b.length + r, true, .bs (b ++ [128] ++ List.replicate (zlen b.length) 0 ++ len8 (UInt64.ofNat b.length) r)⟩)]) [2, 4] [2] (fun r => r ≤ 8) (fun r => 8 - r) (0) (fr0 := [(2, .p (.v (.slice none 0 0))), (4, .p (.u64 _))]) (O0 := [(2, ⟨_, _, _, _, .bs _⟩)]) rfl rfl (by first | rfl | omega | (simp; done) | (simp; omega)) ⟨⟨⟨le_own2 (by first | rfl | omega) (by first | rfl | omega | (rw [hs]; simp [len8]; done) | (rw [hs])), rfl⟩, ⟨le_int (by first | rfl | omega | (rw [hs]; simp [len8]; done) | (rw [hs])), trivial⟩, ⟨.refl _, trivial⟩, ⟨.refl _, trivial⟩, trivial⟩, ⟨⟨_, rfl, .inl (ob_bs (by first | rfl | ((try dsimp only); first | rfl | omega | (rw [hs]; simp [len8]; done) | (rw [hs]))) (by first | rfl | ((try dsimp only); first | rfl | omega | (rw [hs]; simp [len8]; done) | (rw [hs])))), trivial⟩, ⟨_, rfl, .inl rfl, trivial⟩, trivial⟩⟩ (fun r hP1 => ?_)
  refine HT.seq (HT.seq (HT.region S_rsum_ok (So.q rfl rfl (V.mv (v := .p (.v (.int .i64 _))) rfl (So.q rfl rfl (V.bin (a := (.v (.int .i64 _))) (b := (.v (.int .i64 (0)))) (r := .v (.bool _)) rfl rfl rfl trivial (So.e ?_)))))))
  show HT _ _ _ _ _
  refine R.cond rfl rfl (fun h2 => ?_) (fun h2 => ?_)
  ·have h2 := of_decide_eq_true h2
   refine HT.skip (HT.seq (HT.block (HT.region S_rsum_ok (So.q rfl rfl (V.mv (v := .own 1 0 _) rfl (So.q rfl rfl (V.mv (v := .p (.u64 _)) rfl (So.q rfl rfl (V.mv (v := .p (.v (.int .i64 _))) rfl (So.q rfl rfl (V.bin (a := (.u64 _)) (b := (.v (.int .i64 _))) (r := .u64 _) rfl rfl rfl (by first | rfl | omega | (simp; done) | (simp; omega)) (So.q rfl rfl (V.cvN ty5 ty66 (a := (.u64 _)) (r := (.u8 _)) rfl rfl (So.n (lk rfl) (A.bsl 3 ty22 ty5 rfl (lk rfl) (lk rfl) (fun _ => rfl) rfl rfl trivial ⟨trivial, trivial⟩ rfl (N := 1) rfl (c := .bs [_]) rfl ?_)))))))))))))))
   refine So.n (lk rfl) (A.apOwn ty22 ty5 rfl rfl rfl rfl (u := .own 3 0 _) rfl rfl (l' := b ++ [128] ++ List.replicate (zlen b.length) 0 ++ len8 (UInt64.ofNat b.length) (r + 1)) (by rw [ap_full (by simp [len8_len]; omega)]; rw [mul_shl, u64_ofInt]; simp only [len8, show (56 - 8 * (r : Int)).toNat = 56 - 8 * r by omega]; simp) (mn := b.length + 1 + zlen b.length + (r + 1)) (by first | omega | (simp; done) | (simp; omega)) (by first | rfl | omega | (simp; done) | (simp; omega)) rfl rfl rfl (So.q rfl rfl (V.as (v := .own 1 0 _) rfl (So.e (HT.region S_rsum_ok (So.q rfl rfl (V.mv (v := .p (.v (.int .i64 _))) rfl (So.q rfl rfl (V.subI rfl rfl (by omega) (So.q rfl rfl (V.as (v := .p (.v (.int .i64 _))) rfl (So.e ?_))))))))))))
   refine ⟨r + 1, by first | rfl | omega | (simp; done) | (simp; omega), by omega, ⟨⟨⟨le_own2 (by first | rfl | omega) (by first | rfl | omega | (simp; done) | (simp; omega)), rfl⟩, ⟨le_int (by first | rfl | omega | (simp; done) | (simp; omega)), trivial⟩, ⟨.refl _, trivial⟩, ⟨.refl _, trivial⟩, trivial⟩, ⟨⟨_, rfl, .inl (ob_bs (by first | rfl | ((try dsimp only); first | rfl | omega | (simp; done) | (simp; omega))) (by first | rfl | ((try dsimp only); first | rfl | omega | (simp; done) | (simp; omega)))), trivial⟩, ⟨_, rfl, .inl rfl, trivial⟩, trivial⟩⟩⟩
  ·have h2 := of_decide_eq_false h2
   refine HT.exit ?_
   show HT _ _ _ _ _
   refine HT.seq (HT.region S_rsum_ok (So.n (lk rfl) (A.bldA ty63 rfl rfl ⟨by first | exact trivial | exact rfl | (intro j hj; first | trivial | rfl | (simp [BV.one]; done)), by first | exact trivial | exact rfl | (intro j hj; first | trivial | rfl | (simp [BV.one]; done)), by first | exact trivial | exact rfl | (intro j hj; first | trivial | rfl | (simp [BV.one]; done)), by first | exact trivial | exact rfl | (intro j hj; first | trivial | rfl | (simp [BV.one]; done)), by first | exact trivial | exact rfl | (intro j hj; first | trivial | rfl | (simp [BV.one]; done)), by first | exact trivial | exact rfl | (intro j hj; first | trivial | rfl | (simp [BV.one]; done)), by first | exact trivial | exact rfl | (intro j hj; first | trivial | rfl | (simp [BV.one]; done)), by first | exact trivial | exact rfl | (intro j hj; first | trivial | rfl | (simp [BV.one]; done)), trivial⟩ rfl (f := fun j => .u32 (h0 j)) (by exact allP_spec (P := fun j => _ = _) ⟨⟨⟨⟨⟨⟨⟨⟨trivial, rfl⟩, rfl⟩, rfl⟩, rfl⟩, rfl⟩, rfl⟩, rfl⟩, rfl⟩) (So.n (lk rfl) (A.alloc 3 1 ty63 rfl trivial (f := fun _ => .u32 0) (fun _ _ => rfl) (So.s (A.stoAg ty63 rfl (n := 8) rfl (by decide) (by intro j hj; first | rfl | trivial | (match j, hj with | 0, _ => (first | trivial | rfl) | 1, _ => (first | trivial | rfl) | 2, _ => (first | trivial | rfl) | 3, _ => (first | trivial | rfl) | 4, _ => (first | trivial | rfl) | 5, _ => (first | trivial | rfl) | 6, _ => (first | trivial | rfl) | 7, _ => (first | trivial | rfl))) rfl rfl rfl (So.e (HT.seq (HT.seq (HT.region S_rsum_ok (So.q rfl rfl (V.as (v := .p (.v (.int .i64 (0)))) rfl ?_)))))))))))))
   refine So.e (HT.block ?_)
   refine R.loop (σ := Nat) (fun q => [(3, .own 1 (0) ((ptx b).length)), (7, .p (.v (.int .i64 (64 * (q : Int)))))]) (fun q => [(1, ⟨5, 1, (ptx b).length, true, .bs (ptx b)⟩), (3, ⟨63, 1, 8, true, .rows (fun j => .u32 (stN (ptx b) q j))⟩)]) [2, 6] [2] (fun q => 64 * q ≤ (ptx b).length) (fun q => (ptx b).length - 64 * q) (0) (fr0 := [(2, .p (.v (.slice none 0 0))), (6, .ptr 3 0)]) (O0 := [(2, ⟨_, _, _, _, .bs _⟩)]) rfl rfl (by omega) ⟨⟨⟨le_own2 (by first | rfl | omega) (by first | rfl | omega | (intro j hj; rfl) | (replace hP1 : r = 8 := (by omega); subst hP1; simp [ptx, pad]; done)), rfl⟩, ⟨le_int (by first | rfl | omega | (intro j hj; rfl) | (replace hP1 : r = 8 := (by omega); subst hP1; simp [ptx, pad]; done)), trivial⟩, ⟨.refl _, trivial⟩, ⟨.refl _, rfl⟩, trivial⟩, ⟨⟨_, rfl, .inl (ob_bs (by first | rfl | ((try dsimp only); first | rfl | omega | (intro j hj; rfl) | (replace hP1 : r = 8 := (by omega); subst hP1; simp [ptx, pad]; done))) (by first | rfl | ((try dsimp only); first | rfl | omega | (intro j hj; rfl) | (replace hP1 : r = 8 := (by omega); subst hP1; simp [ptx, pad]; done)))), trivial⟩, ⟨_, rfl, .inr (ob_rows (by first | rfl | ((try dsimp only); first | rfl | omega | (intro j hj; rfl) | (replace hP1 : r = 8 := (by omega); subst hP1; simp [ptx, pad]; done))) (by first | rfl | ((try dsimp only); first | rfl | omega | (intro j hj; rfl) | (replace hP1 : r = 8 := (by omega); subst hP1; simp [ptx, pad]; done)))), trivial⟩, ⟨_, rfl, .inl rfl, trivial⟩, trivial⟩⟩ (fun q hP2 => ?_)
   refine HT.seq (HT.seq (HT.region S_rsum_ok (So.q rfl rfl (V.mv (v := .p (.v (.int .i64 _))) rfl (So.q rfl rfl (V.mv (v := .own 1 0 _) rfl (So.q rfl rfl (V.len ty22 (v := .own 1 0 _) rfl rfl (So.q rfl rfl (V.bin (a := (.v (.int .i64 _))) (b := (.v (.int .i64 _))) (r := .v (.bool _)) rfl rfl rfl trivial (So.e ?_)))))))))))
   show HT _ _ _ _ _
   refine R.cond rfl rfl (fun h3 => ?_) (fun h3 => ?_)
   ·have h3 := of_decide_eq_true h3
    refine HT.skip (HT.seq (HT.block ?_))
    refine HT.tail S_rsum_ok mixed 6 (by kernel_rfl) (by kernel_rfl) ?_
    refine So.q rfl rfl (V.ldPtrA ty63 rfl rfl rfl rfl (lk rfl) (So.q rfl rfl (V.mv (v := .own 1 0 _) rfl (So.q rfl rfl (V.mv (v := .p (.v (.int .i64 _))) rfl (So.q rfl rfl (V.mv (v := .p (.v (.int .i64 _))) rfl (So.q rfl rfl (V.addI rfl rfl (by omega) (So.q rfl rfl (V.cutOwn ty22 ty5 rfl rfl rfl rfl rfl (by omega) (.inl rfl) ?_)))))))))))
    refine So.n (lk rfl) (A.call0 [.agg 8 _, .p (.bs _)] 4 rfl rfl rfl rfl ⟨trivial, trivial, trivial⟩ trivial (_, _) ⟨.refl _, .refl _, trivial⟩ trivial (by first | omega | (simp; done) | (simp; omega)) (Φ := fun _ => True) (fun _ _ => trivial) (.inr ⟨(fun _ _ => trivial), by simp [Hp.scal, OC.scal, PV.scal, BV.scal]⟩) (v := .agg 8 _) rfl (O' := _) rfl (fun h4 => ?_))
    refine So.s (A.stoAg ty63 rfl (n := 8) rfl (by decide) (by intro j hj; first | rfl | trivial | (match j, hj with | 0, _ => (first | trivial | rfl) | 1, _ => (first | trivial | rfl) | 2, _ => (first | trivial | rfl) | 3, _ => (first | trivial | rfl) | 4, _ => (first | trivial | rfl) | 5, _ => (first | trivial | rfl) | 6, _ => (first | trivial | rfl) | 7, _ => (first | trivial | rfl))) rfl rfl rfl (So.e (HT.region S_rsum_ok (So.q rfl rfl (V.mv (v := .p (.v (.int .i64 _))) rfl (So.q rfl rfl (V.addI rfl rfl (by omega) (So.q rfl rfl (V.as (v := .p (.v (.int .i64 _))) rfl (So.e ?_))))))))))
    refine ⟨q + 1, by first | rfl | omega | (simp; done) | (simp; omega), by omega, ⟨⟨⟨le_own2 (by first | rfl | omega) (by first | rfl | omega | (simp; done) | (simp; omega)), rfl⟩, ⟨le_int (by first | rfl | omega | (simp; done) | (simp; omega)), trivial⟩, ⟨.refl _, trivial⟩, ⟨.refl _, rfl⟩, trivial⟩, ⟨⟨_, rfl, .inl (ob_bs (by first | rfl | ((try dsimp only); first | rfl | omega | (simp; done) | (simp; omega))) (by first | rfl | ((try dsimp only); first | rfl | omega | (simp; done) | (simp; omega)))), trivial⟩, ⟨_, rfl, .inr (ob_rows (by first | (intro j hj; simp only [Nat.zero_add, Nat.mul_one, show (64 * (q : Int) + 64).toNat - (64 * (q : Int)).toNat = 64 by omega, show (64 * (q : Int)).toNat = 64 * q by omega]; exact congrArg PV.u32 (rs_1 (by omega) j)) | rfl) (by first | (intro j hj; simp only [Nat.zero_add, Nat.mul_one, show (64 * (q : Int) + 64).toNat - (64 * (q : Int)).toNat = 64 by omega, show (64 * (q : Int)).toNat = 64 * q by omega]; exact congrArg PV.u32 (rs_1 (by omega) j)) | rfl)), trivial⟩, ⟨_, rfl, .inl rfl, trivial⟩, trivial⟩⟩⟩
   ·have h3 := of_decide_eq_false h3
    refine HT.exit ?_
    show HT _ _ _ _ _
    refine HT.seq (HT.region S_rsum_ok (So.q rfl rfl (V.as (v := .p (.v (.slice none 0 0))) rfl (So.e (HT.seq (HT.seq (HT.region S_rsum_ok (So.q rfl rfl (V.as (v := .p (.v (.int .i64 (0)))) rfl (So.e (HT.block ?_)))))))))))
    refine R.phan 8 6 5 1 (.bs []) rfl rfl rfl ⟨rfl, rfl⟩ ?_
    refine R.loop (σ := Nat) (fun r => [(8, .own 6 (0) (4 * r)), (9, .p (.v (.int .i64 ((r : Int)))))]) (fun r => [(6, ⟨5, 1, 4 * r, true, .bs (outN (stN (ptx b) q) r)⟩)]) [2, 6] [1, 2, 3] (fun r => r ≤ 8) (fun r => 8 - r) (0) (fr0 := [(2, .p (.v (.slice none 0 0))), (6, .ptr 3 0)]) (O0 := [(1, ⟨_, _, _, _, .bs _⟩), (2, ⟨_, _, _, _, .bs _⟩), (3, ⟨_, _, _, _, .rows _⟩)]) rfl rfl (by first | rfl | omega | (simp; done) | (simp; omega)) ⟨⟨⟨le_own2 (by first | rfl | omega) (by first | rfl | omega), rfl⟩, ⟨le_int (by first | rfl | omega), trivial⟩, ⟨.refl _, trivial⟩, ⟨.refl _, rfl⟩, trivial⟩, ⟨⟨_, rfl, .inl (ob_bs (by first | rfl | ((try dsimp only); first | rfl | omega)) (by first | rfl | ((try dsimp only); first | rfl | omega))), trivial⟩, ⟨_, rfl, .inl rfl, trivial⟩, ⟨_, rfl, .inl rfl, trivial⟩, ⟨_, rfl, .inl rfl, trivial⟩, trivial⟩⟩ (fun r hP3 => ?_)
    refine HT.seq (HT.seq (HT.region S_rsum_ok (So.q rfl rfl (V.mv (v := .p (.v (.int .i64 ((_ : Nat) : Int)))) rfl (So.q rfl rfl (V.bin (a := (.v (.int .i64 ((_ : Nat) : Int)))) (b := (.v (.int .i64 (8)))) (r := .v (.bool _)) rfl rfl rfl trivial (So.e ?_)))))))
    show HT _ _ _ _ _
    refine R.cond rfl rfl (fun h5 => ?_) (fun h5 => ?_)
    ·have h5 := of_decide_eq_true h5
     refine HT.skip (HT.seq (HT.block ?_))
     refine HT.planS S_rsum_ok S_rsum_det mixed [22] [⟨[0, 1, 2, 3, 4, 5, 6, 7, 8, 9, 10, 11, 12, 13, 14, 15, 16, 17, 18, 19], 20, [0]⟩, ⟨[0], 21, []⟩] (by kernel_rfl) ?_
     refine Pl.lk ?_
     refine Si.n rfl (lk rfl) (V.mv (v := .own 6 0 _) rfl (Si.n rfl (lk rfl) (V.mv (v := .p (.v (.int .i64 ((_ : Nat) : Int)))) rfl (Si.n rfl (lk rfl) (V.ixArrP10 (mi := r) ty63 ty62 rfl rfl rfl (by first | rfl | omega | (simp; done) | (simp; omega)) rfl (by omega) (by omega) (Si.n rfl (lk rfl) (V.ldPtr ty62 rfl rfl rfl (by first | rfl | omega | (simp; done) | (simp; omega)) (v := .p (.u32 _)) rfl (Si.n rfl (lk rfl) (V.shrC (n := 24) (a := (.u32 _)) (b := (.u64 24)) (r := .u32 (u32Shr _ 24)) rfl rfl rfl rfl (Si.n rfl (lk rfl) (V.cvN ty5 ty62 (a := (.u32 _)) (r := (.u8 _)) rfl rfl (Si.n rfl (lk rfl) (V.mv (v := .p (.v (.int .i64 ((_ : Nat) : Int)))) rfl (Si.n rfl (lk rfl) (V.ixArrP10 (mi := r) ty63 ty62 rfl rfl rfl (by first | rfl | omega | (simp; done) | (simp; omega)) rfl (by omega) (by omega) (Si.n rfl (lk rfl) (V.ldPtr ty62 rfl rfl rfl (by first | rfl | omega | (simp; done) | (simp; omega)) (v := .p (.u32 _)) rfl (Si.n rfl (lk rfl) (V.shrC (n := 16) (a := (.u32 _)) (b := (.u64 16)) (r := .u32 (u32Shr _ 16)) rfl rfl rfl rfl ?_)))))))))))))))))))
     refine Si.n rfl (lk rfl) (V.cvN ty5 ty62 (a := (.u32 _)) (r := (.u8 _)) rfl rfl (Si.n rfl (lk rfl) (V.mv (v := .p (.v (.int .i64 ((_ : Nat) : Int)))) rfl (Si.n rfl (lk rfl) (V.ixArrP10 (mi := r) ty63 ty62 rfl rfl rfl (by first | rfl | omega | (simp; done) | (simp; omega)) rfl (by omega) (by omega) (Si.n rfl (lk rfl) (V.ldPtr ty62 rfl rfl rfl (by first | rfl | omega | (simp; done) | (simp; omega)) (v := .p (.u32 _)) rfl (Si.n rfl (lk rfl) (V.shrC (n := 8) (a := (.u32 _)) (b := (.u64 8)) (r := .u32 (u32Shr _ 8)) rfl rfl rfl rfl (Si.n rfl (lk rfl) (V.cvN ty5 ty62 (a := (.u32 _)) (r := (.u8 _)) rfl rfl (Si.n rfl (lk rfl) (V.mv (v := .p (.v (.int .i64 ((_ : Nat) : Int)))) rfl (Si.n rfl (lk rfl) (V.ixArrP10 (mi := r) ty63 ty62 rfl rfl rfl (by first | rfl | omega | (simp; done) | (simp; omega)) rfl (by omega) (by omega) (Si.n rfl (lk rfl) (V.ldPtr ty62 rfl rfl rfl (by first | rfl | omega | (simp; done) | (simp; omega)) (v := .p (.u32 _)) rfl (Si.n rfl (lk rfl) (V.cvN ty5 ty62 (a := (.u32 _)) (r := (.u8 _)) rfl rfl ?_)))))))))))))))))))
     refine Si.e ?_
     refine ⟨flEq_nil, fun ff => ?_⟩
     refine Lo.n rfl (lk rfl) (A.bsl 7 ty22 ty5 rfl (lk rfl) (lk rfl) (fun _ => rfl) rfl rfl trivial ⟨trivial, trivial, trivial, trivial, trivial⟩ rfl (N := 4) rfl (c := .bs [_, _, _, _]) rfl ?_)
     refine ⟨_, fun ff => ff, ap0d, rfl, FG.id, ?_⟩
     show planA _ _ _ _ _ [(0, .own 6 0 _)] _ _ _
     refine Pl.l0 ?_
     refine Si.n rfl (lk rfl) (V.mv (v := .own 6 0 _) rfl (Si.e ?_))
     refine ⟨(flEq_cons rfl flEq_nil), ?_⟩
     refine Lo.n rfl (lk rfl) (A.apOwn ty22 ty5 rfl rfl rfl rfl (u := .own 7 0 _) rfl rfl (l' := outN (stN (ptx b) q) (r + 1)) (by rw [ap_full (by rw [outN_len]; omega)]; simp [outN, w4]) (mn := 4 * (r + 1)) (by first | omega | (simp; done) | (simp; omega)) (by first | rfl | omega | (simp; done) | (simp; omega)) rfl rfl rfl ?_)
     refine Pl.e ?_
     refine Si.n rfl (lk rfl) (V.as (v := .own 6 0 _) rfl (Si.e ?_))
     refine ⟨flEq_nil, ?_⟩
     show HT _ _ _ _ _
     refine HT.region S_rsum_ok (So.q rfl rfl (V.mv (v := .p (.v (.int .i64 ((_ : Nat) : Int)))) rfl (So.q rfl rfl (V.addI rfl rfl (by omega) (So.q rfl rfl (V.as (v := .p (.v (.int .i64 _))) rfl (So.e ?_)))))))
     refine ⟨r + 1, by first | rfl | omega | (simp; done) | (simp; omega), by omega, ⟨⟨⟨le_own2 (by first | rfl | omega) (by first | rfl | omega | (simp; done) | (simp; omega)), rfl⟩, ⟨le_int (by first | rfl | omega | (simp; done) | (simp; omega)), trivial⟩, ⟨.refl _, trivial⟩, ⟨.refl _, rfl⟩, trivial⟩, ⟨⟨_, rfl, .inl (ob_bs (by first | rfl | ((try dsimp only); first | rfl | omega | (simp; done) | (simp; omega))) (by first | rfl | ((try dsimp only); first | rfl | omega | (simp; done) | (simp; omega)))), trivial⟩, ⟨_, rfl, .inl rfl, trivial⟩, ⟨_, rfl, .inl rfl, trivial⟩, ⟨_, rfl, .inl rfl, trivial⟩, trivial⟩⟩⟩
    ·have h5 := of_decide_eq_false h5
     refine HT.exit ?_
     show HT _ _ _ _ _
     refine HT.seq (HT.region S_rsum_ok (So.q rfl rfl (V.mv (v := .own 6 0 _) rfl (So.q rfl rfl (V.as (v := .own 6 0 _) rfl (So.e ?_))))))
     show HT _ _ _ _ _
     refine HT.ret ?_
     exact ret_ok (sg [(2, 6)]) h rfl rfl rfl ⟨trivial, trivial⟩ ⟨rfl, trivial⟩ rfl ⟨⟨⟨le_own2 (by first | rfl | omega) (by first | rfl | (replace hP3 : r = 8 := (by omega); subst hP3; first | rfl | (unfold sha; rw [show (ptx b).length / 64 = q by omega]))), rfl⟩, trivial⟩, ⟨⟨_, rfl, .inl (ob_bs (by first | rfl | ((try dsimp only); (first | rfl | (replace hP3 : r = 8 := (by omega); subst hP3; first | rfl | (unfold sha; rw [show (ptx b).length / 64 = q by omega]))))) (by first | rfl | ((try dsimp only); (first | rfl | (replace hP3 : r = 8 := (by omega); subst hP3; first | rfl | (unfold sha; rw [show (ptx b).length / 64 = q by omega])))))), trivial⟩, trivial⟩⟩
end Go.Vh

set_option linter.unusedVariables false
set_option linter.unusedSimpArgs false
namespace Go.Vh
open Go Go.Vc Go.Proofs Go.Vw
def rmacSp : Sp := ⟨[], mkE (α := (List UInt8) × (List UInt8)) (fun (k, t) => [.p (.bs (k)), .p (.bs (t))]) (fun (k, t) => []) (fun (k, t) => k.length ≤ 1000000000 ∧ t.length ≤ 1000000000) (fun (k, t) => [.own 2 (0) (32)]) (fun (k, t) => [(2, ⟨5, 1, 32, true, .bs (mac k t)⟩)])⟩
def S_rmac : FuncId → Option Sp := fun f => if f = 40 then some rsumSp else none
theorem S_rmac_ok : ∀ f s, S_rmac f = some s → FOK Tryd.prog gl f s := fun f s h => by
 unfold S_rmac at h
 split at h
 ·rename_i e; cases h; subst e; exact rsum_ok
 cases h
set_option maxHeartbeats 1000000 in
set_option maxRecDepth 20000 in
theorem rmac_ok : FOK Tryd.prog gl 25 rmacSp := by
 refine FOK.ofE (tyOf_ok Tryd.prog) (slots := [4]) (nt := 47) Tryd.func25 rfl rfl rfl rfl (by decide) 2 (fun ⟨_, _⟩ => rfl) (by decide) (fun ⟨_, _⟩ => ⟨trivial, trivial, trivial⟩) ?_
 rintro ⟨k, t⟩ kk hlen hpre h
 have hl0 : (k).length ≤ 9223372036854775807 := hlen.1
 have hl1 : (t).length ≤ 9223372036854775807 := hlen.2.1
 replace hpre : k.length ≤ 1000000000 ∧ t.length ≤ 1000000000 := hpre
 show HT (cx Tryd.prog 47 (tyOf Tryd.prog) gl []) _ [(0, .p (.bs (k))), (1, .p (.bs (t)))] [] _
 have hk0 := key0_le k
 have hp1 := padF_len (key0 k) 54
 have hp2 := padF_len (key0 k) 92
 have hs0 := sha_len (padF (key0 k) 54 ++ t)
 refine HT.seq (HT.region S_rmac_ok (So.q rfl rfl (V.as (v := .p (.v (.slice none 0 0))) rfl (So.e (HT.seq (HT.region S_rmac_ok (So.n (lk rfl) (A.bsl 1 ty22 ty5 rfl (lk rfl) (lk rfl) (fun _ => rfl) rfl rfl trivial trivial rfl (N := 0) rfl (c := .bs []) rfl (So.q rfl rfl (V.mv (v := .p (.bs _)) rfl (So.n (lk rfl) (A.apOwn ty22 ty5 rfl rfl rfl rfl (u := .p (.bs _)) rfl rfl (l' := k) (by simp) (mn := k.length) (by simp) (by first | rfl | omega | (simp; done) | (simp; omega)) rfl rfl rfl (So.q rfl rfl (V.as (v := .own 1 0 _) rfl ?_))))))))))))))
 refine So.e ?_
 show HT _ _ _ _ _
 refine HT.frzS 1 rfl rfl rfl ?_
 show HT _ _ _ _ _
 refine R.cut (True) [(5, .p (.bs (key0 k)))] [] [1, 4] [] (fr0 := [(1, .p (.bs _)), (4, .p (.v (.slice none 0 0)))]) (O0 := []) rfl rfl ?_ (fun hphi => ?_)
 ·refine HT.seq ?_
  refine R.tell [(5, .p (.bs (k)))] [] [1, 4] [] (fr0 := [(1, .p (.bs _)), (4, .p (.v (.slice none 0 0)))]) (O0 := []) rfl rfl ⟨⟨⟨le_bs (by first | rfl | exact take_full _), trivial⟩, ⟨.refl _, trivial⟩, ⟨.refl _, trivial⟩, trivial⟩, trivial⟩ ?_
  show HT _ _ _ _ _
  refine HT.region S_rmac_ok (So.q rfl rfl (V.mv (v := .p (.bs _)) rfl (So.q rfl rfl (V.len ty22 (v := .p (.bs _)) rfl rfl (So.q rfl rfl (V.bin (a := (.v (.int .i64 _))) (b := (.v (.int .i64 (64)))) (r := .v (.bool _)) rfl rfl rfl trivial (So.e ?_)))))))
  show HT _ _ _ _ _
  refine R.cond rfl rfl (fun h1 => ?_) (fun h1 => ?_)
  ·have h1 := of_decide_eq_true h1
   refine HT.region S_rmac_ok (So.q rfl rfl (V.mv (v := .p (.bs _)) rfl ?_))
   refine So.n (lk rfl) (A.call0F S_rmac_ok [.p (.bs _)] 1 rfl rfl rfl rfl ⟨trivial, trivial⟩ trivial _ ⟨.refl _, trivial⟩ trivial (by first | omega | (simp; done) | (simp; omega)) (Φ := fun _ => True) (fun _ _ => trivial) (.inl rfl) (t := 3) (off := 0) rfl (O' := (3, ⟨5, 1, _, true, .bs _⟩) :: _) rfl rfl rfl (y := .p (.bs _)) rfl rfl (fun h2 => ?_))
   refine So.q rfl rfl (V.as (v := .p (.bs _)) rfl (So.e ?_))
   exact ⟨by first | trivial | (unfold key0; rw [if_pos (by omega)]; rfl) | (unfold key0; rw [if_pos (by omega), ap_sha k]; done) | (unfold key0; rw [if_neg (by omega)]; done) | (unfold key0; rw [if_neg (by omega)]; simp; done), ⟨⟨⟨le_bs (by first | trivial | (unfold key0; rw [if_pos (by omega)]; rfl) | (unfold key0; rw [if_pos (by omega), ap_sha k]; done) | (unfold key0; rw [if_neg (by omega)]; done) | (unfold key0; rw [if_neg (by omega)]; simp; done)), trivial⟩, ⟨.refl _, trivial⟩, ⟨.refl _, trivial⟩, trivial⟩, trivial⟩⟩
  ·have h1 := of_decide_eq_false h1
   refine HT.skip ?_
   exact ⟨by first | trivial | (unfold key0; rw [if_pos (by omega)]; rfl) | (unfold key0; rw [if_pos (by omega), ap_sha k]; done) | (unfold key0; rw [if_neg (by omega)]; done) | (unfold key0; rw [if_neg (by omega)]; simp; done), ⟨⟨⟨le_bs (by first | trivial | (unfold key0; rw [if_pos (by omega)]; rfl) | (unfold key0; rw [if_pos (by omega), ap_sha k]; done) | (unfold key0; rw [if_neg (by omega)]; done) | (unfold key0; rw [if_neg (by omega)]; simp; done)), trivial⟩, ⟨.refl _, trivial⟩, ⟨.refl _, trivial⟩, trivial⟩, trivial⟩⟩
 ·refine HT.seq ?_
  refine HT.region S_rmac_ok (So.q rfl rfl (V.as (v := .p (.v (.slice none 0 0))) rfl (So.e (HT.seq (HT.region S_rmac_ok (So.q rfl rfl (V.as (v := .p (.v (.slice none 0 0))) rfl (So.e (HT.seq (HT.seq (HT.region S_rmac_ok ?_)))))))))))
  refine So.q rfl rfl (V.as (v := .p (.v (.int .i64 (0)))) rfl (So.e (HT.block ?_)))
  refine R.phan 6 6 5 1 (.bs []) rfl rfl rfl ⟨rfl, rfl⟩ ?_
  refine R.phan 7 7 5 1 (.bs []) rfl rfl rfl ⟨rfl, rfl⟩ ?_
  refine R.loop (σ := Nat) (fun s => [(6, .own 6 (0) (s)), (7, .own 7 (0) (s)), (8, .p (.v (.int .i64 ((s : Int)))))]) (fun s => [(6, ⟨5, 1, s, true, .bs (padN (key0 k) 54 s)⟩), (7, ⟨5, 1, s, true, .bs (padN (key0 k) 92 s)⟩)]) [1, 4, 5] [] (fun s => s ≤ 64) (fun s => 64 - s) (0) (fr0 := [(1, .p (.bs _)), (4, .p (.v (.slice none 0 0))), (5, .p (.bs _))]) (O0 := []) rfl rfl (by first | rfl | omega | (simp; done) | (simp; omega)) ⟨⟨⟨le_own2 (by first | rfl | omega) (by first | rfl | omega), rfl⟩, ⟨le_own2 (by first | rfl | omega) (by first | rfl | omega), rfl⟩, ⟨le_int (by first | rfl | omega), trivial⟩, ⟨.refl _, trivial⟩, ⟨.refl _, trivial⟩, ⟨.refl _, trivial⟩, trivial⟩, ⟨⟨_, rfl, .inl (ob_bs (by first | rfl | ((try dsimp only); first | rfl | omega)) (by first | rfl | ((try dsimp only); first | rfl | omega))), trivial⟩, ⟨_, rfl, .inl (ob_bs (by first | rfl | ((try dsimp only); first | rfl | omega)) (by first | rfl | ((try dsimp only); first | rfl | omega))), trivial⟩, trivial⟩⟩ (fun s hP0 => ?_)
  refine HT.seq (HT.seq (HT.region S_rmac_ok (So.q rfl rfl (V.mv (v := .p (.v (.int .i64 ((_ : Nat) : Int)))) rfl (So.q rfl rfl (V.bin (a := (.v (.int .i64 ((_ : Nat) : Int)))) (b := (.v (.int .i64 (64)))) (r := .v (.bool _)) rfl rfl rfl trivial (So.e ?_)))))))
  show HT _ _ _ _ _
  refine R.cond rfl rfl (fun h3 => ?_) (fun h3 => ?_)
  ·have h3 := of_decide_eq_true h3
   refine HT.skip (HT.seq (HT.block (HT.seq (HT.region S_rmac_ok (So.q rfl rfl (V.as (v := .p (.u8 0)) rfl (So.e ?_)))))))
   show HT _ _ _ _ _
   refine R.cut (True) [(9, .p (.u8 ((key0 k).getD s 0)))] [] [1, 4, 5, 6, 7, 8] [6, 7] (fr0 := [(1, .p (.bs _)), (4, .p (.v (.slice none 0 0))), (5, .p (.bs _)), (6, .own 6 0 _), (7, .own 7 0 _), (8, .p (.v (.int .i64 ((_ : Nat) : Int))))]) (O0 := [(6, ⟨_, _, _, _, .bs _⟩), (7, ⟨_, _, _, _, .bs _⟩)]) rfl rfl ?_ (fun hphi => ?_)
   ·refine HT.seq ?_
    refine HT.region S_rmac_ok (So.q rfl rfl (V.mv (v := .p (.v (.int .i64 ((_ : Nat) : Int)))) rfl (So.q rfl rfl (V.mv (v := .p (.bs _)) rfl (So.q rfl rfl (V.len ty22 (v := .p (.bs _)) rfl rfl (So.q rfl rfl (V.bin (a := (.v (.int .i64 ((_ : Nat) : Int)))) (b := (.v (.int .i64 _))) (r := .v (.bool _)) rfl rfl rfl trivial (So.e ?_)))))))))
    show HT _ _ _ _ _
    refine R.cond rfl rfl (fun h4 => ?_) (fun h4 => ?_)
    ·have h4 := of_decide_eq_true h4
     refine HT.region S_rmac_ok (So.q rfl rfl (V.mv (v := .p (.bs _)) rfl (So.q rfl rfl (V.mv (v := .p (.v (.int .i64 ((_ : Nat) : Int)))) rfl (So.q rfl rfl (V.ixBs (mi := s) ty22 ty5 rfl rfl rfl (by omega) (by omega) (So.q rfl rfl (V.ldRp ty5 rfl rfl (lk rfl) (v := (.u8 _)) rfl (So.q rfl rfl (V.as (v := .p (.u8 _)) rfl (So.e ?_)))))))))))
     exact ⟨by first | rfl | trivial | (rw [List.getD_eq_getElem?_getD, List.getElem?_eq_none (by omega)]; rfl), ⟨⟨⟨le_u8 (by first | rfl | trivial | (rw [List.getD_eq_getElem?_getD, List.getElem?_eq_none (by omega)]; rfl)), trivial⟩, ⟨.refl _, trivial⟩, ⟨.refl _, trivial⟩, ⟨.refl _, trivial⟩, ⟨.refl _, rfl⟩, ⟨.refl _, rfl⟩, ⟨.refl _, trivial⟩, trivial⟩, ⟨⟨_, rfl, .inl rfl, trivial⟩, ⟨_, rfl, .inl rfl, trivial⟩, trivial⟩⟩⟩
    ·have h4 := of_decide_eq_false h4
     refine HT.skip ?_
     exact ⟨by first | rfl | trivial | (rw [List.getD_eq_getElem?_getD, List.getElem?_eq_none (by omega)]; rfl), ⟨⟨⟨le_u8 (by first | rfl | trivial | (rw [List.getD_eq_getElem?_getD, List.getElem?_eq_none (by omega)]; rfl)), trivial⟩, ⟨.refl _, trivial⟩, ⟨.refl _, trivial⟩, ⟨.refl _, trivial⟩, ⟨.refl _, rfl⟩, ⟨.refl _, rfl⟩, ⟨.refl _, trivial⟩, trivial⟩, ⟨⟨_, rfl, .inl rfl, trivial⟩, ⟨_, rfl, .inl rfl, trivial⟩, trivial⟩⟩⟩
   ·refine HT.seq ?_
    refine HT.region S_rmac_ok (So.q rfl rfl (V.mv (v := .own 6 0 _) rfl (So.q rfl rfl (V.mv (v := .p (.u8 _)) rfl (So.q rfl rfl (V.bin (a := (.u8 _)) (b := (.u8 54)) (r := .u8 _) rfl rfl rfl trivial (So.n (lk rfl) (A.bsl 8 ty22 ty5 rfl (lk rfl) (lk rfl) (fun _ => rfl) rfl rfl trivial ⟨trivial, trivial⟩ rfl (N := 1) rfl (c := .bs [_]) rfl (So.n (lk rfl) (A.apOwn ty22 ty5 rfl rfl rfl rfl (u := .own 8 0 _) rfl rfl (l' := padN (key0 k) 54 (s + 1)) (by rw [ap_full (by rw [padN_len]; exact Nat.le_refl _)]; exact padN_succ (by first | rfl | omega)) (mn := s + 1) (by rfl) (by first | rfl | omega | (simp; done) | (simp; omega)) rfl rfl rfl (So.q rfl rfl (V.as (v := .own 6 0 _) rfl (So.e (HT.region S_rmac_ok (So.q rfl rfl (V.mv (v := .own 7 0 _) rfl ?_))))))))))))))))
    refine So.q rfl rfl (V.mv (v := .p (.u8 _)) rfl (So.q rfl rfl (V.bin (a := (.u8 _)) (b := (.u8 92)) (r := .u8 _) rfl rfl rfl trivial (So.n (lk rfl) (A.bsl 9 ty22 ty5 rfl (lk rfl) (lk rfl) (fun _ => rfl) rfl rfl trivial ⟨trivial, trivial⟩ rfl (N := 1) rfl (c := .bs [_]) rfl (So.n (lk rfl) (A.apOwn ty22 ty5 rfl rfl rfl rfl (u := .own 9 0 _) rfl rfl (l' := padN (key0 k) 92 (s + 1)) (by rw [ap_full (by rw [padN_len]; exact Nat.le_refl _)]; exact padN_succ (by first | rfl | omega)) (mn := s + 1) (by rfl) (by first | rfl | omega | (simp; done) | (simp; omega)) rfl rfl rfl (So.q rfl rfl (V.as (v := .own 7 0 _) rfl (So.e (HT.region S_rmac_ok (So.q rfl rfl (V.mv (v := .p (.v (.int .i64 ((_ : Nat) : Int)))) rfl (So.q rfl rfl (V.addI rfl rfl (by omega) (So.q rfl rfl (V.as (v := .p (.v (.int .i64 _))) rfl ?_)))))))))))))))))
    refine So.e ?_
    refine ⟨s + 1, by first | rfl | omega | (simp; done) | (simp; omega), by omega, ⟨⟨⟨le_own2 (by first | rfl | omega) (by first | rfl | omega | (simp; done) | (simp; omega)), rfl⟩, ⟨le_own2 (by first | rfl | omega) (by first | rfl | omega | (simp; done) | (simp; omega)), rfl⟩, ⟨le_int (by first | rfl | omega | (simp; done) | (simp; omega)), trivial⟩, ⟨.refl _, trivial⟩, ⟨.refl _, trivial⟩, ⟨.refl _, trivial⟩, trivial⟩, ⟨⟨_, rfl, .inl (ob_bs (by first | rfl | ((try dsimp only); first | rfl | omega | (simp; done) | (simp; omega))) (by first | rfl | ((try dsimp only); first | rfl | omega | (simp; done) | (simp; omega)))), trivial⟩, ⟨_, rfl, .inl (ob_bs (by first | rfl | ((try dsimp only); first | rfl | omega | (simp; done) | (simp; omega))) (by first | rfl | ((try dsimp only); first | rfl | omega | (simp; done) | (simp; omega)))), trivial⟩, trivial⟩⟩⟩
  ·have h3 := of_decide_eq_false h3
   refine HT.exit ?_
   show HT _ _ _ _ _
   refine HT.seq ?_
   replace hP0 : s = 64 := (by omega)
   subst hP0
   refine R.tell [] [(6, ⟨5, 1, 64, true, .bs (padF (key0 k) 54)⟩), (7, ⟨5, 1, 64, true, .bs (padF (key0 k) 92)⟩)] [1, 4, 6, 7] [] (fr0 := [(1, .p (.bs _)), (4, .p (.v (.slice none 0 0))), (6, .own 6 0 _), (7, .own 7 0 _)]) (O0 := []) rfl rfl ⟨⟨⟨.refl _, trivial⟩, ⟨.refl _, trivial⟩, ⟨.refl _, rfl⟩, ⟨.refl _, rfl⟩, trivial⟩, ⟨⟨_, rfl, .inl (ob_bs (by rfl) (by exact padN_64 _ _)), trivial⟩, ⟨_, rfl, .inl (ob_bs (by rfl) (by exact padN_64 _ _)), trivial⟩, trivial⟩⟩ ?_
   show HT _ _ _ _ _
   refine HT.region S_rmac_ok (So.q rfl rfl (V.mv (v := .own 7 0 _) rfl (So.q rfl rfl (V.mv (v := .own 6 0 _) rfl (So.q rfl rfl (V.mv (v := .p (.bs _)) rfl (So.n (lk rfl) (A.apOwn ty22 ty5 rfl rfl rfl rfl (u := .p (.bs _)) rfl rfl (l' := padF (key0 k) 54 ++ t) (by rw [ap_full (by rw [padF_len]; exact Nat.le_refl _)]) (mn := 64 + t.length) (by rfl) (by first | rfl | omega | (simp; done) | (simp; omega)) rfl rfl rfl ?_))))))))
   refine So.n (lk rfl) (A.call0 [.p (.bs _)] 8 rfl rfl rfl rfl ⟨trivial, trivial⟩ trivial (padF (key0 k) 54 ++ t) ⟨le_bs (by rw [List.drop_zero, List.take_of_length_le (by rw [List.length_append]; omega)]), trivial⟩ trivial (by first | omega | (simp; done) | (simp; omega)) (Φ := fun _ => True) (fun _ _ => trivial) (.inr ⟨trivial, by simp [Hp.scal, OC.scal, PV.scal, BV.scal]⟩) (v := .own 10 0 _) rfl (O' := (10, ⟨5, 1, _, true, .bs _⟩) :: _) rfl (fun h5 => ?_))
   refine So.n (lk rfl) (A.apOwn ty22 ty5 rfl rfl rfl rfl (u := .own 10 0 _) rfl rfl (l' := padF (key0 k) 92 ++ sha (padF (key0 k) 54 ++ t)) (by rw [ap_full (by rw [padF_len]; exact Nat.le_refl _)]; first | rfl | (rw [List.drop_zero, List.take_of_length_le (by rw [sha_len]; omega)])) (mn := 96) (by rfl) (by first | rfl | omega | (simp; done) | (simp; omega)) rfl rfl rfl ?_)
   refine So.n (lk rfl) (A.call0 [.p (.bs _)] 11 rfl rfl rfl rfl ⟨trivial, trivial⟩ trivial (padF (key0 k) 92 ++ sha (padF (key0 k) 54 ++ t)) ⟨le_bs (by rw [List.drop_zero, List.take_of_length_le (by rw [List.length_append]; omega)]), trivial⟩ trivial (by first | omega | (simp; done) | (simp; omega)) (Φ := fun _ => True) (fun _ _ => trivial) (.inr ⟨trivial, by simp [Hp.scal, OC.scal, PV.scal, BV.scal]⟩) (v := .own 13 0 _) rfl (O' := (13, ⟨5, 1, _, true, .bs _⟩) :: _) rfl (fun h6 => ?_))
   refine So.q rfl rfl (V.as (v := .own 13 0 _) rfl (So.e ?_))
   show HT _ _ _ _ _
   refine HT.ret ?_
   exact ret_ok (sg [(2, 13)]) h rfl rfl rfl ⟨trivial, trivial⟩ ⟨rfl, trivial⟩ rfl ⟨⟨⟨le_own2 (by first | rfl | omega) (by first | rfl | (show (_ : List UInt8) = _; rw [mac_def])), rfl⟩, trivial⟩, ⟨⟨_, rfl, .inl (ob_bs (by first | rfl | ((try dsimp only); (first | rfl | (show (_ : List UInt8) = _; rw [mac_def])))) (by first | rfl | ((try dsimp only); (first | rfl | (show (_ : List UInt8) = _; rw [mac_def]))))), trivial⟩, trivial⟩⟩
end Go.Vh

set_option linter.unusedVariables false
set_option linter.unusedSimpArgs false
namespace Go.Vh
open Go Go.Vc Go.Proofs Go.Vw
def rexpandSp : Sp := ⟨[], mkE (α := (List UInt8) × (List UInt8) × Int) (fun (k, i, n) => [.p (.bs (k)), .p (.bs (i)), .p (.v (.int .i64 (n)))]) (fun (k, i, n) => []) (fun (k, i, n) => k.length ≤ 1000000000 ∧ i.length ≤ 900000000) (fun (k, i, n) => [.own 2 (0) ((expandN k i n).length)]) (fun (k, i, n) => [(2, ⟨5, 1, (expandN k i n).length, true, .bs (expandN k i n)⟩)])⟩
def S_rexpand : FuncId → Option Sp := fun f => if f = 25 then some rmacSp else none
theorem S_rexpand_ok : ∀ f s, S_rexpand f = some s → FOK Tryd.prog gl f s := fun f s h => by
 unfold S_rexpand at h
 split at h
 ·rename_i e; cases h; subst e; exact rmac_ok
 cases h
set_option maxHeartbeats 1000000 in
set_option maxRecDepth 20000 in
theorem rexpand_ok : FOK Tryd.prog gl 38 rexpandSp := by
 refine FOK.ofE (tyOf_ok Tryd.prog) (slots := [6]) (nt := 41) Tryd.func38 rfl rfl rfl rfl (by decide) 3 (fun ⟨_, _, _⟩ => rfl) (by decide) (fun ⟨_, _, _⟩ => ⟨trivial, trivial, trivial, trivial⟩) ?_
 rintro ⟨k, i, n⟩ kk hlen hpre h
 have hl0 : (k).length ≤ 9223372036854775807 := hlen.1
 have hl1 : (i).length ≤ 9223372036854775807 := hlen.2.1
 replace hpre : k.length ≤ 1000000000 ∧ i.length ≤ 900000000 := hpre
 show HT (cx Tryd.prog 41 (tyOf Tryd.prog) gl []) _ [(0, .p (.bs (k))), (1, .p (.bs (i))), (2, .p (.v (.int .i64 (n))))] [] _
 refine HT.seq (HT.region S_rexpand_ok (So.q rfl rfl (V.as (v := .p (.v (.slice none 0 0))) rfl (So.e (HT.seq (HT.seq (HT.region S_rexpand_ok (So.q rfl rfl (V.mv (v := .p (.v (.int .i64 _))) rfl (So.q rfl rfl (V.bin (a := (.v (.int .i64 _))) (b := (.v (.int .i64 (0)))) (r := .v (.bool _)) rfl rfl rfl trivial (So.q rfl rfl (V.mv (v := .p (.v (.bool _))) rfl ?_)))))))))))))
 refine So.gd rfl rfl (lk rfl) (lk rfl) (fun h1 => ?_) (fun h1 => ?_)
 ·have h1 := of_decide_eq_false h1
  refine A.v rfl (V.mv (v := .p (.v (.int .i64 _))) rfl (So.gy rfl rfl (lk rfl) (lk rfl) (A.v rfl (V.bin (a := (.v (.int .i64 _))) (b := (.v (.int .i64 (8160)))) (r := .v (.bool _)) rfl rfl rfl trivial (So.q rfl rfl (V.pkFalse (u := .p (.v (.bool _))) rfl rfl (So.e ?_)))))))
  show HT _ _ _ _ _
  refine R.cond rfl rfl (fun h2 => ?_) (fun h2 => ?_)
  ·have h2 := of_decide_eq_true h2
   refine HT.seq (HT.region S_rexpand_ok (So.q rfl rfl (V.as (v := .p (.v (.slice none 0 0))) rfl (So.e ?_))))
   show HT _ _ _ _ _
   refine R.phan 6 1 5 1 (.bs []) rfl rfl rfl ⟨rfl, rfl⟩ ?_
   refine HT.ret ?_
   exact ret_ok (sg [(2, 1)]) h rfl rfl rfl ⟨trivial, trivial⟩ ⟨rfl, trivial⟩ rfl ⟨⟨⟨le_own2 (by first | rfl | omega) (by first | (show (_ : Nat) = _; first | (rw [expandN_no (by omega)]; rfl) | rfl) | (show (_ : List UInt8) = _; first | (rw [expandN_no (by omega)]; done) | rfl) | rfl), rfl⟩, trivial⟩, ⟨⟨_, rfl, .inl (ob_bs (by first | rfl | ((try dsimp only); (first | (show (_ : Nat) = _; first | (rw [expandN_no (by omega)]; rfl) | rfl) | (show (_ : List UInt8) = _; first | (rw [expandN_no (by omega)]; done) | rfl) | rfl))) (by first | rfl | ((try dsimp only); (first | (show (_ : Nat) = _; first | (rw [expandN_no (by omega)]; rfl) | rfl) | (show (_ : List UInt8) = _; first | (rw [expandN_no (by omega)]; done) | rfl) | rfl)))), trivial⟩, trivial⟩⟩
  ·have h2 := of_decide_eq_false h2
   refine HT.skip (HT.seq (HT.region S_rexpand_ok (So.q rfl rfl (V.as (v := .p (.v (.slice none 0 0))) rfl (So.e (HT.seq (HT.region S_rexpand_ok (So.q rfl rfl (V.as (v := .p (.v (.slice none 0 0))) rfl (So.e (HT.seq ?_)))))))))))
   refine HT.seq (HT.region S_rexpand_ok (So.q rfl rfl (V.as (v := .p (.v (.int .i64 (1)))) rfl (So.e (HT.block ?_)))))
   refine R.phan 7 7 5 1 (.bs []) rfl rfl rfl ⟨rfl, rfl⟩ ?_
   refine R.loop (σ := Nat) (fun s => [(7, .own 7 (0) (32 * s)), (8, .p (.bs (tN k i s))), (9, .p (.v (.int .i64 ((s : Int) + 1))))]) (fun s => [(7, ⟨5, 1, 32 * s, true, .bs (okm k i s)⟩)]) [0, 1, 2, 6] [] (fun s => 32 * (s : Int) < n + 32) (fun s => n.toNat + 32 - 32 * s) (0) (fr0 := [(0, .p (.bs _)), (1, .p (.bs _)), (2, .p (.v (.int .i64 _))), (6, .p (.v (.slice none 0 0)))]) (O0 := []) rfl rfl (by first | rfl | omega | (simp; done) | (simp; omega)) ⟨⟨⟨le_own2 (by first | rfl | omega) (by first | rfl | omega), rfl⟩, ⟨le_nil (by first | rfl | omega), trivial⟩, ⟨le_int (by first | rfl | omega), trivial⟩, ⟨.refl _, trivial⟩, ⟨.refl _, trivial⟩, ⟨.refl _, trivial⟩, ⟨.refl _, trivial⟩, trivial⟩, ⟨⟨_, rfl, .inl (ob_bs (by first | rfl | ((try dsimp only); first | rfl | omega)) (by first | rfl | ((try dsimp only); first | rfl | omega))), trivial⟩, trivial⟩⟩ (fun s hP0 => ?_)
   refine HT.seq (HT.seq (HT.region S_rexpand_ok (So.q rfl rfl (V.mv (v := .own 7 0 _) rfl (So.q rfl rfl (V.len ty22 (v := .own 7 0 _) rfl rfl (So.q rfl rfl (V.mv (v := .p (.v (.int .i64 _))) rfl (So.q rfl rfl (V.bin (a := (.v (.int .i64 _))) (b := (.v (.int .i64 _))) (r := .v (.bool _)) rfl rfl rfl trivial (So.e ?_)))))))))))
   show HT _ _ _ _ _
   refine R.cond rfl rfl (fun h3 => ?_) (fun h3 => ?_)
   ·have h3 := of_decide_eq_true h3
    refine HT.skip (HT.seq (HT.block (HT.seq (HT.region S_rexpand_ok ?_))))
    have hcl := cat3_len (tN k i s) i (UInt8.ofInt ((s : Int) + 1))
    have htl0 := tN_le k i s
    have htl := tN_len k i s
    refine So.q rfl rfl (V.mv (v := .p (.bs _)) rfl (So.n (lk rfl) (A.bsl 8 ty22 ty5 rfl (lk rfl) (lk rfl) (fun _ => rfl) rfl rfl trivial trivial rfl (N := 0) rfl (c := .bs []) rfl (So.q rfl rfl (V.mv (v := .p (.bs _)) rfl (So.n (lk rfl) (A.apOwn ty22 ty5 rfl rfl rfl rfl (u := .p (.bs _)) rfl rfl (l' := tN k i s) (by simp) (mn := (tN k i s).length) (by simp) (by first | rfl | omega | (simp; done) | (simp; omega)) rfl rfl rfl (So.q rfl rfl (V.mv (v := .p (.bs _)) rfl (So.n (lk rfl) (A.apOwn ty22 ty5 rfl rfl rfl rfl (u := .p (.bs _)) rfl rfl (l' := tN k i s ++ i) (by simp) (mn := (tN k i s).length + i.length) (by simp) (by first | rfl | omega | (simp; done) | (simp; omega)) rfl rfl rfl (So.q rfl rfl (V.mv (v := .p (.v (.int .i64 _))) rfl (So.q rfl rfl (V.cvN ty5 ty3 (a := (.v (.int .i64 _))) (r := (.u8 _)) rfl rfl (So.n (lk rfl) (A.bsl 9 ty22 ty5 rfl (lk rfl) (lk rfl) (fun _ => rfl) rfl rfl trivial ⟨trivial, trivial⟩ rfl (N := 1) rfl (c := .bs [_]) rfl (So.n (lk rfl) (A.apOwn ty22 ty5 rfl rfl rfl rfl (u := .own 9 0 _) rfl rfl (l' := (cat [tN k i s, i, [UInt8.ofInt ((s : Int) + 1)]])) (by rw [ap_full (by simp)]; simp [cat]) (mn := (cat [tN k i s, i, [UInt8.ofInt ((s : Int) + 1)]]).length) (by rw [hcl]) (by first | rfl | omega | (simp; done) | (simp; omega)) rfl rfl rfl ?_)))))))))))))))))))
    refine So.n (lk rfl) (A.call0F S_rexpand_ok [.p (.bs _), .p (.bs _)] 10 rfl rfl rfl rfl ⟨trivial, trivial, trivial⟩ trivial (k, (cat [tN k i s, i, [UInt8.ofInt ((s : Int) + 1)]])) ⟨.refl _, le_bs (take_full _), trivial⟩ trivial (by first | omega | (simp only [List.drop_zero, List.take_length]; omega) | (simp; done) | (simp; omega)) (Φ := fun _ => True) (fun _ _ => trivial) (.inr ⟨trivial, by simp [Hp.scal, OC.scal, PV.scal, BV.scal]⟩) (t := 12) (off := 0) rfl (O' := (12, ⟨5, 1, _, true, .bs _⟩) :: _) rfl rfl rfl (y := .p (.bs _)) rfl rfl (fun h4 => ?_))
    refine So.q rfl rfl (V.as (v := .p (.bs _)) rfl (So.e ?_))
    show HT _ _ _ _ _
    refine R.tell [(8, .p (.bs (tN k i (s + 1))))] [] [0, 1, 2, 6, 7, 9] [7] (fr0 := [(0, .p (.bs _)), (1, .p (.bs _)), (2, .p (.v (.int .i64 _))), (6, .p (.v (.slice none 0 0))), (7, .own 7 0 _), (9, .p (.v (.int .i64 _)))]) (O0 := [(7, ⟨_, _, _, _, .bs _⟩)]) rfl rfl ⟨⟨⟨le_bs (by first | rfl | (rw [List.drop_zero, List.take_of_length_le (by rw [mac_len]; omega)]; rfl)), trivial⟩, ⟨.refl _, trivial⟩, ⟨.refl _, trivial⟩, ⟨.refl _, trivial⟩, ⟨.refl _, trivial⟩, ⟨.refl _, rfl⟩, ⟨.refl _, trivial⟩, trivial⟩, ⟨⟨_, rfl, .inl rfl, trivial⟩, trivial⟩⟩ ?_
    show HT _ _ _ _ _
    refine HT.region S_rexpand_ok (So.q rfl rfl (V.mv (v := .own 7 0 _) rfl (So.q rfl rfl (V.mv (v := .p (.bs _)) rfl (So.n (lk rfl) (A.apOwn ty22 ty5 rfl rfl rfl rfl (u := .p (.bs _)) rfl rfl (l' := okm k i (s + 1)) (by rw [ap_full (by rw [okm_len]; exact Nat.le_refl _)]; rfl) (mn := 32 * (s + 1)) (by first | omega | (rw [tN_len]; omega)) (by first | rfl | omega | (simp; done) | (simp; omega)) rfl rfl rfl (So.q rfl rfl (V.as (v := .own 7 0 _) rfl (So.e (HT.region S_rexpand_ok (So.q rfl rfl (V.mv (v := .p (.v (.int .i64 _))) rfl (So.q rfl rfl (V.addI rfl rfl (by omega) (So.q rfl rfl (V.as (v := .p (.v (.int .i64 _))) rfl ?_))))))))))))))))
    refine So.e ?_
    refine ⟨s + 1, by first | rfl | omega | (simp; done) | (simp; omega), by omega, ⟨⟨⟨le_own2 (by first | rfl | omega) (by first | rfl | omega | (simp; done) | (simp; omega)), rfl⟩, ⟨le_bs (by first | rfl | omega | (simp; done) | (simp; omega)), trivial⟩, ⟨le_int (by first | rfl | omega | (simp; done) | (simp; omega)), trivial⟩, ⟨.refl _, trivial⟩, ⟨.refl _, trivial⟩, ⟨.refl _, trivial⟩, ⟨.refl _, trivial⟩, trivial⟩, ⟨⟨_, rfl, .inl (ob_bs (by first | rfl | ((try dsimp only); first | rfl | omega | (simp; done) | (simp; omega))) (by first | rfl | ((try dsimp only); first | rfl | omega | (simp; done) | (simp; omega)))), trivial⟩, trivial⟩⟩⟩
   ·have h3 := of_decide_eq_false h3
    refine HT.exit ?_
    show HT _ _ _ _ _
    refine HT.seq (HT.region S_rexpand_ok ?_)
    have hol := okm_len k i s
    have hen := expandN_len (k := k) (i := i) (n := n) (by omega) (by omega)
    refine So.n (lk rfl) (A.bsl 8 ty22 ty5 rfl (lk rfl) (lk rfl) (fun _ => rfl) rfl rfl trivial trivial rfl (N := 0) rfl (c := .bs []) rfl (So.q rfl rfl (V.mv (v := .own 7 0 _) rfl (So.q rfl rfl (V.mv (v := .p (.v (.int .i64 _))) rfl (So.q rfl rfl (V.cutOwnH ty22 ty5 rfl rfl rfl rfl (by omega) (.inl rfl) rfl (So.n (lk rfl) (A.apOwn ty22 ty5 rfl rfl rfl rfl (u := .own 7 0 _) rfl rfl (l' := expandN k i n) (by rw [List.take_zero, List.nil_append, List.drop_zero]; exact okm_get (by omega) (by omega) (by omega) (by omega)) (mn := (expandN k i n).length) (by first | rfl | omega | (rw [hen]; simp; done) | (rw [hen]; simp; omega)) (by first | rfl | omega | (simp; done) | (simp; omega)) rfl rfl rfl (So.q rfl rfl (V.as (v := .own 8 0 _) rfl (So.e ?_))))))))))))
    show HT _ _ _ _ _
    refine HT.ret ?_
    exact ret_ok (sg [(2, 8)]) h rfl rfl rfl ⟨trivial, trivial⟩ ⟨rfl, trivial⟩ rfl ⟨⟨⟨le_own2 (by first | rfl | omega) (by first | (show (_ : Nat) = _; first | (rw [expandN_no (by omega)]; rfl) | rfl) | (show (_ : List UInt8) = _; first | (rw [expandN_no (by omega)]; done) | rfl) | rfl), rfl⟩, trivial⟩, ⟨⟨_, rfl, .inl (ob_bs (by first | rfl | ((try dsimp only); (first | (show (_ : Nat) = _; first | (rw [expandN_no (by omega)]; rfl) | rfl) | (show (_ : List UInt8) = _; first | (rw [expandN_no (by omega)]; done) | rfl) | rfl))) (by first | rfl | ((try dsimp only); (first | (show (_ : Nat) = _; first | (rw [expandN_no (by omega)]; rfl) | rfl) | (show (_ : List UInt8) = _; first | (rw [expandN_no (by omega)]; done) | rfl) | rfl)))), trivial⟩, trivial⟩⟩
 ·have h1 := of_decide_eq_true h1
  refine So.gn (b := true) rfl rfl rfl (lk rfl) (lk rfl) (So.q rfl rfl (V.pkTrue (u := .p (.v (.bool true))) rfl rfl (So.e ?_)))
  show HT _ _ _ _ _
  refine R.condT rfl ?_
  refine HT.seq (HT.region S_rexpand_ok (So.q rfl rfl (V.as (v := .p (.v (.slice none 0 0))) rfl (So.e ?_))))
  show HT _ _ _ _ _
  refine R.phan 6 1 5 1 (.bs []) rfl rfl rfl ⟨rfl, rfl⟩ ?_
  refine HT.ret ?_
  exact ret_ok (sg [(2, 1)]) h rfl rfl rfl ⟨trivial, trivial⟩ ⟨rfl, trivial⟩ rfl ⟨⟨⟨le_own2 (by first | rfl | omega) (by first | (show (_ : Nat) = _; first | (rw [expandN_no (by omega)]; rfl) | rfl) | (show (_ : List UInt8) = _; first | (rw [expandN_no (by omega)]; done) | rfl) | rfl), rfl⟩, trivial⟩, ⟨⟨_, rfl, .inl (ob_bs (by first | rfl | ((try dsimp only); (first | (show (_ : Nat) = _; first | (rw [expandN_no (by omega)]; rfl) | rfl) | (show (_ : List UInt8) = _; first | (rw [expandN_no (by omega)]; done) | rfl) | rfl))) (by first | rfl | ((try dsimp only); (first | (show (_ : Nat) = _; first | (rw [expandN_no (by omega)]; rfl) | rfl) | (show (_ : List UInt8) = _; first | (rw [expandN_no (by omega)]; done) | rfl) | rfl)))), trivial⟩, trivial⟩⟩
end Go.Vh

set_option linter.unusedVariables false
set_option linter.unusedSimpArgs false
namespace Go.Vh
open Go Go.Vc Go.Proofs Go.Vw
def rlabelSp : Sp := ⟨[], mkE (α := (List UInt8) × (List UInt8) × (List UInt8) × Int) (fun (k, m, c, n) => [.p (.bs (k)), .p (.str (m)), .p (.bs (c)), .p (.v (.int .i64 (n)))]) (fun (k, m, c, n) => []) (fun (k, m, c, n) => k.length ≤ 1000000000) (fun (k, m, c, n) => [.own 2 (0) ((labelF k m c n).length)]) (fun (k, m, c, n) => [(2, ⟨5, 1, (labelF k m c n).length, true, .bs (labelF k m c n)⟩)])⟩
def S_rlabel : FuncId → Option Sp := fun f => if f = 37 then some rinfoSp else if f = 38 then some rexpandSp else none
theorem S_rlabel_ok : ∀ f s, S_rlabel f = some s → FOK Tryd.prog gl f s := fun f s h => by
 unfold S_rlabel at h
 split at h
 ·rename_i e; cases h; subst e; exact rinfo_ok
 split at h
 ·rename_i e; cases h; subst e; exact rexpand_ok
 cases h
set_option maxHeartbeats 1000000 in
set_option maxRecDepth 20000 in
theorem rlabel_ok : FOK Tryd.prog gl 23 rlabelSp := by
 refine FOK.ofE (tyOf_ok Tryd.prog) (slots := [8]) (nt := 21) Tryd.func23 rfl rfl rfl rfl (by decide) 4 (fun ⟨_, _, _, _⟩ => rfl) (by decide) (fun ⟨_, _, _, _⟩ => ⟨trivial, trivial, trivial, trivial, trivial⟩) ?_
 rintro ⟨k, m, c, n⟩ kk hlen hpre h
 have hl0 : (k).length ≤ 9223372036854775807 := hlen.1
 have hl2 : (c).length ≤ 9223372036854775807 := hlen.2.2.1
 replace hpre : k.length ≤ 1000000000 := hpre
 show HT (cx Tryd.prog 21 (tyOf Tryd.prog) gl []) _ [(0, .p (.bs (k))), (1, .p (.str (m))), (2, .p (.bs (c))), (3, .p (.v (.int .i64 (n))))] [] _
 have hil := infoF_len m c n
 refine HT.seq (HT.region S_rlabel_ok (So.q rfl rfl (V.as (v := .p (.v (.slice none 0 0))) rfl (So.e (HT.seq (HT.region S_rlabel_ok (So.q rfl rfl (V.mv (v := .p (.str _)) rfl (So.q rfl rfl (V.mv (v := .p (.bs _)) rfl (So.q rfl rfl (V.mv (v := .p (.v (.int .i64 _))) rfl ?_))))))))))))
 refine So.n (lk rfl) (A.call0 [.p (.str _), .p (.bs _), .p (.v (.int .i64 _))] 1 rfl rfl rfl rfl ⟨trivial, trivial, trivial, trivial⟩ trivial (_, _, _) ⟨.refl _, .refl _, .refl _, trivial⟩ trivial (by trivial) (Φ := fun _ => True) (fun _ _ => trivial) (.inl rfl) (v := .own 3 0 _) rfl (O' := (3, ⟨5, 1, _, true, .bs _⟩) :: _) rfl (fun h1 => ?_))
 refine So.q rfl rfl (V.as (v := .own 3 0 _) rfl (So.e (HT.seq (HT.seq (HT.region S_rlabel_ok (So.q rfl rfl (V.mv (v := .own 3 0 _) rfl (So.q rfl rfl (V.len ty22 (v := .own 3 0 _) rfl rfl (So.q rfl rfl (V.bin (a := (.v (.int .i64 _))) (b := (.v (.int .i64 (0)))) (r := .v (.bool _)) rfl rfl rfl trivial (So.e ?_))))))))))))
 show HT _ _ _ _ _
 refine R.cond rfl rfl (fun h2 => ?_) (fun h2 => ?_)
 ·have h2 := of_decide_eq_true h2
  refine HT.seq (HT.region S_rlabel_ok (So.q rfl rfl (V.as (v := .p (.v (.slice none 0 0))) rfl (So.e ?_))))
  show HT _ _ _ _ _
  refine R.phan 8 4 5 1 (.bs []) rfl rfl rfl ⟨rfl, rfl⟩ ?_
  refine HT.ret ?_
  exact ret_ok (sg [(2, 4)]) h rfl rfl rfl ⟨trivial, trivial⟩ ⟨rfl, trivial⟩ rfl ⟨⟨⟨le_own2 (by first | rfl | omega) (by first | (show (_ : Nat) = _; first | (rw [infoF_nil (by omega)]; rfl) | (rw [infoF_some (by omega)])) | (show (_ : List UInt8) = _; first | (rw [infoF_nil (by omega)]; done) | (rw [infoF_some (by omega)])) | rfl), rfl⟩, trivial⟩, ⟨⟨_, rfl, .inl (ob_bs (by first | rfl | ((try dsimp only); (first | (show (_ : Nat) = _; first | (rw [infoF_nil (by omega)]; rfl) | (rw [infoF_some (by omega)])) | (show (_ : List UInt8) = _; first | (rw [infoF_nil (by omega)]; done) | (rw [infoF_some (by omega)])) | rfl))) (by first | rfl | ((try dsimp only); (first | (show (_ : Nat) = _; first | (rw [infoF_nil (by omega)]; rfl) | (rw [infoF_some (by omega)])) | (show (_ : List UInt8) = _; first | (rw [infoF_nil (by omega)]; done) | (rw [infoF_some (by omega)])) | rfl)))), trivial⟩, trivial⟩⟩
 ·have h2 := of_decide_eq_false h2
  refine HT.skip (HT.seq (HT.region S_rlabel_ok (So.q rfl rfl (V.mv (v := .p (.bs _)) rfl (So.q rfl rfl (V.mv (v := .own 3 0 _) rfl (So.q rfl rfl (V.mv (v := .p (.v (.int .i64 _))) rfl ?_))))))))
  refine So.n (lk rfl) (A.call0 [.p (.bs _), .p (.bs _), .p (.v (.int .i64 _))] 4 rfl rfl rfl rfl ⟨trivial, trivial, trivial, trivial⟩ trivial (k, infoF m c n, n) ⟨.refl _, le_bs (take_full _), .refl _, trivial⟩ trivial (by first | omega | (simp only [List.drop_zero, List.take_length]; omega) | (simp; done) | (simp; omega)) (Φ := fun _ => True) (fun _ _ => trivial) (.inr ⟨trivial, by simp [Hp.scal, OC.scal, PV.scal, BV.scal]⟩) (v := .own 6 0 _) rfl (O' := (6, ⟨5, 1, _, true, .bs _⟩) :: _) rfl (fun h3 => ?_))
  refine So.q rfl rfl (V.as (v := .own 6 0 _) rfl (So.e ?_))
  show HT _ _ _ _ _
  refine HT.ret ?_
  exact ret_ok (sg [(2, 6)]) h rfl rfl rfl ⟨trivial, trivial⟩ ⟨rfl, trivial⟩ rfl ⟨⟨⟨le_own2 (by first | rfl | omega) (by first | (show (_ : Nat) = _; first | (rw [infoF_nil (by omega)]; rfl) | (rw [infoF_some (by omega)])) | (show (_ : List UInt8) = _; first | (rw [infoF_nil (by omega)]; done) | (rw [infoF_some (by omega)])) | rfl), rfl⟩, trivial⟩, ⟨⟨_, rfl, .inl (ob_bs (by first | rfl | ((try dsimp only); (first | (show (_ : Nat) = _; first | (rw [infoF_nil (by omega)]; rfl) | (rw [infoF_some (by omega)])) | (show (_ : List UInt8) = _; first | (rw [infoF_nil (by omega)]; done) | (rw [infoF_some (by omega)])) | rfl))) (by first | rfl | ((try dsimp only); (first | (show (_ : Nat) = _; first | (rw [infoF_nil (by omega)]; rfl) | (rw [infoF_some (by omega)])) | (show (_ : List UInt8) = _; first | (rw [infoF_nil (by omega)]; done) | (rw [infoF_some (by omega)])) | rfl)))), trivial⟩, trivial⟩⟩
end Go.Vh

set_option linter.unusedVariables false
set_option linter.unusedSimpArgs false
namespace Go.Vh
open Go Go.Vc Go.Proofs Go.Vw
def rstreamSp : Sp := ⟨[], mkE (α := (List UInt8) × (List UInt8)) (fun (k, t) => [.p (.bs (k)), .p (.bs (t))]) (fun (k, t) => []) (fun (k, t) => k.length ≤ 1000000000 ∧ t.length ≤ 65536) (fun (k, t) => [.own 2 (0) (t.length)]) (fun (k, t) => [(2, ⟨5, 1, t.length, true, .bs (turnF (kSt k) t)⟩)])⟩
def S_rstream : FuncId → Option Sp := fun f => if f = 23 then some rlabelSp else if f = 22 then some rkshake256Sp else none
theorem S_rstream_ok : ∀ f s, S_rstream f = some s → FOK Tryd.prog gl f s := fun f s h => by
 unfold S_rstream at h
 split at h
 ·rename_i e; cases h; subst e; exact rlabel_ok
 split at h
 ·rename_i e; cases h; subst e; exact rkshake256_ok
 cases h
set_option maxHeartbeats 1000000 in
set_option maxRecDepth 20000 in
theorem rstream_ok : FOK Tryd.prog gl 16 rstreamSp := by
 refine FOK.ofE (tyOf_ok Tryd.prog) (slots := [4]) (nt := 31) Tryd.func16 rfl rfl rfl rfl (by decide) 2 (fun ⟨_, _⟩ => rfl) (by decide) (fun ⟨_, _⟩ => ⟨trivial, trivial, trivial⟩) ?_
 rintro ⟨k, t⟩ kk hlen hpre h
 have hl0 : (k).length ≤ 9223372036854775807 := hlen.1
 have hl1 : (t).length ≤ 9223372036854775807 := hlen.2.1
 replace hpre : k.length ≤ 1000000000 ∧ t.length ≤ 65536 := hpre
 show HT (cx Tryd.prog 31 (tyOf Tryd.prog) gl []) _ [(0, .p (.bs (k))), (1, .p (.bs (t)))] [] _
 have hks := kSt_len k
 refine HT.seq (HT.region S_rstream_ok (So.q rfl rfl (V.as (v := .p (.v (.slice none 0 0))) rfl (So.e (HT.seq (HT.region S_rstream_ok (So.q rfl rfl (V.mv (v := .p (.bs _)) rfl ?_))))))))
 refine So.n (lk rfl) (A.call0 [.p (.bs _), .p (.str _), .p (.v (.slice none 0 0)), .p (.v (.int .i64 _))] 1 rfl rfl rfl rfl ⟨trivial, trivial, trivial, trivial, trivial⟩ trivial (k, nStream, [], 32) ⟨.refl _, .refl _, le_nil rfl, .refl _, trivial⟩ trivial (by first | omega | (simp; done) | (simp; omega)) (Φ := fun _ => True) (fun _ _ => trivial) (.inl rfl) (v := .own 3 0 _) rfl (O' := (3, ⟨5, 1, _, true, .bs _⟩) :: _) rfl (fun h1 => ?_))
 refine So.q rfl rfl (V.mv (v := .p (.bs _)) rfl (So.q rfl rfl (V.len ty22 (v := .p (.bs _)) rfl rfl ?_)))
 refine So.n (lk rfl) (A.call0 [.p (.bs _), .p (.v (.int .i64 _))] 4 rfl rfl rfl rfl ⟨trivial, trivial, trivial⟩ trivial (kSt k, t.length) ⟨le_bs (take_full _), .refl _, trivial⟩ trivial (by first | omega | (simp only [List.drop_zero, List.take_length]; omega) | (simp; done) | (simp; omega)) (Φ := fun _ => True) (fun _ _ => trivial) (.inr ⟨trivial, by simp [Hp.scal, OC.scal, PV.scal, BV.scal]⟩) (v := .own 6 0 _) rfl (O' := (6, ⟨5, 1, _, true, .bs _⟩) :: _) rfl (fun h2 => ?_))
 refine So.q rfl rfl (V.as (v := .own 6 0 _) rfl (So.e (HT.seq (HT.seq (HT.region S_rstream_ok (So.q rfl rfl (V.as (v := .p (.v (.int .i64 (0)))) rfl (So.e (HT.block ?_)))))))))
 refine R.loop (σ := Nat) (fun s => [(6, .p (.v (.int .i64 ((s : Int)))))]) (fun s => [(6, ⟨5, 1, t.length, true, .bs (xorN t (spg 136 31 (kSt k) t.length) s)⟩)]) [1, 4, 5] [3] (fun s => s ≤ t.length) (fun s => t.length - s) (0) (fr0 := [(1, .p (.bs _)), (4, .p (.v (.slice none 0 0))), (5, .own 6 0 _)]) (O0 := [(3, ⟨_, _, _, _, .bs _⟩)]) rfl rfl (by first | rfl | omega | (simp; done) | (simp; omega)) ⟨⟨⟨le_int (by first | rfl | omega | exact (spg_len _ _ _ _).symm | exact spg_len _ _ _ _), trivial⟩, ⟨.refl _, trivial⟩, ⟨.refl _, trivial⟩, ⟨.refl _, rfl⟩, trivial⟩, ⟨⟨_, rfl, .inl (ob_bs (by first | rfl | ((try dsimp only); first | rfl | omega | exact (spg_len _ _ _ _).symm | exact spg_len _ _ _ _)) (by first | rfl | ((try dsimp only); first | rfl | omega | exact (spg_len _ _ _ _).symm | exact spg_len _ _ _ _))), trivial⟩, ⟨_, rfl, .inl rfl, trivial⟩, trivial⟩⟩ (fun s hP0 => ?_)
 refine HT.seq (HT.seq (HT.region S_rstream_ok (So.q rfl rfl (V.mv (v := .p (.v (.int .i64 ((_ : Nat) : Int)))) rfl (So.q rfl rfl (V.mv (v := .own 6 0 _) rfl (So.q rfl rfl (V.len ty22 (v := .own 6 0 _) rfl rfl (So.q rfl rfl (V.bin (a := (.v (.int .i64 ((_ : Nat) : Int)))) (b := (.v (.int .i64 _))) (r := .v (.bool _)) rfl rfl rfl trivial (So.e ?_)))))))))))
 show HT _ _ _ _ _
 refine R.cond rfl rfl (fun h3 => ?_) (fun h3 => ?_)
 ·have h3 := of_decide_eq_true h3
  refine HT.skip (HT.seq (HT.block ?_))
  refine HT.tail S_rstream_ok mixed 12 (by kernel_rfl) (by kernel_rfl) ?_
  refine So.q rfl rfl (V.mv (v := .own 6 0 _) rfl (So.q rfl rfl (V.mv (v := .p (.v (.int .i64 ((_ : Nat) : Int)))) rfl (So.q rfl rfl (V.mv (v := .own 6 0 _) rfl (So.q rfl rfl (V.mv (v := .p (.v (.int .i64 ((_ : Nat) : Int)))) rfl (So.q rfl rfl (V.ixOwn10 ty22 ty5 rfl rfl rfl rfl rfl (by omega) (Int.toNat_natCast _) (So.q rfl rfl (V.ldPtr ty5 rfl rfl rfl (by first | rfl | omega | (simp; done) | (simp; omega)) (v := .p (.u8 _)) rfl (So.q rfl rfl (V.mv (v := .p (.bs _)) rfl (So.q rfl rfl (V.mv (v := .p (.v (.int .i64 ((_ : Nat) : Int)))) rfl (So.q rfl rfl (V.ixBs ty22 ty5 rfl rfl rfl (by omega) (Int.toNat_natCast _) (So.q rfl rfl (V.ldRp ty5 rfl rfl (lk rfl) (v := (.u8 _)) rfl ?_)))))))))))))))))))
  refine So.q rfl rfl (V.bin (a := (.u8 _)) (b := (.u8 _)) (r := .u8 _) rfl rfl rfl trivial (So.q rfl rfl (V.ixOwn10 ty22 ty5 rfl rfl rfl rfl rfl (by omega) (Int.toNat_natCast _) (So.s (A.sto ty5 rfl rfl rfl (v := .p (.u8 _)) rfl trivial rfl (by first | rfl | omega | (simp; done) | (simp; omega)) rfl rfl (So.e (HT.region S_rstream_ok (So.q rfl rfl (V.mv (v := .p (.v (.int .i64 ((_ : Nat) : Int)))) rfl (So.q rfl rfl (V.addI rfl rfl (by omega) (So.q rfl rfl (V.as (v := .p (.v (.int .i64 _))) rfl (So.e ?_))))))))))))))
  refine ⟨s + 1, by first | rfl | omega | (simp; done) | (simp; omega), by omega, ⟨⟨⟨le_int (by first | rfl | omega | (simp; done) | (simp; omega)), trivial⟩, ⟨.refl _, trivial⟩, ⟨.refl _, trivial⟩, ⟨.refl _, rfl⟩, trivial⟩, ⟨⟨_, rfl, .inl (ob_bs (by rfl) (by rfl)), trivial⟩, ⟨_, rfl, .inl rfl, trivial⟩, trivial⟩⟩⟩
 ·have h3 := of_decide_eq_false h3
  refine HT.exit ?_
  show HT _ _ _ _ _
  refine HT.seq (HT.region S_rstream_ok (So.q rfl rfl (V.mv (v := .own 6 0 _) rfl (So.q rfl rfl (V.as (v := .own 6 0 _) rfl (So.e ?_))))))
  show HT _ _ _ _ _
  refine HT.ret ?_
  exact ret_ok (sg [(2, 6)]) h rfl rfl rfl ⟨trivial, trivial⟩ ⟨rfl, trivial⟩ rfl ⟨⟨⟨le_own2 (by first | rfl | omega) (by first | rfl | (replace hP0 : s = t.length := (by omega); subst hP0; rfl)), rfl⟩, trivial⟩, ⟨⟨_, rfl, .inl (ob_bs (by first | rfl | ((try dsimp only); (first | rfl | (replace hP0 : s = t.length := (by omega); subst hP0; rfl)))) (by first | rfl | ((try dsimp only); (first | rfl | (replace hP0 : s = t.length := (by omega); subst hP0; rfl))))), trivial⟩, trivial⟩⟩
end Go.Vh

set_option linter.unusedVariables false
set_option linter.unusedSimpArgs false
namespace Go.Vh
open Go Go.Vc Go.Proofs Go.Vw
def rlenSp : Sp := ⟨[], mkE (α := Int) (fun n => [.p (.v (.int .i64 (n)))]) (fun n => []) (fun n => True) (fun n => [.own 1 (0) ((lenF n).length)]) (fun n => [(1, ⟨5, 1, (lenF n).length, true, .bs (lenF n)⟩)])⟩
def S_rlen : FuncId → Option Sp := fun _ => none
theorem S_rlen_ok : ∀ f s, S_rlen f = some s → FOK Tryd.prog gl f s := fun f s h => by cases h
set_option maxHeartbeats 1000000 in
set_option maxRecDepth 1000 in
theorem rlen_ok : FOK Tryd.prog gl 39 rlenSp := by
 refine FOK.ofE (tyOf_ok Tryd.prog) (slots := [2]) (nt := 30) Tryd.func39 rfl rfl rfl rfl (by decide) 1 (fun _ => rfl) (by decide) (fun _ => ⟨trivial, trivial⟩) ?_
 rintro n kk hlen hpre h
 replace hpre : True := hpre
 show HT (cx Tryd.prog 30 (tyOf Tryd.prog) gl []) _ [(0, .p (.v (.int .i64 (n))))] [] _
 refine HT.seq (HT.region S_rlen_ok (So.q rfl rfl (V.as (v := .p (.v (.slice none 0 0))) rfl (So.e (HT.seq (HT.seq (HT.region S_rlen_ok (So.q rfl rfl (V.mv (v := .p (.v (.int .i64 _))) rfl (So.q rfl rfl (V.bin (a := (.v (.int .i64 _))) (b := (.v (.int .i64 (64)))) (r := .v (.bool _)) rfl rfl rfl trivial (So.e ?_))))))))))))
 show HT _ _ _ _ _
 refine R.cond rfl rfl (fun h1 => ?_) (fun h1 => ?_)
 ·have h1 := of_decide_eq_true h1
  refine HT.seq (HT.region S_rlen_ok (So.q rfl rfl (V.mv (v := .p (.v (.int .i64 _))) rfl (So.q rfl rfl (V.cvN ty5 ty3 (a := (.v (.int .i64 _))) (r := (.u8 _)) rfl rfl (So.n (lk rfl) (A.bsl 1 ty22 ty5 rfl (lk rfl) (lk rfl) (fun _ => rfl) rfl rfl trivial ⟨trivial, trivial⟩ rfl (N := 1) rfl (c := .bs [_]) rfl (So.q rfl rfl (V.as (v := .own 1 0 _) rfl (So.e ?_))))))))))
  show HT _ _ _ _ _
  refine HT.ret ?_
  exact ret_ok (sg [(1, 1)]) h rfl rfl rfl ⟨trivial, trivial⟩ ⟨rfl, trivial⟩ rfl ⟨⟨⟨le_own2 (by first | rfl | omega) (by first | rfl | (unfold lenF; simp (disch := omega) only [if_pos, if_neg] <;> first | rfl | (rw [u8_add64]) | (rw [u8_add128]))), rfl⟩, trivial⟩, ⟨⟨_, rfl, .inl (ob_bs (by first | rfl | ((try dsimp only); (first | rfl | (unfold lenF; simp (disch := omega) only [if_pos, if_neg] <;> first | rfl | (rw [u8_add64]) | (rw [u8_add128]))))) (by first | rfl | ((try dsimp only); (first | rfl | (unfold lenF; simp (disch := omega) only [if_pos, if_neg] <;> first | rfl | (rw [u8_add64]) | (rw [u8_add128])))))), trivial⟩, trivial⟩⟩
 ·have h1 := of_decide_eq_false h1
  refine HT.skip (HT.seq (HT.seq (HT.region S_rlen_ok (So.q rfl rfl (V.mv (v := .p (.v (.int .i64 _))) rfl (So.q rfl rfl (V.bin (a := (.v (.int .i64 _))) (b := (.v (.int .i64 (16384)))) (r := .v (.bool _)) rfl rfl rfl trivial (So.e ?_))))))))
  show HT _ _ _ _ _
  refine R.cond rfl rfl (fun h2 => ?_) (fun h2 => ?_)
  ·have h2 := of_decide_eq_true h2
   refine HT.seq (HT.region S_rlen_ok (So.q rfl rfl (V.mv (v := .p (.v (.int .i64 _))) rfl (So.q rfl rfl (V.shrI (n := 8) (M := 256) rfl rfl rfl (by decide) (So.q rfl rfl (V.cvN ty5 ty3 (a := (.v (.int .i64 _))) (r := (.u8 _)) rfl rfl (So.q rfl rfl (V.bin (a := (.u8 _)) (b := (.u8 64)) (r := .u8 _) rfl rfl rfl trivial (So.q rfl rfl (V.mv (v := .p (.v (.int .i64 _))) rfl (So.q rfl rfl (V.cvN ty5 ty3 (a := (.v (.int .i64 _))) (r := (.u8 _)) rfl rfl (So.n (lk rfl) (A.bsl 1 ty22 ty5 rfl (lk rfl) (lk rfl) (fun _ => rfl) rfl rfl trivial ⟨trivial, trivial, trivial⟩ rfl (N := 2) rfl (c := .bs [_, _]) rfl (So.q rfl rfl (V.as (v := .own 1 0 _) rfl ?_)))))))))))))))))
   refine So.e ?_
   show HT _ _ _ _ _
   refine HT.ret ?_
   exact ret_ok (sg [(1, 1)]) h rfl rfl rfl ⟨trivial, trivial⟩ ⟨rfl, trivial⟩ rfl ⟨⟨⟨le_own2 (by first | rfl | omega) (by first | rfl | (unfold lenF; simp (disch := omega) only [if_pos, if_neg] <;> first | rfl | (rw [u8_add64]) | (rw [u8_add128]))), rfl⟩, trivial⟩, ⟨⟨_, rfl, .inl (ob_bs (by first | rfl | ((try dsimp only); (first | rfl | (unfold lenF; simp (disch := omega) only [if_pos, if_neg] <;> first | rfl | (rw [u8_add64]) | (rw [u8_add128]))))) (by first | rfl | ((try dsimp only); (first | rfl | (unfold lenF; simp (disch := omega) only [if_pos, if_neg] <;> first | rfl | (rw [u8_add64]) | (rw [u8_add128])))))), trivial⟩, trivial⟩⟩
  ·have h2 := of_decide_eq_false h2
   refine HT.skip (HT.seq (HT.region S_rlen_ok (So.q rfl rfl (V.mv (v := .p (.v (.int .i64 _))) rfl (So.q rfl rfl (V.shrI (n := 24) (M := 16777216) rfl rfl rfl (by decide) (So.q rfl rfl (V.cvN ty5 ty3 (a := (.v (.int .i64 _))) (r := (.u8 _)) rfl rfl (So.q rfl rfl (V.bin (a := (.u8 _)) (b := (.u8 128)) (r := .u8 _) rfl rfl rfl trivial (So.q rfl rfl (V.mv (v := .p (.v (.int .i64 _))) rfl (So.q rfl rfl (V.shrI (n := 16) (M := 65536) rfl rfl rfl (by decide) (So.q rfl rfl (V.cvN ty5 ty3 (a := (.v (.int .i64 _))) (r := (.u8 _)) rfl rfl ?_))))))))))))))))
   refine So.q rfl rfl (V.mv (v := .p (.v (.int .i64 _))) rfl (So.q rfl rfl (V.shrI (n := 8) (M := 256) rfl rfl rfl (by decide) (So.q rfl rfl (V.cvN ty5 ty3 (a := (.v (.int .i64 _))) (r := (.u8 _)) rfl rfl (So.q rfl rfl (V.mv (v := .p (.v (.int .i64 _))) rfl (So.q rfl rfl (V.cvN ty5 ty3 (a := (.v (.int .i64 _))) (r := (.u8 _)) rfl rfl (So.n (lk rfl) (A.bsl 1 ty22 ty5 rfl (lk rfl) (lk rfl) (fun _ => rfl) rfl rfl trivial ⟨trivial, trivial, trivial, trivial, trivial⟩ rfl (N := 4) rfl (c := .bs [_, _, _, _]) rfl (So.q rfl rfl (V.as (v := .own 1 0 _) rfl (So.e ?_))))))))))))))
   show HT _ _ _ _ _
   refine HT.ret ?_
   exact ret_ok (sg [(1, 1)]) h rfl rfl rfl ⟨trivial, trivial⟩ ⟨rfl, trivial⟩ rfl ⟨⟨⟨le_own2 (by first | rfl | omega) (by first | rfl | (unfold lenF; simp (disch := omega) only [if_pos, if_neg] <;> first | rfl | (rw [u8_add64]) | (rw [u8_add128]))), rfl⟩, trivial⟩, ⟨⟨_, rfl, .inl (ob_bs (by first | rfl | ((try dsimp only); (first | rfl | (unfold lenF; simp (disch := omega) only [if_pos, if_neg] <;> first | rfl | (rw [u8_add64]) | (rw [u8_add128]))))) (by first | rfl | ((try dsimp only); (first | rfl | (unfold lenF; simp (disch := omega) only [if_pos, if_neg] <;> first | rfl | (rw [u8_add64]) | (rw [u8_add128])))))), trivial⟩, trivial⟩⟩
def rtextSp : Sp := ⟨[], mkE (α := (List UInt8)) (fun s => [.p (.bs (s))]) (fun s => []) (fun s => True) (fun s => [.own 1 (0) ((textF s).length), .p (.v (.int .i64 (textE s)))]) (fun s => [(1, ⟨5, 1, (textF s).length, true, .bs (textF s)⟩)])⟩
def S_rtext : FuncId → Option Sp := fun f => if f = 39 then some rlenSp else none
theorem S_rtext_ok : ∀ f s, S_rtext f = some s → FOK Tryd.prog gl f s := fun f s h => by
 unfold S_rtext at h
 split at h
 ·rename_i e; cases h; subst e; exact rlen_ok
 cases h
set_option maxHeartbeats 1000000 in
set_option maxRecDepth 1000 in
theorem rtext_ok : FOK Tryd.prog gl 24 rtextSp := by
 refine FOK.ofE (tyOf_ok Tryd.prog) (slots := [2, 3]) (nt := 12) Tryd.func24 rfl rfl rfl rfl (by decide) 1 (fun _ => rfl) (by decide) (fun _ => ⟨trivial, trivial⟩) ?_
 rintro s kk hlen hpre h
 have hl0 : (s).length ≤ 9223372036854775807 := hlen.1
 replace hpre : True := hpre
 show HT (cx Tryd.prog 12 (tyOf Tryd.prog) gl []) _ [(0, .p (.bs (s)))] [] _
 refine HT.seq (HT.region S_rtext_ok (So.q rfl rfl (V.as (v := .p (.v (.slice none 0 0))) rfl (So.q rfl rfl (V.as (v := .p (.v (.int .i64 (0)))) rfl (So.e (HT.seq (HT.seq (HT.region S_rtext_ok (So.q rfl rfl (V.mv (v := .p (.bs _)) rfl (So.q rfl rfl (V.len ty22 (v := .p (.bs _)) rfl rfl ?_)))))))))))))
 refine So.q rfl rfl (V.bin (a := (.v (.int .i64 _))) (b := (.v (.int .i64 (1048576)))) (r := .v (.bool _)) rfl rfl rfl trivial (So.e ?_))
 show HT _ _ _ _ _
 refine R.cond rfl rfl (fun h1 => ?_) (fun h1 => ?_)
 ·have h1 := of_decide_eq_true h1
  refine HT.seq (HT.region S_rtext_ok (So.q rfl rfl (V.as (v := .p (.v (.slice none 0 0))) rfl (So.q rfl rfl (V.as (v := .p (.v (.int .i64 (2)))) rfl (So.e ?_))))))
  show HT _ _ _ _ _
  refine R.phan 2 1 5 1 (.bs []) rfl rfl rfl ⟨rfl, rfl⟩ ?_
  refine HT.ret ?_
  exact ret_ok (sg [(1, 1)]) h rfl rfl rfl ⟨trivial, trivial⟩ ⟨rfl, trivial, trivial⟩ rfl ⟨⟨⟨le_own2 (by first | rfl | omega) (by first | rfl | (unfold textF; simp (disch := omega) only [if_pos, if_neg] <;> first | rfl | (simp; done)) | (unfold textE; simp (disch := omega) only [if_pos, if_neg])), rfl⟩, ⟨le_int (by first | rfl | (unfold textF; simp (disch := omega) only [if_pos, if_neg] <;> first | rfl | (simp; done)) | (unfold textE; simp (disch := omega) only [if_pos, if_neg])), trivial⟩, trivial⟩, ⟨⟨_, rfl, .inl (ob_bs (by first | rfl | ((try dsimp only); (first | rfl | (unfold textF; simp (disch := omega) only [if_pos, if_neg] <;> first | rfl | (simp; done)) | (unfold textE; simp (disch := omega) only [if_pos, if_neg])))) (by first | rfl | ((try dsimp only); (first | rfl | (unfold textF; simp (disch := omega) only [if_pos, if_neg] <;> first | rfl | (simp; done)) | (unfold textE; simp (disch := omega) only [if_pos, if_neg]))))), trivial⟩, trivial⟩⟩
 ·have h1 := of_decide_eq_false h1
  refine HT.skip (HT.seq (HT.region S_rtext_ok (So.q rfl rfl (V.mv (v := .p (.bs _)) rfl (So.q rfl rfl (V.len ty22 (v := .p (.bs _)) rfl rfl ?_))))))
  refine So.n (lk rfl) (A.call0 [.p (.v (.int .i64 _))] 1 rfl rfl rfl rfl ⟨trivial, trivial⟩ trivial _ ⟨.refl _, trivial⟩ trivial (by trivial) (Φ := fun n => (lenF n).length ≤ 4) (fun n _ => lenF_le n) (.inl rfl) (v := .own 2 0 _) rfl (O' := (2, ⟨5, 1, _, true, .bs _⟩) :: _) rfl (fun h2 => ?_))
  try dsimp only at h2
  refine So.q rfl rfl (V.mv (v := .p (.bs _)) rfl (So.n (lk rfl) (A.apOwn ty22 ty5 rfl rfl rfl rfl (u := .p (.bs _)) rfl rfl rfl rfl (by first | rfl | omega | (simp; done) | (simp; omega)) rfl rfl rfl (So.q rfl rfl (V.as (v := .own 2 0 _) rfl (So.q rfl rfl (V.as (v := .p (.v (.int .i64 (0)))) rfl (So.e ?_))))))))
  show HT _ _ _ _ _
  refine HT.ret ?_
  exact ret_ok (sg [(1, 2)]) h rfl rfl rfl ⟨trivial, trivial⟩ ⟨rfl, trivial, trivial⟩ rfl ⟨⟨⟨le_own2 (by first | rfl | omega) (by first | rfl | (unfold textF; simp (disch := omega) only [if_pos, if_neg] <;> first | rfl | (simp; done)) | (unfold textE; simp (disch := omega) only [if_pos, if_neg])), rfl⟩, ⟨le_int (by first | rfl | (unfold textF; simp (disch := omega) only [if_pos, if_neg] <;> first | rfl | (simp; done)) | (unfold textE; simp (disch := omega) only [if_pos, if_neg])), trivial⟩, trivial⟩, ⟨⟨_, rfl, .inl (ob_bs (by first | rfl | ((try dsimp only); (first | rfl | (unfold textF; simp (disch := omega) only [if_pos, if_neg] <;> first | rfl | (simp; done)) | (unfold textE; simp (disch := omega) only [if_pos, if_neg])))) (by first | rfl | ((try dsimp only); (first | rfl | (unfold textF; simp (disch := omega) only [if_pos, if_neg] <;> first | rfl | (simp; done)) | (unfold textE; simp (disch := omega) only [if_pos, if_neg]))))), trivial⟩, trivial⟩⟩
end Go.Vh

set_option linter.unusedVariables false
set_option linter.unusedSimpArgs false
namespace Go.Vh
open Go Go.Vc Go.Proofs Go.Vw
def rtagSp : Sp := ⟨[], mkE (α := (List UInt8) × (List UInt8) × (List UInt8)) (fun (k, a, b) => [.p (.bs (k)), .p (.bs (a)), .p (.bs (b))]) (fun (k, a, b) => []) (fun (k, a, b) => k.length ≤ 1000000000 ∧ b.length ≤ 1000000) (fun (k, a, b) => [.own 2 (0) (32)]) (fun (k, a, b) => [(2, ⟨5, 1, 32, true, .bs (markF (kTg k) a b)⟩)])⟩
def S_rtag : FuncId → Option Sp := fun f => if f = 24 then some rtextSp else if f = 23 then some rlabelSp else if f = 25 then some rmacSp else none
theorem S_rtag_ok : ∀ f s, S_rtag f = some s → FOK Tryd.prog gl f s := fun f s h => by
 unfold S_rtag at h
 split at h
 ·rename_i e; cases h; subst e; exact rtext_ok
 split at h
 ·rename_i e; cases h; subst e; exact rlabel_ok
 split at h
 ·rename_i e; cases h; subst e; exact rmac_ok
 cases h
set_option maxHeartbeats 1000000 in
set_option maxRecDepth 20000 in
theorem rtag_ok : FOK Tryd.prog gl 17 rtagSp := by
 refine FOK.ofE (tyOf_ok Tryd.prog) (slots := [6]) (nt := 20) Tryd.func17 rfl rfl rfl rfl (by decide) 3 (fun ⟨_, _, _⟩ => rfl) (by decide) (fun ⟨_, _, _⟩ => ⟨trivial, trivial, trivial, trivial⟩) ?_
 rintro ⟨k, a, b⟩ kk hlen hpre h
 have hl0 : (k).length ≤ 9223372036854775807 := hlen.1
 have hl1 : (a).length ≤ 9223372036854775807 := hlen.2.1
 have hl2 : (b).length ≤ 9223372036854775807 := hlen.2.2.1
 replace hpre : k.length ≤ 1000000000 ∧ b.length ≤ 1000000 := hpre
 show HT (cx Tryd.prog 20 (tyOf Tryd.prog) gl []) _ [(0, .p (.bs (k))), (1, .p (.bs (a))), (2, .p (.bs (b)))] [] _
 have htx := tx_len a
 have hkt := kTg_len k
 refine HT.seq (HT.region S_rtag_ok (So.q rfl rfl (V.as (v := .p (.v (.slice none 0 0))) rfl (So.e (HT.seq (HT.region S_rtag_ok (So.q rfl rfl (V.mv (v := .p (.bs _)) rfl ?_))))))))
 refine So.n (lk rfl) (A.call0 [.p (.bs _)] 1 rfl rfl rfl rfl ⟨trivial, trivial⟩ trivial _ ⟨.refl _, trivial⟩ trivial (by trivial) (Φ := fun s => (textF s).length ≤ 1048580) (fun s _ => textF_len s) (.inl rfl) (v := .tup 2 _) rfl (O' := (2, ⟨5, 1, _, true, .bs _⟩) :: _) rfl (fun h1 => ?_))
 try dsimp only at h1
 refine So.q rfl rfl (V.mv (v := .tup 2 _) rfl (So.q rfl rfl (V.ext rfl (lk rfl) (v := .own 2 0 _) rfl (So.q rfl rfl (V.ext rfl (lk rfl) (v := .p (.v (.int .i64 _))) rfl (So.q rfl rfl (V.as (v := .own 2 0 _) rfl (So.q rfl rfl (V.as (v := .p (.v (.int .i64 _))) rfl (So.e (HT.seq (HT.region S_rtag_ok (So.q rfl rfl (V.mv (v := .p (.bs _)) rfl ?_))))))))))))))
 refine So.n (lk rfl) (A.call0 [.p (.bs _), .p (.str _), .p (.v (.slice none 0 0)), .p (.v (.int .i64 _))] 3 rfl rfl rfl rfl ⟨trivial, trivial, trivial, trivial, trivial⟩ trivial (k, nTag, [], 32) ⟨.refl _, .refl _, le_nil rfl, .refl _, trivial⟩ trivial (by first | omega | (simp; done) | (simp; omega)) (Φ := fun _ => True) (fun _ _ => trivial) (.inl rfl) (v := .own 5 0 _) rfl (O' := (5, ⟨5, 1, _, true, .bs _⟩) :: _) rfl (fun h2 => ?_))
 refine So.q rfl rfl (V.mv (v := .own 2 0 _) rfl (So.q rfl rfl (V.mv (v := .p (.bs _)) rfl (So.n (lk rfl) (A.apOwn ty22 ty5 rfl rfl rfl rfl (u := .p (.bs _)) rfl rfl (l' := txF a ++ b) (by first | rfl | (rw [ap_full (Nat.le_refl _)]; done) | (rw [ap_full (Nat.le_refl _)]; rfl)) (mn := (txF a).length + b.length) (by rfl) (by first | rfl | omega | (simp; done) | (simp; omega)) rfl rfl rfl ?_)))))
 refine So.n (lk rfl) (A.call0 [.p (.bs _), .p (.bs _)] 6 rfl rfl rfl rfl ⟨trivial, trivial, trivial⟩ trivial (kTg k, txF a ++ b) ⟨le_bs (take_full _), le_bs (by rw [List.drop_zero, List.take_of_length_le (by rw [List.length_append]; exact Nat.le_refl _)]), trivial⟩ trivial (by first | omega | (simp only [List.drop_zero, List.take_length]; omega) | (simp; done) | (simp; omega)) (Φ := fun _ => True) (fun _ _ => trivial) (.inr ⟨trivial, by simp [Hp.scal, OC.scal, PV.scal, BV.scal]⟩) (v := .own 8 0 _) rfl (O' := (8, ⟨5, 1, _, true, .bs _⟩) :: _) rfl (fun h3 => ?_))
 refine So.q rfl rfl (V.as (v := .own 8 0 _) rfl (So.e ?_))
 show HT _ _ _ _ _
 refine HT.ret ?_
 exact ret_ok (sg [(2, 8)]) h rfl rfl rfl ⟨trivial, trivial⟩ ⟨rfl, trivial⟩ rfl ⟨⟨⟨le_own2 (by first | rfl | omega) (by first | rfl), rfl⟩, trivial⟩, ⟨⟨_, rfl, .inl (ob_bs (by first | rfl | ((try dsimp only); (first | rfl))) (by first | rfl | ((try dsimp only); (first | rfl)))), trivial⟩, trivial⟩⟩
end Go.Vh
