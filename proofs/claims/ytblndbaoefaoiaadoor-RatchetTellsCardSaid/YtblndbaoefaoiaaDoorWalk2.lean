/- What is proved: each function of the seat's program does what its contract says, wherever it is called; no condition. -/
import Derived.Test.YtblndbaoefaoiaaDoorWalk0
import Derived.Test.YtblndbaoefaoiaaDoorPure0
import Derived.Test.YtblndbaoefaoiaaDoorWalk1
import Derived.Test.YtblndbaoefaoiaaDoorFrame2
set_option linter.unusedVariables false
set_option linter.unusedSimpArgs false
namespace Go.Vh
open Go Go.Vc Go.Proofs Go.Vw
def rblockSp : Sp := ⟨[], mkE (α := (Nat → UInt32) × (List UInt8)) (fun (g, b) => [.agg 8 (fun j => .u32 (g j)), .p (.bs b)]) (fun (g, b) => []) (fun (g, b) => 64 ≤ b.length) (fun (g, b) => [.agg 8 (fun j => .u32 (comp g b j))]) (fun (g, b) => [])⟩
def S_rblock : FuncId → Option Sp := fun f => if f = 60 then some constantsSp else if f = 61 then some turnedSp else none
theorem S_rblock_ok : ∀ f s, S_rblock f = some s → FOK Tryd.prog gl f s := fun f s h => by
 unfold S_rblock at h
 split at h
 ·rename_i e; cases h; subst e; exact constants_ok
 split at h
 ·rename_i e; cases h; subst e; exact turned_ok
 cases h
theorem S_rblock_det : ∀ f s, S_rblock f = some s → SpDet s.sp := fun f s h => by
 unfold S_rblock at h
 split at h
 ·cases h; exact mkE_det _ _ _ _ _
 split at h
 ·cases h; exact mkE_det _ _ _ _ _
 cases h
set_option maxHeartbeats 1000000 in
set_option maxRecDepth 20000 in
theorem rblock_ok : FOK Tryd.prog gl 57 rblockSp := by
 refine FOK.ofEC (tyOf_ok Tryd.prog) (rvs := [.cell 4 84]) (nt := 196) Tryd.func57 rfl rfl rfl rfl (by decide) 2 (fun ⟨_, _⟩ => rfl) (by decide) (fun ⟨_, _⟩ => ⟨trivial, trivial, trivial⟩) ?_
 rintro ⟨g, b⟩ kk hlen hpre h
 have hl1 : (b).length ≤ 9223372036854775807 := hlen.2.1
 replace hpre : 64 ≤ b.length := hpre
 show HT (cx Tryd.prog 196 (tyOf Tryd.prog) gl []) _ [(0, .agg 8 (fun j => .u32 (g j))), (1, .p (.bs b))] [] _
 refine HT.seq (HT.region S_rblock_ok (So.n (lk rfl) (A.boxAg 1 1 (n := 8) rfl (by intro j hj; trivial) rfl trivial (So.n (lk rfl) (A.alloc 2 1 ty84 rfl trivial (f := fun _ => .u32 0) (fun _ _ => rfl) (So.e (HT.seq (HT.region S_rblock_ok ?_))))))))
 refine So.n (lk rfl) (A.call0 [] 3 rfl rfl rfl rfl trivial trivial () trivial trivial (by trivial) (Φ := fun _ => True) (fun _ _ => trivial) (.inl rfl) (v := .agg 64 _) rfl (O' := _) rfl (fun h1 => ?_))
 refine So.n (lk rfl) (A.alloc 3 1 ty90 rfl trivial (f := fun _ => .u32 0) (fun _ _ => rfl) (So.s (A.stoAg ty90 rfl (n := 64) rfl (by decide) (by intro j hj; trivial) rfl rfl rfl (So.e (HT.seq (HT.region S_rblock_ok (So.n (lk rfl) (A.alloc 4 1 ty90 rfl trivial (f := fun _ => .u32 0) (fun _ _ => rfl) (So.e (HT.seq (HT.seq (HT.region S_rblock_ok ?_))))))))))))
 refine So.q rfl rfl (V.as (v := .p (.v (.int .i64 0))) rfl (So.e (HT.block ?_)))
 refine R.loop (σ := Nat) (fun s => [(7, .p (.v (.int .i64 ((s : Int)))))]) (fun s => [(4, ⟨90, 1, 64, true, .rows (fun j => .u32 (if j < s then be b j else 0))⟩)]) [1, 2, 4, 5, 6] [1, 2, 3] (fun s => s ≤ 16) (fun s => 16 - s) (0) (fr0 := [(1, .p (.bs _)), (2, .ptr 1 0), (4, .ptr 2 0), (5, .ptr 3 0), (6, .ptr 4 0)]) (O0 := [(1, ⟨_, _, _, _, .rows _⟩), (2, ⟨_, _, _, _, .rows _⟩), (3, ⟨_, _, _, _, .rows _⟩)]) rfl rfl (by omega) ⟨⟨⟨le_int (by rfl), trivial⟩, ⟨.refl _, trivial⟩, ⟨.refl _, rfl⟩, ⟨.refl _, rfl⟩, ⟨.refl _, rfl⟩, ⟨.refl _, rfl⟩, trivial⟩, ⟨⟨_, rfl, .inr (ob_rows (by rfl) (by ((try dsimp only); (simp; done)))), trivial⟩, ⟨_, rfl, .inl rfl, trivial⟩, ⟨_, rfl, .inl rfl, trivial⟩, ⟨_, rfl, .inl rfl, trivial⟩, trivial⟩⟩ (fun s hP0 => ?_)
 refine HT.seq (HT.seq (HT.region S_rblock_ok (So.q rfl rfl (V.mv (v := .p (.v (.int .i64 ((_ : Nat) : Int)))) rfl (So.q rfl rfl (V.bin (a := (.v (.int .i64 ((_ : Nat) : Int)))) (b := .v (.int .i64 16)) (r := .v (.bool _)) rfl rfl rfl trivial (So.e ?_)))))))
 show HT _ _ _ _ _
 refine R.cond rfl rfl (fun h2 => ?_) (fun h2 => ?_)
 ·have h2 := of_decide_eq_true h2
  refine HT.skip (HT.seq (HT.block ?_))
  refine HT.tail S_rblock_ok mixed 35 (by kernel_rfl) (by kernel_rfl) ?_
  refine So.q rfl rfl (V.mv (v := .p (.v (.int .i64 ((_ : Nat) : Int)))) rfl (So.q rfl rfl (V.mv (v := .p (.bs _)) rfl (So.q rfl rfl (V.mv (v := .p (.v (.int .i64 ((_ : Nat) : Int)))) rfl (So.q rfl rfl (V.mulI rfl rfl (by omega) (So.q rfl rfl (V.ixBs (mi := 4 * s) ty22 ty5 rfl rfl rfl (by omega) (by omega) (So.q rfl rfl (V.ldRp ty5 rfl rfl (lk rfl) (v := .u8 _) rfl (So.q rfl rfl (V.cvN ty83 ty5 (a := .u8 _) (r := .u32 _) rfl rfl (So.q rfl rfl (V.shlC (n := 24) (a := .u32 _) (b := .u64 24) (r := .u32 (u32Shl _ 24)) rfl rfl rfl rfl (So.q rfl rfl (V.mv (v := .p (.bs _)) rfl (So.q rfl rfl (V.mv (v := .p (.v (.int .i64 ((_ : Nat) : Int)))) rfl ?_)))))))))))))))))))
  refine So.q rfl rfl (V.mulI rfl rfl (by omega) (So.q rfl rfl (V.addI rfl rfl (by omega) (So.q rfl rfl (V.ixBs (mi := 4 * s + 1) ty22 ty5 rfl rfl rfl (by omega) (by omega) (So.q rfl rfl (V.ldRp ty5 rfl rfl (lk rfl) (v := .u8 _) rfl (So.q rfl rfl (V.cvN ty83 ty5 (a := .u8 _) (r := .u32 _) rfl rfl (So.q rfl rfl (V.shlC (n := 16) (a := .u32 _) (b := .u64 16) (r := .u32 (u32Shl _ 16)) rfl rfl rfl rfl (So.q rfl rfl (V.bin (a := .u32 _) (b := .u32 _) (r := .u32 _) rfl rfl rfl trivial (So.q rfl rfl (V.mv (v := .p (.bs _)) rfl (So.q rfl rfl (V.mv (v := .p (.v (.int .i64 ((_ : Nat) : Int)))) rfl (So.q rfl rfl (V.mulI rfl rfl (by omega) ?_)))))))))))))))))))
  refine So.q rfl rfl (V.addI rfl rfl (by omega) (So.q rfl rfl (V.ixBs (mi := 4 * s + 2) ty22 ty5 rfl rfl rfl (by omega) (by omega) (So.q rfl rfl (V.ldRp ty5 rfl rfl (lk rfl) (v := .u8 _) rfl (So.q rfl rfl (V.cvN ty83 ty5 (a := .u8 _) (r := .u32 _) rfl rfl (So.q rfl rfl (V.shlC (n := 8) (a := .u32 _) (b := .u64 8) (r := .u32 (u32Shl _ 8)) rfl rfl rfl rfl (So.q rfl rfl (V.bin (a := .u32 _) (b := .u32 _) (r := .u32 _) rfl rfl rfl trivial (So.q rfl rfl (V.mv (v := .p (.bs _)) rfl (So.q rfl rfl (V.mv (v := .p (.v (.int .i64 ((_ : Nat) : Int)))) rfl (So.q rfl rfl (V.mulI rfl rfl (by omega) (So.q rfl rfl (V.addI rfl rfl (by omega) ?_)))))))))))))))))))
  refine So.q rfl rfl (V.ixBs (mi := 4 * s + 3) ty22 ty5 rfl rfl rfl (by omega) (by omega) (So.q rfl rfl (V.ldRp ty5 rfl rfl (lk rfl) (v := .u8 _) rfl (So.q rfl rfl (V.cvN ty83 ty5 (a := .u8 _) (r := .u32 _) rfl rfl (So.q rfl rfl (V.bin (a := .u32 _) (b := .u32 _) (r := .u32 _) rfl rfl rfl trivial (So.q rfl rfl (V.ixArrP10 (mi := s) ty90 ty83 rfl rfl rfl (by (simp; done)) rfl (by omega) (by omega) (So.s (A.sto ty83 rfl rfl rfl (v := .p (.u32 _)) rfl trivial rfl (by omega) (c' := .rows (fun j => .u32 (if j = s then be b s else if j < s then be b j else 0))) (congrArg (fun g => some (OC.rows g)) (funext fun j => by by_cases h9 : j = s <;> simp [h9, be])) rfl (So.e (HT.region S_rblock_ok (So.q rfl rfl (V.mv (v := .p (.v (.int .i64 ((_ : Nat) : Int)))) rfl (So.q rfl rfl (V.addI rfl rfl (by omega) ?_)))))))))))))))))
  refine So.q rfl rfl (V.as (v := .p (.v (.int .i64 _))) rfl (So.e ?_))
  refine ⟨s + 1, by omega, by omega, ⟨⟨⟨le_int (by rfl), trivial⟩, ⟨.refl _, trivial⟩, ⟨.refl _, rfl⟩, ⟨.refl _, rfl⟩, ⟨.refl _, rfl⟩, ⟨.refl _, rfl⟩, trivial⟩, ⟨⟨_, rfl, .inr (ob_rows (by rfl) (by ((try dsimp only); (intro j hj; by_cases h9 : j = s <;> simp [h9] <;> (try rw [if_pos (by omega)]) <;> (try (by_cases h8 : j < s <;> simp [h8] <;> omega)))))), trivial⟩, ⟨_, rfl, .inl rfl, trivial⟩, ⟨_, rfl, .inl rfl, trivial⟩, ⟨_, rfl, .inl rfl, trivial⟩, trivial⟩⟩⟩
 ·have h2 := of_decide_eq_false h2
  refine HT.exit ?_
  show HT _ _ _ _ _
  refine HT.seq (HT.seq (HT.region S_rblock_ok (So.q rfl rfl (V.as (v := .p (.v (.int .i64 16))) rfl (So.e (HT.block ?_))))))
  refine R.loop (σ := Nat) (fun s => [(8, .p (.v (.int .i64 (((16 + s : Nat) : Int)))))]) (fun s => [(4, ⟨90, 1, 64, true, .rows (fun j => .u32 (wdN b s j))⟩)]) [2, 4, 5, 6] [1, 2, 3] (fun s => s ≤ 48) (fun s => 48 - s) (0) (fr0 := [(2, .ptr 1 0), (4, .ptr 2 0), (5, .ptr 3 0), (6, .ptr 4 0)]) (O0 := [(1, ⟨_, _, _, _, .rows _⟩), (2, ⟨_, _, _, _, .rows _⟩), (3, ⟨_, _, _, _, .rows _⟩)]) rfl rfl (by omega) ⟨⟨⟨le_int (by rfl), trivial⟩, ⟨.refl _, rfl⟩, ⟨.refl _, rfl⟩, ⟨.refl _, rfl⟩, ⟨.refl _, rfl⟩, trivial⟩, ⟨⟨_, rfl, .inr (ob_rows (by rfl) (by ((try dsimp only); (intro j _; rw [show s = 16 by omega]; rfl)))), trivial⟩, ⟨_, rfl, .inl rfl, trivial⟩, ⟨_, rfl, .inl rfl, trivial⟩, ⟨_, rfl, .inl rfl, trivial⟩, trivial⟩⟩ (fun s hP1 => ?_)
  refine HT.seq (HT.seq (HT.region S_rblock_ok (So.q rfl rfl (V.mv (v := .p (.v (.int .i64 _))) rfl (So.q rfl rfl (V.bin (a := .v (.int .i64 _)) (b := .v (.int .i64 64)) (r := .v (.bool _)) rfl rfl rfl trivial (So.e ?_)))))))
  show HT _ _ _ _ _
  refine R.cond rfl rfl (fun h3 => ?_) (fun h3 => ?_)
  ·have h3 := of_decide_eq_true h3
   refine HT.skip (HT.seq (HT.block (HT.seq (HT.region S_rblock_ok (So.q rfl rfl (V.mv (v := .p (.v (.int .i64 _))) rfl (So.q rfl rfl (V.subI rfl rfl (by omega) (So.q rfl rfl (V.ixArrP10 (mi := s + 1) ty90 ty83 rfl rfl rfl (by (simp; done)) rfl (by omega) (by omega) (So.q rfl rfl (V.ldPtr ty83 rfl rfl rfl (by (simp; omega)) (v := .p (.u32 _)) rfl (So.q rfl rfl (V.as (v := .p (.u32 _)) rfl ?_))))))))))))))
   refine So.e (HT.seq (HT.region S_rblock_ok (So.q rfl rfl (V.mv (v := .p (.v (.int .i64 _))) rfl (So.q rfl rfl (V.subI rfl rfl (by omega) (So.q rfl rfl (V.ixArrP10 (mi := s + 14) ty90 ty83 rfl rfl rfl (by (simp; done)) rfl (by omega) (by omega) (So.q rfl rfl (V.ldPtr ty83 rfl rfl rfl (by (simp; omega)) (v := .p (.u32 _)) rfl (So.q rfl rfl (V.as (v := .p (.u32 _)) rfl (So.e ?_)))))))))))))
   show HT _ _ _ _ _
   refine HT.planS S_rblock_ok S_rblock_det mixed [] [⟨[0, 1, 2, 3, 4, 5, 6, 7, 8, 9, 10, 11, 12, 13, 14, 15, 16, 17, 18, 19, 20, 21, 22, 23, 24, 25, 26, 27, 28], 29, []⟩] (by kernel_rfl) ?_
   refine Pl.l0 ?_
   refine Si.n rfl (lk rfl) (V.mv (v := .p (.v (.int .i64 _))) rfl (Si.n rfl (lk rfl) (V.mv (v := .p (.v (.int .i64 _))) rfl (Si.n rfl (lk rfl) (V.subI rfl rfl (by omega) (Si.n rfl (lk rfl) (V.ixArrP10 (mi := s) ty90 ty83 rfl rfl rfl (by (simp; done)) rfl (by omega) (by omega) (Si.n rfl (lk rfl) (V.ldPtr ty83 rfl rfl rfl (by (simp; omega)) (v := .p (.u32 _)) rfl (Si.n rfl (lk rfl) (V.mv (v := .p (.u32 _)) rfl ?_)))))))))))
   refine Si.n rfl (lk rfl) (V.call [.p (.u32 _), .p (.v (.int .i64 _))] 5 rfl rfl rfl rfl ⟨trivial, trivial, trivial⟩ trivial (_, _) ⟨.refl _, .refl _, trivial⟩ trivial (by omega) (Φ := fun _ => True) (fun _ _ => trivial) (.inl ⟨trivial, trivial, trivial⟩) (v := .p (.u32 _)) rfl (fun h4 => ?_))
   refine Si.n rfl (lk rfl) (V.mv (v := .p (.u32 _)) rfl ?_)
   refine Si.n rfl (lk rfl) (V.call [.p (.u32 _), .p (.v (.int .i64 _))] 5 rfl rfl rfl rfl ⟨trivial, trivial, trivial⟩ trivial (_, _) ⟨.refl _, .refl _, trivial⟩ trivial (by omega) (Φ := fun _ => True) (fun _ _ => trivial) (.inl ⟨trivial, trivial, trivial⟩) (v := .p (.u32 _)) rfl (fun h5 => ?_))
   refine Si.n rfl (lk rfl) (V.bin (a := .u32 _) (b := .u32 _) (r := .u32 _) rfl rfl rfl trivial (Si.n rfl (lk rfl) (V.mv (v := .p (.u32 _)) rfl (Si.n rfl (lk rfl) (V.shrC (n := 3) (a := .u32 _) (b := .u64 3) (r := .u32 (u32Shr _ 3)) rfl rfl rfl rfl (Si.n rfl (lk rfl) (V.bin (a := .u32 _) (b := .u32 _) (r := .u32 _) rfl rfl rfl trivial (Si.n rfl (lk rfl) (V.bin (a := .u32 _) (b := .u32 _) (r := .u32 _) rfl rfl rfl trivial (Si.n rfl (lk rfl) (V.mv (v := .p (.v (.int .i64 _))) rfl (Si.n rfl (lk rfl) (V.subI rfl rfl (by omega) (Si.n rfl (lk rfl) (V.ixArrP10 (mi := s + 9) ty90 ty83 rfl rfl rfl (by (simp; done)) rfl (by omega) (by omega) (Si.n rfl (lk rfl) (V.ldPtr ty83 rfl rfl rfl (by (simp; omega)) (v := .p (.u32 _)) rfl (Si.n rfl (lk rfl) (V.bin (a := .u32 _) (b := .u32 _) (r := .u32 _) rfl rfl rfl trivial ?_)))))))))))))))))))
   refine Si.n rfl (lk rfl) (V.mv (v := .p (.u32 _)) rfl ?_)
   refine Si.n rfl (lk rfl) (V.call [.p (.u32 _), .p (.v (.int .i64 _))] 5 rfl rfl rfl rfl ⟨trivial, trivial, trivial⟩ trivial (_, _) ⟨.refl _, .refl _, trivial⟩ trivial (by omega) (Φ := fun _ => True) (fun _ _ => trivial) (.inl ⟨trivial, trivial, trivial⟩) (v := .p (.u32 _)) rfl (fun h6 => ?_))
   refine Si.n rfl (lk rfl) (V.mv (v := .p (.u32 _)) rfl ?_)
   refine Si.n rfl (lk rfl) (V.call [.p (.u32 _), .p (.v (.int .i64 _))] 5 rfl rfl rfl rfl ⟨trivial, trivial, trivial⟩ trivial (_, _) ⟨.refl _, .refl _, trivial⟩ trivial (by omega) (Φ := fun _ => True) (fun _ _ => trivial) (.inl ⟨trivial, trivial, trivial⟩) (v := .p (.u32 _)) rfl (fun h7 => ?_))
   refine Si.n rfl (lk rfl) (V.bin (a := .u32 _) (b := .u32 _) (r := .u32 _) rfl rfl rfl trivial (Si.n rfl (lk rfl) (V.mv (v := .p (.u32 _)) rfl (Si.n rfl (lk rfl) (V.shrC (n := 10) (a := .u32 _) (b := .u64 10) (r := .u32 (u32Shr _ 10)) rfl rfl rfl rfl (Si.n rfl (lk rfl) (V.bin (a := .u32 _) (b := .u32 _) (r := .u32 _) rfl rfl rfl trivial (Si.n rfl (lk rfl) (V.bin (a := .u32 _) (b := .u32 _) (r := .u32 _) rfl rfl rfl trivial (Si.n rfl (lk rfl) (V.ixArrP10 (mi := 16 + s) ty90 ty83 rfl rfl rfl (by (simp; done)) rfl (by omega) (by omega) (Si.e ?_))))))))))))
   refine ⟨flEq_nil, ?_⟩
   refine Lo.s rfl (A.sto ty83 rfl rfl rfl (v := .p (.u32 _)) rfl trivial rfl (by omega) (c' := .rows (fun j => .u32 (wdN b (s + 1) j))) (congrArg (fun g => some (OC.rows g)) (funext fun j => by by_cases h9 : j = 16 + s <;> simp [h9] <;> first | (rw [← wd_ref]; simp [sg0, sg1]; done) | (simp [wdN, h9]; done))) rfl ?_)
   refine Pl.e ?_
   refine Si.e ?_
   refine ⟨flEq_nil, ?_⟩
   show HT _ _ _ _ _
   refine HT.region S_rblock_ok (So.q rfl rfl (V.mv (v := .p (.v (.int .i64 _))) rfl (So.q rfl rfl (V.addI rfl rfl (by omega) (So.q rfl rfl (V.as (v := .p (.v (.int .i64 _))) rfl (So.e ?_)))))))
   refine ⟨s + 1, by omega, by omega, ⟨⟨⟨le_int (by rfl), trivial⟩, ⟨.refl _, rfl⟩, ⟨.refl _, rfl⟩, ⟨.refl _, rfl⟩, ⟨.refl _, rfl⟩, trivial⟩, ⟨⟨_, rfl, .inr (ob_rows (by rfl) (by ((try dsimp only); (simp; done)))), trivial⟩, ⟨_, rfl, .inl rfl, trivial⟩, ⟨_, rfl, .inl rfl, trivial⟩, ⟨_, rfl, .inl rfl, trivial⟩, trivial⟩⟩⟩
  ·have h3 := of_decide_eq_false h3
   refine HT.exit ?_
   show HT _ _ _ _ _
   refine HT.seq (HT.region S_rblock_ok ?_)
   have hs : s = 48 := by omega
   subst hs
   refine So.q rfl rfl (V.ldPtrA ty84 rfl rfl rfl rfl (lk rfl) (So.n (lk rfl) (A.alloc 5 1 ty84 rfl trivial (f := fun _ => .u32 0) (fun _ _ => rfl) (So.s (A.stoAg ty84 rfl (n := 8) rfl (by decide) (by intro j hj; trivial) rfl rfl rfl (So.e (HT.seq (HT.seq (HT.region S_rblock_ok (So.q rfl rfl (V.as (v := .p (.v (.int .i64 0))) rfl (So.e (HT.block ?_)))))))))))))
   refine R.loop (σ := Nat) (fun q => [(12, .p (.v (.int .i64 ((q : Int)))))]) (fun q => [(5, ⟨84, 1, 8, true, .rows (fun j => .u32 (rounds g (wd b) q j))⟩)]) [2, 4, 5, 6, 11] [1, 2, 3, 4] (fun q => q ≤ 64) (fun q => 64 - q) (0) (fr0 := [(2, .ptr 1 0), (4, .ptr 2 0), (5, .ptr 3 0), (6, .ptr 4 0), (11, .ptr 5 0)]) (O0 := [(1, ⟨_, _, _, _, .rows _⟩), (2, ⟨_, _, _, _, .rows _⟩), (3, ⟨_, _, _, _, .rows _⟩), (4, ⟨_, _, _, _, .rows _⟩)]) rfl rfl (by omega) ⟨⟨⟨le_int (by rfl), trivial⟩, ⟨.refl _, rfl⟩, ⟨.refl _, rfl⟩, ⟨.refl _, rfl⟩, ⟨.refl _, rfl⟩, ⟨.refl _, rfl⟩, trivial⟩, ⟨⟨_, rfl, .inr (ob_rows (by rfl) (by ((try dsimp only); (intro j hj; (rw [Nat.zero_add]; rfl))))), trivial⟩, ⟨_, rfl, .inl rfl, trivial⟩, ⟨_, rfl, .inl rfl, trivial⟩, ⟨_, rfl, .inl rfl, trivial⟩, ⟨_, rfl, .inl rfl, trivial⟩, trivial⟩⟩ (fun q hP2 => ?_)
   refine HT.seq (HT.seq (HT.region S_rblock_ok (So.q rfl rfl (V.mv (v := .p (.v (.int .i64 ((_ : Nat) : Int)))) rfl (So.q rfl rfl (V.bin (a := (.v (.int .i64 ((_ : Nat) : Int)))) (b := .v (.int .i64 64)) (r := .v (.bool _)) rfl rfl rfl trivial (So.e ?_)))))))
   show HT _ _ _ _ _
   refine R.cond rfl rfl (fun h8 => ?_) (fun h8 => ?_)
   ·have h8 := of_decide_eq_true h8
    refine HT.skip (HT.seq (HT.block (HT.seq (HT.region S_rblock_ok (So.q rfl rfl (V.ixArrP10 ty84 ty83 rfl rfl rfl (by (simp; done)) rfl (by omega) rfl (So.q rfl rfl (V.ldPtr ty83 rfl rfl rfl (by (simp; done)) (v := .p (.u32 _)) rfl (So.q rfl rfl (V.as (v := .p (.u32 _)) rfl (So.e (HT.seq ?_))))))))))))
    refine HT.region S_rblock_ok (So.q rfl rfl (V.ixArrP10 ty84 ty83 rfl rfl rfl (by (simp; done)) rfl (by omega) rfl (So.q rfl rfl (V.ldPtr ty83 rfl rfl rfl (by (simp; done)) (v := .p (.u32 _)) rfl (So.q rfl rfl (V.as (v := .p (.u32 _)) rfl (So.e (HT.seq ?_))))))))
    refine HT.drawn S_rblock_ok S_rblock_det mixed (by kernel_rfl) ?_
    refine Sd.n (lk rfl) (V.ixArrP10 ty84 ty83 rfl rfl rfl (by (simp; done)) rfl (by omega) rfl (Sd.n (lk rfl) (V.ldPtr ty83 rfl rfl rfl (by (simp; done)) (v := .p (.u32 _)) rfl (Sd.n (lk rfl) (V.mv (v := .p (.u32 _)) rfl ?_)))))
    refine Sd.n (lk rfl) (V.call [.p (.u32 _), .p (.v (.int .i64 _))] 6 rfl rfl rfl rfl ⟨trivial, trivial, trivial⟩ trivial (_, _) ⟨.refl _, .refl _, trivial⟩ trivial (by omega) (Φ := fun _ => True) (fun _ _ => trivial) (.inl ⟨trivial, trivial, trivial⟩) (v := .p (.u32 _)) rfl (fun h9 => ?_))
    refine Sd.n (lk rfl) (V.mv (v := .p (.u32 _)) rfl ?_)
    refine Sd.n (lk rfl) (V.call [.p (.u32 _), .p (.v (.int .i64 _))] 6 rfl rfl rfl rfl ⟨trivial, trivial, trivial⟩ trivial (_, _) ⟨.refl _, .refl _, trivial⟩ trivial (by omega) (Φ := fun _ => True) (fun _ _ => trivial) (.inl ⟨trivial, trivial, trivial⟩) (v := .p (.u32 _)) rfl (fun h10 => ?_))
    refine Sd.n (lk rfl) (V.bin (a := .u32 _) (b := .u32 _) (r := .u32 _) rfl rfl rfl trivial (Sd.n (lk rfl) (V.mv (v := .p (.u32 _)) rfl ?_)))
    refine Sd.n (lk rfl) (V.call [.p (.u32 _), .p (.v (.int .i64 _))] 6 rfl rfl rfl rfl ⟨trivial, trivial, trivial⟩ trivial (_, _) ⟨.refl _, .refl _, trivial⟩ trivial (by omega) (Φ := fun _ => True) (fun _ _ => trivial) (.inl ⟨trivial, trivial, trivial⟩) (v := .p (.u32 _)) rfl (fun h11 => ?_))
    refine Sd.n (lk rfl) (V.bin (a := .u32 _) (b := .u32 _) (r := .u32 _) rfl rfl rfl trivial (Sd.n (lk rfl) (V.bin (a := .u32 _) (b := .u32 _) (r := .u32 _) rfl rfl rfl trivial (Sd.n (lk rfl) (V.mv (v := .p (.u32 _)) rfl (Sd.n (lk rfl) (V.ixArrP10 ty84 ty83 rfl rfl rfl (by (simp; done)) rfl (by omega) rfl (Sd.n (lk rfl) (V.ldPtr ty83 rfl rfl rfl (by (simp; done)) (v := .p (.u32 _)) rfl (Sd.n (lk rfl) (V.bin (a := .u32 _) (b := .u32 _) (r := .u32 _) rfl rfl rfl trivial (Sd.n (lk rfl) (V.mv (v := .p (.u32 _)) rfl (Sd.n (lk rfl) (V.xor32 rfl (Sd.n (lk rfl) (V.ixArrP10 ty84 ty83 rfl rfl rfl (by (simp; done)) rfl (by omega) rfl (Sd.n (lk rfl) (V.ldPtr ty83 rfl rfl rfl (by (simp; done)) (v := .p (.u32 _)) rfl ?_)))))))))))))))))))
    refine Sd.n (lk rfl) (V.bin (a := .u32 _) (b := .u32 _) (r := .u32 _) rfl rfl rfl trivial (Sd.n (lk rfl) (V.bin (a := .u32 _) (b := .u32 _) (r := .u32 _) rfl rfl rfl trivial (Sd.n (lk rfl) (V.bin (a := .u32 _) (b := .u32 _) (r := .u32 _) rfl rfl rfl trivial (Sd.n (lk rfl) (V.mv (v := .p (.v (.int .i64 ((_ : Nat) : Int)))) rfl (Sd.n (lk rfl) (V.ixArrP10 (mi := q) ty90 ty83 rfl rfl rfl (by (simp; done)) rfl (by omega) (by omega) (Sd.n (lk rfl) (V.ldPtr ty83 rfl rfl rfl (by (simp; omega)) (v := .p (.u32 _)) rfl (Sd.n (lk rfl) (V.bin (a := .u32 _) (b := .u32 _) (r := .u32 _) rfl rfl rfl trivial (Sd.n (lk rfl) (V.mv (v := .p (.v (.int .i64 ((_ : Nat) : Int)))) rfl (Sd.n (lk rfl) (V.ixArrP10 (mi := q) ty90 ty83 rfl rfl rfl (by (simp; done)) rfl (by omega) (by omega) (Sd.n (lk rfl) (V.ldPtr ty83 rfl rfl rfl (by (simp; omega)) (v := .p (.u32 _)) rfl ?_)))))))))))))))))))
    refine Sd.n (lk rfl) (V.bin (a := .u32 _) (b := .u32 _) (r := .u32 _) rfl rfl rfl trivial (Sd.n (lk rfl) (V.as (v := .p (.u32 _)) rfl (Sd.e (HT.seq ?_)))))
    refine HT.drawn S_rblock_ok S_rblock_det mixed (by kernel_rfl) ?_
    refine Sd.n (lk rfl) (V.mv (v := .p (.u32 _)) rfl ?_)
    refine Sd.n (lk rfl) (V.call [.p (.u32 _), .p (.v (.int .i64 _))] 6 rfl rfl rfl rfl ⟨trivial, trivial, trivial⟩ trivial (_, _) ⟨.refl _, .refl _, trivial⟩ trivial (by omega) (Φ := fun _ => True) (fun _ _ => trivial) (.inl ⟨trivial, trivial, trivial⟩) (v := .p (.u32 _)) rfl (fun h12 => ?_))
    refine Sd.n (lk rfl) (V.mv (v := .p (.u32 _)) rfl ?_)
    refine Sd.n (lk rfl) (V.call [.p (.u32 _), .p (.v (.int .i64 _))] 6 rfl rfl rfl rfl ⟨trivial, trivial, trivial⟩ trivial (_, _) ⟨.refl _, .refl _, trivial⟩ trivial (by omega) (Φ := fun _ => True) (fun _ _ => trivial) (.inl ⟨trivial, trivial, trivial⟩) (v := .p (.u32 _)) rfl (fun h13 => ?_))
    refine Sd.n (lk rfl) (V.bin (a := .u32 _) (b := .u32 _) (r := .u32 _) rfl rfl rfl trivial (Sd.n (lk rfl) (V.mv (v := .p (.u32 _)) rfl ?_)))
    refine Sd.n (lk rfl) (V.call [.p (.u32 _), .p (.v (.int .i64 _))] 6 rfl rfl rfl rfl ⟨trivial, trivial, trivial⟩ trivial (_, _) ⟨.refl _, .refl _, trivial⟩ trivial (by omega) (Φ := fun _ => True) (fun _ _ => trivial) (.inl ⟨trivial, trivial, trivial⟩) (v := .p (.u32 _)) rfl (fun h14 => ?_))
    refine Sd.n (lk rfl) (V.bin (a := .u32 _) (b := .u32 _) (r := .u32 _) rfl rfl rfl trivial (Sd.n (lk rfl) (V.mv (v := .p (.u32 _)) rfl (Sd.n (lk rfl) (V.ixArrP10 ty84 ty83 rfl rfl rfl (by (simp; done)) rfl (by omega) rfl (Sd.n (lk rfl) (V.ldPtr ty83 rfl rfl rfl (by (simp; done)) (v := .p (.u32 _)) rfl (Sd.n (lk rfl) (V.bin (a := .u32 _) (b := .u32 _) (r := .u32 _) rfl rfl rfl trivial (Sd.n (lk rfl) (V.mv (v := .p (.u32 _)) rfl (Sd.n (lk rfl) (V.ixArrP10 ty84 ty83 rfl rfl rfl (by (simp; done)) rfl (by omega) rfl (Sd.n (lk rfl) (V.ldPtr ty83 rfl rfl rfl (by (simp; done)) (v := .p (.u32 _)) rfl (Sd.n (lk rfl) (V.bin (a := .u32 _) (b := .u32 _) (r := .u32 _) rfl rfl rfl trivial (Sd.n (lk rfl) (V.bin (a := .u32 _) (b := .u32 _) (r := .u32 _) rfl rfl rfl trivial ?_)))))))))))))))))))
    refine Sd.n (lk rfl) (V.ixArrP10 ty84 ty83 rfl rfl rfl (by (simp; done)) rfl (by omega) rfl (Sd.n (lk rfl) (V.ldPtr ty83 rfl rfl rfl (by (simp; done)) (v := .p (.u32 _)) rfl (Sd.n (lk rfl) (V.ixArrP10 ty84 ty83 rfl rfl rfl (by (simp; done)) rfl (by omega) rfl (Sd.n (lk rfl) (V.ldPtr ty83 rfl rfl rfl (by (simp; done)) (v := .p (.u32 _)) rfl (Sd.n (lk rfl) (V.bin (a := .u32 _) (b := .u32 _) (r := .u32 _) rfl rfl rfl trivial (Sd.n (lk rfl) (V.bin (a := .u32 _) (b := .u32 _) (r := .u32 _) rfl rfl rfl trivial (Sd.n (lk rfl) (V.bin (a := .u32 _) (b := .u32 _) (r := .u32 _) rfl rfl rfl trivial (Sd.n (lk rfl) (V.as (v := .p (.u32 _)) rfl (Sd.e (HT.region S_rblock_ok ?_)))))))))))))))))
    refine So.q rfl rfl (V.mv (v := .p (.u32 _)) rfl (So.q rfl rfl (V.mv (v := .p (.u32 _)) rfl (So.q rfl rfl (V.bin (a := .u32 _) (b := .u32 _) (r := .u32 _) rfl rfl rfl trivial (So.q rfl rfl (V.ixArrP10 ty84 ty83 rfl rfl rfl (by (simp; done)) rfl (by omega) rfl (So.q rfl rfl (V.ldPtr ty83 rfl rfl rfl (by (simp; done)) (v := .p (.u32 _)) rfl (So.q rfl rfl (V.ixArrP10 ty84 ty83 rfl rfl rfl (by (simp; done)) rfl (by omega) rfl (So.q rfl rfl (V.ldPtr ty83 rfl rfl rfl (by (simp; done)) (v := .p (.u32 _)) rfl (So.q rfl rfl (V.ixArrP10 ty84 ty83 rfl rfl rfl (by (simp; done)) rfl (by omega) rfl (So.q rfl rfl (V.ldPtr ty83 rfl rfl rfl (by (simp; done)) (v := .p (.u32 _)) rfl (So.q rfl rfl (V.ixArrP10 ty84 ty83 rfl rfl rfl (by (simp; done)) rfl (by omega) rfl ?_)))))))))))))))))))
    refine So.q rfl rfl (V.ldPtr ty83 rfl rfl rfl (by (simp; done)) (v := .p (.u32 _)) rfl (So.q rfl rfl (V.mv (v := .p (.u32 _)) rfl (So.q rfl rfl (V.bin (a := .u32 _) (b := .u32 _) (r := .u32 _) rfl rfl rfl trivial (So.q rfl rfl (V.ixArrP10 ty84 ty83 rfl rfl rfl (by (simp; done)) rfl (by omega) rfl (So.q rfl rfl (V.ldPtr ty83 rfl rfl rfl (by (simp; done)) (v := .p (.u32 _)) rfl (So.q rfl rfl (V.ixArrP10 ty84 ty83 rfl rfl rfl (by (simp; done)) rfl (by omega) rfl (So.q rfl rfl (V.ldPtr ty83 rfl rfl rfl (by (simp; done)) (v := .p (.u32 _)) rfl (So.q rfl rfl (V.ixArrP10 ty84 ty83 rfl rfl rfl (by (simp; done)) rfl (by omega) rfl (So.q rfl rfl (V.ldPtr ty83 rfl rfl rfl (by (simp; done)) (v := .p (.u32 _)) rfl (So.n (lk rfl) (A.bldA ty84 rfl rfl ⟨by exact trivial, by exact trivial, by exact trivial, by exact trivial, by exact trivial, by exact trivial, by exact trivial, by exact trivial, trivial⟩ rfl (f := fun j => .u32 (rounds g (wd b) (q + 1) j)) (by exact allP_spec (P := fun j => _ = _) ⟨⟨⟨⟨⟨⟨⟨⟨trivial, (congrArg (fun x => BV.p (PV.u32 x)) (ref0 (rounds g (wd b) q) (K256.getD q 0) (wd b q)))⟩, rfl⟩, rfl⟩, rfl⟩, (congrArg (fun x => BV.p (PV.u32 x)) (ref4 (rounds g (wd b) q) (K256.getD q 0) (wd b q)))⟩, rfl⟩, rfl⟩, rfl⟩) ?_)))))))))))))))))))
    refine So.s (A.stoAg ty84 rfl (n := 8) rfl (by decide) (by intro j hj; trivial) rfl rfl rfl (So.e (HT.region S_rblock_ok (So.q rfl rfl (V.mv (v := .p (.v (.int .i64 ((_ : Nat) : Int)))) rfl (So.q rfl rfl (V.addI rfl rfl (by omega) (So.q rfl rfl (V.as (v := .p (.v (.int .i64 _))) rfl (So.e ?_))))))))))
    refine ⟨q + 1, by omega, by omega, ⟨⟨⟨le_int (by rfl), trivial⟩, ⟨.refl _, rfl⟩, ⟨.refl _, rfl⟩, ⟨.refl _, rfl⟩, ⟨.refl _, rfl⟩, ⟨.refl _, rfl⟩, trivial⟩, ⟨⟨_, rfl, .inr (ob_rows (by rfl) (by ((try dsimp only); (intro j hj; rfl)))), trivial⟩, ⟨_, rfl, .inl rfl, trivial⟩, ⟨_, rfl, .inl rfl, trivial⟩, ⟨_, rfl, .inl rfl, trivial⟩, ⟨_, rfl, .inl rfl, trivial⟩, trivial⟩⟩⟩
   ·have h8 := of_decide_eq_false h8
    refine HT.exit ?_
    show HT _ _ _ _ _
    refine HT.seq (HT.seq (HT.region S_rblock_ok ?_))
    have hq : q = 64 := by omega
    subst hq
    refine So.q rfl rfl (V.as (v := .p (.v (.int .i64 0))) rfl (So.e (HT.block ?_)))
    refine R.loop (σ := Nat) (fun r => [(17, .p (.v (.int .i64 ((r : Int)))))]) (fun r => [(1, ⟨84, 1, 8, true, .rows (fun j => .u32 (if j < r then comp g b j else g j))⟩)]) [2, 4, 11] [2, 3, 4, 5] (fun r => r ≤ 8) (fun r => 8 - r) (0) (fr0 := [(2, .ptr 1 0), (4, .ptr 2 0), (11, .ptr 5 0)]) (O0 := [(2, ⟨_, _, _, _, .rows _⟩), (3, ⟨_, _, _, _, .rows _⟩), (4, ⟨_, _, _, _, .rows _⟩), (5, ⟨_, _, _, _, .rows _⟩)]) rfl rfl (by omega) ⟨⟨⟨le_int (by rfl), trivial⟩, ⟨.refl _, rfl⟩, ⟨.refl _, rfl⟩, ⟨.refl _, rfl⟩, trivial⟩, ⟨⟨_, rfl, .inr (ob_rows (by rfl) (by ((try dsimp only); (simp; done)))), trivial⟩, ⟨_, rfl, .inl rfl, trivial⟩, ⟨_, rfl, .inl rfl, trivial⟩, ⟨_, rfl, .inl rfl, trivial⟩, ⟨_, rfl, .inl rfl, trivial⟩, trivial⟩⟩ (fun r hP3 => ?_)
    refine HT.seq (HT.seq (HT.region S_rblock_ok (So.q rfl rfl (V.mv (v := .p (.v (.int .i64 ((_ : Nat) : Int)))) rfl (So.q rfl rfl (V.bin (a := (.v (.int .i64 ((_ : Nat) : Int)))) (b := .v (.int .i64 8)) (r := .v (.bool _)) rfl rfl rfl trivial (So.e ?_)))))))
    show HT _ _ _ _ _
    refine R.cond rfl rfl (fun h15 => ?_) (fun h15 => ?_)
    ·have h15 := of_decide_eq_true h15
     refine HT.skip (HT.seq (HT.block ?_))
     refine HT.tail S_rblock_ok mixed 9 (by kernel_rfl) (by kernel_rfl) ?_
     refine So.q rfl rfl (V.mv (v := .p (.v (.int .i64 ((_ : Nat) : Int)))) rfl (So.q rfl rfl (V.mv (v := .p (.v (.int .i64 ((_ : Nat) : Int)))) rfl (So.q rfl rfl (V.ixArrP10 (mi := r) ty84 ty83 rfl rfl rfl (by (simp; done)) rfl (by omega) (by omega) (So.q rfl rfl (V.ldPtr ty83 rfl rfl rfl (by (simp; omega)) (v := .p (.u32 _)) rfl (So.q rfl rfl (V.mv (v := .p (.v (.int .i64 ((_ : Nat) : Int)))) rfl (So.q rfl rfl (V.ixArrP10 (mi := r) ty84 ty83 rfl rfl rfl (by (simp; done)) rfl (by omega) (by omega) (So.q rfl rfl (V.ldPtr ty83 rfl rfl rfl (by (simp; omega)) (v := .p (.u32 _)) rfl (So.q rfl rfl (V.bin (a := .u32 _) (b := .u32 _) (r := .u32 _) rfl rfl rfl trivial (So.q rfl rfl (V.ixArrP10 (mi := r) ty84 ty83 rfl rfl rfl (by (simp; done)) rfl (by omega) (by omega) (So.s (A.sto ty83 rfl rfl rfl (v := .p (.u32 _)) rfl trivial rfl (by omega) (c' := .rows (fun j => .u32 (if j = r then comp g b r else if j < r then comp g b j else g j))) (congrArg (fun g => some (OC.rows g)) (funext fun j => by by_cases h9 : j = r <;> simp [h9, comp])) rfl ?_)))))))))))))))))))
     refine So.e (HT.region S_rblock_ok (So.q rfl rfl (V.mv (v := .p (.v (.int .i64 ((_ : Nat) : Int)))) rfl (So.q rfl rfl (V.addI rfl rfl (by omega) (So.q rfl rfl (V.as (v := .p (.v (.int .i64 _))) rfl (So.e ?_))))))))
     refine ⟨r + 1, by omega, by omega, ⟨⟨⟨le_int (by rfl), trivial⟩, ⟨.refl _, rfl⟩, ⟨.refl _, rfl⟩, ⟨.refl _, rfl⟩, trivial⟩, ⟨⟨_, rfl, .inr (ob_rows (by rfl) (by ((try dsimp only); (intro j hj; by_cases h9 : j = r <;> simp [h9] <;> (by_cases h8 : j < r <;> simp [h8] <;> omega))))), trivial⟩, ⟨_, rfl, .inl rfl, trivial⟩, ⟨_, rfl, .inl rfl, trivial⟩, ⟨_, rfl, .inl rfl, trivial⟩, ⟨_, rfl, .inl rfl, trivial⟩, trivial⟩⟩⟩
    ·have h15 := of_decide_eq_false h15
     refine HT.exit ?_
     show HT _ _ _ _ _
     refine HT.seq (HT.region S_rblock_ok (So.q rfl rfl (V.ldPtrA ty84 rfl rfl rfl rfl (lk rfl) (So.s (A.stoAg ty84 rfl (n := 8) rfl (by decide) (by intro j hj; trivial) rfl rfl rfl (So.e ?_))))))
     show HT _ _ _ _ _
     refine HT.ret ?_
     exact retC_ok (sg []) [(4, .ptr 2 0)] [(2, ⟨84, 1, 8, true, .rows (fun j => .u32 (comp g b j))⟩)] h ⟨⟨⟨.refl _, rfl⟩, trivial⟩, ⟨⟨_, rfl, .inr (ob_rows rfl (by intro j hj; ((try dsimp only); ((rw [if_pos (by omega), Nat.zero_add]))))), trivial⟩, trivial⟩⟩ ⟨rvA_cell ty84 rfl rfl rfl rfl (Nat.le_refl _) (le_agg (fun j _ => by (dsimp only; rw [Nat.zero_add]))), trivial⟩ trivial rfl trivial ⟨trivial, trivial⟩ rfl
def rsumSp : Sp := ⟨[], mkE (α := (List UInt8)) (fun b => [.p (.bs b)]) (fun b => []) (fun b => b.length ≤ 1099511627776) (fun b => [.own 2 0 (32)]) (fun b => [(2, ⟨5, 1, 32, true, .bs (sha b)⟩)])⟩
def S_rsum : FuncId → Option Sp := fun f => if f = 57 then some rblockSp else none
theorem S_rsum_ok : ∀ f s, S_rsum f = some s → FOK Tryd.prog gl f s := fun f s h => by
 unfold S_rsum at h
 split at h
 ·rename_i e; cases h; subst e; exact rblock_ok
 cases h
theorem S_rsum_det : ∀ f s, S_rsum f = some s → SpDet s.sp := fun f s h => by
 unfold S_rsum at h
 split at h
 ·cases h; exact mkE_det _ _ _ _ _
 cases h
set_option maxHeartbeats 1000000 in
set_option maxRecDepth 20000 in
theorem rsum_ok : FOK Tryd.prog gl 51 rsumSp := by
 refine FOK.ofE (tyOf_ok Tryd.prog) (slots := [2]) (nt := 78) Tryd.func51 rfl rfl rfl rfl (by decide) 1 (fun _ => rfl) (by decide) (fun _ => ⟨trivial, trivial⟩) ?_
 rintro b kk hlen hpre h
 have hl0 : (b).length ≤ 9223372036854775807 := hlen.1
 replace hpre : b.length ≤ 1099511627776 := hpre
 show HT (cx Tryd.prog 78 (tyOf Tryd.prog) gl []) _ [(0, .p (.bs b))] [] _
 have hzl : zlen b.length < 64 := by unfold zlen; omega
 have hEl : (ptx b).length = b.length + (9 + zlen b.length) := by unfold ptx; rw [List.length_append, pad_len]
 have hE64 := ptx_64 b
 refine HT.seq (HT.region S_rsum_ok (So.q rfl rfl (V.as (v := .p (.v (.slice none 0 0))) rfl (So.e (HT.seq (HT.region S_rsum_ok (So.n (lk rfl) (A.bsl 1 ty22 ty5 rfl (lk rfl) (lk rfl) (fun _ => rfl) rfl rfl trivial trivial rfl (N := 0) rfl (c := .bs []) rfl (So.q rfl rfl (V.mv (v := .p (.bs _)) rfl (So.n (lk rfl) (A.apOwn ty22 ty5 rfl rfl rfl rfl (u := .p (.bs _)) rfl rfl (l' := b) (by simp) (mn := b.length) (by simp) (by omega) rfl rfl rfl (So.n (lk rfl) (A.bsl 2 ty22 ty5 rfl (lk rfl) (lk rfl) (fun _ => rfl) rfl rfl trivial ⟨trivial, trivial⟩ rfl (N := 1) rfl (c := .bs [_]) rfl ?_))))))))))))))
 refine So.n (lk rfl) (A.apOwn ty22 ty5 rfl rfl rfl rfl (u := .own 2 0 _) rfl rfl (l' := b ++ [128]) (by simp) (mn := b.length + 1) (by simp) (by omega) rfl rfl rfl (So.q rfl rfl (V.as (v := .own 1 0 _) rfl (So.e (HT.seq (HT.block ?_))))))
 refine R.loop (σ := Nat) (fun s => [(3, .own 1 0 (b.length + 1 + s))]) (fun s => [(1, ⟨5, 1, b.length + 1 + s, true, .bs (b ++ [128] ++ List.replicate s 0)⟩)]) [0, 2] [2] (fun s => s ≤ zlen b.length) (fun s => zlen b.length - s) (0) (fr0 := [(0, .p (.bs _)), (2, .p (.v (.slice none 0 0)))]) (O0 := [(2, ⟨_, _, _, _, .bs _⟩)]) rfl rfl (by omega) ⟨⟨⟨le_own2 (by rfl) (by rfl), rfl⟩, ⟨.refl _, trivial⟩, ⟨.refl _, trivial⟩, trivial⟩, ⟨⟨_, rfl, .inl (ob_bs (by rfl) (by ((try dsimp only); (simp; done)))), trivial⟩, ⟨_, rfl, .inl rfl, trivial⟩, trivial⟩⟩ (fun s hP0 => ?_)
 refine HT.seq (HT.seq (HT.region S_rsum_ok (So.q rfl rfl (V.mv (v := .own 1 0 _) rfl (So.q rfl rfl (V.len ty22 (v := .own 1 0 _) rfl rfl (So.q rfl rfl (V.remI rfl rfl (by omega) (So.q rfl rfl (V.bin (a := .v (.int .i64 _)) (b := .v (.int .i64 56)) (r := .v (.bool _)) rfl rfl rfl trivial (So.e ?_)))))))))))
 show HT _ _ _ _ _
 refine R.cond rfl rfl (fun h1 => ?_) (fun h1 => ?_)
 ·have h1 := of_decide_eq_false (bnT h1)
  refine HT.skip (HT.block (HT.region S_rsum_ok (So.q rfl rfl (V.mv (v := .own 1 0 _) rfl (So.n (lk rfl) (A.bsl 3 ty22 ty5 rfl (lk rfl) (lk rfl) (fun _ => rfl) rfl rfl trivial ⟨trivial, trivial⟩ rfl (N := 1) rfl (c := .bs [_]) rfl (So.n (lk rfl) (A.apOwn ty22 ty5 rfl rfl rfl rfl (u := .own 3 0 _) rfl rfl (l' := b ++ [128] ++ List.replicate (s + 1) 0) (by rw [ap_full (by simp; omega)]; simp [List.replicate_succ']) (mn := b.length + 1 + (s + 1)) (by omega) (by omega) rfl rfl rfl (So.q rfl rfl (V.as (v := .own 1 0 _) rfl (So.e ?_)))))))))))
  refine ⟨s + 1, by unfold zlen at *; omega, by unfold zlen at *; omega, ⟨⟨⟨le_own2 (by rfl) (by rfl), rfl⟩, ⟨.refl _, trivial⟩, ⟨.refl _, trivial⟩, trivial⟩, ⟨⟨_, rfl, .inl (ob_bs (by rfl) (by rfl)), trivial⟩, ⟨_, rfl, .inl rfl, trivial⟩, trivial⟩⟩⟩
 ·have h1 := of_decide_eq_true (bnF h1)
  refine HT.exit ?_
  show HT _ _ _ _ _
  refine HT.seq (HT.region S_rsum_ok ?_)
  have hs : s = zlen b.length := by unfold zlen at *; omega
  refine So.q rfl rfl (V.mv (v := .p (.bs _)) rfl (So.q rfl rfl (V.len ty22 (v := .p (.bs _)) rfl rfl (So.q rfl rfl (V.cvN ty82 ty3 (a := .v (.int .i64 _)) (r := .u64 _) rfl rfl (So.q rfl rfl (V.bin (a := .u64 _) (b := .u64 8) (r := .u64 _) rfl rfl rfl trivial (So.q rfl rfl (V.as (v := .p (.u64 _)) rfl (So.e (HT.seq (HT.seq (HT.region S_rsum_ok (So.q rfl rfl (V.as (v := .p (.v (.int .i64 56))) rfl ?_)))))))))))))))
  refine So.e (HT.block ?_)
  refine R.loop (σ := Nat) (fun r => [(3, .own 1 0 (b.length + 1 + zlen b.length + r)), (5, .p (.v (.int .i64 (56 - 8 * (r : Int)))))]) (fun r => [(1, ⟨5, 1, b.length + 1 + zlen b.length + r, true, .bs (b ++ [128] ++ List.replicate (zlen b.length) 0 ++ len8 (UInt64.ofNat b.length) r)⟩)]) [2, 4] [2] (fun r => r ≤ 8) (fun r => 8 - r) (0) (fr0 := [(2, .p (.v (.slice none 0 0))), (4, .p (.u64 _))]) (O0 := [(2, ⟨_, _, _, _, .bs _⟩)]) rfl rfl (by omega) ⟨⟨⟨le_own2 (by rfl) (by omega), rfl⟩, ⟨le_int (by rfl), trivial⟩, ⟨.refl _, trivial⟩, ⟨.refl _, trivial⟩, trivial⟩, ⟨⟨_, rfl, .inl (ob_bs (by ((try dsimp only); omega)) (by ((try dsimp only); (rw [hs]; simp [len8]; done)))), trivial⟩, ⟨_, rfl, .inl rfl, trivial⟩, trivial⟩⟩ (fun r hP1 => ?_)
  refine HT.seq (HT.seq (HT.region S_rsum_ok (So.q rfl rfl (V.mv (v := .p (.v (.int .i64 _))) rfl (So.q rfl rfl (V.bin (a := .v (.int .i64 _)) (b := .v (.int .i64 0)) (r := .v (.bool _)) rfl rfl rfl trivial (So.e ?_)))))))
  show HT _ _ _ _ _
  refine R.cond rfl rfl (fun h2 => ?_) (fun h2 => ?_)
  ·have h2 := of_decide_eq_true h2
   refine HT.skip (HT.seq (HT.block (HT.region S_rsum_ok (So.q rfl rfl (V.mv (v := .own 1 0 _) rfl (So.q rfl rfl (V.mv (v := .p (.u64 _)) rfl (So.q rfl rfl (V.mv (v := .p (.v (.int .i64 _))) rfl (So.q rfl rfl (V.bin (a := .u64 _) (b := .v (.int .i64 _)) (r := .u64 _) rfl rfl rfl (by omega) (So.q rfl rfl (V.cvN ty5 ty82 (a := .u64 _) (r := .u8 _) rfl rfl (So.n (lk rfl) (A.bsl 3 ty22 ty5 rfl (lk rfl) (lk rfl) (fun _ => rfl) rfl rfl trivial ⟨trivial, trivial⟩ rfl (N := 1) rfl (c := .bs [_]) rfl ?_)))))))))))))))
   refine So.n (lk rfl) (A.apOwn ty22 ty5 rfl rfl rfl rfl (u := .own 3 0 _) rfl rfl (l' := b ++ [128] ++ List.replicate (zlen b.length) 0 ++ len8 (UInt64.ofNat b.length) (r + 1)) (by rw [ap_full (by simp [len8_len]; omega)]; rw [mul_shl, u64_ofInt]; simp only [len8, show (56 - 8 * (r : Int)).toNat = 56 - 8 * r by omega]; simp) (mn := b.length + 1 + zlen b.length + (r + 1)) (by omega) (by omega) rfl rfl rfl (So.q rfl rfl (V.as (v := .own 1 0 _) rfl (So.e (HT.region S_rsum_ok (So.q rfl rfl (V.mv (v := .p (.v (.int .i64 _))) rfl (So.q rfl rfl (V.subI rfl rfl (by omega) (So.q rfl rfl (V.as (v := .p (.v (.int .i64 _))) rfl (So.e ?_))))))))))))
   refine ⟨r + 1, by omega, by omega, ⟨⟨⟨le_own2 (by rfl) (by rfl), rfl⟩, ⟨le_int (by omega), trivial⟩, ⟨.refl _, trivial⟩, ⟨.refl _, trivial⟩, trivial⟩, ⟨⟨_, rfl, .inl (ob_bs (by rfl) (by rfl)), trivial⟩, ⟨_, rfl, .inl rfl, trivial⟩, trivial⟩⟩⟩
  ·have h2 := of_decide_eq_false h2
   refine HT.exit ?_
   show HT _ _ _ _ _
   refine HT.seq (HT.region S_rsum_ok (So.n (lk rfl) (A.bldA ty84 rfl rfl ⟨by exact trivial, by exact trivial, by exact trivial, by exact trivial, by exact trivial, by exact trivial, by exact trivial, by exact trivial, trivial⟩ rfl (f := fun j => .u32 (h0 j)) (by exact allP_spec (P := fun j => _ = _) ⟨⟨⟨⟨⟨⟨⟨⟨trivial, rfl⟩, rfl⟩, rfl⟩, rfl⟩, rfl⟩, rfl⟩, rfl⟩, rfl⟩) (So.n (lk rfl) (A.alloc 3 1 ty84 rfl trivial (f := fun _ => .u32 0) (fun _ _ => rfl) (So.s (A.stoAg ty84 rfl (n := 8) rfl (by decide) (by intro j hj; trivial) rfl rfl rfl (So.e (HT.seq (HT.seq (HT.region S_rsum_ok (So.q rfl rfl (V.as (v := .p (.v (.int .i64 0))) rfl ?_)))))))))))))
   refine So.e (HT.block ?_)
   refine R.loop (σ := Nat) (fun q => [(3, .own 1 0 ((ptx b).length)), (7, .p (.v (.int .i64 (64 * (q : Int)))))]) (fun q => [(1, ⟨5, 1, (ptx b).length, true, .bs (ptx b)⟩), (3, ⟨84, 1, 8, true, .rows (fun j => .u32 (stN (ptx b) q j))⟩)]) [2, 6] [2] (fun q => 64 * q ≤ (ptx b).length) (fun q => (ptx b).length - 64 * q) (0) (fr0 := [(2, .p (.v (.slice none 0 0))), (6, .ptr 3 0)]) (O0 := [(2, ⟨_, _, _, _, .bs _⟩)]) rfl rfl (by omega) ⟨⟨⟨le_own2 (by rfl) (by omega), rfl⟩, ⟨le_int (by rfl), trivial⟩, ⟨.refl _, trivial⟩, ⟨.refl _, rfl⟩, trivial⟩, ⟨⟨_, rfl, .inl (ob_bs (by ((try dsimp only); omega)) (by ((try dsimp only); (replace hP1 : r = 8 := (by omega); subst hP1; simp [ptx, pad]; done)))), trivial⟩, ⟨_, rfl, .inr (ob_rows (by rfl) (by ((try dsimp only); (intro j hj; rfl)))), trivial⟩, ⟨_, rfl, .inl rfl, trivial⟩, trivial⟩⟩ (fun q hP2 => ?_)
   refine HT.seq (HT.seq (HT.region S_rsum_ok (So.q rfl rfl (V.mv (v := .p (.v (.int .i64 _))) rfl (So.q rfl rfl (V.mv (v := .own 1 0 _) rfl (So.q rfl rfl (V.len ty22 (v := .own 1 0 _) rfl rfl (So.q rfl rfl (V.bin (a := .v (.int .i64 _)) (b := .v (.int .i64 _)) (r := .v (.bool _)) rfl rfl rfl trivial (So.e ?_)))))))))))
   show HT _ _ _ _ _
   refine R.cond rfl rfl (fun h3 => ?_) (fun h3 => ?_)
   ·have h3 := of_decide_eq_true h3
    refine HT.skip (HT.seq (HT.block ?_))
    refine HT.tail S_rsum_ok mixed 6 (by kernel_rfl) (by kernel_rfl) ?_
    refine So.q rfl rfl (V.ldPtrA ty84 rfl rfl rfl rfl (lk rfl) (So.q rfl rfl (V.mv (v := .own 1 0 _) rfl (So.q rfl rfl (V.mv (v := .p (.v (.int .i64 _))) rfl (So.q rfl rfl (V.mv (v := .p (.v (.int .i64 _))) rfl (So.q rfl rfl (V.addI rfl rfl (by omega) (So.q rfl rfl (V.cutOwn ty22 ty5 rfl rfl rfl rfl rfl (by omega) (.inl rfl) ?_)))))))))))
    refine So.n (lk rfl) (A.call0 [.agg 8 _, .p (.bs _)] 4 rfl rfl rfl rfl ⟨trivial, trivial, trivial⟩ trivial (_, _) ⟨.refl _, .refl _, trivial⟩ trivial (by (simp; omega)) (Φ := fun _ => True) (fun _ _ => trivial) (.inr ⟨(fun _ _ => trivial), by simp [Hp.scal, OC.scal, PV.scal, BV.scal]⟩) (v := .agg 8 _) rfl (O' := _) rfl (fun h4 => ?_))
    refine So.s (A.stoAg ty84 rfl (n := 8) rfl (by decide) (by intro j hj; trivial) rfl rfl rfl (So.e (HT.region S_rsum_ok (So.q rfl rfl (V.mv (v := .p (.v (.int .i64 _))) rfl (So.q rfl rfl (V.addI rfl rfl (by omega) (So.q rfl rfl (V.as (v := .p (.v (.int .i64 _))) rfl (So.e ?_))))))))))
    refine ⟨q + 1, by omega, by omega, ⟨⟨⟨le_own2 (by rfl) (by rfl), rfl⟩, ⟨le_int (by rfl), trivial⟩, ⟨.refl _, trivial⟩, ⟨.refl _, rfl⟩, trivial⟩, ⟨⟨_, rfl, .inl (ob_bs (by rfl) (by rfl)), trivial⟩, ⟨_, rfl, .inr (ob_rows (by rfl) (by (intro j hj; simp only [Nat.zero_add, Nat.mul_one, show (64 * (q : Int) + 64).toNat - (64 * (q : Int)).toNat = 64 by omega, show (64 * (q : Int)).toNat = 64 * q by omega]; exact congrArg PV.u32 (rs_1 (by omega) j)))), trivial⟩, ⟨_, rfl, .inl rfl, trivial⟩, trivial⟩⟩⟩
   ·have h3 := of_decide_eq_false h3
    refine HT.exit ?_
    show HT _ _ _ _ _
    refine HT.seq (HT.region S_rsum_ok (So.q rfl rfl (V.as (v := .p (.v (.slice none 0 0))) rfl (So.e (HT.seq (HT.seq (HT.region S_rsum_ok (So.q rfl rfl (V.as (v := .p (.v (.int .i64 0))) rfl (So.e (HT.block ?_)))))))))))
    refine R.phan 8 6 5 1 (.bs []) rfl rfl rfl ⟨rfl, rfl⟩ ?_
    refine R.loop (σ := Nat) (fun r => [(8, .own 6 0 (4 * r)), (9, .p (.v (.int .i64 ((r : Int)))))]) (fun r => [(6, ⟨5, 1, 4 * r, true, .bs (outN (stN (ptx b) q) r)⟩)]) [2, 6] [1, 2, 3] (fun r => r ≤ 8) (fun r => 8 - r) (0) (fr0 := [(2, .p (.v (.slice none 0 0))), (6, .ptr 3 0)]) (O0 := [(1, ⟨_, _, _, _, .bs _⟩), (2, ⟨_, _, _, _, .bs _⟩), (3, ⟨_, _, _, _, .rows _⟩)]) rfl rfl (by omega) ⟨⟨⟨le_own2 (by rfl) (by rfl), rfl⟩, ⟨le_int (by rfl), trivial⟩, ⟨.refl _, trivial⟩, ⟨.refl _, rfl⟩, trivial⟩, ⟨⟨_, rfl, .inl (ob_bs (by rfl) (by rfl)), trivial⟩, ⟨_, rfl, .inl rfl, trivial⟩, ⟨_, rfl, .inl rfl, trivial⟩, ⟨_, rfl, .inl rfl, trivial⟩, trivial⟩⟩ (fun r hP3 => ?_)
    refine HT.seq (HT.seq (HT.region S_rsum_ok (So.q rfl rfl (V.mv (v := .p (.v (.int .i64 ((_ : Nat) : Int)))) rfl (So.q rfl rfl (V.bin (a := (.v (.int .i64 ((_ : Nat) : Int)))) (b := .v (.int .i64 8)) (r := .v (.bool _)) rfl rfl rfl trivial (So.e ?_)))))))
    show HT _ _ _ _ _
    refine R.cond rfl rfl (fun h5 => ?_) (fun h5 => ?_)
    ·have h5 := of_decide_eq_true h5
     refine HT.skip (HT.seq (HT.block ?_))
     refine HT.planS S_rsum_ok S_rsum_det mixed [22] [⟨[0, 1, 2, 3, 4, 5, 6, 7, 8, 9, 10, 11, 12, 13, 14, 15, 16, 17, 18, 19], 20, [0]⟩, ⟨[0], 21, []⟩] (by kernel_rfl) ?_
     refine Pl.lk ?_
     refine Si.n rfl (lk rfl) (V.mv (v := .own 6 0 _) rfl (Si.n rfl (lk rfl) (V.mv (v := .p (.v (.int .i64 ((_ : Nat) : Int)))) rfl (Si.n rfl (lk rfl) (V.ixArrP10 (mi := r) ty84 ty83 rfl rfl rfl (by (simp; done)) rfl (by omega) (by omega) (Si.n rfl (lk rfl) (V.ldPtr ty83 rfl rfl rfl (by (simp; omega)) (v := .p (.u32 _)) rfl (Si.n rfl (lk rfl) (V.shrC (n := 24) (a := .u32 _) (b := .u64 24) (r := .u32 (u32Shr _ 24)) rfl rfl rfl rfl (Si.n rfl (lk rfl) (V.cvN ty5 ty83 (a := .u32 _) (r := .u8 _) rfl rfl (Si.n rfl (lk rfl) (V.mv (v := .p (.v (.int .i64 ((_ : Nat) : Int)))) rfl (Si.n rfl (lk rfl) (V.ixArrP10 (mi := r) ty84 ty83 rfl rfl rfl (by (simp; done)) rfl (by omega) (by omega) (Si.n rfl (lk rfl) (V.ldPtr ty83 rfl rfl rfl (by (simp; omega)) (v := .p (.u32 _)) rfl (Si.n rfl (lk rfl) (V.shrC (n := 16) (a := .u32 _) (b := .u64 16) (r := .u32 (u32Shr _ 16)) rfl rfl rfl rfl ?_)))))))))))))))))))
     refine Si.n rfl (lk rfl) (V.cvN ty5 ty83 (a := .u32 _) (r := .u8 _) rfl rfl (Si.n rfl (lk rfl) (V.mv (v := .p (.v (.int .i64 ((_ : Nat) : Int)))) rfl (Si.n rfl (lk rfl) (V.ixArrP10 (mi := r) ty84 ty83 rfl rfl rfl (by (simp; done)) rfl (by omega) (by omega) (Si.n rfl (lk rfl) (V.ldPtr ty83 rfl rfl rfl (by (simp; omega)) (v := .p (.u32 _)) rfl (Si.n rfl (lk rfl) (V.shrC (n := 8) (a := .u32 _) (b := .u64 8) (r := .u32 (u32Shr _ 8)) rfl rfl rfl rfl (Si.n rfl (lk rfl) (V.cvN ty5 ty83 (a := .u32 _) (r := .u8 _) rfl rfl (Si.n rfl (lk rfl) (V.mv (v := .p (.v (.int .i64 ((_ : Nat) : Int)))) rfl (Si.n rfl (lk rfl) (V.ixArrP10 (mi := r) ty84 ty83 rfl rfl rfl (by (simp; done)) rfl (by omega) (by omega) (Si.n rfl (lk rfl) (V.ldPtr ty83 rfl rfl rfl (by (simp; omega)) (v := .p (.u32 _)) rfl (Si.n rfl (lk rfl) (V.cvN ty5 ty83 (a := .u32 _) (r := .u8 _) rfl rfl ?_)))))))))))))))))))
     refine Si.e ?_
     refine ⟨flEq_nil, fun ff => ?_⟩
     refine Lo.n rfl (lk rfl) (A.bsl 7 ty22 ty5 rfl (lk rfl) (lk rfl) (fun _ => rfl) rfl rfl trivial ⟨trivial, trivial, trivial, trivial, trivial⟩ rfl (N := 4) rfl (c := .bs [_, _, _, _]) rfl ?_)
     refine ⟨_, fun ff => ff, ap0d, rfl, FG.id, ?_⟩
     show planA _ _ _ _ _ [(0, .own 6 0 _)] _ _ _
     refine Pl.l0 ?_
     refine Si.n rfl (lk rfl) (V.mv (v := .own 6 0 _) rfl (Si.e ?_))
     refine ⟨(flEq_cons rfl flEq_nil), ?_⟩
     refine Lo.n rfl (lk rfl) (A.apOwn ty22 ty5 rfl rfl rfl rfl (u := .own 7 0 _) rfl rfl (l' := outN (stN (ptx b) q) (r + 1)) (by rw [ap_full (by rw [outN_len]; omega)]; simp [outN, w4]) (mn := 4 * (r + 1)) (by omega) (by omega) rfl rfl rfl ?_)
     refine Pl.e ?_
     refine Si.n rfl (lk rfl) (V.as (v := .own 6 0 _) rfl (Si.e ?_))
     refine ⟨flEq_nil, ?_⟩
     show HT _ _ _ _ _
     refine HT.region S_rsum_ok (So.q rfl rfl (V.mv (v := .p (.v (.int .i64 ((_ : Nat) : Int)))) rfl (So.q rfl rfl (V.addI rfl rfl (by omega) (So.q rfl rfl (V.as (v := .p (.v (.int .i64 _))) rfl (So.e ?_)))))))
     refine ⟨r + 1, by omega, by omega, ⟨⟨⟨le_own2 (by rfl) (by rfl), rfl⟩, ⟨le_int (by rfl), trivial⟩, ⟨.refl _, trivial⟩, ⟨.refl _, rfl⟩, trivial⟩, ⟨⟨_, rfl, .inl (ob_bs (by rfl) (by rfl)), trivial⟩, ⟨_, rfl, .inl rfl, trivial⟩, ⟨_, rfl, .inl rfl, trivial⟩, ⟨_, rfl, .inl rfl, trivial⟩, trivial⟩⟩⟩
    ·have h5 := of_decide_eq_false h5
     refine HT.exit ?_
     show HT _ _ _ _ _
     refine HT.seq (HT.region S_rsum_ok (So.q rfl rfl (V.mv (v := .own 6 0 _) rfl (So.q rfl rfl (V.as (v := .own 6 0 _) rfl (So.e ?_))))))
     show HT _ _ _ _ _
     refine HT.ret ?_
     exact ret_ok (sg [(2, 6)]) h rfl rfl rfl ⟨trivial, trivial⟩ ⟨rfl, trivial⟩ rfl ⟨⟨⟨le_own2 (by rfl) (by (replace hP3 : r = 8 := (by omega); subst hP3; rfl)), rfl⟩, trivial⟩, ⟨⟨_, rfl, .inl (ob_bs (by ((try dsimp only); ((replace hP3 : r = 8 := (by omega); subst hP3; rfl)))) (by ((try dsimp only); ((replace hP3 : r = 8 := (by omega); subst hP3; (unfold sha; rw [show (ptx b).length / 64 = q by omega])))))), trivial⟩, trivial⟩⟩
def rmacSp : Sp := ⟨[], mkE (α := (List UInt8) × (List UInt8)) (fun (k, t) => [.p (.bs k), .p (.bs t)]) (fun (k, t) => []) (fun (k, t) => k.length ≤ 1000000000 ∧ t.length ≤ 1000000000) (fun (k, t) => [.own 2 0 (32)]) (fun (k, t) => [(2, ⟨5, 1, 32, true, .bs (mac k t)⟩)])⟩
def S_rmac : FuncId → Option Sp := fun f => if f = 51 then some rsumSp else none
theorem S_rmac_ok : ∀ f s, S_rmac f = some s → FOK Tryd.prog gl f s := fun f s h => by
 unfold S_rmac at h
 split at h
 ·rename_i e; cases h; subst e; exact rsum_ok
 cases h
set_option maxHeartbeats 1000000 in
set_option maxRecDepth 20000 in
theorem rmac_ok : FOK Tryd.prog gl 48 rmacSp := by
 refine FOK.ofE (tyOf_ok Tryd.prog) (slots := [4]) (nt := 47) Tryd.func48 rfl rfl rfl rfl (by decide) 2 (fun ⟨_, _⟩ => rfl) (by decide) (fun ⟨_, _⟩ => ⟨trivial, trivial, trivial⟩) ?_
 rintro ⟨k, t⟩ kk hlen hpre h
 have hl0 : (k).length ≤ 9223372036854775807 := hlen.1
 have hl1 : (t).length ≤ 9223372036854775807 := hlen.2.1
 replace hpre : k.length ≤ 1000000000 ∧ t.length ≤ 1000000000 := hpre
 show HT (cx Tryd.prog 47 (tyOf Tryd.prog) gl []) _ [(0, .p (.bs k)), (1, .p (.bs t))] [] _
 have hk0 := key0_le k
 have hp1 := padF_len (key0 k) 54
 have hp2 := padF_len (key0 k) 92
 have hs0 := sha_len (padF (key0 k) 54 ++ t)
 refine HT.seq (HT.region S_rmac_ok (So.q rfl rfl (V.as (v := .p (.v (.slice none 0 0))) rfl (So.e (HT.seq (HT.region S_rmac_ok (So.n (lk rfl) (A.bsl 1 ty22 ty5 rfl (lk rfl) (lk rfl) (fun _ => rfl) rfl rfl trivial trivial rfl (N := 0) rfl (c := .bs []) rfl (So.q rfl rfl (V.mv (v := .p (.bs _)) rfl (So.n (lk rfl) (A.apOwn ty22 ty5 rfl rfl rfl rfl (u := .p (.bs _)) rfl rfl (l' := k) (by simp) (mn := k.length) (by simp) (by omega) rfl rfl rfl (So.q rfl rfl (V.as (v := .own 1 0 _) rfl ?_))))))))))))))
 refine So.e ?_
 show HT _ _ _ _ _
 refine HT.frzS 1 rfl rfl rfl ?_
 show HT _ _ _ _ _
 refine R.cut True [(5, .p (.bs (key0 k)))] [] [1, 4] [] (fr0 := [(1, .p (.bs _)), (4, .p (.v (.slice none 0 0)))]) (O0 := []) rfl rfl ?_ (fun hphi => ?_)
 ·refine HT.seq ?_
  refine R.tell [(5, .p (.bs k))] [] [1, 4] [] (fr0 := [(1, .p (.bs _)), (4, .p (.v (.slice none 0 0)))]) (O0 := []) rfl rfl ⟨⟨⟨le_bs (by exact take_full _), trivial⟩, ⟨.refl _, trivial⟩, ⟨.refl _, trivial⟩, trivial⟩, trivial⟩ ?_
  show HT _ _ _ _ _
  refine HT.region S_rmac_ok (So.q rfl rfl (V.mv (v := .p (.bs _)) rfl (So.q rfl rfl (V.len ty22 (v := .p (.bs _)) rfl rfl (So.q rfl rfl (V.bin (a := .v (.int .i64 _)) (b := .v (.int .i64 64)) (r := .v (.bool _)) rfl rfl rfl trivial (So.e ?_)))))))
  show HT _ _ _ _ _
  refine R.cond rfl rfl (fun h1 => ?_) (fun h1 => ?_)
  ·have h1 := of_decide_eq_true h1
   refine HT.region S_rmac_ok (So.q rfl rfl (V.mv (v := .p (.bs _)) rfl ?_))
   refine So.n (lk rfl) (A.call0F S_rmac_ok [.p (.bs _)] 1 rfl rfl rfl rfl ⟨trivial, trivial⟩ trivial _ ⟨.refl _, trivial⟩ trivial (by omega) (Φ := fun _ => True) (fun _ _ => trivial) (.inl rfl) (t := 3) (off := 0) rfl (O' := (3, ⟨5, 1, _, true, .bs _⟩) :: _) rfl rfl rfl (y := .p (.bs _)) rfl rfl (fun h2 => ?_))
   refine So.q rfl rfl (V.as (v := .p (.bs _)) rfl (So.e ?_))
   exact ⟨by trivial, ⟨⟨⟨le_bs (by (unfold key0; rw [if_pos (by omega), ap_sha k]; done)), trivial⟩, ⟨.refl _, trivial⟩, ⟨.refl _, trivial⟩, trivial⟩, trivial⟩⟩
  ·have h1 := of_decide_eq_false h1
   refine HT.skip ?_
   exact ⟨by trivial, ⟨⟨⟨le_bs (by (unfold key0; rw [if_neg (by omega)]; done)), trivial⟩, ⟨.refl _, trivial⟩, ⟨.refl _, trivial⟩, trivial⟩, trivial⟩⟩
 ·refine HT.seq ?_
  refine HT.region S_rmac_ok (So.q rfl rfl (V.as (v := .p (.v (.slice none 0 0))) rfl (So.e (HT.seq (HT.region S_rmac_ok (So.q rfl rfl (V.as (v := .p (.v (.slice none 0 0))) rfl (So.e (HT.seq (HT.seq (HT.region S_rmac_ok ?_)))))))))))
  refine So.q rfl rfl (V.as (v := .p (.v (.int .i64 0))) rfl (So.e (HT.block ?_)))
  refine R.phan 6 6 5 1 (.bs []) rfl rfl rfl ⟨rfl, rfl⟩ ?_
  refine R.phan 7 7 5 1 (.bs []) rfl rfl rfl ⟨rfl, rfl⟩ ?_
  refine R.loop (σ := Nat) (fun s => [(6, .own 6 0 (s)), (7, .own 7 0 (s)), (8, .p (.v (.int .i64 ((s : Int)))))]) (fun s => [(6, ⟨5, 1, s, true, .bs (padN (key0 k) 54 s)⟩), (7, ⟨5, 1, s, true, .bs (padN (key0 k) 92 s)⟩)]) [1, 4, 5] [] (fun s => s ≤ 64) (fun s => 64 - s) (0) (fr0 := [(1, .p (.bs _)), (4, .p (.v (.slice none 0 0))), (5, .p (.bs _))]) (O0 := []) rfl rfl (by omega) ⟨⟨⟨le_own2 (by rfl) (by rfl), rfl⟩, ⟨le_own2 (by rfl) (by rfl), rfl⟩, ⟨le_int (by rfl), trivial⟩, ⟨.refl _, trivial⟩, ⟨.refl _, trivial⟩, ⟨.refl _, trivial⟩, trivial⟩, ⟨⟨_, rfl, .inl (ob_bs (by rfl) (by rfl)), trivial⟩, ⟨_, rfl, .inl (ob_bs (by rfl) (by rfl)), trivial⟩, trivial⟩⟩ (fun s hP0 => ?_)
  refine HT.seq (HT.seq (HT.region S_rmac_ok (So.q rfl rfl (V.mv (v := .p (.v (.int .i64 ((_ : Nat) : Int)))) rfl (So.q rfl rfl (V.bin (a := (.v (.int .i64 ((_ : Nat) : Int)))) (b := .v (.int .i64 64)) (r := .v (.bool _)) rfl rfl rfl trivial (So.e ?_)))))))
  show HT _ _ _ _ _
  refine R.cond rfl rfl (fun h3 => ?_) (fun h3 => ?_)
  ·have h3 := of_decide_eq_true h3
   refine HT.skip (HT.seq (HT.block (HT.seq (HT.region S_rmac_ok (So.q rfl rfl (V.as (v := .p (.u8 0)) rfl (So.e ?_)))))))
   show HT _ _ _ _ _
   refine R.cut True [(9, .p (.u8 ((key0 k).getD s 0)))] [] [1, 4, 5, 6, 7, 8] [6, 7] (fr0 := [(1, .p (.bs _)), (4, .p (.v (.slice none 0 0))), (5, .p (.bs _)), (6, .own 6 0 _), (7, .own 7 0 _), (8, .p (.v (.int .i64 ((_ : Nat) : Int))))]) (O0 := [(6, ⟨_, _, _, _, .bs _⟩), (7, ⟨_, _, _, _, .bs _⟩)]) rfl rfl ?_ (fun hphi => ?_)
   ·refine HT.seq ?_
    refine HT.region S_rmac_ok (So.q rfl rfl (V.mv (v := .p (.v (.int .i64 ((_ : Nat) : Int)))) rfl (So.q rfl rfl (V.mv (v := .p (.bs _)) rfl (So.q rfl rfl (V.len ty22 (v := .p (.bs _)) rfl rfl (So.q rfl rfl (V.bin (a := (.v (.int .i64 ((_ : Nat) : Int)))) (b := .v (.int .i64 _)) (r := .v (.bool _)) rfl rfl rfl trivial (So.e ?_)))))))))
    show HT _ _ _ _ _
    refine R.cond rfl rfl (fun h4 => ?_) (fun h4 => ?_)
    ·have h4 := of_decide_eq_true h4
     refine HT.region S_rmac_ok (So.q rfl rfl (V.mv (v := .p (.bs _)) rfl (So.q rfl rfl (V.mv (v := .p (.v (.int .i64 ((_ : Nat) : Int)))) rfl (So.q rfl rfl (V.ixBs (mi := s) ty22 ty5 rfl rfl rfl (by omega) (by omega) (So.q rfl rfl (V.ldRp ty5 rfl rfl (lk rfl) (v := .u8 _) rfl (So.q rfl rfl (V.as (v := .p (.u8 _)) rfl (So.e ?_)))))))))))
     exact ⟨by trivial, ⟨⟨⟨le_u8 (by rfl), trivial⟩, ⟨.refl _, trivial⟩, ⟨.refl _, trivial⟩, ⟨.refl _, trivial⟩, ⟨.refl _, rfl⟩, ⟨.refl _, rfl⟩, ⟨.refl _, trivial⟩, trivial⟩, ⟨⟨_, rfl, .inl rfl, trivial⟩, ⟨_, rfl, .inl rfl, trivial⟩, trivial⟩⟩⟩
    ·have h4 := of_decide_eq_false h4
     refine HT.skip ?_
     exact ⟨by trivial, ⟨⟨⟨le_u8 (by (rw [List.getD_eq_getElem?_getD, List.getElem?_eq_none (by omega)]; rfl)), trivial⟩, ⟨.refl _, trivial⟩, ⟨.refl _, trivial⟩, ⟨.refl _, trivial⟩, ⟨.refl _, rfl⟩, ⟨.refl _, rfl⟩, ⟨.refl _, trivial⟩, trivial⟩, ⟨⟨_, rfl, .inl rfl, trivial⟩, ⟨_, rfl, .inl rfl, trivial⟩, trivial⟩⟩⟩
   ·refine HT.seq ?_
    refine HT.region S_rmac_ok (So.q rfl rfl (V.mv (v := .own 6 0 _) rfl (So.q rfl rfl (V.mv (v := .p (.u8 _)) rfl (So.q rfl rfl (V.bin (a := .u8 _) (b := .u8 54) (r := .u8 _) rfl rfl rfl trivial (So.n (lk rfl) (A.bsl 8 ty22 ty5 rfl (lk rfl) (lk rfl) (fun _ => rfl) rfl rfl trivial ⟨trivial, trivial⟩ rfl (N := 1) rfl (c := .bs [_]) rfl (So.n (lk rfl) (A.apOwn ty22 ty5 rfl rfl rfl rfl (u := .own 8 0 _) rfl rfl (l' := padN (key0 k) 54 (s + 1)) (by rw [ap_full (by rw [padN_len]; exact Nat.le_refl _)]; exact padN_succ (by rfl)) (mn := s + 1) (by rfl) (by omega) rfl rfl rfl (So.q rfl rfl (V.as (v := .own 6 0 _) rfl (So.e (HT.region S_rmac_ok (So.q rfl rfl (V.mv (v := .own 7 0 _) rfl ?_))))))))))))))))
    refine So.q rfl rfl (V.mv (v := .p (.u8 _)) rfl (So.q rfl rfl (V.bin (a := .u8 _) (b := .u8 92) (r := .u8 _) rfl rfl rfl trivial (So.n (lk rfl) (A.bsl 9 ty22 ty5 rfl (lk rfl) (lk rfl) (fun _ => rfl) rfl rfl trivial ⟨trivial, trivial⟩ rfl (N := 1) rfl (c := .bs [_]) rfl (So.n (lk rfl) (A.apOwn ty22 ty5 rfl rfl rfl rfl (u := .own 9 0 _) rfl rfl (l' := padN (key0 k) 92 (s + 1)) (by rw [ap_full (by rw [padN_len]; exact Nat.le_refl _)]; exact padN_succ (by rfl)) (mn := s + 1) (by rfl) (by omega) rfl rfl rfl (So.q rfl rfl (V.as (v := .own 7 0 _) rfl (So.e (HT.region S_rmac_ok (So.q rfl rfl (V.mv (v := .p (.v (.int .i64 ((_ : Nat) : Int)))) rfl (So.q rfl rfl (V.addI rfl rfl (by omega) (So.q rfl rfl (V.as (v := .p (.v (.int .i64 _))) rfl ?_)))))))))))))))))
    refine So.e ?_
    refine ⟨s + 1, by omega, by omega, ⟨⟨⟨le_own2 (by rfl) (by rfl), rfl⟩, ⟨le_own2 (by rfl) (by rfl), rfl⟩, ⟨le_int (by rfl), trivial⟩, ⟨.refl _, trivial⟩, ⟨.refl _, trivial⟩, ⟨.refl _, trivial⟩, trivial⟩, ⟨⟨_, rfl, .inl (ob_bs (by rfl) (by rfl)), trivial⟩, ⟨_, rfl, .inl (ob_bs (by rfl) (by rfl)), trivial⟩, trivial⟩⟩⟩
  ·have h3 := of_decide_eq_false h3
   refine HT.exit ?_
   show HT _ _ _ _ _
   refine HT.seq ?_
   replace hP0 : s = 64 := (by omega)
   subst hP0
   refine R.tell [] [(6, ⟨5, 1, 64, true, .bs (padF (key0 k) 54)⟩), (7, ⟨5, 1, 64, true, .bs (padF (key0 k) 92)⟩)] [1, 4, 6, 7] [] (fr0 := [(1, .p (.bs _)), (4, .p (.v (.slice none 0 0))), (6, .own 6 0 _), (7, .own 7 0 _)]) (O0 := []) rfl rfl ⟨⟨⟨.refl _, trivial⟩, ⟨.refl _, trivial⟩, ⟨.refl _, rfl⟩, ⟨.refl _, rfl⟩, trivial⟩, ⟨⟨_, rfl, .inl (ob_bs (by rfl) (by exact padN_64 _ _)), trivial⟩, ⟨_, rfl, .inl (ob_bs (by rfl) (by exact padN_64 _ _)), trivial⟩, trivial⟩⟩ ?_
   show HT _ _ _ _ _
   refine HT.region S_rmac_ok (So.q rfl rfl (V.mv (v := .own 7 0 _) rfl (So.q rfl rfl (V.mv (v := .own 6 0 _) rfl (So.q rfl rfl (V.mv (v := .p (.bs _)) rfl (So.n (lk rfl) (A.apOwn ty22 ty5 rfl rfl rfl rfl (u := .p (.bs _)) rfl rfl (l' := padF (key0 k) 54 ++ t) (by rw [ap_full (by rw [padF_len]; exact Nat.le_refl _)]) (mn := 64 + t.length) (by rfl) (by omega) rfl rfl rfl ?_))))))))
   refine So.n (lk rfl) (A.call0 [.p (.bs _)] 8 rfl rfl rfl rfl ⟨trivial, trivial⟩ trivial (padF (key0 k) 54 ++ t) ⟨le_bs (by rw [List.drop_zero, List.take_of_length_le (by rw [List.length_append]; omega)]), trivial⟩ trivial (by (simp; omega)) (Φ := fun _ => True) (fun _ _ => trivial) (.inr ⟨trivial, by simp [Hp.scal, OC.scal, PV.scal, BV.scal]⟩) (v := .own 10 0 _) rfl (O' := (10, ⟨5, 1, _, true, .bs _⟩) :: _) rfl (fun h5 => ?_))
   refine So.n (lk rfl) (A.apOwn ty22 ty5 rfl rfl rfl rfl (u := .own 10 0 _) rfl rfl (l' := padF (key0 k) 92 ++ sha (padF (key0 k) 54 ++ t)) (by rw [ap_full (by rw [padF_len]; exact Nat.le_refl _)]; (rw [List.drop_zero, List.take_of_length_le (by rw [sha_len]; omega)])) (mn := 96) (by rfl) (by omega) rfl rfl rfl ?_)
   refine So.n (lk rfl) (A.call0 [.p (.bs _)] 11 rfl rfl rfl rfl ⟨trivial, trivial⟩ trivial (padF (key0 k) 92 ++ sha (padF (key0 k) 54 ++ t)) ⟨le_bs (by rw [List.drop_zero, List.take_of_length_le (by rw [List.length_append]; omega)]), trivial⟩ trivial (by (simp; omega)) (Φ := fun _ => True) (fun _ _ => trivial) (.inr ⟨trivial, by simp [Hp.scal, OC.scal, PV.scal, BV.scal]⟩) (v := .own 13 0 _) rfl (O' := (13, ⟨5, 1, _, true, .bs _⟩) :: _) rfl (fun h6 => ?_))
   refine So.q rfl rfl (V.as (v := .own 13 0 _) rfl (So.e ?_))
   show HT _ _ _ _ _
   refine HT.ret ?_
   exact ret_ok (sg [(2, 13)]) h rfl rfl rfl ⟨trivial, trivial⟩ ⟨rfl, trivial⟩ rfl ⟨⟨⟨le_own2 (by rfl) (by rfl), rfl⟩, trivial⟩, ⟨⟨_, rfl, .inl (ob_bs (by rfl) (by ((try dsimp only); ((show (_ : List UInt8) = _; rw [mac_def]))))), trivial⟩, trivial⟩⟩
def rexpandSp : Sp := ⟨[], mkE (α := (List UInt8) × (List UInt8) × Int) (fun (k, i, n) => [.p (.bs k), .p (.bs i), .p (.v (.int .i64 n))]) (fun (k, i, n) => []) (fun (k, i, n) => k.length ≤ 1000000000 ∧ i.length ≤ 900000000) (fun (k, i, n) => [.own 2 0 ((expandN k i n).length)]) (fun (k, i, n) => [(2, ⟨5, 1, (expandN k i n).length, true, .bs (expandN k i n)⟩)])⟩
def S_rexpand : FuncId → Option Sp := fun f => if f = 48 then some rmacSp else none
theorem S_rexpand_ok : ∀ f s, S_rexpand f = some s → FOK Tryd.prog gl f s := fun f s h => by
 unfold S_rexpand at h
 split at h
 ·rename_i e; cases h; subst e; exact rmac_ok
 cases h
set_option maxHeartbeats 1000000 in
set_option maxRecDepth 20000 in
theorem rexpand_ok : FOK Tryd.prog gl 43 rexpandSp := by
 refine FOK.ofE (tyOf_ok Tryd.prog) (slots := [6]) (nt := 41) Tryd.func43 rfl rfl rfl rfl (by decide) 3 (fun ⟨_, _, _⟩ => rfl) (by decide) (fun ⟨_, _, _⟩ => ⟨trivial, trivial, trivial, trivial⟩) ?_
 rintro ⟨k, i, n⟩ kk hlen hpre h
 have hl0 : (k).length ≤ 9223372036854775807 := hlen.1
 have hl1 : (i).length ≤ 9223372036854775807 := hlen.2.1
 replace hpre : k.length ≤ 1000000000 ∧ i.length ≤ 900000000 := hpre
 show HT (cx Tryd.prog 41 (tyOf Tryd.prog) gl []) _ [(0, .p (.bs k)), (1, .p (.bs i)), (2, .p (.v (.int .i64 n)))] [] _
 refine HT.seq (HT.region S_rexpand_ok (So.q rfl rfl (V.as (v := .p (.v (.slice none 0 0))) rfl (So.e (HT.seq (HT.seq (HT.region S_rexpand_ok (So.q rfl rfl (V.mv (v := .p (.v (.int .i64 _))) rfl (So.q rfl rfl (V.bin (a := .v (.int .i64 _)) (b := .v (.int .i64 0)) (r := .v (.bool _)) rfl rfl rfl trivial (So.q rfl rfl (V.mv (v := .p (.v (.bool _))) rfl ?_)))))))))))))
 refine So.gd rfl rfl (lk rfl) (lk rfl) (fun h1 => ?_) (fun h1 => ?_)
 ·have h1 := of_decide_eq_false h1
  refine A.v rfl (V.mv (v := .p (.v (.int .i64 _))) rfl (So.gy rfl rfl (lk rfl) (lk rfl) (A.v rfl (V.bin (a := .v (.int .i64 _)) (b := .v (.int .i64 8160)) (r := .v (.bool _)) rfl rfl rfl trivial (So.q rfl rfl (V.pkFalse (u := .p (.v (.bool _))) rfl rfl (So.e ?_)))))))
  show HT _ _ _ _ _
  refine R.cond rfl rfl (fun h2 => ?_) (fun h2 => ?_)
  ·have h2 := of_decide_eq_true h2
   refine HT.seq (HT.region S_rexpand_ok (So.q rfl rfl (V.as (v := .p (.v (.slice none 0 0))) rfl (So.e ?_))))
   show HT _ _ _ _ _
   refine R.phan 6 1 5 1 (.bs []) rfl rfl rfl ⟨rfl, rfl⟩ ?_
   refine HT.ret ?_
   exact ret_ok (sg [(2, 1)]) h rfl rfl rfl ⟨trivial, trivial⟩ ⟨rfl, trivial⟩ rfl ⟨⟨⟨le_own2 (by rfl) (by (show (_ : Nat) = _; (rw [expandN_no (by omega)]; rfl))), rfl⟩, trivial⟩, ⟨⟨_, rfl, .inl (ob_bs (by ((try dsimp only); ((show (_ : Nat) = _; (rw [expandN_no (by omega)]; rfl))))) (by ((try dsimp only); ((show (_ : List UInt8) = _; (rw [expandN_no (by omega)]; done)))))), trivial⟩, trivial⟩⟩
  ·have h2 := of_decide_eq_false h2
   refine HT.skip (HT.seq (HT.region S_rexpand_ok (So.q rfl rfl (V.as (v := .p (.v (.slice none 0 0))) rfl (So.e (HT.seq (HT.region S_rexpand_ok (So.q rfl rfl (V.as (v := .p (.v (.slice none 0 0))) rfl (So.e (HT.seq ?_)))))))))))
   refine HT.seq (HT.region S_rexpand_ok (So.q rfl rfl (V.as (v := .p (.v (.int .i64 1))) rfl (So.e (HT.block ?_)))))
   refine R.phan 7 7 5 1 (.bs []) rfl rfl rfl ⟨rfl, rfl⟩ ?_
   refine R.loop (σ := Nat) (fun s => [(7, .own 7 0 (32 * s)), (8, .p (.bs (tN k i s))), (9, .p (.v (.int .i64 ((s : Int) + 1))))]) (fun s => [(7, ⟨5, 1, 32 * s, true, .bs (okm k i s)⟩)]) [0, 1, 2, 6] [] (fun s => 32 * (s : Int) < n + 32) (fun s => n.toNat + 32 - 32 * s) (0) (fr0 := [(0, .p (.bs _)), (1, .p (.bs _)), (2, .p (.v (.int .i64 _))), (6, .p (.v (.slice none 0 0)))]) (O0 := []) rfl rfl (by omega) ⟨⟨⟨le_own2 (by rfl) (by rfl), rfl⟩, ⟨le_nil (by rfl), trivial⟩, ⟨le_int (by rfl), trivial⟩, ⟨.refl _, trivial⟩, ⟨.refl _, trivial⟩, ⟨.refl _, trivial⟩, ⟨.refl _, trivial⟩, trivial⟩, ⟨⟨_, rfl, .inl (ob_bs (by rfl) (by rfl)), trivial⟩, trivial⟩⟩ (fun s hP0 => ?_)
   refine HT.seq (HT.seq (HT.region S_rexpand_ok (So.q rfl rfl (V.mv (v := .own 7 0 _) rfl (So.q rfl rfl (V.len ty22 (v := .own 7 0 _) rfl rfl (So.q rfl rfl (V.mv (v := .p (.v (.int .i64 _))) rfl (So.q rfl rfl (V.bin (a := .v (.int .i64 _)) (b := .v (.int .i64 _)) (r := .v (.bool _)) rfl rfl rfl trivial (So.e ?_)))))))))))
   show HT _ _ _ _ _
   refine R.cond rfl rfl (fun h3 => ?_) (fun h3 => ?_)
   ·have h3 := of_decide_eq_true h3
    refine HT.skip (HT.seq (HT.block (HT.seq (HT.region S_rexpand_ok ?_))))
    have hcl := cat3_len (tN k i s) i (UInt8.ofInt ((s : Int) + 1))
    have htl0 := tN_le k i s
    have htl := tN_len k i s
    refine So.q rfl rfl (V.mv (v := .p (.bs _)) rfl (So.n (lk rfl) (A.bsl 8 ty22 ty5 rfl (lk rfl) (lk rfl) (fun _ => rfl) rfl rfl trivial trivial rfl (N := 0) rfl (c := .bs []) rfl (So.q rfl rfl (V.mv (v := .p (.bs _)) rfl (So.n (lk rfl) (A.apOwn ty22 ty5 rfl rfl rfl rfl (u := .p (.bs _)) rfl rfl (l' := tN k i s) (by simp) (mn := (tN k i s).length) (by simp) (by omega) rfl rfl rfl (So.q rfl rfl (V.mv (v := .p (.bs _)) rfl (So.n (lk rfl) (A.apOwn ty22 ty5 rfl rfl rfl rfl (u := .p (.bs _)) rfl rfl (l' := tN k i s ++ i) (by simp) (mn := (tN k i s).length + i.length) (by simp) (by omega) rfl rfl rfl (So.q rfl rfl (V.mv (v := .p (.v (.int .i64 _))) rfl (So.q rfl rfl (V.cvN ty5 ty3 (a := .v (.int .i64 _)) (r := .u8 _) rfl rfl (So.n (lk rfl) (A.bsl 9 ty22 ty5 rfl (lk rfl) (lk rfl) (fun _ => rfl) rfl rfl trivial ⟨trivial, trivial⟩ rfl (N := 1) rfl (c := .bs [_]) rfl (So.n (lk rfl) (A.apOwn ty22 ty5 rfl rfl rfl rfl (u := .own 9 0 _) rfl rfl (l' := (cat [tN k i s, i, [UInt8.ofInt ((s : Int) + 1)]])) (by rw [ap_full (by simp)]; simp [cat]) (mn := (cat [tN k i s, i, [UInt8.ofInt ((s : Int) + 1)]]).length) (by rw [hcl]) (by omega) rfl rfl rfl ?_)))))))))))))))))))
    refine So.n (lk rfl) (A.call0F S_rexpand_ok [.p (.bs _), .p (.bs _)] 10 rfl rfl rfl rfl ⟨trivial, trivial, trivial⟩ trivial (k, (cat [tN k i s, i, [UInt8.ofInt ((s : Int) + 1)]])) ⟨.refl _, le_bs (take_full _), trivial⟩ trivial (by omega) (Φ := fun _ => True) (fun _ _ => trivial) (.inr ⟨trivial, by simp [Hp.scal, OC.scal, PV.scal, BV.scal]⟩) (t := 12) (off := 0) rfl (O' := (12, ⟨5, 1, _, true, .bs _⟩) :: _) rfl rfl rfl (y := .p (.bs _)) rfl rfl (fun h4 => ?_))
    refine So.q rfl rfl (V.as (v := .p (.bs _)) rfl (So.e ?_))
    show HT _ _ _ _ _
    refine R.tell [(8, .p (.bs (tN k i (s + 1))))] [] [0, 1, 2, 6, 7, 9] [7] (fr0 := [(0, .p (.bs _)), (1, .p (.bs _)), (2, .p (.v (.int .i64 _))), (6, .p (.v (.slice none 0 0))), (7, .own 7 0 _), (9, .p (.v (.int .i64 _)))]) (O0 := [(7, ⟨_, _, _, _, .bs _⟩)]) rfl rfl ⟨⟨⟨le_bs (by (rw [List.drop_zero, List.take_of_length_le (by rw [mac_len]; omega)]; rfl)), trivial⟩, ⟨.refl _, trivial⟩, ⟨.refl _, trivial⟩, ⟨.refl _, trivial⟩, ⟨.refl _, trivial⟩, ⟨.refl _, rfl⟩, ⟨.refl _, trivial⟩, trivial⟩, ⟨⟨_, rfl, .inl rfl, trivial⟩, trivial⟩⟩ ?_
    show HT _ _ _ _ _
    refine HT.region S_rexpand_ok (So.q rfl rfl (V.mv (v := .own 7 0 _) rfl (So.q rfl rfl (V.mv (v := .p (.bs _)) rfl (So.n (lk rfl) (A.apOwn ty22 ty5 rfl rfl rfl rfl (u := .p (.bs _)) rfl rfl (l' := okm k i (s + 1)) (by rw [ap_full (by rw [okm_len]; exact Nat.le_refl _)]; rfl) (mn := 32 * (s + 1)) (by omega) (by omega) rfl rfl rfl (So.q rfl rfl (V.as (v := .own 7 0 _) rfl (So.e (HT.region S_rexpand_ok (So.q rfl rfl (V.mv (v := .p (.v (.int .i64 _))) rfl (So.q rfl rfl (V.addI rfl rfl (by omega) (So.q rfl rfl (V.as (v := .p (.v (.int .i64 _))) rfl ?_))))))))))))))))
    refine So.e ?_
    refine ⟨s + 1, by omega, by omega, ⟨⟨⟨le_own2 (by rfl) (by rfl), rfl⟩, ⟨le_bs (by rfl), trivial⟩, ⟨le_int (by rfl), trivial⟩, ⟨.refl _, trivial⟩, ⟨.refl _, trivial⟩, ⟨.refl _, trivial⟩, ⟨.refl _, trivial⟩, trivial⟩, ⟨⟨_, rfl, .inl (ob_bs (by rfl) (by rfl)), trivial⟩, trivial⟩⟩⟩
   ·have h3 := of_decide_eq_false h3
    refine HT.exit ?_
    show HT _ _ _ _ _
    refine HT.seq (HT.region S_rexpand_ok ?_)
    have hol := okm_len k i s
    have hen := expandN_len (k := k) (i := i) (n := n) (by omega) (by omega)
    refine So.n (lk rfl) (A.bsl 8 ty22 ty5 rfl (lk rfl) (lk rfl) (fun _ => rfl) rfl rfl trivial trivial rfl (N := 0) rfl (c := .bs []) rfl (So.q rfl rfl (V.mv (v := .own 7 0 _) rfl (So.q rfl rfl (V.mv (v := .p (.v (.int .i64 _))) rfl (So.q rfl rfl (V.cutOwnH ty22 ty5 rfl rfl rfl rfl (by omega) (.inl rfl) rfl (So.n (lk rfl) (A.apOwn ty22 ty5 rfl rfl rfl rfl (u := .own 7 0 _) rfl rfl (l' := expandN k i n) (by rw [List.take_zero, List.nil_append, List.drop_zero]; exact okm_get (by omega) (by omega) (by omega) (by omega)) (mn := (expandN k i n).length) (by omega) (by omega) rfl rfl rfl (So.q rfl rfl (V.as (v := .own 8 0 _) rfl (So.e ?_))))))))))))
    show HT _ _ _ _ _
    refine HT.ret ?_
    exact ret_ok (sg [(2, 8)]) h rfl rfl rfl ⟨trivial, trivial⟩ ⟨rfl, trivial⟩ rfl ⟨⟨⟨le_own2 (by rfl) (by (show (_ : Nat) = _; rfl)), rfl⟩, trivial⟩, ⟨⟨_, rfl, .inl (ob_bs (by rfl) (by rfl)), trivial⟩, trivial⟩⟩
 ·have h1 := of_decide_eq_true h1
  refine So.gn (b := true) rfl rfl rfl (lk rfl) (lk rfl) (So.q rfl rfl (V.pkTrue (u := .p (.v (.bool true))) rfl rfl (So.e ?_)))
  show HT _ _ _ _ _
  refine R.condT rfl ?_
  refine HT.seq (HT.region S_rexpand_ok (So.q rfl rfl (V.as (v := .p (.v (.slice none 0 0))) rfl (So.e ?_))))
  show HT _ _ _ _ _
  refine R.phan 6 1 5 1 (.bs []) rfl rfl rfl ⟨rfl, rfl⟩ ?_
  refine HT.ret ?_
  exact ret_ok (sg [(2, 1)]) h rfl rfl rfl ⟨trivial, trivial⟩ ⟨rfl, trivial⟩ rfl ⟨⟨⟨le_own2 (by rfl) (by (show (_ : Nat) = _; (rw [expandN_no (by omega)]; rfl))), rfl⟩, trivial⟩, ⟨⟨_, rfl, .inl (ob_bs (by ((try dsimp only); ((show (_ : Nat) = _; (rw [expandN_no (by omega)]; rfl))))) (by ((try dsimp only); ((show (_ : List UInt8) = _; (rw [expandN_no (by omega)]; done)))))), trivial⟩, trivial⟩⟩
def rlabelSp : Sp := ⟨[], mkE (α := (List UInt8) × (List UInt8) × (List UInt8) × Int) (fun (k, m, c, n) => [.p (.bs k), .p (.str m), .p (.bs c), .p (.v (.int .i64 n))]) (fun (k, m, c, n) => []) (fun (k, m, c, n) => k.length ≤ 1000000000) (fun (k, m, c, n) => [.own 2 0 ((labelF k m c n).length)]) (fun (k, m, c, n) => [(2, ⟨5, 1, (labelF k m c n).length, true, .bs (labelF k m c n)⟩)])⟩
def S_rlabel : FuncId → Option Sp := fun f => if f = 42 then some rinfoSp else if f = 43 then some rexpandSp else none
theorem S_rlabel_ok : ∀ f s, S_rlabel f = some s → FOK Tryd.prog gl f s := fun f s h => by
 unfold S_rlabel at h
 split at h
 ·rename_i e; cases h; subst e; exact rinfo_ok
 split at h
 ·rename_i e; cases h; subst e; exact rexpand_ok
 cases h
set_option maxHeartbeats 1000000 in
set_option maxRecDepth 20000 in
theorem rlabel_ok : FOK Tryd.prog gl 32 rlabelSp := by
 refine FOK.ofE (tyOf_ok Tryd.prog) (slots := [8]) (nt := 21) Tryd.func32 rfl rfl rfl rfl (by decide) 4 (fun ⟨_, _, _, _⟩ => rfl) (by decide) (fun ⟨_, _, _, _⟩ => ⟨trivial, trivial, trivial, trivial, trivial⟩) ?_
 rintro ⟨k, m, c, n⟩ kk hlen hpre h
 have hl0 : (k).length ≤ 9223372036854775807 := hlen.1
 have hl2 : (c).length ≤ 9223372036854775807 := hlen.2.2.1
 replace hpre : k.length ≤ 1000000000 := hpre
 show HT (cx Tryd.prog 21 (tyOf Tryd.prog) gl []) _ [(0, .p (.bs k)), (1, .p (.str m)), (2, .p (.bs c)), (3, .p (.v (.int .i64 n)))] [] _
 have hil := infoF_len m c n
 refine HT.seq (HT.region S_rlabel_ok (So.q rfl rfl (V.as (v := .p (.v (.slice none 0 0))) rfl (So.e (HT.seq (HT.region S_rlabel_ok (So.q rfl rfl (V.mv (v := .p (.str _)) rfl (So.q rfl rfl (V.mv (v := .p (.bs _)) rfl (So.q rfl rfl (V.mv (v := .p (.v (.int .i64 _))) rfl ?_))))))))))))
 refine So.n (lk rfl) (A.call0 [.p (.str _), .p (.bs _), .p (.v (.int .i64 _))] 1 rfl rfl rfl rfl ⟨trivial, trivial, trivial, trivial⟩ trivial (_, _, _) ⟨.refl _, .refl _, .refl _, trivial⟩ trivial (by trivial) (Φ := fun _ => True) (fun _ _ => trivial) (.inl rfl) (v := .own 3 0 _) rfl (O' := (3, ⟨5, 1, _, true, .bs _⟩) :: _) rfl (fun h1 => ?_))
 refine So.q rfl rfl (V.as (v := .own 3 0 _) rfl (So.e (HT.seq (HT.seq (HT.region S_rlabel_ok (So.q rfl rfl (V.mv (v := .own 3 0 _) rfl (So.q rfl rfl (V.len ty22 (v := .own 3 0 _) rfl rfl (So.q rfl rfl (V.bin (a := .v (.int .i64 _)) (b := .v (.int .i64 0)) (r := .v (.bool _)) rfl rfl rfl trivial (So.e ?_))))))))))))
 show HT _ _ _ _ _
 refine R.cond rfl rfl (fun h2 => ?_) (fun h2 => ?_)
 ·have h2 := of_decide_eq_true h2
  refine HT.seq (HT.region S_rlabel_ok (So.q rfl rfl (V.as (v := .p (.v (.slice none 0 0))) rfl (So.e ?_))))
  show HT _ _ _ _ _
  refine R.phan 8 4 5 1 (.bs []) rfl rfl rfl ⟨rfl, rfl⟩ ?_
  refine HT.ret ?_
  exact ret_ok (sg [(2, 4)]) h rfl rfl rfl ⟨trivial, trivial⟩ ⟨rfl, trivial⟩ rfl ⟨⟨⟨le_own2 (by rfl) (by (show (_ : Nat) = _; (rw [infoF_nil (by omega)]; rfl))), rfl⟩, trivial⟩, ⟨⟨_, rfl, .inl (ob_bs (by ((try dsimp only); ((show (_ : Nat) = _; (rw [infoF_nil (by omega)]; rfl))))) (by ((try dsimp only); ((show (_ : List UInt8) = _; (rw [infoF_nil (by omega)]; done)))))), trivial⟩, trivial⟩⟩
 ·have h2 := of_decide_eq_false h2
  refine HT.skip (HT.seq (HT.region S_rlabel_ok (So.q rfl rfl (V.mv (v := .p (.bs _)) rfl (So.q rfl rfl (V.mv (v := .own 3 0 _) rfl (So.q rfl rfl (V.mv (v := .p (.v (.int .i64 _))) rfl ?_))))))))
  refine So.n (lk rfl) (A.call0 [.p (.bs _), .p (.bs _), .p (.v (.int .i64 _))] 4 rfl rfl rfl rfl ⟨trivial, trivial, trivial, trivial⟩ trivial (k, infoF m c n, n) ⟨.refl _, le_bs (take_full _), .refl _, trivial⟩ trivial (by omega) (Φ := fun _ => True) (fun _ _ => trivial) (.inr ⟨trivial, by simp [Hp.scal, OC.scal, PV.scal, BV.scal]⟩) (v := .own 6 0 _) rfl (O' := (6, ⟨5, 1, _, true, .bs _⟩) :: _) rfl (fun h3 => ?_))
  refine So.q rfl rfl (V.as (v := .own 6 0 _) rfl (So.e ?_))
  show HT _ _ _ _ _
  refine HT.ret ?_
  exact ret_ok (sg [(2, 6)]) h rfl rfl rfl ⟨trivial, trivial⟩ ⟨rfl, trivial⟩ rfl ⟨⟨⟨le_own2 (by rfl) (by (show (_ : Nat) = _; (rw [infoF_some (by omega)]))), rfl⟩, trivial⟩, ⟨⟨_, rfl, .inl (ob_bs (by ((try dsimp only); ((show (_ : Nat) = _; (rw [infoF_some (by omega)]))))) (by ((try dsimp only); ((show (_ : List UInt8) = _; (rw [infoF_some (by omega)])))))), trivial⟩, trivial⟩⟩
def dsecretSp : Sp := ⟨[], mkE (α := (List UInt8) × Int × Int) (fun (e, d, f) => [.p (.bs e), .p (.v (.int .i64 d)), .p (.v (.int .i64 f))]) (fun (e, d, f) => []) (fun (e, d, f) => True) (fun (e, d, f) => [.p (.bs (rsecF e d f))]) (fun (e, d, f) => [])⟩
def S_dsecret : FuncId → Option Sp := fun f => if f = 32 then some rlabelSp else none
theorem S_dsecret_ok : ∀ f s, S_dsecret f = some s → FOK Tryd.prog gl f s := fun f s h => by
 unfold S_dsecret at h
 split at h
 ·rename_i e; cases h; subst e; exact rlabel_ok
 cases h
set_option maxHeartbeats 1000000 in
set_option maxRecDepth 20000 in
theorem dsecret_ok : FOK Tryd.prog gl 14 dsecretSp := by
 refine FOK.ofE (tyOf_ok Tryd.prog) (slots := [6]) (nt := 50) Tryd.func14 rfl rfl rfl rfl (by decide) 3 (fun ⟨_, _, _⟩ => rfl) (by decide) (fun ⟨_, _, _⟩ => ⟨trivial, trivial, trivial, trivial⟩) ?_
 rintro ⟨e, d, f⟩ kk hlen hpre h
 have hl0 : (e).length ≤ 9223372036854775807 := hlen.1
 replace hpre : True := hpre
 show HT (cx Tryd.prog 50 (tyOf Tryd.prog) gl []) _ [(0, .p (.bs e)), (1, .p (.v (.int .i64 d))), (2, .p (.v (.int .i64 f)))] [] _
 have hsh : 0 ≤ d → d ≤ 16 → iShl .i64 1 d.toNat = ((2 ^ d.toNat : Nat) : Int) := fun h1 h2 => shl1_16 (by omega)
 refine HT.seq (HT.region S_dsecret_ok (So.q rfl rfl (V.as (v := .p (.v (.slice none 0 0))) rfl (So.e (HT.seq (HT.seq (HT.region S_dsecret_ok (So.q rfl rfl (V.mv (v := .p (.bs _)) rfl (So.q rfl rfl (V.len ty22 (v := .p (.bs _)) rfl rfl (So.q rfl rfl (V.bin (a := .v (.int .i64 _)) (b := .v (.int .i64 32)) (r := .v (.bool _)) rfl rfl rfl trivial ?_)))))))))))))
 refine So.q rfl rfl (V.mv (v := .p (.v (.bool _))) rfl ?_)
 refine So.gd rfl rfl (lk rfl) (lk rfl) (fun h1 => ?_) (fun h1 => ?_)
 ·have h1 := of_decide_eq_true (bnF h1)
  refine A.v rfl (V.mv (v := .p (.v (.int .i64 _))) rfl (So.gy rfl rfl (lk rfl) (lk rfl) (A.v rfl (V.bin (a := .v (.int .i64 _)) (b := .v (.int .i64 0)) (r := .v (.bool _)) rfl rfl rfl trivial (So.q rfl rfl (V.pkFalse (u := .p (.v (.bool _))) rfl rfl (So.q rfl rfl (V.mv (v := .p (.v (.bool _))) rfl ?_))))))))
  refine So.gd rfl rfl (lk rfl) (lk rfl) (fun h2 => ?_) (fun h2 => ?_)
  ·have h2 := of_decide_eq_false h2
   refine A.v rfl (V.mv (v := .p (.v (.int .i64 _))) rfl (So.gy rfl rfl (lk rfl) (lk rfl) (A.v rfl (V.bin (a := .v (.int .i64 _)) (b := .v (.int .i64 16)) (r := .v (.bool _)) rfl rfl rfl trivial (So.q rfl rfl (V.pkFalse (u := .p (.v (.bool _))) rfl rfl (So.q rfl rfl (V.mv (v := .p (.v (.bool _))) rfl ?_))))))))
   refine So.gd rfl rfl (lk rfl) (lk rfl) (fun h3 => ?_) (fun h3 => ?_)
   ·have h3 := of_decide_eq_false h3
    refine A.v rfl (V.mv (v := .p (.v (.int .i64 _))) rfl (So.gy rfl rfl (lk rfl) (lk rfl) (A.v rfl (V.bin (a := .v (.int .i64 _)) (b := .v (.int .i64 0)) (r := .v (.bool _)) rfl rfl rfl trivial (So.q rfl rfl (V.pkFalse (u := .p (.v (.bool _))) rfl rfl (So.q rfl rfl (V.mv (v := .p (.v (.bool _))) rfl ?_))))))))
    refine So.gd rfl rfl (lk rfl) (lk rfl) (fun h4 => ?_) (fun h4 => ?_)
    ·have h4 := of_decide_eq_false h4
     refine A.v rfl (V.mv (v := .p (.v (.int .i64 _))) rfl (So.gy rfl rfl (lk rfl) (lk rfl) (A.v rfl (V.mv (v := .p (.v (.int .i64 _))) rfl (So.gy rfl rfl (lk rfl) (lk rfl) (A.v rfl (V.bin (a := .v (.int .i64 1)) (b := .v (.int .i64 _)) (r := .v (.int .i64 _)) rfl rfl rfl (by omega) (So.gy rfl rfl (lk rfl) (lk rfl) (A.v rfl (V.bin (a := .v (.int .i64 _)) (b := .v (.int .i64 _)) (r := .v (.bool _)) rfl rfl rfl trivial (So.q rfl rfl (V.pkFalse (u := .p (.v (.bool _))) rfl rfl (So.e ?_)))))))))))))
     show HT _ _ _ _ _
     refine R.cond rfl rfl (fun h5 => ?_) (fun h5 => ?_)
     ·have h5 := of_decide_eq_true h5
      refine HT.seq (HT.region S_dsecret_ok (So.q rfl rfl (V.as (v := .p (.v (.slice none 0 0))) rfl (So.e ?_))))
      show HT _ _ _ _ _
      refine HT.ret ?_
      exact ret_ok (sg []) h rfl rfl rfl trivial ⟨trivial, trivial⟩ rfl ⟨⟨⟨le_nil (by exact sec_nok (fun h9 => by obtain ⟨q1, q2, q3, q4⟩ := h9; rw [i2p] at q4; have q5 := hsh q2.1 q2.2; omega)), trivial⟩, trivial⟩, trivial⟩
     ·have h5 := of_decide_eq_false h5
      refine HT.skip (HT.seq (HT.region S_dsecret_ok ?_))
      have hdd := hsh (by omega) (by omega)
      have hpp := p2_16 (k := d.toNat) (by omega)
      refine So.n (lk rfl) (A.bsl 1 ty22 ty5 rfl (lk rfl) (lk rfl) (fun _ => rfl) rfl rfl trivial trivial rfl (N := 0) rfl (c := .bs []) rfl (So.q rfl rfl (V.mv (v := .p (.bs _)) rfl (So.n (lk rfl) (A.apOwn ty22 ty5 rfl rfl rfl rfl (u := .p (.bs _)) rfl rfl rfl rfl (by omega) rfl rfl rfl (So.q rfl rfl (V.as (v := .own 1 0 _) rfl (So.e ?_))))))))
      show HT _ _ _ _ _
      refine HT.frzS 1 rfl rfl rfl ?_
      show HT _ _ _ _ _
      refine HT.seq (HT.seq (HT.region S_dsecret_ok (So.q rfl rfl (V.mv (v := .p (.v (.int .i64 _))) rfl (So.q rfl rfl (V.subI rfl rfl (by omega) (So.q rfl rfl (V.as (v := .p (.v (.int .i64 _))) rfl (So.e (HT.block ?_))))))))))
      refine R.loop (σ := Nat) (fun n => [(8, .p (.v (.int .i64 (d - 1 - (n : Int))))), (7, .p (.bs (rsecN e d.toNat f.toNat n)))]) (fun n => []) [2, 6] [] (fun n => n ≤ d.toNat) (fun n => d.toNat - n) (0) (fr0 := [(2, .p (.v (.int .i64 _))), (6, .p (.v (.slice none 0 0)))]) (O0 := []) rfl rfl (by omega) ⟨⟨⟨le_int (by omega), trivial⟩, ⟨le_bs (by (simp; rfl)), trivial⟩, ⟨.refl _, trivial⟩, ⟨.refl _, trivial⟩, trivial⟩, trivial⟩ (fun n hP0 => ?_)
      refine HT.seq (HT.seq (HT.region S_dsecret_ok (So.q rfl rfl (V.mv (v := .p (.v (.int .i64 _))) rfl (So.q rfl rfl (V.bin (a := .v (.int .i64 _)) (b := .v (.int .i64 0)) (r := .v (.bool _)) rfl rfl rfl trivial (So.e ?_)))))))
      show HT _ _ _ _ _
      refine R.cond rfl rfl (fun h6 => ?_) (fun h6 => ?_)
      ·have h6 := of_decide_eq_true h6
       refine HT.skip (HT.seq (HT.block (HT.seq (HT.region S_dsecret_ok ?_))))
       have hbit := bit_at (f := f) (d := d) (n := n) (by omega) (by omega) (by omega)
       have hsl := rsecN_len e (by omega) d.toNat f.toNat n
       refine So.q rfl rfl (V.as (v := .p (.str [108, 101, 102, 116])) rfl (So.e (HT.seq (HT.seq (HT.region S_dsecret_ok (So.q rfl rfl (V.mv (v := .p (.v (.int .i64 _))) rfl (So.q rfl rfl (V.mv (v := .p (.v (.int .i64 _))) rfl (So.q rfl rfl (V.bin (a := .v (.int .i64 _)) (b := .v (.int .i64 _)) (r := .v (.int .i64 _)) rfl rfl rfl (by omega) (So.q rfl rfl (V.bin (a := .v (.int .i64 _)) (b := .v (.int .i64 1)) (r := .v (.int .i64 _)) rfl rfl rfl trivial (So.q rfl rfl (V.bin (a := .v (.int .i64 _)) (b := .v (.int .i64 1)) (r := .v (.bool _)) rfl rfl rfl trivial ?_)))))))))))))))
       refine So.e ?_
       show HT _ _ _ _ _
       refine R.cond rfl rfl (fun h7 => ?_) (fun h7 => ?_)
       ·have h7 := of_decide_eq_true h7
        refine HT.region S_dsecret_ok (So.q rfl rfl (V.as (v := .p (.str [114, 105, 103, 104, 116])) rfl (So.e (HT.region S_dsecret_ok (So.q rfl rfl (V.mv (v := .p (.bs _)) rfl (So.q rfl rfl (V.mv (v := .p (.str _)) rfl (So.n (lk rfl) (A.cvS 1 ty22 ty5 ty9 rfl rfl (by (simp; done)) rfl trivial ?_))))))))))
        refine So.n (lk rfl) (A.call0F S_dsecret_ok [.p (.bs _), .p (.str _), .p (.bs _), .p (.v (.int .i64 _))] 2 rfl rfl rfl rfl ⟨trivial, trivial, trivial, trivial, trivial⟩ trivial (rsecN e d.toNat f.toNat n, nTree, sideF d.toNat f.toNat n, 32) ⟨.refl _, .refl _, le_bs (by (rw [side_1 (by omega)]; rfl)), .refl _, trivial⟩ trivial (by omega) (Φ := fun _ => True) (fun _ _ => trivial) (.inr ⟨trivial, by simp [Hp.scal, OC.scal, PV.scal, BV.scal]⟩) (t := 4) (off := 0) rfl (O' := (4, ⟨5, 1, _, true, .bs _⟩) :: _) rfl rfl rfl (y := .p (.bs _)) rfl rfl (fun h8 => ?_))
        refine So.q rfl rfl (V.as (v := .p (.bs _)) rfl (So.e (HT.region S_dsecret_ok (So.q rfl rfl (V.mv (v := .p (.v (.int .i64 _))) rfl (So.q rfl rfl (V.subI rfl rfl (by omega) (So.q rfl rfl (V.as (v := .p (.v (.int .i64 _))) rfl (So.e ?_))))))))))
        refine ⟨n + 1, by omega, by omega, ⟨⟨⟨le_int (by omega), trivial⟩, ⟨le_bs (by exact take_full _), trivial⟩, ⟨.refl _, trivial⟩, ⟨.refl _, trivial⟩, trivial⟩, trivial⟩⟩
       ·have h7 := of_decide_eq_false h7
        refine HT.skip (HT.region S_dsecret_ok (So.q rfl rfl (V.mv (v := .p (.bs _)) rfl (So.q rfl rfl (V.mv (v := .p (.str _)) rfl (So.n (lk rfl) (A.cvS 1 ty22 ty5 ty9 rfl rfl (by (simp; done)) rfl trivial ?_)))))))
        refine So.n (lk rfl) (A.call0F S_dsecret_ok [.p (.bs _), .p (.str _), .p (.bs _), .p (.v (.int .i64 _))] 2 rfl rfl rfl rfl ⟨trivial, trivial, trivial, trivial, trivial⟩ trivial (rsecN e d.toNat f.toNat n, nTree, sideF d.toNat f.toNat n, 32) ⟨.refl _, .refl _, le_bs (by (rw [side_0 (by omega)]; rfl)), .refl _, trivial⟩ trivial (by omega) (Φ := fun _ => True) (fun _ _ => trivial) (.inr ⟨trivial, by simp [Hp.scal, OC.scal, PV.scal, BV.scal]⟩) (t := 4) (off := 0) rfl (O' := (4, ⟨5, 1, _, true, .bs _⟩) :: _) rfl rfl rfl (y := .p (.bs _)) rfl rfl (fun h9 => ?_))
        refine So.q rfl rfl (V.as (v := .p (.bs _)) rfl (So.e (HT.region S_dsecret_ok (So.q rfl rfl (V.mv (v := .p (.v (.int .i64 _))) rfl (So.q rfl rfl (V.subI rfl rfl (by omega) (So.q rfl rfl (V.as (v := .p (.v (.int .i64 _))) rfl (So.e ?_))))))))))
        refine ⟨n + 1, by omega, by omega, ⟨⟨⟨le_int (by omega), trivial⟩, ⟨le_bs (by exact take_full _), trivial⟩, ⟨.refl _, trivial⟩, ⟨.refl _, trivial⟩, trivial⟩, trivial⟩⟩
      ·have h6 := of_decide_eq_false h6
       refine HT.exit ?_
       show HT _ _ _ _ _
       refine HT.seq (HT.region S_dsecret_ok (So.q rfl rfl (V.mv (v := .p (.bs _)) rfl (So.q rfl rfl (V.as (v := .p (.bs _)) rfl (So.e ?_))))))
       show HT _ _ _ _ _
       refine HT.ret ?_
       exact ret_ok (sg []) h rfl rfl rfl trivial ⟨trivial, trivial⟩ rfl ⟨⟨⟨le_bs (by (replace hP0 : n = d.toNat := (by omega); subst hP0; rw [sec_ok ⟨by omega, by omega, by omega, by rw [i2p]; omega⟩])), trivial⟩, trivial⟩, trivial⟩
    ·have h4 := of_decide_eq_true h4
     refine So.gn (b := true) rfl rfl rfl (lk rfl) (lk rfl) (So.gn (b := true) rfl rfl rfl (lk rfl) (lk rfl) (So.gn (b := true) rfl rfl rfl (lk rfl) (lk rfl) (So.q rfl rfl (V.pkTrue (u := .p (.v (.bool true))) rfl rfl (So.e ?_)))))
     show HT _ _ _ _ _
     refine R.condT rfl ?_
     refine HT.seq (HT.region S_dsecret_ok (So.q rfl rfl (V.as (v := .p (.v (.slice none 0 0))) rfl (So.e ?_))))
     show HT _ _ _ _ _
     refine HT.ret ?_
     exact ret_ok (sg []) h rfl rfl rfl trivial ⟨trivial, trivial⟩ rfl ⟨⟨⟨le_nil (by exact sec_nok (fun h9 => by obtain ⟨q1, q2, q3, q4⟩ := h9; rw [i2p] at q4; have q5 := hsh q2.1 q2.2; omega)), trivial⟩, trivial⟩, trivial⟩
   ·have h3 := of_decide_eq_true h3
    refine So.gn (b := true) rfl rfl rfl (lk rfl) (lk rfl) (So.q rfl rfl (V.pkTrue (u := .p (.v (.bool true))) rfl rfl (So.q rfl rfl (V.mv (v := .p (.v (.bool true))) rfl (So.gn (b := true) rfl rfl rfl (lk rfl) (lk rfl) (So.gn (b := true) rfl rfl rfl (lk rfl) (lk rfl) (So.gn (b := true) rfl rfl rfl (lk rfl) (lk rfl) (So.gn (b := true) rfl rfl rfl (lk rfl) (lk rfl) (So.q rfl rfl (V.pkTrue (u := .p (.v (.bool true))) rfl rfl (So.e ?_)))))))))))
    show HT _ _ _ _ _
    refine R.condT rfl ?_
    refine HT.seq (HT.region S_dsecret_ok (So.q rfl rfl (V.as (v := .p (.v (.slice none 0 0))) rfl (So.e ?_))))
    show HT _ _ _ _ _
    refine HT.ret ?_
    exact ret_ok (sg []) h rfl rfl rfl trivial ⟨trivial, trivial⟩ rfl ⟨⟨⟨le_nil (by exact sec_nok (fun h9 => by obtain ⟨q1, q2, q3, q4⟩ := h9; rw [i2p] at q4; have q5 := hsh q2.1 q2.2; omega)), trivial⟩, trivial⟩, trivial⟩
  ·have h2 := of_decide_eq_true h2
   refine So.gn (b := true) rfl rfl rfl (lk rfl) (lk rfl) (So.q rfl rfl (V.pkTrue (u := .p (.v (.bool true))) rfl rfl (So.q rfl rfl (V.mv (v := .p (.v (.bool true))) rfl (So.gn (b := true) rfl rfl rfl (lk rfl) (lk rfl) (So.gn (b := true) rfl rfl rfl (lk rfl) (lk rfl) (So.q rfl rfl (V.pkTrue (u := .p (.v (.bool true))) rfl rfl (So.q rfl rfl (V.mv (v := .p (.v (.bool true))) rfl (So.gn (b := true) rfl rfl rfl (lk rfl) (lk rfl) (So.gn (b := true) rfl rfl rfl (lk rfl) (lk rfl) (So.gn (b := true) rfl rfl rfl (lk rfl) (lk rfl) ?_)))))))))))))
   refine So.gn (b := true) rfl rfl rfl (lk rfl) (lk rfl) (So.q rfl rfl (V.pkTrue (u := .p (.v (.bool true))) rfl rfl (So.e ?_)))
   show HT _ _ _ _ _
   refine R.condT rfl ?_
   refine HT.seq (HT.region S_dsecret_ok (So.q rfl rfl (V.as (v := .p (.v (.slice none 0 0))) rfl (So.e ?_))))
   show HT _ _ _ _ _
   refine HT.ret ?_
   exact ret_ok (sg []) h rfl rfl rfl trivial ⟨trivial, trivial⟩ rfl ⟨⟨⟨le_nil (by exact sec_nok (fun h9 => by obtain ⟨q1, q2, q3, q4⟩ := h9; rw [i2p] at q4; have q5 := hsh q2.1 q2.2; omega)), trivial⟩, trivial⟩, trivial⟩
 ·have h1 := of_decide_eq_false (bnT h1)
  refine So.gn (b := true) rfl rfl rfl (lk rfl) (lk rfl) (So.q rfl rfl (V.pkTrue (u := .p (.v (.bool true))) rfl rfl (So.q rfl rfl (V.mv (v := .p (.v (.bool true))) rfl (So.gn (b := true) rfl rfl rfl (lk rfl) (lk rfl) (So.gn (b := true) rfl rfl rfl (lk rfl) (lk rfl) (So.q rfl rfl (V.pkTrue (u := .p (.v (.bool true))) rfl rfl (So.q rfl rfl (V.mv (v := .p (.v (.bool true))) rfl (So.gn (b := true) rfl rfl rfl (lk rfl) (lk rfl) (So.gn (b := true) rfl rfl rfl (lk rfl) (lk rfl) (So.q rfl rfl (V.pkTrue (u := .p (.v (.bool true))) rfl rfl ?_))))))))))))))
  refine So.q rfl rfl (V.mv (v := .p (.v (.bool true))) rfl (So.gn (b := true) rfl rfl rfl (lk rfl) (lk rfl) (So.gn (b := true) rfl rfl rfl (lk rfl) (lk rfl) (So.gn (b := true) rfl rfl rfl (lk rfl) (lk rfl) (So.gn (b := true) rfl rfl rfl (lk rfl) (lk rfl) (So.q rfl rfl (V.pkTrue (u := .p (.v (.bool true))) rfl rfl (So.e ?_))))))))
  show HT _ _ _ _ _
  refine R.condT rfl ?_
  refine HT.seq (HT.region S_dsecret_ok (So.q rfl rfl (V.as (v := .p (.v (.slice none 0 0))) rfl (So.e ?_))))
  show HT _ _ _ _ _
  refine HT.ret ?_
  exact ret_ok (sg []) h rfl rfl rfl trivial ⟨trivial, trivial⟩ rfl ⟨⟨⟨le_nil (by exact sec_nok (fun h9 => by obtain ⟨q1, q2, q3, q4⟩ := h9; rw [i2p] at q4; have q5 := hsh q2.1 q2.2; omega)), trivial⟩, trivial⟩, trivial⟩
def dnewSp : Sp := ⟨[], mkE (α := (List UInt8)) (fun s => [.p (.bs s)]) (fun s => []) (fun s => True) (fun s => [.agg 3 (fun j => ([.v (.int .i64 0), .bs (if s.length = 32 then s else []), .sl (([] : KL)).length 2 (kR (([] : KL)))] : List PV).getD j (.v undef))]) (fun s => [])⟩
def S_dnew : FuncId → Option Sp := fun _ => none
theorem S_dnew_ok : ∀ f s, S_dnew f = some s → FOK Tryd.prog gl f s := fun f s h => by cases h
set_option maxHeartbeats 1000000 in
set_option maxRecDepth 20000 in
theorem dnew_ok : FOK Tryd.prog gl 16 dnewSp := by
 refine FOK.ofEC (tyOf_ok Tryd.prog) (rvs := [.cell 2 26]) (nt := 11) Tryd.func16 rfl rfl rfl rfl (by decide) 1 (fun _ => rfl) (by decide) (fun _ => ⟨trivial, trivial⟩) ?_
 rintro s kk hlen hpre h
 have hl0 : (s).length ≤ 9223372036854775807 := hlen.1
 replace hpre : True := hpre
 show HT (cx Tryd.prog 11 (tyOf Tryd.prog) gl []) _ [(0, .p (.bs s))] [] _
 refine HT.seq (HT.region S_dnew_ok (So.n (lk rfl) (A.alloc 1 1 ty26 rfl trivial (f := fun j => ([.v (.int .i64 0), .v (.slice none 0 0), .v (.slice none 0 0)] : List PV).getD j (.v undef)) (fun j hj => by match j, hj with | 0, _ => rfl | 1, _ => rfl | 2, _ => rfl) (So.e (HT.seq (HT.seq (HT.region S_dnew_ok (So.q rfl rfl (V.mv (v := .p (.bs _)) rfl (So.q rfl rfl (V.len ty22 (v := .p (.bs _)) rfl rfl (So.q rfl rfl (V.bin (a := .v (.int .i64 _)) (b := .v (.int .i64 32)) (r := .v (.bool _)) rfl rfl rfl trivial ?_)))))))))))))
 refine So.e ?_
 show HT _ _ _ _ _
 refine R.cond rfl rfl (fun h1 => ?_) (fun h1 => ?_)
 ·have h1 := of_decide_eq_false (bnT h1)
  refine HT.seq (HT.region S_dnew_ok (So.n (lk rfl) (A.bldS ty26 rfl rfl trivial rfl (f := fun j => ([.v (.int .i64 0), .v (.slice none 0 0), .v (.slice none 0 0)] : List PV).getD j (.v undef)) (by exact allP_spec (P := fun j => _ = _) ⟨⟨⟨trivial, rfl⟩, rfl⟩, rfl⟩) (So.s (A.stoAg ty26 rfl (n := 3) rfl (by decide) (by intro j hj; (match j, hj with | 0, _ => (trivial) | 1, _ => (trivial) | 2, _ => (trivial))) rfl rfl rfl (So.e ?_))))))
  show HT _ _ _ _ _
  refine HT.ret ?_
  exact retC_ok (sg []) [(2, .ptr 1 0)] [(1, ⟨26, 1, 3, true, .rows (fun j => ([.v (.int .i64 0), .bs (if s.length = 32 then s else []), .sl (([] : KL)).length 2 (kR (([] : KL)))] : List PV).getD j (.v undef))⟩)] h ⟨⟨⟨.refl _, rfl⟩, trivial⟩, ⟨⟨_, rfl, .inr (ob_rowsL (by intro j hj; match j, hj with | 0, _ => (exact .refl _) | 1, _ => (exact le_nil (if_neg (by omega))) | 2, _ => (exact le_nilSl rfl))), trivial⟩, trivial⟩⟩ ⟨rvA_cell ty26 rfl rfl rfl rfl (Nat.le_refl _) (le_agg (fun j _ => by (dsimp only; rw [Nat.zero_add]))), trivial⟩ trivial rfl trivial ⟨trivial, trivial⟩ rfl
 ·have h1 := of_decide_eq_true (bnF h1)
  refine HT.skip (HT.seq (HT.region S_dnew_ok (So.n (lk rfl) (A.bsl 2 ty22 ty5 rfl (lk rfl) (lk rfl) (fun _ => rfl) rfl rfl trivial trivial rfl (N := 0) rfl (c := .bs []) rfl (So.q rfl rfl (V.mv (v := .p (.bs _)) rfl (So.n (lk rfl) (A.apOwn ty22 ty5 rfl rfl rfl rfl (u := .p (.bs _)) rfl rfl rfl rfl (by omega) rfl rfl rfl (So.n (lk rfl) (A.bldS ty26 rfl rfl ⟨by exact trivial, trivial⟩ rfl (f := fun j => ([.v (.int .i64 0), .bs s, .v (.slice none 0 0)] : List PV).getD j (.v undef)) (by exact allP_spec (P := fun j => _ = _) ⟨⟨⟨trivial, rfl⟩, congrArg (fun x => BV.p (PV.bs x)) (show List.take (0 + s.length) (List.drop 0 (List.take 0 (List.drop 0 []) ++ s)) = s by simp)⟩, rfl⟩) (So.s (A.stoAg ty26 rfl (n := 3) rfl (by decide) (by intro j hj; (match j, hj with | 0, _ => (trivial) | 1, _ => (trivial) | 2, _ => (trivial))) rfl rfl rfl (So.e ?_)))))))))))))
  show HT _ _ _ _ _
  refine HT.ret ?_
  exact retC_ok (sg []) [(2, .ptr 1 0)] [(1, ⟨26, 1, 3, true, .rows (fun j => ([.v (.int .i64 0), .bs (if s.length = 32 then s else []), .sl (([] : KL)).length 2 (kR (([] : KL)))] : List PV).getD j (.v undef))⟩)] h ⟨⟨⟨.refl _, rfl⟩, trivial⟩, ⟨⟨_, rfl, .inr (ob_rowsL (by intro j hj; match j, hj with | 0, _ => (exact .refl _) | 1, _ => (exact le_bs (by rw [if_pos (by omega)])) | 2, _ => (exact le_nilSl rfl))), trivial⟩, trivial⟩⟩ ⟨rvA_cell ty26 rfl rfl rfl rfl (Nat.le_refl _) (le_agg (fun j _ => by (dsimp only; rw [Nat.zero_add]))), trivial⟩ trivial rfl trivial ⟨trivial, trivial⟩ rfl
def drightSp : Sp := ⟨[], mkE (α := Int × (List UInt8) × KL) (fun (g, s, K) => [.agg 3 (fun j => ([.v (.int .i64 g), .bs s, .sl (K).length 2 (kR K)] : List PV).getD j (.v undef))]) (fun (g, s, K) => []) (fun (g, s, K) => K.length ≤ 1000000) (fun (g, s, K) => [.p (.v (.bool (decide (rightR g s K))))]) (fun (g, s, K) => [])⟩
def S_dright : FuncId → Option Sp := fun _ => none
theorem S_dright_ok : ∀ f s, S_dright f = some s → FOK Tryd.prog gl f s := fun f s h => by cases h
theorem S_dright_det : ∀ f s, S_dright f = some s → SpDet s.sp := fun f s h => by cases h
set_option maxHeartbeats 1000000 in
set_option maxRecDepth 20000 in
theorem dright_ok : FOK Tryd.prog gl 17 drightSp := by
 refine FOK.ofE (tyOf_ok Tryd.prog) (slots := [2]) (nt := 69) Tryd.func17 rfl rfl rfl rfl (by decide) 1 (fun ⟨_, _, _⟩ => rfl) (by decide) (fun ⟨_, _, _⟩ => ⟨trivial, trivial⟩) ?_
 rintro ⟨g, s, K⟩ kk hlen hpre h
 replace hpre : K.length ≤ 1000000 := hpre
 show HT (cx Tryd.prog 69 (tyOf Tryd.prog) gl []) _ [(0, .agg 3 (fun j => ([.v (.int .i64 g), .bs s, .sl (K).length 2 (kR K)] : List PV).getD j (.v undef)))] [] _
 refine HT.seq (HT.region S_dright_ok (So.n (lk rfl) (A.boxAg 1 1 (n := 3) rfl (by intro j hj; (match j, hj with | 0, _ => (trivial) | 1, _ => (trivial) | 2, _ => (trivial))) rfl trivial (So.q rfl rfl (V.as (v := .p (.v (.bool false))) rfl (So.e (HT.seq (HT.seq (HT.region S_dright_ok (So.q rfl rfl (V.faPtr ty26 rfl ty2 (lk rfl) rfl rfl (lk rfl) (So.q rfl rfl (V.ldPtr ty2 rfl rfl rfl (lk rfl) (v := .p (.v (.int .i64 _))) rfl ?_)))))))))))))
 refine So.q rfl rfl (V.bin (a := .v (.int .i64 _)) (b := .v (.int .i64 0)) (r := .v (.bool _)) rfl rfl rfl trivial (So.q rfl rfl (V.mv (v := .p (.v (.bool _))) rfl ?_)))
 refine So.gd rfl rfl (lk rfl) (lk rfl) (fun h1 => ?_) (fun h1 => ?_)
 ·have h1 := of_decide_eq_false h1
  refine A.v rfl (V.faPtr ty26 rfl ty2 (lk rfl) rfl rfl (lk rfl) (So.gy rfl rfl (lk rfl) (lk rfl) (A.v rfl (V.ldPtr ty2 rfl rfl rfl (lk rfl) (v := .p (.v (.int .i64 _))) rfl (So.gy rfl rfl (lk rfl) (lk rfl) (A.v rfl (V.bin (a := .v (.int .i64 _)) (b := .v (.int .i64 1073741824)) (r := .v (.bool _)) rfl rfl rfl trivial (So.q rfl rfl (V.pkFalse (u := .p (.v (.bool _))) rfl rfl (So.q rfl rfl (V.mv (v := .p (.v (.bool _))) rfl ?_)))))))))))
  refine So.gd rfl rfl (lk rfl) (lk rfl) (fun h2 => ?_) (fun h2 => ?_)
  ·have h2 := of_decide_eq_false h2
   refine A.v rfl (V.faPtr ty26 rfl ty22 (lk rfl) rfl rfl (lk rfl) (So.gy rfl rfl (lk rfl) (lk rfl) (A.v rfl (V.ldPtr ty22 rfl rfl rfl (lk rfl) (v := .p (.bs _)) rfl (So.gy rfl rfl (lk rfl) (lk rfl) (A.v rfl (V.len ty22 (v := .p (.bs _)) rfl rfl (So.gy rfl rfl (lk rfl) (lk rfl) (A.v rfl (V.bin (a := .v (.int .i64 _)) (b := .v (.int .i64 32)) (r := .v (.bool _)) rfl rfl rfl trivial (So.q rfl rfl (V.pkFalse (u := .p (.v (.bool _))) rfl rfl (So.q rfl rfl (V.mv (v := .p (.v (.bool _))) rfl ?_))))))))))))))
   refine So.gd rfl rfl (lk rfl) (lk rfl) (fun h3 => ?_) (fun h3 => ?_)
   ·have h3 := of_decide_eq_true (bnF h3)
    refine A.v rfl (V.faPtr ty26 rfl ty24 (lk rfl) rfl rfl (lk rfl) (So.gy rfl rfl (lk rfl) (lk rfl) (A.v rfl (V.ldPtr ty24 rfl rfl rfl (lk rfl) (v := .p (.sl _ 2 _)) rfl (So.gy rfl rfl (lk rfl) (lk rfl) (A.v rfl (V.len ty24 (v := .p (.sl _ 2 _)) rfl rfl (So.gy rfl rfl (lk rfl) (lk rfl) (A.v rfl (V.bin (a := .v (.int .i64 _)) (b := .v (.int .i64 16)) (r := .v (.bool _)) rfl rfl rfl trivial (So.q rfl rfl (V.pkFalse (u := .p (.v (.bool _))) rfl rfl (So.e ?_)))))))))))))
    show HT _ _ _ _ _
    refine R.cond rfl rfl (fun h4 => ?_) (fun h4 => ?_)
    ·have h4 := of_decide_eq_true h4
     refine HT.seq (HT.region S_dright_ok (So.q rfl rfl (V.as (v := .p (.v (.bool false))) rfl (So.e ?_))))
     show HT _ _ _ _ _
     refine HT.ret ?_
     exact ret_ok (sg []) h rfl rfl rfl trivial ⟨trivial, trivial⟩ rfl ⟨⟨⟨le_bool (by (exact (decide_eq_false (fun h9 => by obtain ⟨_, q1, q2, q3, q4⟩ := h9; omega)).symm)), trivial⟩, trivial⟩, trivial⟩
    ·have h4 := of_decide_eq_false h4
     refine HT.skip (HT.seq (HT.seq (HT.region S_dright_ok (So.q rfl rfl (V.as (v := .p (.v (.int .i64 0))) rfl (So.e (HT.block ?_)))))))
     refine R.loop (σ := Nat) (fun n => [(3, .p (.v (.int .i64 ((n : Int)))))]) (fun n => []) [1] [1] (fun n => n ≤ K.length ∧ okI K g n) (fun n => K.length - n) (0) (fr0 := [(1, .ptr 1 0)]) (O0 := [(1, ⟨_, _, _, _, .rows _⟩)]) rfl rfl (by exact ⟨Nat.zero_le _, okI_0 K g⟩) ⟨⟨⟨le_int (by rfl), trivial⟩, ⟨.refl _, rfl⟩, trivial⟩, ⟨⟨_, rfl, .inl rfl, trivial⟩, trivial⟩⟩ (fun n hP0 => ?_)
     refine HT.seq (HT.seq (HT.region S_dright_ok (So.q rfl rfl (V.mv (v := .p (.v (.int .i64 ((_ : Nat) : Int)))) rfl (So.q rfl rfl (V.faPtr ty26 rfl ty24 (lk rfl) rfl rfl (lk rfl) (So.q rfl rfl (V.ldPtr ty24 rfl rfl rfl (lk rfl) (v := .p (.sl _ 2 _)) rfl (So.q rfl rfl (V.len ty24 (v := .p (.sl _ 2 _)) rfl rfl (So.q rfl rfl (V.bin (a := (.v (.int .i64 ((_ : Nat) : Int)))) (b := .v (.int .i64 _)) (r := .v (.bool _)) rfl rfl rfl trivial (So.e ?_)))))))))))))
     show HT _ _ _ _ _
     refine R.cond rfl rfl (fun h5 => ?_) (fun h5 => ?_)
     ·have h5 := of_decide_eq_true h5
      refine HT.skip (HT.seq (HT.block (HT.seq (HT.region S_dright_ok (So.q rfl rfl (V.faPtr ty26 rfl ty24 (lk rfl) rfl rfl (lk rfl) (So.q rfl rfl (V.ldPtr ty24 rfl rfl rfl (lk rfl) (v := .p (.sl _ 2 _)) rfl (So.q rfl rfl (V.mv (v := .p (.v (.int .i64 ((_ : Nat) : Int)))) rfl (So.q rfl rfl (V.ixSlS ty24 ty35 (s := 2) rfl (by decide) rfl rfl (by omega) (Int.toNat_natCast _) (So.q rfl rfl (V.ldRpA ty35 rfl rfl (lk rfl) ?_))))))))))))))
      refine So.n (lk rfl) (A.alloc 2 1 ty35 rfl trivial (f := fun j => ([.v (.int .i64 0), .v (.slice none 0 0)] : List PV).getD j (.v undef)) (fun j hj => by match j, hj with | 0, _ => rfl | 1, _ => rfl) (So.s (A.stoAg ty35 rfl (n := 2) rfl (by decide) (by intro j hj; exact kR_one _ _) rfl rfl rfl (So.e (HT.seq ?_)))))
      refine HT.drawn S_dright_ok S_dright_det mixed (by kernel_rfl) ?_
      refine Sd.n (lk rfl) (V.faPtr ty35 rfl ty2 (lk rfl) rfl rfl (lk rfl) (Sd.n (lk rfl) (V.ldPtr ty2 rfl rfl rfl (lk rfl) (v := .p (.v (.int .i64 (kG K n)))) (by exact congrArg BV.p (kR_0 K n)) (Sd.n (lk rfl) (V.bin (a := .v (.int .i64 _)) (b := .v (.int .i64 0)) (r := .v (.bool _)) rfl rfl rfl trivial (Sd.n (lk rfl) (V.mv (v := .p (.v (.bool _))) rfl ?_)))))))
      refine Sd.gd rfl rfl (lk rfl) (lk rfl) (fun h6 => ?_) (fun h6 => ?_)
      ·have h6 := of_decide_eq_false h6
       refine V.faPtr ty35 rfl ty2 (lk rfl) rfl rfl (lk rfl) ?_
       refine Sd.gy rfl rfl (lk rfl) (lk rfl) ?_
       refine V.ldPtr ty2 rfl rfl rfl (lk rfl) (v := .p (.v (.int .i64 (kG K n)))) (by exact congrArg BV.p (kR_0 K n)) ?_
       refine Sd.gy rfl rfl (lk rfl) (lk rfl) ?_
       refine V.faPtr ty26 rfl ty2 (lk rfl) rfl rfl (lk rfl) ?_
       refine Sd.gy rfl rfl (lk rfl) (lk rfl) ?_
       refine V.ldPtr ty2 rfl rfl rfl (lk rfl) (v := .p (.v (.int .i64 _))) rfl ?_
       refine Sd.gy rfl rfl (lk rfl) (lk rfl) ?_
       refine V.bin (a := .v (.int .i64 _)) (b := .v (.int .i64 _)) (r := .v (.bool _)) rfl rfl rfl trivial ?_
       refine Sd.n (lk rfl) (V.pkFalse (u := .p (.v (.bool _))) rfl rfl (Sd.n (lk rfl) (V.mv (v := .p (.v (.bool _))) rfl ?_)))
       refine Sd.gd rfl rfl (lk rfl) (lk rfl) (fun h7 => ?_) (fun h7 => ?_)
       ·have h7 := of_decide_eq_false h7
        refine V.faPtr ty35 rfl ty22 (lk rfl) rfl rfl (lk rfl) ?_
        refine Sd.gy rfl rfl (lk rfl) (lk rfl) ?_
        refine V.ldPtr ty22 rfl rfl rfl (lk rfl) (v := .p (.bs (kB K n))) (by exact congrArg BV.p (kR_1 K n)) ?_
        refine Sd.gy rfl rfl (lk rfl) (lk rfl) ?_
        refine V.len ty22 (v := .p (.bs _)) rfl rfl ?_
        refine Sd.gy rfl rfl (lk rfl) (lk rfl) ?_
        refine V.bin (a := .v (.int .i64 _)) (b := .v (.int .i64 32)) (r := .v (.bool _)) rfl rfl rfl trivial ?_
        refine Sd.n (lk rfl) (V.pkFalse (u := .p (.v (.bool _))) rfl rfl (Sd.n (lk rfl) (V.mv (v := .p (.v (.bool _))) rfl ?_)))
        refine Sd.gd rfl rfl (lk rfl) (lk rfl) (fun h8 => ?_) (fun h8 => ?_)
        ·have h8 := of_decide_eq_true (bnF h8)
         refine V.mv (v := .p (.v (.int .i64 ((_ : Nat) : Int)))) rfl ?_
         refine Sd.gy rfl rfl (lk rfl) (lk rfl) ?_
         refine V.bin (a := (.v (.int .i64 ((_ : Nat) : Int)))) (b := .v (.int .i64 0)) (r := .v (.bool _)) rfl rfl rfl trivial ?_
         refine Sd.gy rfl rfl (lk rfl) (lk rfl) ?_
         refine V.mv (v := .p (.v (.bool _))) rfl ?_
         refine Sd.gd rfl rfl (lk rfl) (lk rfl) (fun h9 => ?_) (fun h9 => ?_)
         ·have h9 := of_decide_eq_true h9
          refine V.faPtr ty26 rfl ty24 (lk rfl) rfl rfl (lk rfl) ?_
          refine Sd.gy rfl rfl (lk rfl) (lk rfl) ?_
          refine V.ldPtr ty24 rfl rfl rfl (lk rfl) (v := .p (.sl _ 2 _)) rfl ?_
          refine Sd.gy rfl rfl (lk rfl) (lk rfl) ?_
          refine V.mv (v := .p (.v (.int .i64 ((_ : Nat) : Int)))) rfl ?_
          refine Sd.gy rfl rfl (lk rfl) (lk rfl) ?_
          refine V.subI rfl rfl (by omega) ?_
          refine Sd.gy rfl rfl (lk rfl) (lk rfl) ?_
          refine V.ixSlS (mi := n - 1) ty24 ty35 (s := 2) rfl (by decide) rfl rfl (by omega) (by omega) ?_
          refine Sd.gy rfl rfl (lk rfl) (lk rfl) ?_
          refine V.faRp ty35 rfl ty2 (lk rfl) rfl (by omega) ?_
          refine Sd.gy rfl rfl (lk rfl) (lk rfl) ?_
          refine V.ldRp ty2 rfl rfl (lk rfl) (v := .v (.int .i64 (kG K (n - 1)))) (by exact kR_0 K (n - 1)) ?_
          refine Sd.gy rfl rfl (lk rfl) (lk rfl) ?_
          refine V.faPtr ty35 rfl ty2 (lk rfl) rfl rfl (lk rfl) ?_
          refine Sd.gy rfl rfl (lk rfl) (lk rfl) ?_
          refine V.ldPtr ty2 rfl rfl rfl (lk rfl) (v := .p (.v (.int .i64 (kG K n)))) (by exact congrArg BV.p (kR_0 K n)) ?_
          refine Sd.gy rfl rfl (lk rfl) (lk rfl) ?_
          refine V.bin (a := .v (.int .i64 _)) (b := .v (.int .i64 _)) (r := .v (.bool _)) rfl rfl rfl trivial ?_
          refine Sd.gy rfl rfl (lk rfl) (lk rfl) ?_
          refine V.pkTrue (u := .p (.v (.bool _))) rfl rfl ?_
          refine Sd.n (lk rfl) (V.pkFalse (u := .p (.v (.bool _))) rfl rfl (Sd.e ?_))
          show HT _ _ _ _ _
          refine R.cond rfl rfl (fun h10 => ?_) (fun h10 => ?_)
          ·have h10 := of_decide_eq_true h10
           refine HT.seq (HT.region S_dright_ok (So.q rfl rfl (V.as (v := .p (.v (.bool false))) rfl (So.e ?_))))
           show HT _ _ _ _ _
           refine HT.ret ?_
           exact ret_ok (sg []) h rfl rfl rfl trivial ⟨trivial, trivial⟩ rfl ⟨⟨⟨le_bool (by (exact (decide_eq_false (fun h9 => by have h7 := okI_ge h9.1 n (by omega); have h8 := h9.1 n (by omega); unfold lastG at h8; split at h8 <;> omega)).symm)), trivial⟩, trivial⟩, trivial⟩
          ·have h10 := of_decide_eq_false h10
           refine HT.skip (HT.region S_dright_ok (So.q rfl rfl (V.mv (v := .p (.v (.int .i64 ((_ : Nat) : Int)))) rfl (So.q rfl rfl (V.addI rfl rfl (by omega) (So.q rfl rfl (V.as (v := .p (.v (.int .i64 _))) rfl (So.e ?_))))))))
           refine ⟨n + 1, by exact ⟨by omega, okI_s hP0.2 (by unfold lastG; split <;> omega) (by omega) (by omega)⟩, by omega, ⟨⟨⟨le_int (by rfl), trivial⟩, ⟨.refl _, rfl⟩, trivial⟩, ⟨⟨_, rfl, .inl rfl, trivial⟩, trivial⟩⟩⟩
         ·have h9 := of_decide_eq_false h9
          refine Sd.gn (b := false) rfl rfl rfl (lk rfl) (lk rfl) (Sd.gn (b := false) rfl rfl rfl (lk rfl) (lk rfl) (Sd.gn (b := false) rfl rfl rfl (lk rfl) (lk rfl) (Sd.gn (b := false) rfl rfl rfl (lk rfl) (lk rfl) (Sd.gn (b := false) rfl rfl rfl (lk rfl) (lk rfl) (Sd.gn (b := false) rfl rfl rfl (lk rfl) (lk rfl) (Sd.gn (b := false) rfl rfl rfl (lk rfl) (lk rfl) (Sd.gn (b := false) rfl rfl rfl (lk rfl) (lk rfl) (Sd.gn (b := false) rfl rfl rfl (lk rfl) (lk rfl) (Sd.gy rfl rfl (lk rfl) (lk rfl) ?_)))))))))
          refine V.pkFalse (u := .p (.v (.bool false))) rfl rfl ?_
          refine Sd.n (lk rfl) (V.pkFalse (u := .p (.v (.bool false))) rfl rfl (Sd.e ?_))
          show HT _ _ _ _ _
          refine R.condF rfl ?_
          refine HT.skip (HT.region S_dright_ok (So.q rfl rfl (V.mv (v := .p (.v (.int .i64 ((_ : Nat) : Int)))) rfl (So.q rfl rfl (V.addI rfl rfl (by omega) (So.q rfl rfl (V.as (v := .p (.v (.int .i64 _))) rfl (So.e ?_))))))))
          refine ⟨n + 1, by exact ⟨by omega, okI_s hP0.2 (by unfold lastG; split <;> omega) (by omega) (by omega)⟩, by omega, ⟨⟨⟨le_int (by rfl), trivial⟩, ⟨.refl _, rfl⟩, trivial⟩, ⟨⟨_, rfl, .inl rfl, trivial⟩, trivial⟩⟩⟩
        ·have h8 := of_decide_eq_false (bnT h8)
         refine Sd.gn (b := true) rfl rfl rfl (lk rfl) (lk rfl) (Sd.gn (b := true) rfl rfl rfl (lk rfl) (lk rfl) ?_)
         refine Sd.gu rfl rfl (lk rfl) ?_
         refine Sd.gu rfl rfl (lk rfl) ?_
         refine Sd.gu rfl rfl (lk rfl) ?_
         refine Sd.gu rfl rfl (lk rfl) ?_
         refine Sd.gu rfl rfl (lk rfl) ?_
         refine Sd.gu rfl rfl (lk rfl) ?_
         refine Sd.gu rfl rfl (lk rfl) ?_
         refine Sd.gu rfl rfl (lk rfl) ?_
         refine Sd.gu rfl rfl (lk rfl) ?_
         refine Sd.gu rfl rfl (lk rfl) ?_
         refine Sd.gn (b := true) rfl rfl rfl (lk rfl) (lk rfl) (Sd.n (lk rfl) (V.pkTrue (u := .p (.v (.bool true))) rfl rfl (Sd.e ?_)))
         show HT _ _ _ _ _
         refine R.condT rfl ?_
         refine HT.seq (HT.region S_dright_ok (So.q rfl rfl (V.as (v := .p (.v (.bool false))) rfl (So.e ?_))))
         show HT _ _ _ _ _
         refine HT.ret ?_
         exact ret_ok (sg []) h rfl rfl rfl trivial ⟨trivial, trivial⟩ rfl ⟨⟨⟨le_bool (by (exact (decide_eq_false (fun h9 => by have h7 := okI_ge h9.1 n (by omega); have h8 := h9.1 n (by omega); unfold lastG at h8; split at h8 <;> omega)).symm)), trivial⟩, trivial⟩, trivial⟩
       ·have h7 := of_decide_eq_true h7
        refine Sd.gn (b := true) rfl rfl rfl (lk rfl) (lk rfl) (Sd.gn (b := true) rfl rfl rfl (lk rfl) (lk rfl) (Sd.gn (b := true) rfl rfl rfl (lk rfl) (lk rfl) (Sd.n (lk rfl) (V.pkTrue (u := .p (.v (.bool true))) rfl rfl (Sd.n (lk rfl) (V.mv (v := .p (.v (.bool true))) rfl (Sd.gn (b := true) rfl rfl rfl (lk rfl) (lk rfl) (Sd.gn (b := true) rfl rfl rfl (lk rfl) (lk rfl) (Sd.gn (b := true) rfl rfl rfl (lk rfl) (lk rfl) ?_)))))))))
        refine Sd.gu rfl rfl (lk rfl) ?_
        refine Sd.gu rfl rfl (lk rfl) ?_
        refine Sd.gu rfl rfl (lk rfl) ?_
        refine Sd.gu rfl rfl (lk rfl) ?_
        refine Sd.gu rfl rfl (lk rfl) ?_
        refine Sd.gu rfl rfl (lk rfl) ?_
        refine Sd.gu rfl rfl (lk rfl) ?_
        refine Sd.gu rfl rfl (lk rfl) ?_
        refine Sd.gu rfl rfl (lk rfl) ?_
        refine Sd.gu rfl rfl (lk rfl) ?_
        refine Sd.gn (b := true) rfl rfl rfl (lk rfl) (lk rfl) (Sd.n (lk rfl) (V.pkTrue (u := .p (.v (.bool true))) rfl rfl (Sd.e ?_)))
        show HT _ _ _ _ _
        refine R.condT rfl ?_
        refine HT.seq (HT.region S_dright_ok (So.q rfl rfl (V.as (v := .p (.v (.bool false))) rfl (So.e ?_))))
        show HT _ _ _ _ _
        refine HT.ret ?_
        exact ret_ok (sg []) h rfl rfl rfl trivial ⟨trivial, trivial⟩ rfl ⟨⟨⟨le_bool (by (exact (decide_eq_false (fun h9 => by have h7 := okI_ge h9.1 n (by omega); have h8 := h9.1 n (by omega); unfold lastG at h8; split at h8 <;> omega)).symm)), trivial⟩, trivial⟩, trivial⟩
      ·have h6 := of_decide_eq_true h6
       refine Sd.gn (b := true) rfl rfl rfl (lk rfl) (lk rfl) (Sd.gn (b := true) rfl rfl rfl (lk rfl) (lk rfl) (Sd.gn (b := true) rfl rfl rfl (lk rfl) (lk rfl) (Sd.gn (b := true) rfl rfl rfl (lk rfl) (lk rfl) (Sd.n (lk rfl) (V.pkTrue (u := .p (.v (.bool true))) rfl rfl (Sd.n (lk rfl) (V.mv (v := .p (.v (.bool true))) rfl (Sd.gn (b := true) rfl rfl rfl (lk rfl) (lk rfl) (Sd.gn (b := true) rfl rfl rfl (lk rfl) (lk rfl) (Sd.gn (b := true) rfl rfl rfl (lk rfl) (lk rfl) (Sd.gn (b := true) rfl rfl rfl (lk rfl) (lk rfl) ?_)))))))))))
       refine Sd.n (lk rfl) (V.pkTrue (u := .p (.v (.bool true))) rfl rfl (Sd.n (lk rfl) (V.mv (v := .p (.v (.bool true))) rfl (Sd.gn (b := true) rfl rfl rfl (lk rfl) (lk rfl) (Sd.gn (b := true) rfl rfl rfl (lk rfl) (lk rfl) (Sd.gn (b := true) rfl rfl rfl (lk rfl) (lk rfl) ?_))))))
       refine Sd.gu rfl rfl (lk rfl) ?_
       refine Sd.gu rfl rfl (lk rfl) ?_
       refine Sd.gu rfl rfl (lk rfl) ?_
       refine Sd.gu rfl rfl (lk rfl) ?_
       refine Sd.gu rfl rfl (lk rfl) ?_
       refine Sd.gu rfl rfl (lk rfl) ?_
       refine Sd.gu rfl rfl (lk rfl) ?_
       refine Sd.gu rfl rfl (lk rfl) ?_
       refine Sd.gu rfl rfl (lk rfl) ?_
       refine Sd.gu rfl rfl (lk rfl) ?_
       refine Sd.gn (b := true) rfl rfl rfl (lk rfl) (lk rfl) (Sd.n (lk rfl) (V.pkTrue (u := .p (.v (.bool true))) rfl rfl (Sd.e ?_)))
       show HT _ _ _ _ _
       refine R.condT rfl ?_
       refine HT.seq (HT.region S_dright_ok (So.q rfl rfl (V.as (v := .p (.v (.bool false))) rfl (So.e ?_))))
       show HT _ _ _ _ _
       refine HT.ret ?_
       exact ret_ok (sg []) h rfl rfl rfl trivial ⟨trivial, trivial⟩ rfl ⟨⟨⟨le_bool (by (exact (decide_eq_false (fun h9 => by have h7 := okI_ge h9.1 n (by omega); have h8 := h9.1 n (by omega); unfold lastG at h8; split at h8 <;> omega)).symm)), trivial⟩, trivial⟩, trivial⟩
     ·have h5 := of_decide_eq_false h5
      refine HT.exit ?_
      show HT _ _ _ _ _
      refine HT.seq (HT.region S_dright_ok ?_)
      obtain ⟨hn9, hok⟩ := hP0
      have hnK : n = K.length := by omega
      rw [hnK] at hok
      refine So.q rfl rfl (V.as (v := .p (.v (.bool true))) rfl (So.e ?_))
      show HT _ _ _ _ _
      refine HT.ret ?_
      exact ret_ok (sg []) h rfl rfl rfl trivial ⟨trivial, trivial⟩ rfl ⟨⟨⟨le_bool (by (exact (decide_eq_true ⟨hok, by omega, by omega, by omega, by omega⟩).symm)), trivial⟩, trivial⟩, trivial⟩
   ·have h3 := of_decide_eq_false (bnT h3)
    refine So.gn (b := true) rfl rfl rfl (lk rfl) (lk rfl) (So.gn (b := true) rfl rfl rfl (lk rfl) (lk rfl) (So.gn (b := true) rfl rfl rfl (lk rfl) (lk rfl) (So.q rfl rfl (V.pkTrue (u := .p (.v (.bool true))) rfl rfl (So.e ?_)))))
    show HT _ _ _ _ _
    refine R.condT rfl ?_
    refine HT.seq (HT.region S_dright_ok (So.q rfl rfl (V.as (v := .p (.v (.bool false))) rfl (So.e ?_))))
    show HT _ _ _ _ _
    refine HT.ret ?_
    exact ret_ok (sg []) h rfl rfl rfl trivial ⟨trivial, trivial⟩ rfl ⟨⟨⟨le_bool (by (exact (decide_eq_false (fun h9 => by obtain ⟨_, q1, q2, q3, q4⟩ := h9; omega)).symm)), trivial⟩, trivial⟩, trivial⟩
  ·have h2 := of_decide_eq_true h2
   refine So.gn (b := true) rfl rfl rfl (lk rfl) (lk rfl) (So.gn (b := true) rfl rfl rfl (lk rfl) (lk rfl) (So.gn (b := true) rfl rfl rfl (lk rfl) (lk rfl) (So.q rfl rfl (V.pkTrue (u := .p (.v (.bool true))) rfl rfl (So.q rfl rfl (V.mv (v := .p (.v (.bool true))) rfl (So.gn (b := true) rfl rfl rfl (lk rfl) (lk rfl) (So.gn (b := true) rfl rfl rfl (lk rfl) (lk rfl) (So.gn (b := true) rfl rfl rfl (lk rfl) (lk rfl) (So.gn (b := true) rfl rfl rfl (lk rfl) (lk rfl) (So.q rfl rfl (V.pkTrue (u := .p (.v (.bool true))) rfl rfl ?_))))))))))))
   refine So.e ?_
   show HT _ _ _ _ _
   refine R.condT rfl ?_
   refine HT.seq (HT.region S_dright_ok (So.q rfl rfl (V.as (v := .p (.v (.bool false))) rfl (So.e ?_))))
   show HT _ _ _ _ _
   refine HT.ret ?_
   exact ret_ok (sg []) h rfl rfl rfl trivial ⟨trivial, trivial⟩ rfl ⟨⟨⟨le_bool (by (exact (decide_eq_false (fun h9 => by obtain ⟨_, q1, q2, q3, q4⟩ := h9; omega)).symm)), trivial⟩, trivial⟩, trivial⟩
 ·have h1 := of_decide_eq_true h1
  refine So.gn (b := true) rfl rfl rfl (lk rfl) (lk rfl) (So.gn (b := true) rfl rfl rfl (lk rfl) (lk rfl) (So.q rfl rfl (V.pkTrue (u := .p (.v (.bool true))) rfl rfl (So.q rfl rfl (V.mv (v := .p (.v (.bool true))) rfl (So.gn (b := true) rfl rfl rfl (lk rfl) (lk rfl) (So.gn (b := true) rfl rfl rfl (lk rfl) (lk rfl) (So.gn (b := true) rfl rfl rfl (lk rfl) (lk rfl) (So.gn (b := true) rfl rfl rfl (lk rfl) (lk rfl) (So.q rfl rfl (V.pkTrue (u := .p (.v (.bool true))) rfl rfl (So.q rfl rfl (V.mv (v := .p (.v (.bool true))) rfl ?_)))))))))))))
  refine So.gn (b := true) rfl rfl rfl (lk rfl) (lk rfl) (So.gn (b := true) rfl rfl rfl (lk rfl) (lk rfl) (So.gn (b := true) rfl rfl rfl (lk rfl) (lk rfl) (So.gn (b := true) rfl rfl rfl (lk rfl) (lk rfl) (So.q rfl rfl (V.pkTrue (u := .p (.v (.bool true))) rfl rfl (So.e ?_))))))
  show HT _ _ _ _ _
  refine R.condT rfl ?_
  refine HT.seq (HT.region S_dright_ok (So.q rfl rfl (V.as (v := .p (.v (.bool false))) rfl (So.e ?_))))
  show HT _ _ _ _ _
  refine HT.ret ?_
  exact ret_ok (sg []) h rfl rfl rfl trivial ⟨trivial, trivial⟩ rfl ⟨⟨⟨le_bool (by (exact (decide_eq_false (fun h9 => by obtain ⟨_, q1, q2, q3, q4⟩ := h9; omega)).symm)), trivial⟩, trivial⟩, trivial⟩
def rnumSp : Sp := ⟨[], mkE (α := Int × Int) (fun (n, k) => [.p (.v (.int .i64 n)), .p (.v (.int .i64 k))]) (fun (n, k) => []) (fun (n, k) => True) (fun (n, k) => [.own 1 0 ((numF n k).length)]) (fun (n, k) => [(1, ⟨5, 1, (numF n k).length, true, .bs (numF n k)⟩)])⟩
def S_rnum : FuncId → Option Sp := fun _ => none
theorem S_rnum_ok : ∀ f s, S_rnum f = some s → FOK Tryd.prog gl f s := fun f s h => by cases h
set_option maxHeartbeats 1000000 in
set_option maxRecDepth 1000 in
theorem rnum_ok : FOK Tryd.prog gl 33 rnumSp := by
 refine FOK.ofE (tyOf_ok Tryd.prog) (slots := [4]) (nt := 51) Tryd.func33 rfl rfl rfl rfl (by decide) 2 (fun ⟨_, _⟩ => rfl) (by decide) (fun ⟨_, _⟩ => ⟨trivial, trivial, trivial⟩) ?_
 rintro ⟨n, k⟩ kk hlen hpre h
 replace hpre : True := hpre
 show HT (cx Tryd.prog 51 (tyOf Tryd.prog) gl []) _ [(0, .p (.v (.int .i64 n))), (1, .p (.v (.int .i64 k)))] [] _
 refine HT.seq (HT.region S_rnum_ok (So.q rfl rfl (V.as (v := .p (.v (.slice none 0 0))) rfl (So.e ?_))))
 show HT _ _ _ _ _
 refine R.cut ((k = 1 ∨ k = 2 ∨ k = 4 ∨ k = 8) ∧ 0 ≤ n ∧ ¬ (k < 8 ∧ ¬ iShr .i64 n (8 * k).toNat = 0)) [] [] [0, 1] [] (fr0 := [(0, .p (.v (.int .i64 _))), (1, .p (.v (.int .i64 _)))]) (O0 := []) rfl rfl ?_ (fun hphi => ?_)
 ·refine HT.seq ?_
  refine HT.region S_rnum_ok (So.q rfl rfl (V.mv (v := .p (.v (.int .i64 _))) rfl (So.q rfl rfl (V.bin (a := .v (.int .i64 _)) (b := .v (.int .i64 1)) (r := .v (.bool _)) rfl rfl rfl trivial (So.q rfl rfl (V.mv (v := .p (.v (.bool _))) rfl ?_))))))
  refine So.gd rfl rfl (lk rfl) (lk rfl) (fun h1 => ?_) (fun h1 => ?_)
  ·have h1 := of_decide_eq_false (bnT h1)
   refine A.v rfl (V.mv (v := .p (.v (.int .i64 _))) rfl (So.gy rfl rfl (lk rfl) (lk rfl) (A.v rfl (V.bin (a := .v (.int .i64 _)) (b := .v (.int .i64 2)) (r := .v (.bool _)) rfl rfl rfl trivial (So.q rfl rfl (V.pkTrue (u := .p (.v (.bool _))) rfl rfl (So.q rfl rfl (V.mv (v := .p (.v (.bool _))) rfl ?_))))))))
   refine So.gd rfl rfl (lk rfl) (lk rfl) (fun h2 => ?_) (fun h2 => ?_)
   ·have h2 := of_decide_eq_false (bnT h2)
    refine A.v rfl (V.mv (v := .p (.v (.int .i64 _))) rfl (So.gy rfl rfl (lk rfl) (lk rfl) (A.v rfl (V.bin (a := .v (.int .i64 _)) (b := .v (.int .i64 4)) (r := .v (.bool _)) rfl rfl rfl trivial (So.q rfl rfl (V.pkTrue (u := .p (.v (.bool _))) rfl rfl (So.q rfl rfl (V.mv (v := .p (.v (.bool _))) rfl ?_))))))))
    refine So.gd rfl rfl (lk rfl) (lk rfl) (fun h3 => ?_) (fun h3 => ?_)
    ·have h3 := of_decide_eq_false (bnT h3)
     refine A.v rfl (V.mv (v := .p (.v (.int .i64 _))) rfl (So.gy rfl rfl (lk rfl) (lk rfl) (A.v rfl (V.bin (a := .v (.int .i64 _)) (b := .v (.int .i64 8)) (r := .v (.bool _)) rfl rfl rfl trivial (So.q rfl rfl (V.pkTrue (u := .p (.v (.bool _))) rfl rfl (So.q rfl rfl (V.mv (v := .p (.v (.bool _))) rfl ?_))))))))
     refine So.gd rfl rfl (lk rfl) (lk rfl) (fun h4 => ?_) (fun h4 => ?_)
     ·have h4 := of_decide_eq_true (bnF h4)
      refine A.v rfl (V.mv (v := .p (.v (.int .i64 _))) rfl (So.gy rfl rfl (lk rfl) (lk rfl) (A.v rfl (V.bin (a := .v (.int .i64 _)) (b := .v (.int .i64 0)) (r := .v (.bool _)) rfl rfl rfl trivial (So.q rfl rfl (V.pkFalse (u := .p (.v (.bool _))) rfl rfl (So.q rfl rfl (V.mv (v := .p (.v (.bool _))) rfl ?_))))))))
      refine So.gd rfl rfl (lk rfl) (lk rfl) (fun h5 => ?_) (fun h5 => ?_)
      ·have h5 := of_decide_eq_false h5
       refine A.v rfl (V.mv (v := .p (.v (.int .i64 _))) rfl (So.gy rfl rfl (lk rfl) (lk rfl) (A.v rfl (V.bin (a := .v (.int .i64 _)) (b := .v (.int .i64 8)) (r := .v (.bool _)) rfl rfl rfl trivial (So.gy rfl rfl (lk rfl) (lk rfl) (A.v rfl (V.mv (v := .p (.v (.bool _))) rfl ?_)))))))
       refine So.gd rfl rfl (lk rfl) (lk rfl) (fun h6 => ?_) (fun h6 => ?_)
       ·have h6 := of_decide_eq_true h6
        refine A.v rfl (V.mv (v := .p (.v (.int .i64 _))) rfl (So.gy rfl rfl (lk rfl) (lk rfl) (A.v rfl (V.mv (v := .p (.v (.int .i64 _))) rfl (So.gy rfl rfl (lk rfl) (lk rfl) (A.v rfl (V.mulI rfl rfl (by omega) (So.gy rfl rfl (lk rfl) (lk rfl) (A.v rfl (V.bin (a := .v (.int .i64 _)) (b := .v (.int .i64 _)) (r := .v (.int .i64 _)) rfl rfl rfl (by omega) (So.gy rfl rfl (lk rfl) (lk rfl) (A.v rfl (V.bin (a := .v (.int .i64 _)) (b := .v (.int .i64 0)) (r := .v (.bool _)) rfl rfl rfl trivial (So.gy rfl rfl (lk rfl) (lk rfl) ?_))))))))))))))
        refine A.v rfl (V.pkTrue (u := .p (.v (.bool _))) rfl rfl (So.q rfl rfl (V.pkFalse (u := .p (.v (.bool _))) rfl rfl (So.e ?_))))
        show HT _ _ _ _ _
        refine R.cond rfl rfl (fun h7 => ?_) (fun h7 => ?_)
        ·have h7 := of_decide_eq_false (bnT h7)
         refine HT.seq (HT.region S_rnum_ok (So.q rfl rfl (V.as (v := .p (.v (.slice none 0 0))) rfl (So.e ?_))))
         show HT _ _ _ _ _
         refine R.phan 4 1 5 1 (.bs []) rfl rfl rfl ⟨rfl, rfl⟩ ?_
         refine HT.ret ?_
         exact ret_ok (sg [(1, 1)]) h rfl rfl rfl ⟨trivial, trivial⟩ ⟨rfl, trivial⟩ rfl ⟨⟨⟨le_own2 (by rfl) (by (rw [numF_bad (by omega)] <;> rfl)), rfl⟩, trivial⟩, ⟨⟨_, rfl, .inl (ob_bs (by ((try dsimp only); ((rw [numF_bad (by omega)] <;> rfl)))) (by ((try dsimp only); ((rw [numF_bad (by omega)] <;> rfl))))), trivial⟩, trivial⟩⟩
        ·have h7 := of_decide_eq_true (bnF h7)
         refine HT.skip ?_
         exact ⟨by omega, ⟨⟨⟨.refl _, trivial⟩, ⟨.refl _, trivial⟩, trivial⟩, trivial⟩⟩
       ·have h6 := of_decide_eq_false h6
        refine So.gn (b := false) rfl rfl rfl (lk rfl) (lk rfl) (So.gn (b := false) rfl rfl rfl (lk rfl) (lk rfl) (So.gn (b := false) rfl rfl rfl (lk rfl) (lk rfl) (So.gn (b := false) rfl rfl rfl (lk rfl) (lk rfl) (So.gy rfl rfl (lk rfl) (lk rfl) (A.v rfl (V.pkFalse (u := .p (.v (.bool false))) rfl rfl (So.q rfl rfl (V.pkFalse (u := .p (.v (.bool false))) rfl rfl (So.e ?_)))))))))
        show HT _ _ _ _ _
        refine R.condF rfl ?_
        refine HT.skip ?_
        exact ⟨by omega, ⟨⟨⟨.refl _, trivial⟩, ⟨.refl _, trivial⟩, trivial⟩, trivial⟩⟩
      ·have h5 := of_decide_eq_true h5
       refine So.gn (b := true) rfl rfl rfl (lk rfl) (lk rfl) (So.gn (b := true) rfl rfl rfl (lk rfl) (lk rfl) ?_)
       refine So.gu rfl rfl (lk rfl) ?_
       refine So.gu rfl rfl (lk rfl) ?_
       refine So.gu rfl rfl (lk rfl) ?_
       refine So.gu rfl rfl (lk rfl) ?_
       refine So.gu rfl rfl (lk rfl) ?_
       refine So.gn (b := true) rfl rfl rfl (lk rfl) (lk rfl) (So.q rfl rfl (V.pkTrue (u := .p (.v (.bool true))) rfl rfl (So.e ?_)))
       show HT _ _ _ _ _
       refine R.condT rfl ?_
       refine HT.seq (HT.region S_rnum_ok (So.q rfl rfl (V.as (v := .p (.v (.slice none 0 0))) rfl (So.e ?_))))
       show HT _ _ _ _ _
       refine R.phan 4 1 5 1 (.bs []) rfl rfl rfl ⟨rfl, rfl⟩ ?_
       refine HT.ret ?_
       exact ret_ok (sg [(1, 1)]) h rfl rfl rfl ⟨trivial, trivial⟩ ⟨rfl, trivial⟩ rfl ⟨⟨⟨le_own2 (by rfl) (by (rw [numF_bad (by omega)] <;> rfl)), rfl⟩, trivial⟩, ⟨⟨_, rfl, .inl (ob_bs (by ((try dsimp only); ((rw [numF_bad (by omega)] <;> rfl)))) (by ((try dsimp only); ((rw [numF_bad (by omega)] <;> rfl))))), trivial⟩, trivial⟩⟩
     ·have h4 := of_decide_eq_false (bnT h4)
      refine So.gn (b := true) rfl rfl rfl (lk rfl) (lk rfl) (So.q rfl rfl (V.pkTrue (u := .p (.v (.bool true))) rfl rfl (So.q rfl rfl (V.mv (v := .p (.v (.bool true))) rfl (So.gn (b := true) rfl rfl rfl (lk rfl) (lk rfl) (So.gn (b := true) rfl rfl rfl (lk rfl) (lk rfl) (So.gn (b := true) rfl rfl rfl (lk rfl) (lk rfl) ?_)))))))
      refine So.gu rfl rfl (lk rfl) ?_
      refine So.gu rfl rfl (lk rfl) ?_
      refine So.gu rfl rfl (lk rfl) ?_
      refine So.gu rfl rfl (lk rfl) ?_
      refine So.gu rfl rfl (lk rfl) ?_
      refine So.gn (b := true) rfl rfl rfl (lk rfl) (lk rfl) (So.q rfl rfl (V.pkTrue (u := .p (.v (.bool true))) rfl rfl (So.e ?_)))
      show HT _ _ _ _ _
      refine R.condT rfl ?_
      refine HT.seq (HT.region S_rnum_ok (So.q rfl rfl (V.as (v := .p (.v (.slice none 0 0))) rfl (So.e ?_))))
      show HT _ _ _ _ _
      refine R.phan 4 1 5 1 (.bs []) rfl rfl rfl ⟨rfl, rfl⟩ ?_
      refine HT.ret ?_
      exact ret_ok (sg [(1, 1)]) h rfl rfl rfl ⟨trivial, trivial⟩ ⟨rfl, trivial⟩ rfl ⟨⟨⟨le_own2 (by rfl) (by (rw [numF_bad (by omega)] <;> rfl)), rfl⟩, trivial⟩, ⟨⟨_, rfl, .inl (ob_bs (by ((try dsimp only); ((rw [numF_bad (by omega)] <;> rfl)))) (by ((try dsimp only); ((rw [numF_bad (by omega)] <;> rfl))))), trivial⟩, trivial⟩⟩
    ·have h3 := of_decide_eq_true (bnF h3)
     refine So.gn (b := false) rfl rfl rfl (lk rfl) (lk rfl) (So.q rfl rfl (V.pkFalse (u := .p (.v (.bool false))) rfl rfl (So.q rfl rfl (V.mv (v := .p (.v (.bool false))) rfl (So.gy rfl rfl (lk rfl) (lk rfl) (A.v rfl (V.mv (v := .p (.v (.int .i64 _))) rfl (So.gy rfl rfl (lk rfl) (lk rfl) (A.v rfl (V.bin (a := .v (.int .i64 _)) (b := .v (.int .i64 0)) (r := .v (.bool _)) rfl rfl rfl trivial (So.q rfl rfl (V.pkFalse (u := .p (.v (.bool _))) rfl rfl (So.q rfl rfl (V.mv (v := .p (.v (.bool _))) rfl ?_))))))))))))))
     refine So.gd rfl rfl (lk rfl) (lk rfl) (fun h8 => ?_) (fun h8 => ?_)
     ·have h8 := of_decide_eq_false h8
      refine A.v rfl (V.mv (v := .p (.v (.int .i64 _))) rfl (So.gy rfl rfl (lk rfl) (lk rfl) (A.v rfl (V.bin (a := .v (.int .i64 _)) (b := .v (.int .i64 8)) (r := .v (.bool _)) rfl rfl rfl trivial (So.gy rfl rfl (lk rfl) (lk rfl) (A.v rfl (V.mv (v := .p (.v (.bool _))) rfl ?_)))))))
      refine So.gd rfl rfl (lk rfl) (lk rfl) (fun h9 => ?_) (fun h9 => ?_)
      ·have h9 := of_decide_eq_true h9
       refine A.v rfl (V.mv (v := .p (.v (.int .i64 _))) rfl (So.gy rfl rfl (lk rfl) (lk rfl) (A.v rfl (V.mv (v := .p (.v (.int .i64 _))) rfl (So.gy rfl rfl (lk rfl) (lk rfl) (A.v rfl (V.mulI rfl rfl (by omega) (So.gy rfl rfl (lk rfl) (lk rfl) (A.v rfl (V.bin (a := .v (.int .i64 _)) (b := .v (.int .i64 _)) (r := .v (.int .i64 _)) rfl rfl rfl (by omega) (So.gy rfl rfl (lk rfl) (lk rfl) (A.v rfl (V.bin (a := .v (.int .i64 _)) (b := .v (.int .i64 0)) (r := .v (.bool _)) rfl rfl rfl trivial (So.gy rfl rfl (lk rfl) (lk rfl) ?_))))))))))))))
       refine A.v rfl (V.pkTrue (u := .p (.v (.bool _))) rfl rfl (So.q rfl rfl (V.pkFalse (u := .p (.v (.bool _))) rfl rfl (So.e ?_))))
       show HT _ _ _ _ _
       refine R.cond rfl rfl (fun h10 => ?_) (fun h10 => ?_)
       ·have h10 := of_decide_eq_false (bnT h10)
        refine HT.seq (HT.region S_rnum_ok (So.q rfl rfl (V.as (v := .p (.v (.slice none 0 0))) rfl (So.e ?_))))
        show HT _ _ _ _ _
        refine R.phan 4 1 5 1 (.bs []) rfl rfl rfl ⟨rfl, rfl⟩ ?_
        refine HT.ret ?_
        exact ret_ok (sg [(1, 1)]) h rfl rfl rfl ⟨trivial, trivial⟩ ⟨rfl, trivial⟩ rfl ⟨⟨⟨le_own2 (by rfl) (by (rw [numF_big (by omega) (by have := @shr_zero n k (by omega) (by omega); omega)] <;> rfl)), rfl⟩, trivial⟩, ⟨⟨_, rfl, .inl (ob_bs (by ((try dsimp only); ((rw [numF_big (by omega) (by have := @shr_zero n k (by omega) (by omega); omega)] <;> rfl)))) (by ((try dsimp only); ((rw [numF_big (by omega) (by have := @shr_zero n k (by omega) (by omega); omega)] <;> rfl))))), trivial⟩, trivial⟩⟩
       ·have h10 := of_decide_eq_true (bnF h10)
        refine HT.skip ?_
        exact ⟨by omega, ⟨⟨⟨.refl _, trivial⟩, ⟨.refl _, trivial⟩, trivial⟩, trivial⟩⟩
      ·have h9 := of_decide_eq_false h9
       refine So.gn (b := false) rfl rfl rfl (lk rfl) (lk rfl) (So.gn (b := false) rfl rfl rfl (lk rfl) (lk rfl) (So.gn (b := false) rfl rfl rfl (lk rfl) (lk rfl) (So.gn (b := false) rfl rfl rfl (lk rfl) (lk rfl) (So.gy rfl rfl (lk rfl) (lk rfl) (A.v rfl (V.pkFalse (u := .p (.v (.bool false))) rfl rfl (So.q rfl rfl (V.pkFalse (u := .p (.v (.bool false))) rfl rfl (So.e ?_)))))))))
       show HT _ _ _ _ _
       refine R.condF rfl ?_
       refine HT.skip ?_
       exact ⟨by omega, ⟨⟨⟨.refl _, trivial⟩, ⟨.refl _, trivial⟩, trivial⟩, trivial⟩⟩
     ·have h8 := of_decide_eq_true h8
      refine So.gn (b := true) rfl rfl rfl (lk rfl) (lk rfl) (So.gn (b := true) rfl rfl rfl (lk rfl) (lk rfl) ?_)
      refine So.gu rfl rfl (lk rfl) ?_
      refine So.gu rfl rfl (lk rfl) ?_
      refine So.gu rfl rfl (lk rfl) ?_
      refine So.gu rfl rfl (lk rfl) ?_
      refine So.gu rfl rfl (lk rfl) ?_
      refine So.gn (b := true) rfl rfl rfl (lk rfl) (lk rfl) (So.q rfl rfl (V.pkTrue (u := .p (.v (.bool true))) rfl rfl (So.e ?_)))
      show HT _ _ _ _ _
      refine R.condT rfl ?_
      refine HT.seq (HT.region S_rnum_ok (So.q rfl rfl (V.as (v := .p (.v (.slice none 0 0))) rfl (So.e ?_))))
      show HT _ _ _ _ _
      refine R.phan 4 1 5 1 (.bs []) rfl rfl rfl ⟨rfl, rfl⟩ ?_
      refine HT.ret ?_
      exact ret_ok (sg [(1, 1)]) h rfl rfl rfl ⟨trivial, trivial⟩ ⟨rfl, trivial⟩ rfl ⟨⟨⟨le_own2 (by rfl) (by (rw [numF_bad (by omega)] <;> rfl)), rfl⟩, trivial⟩, ⟨⟨_, rfl, .inl (ob_bs (by ((try dsimp only); ((rw [numF_bad (by omega)] <;> rfl)))) (by ((try dsimp only); ((rw [numF_bad (by omega)] <;> rfl))))), trivial⟩, trivial⟩⟩
   ·have h2 := of_decide_eq_true (bnF h2)
    refine So.gn (b := false) rfl rfl rfl (lk rfl) (lk rfl) (So.q rfl rfl (V.pkFalse (u := .p (.v (.bool false))) rfl rfl (So.q rfl rfl (V.mv (v := .p (.v (.bool false))) rfl (So.gn (b := false) rfl rfl rfl (lk rfl) (lk rfl) (So.gn (b := false) rfl rfl rfl (lk rfl) (lk rfl) (So.q rfl rfl (V.pkFalse (u := .p (.v (.bool false))) rfl rfl (So.q rfl rfl (V.mv (v := .p (.v (.bool false))) rfl (So.gy rfl rfl (lk rfl) (lk rfl) (A.v rfl (V.mv (v := .p (.v (.int .i64 _))) rfl (So.gy rfl rfl (lk rfl) (lk rfl) ?_))))))))))))))
    refine A.v rfl (V.bin (a := .v (.int .i64 _)) (b := .v (.int .i64 0)) (r := .v (.bool _)) rfl rfl rfl trivial (So.q rfl rfl (V.pkFalse (u := .p (.v (.bool _))) rfl rfl (So.q rfl rfl (V.mv (v := .p (.v (.bool _))) rfl ?_)))))
    refine So.gd rfl rfl (lk rfl) (lk rfl) (fun h11 => ?_) (fun h11 => ?_)
    ·have h11 := of_decide_eq_false h11
     refine A.v rfl (V.mv (v := .p (.v (.int .i64 _))) rfl (So.gy rfl rfl (lk rfl) (lk rfl) (A.v rfl (V.bin (a := .v (.int .i64 _)) (b := .v (.int .i64 8)) (r := .v (.bool _)) rfl rfl rfl trivial (So.gy rfl rfl (lk rfl) (lk rfl) (A.v rfl (V.mv (v := .p (.v (.bool _))) rfl ?_)))))))
     refine So.gd rfl rfl (lk rfl) (lk rfl) (fun h12 => ?_) (fun h12 => ?_)
     ·have h12 := of_decide_eq_true h12
      refine A.v rfl (V.mv (v := .p (.v (.int .i64 _))) rfl (So.gy rfl rfl (lk rfl) (lk rfl) (A.v rfl (V.mv (v := .p (.v (.int .i64 _))) rfl (So.gy rfl rfl (lk rfl) (lk rfl) (A.v rfl (V.mulI rfl rfl (by omega) (So.gy rfl rfl (lk rfl) (lk rfl) (A.v rfl (V.bin (a := .v (.int .i64 _)) (b := .v (.int .i64 _)) (r := .v (.int .i64 _)) rfl rfl rfl (by omega) (So.gy rfl rfl (lk rfl) (lk rfl) (A.v rfl (V.bin (a := .v (.int .i64 _)) (b := .v (.int .i64 0)) (r := .v (.bool _)) rfl rfl rfl trivial (So.gy rfl rfl (lk rfl) (lk rfl) ?_))))))))))))))
      refine A.v rfl (V.pkTrue (u := .p (.v (.bool _))) rfl rfl (So.q rfl rfl (V.pkFalse (u := .p (.v (.bool _))) rfl rfl (So.e ?_))))
      show HT _ _ _ _ _
      refine R.cond rfl rfl (fun h13 => ?_) (fun h13 => ?_)
      ·have h13 := of_decide_eq_false (bnT h13)
       refine HT.seq (HT.region S_rnum_ok (So.q rfl rfl (V.as (v := .p (.v (.slice none 0 0))) rfl (So.e ?_))))
       show HT _ _ _ _ _
       refine R.phan 4 1 5 1 (.bs []) rfl rfl rfl ⟨rfl, rfl⟩ ?_
       refine HT.ret ?_
       exact ret_ok (sg [(1, 1)]) h rfl rfl rfl ⟨trivial, trivial⟩ ⟨rfl, trivial⟩ rfl ⟨⟨⟨le_own2 (by rfl) (by (rw [numF_big (by omega) (by have := @shr_zero n k (by omega) (by omega); omega)] <;> rfl)), rfl⟩, trivial⟩, ⟨⟨_, rfl, .inl (ob_bs (by ((try dsimp only); ((rw [numF_big (by omega) (by have := @shr_zero n k (by omega) (by omega); omega)] <;> rfl)))) (by ((try dsimp only); ((rw [numF_big (by omega) (by have := @shr_zero n k (by omega) (by omega); omega)] <;> rfl))))), trivial⟩, trivial⟩⟩
      ·have h13 := of_decide_eq_true (bnF h13)
       refine HT.skip ?_
       exact ⟨by omega, ⟨⟨⟨.refl _, trivial⟩, ⟨.refl _, trivial⟩, trivial⟩, trivial⟩⟩
     ·have h12 := of_decide_eq_false h12
      refine So.gn (b := false) rfl rfl rfl (lk rfl) (lk rfl) (So.gn (b := false) rfl rfl rfl (lk rfl) (lk rfl) (So.gn (b := false) rfl rfl rfl (lk rfl) (lk rfl) (So.gn (b := false) rfl rfl rfl (lk rfl) (lk rfl) (So.gy rfl rfl (lk rfl) (lk rfl) (A.v rfl (V.pkFalse (u := .p (.v (.bool false))) rfl rfl (So.q rfl rfl (V.pkFalse (u := .p (.v (.bool false))) rfl rfl (So.e ?_)))))))))
      show HT _ _ _ _ _
      refine R.condF rfl ?_
      refine HT.skip ?_
      exact ⟨by omega, ⟨⟨⟨.refl _, trivial⟩, ⟨.refl _, trivial⟩, trivial⟩, trivial⟩⟩
    ·have h11 := of_decide_eq_true h11
     refine So.gn (b := true) rfl rfl rfl (lk rfl) (lk rfl) (So.gn (b := true) rfl rfl rfl (lk rfl) (lk rfl) ?_)
     refine So.gu rfl rfl (lk rfl) ?_
     refine So.gu rfl rfl (lk rfl) ?_
     refine So.gu rfl rfl (lk rfl) ?_
     refine So.gu rfl rfl (lk rfl) ?_
     refine So.gu rfl rfl (lk rfl) ?_
     refine So.gn (b := true) rfl rfl rfl (lk rfl) (lk rfl) (So.q rfl rfl (V.pkTrue (u := .p (.v (.bool true))) rfl rfl (So.e ?_)))
     show HT _ _ _ _ _
     refine R.condT rfl ?_
     refine HT.seq (HT.region S_rnum_ok (So.q rfl rfl (V.as (v := .p (.v (.slice none 0 0))) rfl (So.e ?_))))
     show HT _ _ _ _ _
     refine R.phan 4 1 5 1 (.bs []) rfl rfl rfl ⟨rfl, rfl⟩ ?_
     refine HT.ret ?_
     exact ret_ok (sg [(1, 1)]) h rfl rfl rfl ⟨trivial, trivial⟩ ⟨rfl, trivial⟩ rfl ⟨⟨⟨le_own2 (by rfl) (by (rw [numF_bad (by omega)] <;> rfl)), rfl⟩, trivial⟩, ⟨⟨_, rfl, .inl (ob_bs (by ((try dsimp only); ((rw [numF_bad (by omega)] <;> rfl)))) (by ((try dsimp only); ((rw [numF_bad (by omega)] <;> rfl))))), trivial⟩, trivial⟩⟩
  ·have h1 := of_decide_eq_true (bnF h1)
   refine So.gn (b := false) rfl rfl rfl (lk rfl) (lk rfl) (So.q rfl rfl (V.pkFalse (u := .p (.v (.bool false))) rfl rfl (So.q rfl rfl (V.mv (v := .p (.v (.bool false))) rfl (So.gn (b := false) rfl rfl rfl (lk rfl) (lk rfl) (So.gn (b := false) rfl rfl rfl (lk rfl) (lk rfl) (So.q rfl rfl (V.pkFalse (u := .p (.v (.bool false))) rfl rfl (So.q rfl rfl (V.mv (v := .p (.v (.bool false))) rfl (So.gn (b := false) rfl rfl rfl (lk rfl) (lk rfl) (So.gn (b := false) rfl rfl rfl (lk rfl) (lk rfl) (So.q rfl rfl (V.pkFalse (u := .p (.v (.bool false))) rfl rfl ?_))))))))))))))
   refine So.q rfl rfl (V.mv (v := .p (.v (.bool false))) rfl (So.gy rfl rfl (lk rfl) (lk rfl) (A.v rfl (V.mv (v := .p (.v (.int .i64 _))) rfl (So.gy rfl rfl (lk rfl) (lk rfl) (A.v rfl (V.bin (a := .v (.int .i64 _)) (b := .v (.int .i64 0)) (r := .v (.bool _)) rfl rfl rfl trivial (So.q rfl rfl (V.pkFalse (u := .p (.v (.bool _))) rfl rfl (So.q rfl rfl (V.mv (v := .p (.v (.bool _))) rfl ?_)))))))))))
   refine So.gd rfl rfl (lk rfl) (lk rfl) (fun h14 => ?_) (fun h14 => ?_)
   ·have h14 := of_decide_eq_false h14
    refine A.v rfl (V.mv (v := .p (.v (.int .i64 _))) rfl (So.gy rfl rfl (lk rfl) (lk rfl) (A.v rfl (V.bin (a := .v (.int .i64 _)) (b := .v (.int .i64 8)) (r := .v (.bool _)) rfl rfl rfl trivial (So.gy rfl rfl (lk rfl) (lk rfl) (A.v rfl (V.mv (v := .p (.v (.bool _))) rfl ?_)))))))
    refine So.gd rfl rfl (lk rfl) (lk rfl) (fun h15 => ?_) (fun h15 => ?_)
    ·have h15 := of_decide_eq_true h15
     refine A.v rfl (V.mv (v := .p (.v (.int .i64 _))) rfl (So.gy rfl rfl (lk rfl) (lk rfl) (A.v rfl (V.mv (v := .p (.v (.int .i64 _))) rfl (So.gy rfl rfl (lk rfl) (lk rfl) (A.v rfl (V.mulI rfl rfl (by omega) (So.gy rfl rfl (lk rfl) (lk rfl) (A.v rfl (V.bin (a := .v (.int .i64 _)) (b := .v (.int .i64 _)) (r := .v (.int .i64 _)) rfl rfl rfl (by omega) (So.gy rfl rfl (lk rfl) (lk rfl) (A.v rfl (V.bin (a := .v (.int .i64 _)) (b := .v (.int .i64 0)) (r := .v (.bool _)) rfl rfl rfl trivial (So.gy rfl rfl (lk rfl) (lk rfl) ?_))))))))))))))
     refine A.v rfl (V.pkTrue (u := .p (.v (.bool _))) rfl rfl (So.q rfl rfl (V.pkFalse (u := .p (.v (.bool _))) rfl rfl (So.e ?_))))
     show HT _ _ _ _ _
     refine R.cond rfl rfl (fun h16 => ?_) (fun h16 => ?_)
     ·have h16 := of_decide_eq_false (bnT h16)
      refine HT.seq (HT.region S_rnum_ok (So.q rfl rfl (V.as (v := .p (.v (.slice none 0 0))) rfl (So.e ?_))))
      show HT _ _ _ _ _
      refine R.phan 4 1 5 1 (.bs []) rfl rfl rfl ⟨rfl, rfl⟩ ?_
      refine HT.ret ?_
      exact ret_ok (sg [(1, 1)]) h rfl rfl rfl ⟨trivial, trivial⟩ ⟨rfl, trivial⟩ rfl ⟨⟨⟨le_own2 (by rfl) (by (rw [numF_big (by omega) (by have := @shr_zero n k (by omega) (by omega); omega)] <;> rfl)), rfl⟩, trivial⟩, ⟨⟨_, rfl, .inl (ob_bs (by ((try dsimp only); ((rw [numF_big (by omega) (by have := @shr_zero n k (by omega) (by omega); omega)] <;> rfl)))) (by ((try dsimp only); ((rw [numF_big (by omega) (by have := @shr_zero n k (by omega) (by omega); omega)] <;> rfl))))), trivial⟩, trivial⟩⟩
     ·have h16 := of_decide_eq_true (bnF h16)
      refine HT.skip ?_
      exact ⟨by omega, ⟨⟨⟨.refl _, trivial⟩, ⟨.refl _, trivial⟩, trivial⟩, trivial⟩⟩
    ·have h15 := of_decide_eq_false h15
     refine So.gn (b := false) rfl rfl rfl (lk rfl) (lk rfl) (So.gn (b := false) rfl rfl rfl (lk rfl) (lk rfl) (So.gn (b := false) rfl rfl rfl (lk rfl) (lk rfl) (So.gn (b := false) rfl rfl rfl (lk rfl) (lk rfl) (So.gy rfl rfl (lk rfl) (lk rfl) (A.v rfl (V.pkFalse (u := .p (.v (.bool false))) rfl rfl (So.q rfl rfl (V.pkFalse (u := .p (.v (.bool false))) rfl rfl (So.e ?_)))))))))
     show HT _ _ _ _ _
     refine R.condF rfl ?_
     refine HT.skip ?_
     exact ⟨by omega, ⟨⟨⟨.refl _, trivial⟩, ⟨.refl _, trivial⟩, trivial⟩, trivial⟩⟩
   ·have h14 := of_decide_eq_true h14
    refine So.gn (b := true) rfl rfl rfl (lk rfl) (lk rfl) (So.gn (b := true) rfl rfl rfl (lk rfl) (lk rfl) ?_)
    refine So.gu rfl rfl (lk rfl) ?_
    refine So.gu rfl rfl (lk rfl) ?_
    refine So.gu rfl rfl (lk rfl) ?_
    refine So.gu rfl rfl (lk rfl) ?_
    refine So.gu rfl rfl (lk rfl) ?_
    refine So.gn (b := true) rfl rfl rfl (lk rfl) (lk rfl) (So.q rfl rfl (V.pkTrue (u := .p (.v (.bool true))) rfl rfl (So.e ?_)))
    show HT _ _ _ _ _
    refine R.condT rfl ?_
    refine HT.seq (HT.region S_rnum_ok (So.q rfl rfl (V.as (v := .p (.v (.slice none 0 0))) rfl (So.e ?_))))
    show HT _ _ _ _ _
    refine R.phan 4 1 5 1 (.bs []) rfl rfl rfl ⟨rfl, rfl⟩ ?_
    refine HT.ret ?_
    exact ret_ok (sg [(1, 1)]) h rfl rfl rfl ⟨trivial, trivial⟩ ⟨rfl, trivial⟩ rfl ⟨⟨⟨le_own2 (by rfl) (by (rw [numF_bad (by omega)] <;> rfl)), rfl⟩, trivial⟩, ⟨⟨_, rfl, .inl (ob_bs (by ((try dsimp only); ((rw [numF_bad (by omega)] <;> rfl)))) (by ((try dsimp only); ((rw [numF_bad (by omega)] <;> rfl))))), trivial⟩, trivial⟩⟩
 ·refine HT.seq ?_
  refine HT.region S_rnum_ok (So.q rfl rfl (V.as (v := .p (.v (.slice none 0 0))) rfl (So.e (HT.seq (HT.seq (HT.region S_rnum_ok (So.q rfl rfl (V.mv (v := .p (.v (.int .i64 _))) rfl (So.q rfl rfl (V.subI rfl rfl (by omega) (So.q rfl rfl (V.as (v := .p (.v (.int .i64 _))) rfl (So.e ?_)))))))))))))
  show HT _ _ _ _ _
  refine HT.block ?_
  refine R.phan 5 1 5 1 (.bs []) rfl rfl rfl ⟨rfl, rfl⟩ ?_
  refine R.loop (σ := Nat) (fun s => [(5, .own 1 0 (s)), (6, .p (.v (.int .i64 (k - 1 - (s : Int)))))]) (fun s => [(1, ⟨5, 1, s, true, .bs ((numB n k.toNat).take s)⟩)]) [0] [] (fun s => s ≤ k.toNat) (fun s => k.toNat - s) (0) (fr0 := [(0, .p (.v (.int .i64 _)))]) (O0 := []) rfl rfl (by omega) ⟨⟨⟨le_own2 (by rfl) (by rfl), rfl⟩, ⟨le_int (by omega), trivial⟩, ⟨.refl _, trivial⟩, trivial⟩, ⟨⟨_, rfl, .inl (ob_bs (by rfl) (by rfl)), trivial⟩, trivial⟩⟩ (fun s hP0 => ?_)
  refine HT.seq (HT.seq (HT.region S_rnum_ok (So.q rfl rfl (V.mv (v := .p (.v (.int .i64 _))) rfl (So.q rfl rfl (V.bin (a := .v (.int .i64 _)) (b := .v (.int .i64 0)) (r := .v (.bool _)) rfl rfl rfl trivial (So.e ?_)))))))
  show HT _ _ _ _ _
  refine R.cond rfl rfl (fun h17 => ?_) (fun h17 => ?_)
  ·have h17 := of_decide_eq_true h17
   refine HT.skip (HT.seq (HT.block (HT.region S_rnum_ok (So.q rfl rfl (V.mv (v := .own 1 0 _) rfl (So.q rfl rfl (V.mv (v := .p (.v (.int .i64 _))) rfl (So.q rfl rfl (V.mv (v := .p (.v (.int .i64 _))) rfl (So.q rfl rfl (V.mulI rfl rfl (by omega) (So.q rfl rfl (V.bin (a := .v (.int .i64 _)) (b := .v (.int .i64 _)) (r := .v (.int .i64 _)) rfl rfl rfl (by omega) (So.q rfl rfl (V.cvN ty5 ty2 (a := .v (.int .i64 _)) (r := .u8 _) rfl rfl ?_)))))))))))))))
   refine So.n (lk rfl) (A.bsl 2 ty22 ty5 rfl (lk rfl) (lk rfl) (fun _ => rfl) rfl rfl trivial ⟨trivial, trivial⟩ rfl (N := 1) rfl (c := .bs [_]) rfl (So.n (lk rfl) (A.apOwn ty22 ty5 rfl rfl rfl rfl (u := .own 2 0 _) rfl rfl rfl rfl (by omega) rfl rfl rfl (So.q rfl rfl (V.as (v := .own 1 0 _) rfl (So.e (HT.region S_rnum_ok (So.q rfl rfl (V.mv (v := .p (.v (.int .i64 _))) rfl (So.q rfl rfl (V.subI rfl rfl (by omega) (So.q rfl rfl (V.as (v := .p (.v (.int .i64 _))) rfl (So.e ?_))))))))))))))
   refine ⟨s + 1, by omega, by omega, ⟨⟨⟨le_own2 (by rfl) (by rfl), rfl⟩, ⟨le_int (by omega), trivial⟩, ⟨.refl _, trivial⟩, trivial⟩, ⟨⟨_, rfl, .inl (ob_bs (by rfl) (by ((try dsimp only); ((try dsimp only); rw [List.drop_zero, List.take_of_length_le (by simp; omega), ← numB_take (by omega) (by omega), show (8 * (k - 1 - (s : Int))).toNat = 8 * (k.toNat - 1 - s) from by omega]; rfl)))), trivial⟩, trivial⟩⟩⟩
  ·have h17 := of_decide_eq_false h17
   refine HT.exit ?_
   show HT _ _ _ _ _
   refine HT.seq (HT.region S_rnum_ok (So.q rfl rfl (V.mv (v := .own 1 0 _) rfl (So.q rfl rfl (V.as (v := .own 1 0 _) rfl (So.e ?_))))))
   show HT _ _ _ _ _
   refine HT.ret ?_
   exact ret_ok (sg [(1, 1)]) h rfl rfl rfl ⟨trivial, trivial⟩ ⟨rfl, trivial⟩ rfl ⟨⟨⟨le_own2 (by rfl) (by (rw [numF_ok (by omega) (by omega) (by rintro ⟨h8, h9⟩; have := @shr_zero n k (by omega) (by omega); omega), numB_len]; omega)), rfl⟩, trivial⟩, ⟨⟨_, rfl, .inl (ob_bs (by ((try dsimp only); ((rw [numF_ok (by omega) (by omega) (by rintro ⟨h8, h9⟩; have := @shr_zero n k (by omega) (by omega); omega), numB_len]; omega)))) (by ((try dsimp only); ((rw [numF_ok (by omega) (by omega) (by rintro ⟨h8, h9⟩; have := @shr_zero n k (by omega) (by omega); omega), List.take_of_length_le (by rw [numB_len]; omega)]))))), trivial⟩, trivial⟩⟩
def dnextSp : Sp := ⟨[], mkE (α := Int × (List UInt8) × KL) (fun (g, s, K) => [.agg 3 (fun j => ([.v (.int .i64 g), .bs s, .sl (K).length 2 (kR K)] : List PV).getD j (.v undef))]) (fun (g, s, K) => []) (fun (g, s, K) => K.length ≤ 1000000) (fun (g, s, K) => [.agg 3 (fun j => ([.v (.int .i64 ((nxR g s K).g)), .bs ((nxR g s K).s), .sl ((nxR g s K).K).length 2 (kR ((nxR g s K).K))] : List PV).getD j (.v undef)), .p (.v (.int .i64 (nxG g s K))), .p (.bs ((nxR g s K).b)), .p (.v (.int .i64 ((nxR g s K).e)))]) (fun (g, s, K) => [])⟩
def S_dnext : FuncId → Option Sp := fun f => if f = 17 then some drightSp else if f = 33 then some rnumSp else if f = 32 then some rlabelSp else none
theorem S_dnext_ok : ∀ f s, S_dnext f = some s → FOK Tryd.prog gl f s := fun f s h => by
 unfold S_dnext at h
 split at h
 ·rename_i e; cases h; subst e; exact dright_ok
 split at h
 ·rename_i e; cases h; subst e; exact rnum_ok
 split at h
 ·rename_i e; cases h; subst e; exact rlabel_ok
 cases h
theorem S_dnext_det : ∀ f s, S_dnext f = some s → SpDet s.sp := fun f s h => by
 unfold S_dnext at h
 split at h
 ·cases h; exact mkE_det _ _ _ _ _
 split at h
 ·cases h; exact mkE_det _ _ _ _ _
 split at h
 ·cases h; exact mkE_det _ _ _ _ _
 cases h
set_option maxHeartbeats 1000000 in
set_option maxRecDepth 20000 in
theorem dnext_ok : FOK Tryd.prog gl 19 dnextSp := by
 refine FOK.ofEC (tyOf_ok Tryd.prog) (rvs := [.cell 2 26, .tmp 3, .tmp 4, .tmp 5]) (nt := 42) Tryd.func19 rfl rfl rfl rfl (by decide) 1 (fun ⟨_, _, _⟩ => rfl) (by decide) (fun ⟨_, _, _⟩ => ⟨trivial, trivial⟩) ?_
 rintro ⟨g, s, K⟩ kk hlen hpre h
 replace hpre : K.length ≤ 1000000 := hpre
 show HT (cx Tryd.prog 42 (tyOf Tryd.prog) gl []) _ [(0, .agg 3 (fun j => ([.v (.int .i64 g), .bs s, .sl (K).length 2 (kR K)] : List PV).getD j (.v undef)))] [] _
 refine HT.seq (HT.region S_dnext_ok (So.n (lk rfl) (A.boxAg 1 1 (n := 3) rfl (by intro j hj; (match j, hj with | 0, _ => (trivial) | 1, _ => (trivial) | 2, _ => (trivial))) rfl trivial (So.n (lk rfl) (A.alloc 2 1 ty26 rfl trivial (f := fun j => ([.v (.int .i64 0), .v (.slice none 0 0), .v (.slice none 0 0)] : List PV).getD j (.v undef)) (fun j hj => by match j, hj with | 0, _ => rfl | 1, _ => rfl | 2, _ => rfl) (So.q rfl rfl (V.as (v := .p (.v (.int .i64 0))) rfl (So.q rfl rfl (V.as (v := .p (.v (.slice none 0 0))) rfl (So.q rfl rfl (V.as (v := .p (.v (.int .i64 0))) rfl (So.e (HT.seq (HT.region S_dnext_ok ?_))))))))))))))
 refine So.q rfl rfl (V.ldPtrA ty26 rfl rfl rfl rfl (lk rfl) ?_)
 refine So.n (lk rfl) (A.call0 [.agg 3 _] 3 rfl rfl rfl rfl ⟨trivial, trivial⟩ trivial (g, s, K) ⟨le_agg (fun j hj => by match j, hj with | 0, _ => rfl | 1, _ => rfl | 2, _ => rfl), trivial⟩ trivial (by omega) (Φ := fun _ => True) (fun _ _ => trivial) (.inl rfl) (v := .p (.v (.bool _))) rfl (O' := _) rfl (fun h1 => ?_))
 refine So.q rfl rfl (V.as (v := .p (.v (.bool _))) rfl (So.e (HT.seq (HT.seq (HT.region S_dnext_ok (So.q rfl rfl (V.mv (v := .p (.v (.bool _))) rfl (So.q rfl rfl (V.not rfl (So.e ?_))))))))))
 show HT _ _ _ _ _
 refine R.cond rfl rfl (fun h2 => ?_) (fun h2 => ?_)
 ·have h2 := of_decide_eq_false (bnT h2)
  refine HT.seq (HT.region S_dnext_ok (So.n (lk rfl) (A.bldS ty26 rfl rfl trivial rfl (f := fun j => ([.v (.int .i64 0), .v (.slice none 0 0), .v (.slice none 0 0)] : List PV).getD j (.v undef)) (by exact allP_spec (P := fun j => _ = _) ⟨⟨⟨trivial, rfl⟩, rfl⟩, rfl⟩) (So.s (A.stoAg ty26 rfl (n := 3) rfl (by decide) (by intro j hj; (match j, hj with | 0, _ => (trivial) | 1, _ => (trivial) | 2, _ => (trivial))) rfl rfl rfl (So.q rfl rfl (V.as (v := .p (.v (.int .i64 0))) rfl (So.q rfl rfl (V.as (v := .p (.v (.slice none 0 0))) rfl (So.q rfl rfl (V.as (v := .p (.v (.int .i64 1))) rfl (So.e ?_))))))))))))
  show HT _ _ _ _ _
  refine HT.ret ?_
  have hR := nx_1 (g := g) (s := s) (K := K) (by assumption)
  exact retC_ok (sg []) [(2, .ptr 2 0), (3, .p (.v (.int .i64 (nxG g s K)))), (4, .p (.bs ((nxR g s K).b))), (5, .p (.v (.int .i64 ((nxR g s K).e))))] [(2, ⟨26, 1, 3, true, .rows (fun j => ([.v (.int .i64 ((nxR g s K).g)), .bs ((nxR g s K).s), .sl ((nxR g s K).K).length 2 (kR ((nxR g s K).K))] : List PV).getD j (.v undef))⟩)] h ⟨⟨⟨.refl _, rfl⟩, ⟨le_int (by (rw [hR.2]; done)), trivial⟩, ⟨le_nil (by (rw [hR.1]; done)), trivial⟩, ⟨le_int (by (rw [hR.1]; done)), trivial⟩, trivial⟩, ⟨⟨_, rfl, .inr (ob_rowsL (by intro j hj; match j, hj with | 0, _ => (exact le_int (by rw [hR.1]; done)) | 1, _ => (exact le_nil (by rw [hR.1]; done)) | 2, _ => (exact le_nilSl (by rw [hR.1]; rfl)))), trivial⟩, trivial⟩⟩ ⟨rvA_cell ty26 rfl rfl rfl rfl (Nat.le_refl _) (le_agg (fun j _ => by (dsimp only; rw [Nat.zero_add]))), .refl _, .refl _, .refl _, trivial⟩ trivial rfl trivial ⟨trivial, trivial, trivial, trivial, trivial⟩ rfl
 ·have h2 := of_decide_eq_true (bnF h2)
  refine HT.skip (HT.seq (HT.seq (HT.region S_dnext_ok (So.q rfl rfl (V.faPtr ty26 rfl ty2 (lk rfl) rfl rfl (lk rfl) (So.q rfl rfl (V.ldPtr ty2 rfl rfl rfl (lk rfl) (v := .p (.v (.int .i64 _))) rfl (So.q rfl rfl (V.bin (a := .v (.int .i64 _)) (b := .v (.int .i64 1073741824)) (r := .v (.bool _)) rfl rfl rfl trivial (So.e ?_))))))))))
  show HT _ _ _ _ _
  refine R.cond rfl rfl (fun h3 => ?_) (fun h3 => ?_)
  ·have h3 := of_decide_eq_true h3
   refine HT.seq (HT.region S_dnext_ok (So.n (lk rfl) (A.bldS ty26 rfl rfl trivial rfl (f := fun j => ([.v (.int .i64 0), .v (.slice none 0 0), .v (.slice none 0 0)] : List PV).getD j (.v undef)) (by exact allP_spec (P := fun j => _ = _) ⟨⟨⟨trivial, rfl⟩, rfl⟩, rfl⟩) (So.s (A.stoAg ty26 rfl (n := 3) rfl (by decide) (by intro j hj; (match j, hj with | 0, _ => (trivial) | 1, _ => (trivial) | 2, _ => (trivial))) rfl rfl rfl (So.q rfl rfl (V.as (v := .p (.v (.int .i64 0))) rfl (So.q rfl rfl (V.as (v := .p (.v (.slice none 0 0))) rfl (So.q rfl rfl (V.as (v := .p (.v (.int .i64 2))) rfl (So.e ?_))))))))))))
   show HT _ _ _ _ _
   refine HT.ret ?_
   have hR := nx_2 (g := g) (s := s) (K := K) (by assumption) (by omega)
   exact retC_ok (sg []) [(2, .ptr 2 0), (3, .p (.v (.int .i64 (nxG g s K)))), (4, .p (.bs ((nxR g s K).b))), (5, .p (.v (.int .i64 ((nxR g s K).e))))] [(2, ⟨26, 1, 3, true, .rows (fun j => ([.v (.int .i64 ((nxR g s K).g)), .bs ((nxR g s K).s), .sl ((nxR g s K).K).length 2 (kR ((nxR g s K).K))] : List PV).getD j (.v undef))⟩)] h ⟨⟨⟨.refl _, rfl⟩, ⟨le_int (by (rw [hR.2]; done)), trivial⟩, ⟨le_nil (by (rw [hR.1]; done)), trivial⟩, ⟨le_int (by (rw [hR.1]; done)), trivial⟩, trivial⟩, ⟨⟨_, rfl, .inr (ob_rowsL (by intro j hj; match j, hj with | 0, _ => (exact le_int (by rw [hR.1]; done)) | 1, _ => (exact le_nil (by rw [hR.1]; done)) | 2, _ => (exact le_nilSl (by rw [hR.1]; rfl)))), trivial⟩, trivial⟩⟩ ⟨rvA_cell ty26 rfl rfl rfl rfl (Nat.le_refl _) (le_agg (fun j _ => by (dsimp only; rw [Nat.zero_add]))), .refl _, .refl _, .refl _, trivial⟩ trivial rfl trivial ⟨trivial, trivial, trivial, trivial, trivial⟩ rfl
  ·have h3 := of_decide_eq_false h3
   refine HT.skip (HT.seq (HT.region S_dnext_ok ?_))
   have hrt : rightR g s K := by assumption
   obtain ⟨hq1, hq2, hq3, hq4, hq5⟩ := id hrt
   refine So.q rfl rfl (V.faPtr ty26 rfl ty2 (lk rfl) rfl rfl (lk rfl) (So.q rfl rfl (V.ldPtr ty2 rfl rfl rfl (lk rfl) (v := .p (.v (.int .i64 _))) rfl ?_)))
   refine So.n (lk rfl) (A.call0F S_dnext_ok [.p (.v (.int .i64 _)), .p (.v (.int .i64 _))] 3 rfl rfl rfl rfl ⟨trivial, trivial, trivial⟩ trivial (_, _) ⟨.refl _, .refl _, trivial⟩ trivial (by trivial) (Φ := fun (n, k) => (numF n k).length ≤ 8) (fun _ _ => numF_len _ _) (.inl rfl) (t := 4) (off := 0) rfl (O' := (4, ⟨5, 1, _, true, .bs _⟩) :: _) rfl rfl rfl (y := .p (.bs _)) rfl rfl (fun h4 => ?_))
   try dsimp only at h4
   refine So.q rfl rfl (V.as (v := .p (.bs _)) rfl (So.e (HT.seq (HT.region S_dnext_ok (So.q rfl rfl (V.faPtr ty26 rfl ty22 (lk rfl) rfl rfl (lk rfl) (So.q rfl rfl (V.ldPtr ty22 rfl rfl rfl (lk rfl) (v := .p (.bs _)) rfl (So.q rfl rfl (V.mv (v := .p (.bs _)) rfl ?_))))))))))
   refine So.n (lk rfl) (A.call0F S_dnext_ok [.p (.bs _), .p (.str _), .p (.bs _), .p (.v (.int .i64 _))] 3 rfl rfl rfl rfl ⟨trivial, trivial, trivial, trivial, trivial⟩ trivial (s, nKey, numF g 4, 32) ⟨.refl _, .refl _, le_bs (by exact take_full _), .refl _, trivial⟩ trivial (by omega) (Φ := fun _ => True) (fun _ _ => trivial) (.inl rfl) (t := 5) (off := 0) rfl (O' := (5, ⟨5, 1, _, true, .bs _⟩) :: _) rfl rfl rfl (y := .p (.bs _)) rfl rfl (fun h5 => ?_))
   refine So.q rfl rfl (V.as (v := .p (.bs _)) rfl (So.e (HT.seq ?_)))
   refine HT.planTS S_dnext_ok S_dnext_det mixed (.stage [0, 1, 2, 3, 4, 5, 6, 8, 9] (.br 7 [0, 1, 2, 3, 4, 5, 6, 8, 9] (.stage [0, 1, 2, 3, 4, 5, 6, 8, 9] (.br 10 [0, 1, 2] (.stage [0, 1, 2] (.br 11 [] (.stage [] (.br 12 [] (.stage [] (.br 13 [] (.leaf []) .no)) .no)) (.br 12 [0, 1, 2] (.stage [0, 1, 2] (.br 11 [] (.stage [] (.br 13 [] (.leaf []) .no)) .no)) .no))) (.br 12 [0, 1, 2, 3, 4, 5, 6, 8, 9] (.stage [0, 1, 2, 3, 4, 5, 6, 8, 9] (.br 10 [0, 1, 2] (.stage [0, 1, 2] (.br 11 [] (.stage [] (.br 13 [] (.leaf []) .no)) .no)) .no)) .no))) (.br 12 [0, 1, 2, 3, 4, 5, 6, 8, 9] (.stage [0, 1, 2, 3, 4, 5, 6, 8, 9] (.br 7 [0, 1, 2, 3, 4, 5, 6, 8, 9] (.stage [0, 1, 2, 3, 4, 5, 6, 8, 9] (.br 10 [0, 1, 2] (.stage [0, 1, 2] (.br 11 [] (.stage [] (.br 13 [] (.leaf []) .no)) .no)) .no)) .no)) .no))) (by kernel_rfl) ?_
   refine Pt.st ?_
   refine Si.n rfl (lk rfl) (V.faPtr ty26 rfl ty2 (lk rfl) rfl rfl (lk rfl) (Si.n rfl (lk rfl) (V.ldPtr ty2 rfl rfl rfl (lk rfl) (v := .p (.v (.int .i64 _))) rfl (Si.n rfl (lk rfl) (V.addI rfl rfl (by omega) (Si.n rfl (lk rfl) (V.faPtr ty26 rfl ty22 (lk rfl) rfl rfl (lk rfl) (Si.n rfl (lk rfl) (V.ldPtr ty22 rfl rfl rfl (lk rfl) (v := .p (.bs _)) rfl (Si.n rfl (lk rfl) (V.mv (v := .p (.bs _)) rfl ?_)))))))))))
   refine Si.n rfl (lk rfl) (V.call [.p (.bs _), .p (.str _), .p (.bs _), .p (.v (.int .i64 _))] 3 rfl rfl rfl rfl ⟨trivial, trivial, trivial, trivial, trivial⟩ trivial (s, nNext, numF g 4, 32) ⟨.refl _, .refl _, le_bs (by exact take_full _), .refl _, trivial⟩ trivial (by omega) (Φ := fun _ => True) (fun _ _ => trivial) (.inl ⟨trivial, trivial, trivial, trivial, trivial⟩) (v := .p (.bs _)) rfl (fun h6 => ?_))
   refine Si.n rfl (lk rfl) (V.faPtr ty26 rfl ty24 (lk rfl) rfl rfl (lk rfl) (Si.n rfl (lk rfl) (V.ldPtr ty24 rfl rfl rfl (lk rfl) (v := .p (.sl _ 2 _)) rfl (Si.e ?_))))
   refine ⟨flEq_nil, ?_⟩
   refine Pt.bk (fun ff => ?_) ?_
   ·refine Lo.n rfl (lk rfl) (A.bsl 3 ty24 ty35 rfl (lk rfl) (lk rfl) (fun h => Bool.noConfusion (show false = true from h)) rfl rfl trivial trivial rfl (N := 0) rfl (c := .rows _) rfl ?_)
    refine ⟨_, fun ff => ff, ap0d, rfl, FG.id, ?_⟩
    show planT _ _ _ _ [(0, .ptr 1 0), (1, .p (.v (.int .i64 _))), (2, .p (.v (.int .i64 _))), (3, .ptr 1 1), (4, .p (.bs _)), (5, .p (.bs _)), (6, .p (.bs _)), (8, .ptr 1 2), (9, .p (.sl _ 2 _))] _ _ _
    refine Pt.st ?_
    refine Si.n rfl (lk rfl) (V.faPtr ty26 rfl ty2 (lk rfl) rfl rfl (lk rfl) (Si.n rfl (lk rfl) (V.ldPtr ty2 rfl rfl rfl (lk rfl) (v := .p (.v (.int .i64 _))) rfl (Si.n rfl (lk rfl) (V.addI rfl rfl (by omega) (Si.n rfl (lk rfl) (V.faPtr ty26 rfl ty22 (lk rfl) rfl rfl (lk rfl) (Si.n rfl (lk rfl) (V.ldPtr ty22 rfl rfl rfl (lk rfl) (v := .p (.bs _)) rfl (Si.n rfl (lk rfl) (V.mv (v := .p (.bs _)) rfl ?_)))))))))))
    refine Si.n rfl (lk rfl) (V.call [.p (.bs _), .p (.str _), .p (.bs _), .p (.v (.int .i64 _))] 4 rfl rfl rfl rfl ⟨trivial, trivial, trivial, trivial, trivial⟩ trivial (s, nNext, numF g 4, 32) ⟨.refl _, .refl _, le_bs (by exact take_full _), .refl _, trivial⟩ trivial (by omega) (Φ := fun _ => True) (fun _ _ => trivial) (.inl ⟨trivial, trivial, trivial, trivial, trivial⟩) (v := .p (.bs _)) rfl (fun h7 => ?_))
    refine Si.n rfl (lk rfl) (V.faPtr ty26 rfl ty24 (lk rfl) rfl rfl (lk rfl) (Si.n rfl (lk rfl) (V.ldPtr ty24 rfl rfl rfl (lk rfl) (v := .p (.sl _ 2 _)) rfl (Si.e ?_))))
    refine ⟨(flEq_cons rfl (flEq_cons rfl (flEq_cons rfl (flEq_cons rfl (flEq_cons rfl (flEq_cons rfl (flEq_cons rfl (flEq_cons rfl (flEq_cons rfl flEq_nil))))))))), ?_⟩
    refine Pt.bk (fun ff => ?_) ?_
    ·refine Lo.n rfl (lk rfl) (A.apRows ty24 ty35 rfl rfl rfl (lk rfl) (lk rfl) rfl rfl (u := .p (.sl _ 2 _)) rfl rfl (by exact fun j _ => kR_oneP K j) rfl (by (simp; omega)) rfl rfl rfl ?_)
     refine ⟨_, fun ff => Fr.kill 3 ff, ap1d, rfl, (FG.kill 3 (flP_cons rfl (flP_cons rfl (flP_cons rfl flP_nil)))), ?_⟩
     show planT _ _ _ _ [(0, .ptr 1 0), (1, .p (.v (.int .i64 _))), (2, .p (.v (.int .i64 _)))] _ _ _
     refine Pt.st ?_
     refine Si.n rfl (lk rfl) (V.faPtr ty26 rfl ty2 (lk rfl) rfl rfl (lk rfl) (Si.n rfl (lk rfl) (V.ldPtr ty2 rfl rfl rfl (lk rfl) (v := .p (.v (.int .i64 _))) rfl (Si.n rfl (lk rfl) (V.addI rfl rfl (by omega) (Si.e ?_))))))
     refine ⟨(flEq_cons rfl (flEq_cons rfl (flEq_cons rfl flEq_nil))), ?_⟩
     refine Pt.b0 ?_ ?_
     ·refine Lo.n rfl (lk rfl) (A.bldS ty26 rfl rfl ⟨by exact rfl, by exact trivial, by exact trivial, trivial⟩ rfl (f := fun j => ([.v (.int .i64 (g + 1)), .bs (nxtF g s), .sl K.length 2 (kR K)] : List PV).getD j (.v undef)) (by exact allP_spec (P := fun j => _ = _) ⟨⟨⟨trivial, rfl⟩, (congrArg (fun x => BV.p (PV.bs x)) (take_full (nxtF g s)))⟩, (show BV.p (PV.sl (0 + K.length) 2 (fun j => if 0 + j < 0 * 2 then ([] : List PV).getD (0 + (0 + j)) (.v undef) else kR K (0 + j - 0 * 2))) = _ from kept_frz K)⟩) ?_)
      refine Pt.st ?_
      refine Si.e ?_
      refine ⟨flEq_nil, ?_⟩
      refine Pt.b0 ?_ ?_
      ·refine Lo.n rfl (lk rfl) (A.alloc 3 1 ty26 rfl trivial (f := fun j => ([.v (.int .i64 0), .v (.slice none 0 0), .v (.slice none 0 0)] : List PV).getD j (.v undef)) (fun j hj => by match j, hj with | 0, _ => rfl | 1, _ => rfl | 2, _ => rfl) ?_)
       refine Pt.st ?_
       refine Si.e ?_
       refine ⟨flEq_nil, ?_⟩
       refine Pt.b0 ?_ ?_
       ·refine Lo.s rfl (A.stoAg ty26 rfl (n := 3) rfl (by decide) (by intro j hj; (match j, hj with | 0, _ => (trivial) | 1, _ => (trivial) | 2, _ => (trivial))) rfl rfl rfl ?_)
        refine Pt.e ?_
        refine Si.e ?_
        refine ⟨flEq_nil, ?_⟩
        show HT _ _ _ _ _
        refine HT.seq ?_
        refine HT.planS S_dnext_ok S_dnext_det mixed [1, 2, 3, 5, 6, 7] [⟨[0, 1, 2, 3], 4, [1, 2, 3]⟩] (by kernel_rfl) ?_
        refine Pl.lk ?_
        refine Si.n rfl (lk rfl) (V.ldPtrA ty26 rfl rfl rfl rfl (lk rfl) (Si.n rfl (lk rfl) (V.faPtr ty26 rfl ty2 (lk rfl) rfl rfl (lk rfl) (Si.n rfl (lk rfl) (V.ldPtr ty2 rfl rfl rfl (lk rfl) (v := .p (.v (.int .i64 _))) rfl (Si.n rfl (lk rfl) (V.mv (v := .p (.bs _)) rfl (Si.e ?_))))))))
        refine ⟨flEq_nil, fun ff => ?_⟩
        refine Lo.s rfl (A.stoAg ty26 rfl (n := 3) rfl (by decide) (by intro j hj; (match j, hj with | 0, _ => (trivial) | 1, _ => (trivial) | 2, _ => (trivial))) rfl rfl rfl ?_)
        refine ⟨_, fun ff => ff, ap0, rfl, FG.id, ?_⟩
        show planA _ _ _ _ _ [(1, .ptr 1 0), (2, .p (.v (.int .i64 _))), (3, .p (.bs _))] _ _ _
        refine Pl.e ?_
        refine Si.n rfl (lk rfl) (V.faPtr ty26 rfl ty2 (lk rfl) rfl rfl (lk rfl) (Si.n rfl (lk rfl) (V.ldPtr ty2 rfl rfl rfl (lk rfl) (v := .p (.v (.int .i64 _))) rfl (Si.n rfl (lk rfl) (V.mv (v := .p (.bs _)) rfl (Si.n rfl (lk rfl) (V.as (v := .p (.v (.int .i64 _))) rfl (Si.n rfl (lk rfl) (V.as (v := .p (.bs _)) rfl (Si.n rfl (lk rfl) (V.as (v := .p (.v (.int .i64 0))) rfl (Si.e ?_))))))))))))
        refine ⟨(flEq_cons rfl (flEq_cons rfl (flEq_cons rfl flEq_nil))), ?_⟩
        show HT _ _ _ _ _
        refine HT.ret ?_
        have hR := nx_3 (g := g) (s := s) (K := K) (by assumption) (by omega)
        exact retC_ok (sg []) [(2, .ptr 2 0), (3, .p (.v (.int .i64 (nxG g s K)))), (4, .p (.bs ((nxR g s K).b))), (5, .p (.v (.int .i64 ((nxR g s K).e))))] [(2, ⟨26, 1, 3, true, .rows (fun j => ([.v (.int .i64 ((nxR g s K).g)), .bs ((nxR g s K).s), .sl ((nxR g s K).K).length 2 (kR ((nxR g s K).K))] : List PV).getD j (.v undef))⟩)] h ⟨⟨⟨.refl _, rfl⟩, ⟨le_int (by (rw [hR.2]; done)), trivial⟩, ⟨le_bs (by (rw [hR.1]; exact take_full _)), trivial⟩, ⟨le_int (by (rw [hR.1]; done)), trivial⟩, trivial⟩, ⟨⟨_, rfl, .inr (ob_rowsL (by intro j hj; match j, hj with | 0, _ => (exact le_int (by rw [hR.1]; done)) | 1, _ => (exact le_bs (by rw [hR.1]; done)) | 2, _ => (exact le_sl (by rw [hR.1]; done) (by rw [hR.1]; intro j hj; rfl)))), trivial⟩, trivial⟩⟩ ⟨rvA_cell ty26 rfl rfl rfl rfl (Nat.le_refl _) (le_agg (fun j _ => by (dsimp only; rw [Nat.zero_add]))), .refl _, .refl _, .refl _, trivial⟩ trivial rfl trivial ⟨trivial, trivial, trivial, trivial, trivial⟩ rfl
       ·exact Pt.no
      ·exact Pt.no
     ·refine Pt.bk (fun ff => ?_) ?_
      ·refine Lo.n rfl (lk rfl) (A.alloc 4 1 ty26 rfl trivial (f := fun j => ([.v (.int .i64 0), .v (.slice none 0 0), .v (.slice none 0 0)] : List PV).getD j (.v undef)) (fun j hj => by match j, hj with | 0, _ => rfl | 1, _ => rfl | 2, _ => rfl) ?_)
       refine ⟨_, fun ff => ff, ap0d, rfl, FG.id, ?_⟩
       show planT _ _ _ _ [(0, .ptr 1 0), (1, .p (.v (.int .i64 _))), (2, .p (.v (.int .i64 _)))] _ _ _
       refine Pt.st ?_
       refine Si.n rfl (lk rfl) (V.faPtr ty26 rfl ty2 (lk rfl) rfl rfl (lk rfl) (Si.n rfl (lk rfl) (V.ldPtr ty2 rfl rfl rfl (lk rfl) (v := .p (.v (.int .i64 _))) rfl (Si.n rfl (lk rfl) (V.addI rfl rfl (by omega) (Si.e ?_))))))
       refine ⟨(flEq_cons rfl (flEq_cons rfl (flEq_cons rfl flEq_nil))), ?_⟩
       refine Pt.b0 ?_ ?_
       ·refine Lo.n rfl (lk rfl) (A.bldS ty26 rfl rfl ⟨by exact rfl, by exact trivial, by exact trivial, trivial⟩ rfl (f := fun j => ([.v (.int .i64 (g + 1)), .bs (nxtF g s), .sl K.length 2 (kR K)] : List PV).getD j (.v undef)) (by exact allP_spec (P := fun j => _ = _) ⟨⟨⟨trivial, rfl⟩, (congrArg (fun x => BV.p (PV.bs x)) (take_full (nxtF g s)))⟩, (show BV.p (PV.sl (0 + K.length) 2 (fun j => if 0 + j < 0 * 2 then ([] : List PV).getD (0 + (0 + j)) (.v undef) else kR K (0 + j - 0 * 2))) = _ from kept_frz K)⟩) ?_)
        refine Pt.st ?_
        refine Si.e ?_
        refine ⟨flEq_nil, ?_⟩
        refine Pt.b0 ?_ ?_
        ·refine Lo.s rfl (A.stoAg ty26 rfl (n := 3) rfl (by decide) (by intro j hj; (match j, hj with | 0, _ => (trivial) | 1, _ => (trivial) | 2, _ => (trivial))) rfl rfl rfl ?_)
         refine Pt.e ?_
         refine Si.e ?_
         refine ⟨flEq_nil, ?_⟩
         show HT _ _ _ _ _
         refine HT.seq ?_
         refine HT.planS S_dnext_ok S_dnext_det mixed [1, 2, 3, 5, 6, 7] [⟨[0, 1, 2, 3], 4, [1, 2, 3]⟩] (by kernel_rfl) ?_
         refine Pl.lk ?_
         refine Si.n rfl (lk rfl) (V.ldPtrA ty26 rfl rfl rfl rfl (lk rfl) (Si.n rfl (lk rfl) (V.faPtr ty26 rfl ty2 (lk rfl) rfl rfl (lk rfl) (Si.n rfl (lk rfl) (V.ldPtr ty2 rfl rfl rfl (lk rfl) (v := .p (.v (.int .i64 _))) rfl (Si.n rfl (lk rfl) (V.mv (v := .p (.bs _)) rfl (Si.e ?_))))))))
         refine ⟨flEq_nil, fun ff => ?_⟩
         refine Lo.s rfl (A.stoAg ty26 rfl (n := 3) rfl (by decide) (by intro j hj; (match j, hj with | 0, _ => (trivial) | 1, _ => (trivial) | 2, _ => (trivial))) rfl rfl rfl ?_)
         refine ⟨_, fun ff => ff, ap0, rfl, FG.id, ?_⟩
         show planA _ _ _ _ _ [(1, .ptr 1 0), (2, .p (.v (.int .i64 _))), (3, .p (.bs _))] _ _ _
         refine Pl.e ?_
         refine Si.n rfl (lk rfl) (V.faPtr ty26 rfl ty2 (lk rfl) rfl rfl (lk rfl) (Si.n rfl (lk rfl) (V.ldPtr ty2 rfl rfl rfl (lk rfl) (v := .p (.v (.int .i64 _))) rfl (Si.n rfl (lk rfl) (V.mv (v := .p (.bs _)) rfl (Si.n rfl (lk rfl) (V.as (v := .p (.v (.int .i64 _))) rfl (Si.n rfl (lk rfl) (V.as (v := .p (.bs _)) rfl (Si.n rfl (lk rfl) (V.as (v := .p (.v (.int .i64 0))) rfl (Si.e ?_))))))))))))
         refine ⟨(flEq_cons rfl (flEq_cons rfl (flEq_cons rfl flEq_nil))), ?_⟩
         show HT _ _ _ _ _
         refine HT.ret ?_
         have hR := nx_3 (g := g) (s := s) (K := K) (by assumption) (by omega)
         exact retC_ok (sg []) [(2, .ptr 2 0), (3, .p (.v (.int .i64 (nxG g s K)))), (4, .p (.bs ((nxR g s K).b))), (5, .p (.v (.int .i64 ((nxR g s K).e))))] [(2, ⟨26, 1, 3, true, .rows (fun j => ([.v (.int .i64 ((nxR g s K).g)), .bs ((nxR g s K).s), .sl ((nxR g s K).K).length 2 (kR ((nxR g s K).K))] : List PV).getD j (.v undef))⟩)] h ⟨⟨⟨.refl _, rfl⟩, ⟨le_int (by (rw [hR.2]; done)), trivial⟩, ⟨le_bs (by (rw [hR.1]; exact take_full _)), trivial⟩, ⟨le_int (by (rw [hR.1]; done)), trivial⟩, trivial⟩, ⟨⟨_, rfl, .inr (ob_rowsL (by intro j hj; match j, hj with | 0, _ => (exact le_int (by rw [hR.1]; done)) | 1, _ => (exact le_bs (by rw [hR.1]; done)) | 2, _ => (exact le_sl (by rw [hR.1]; done) (by rw [hR.1]; intro j hj; rfl)))), trivial⟩, trivial⟩⟩ ⟨rvA_cell ty26 rfl rfl rfl rfl (Nat.le_refl _) (le_agg (fun j _ => by (dsimp only; rw [Nat.zero_add]))), .refl _, .refl _, .refl _, trivial⟩ trivial rfl trivial ⟨trivial, trivial, trivial, trivial, trivial⟩ rfl
        ·exact Pt.no
       ·exact Pt.no
      ·exact Pt.no
    ·refine Pt.bk (fun ff => ?_) ?_
     ·refine Lo.n rfl (lk rfl) (A.alloc 4 1 ty26 rfl trivial (f := fun j => ([.v (.int .i64 0), .v (.slice none 0 0), .v (.slice none 0 0)] : List PV).getD j (.v undef)) (fun j hj => by match j, hj with | 0, _ => rfl | 1, _ => rfl | 2, _ => rfl) ?_)
      refine ⟨_, fun ff => ff, ap0d, rfl, FG.id, ?_⟩
      show planT _ _ _ _ [(0, .ptr 1 0), (1, .p (.v (.int .i64 _))), (2, .p (.v (.int .i64 _))), (3, .ptr 1 1), (4, .p (.bs _)), (5, .p (.bs _)), (6, .p (.bs _)), (8, .ptr 1 2), (9, .p (.sl _ 2 _))] _ _ _
      refine Pt.st ?_
      refine Si.n rfl (lk rfl) (V.faPtr ty26 rfl ty2 (lk rfl) rfl rfl (lk rfl) (Si.n rfl (lk rfl) (V.ldPtr ty2 rfl rfl rfl (lk rfl) (v := .p (.v (.int .i64 _))) rfl (Si.n rfl (lk rfl) (V.addI rfl rfl (by omega) (Si.n rfl (lk rfl) (V.faPtr ty26 rfl ty22 (lk rfl) rfl rfl (lk rfl) (Si.n rfl (lk rfl) (V.ldPtr ty22 rfl rfl rfl (lk rfl) (v := .p (.bs _)) rfl (Si.n rfl (lk rfl) (V.mv (v := .p (.bs _)) rfl ?_)))))))))))
      refine Si.n rfl (lk rfl) (V.call [.p (.bs _), .p (.str _), .p (.bs _), .p (.v (.int .i64 _))] 5 rfl rfl rfl rfl ⟨trivial, trivial, trivial, trivial, trivial⟩ trivial (s, nNext, numF g 4, 32) ⟨.refl _, .refl _, le_bs (by exact take_full _), .refl _, trivial⟩ trivial (by omega) (Φ := fun _ => True) (fun _ _ => trivial) (.inl ⟨trivial, trivial, trivial, trivial, trivial⟩) (v := .p (.bs _)) rfl (fun h8 => ?_))
      refine Si.n rfl (lk rfl) (V.faPtr ty26 rfl ty24 (lk rfl) rfl rfl (lk rfl) (Si.n rfl (lk rfl) (V.ldPtr ty24 rfl rfl rfl (lk rfl) (v := .p (.sl _ 2 _)) rfl (Si.e ?_))))
      refine ⟨(flEq_cons rfl (flEq_cons rfl (flEq_cons rfl (flEq_cons rfl (flEq_cons rfl (flEq_cons rfl (flEq_cons rfl (flEq_cons rfl (flEq_cons rfl flEq_nil))))))))), ?_⟩
      refine Pt.bk (fun ff => ?_) ?_
      ·refine Lo.n rfl (lk rfl) (A.apRows ty24 ty35 rfl rfl rfl (lk rfl) (lk rfl) rfl rfl (u := .p (.sl _ 2 _)) rfl rfl (by exact fun j _ => kR_oneP K j) rfl (by (simp; omega)) rfl rfl rfl ?_)
       refine ⟨_, fun ff => Fr.kill 3 ff, ap1d, rfl, (FG.kill 3 (flP_cons rfl (flP_cons rfl (flP_cons rfl flP_nil)))), ?_⟩
       show planT _ _ _ _ [(0, .ptr 1 0), (1, .p (.v (.int .i64 _))), (2, .p (.v (.int .i64 _)))] _ _ _
       refine Pt.st ?_
       refine Si.n rfl (lk rfl) (V.faPtr ty26 rfl ty2 (lk rfl) rfl rfl (lk rfl) (Si.n rfl (lk rfl) (V.ldPtr ty2 rfl rfl rfl (lk rfl) (v := .p (.v (.int .i64 _))) rfl (Si.n rfl (lk rfl) (V.addI rfl rfl (by omega) (Si.e ?_))))))
       refine ⟨(flEq_cons rfl (flEq_cons rfl (flEq_cons rfl flEq_nil))), ?_⟩
       refine Pt.b0 ?_ ?_
       ·refine Lo.n rfl (lk rfl) (A.bldS ty26 rfl rfl ⟨by exact rfl, by exact trivial, by exact trivial, trivial⟩ rfl (f := fun j => ([.v (.int .i64 (g + 1)), .bs (nxtF g s), .sl K.length 2 (kR K)] : List PV).getD j (.v undef)) (by exact allP_spec (P := fun j => _ = _) ⟨⟨⟨trivial, rfl⟩, (congrArg (fun x => BV.p (PV.bs x)) (take_full (nxtF g s)))⟩, (show BV.p (PV.sl (0 + K.length) 2 (fun j => if 0 + j < 0 * 2 then ([] : List PV).getD (0 + (0 + j)) (.v undef) else kR K (0 + j - 0 * 2))) = _ from kept_frz K)⟩) ?_)
        refine Pt.st ?_
        refine Si.e ?_
        refine ⟨flEq_nil, ?_⟩
        refine Pt.b0 ?_ ?_
        ·refine Lo.s rfl (A.stoAg ty26 rfl (n := 3) rfl (by decide) (by intro j hj; (match j, hj with | 0, _ => (trivial) | 1, _ => (trivial) | 2, _ => (trivial))) rfl rfl rfl ?_)
         refine Pt.e ?_
         refine Si.e ?_
         refine ⟨flEq_nil, ?_⟩
         show HT _ _ _ _ _
         refine HT.seq ?_
         refine HT.planS S_dnext_ok S_dnext_det mixed [1, 2, 3, 5, 6, 7] [⟨[0, 1, 2, 3], 4, [1, 2, 3]⟩] (by kernel_rfl) ?_
         refine Pl.lk ?_
         refine Si.n rfl (lk rfl) (V.ldPtrA ty26 rfl rfl rfl rfl (lk rfl) (Si.n rfl (lk rfl) (V.faPtr ty26 rfl ty2 (lk rfl) rfl rfl (lk rfl) (Si.n rfl (lk rfl) (V.ldPtr ty2 rfl rfl rfl (lk rfl) (v := .p (.v (.int .i64 _))) rfl (Si.n rfl (lk rfl) (V.mv (v := .p (.bs _)) rfl (Si.e ?_))))))))
         refine ⟨flEq_nil, fun ff => ?_⟩
         refine Lo.s rfl (A.stoAg ty26 rfl (n := 3) rfl (by decide) (by intro j hj; (match j, hj with | 0, _ => (trivial) | 1, _ => (trivial) | 2, _ => (trivial))) rfl rfl rfl ?_)
         refine ⟨_, fun ff => ff, ap0, rfl, FG.id, ?_⟩
         show planA _ _ _ _ _ [(1, .ptr 1 0), (2, .p (.v (.int .i64 _))), (3, .p (.bs _))] _ _ _
         refine Pl.e ?_
         refine Si.n rfl (lk rfl) (V.faPtr ty26 rfl ty2 (lk rfl) rfl rfl (lk rfl) (Si.n rfl (lk rfl) (V.ldPtr ty2 rfl rfl rfl (lk rfl) (v := .p (.v (.int .i64 _))) rfl (Si.n rfl (lk rfl) (V.mv (v := .p (.bs _)) rfl (Si.n rfl (lk rfl) (V.as (v := .p (.v (.int .i64 _))) rfl (Si.n rfl (lk rfl) (V.as (v := .p (.bs _)) rfl (Si.n rfl (lk rfl) (V.as (v := .p (.v (.int .i64 0))) rfl (Si.e ?_))))))))))))
         refine ⟨(flEq_cons rfl (flEq_cons rfl (flEq_cons rfl flEq_nil))), ?_⟩
         show HT _ _ _ _ _
         refine HT.ret ?_
         have hR := nx_3 (g := g) (s := s) (K := K) (by assumption) (by omega)
         exact retC_ok (sg []) [(2, .ptr 2 0), (3, .p (.v (.int .i64 (nxG g s K)))), (4, .p (.bs ((nxR g s K).b))), (5, .p (.v (.int .i64 ((nxR g s K).e))))] [(2, ⟨26, 1, 3, true, .rows (fun j => ([.v (.int .i64 ((nxR g s K).g)), .bs ((nxR g s K).s), .sl ((nxR g s K).K).length 2 (kR ((nxR g s K).K))] : List PV).getD j (.v undef))⟩)] h ⟨⟨⟨.refl _, rfl⟩, ⟨le_int (by (rw [hR.2]; done)), trivial⟩, ⟨le_bs (by (rw [hR.1]; exact take_full _)), trivial⟩, ⟨le_int (by (rw [hR.1]; done)), trivial⟩, trivial⟩, ⟨⟨_, rfl, .inr (ob_rowsL (by intro j hj; match j, hj with | 0, _ => (exact le_int (by rw [hR.1]; done)) | 1, _ => (exact le_bs (by rw [hR.1]; done)) | 2, _ => (exact le_sl (by rw [hR.1]; done) (by rw [hR.1]; intro j hj; rfl)))), trivial⟩, trivial⟩⟩ ⟨rvA_cell ty26 rfl rfl rfl rfl (Nat.le_refl _) (le_agg (fun j _ => by (dsimp only; rw [Nat.zero_add]))), .refl _, .refl _, .refl _, trivial⟩ trivial rfl trivial ⟨trivial, trivial, trivial, trivial, trivial⟩ rfl
        ·exact Pt.no
       ·exact Pt.no
      ·exact Pt.no
     ·exact Pt.no
   ·refine Pt.bk (fun ff => ?_) ?_
    ·refine Lo.n rfl (lk rfl) (A.alloc 3 1 ty26 rfl trivial (f := fun j => ([.v (.int .i64 0), .v (.slice none 0 0), .v (.slice none 0 0)] : List PV).getD j (.v undef)) (fun j hj => by match j, hj with | 0, _ => rfl | 1, _ => rfl | 2, _ => rfl) ?_)
     refine ⟨_, fun ff => ff, ap0d, rfl, FG.id, ?_⟩
     show planT _ _ _ _ [(0, .ptr 1 0), (1, .p (.v (.int .i64 _))), (2, .p (.v (.int .i64 _))), (3, .ptr 1 1), (4, .p (.bs _)), (5, .p (.bs _)), (6, .p (.bs _)), (8, .ptr 1 2), (9, .p (.sl _ 2 _))] _ _ _
     refine Pt.st ?_
     refine Si.n rfl (lk rfl) (V.faPtr ty26 rfl ty2 (lk rfl) rfl rfl (lk rfl) (Si.n rfl (lk rfl) (V.ldPtr ty2 rfl rfl rfl (lk rfl) (v := .p (.v (.int .i64 _))) rfl (Si.n rfl (lk rfl) (V.addI rfl rfl (by omega) (Si.n rfl (lk rfl) (V.faPtr ty26 rfl ty22 (lk rfl) rfl rfl (lk rfl) (Si.n rfl (lk rfl) (V.ldPtr ty22 rfl rfl rfl (lk rfl) (v := .p (.bs _)) rfl (Si.n rfl (lk rfl) (V.mv (v := .p (.bs _)) rfl ?_)))))))))))
     refine Si.n rfl (lk rfl) (V.call [.p (.bs _), .p (.str _), .p (.bs _), .p (.v (.int .i64 _))] 4 rfl rfl rfl rfl ⟨trivial, trivial, trivial, trivial, trivial⟩ trivial (s, nNext, numF g 4, 32) ⟨.refl _, .refl _, le_bs (by exact take_full _), .refl _, trivial⟩ trivial (by omega) (Φ := fun _ => True) (fun _ _ => trivial) (.inl ⟨trivial, trivial, trivial, trivial, trivial⟩) (v := .p (.bs _)) rfl (fun h9 => ?_))
     refine Si.n rfl (lk rfl) (V.faPtr ty26 rfl ty24 (lk rfl) rfl rfl (lk rfl) (Si.n rfl (lk rfl) (V.ldPtr ty24 rfl rfl rfl (lk rfl) (v := .p (.sl _ 2 _)) rfl (Si.e ?_))))
     refine ⟨(flEq_cons rfl (flEq_cons rfl (flEq_cons rfl (flEq_cons rfl (flEq_cons rfl (flEq_cons rfl (flEq_cons rfl (flEq_cons rfl (flEq_cons rfl flEq_nil))))))))), ?_⟩
     refine Pt.bk (fun ff => ?_) ?_
     ·refine Lo.n rfl (lk rfl) (A.bsl 4 ty24 ty35 rfl (lk rfl) (lk rfl) (fun h => Bool.noConfusion (show false = true from h)) rfl rfl trivial trivial rfl (N := 0) rfl (c := .rows _) rfl ?_)
      refine ⟨_, fun ff => ff, ap0d, rfl, FG.id, ?_⟩
      show planT _ _ _ _ [(0, .ptr 1 0), (1, .p (.v (.int .i64 _))), (2, .p (.v (.int .i64 _))), (3, .ptr 1 1), (4, .p (.bs _)), (5, .p (.bs _)), (6, .p (.bs _)), (8, .ptr 1 2), (9, .p (.sl _ 2 _))] _ _ _
      refine Pt.st ?_
      refine Si.n rfl (lk rfl) (V.faPtr ty26 rfl ty2 (lk rfl) rfl rfl (lk rfl) (Si.n rfl (lk rfl) (V.ldPtr ty2 rfl rfl rfl (lk rfl) (v := .p (.v (.int .i64 _))) rfl (Si.n rfl (lk rfl) (V.addI rfl rfl (by omega) (Si.n rfl (lk rfl) (V.faPtr ty26 rfl ty22 (lk rfl) rfl rfl (lk rfl) (Si.n rfl (lk rfl) (V.ldPtr ty22 rfl rfl rfl (lk rfl) (v := .p (.bs _)) rfl (Si.n rfl (lk rfl) (V.mv (v := .p (.bs _)) rfl ?_)))))))))))
      refine Si.n rfl (lk rfl) (V.call [.p (.bs _), .p (.str _), .p (.bs _), .p (.v (.int .i64 _))] 5 rfl rfl rfl rfl ⟨trivial, trivial, trivial, trivial, trivial⟩ trivial (s, nNext, numF g 4, 32) ⟨.refl _, .refl _, le_bs (by exact take_full _), .refl _, trivial⟩ trivial (by omega) (Φ := fun _ => True) (fun _ _ => trivial) (.inl ⟨trivial, trivial, trivial, trivial, trivial⟩) (v := .p (.bs _)) rfl (fun h10 => ?_))
      refine Si.n rfl (lk rfl) (V.faPtr ty26 rfl ty24 (lk rfl) rfl rfl (lk rfl) (Si.n rfl (lk rfl) (V.ldPtr ty24 rfl rfl rfl (lk rfl) (v := .p (.sl _ 2 _)) rfl (Si.e ?_))))
      refine ⟨(flEq_cons rfl (flEq_cons rfl (flEq_cons rfl (flEq_cons rfl (flEq_cons rfl (flEq_cons rfl (flEq_cons rfl (flEq_cons rfl (flEq_cons rfl flEq_nil))))))))), ?_⟩
      refine Pt.bk (fun ff => ?_) ?_
      ·refine Lo.n rfl (lk rfl) (A.apRows ty24 ty35 rfl rfl rfl (lk rfl) (lk rfl) rfl rfl (u := .p (.sl _ 2 _)) rfl rfl (by exact fun j _ => kR_oneP K j) rfl (by (simp; omega)) rfl rfl rfl ?_)
       refine ⟨_, fun ff => Fr.kill 4 ff, ap1d, rfl, (FG.kill 4 (flP_cons rfl (flP_cons rfl (flP_cons rfl flP_nil)))), ?_⟩
       show planT _ _ _ _ [(0, .ptr 1 0), (1, .p (.v (.int .i64 _))), (2, .p (.v (.int .i64 _)))] _ _ _
       refine Pt.st ?_
       refine Si.n rfl (lk rfl) (V.faPtr ty26 rfl ty2 (lk rfl) rfl rfl (lk rfl) (Si.n rfl (lk rfl) (V.ldPtr ty2 rfl rfl rfl (lk rfl) (v := .p (.v (.int .i64 _))) rfl (Si.n rfl (lk rfl) (V.addI rfl rfl (by omega) (Si.e ?_))))))
       refine ⟨(flEq_cons rfl (flEq_cons rfl (flEq_cons rfl flEq_nil))), ?_⟩
       refine Pt.b0 ?_ ?_
       ·refine Lo.n rfl (lk rfl) (A.bldS ty26 rfl rfl ⟨by exact rfl, by exact trivial, by exact trivial, trivial⟩ rfl (f := fun j => ([.v (.int .i64 (g + 1)), .bs (nxtF g s), .sl K.length 2 (kR K)] : List PV).getD j (.v undef)) (by exact allP_spec (P := fun j => _ = _) ⟨⟨⟨trivial, rfl⟩, (congrArg (fun x => BV.p (PV.bs x)) (take_full (nxtF g s)))⟩, (show BV.p (PV.sl (0 + K.length) 2 (fun j => if 0 + j < 0 * 2 then ([] : List PV).getD (0 + (0 + j)) (.v undef) else kR K (0 + j - 0 * 2))) = _ from kept_frz K)⟩) ?_)
        refine Pt.st ?_
        refine Si.e ?_
        refine ⟨flEq_nil, ?_⟩
        refine Pt.b0 ?_ ?_
        ·refine Lo.s rfl (A.stoAg ty26 rfl (n := 3) rfl (by decide) (by intro j hj; (match j, hj with | 0, _ => (trivial) | 1, _ => (trivial) | 2, _ => (trivial))) rfl rfl rfl ?_)
         refine Pt.e ?_
         refine Si.e ?_
         refine ⟨flEq_nil, ?_⟩
         show HT _ _ _ _ _
         refine HT.seq ?_
         refine HT.planS S_dnext_ok S_dnext_det mixed [1, 2, 3, 5, 6, 7] [⟨[0, 1, 2, 3], 4, [1, 2, 3]⟩] (by kernel_rfl) ?_
         refine Pl.lk ?_
         refine Si.n rfl (lk rfl) (V.ldPtrA ty26 rfl rfl rfl rfl (lk rfl) (Si.n rfl (lk rfl) (V.faPtr ty26 rfl ty2 (lk rfl) rfl rfl (lk rfl) (Si.n rfl (lk rfl) (V.ldPtr ty2 rfl rfl rfl (lk rfl) (v := .p (.v (.int .i64 _))) rfl (Si.n rfl (lk rfl) (V.mv (v := .p (.bs _)) rfl (Si.e ?_))))))))
         refine ⟨flEq_nil, fun ff => ?_⟩
         refine Lo.s rfl (A.stoAg ty26 rfl (n := 3) rfl (by decide) (by intro j hj; (match j, hj with | 0, _ => (trivial) | 1, _ => (trivial) | 2, _ => (trivial))) rfl rfl rfl ?_)
         refine ⟨_, fun ff => ff, ap0, rfl, FG.id, ?_⟩
         show planA _ _ _ _ _ [(1, .ptr 1 0), (2, .p (.v (.int .i64 _))), (3, .p (.bs _))] _ _ _
         refine Pl.e ?_
         refine Si.n rfl (lk rfl) (V.faPtr ty26 rfl ty2 (lk rfl) rfl rfl (lk rfl) (Si.n rfl (lk rfl) (V.ldPtr ty2 rfl rfl rfl (lk rfl) (v := .p (.v (.int .i64 _))) rfl (Si.n rfl (lk rfl) (V.mv (v := .p (.bs _)) rfl (Si.n rfl (lk rfl) (V.as (v := .p (.v (.int .i64 _))) rfl (Si.n rfl (lk rfl) (V.as (v := .p (.bs _)) rfl (Si.n rfl (lk rfl) (V.as (v := .p (.v (.int .i64 0))) rfl (Si.e ?_))))))))))))
         refine ⟨(flEq_cons rfl (flEq_cons rfl (flEq_cons rfl flEq_nil))), ?_⟩
         show HT _ _ _ _ _
         refine HT.ret ?_
         have hR := nx_3 (g := g) (s := s) (K := K) (by assumption) (by omega)
         exact retC_ok (sg []) [(2, .ptr 2 0), (3, .p (.v (.int .i64 (nxG g s K)))), (4, .p (.bs ((nxR g s K).b))), (5, .p (.v (.int .i64 ((nxR g s K).e))))] [(2, ⟨26, 1, 3, true, .rows (fun j => ([.v (.int .i64 ((nxR g s K).g)), .bs ((nxR g s K).s), .sl ((nxR g s K).K).length 2 (kR ((nxR g s K).K))] : List PV).getD j (.v undef))⟩)] h ⟨⟨⟨.refl _, rfl⟩, ⟨le_int (by (rw [hR.2]; done)), trivial⟩, ⟨le_bs (by (rw [hR.1]; exact take_full _)), trivial⟩, ⟨le_int (by (rw [hR.1]; done)), trivial⟩, trivial⟩, ⟨⟨_, rfl, .inr (ob_rowsL (by intro j hj; match j, hj with | 0, _ => (exact le_int (by rw [hR.1]; done)) | 1, _ => (exact le_bs (by rw [hR.1]; done)) | 2, _ => (exact le_sl (by rw [hR.1]; done) (by rw [hR.1]; intro j hj; rfl)))), trivial⟩, trivial⟩⟩ ⟨rvA_cell ty26 rfl rfl rfl rfl (Nat.le_refl _) (le_agg (fun j _ => by (dsimp only; rw [Nat.zero_add]))), .refl _, .refl _, .refl _, trivial⟩ trivial rfl trivial ⟨trivial, trivial, trivial, trivial, trivial⟩ rfl
        ·exact Pt.no
       ·exact Pt.no
      ·exact Pt.no
     ·exact Pt.no
    ·exact Pt.no
end Go.Vh
