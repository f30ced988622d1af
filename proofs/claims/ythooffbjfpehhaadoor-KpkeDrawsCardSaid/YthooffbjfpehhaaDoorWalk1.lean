/- What is proved: each function of the seat's program does what its contract says, wherever it is called; no condition. -/
import Derived.Test.YthooffbjfpehhaaDoorWalk0
set_option linter.unusedVariables false
set_option linter.unusedSimpArgs false
set_option linter.unusedVariables false
set_option linter.unusedSimpArgs false
namespace Go.Vh
open Go Go.Vc Go.Proofs Go.Vw Go.Vk
def smodSp : Sp := ⟨[], mkE (α := Int) (fun n => [.p (.v (.int .i64 (n)))]) (fun n => []) (fun n => True) (fun n => [.p (.v (.int .i64 (n % 3329)))]) (fun n => [])⟩
def S_smod : FuncId → Option Sp := fun _ => none
theorem S_smod_ok : ∀ f s, S_smod f = some s → FOK Tryd.prog gl f s := fun f s h => by cases h
set_option maxHeartbeats 1000000 in
set_option maxRecDepth 1000 in
theorem smod_ok : FOK Tryd.prog gl 28 smodSp := by
 refine FOK.ofE (tyOf_ok Tryd.prog) (slots := [2]) (nt := 10) Tryd.func28 rfl rfl rfl rfl (by decide) 1 (fun _ => rfl) (by decide) (fun _ => ⟨trivial, trivial⟩) ?_
 rintro n kk hlen hpre h
 replace hpre : True := hpre
 show HT (cx Tryd.prog 10 (tyOf Tryd.prog) gl []) _ [(0, .p (.v (.int .i64 (n))))] [] _
 refine HT.seq (HT.region S_smod_ok (So.q rfl rfl (V.as (v := .p (.v (.int .i64 (0)))) rfl (So.e (HT.seq (HT.seq (HT.region S_smod_ok (So.q rfl rfl (V.mv (v := .p (.v (.int .i64 _))) rfl (So.q rfl rfl (V.bin (a := (.v (.int .i64 _))) (b := (.v (.int .i64 (3329)))) (r := .v (.int .i64 _)) rfl rfl rfl (by omega) (So.q rfl rfl (V.as (v := .p (.v (.int .i64 _))) rfl ?_)))))))))))))
 refine So.e (HT.seq (HT.region S_smod_ok ?_))
 have hb := tmod_lb (n := n) (m := 3329) (by omega)
 refine So.q rfl rfl (V.mv (v := .p (.v (.int .i64 _))) rfl (So.q rfl rfl (V.bin (a := (.v (.int .i64 _))) (b := (.v (.int .i64 (0)))) (r := .v (.bool _)) rfl rfl rfl trivial (So.e ?_))))
 show HT _ _ _ _ _
 refine R.cond rfl rfl (fun h1 => ?_) (fun h1 => ?_)
 ·have h1 := of_decide_eq_true h1
  refine HT.region S_smod_ok (So.q rfl rfl (V.mv (v := .p (.v (.int .i64 _))) rfl (So.q rfl rfl (V.addI rfl rfl (by omega) (So.q rfl rfl (V.as (v := .p (.v (.int .i64 _))) rfl (So.e (HT.seq (HT.region S_smod_ok (So.q rfl rfl (V.mv (v := .p (.v (.int .i64 _))) rfl (So.q rfl rfl (V.as (v := .p (.v (.int .i64 _))) rfl (So.e ?_))))))))))))))
  show HT _ _ _ _ _
  refine HT.ret ?_
  exact ret_ok (sg []) h rfl rfl rfl trivial ⟨trivial, trivial⟩ rfl ⟨⟨⟨le_int (by first | rfl | (exact mod_neg (by omega) (by omega)) | (exact mod_pos (by omega) (by omega))), trivial⟩, trivial⟩, trivial⟩
 ·have h1 := of_decide_eq_false h1
  refine HT.skip (HT.seq (HT.region S_smod_ok (So.q rfl rfl (V.mv (v := .p (.v (.int .i64 _))) rfl (So.q rfl rfl (V.as (v := .p (.v (.int .i64 _))) rfl (So.e ?_)))))))
  show HT _ _ _ _ _
  refine HT.ret ?_
  exact ret_ok (sg []) h rfl rfl rfl trivial ⟨trivial, trivial⟩ rfl ⟨⟨⟨le_int (by first | rfl | (exact mod_neg (by omega) (by omega)) | (exact mod_pos (by omega) (by omega))), trivial⟩, trivial⟩, trivial⟩
def smod1Sp : Sp := ⟨[], mkE (α := Int × Int) (fun (x, y) => [.p (.v (.int .i64 (x))), .p (.v (.int .i64 (y)))]) (fun (x, y) => []) (fun (x, y) => True) (fun (x, y) => [.p (.v (.int .i64 (y)))]) (fun (x, y) => [])⟩
def S_smod1 : FuncId → Option Sp := fun _ => none
theorem S_smod1_ok : ∀ f s, S_smod1 f = some s → FOK Tryd.prog gl f s := fun f s h => by cases h
set_option maxHeartbeats 1000000 in
set_option maxRecDepth 1000 in
theorem smod1_ok : FOK Tryd.prog gl 23 smod1Sp := by
 refine FOK.ofE (tyOf_ok Tryd.prog) (slots := [4]) (nt := 6) Tryd.func23 rfl rfl rfl rfl (by decide) 2 (fun ⟨_, _⟩ => rfl) (by decide) (fun ⟨_, _⟩ => ⟨trivial, trivial, trivial⟩) ?_
 rintro ⟨x, y⟩ kk hlen hpre h
 replace hpre : True := hpre
 show HT (cx Tryd.prog 6 (tyOf Tryd.prog) gl []) _ [(0, .p (.v (.int .i64 (x)))), (1, .p (.v (.int .i64 (y))))] [] _
 refine HT.seq (HT.region S_smod1_ok (So.q rfl rfl (V.as (v := .p (.v (.int .i64 (0)))) rfl (So.e (HT.seq (HT.region S_smod1_ok (So.q rfl rfl (V.mv (v := .p (.v (.int .i64 _))) rfl (So.q rfl rfl (V.as (v := .p (.v (.int .i64 _))) rfl (So.e ?_)))))))))))
 show HT _ _ _ _ _
 refine HT.ret ?_
 exact ret_ok (sg []) h rfl rfl rfl trivial ⟨trivial, trivial⟩ rfl ⟨⟨⟨le_int (by first | rfl | omega | (simp; done) | (simp; omega)), trivial⟩, trivial⟩, trivial⟩
end Go.Vh

set_option linter.unusedVariables false
set_option linter.unusedSimpArgs false
namespace Go.Vh
open Go Go.Vc Go.Proofs Go.Vw Go.Vk
def seachSp : Sp := ⟨[], mkE (α := (Nat → Int) × (Nat → Int)) (fun (a, b) => [.agg 256 (fun j => .v (.int .i64 (a j))), .agg 256 (fun j => .v (.int .i64 (b j))), .clo 23 []]) (fun (a, b) => []) (fun (a, b) => True) (fun (a, b) => [.agg 256 (fun j => .v (.int .i64 (b j % 3329)))]) (fun (a, b) => [])⟩
def S_seach : FuncId → Option Sp := fun f => if f = 28 then some smodSp else if f = 23 then some smod1Sp else none
theorem S_seach_ok : ∀ f s, S_seach f = some s → FOK Tryd.prog gl f s := fun f s h => by
 unfold S_seach at h
 split at h
 ·rename_i e; cases h; subst e; exact smod_ok
 split at h
 ·rename_i e; cases h; subst e; exact smod1_ok
 cases h
theorem S_seach_det : ∀ f s, S_seach f = some s → SpDet s.sp := fun f s h => by
 unfold S_seach at h
 split at h
 ·cases h; exact mkE_det _ _ _ _ _
 split at h
 ·cases h; exact mkE_det _ _ _ _ _
 cases h
set_option maxHeartbeats 1000000 in
set_option maxRecDepth 20000 in
theorem seach_ok : FOK Tryd.prog gl 22 seachSp := by
 refine FOK.ofEC (tyOf_ok Tryd.prog) (rvs := [.cell 6 25]) (nt := 26) Tryd.func22 rfl rfl rfl rfl (by decide) 3 (fun ⟨_, _⟩ => rfl) (by decide) (fun ⟨_, _⟩ => ⟨trivial, trivial, trivial, trivial⟩) ?_
 rintro ⟨a, b⟩ kk hlen hpre h
 replace hpre : True := hpre
 show HT (cx Tryd.prog 26 (tyOf Tryd.prog) gl []) _ [(0, .agg 256 (fun j => .v (.int .i64 (a j)))), (1, .agg 256 (fun j => .v (.int .i64 (b j)))), (2, .clo 23 [])] [] _
 refine HT.seq (HT.region S_seach_ok (So.n (lk rfl) (A.boxAg 1 1 (n := 256) rfl (by intro j hj; first | rfl | trivial | (split <;> first | rfl | trivial | (split <;> first | rfl | trivial))) rfl trivial (So.n (lk rfl) (A.boxAg 2 1 (n := 256) rfl (by intro j hj; first | rfl | trivial | (split <;> first | rfl | trivial | (split <;> first | rfl | trivial))) rfl trivial (So.n (lk rfl) (A.alloc 3 1 ty25 rfl trivial (f := fun _ => .v (.int .i64 0)) (fun _ _ => rfl) (So.e (HT.seq (HT.seq (HT.region S_seach_ok (So.q rfl rfl (V.mv (v := .p (.v (.int .i64 (0)))) rfl ?_)))))))))))))
 refine So.e (HT.block ?_)
 refine R.loop (σ := Nat) (fun s => [(8, .p (.v (.int .i64 ((s : Int)))))]) (fun s => [(1, ⟨25, 1, 256, true, .rows (fun j => .v (.int .i64 (if j < s then b j % 3329 else a j)))⟩)]) [2, 3, 4, 6] [2, 3] (fun s => s ≤ 256) (fun s => 256 - s) (0) (fr0 := [(2, .clo 23 []), (3, .ptr 1 0), (4, .ptr 2 0), (6, .ptr 3 0)]) (O0 := [(2, ⟨_, _, _, _, .rows _⟩), (3, ⟨_, _, _, _, .rows _⟩)]) rfl rfl (by first | rfl | omega | (simp; done) | (simp; omega)) ⟨⟨⟨le_int (by first | rfl | omega | (simp; done)), trivial⟩, ⟨.refl _, trivial⟩, ⟨.refl _, rfl⟩, ⟨.refl _, rfl⟩, ⟨.refl _, rfl⟩, trivial⟩, ⟨⟨_, rfl, .inr (ob_rows (by first | rfl | ((try dsimp only); first | rfl | omega | (simp; done))) (by first | rfl | ((try dsimp only); first | rfl | omega | (simp; done)))), trivial⟩, ⟨_, rfl, .inl rfl, trivial⟩, ⟨_, rfl, .inl rfl, trivial⟩, trivial⟩⟩ (fun s hP0 => ?_)
 refine HT.seq (HT.region S_seach_ok (So.q rfl rfl (V.bin (a := (.v (.int .i64 ((_ : Nat) : Int)))) (b := (.v (.int .i64 (256)))) (r := .v (.bool _)) rfl rfl rfl trivial (So.e (HT.seq ?_)))))
 refine R.cond rfl rfl (fun h1 => ?_) (fun h1 => ?_)
 ·have h1 := of_decide_eq_true h1
  refine HT.skip (HT.seq (HT.block (HT.seq (HT.region S_seach_ok (So.q rfl rfl (V.mv (v := .p (.v (.int .i64 ((_ : Nat) : Int)))) rfl (So.q rfl rfl (V.as (v := .p (.v (.int .i64 ((_ : Nat) : Int)))) rfl (So.e ?_)))))))))
  show HT _ _ _ _ _
  refine HT.planS S_seach_ok S_seach_det mixed [] [⟨[0, 1, 2, 3, 4, 5, 6, 7, 8, 9], 10, [0]⟩, ⟨[0, 11, 12], 13, []⟩] (by kernel_rfl) ?_
  refine Pl.lk ?_
  refine Si.n rfl (lk rfl) (V.mv (v := .p (.v (.int .i64 ((_ : Nat) : Int)))) rfl (Si.n rfl (lk rfl) (V.mv (v := .clo 23 []) rfl (Si.n rfl (lk rfl) (V.mv (v := .p (.v (.int .i64 ((_ : Nat) : Int)))) rfl (Si.n rfl (lk rfl) (V.ixArrP10 ty25 ty3 rfl rfl rfl (by first | rfl | omega | (simp; done) | (simp; omega)) rfl (by omega) (Int.toNat_natCast _) (Si.n rfl (lk rfl) (V.ldPtr ty3 rfl rfl rfl (by first | rfl | omega | (simp; done) | (simp; omega)) (v := .p (.v (.int .i64 _))) rfl ?_)))))))))
  refine Si.n rfl (lk rfl) (V.call [.p (.v (.int .i64 _))] 4 rfl rfl rfl rfl ⟨trivial, trivial⟩ trivial _ ⟨.refl _, trivial⟩ trivial (by trivial) (Φ := fun _ => True) (fun _ _ => trivial) (.inl ⟨trivial, trivial⟩) (v := .p (.v (.int .i64 _))) rfl (fun h2 => ?_))
  refine Si.n rfl (lk rfl) (V.mv (v := .p (.v (.int .i64 ((_ : Nat) : Int)))) rfl (Si.n rfl (lk rfl) (V.ixArrP10 ty25 ty3 rfl rfl rfl (by first | rfl | omega | (simp; done) | (simp; omega)) rfl (by omega) (Int.toNat_natCast _) (Si.n rfl (lk rfl) (V.ldPtr ty3 rfl rfl rfl (by first | rfl | omega | (simp; done) | (simp; omega)) (v := .p (.v (.int .i64 _))) rfl ?_)))))
  refine Si.n rfl (lk rfl) (V.call [.p (.v (.int .i64 _))] 4 rfl rfl rfl rfl ⟨trivial, trivial⟩ trivial _ ⟨.refl _, trivial⟩ trivial (by trivial) (Φ := fun _ => True) (fun _ _ => trivial) (.inl ⟨trivial, trivial⟩) (v := .p (.v (.int .i64 _))) rfl (fun h3 => ?_))
  refine Si.e ?_
  refine ⟨flEq_nil, fun ff => ?_⟩
  refine Lo.n rfl (lk rfl) (A.call0 [.p (.v (.int .i64 _)), .p (.v (.int .i64 _))] 4 rfl rfl rfl rfl ⟨trivial, trivial, trivial⟩ trivial (_, _) ⟨.refl _, .refl _, trivial⟩ trivial (by trivial) (Φ := fun _ => True) (fun _ _ => trivial) (.inl rfl) (v := .p (.v (.int .i64 _))) rfl (O' := _) rfl (fun h4 => ?_))
  refine ⟨_, fun ff => ff, ap0d, rfl, FG.id, ?_⟩
  show planA _ _ _ _ _ [(0, .p (.v (.int .i64 ((_ : Nat) : Int))))] _ _ _
  refine Pl.l0 ?_
  refine Si.n rfl (lk rfl) (V.mv (v := .p (.v (.int .i64 ((_ : Nat) : Int)))) rfl ?_)
  refine Si.n rfl (lk rfl) (V.call [.p (.v (.int .i64 _))] 4 rfl rfl rfl rfl ⟨trivial, trivial⟩ trivial _ ⟨.refl _, trivial⟩ trivial (by trivial) (Φ := fun _ => True) (fun _ _ => trivial) (.inl ⟨trivial, trivial⟩) (v := .p (.v (.int .i64 _))) rfl (fun h5 => ?_))
  refine Si.n rfl (lk rfl) (V.ixArrP10 ty25 ty3 rfl rfl rfl (by first | rfl | omega | (simp; done) | (simp; omega)) rfl (by omega) (Int.toNat_natCast _) (Si.e ?_))
  refine ⟨(flEq_cons rfl flEq_nil), ?_⟩
  refine Lo.s rfl (A.sto ty3 rfl rfl rfl (v := .p (.v (.int .i64 _))) rfl rfl rfl (by first | rfl | omega | (simp; done) | (simp; omega)) (c' := .rows (fun j => .v (.int .i64 (if j = s then (b s % 3329) % 3329 else if j < s then b j % 3329 else a j)))) (congrArg (fun g => some (OC.rows g)) (funext fun j => by by_cases h9 : j = s <;> simp [h9])) rfl ?_)
  refine Pl.e ?_
  refine Si.e ?_
  refine ⟨flEq_nil, ?_⟩
  show HT _ _ _ _ _
  refine HT.region S_seach_ok (So.q rfl rfl (V.addI rfl rfl (by omega) (So.q rfl rfl (V.mv (v := .p (.v (.int .i64 _))) rfl (So.e ?_)))))
  refine ⟨s + 1, by first | rfl | omega | (simp; done) | (simp; omega), by omega, ⟨⟨⟨le_int (by first | rfl | omega | (simp; done) | (simp; omega)), trivial⟩, ⟨.refl _, trivial⟩, ⟨.refl _, rfl⟩, ⟨.refl _, rfl⟩, ⟨.refl _, rfl⟩, trivial⟩, ⟨⟨_, rfl, .inr (ob_rows (by first | rfl | ((try dsimp only); first | rfl | omega | (intro j hj; exact each_put j))) (by first | rfl | ((try dsimp only); first | rfl | omega | (intro j hj; exact each_put j)))), trivial⟩, ⟨_, rfl, .inl rfl, trivial⟩, ⟨_, rfl, .inl rfl, trivial⟩, trivial⟩⟩⟩
 ·have h1 := of_decide_eq_false h1
  refine HT.exit ?_
  show HT _ _ _ _ _
  refine HT.seq (HT.region S_seach_ok (So.q rfl rfl (V.ldPtrA ty25 rfl rfl rfl rfl (lk rfl) (So.s (A.stoAg ty25 rfl (n := 256) rfl (by decide) (by intro j hj; first | rfl | trivial) rfl rfl rfl (So.e ?_))))))
  show HT _ _ _ _ _
  refine HT.ret ?_
  exact retC_ok (sg []) [(6, .ptr 3 0)] [(3, ⟨25, 1, 256, true, .rows (fun j => .v (.int .i64 (b j % 3329)))⟩)] h ⟨⟨⟨.refl _, rfl⟩, trivial⟩, ⟨⟨_, rfl, .inr (ob_rows rfl (by intro j hj; first | rfl | ((try dsimp only); (first | rfl | (replace hP0 : s = 256 := (by omega); subst hP0; simp [hj]; done))))), trivial⟩, trivial⟩⟩ ⟨rvA_cell ty25 rfl rfl rfl rfl (Nat.le_refl _) (le_agg (fun j _ => by first | rfl | (dsimp only; rw [Nat.zero_add]))), trivial⟩ trivial rfl trivial ⟨trivial, trivial⟩ rfl
def sModSp : Sp := ⟨[], mkE (α := (Nat → Int)) (fun p => [.agg 256 (fun j => .v (.int .i64 (p j)))]) (fun p => []) (fun p => True) (fun p => [.agg 256 (fun j => .v (.int .i64 (p j % 3329)))]) (fun p => [])⟩
def S_sMod : FuncId → Option Sp := fun f => if f = 22 then some seachSp else none
theorem S_sMod_ok : ∀ f s, S_sMod f = some s → FOK Tryd.prog gl f s := fun f s h => by
 unfold S_sMod at h
 split at h
 ·rename_i e; cases h; subst e; exact seach_ok
 cases h
set_option maxHeartbeats 1000000 in
set_option maxRecDepth 20000 in
theorem sMod_ok : FOK Tryd.prog gl 15 sModSp := by
 refine FOK.ofEC (tyOf_ok Tryd.prog) (rvs := [.cell 2 25]) (nt := 6) Tryd.func15 rfl rfl rfl rfl (by decide) 1 (fun _ => rfl) (by decide) (fun _ => ⟨trivial, trivial⟩) ?_
 rintro p kk hlen hpre h
 replace hpre : True := hpre
 show HT (cx Tryd.prog 6 (tyOf Tryd.prog) gl []) _ [(0, .agg 256 (fun j => .v (.int .i64 (p j))))] [] _
 refine HT.seq (HT.region S_sMod_ok (So.n (lk rfl) (A.boxAg 1 1 (n := 256) rfl (by intro j hj; first | rfl | trivial | (split <;> first | rfl | trivial | (split <;> first | rfl | trivial))) rfl trivial (So.n (lk rfl) (A.alloc 2 1 ty25 rfl trivial (f := fun _ => .v (.int .i64 0)) (fun _ _ => rfl) (So.e (HT.seq (HT.region S_sMod_ok (So.q rfl rfl (V.ldPtrA ty25 rfl rfl rfl rfl (lk rfl) (So.q rfl rfl (V.ldPtrA ty25 rfl rfl rfl rfl (lk rfl) ?_))))))))))))
 refine So.n (lk rfl) (A.call0 [.agg 256 _, .agg 256 _, .clo 23 []] 3 rfl rfl rfl rfl ⟨trivial, trivial, (fun _ hc => by cases hc), trivial⟩ trivial (_, _) ⟨.refl _, .refl _, .refl _, trivial⟩ trivial (by trivial) (Φ := fun _ => True) (fun _ _ => trivial) (.inl rfl) (v := .agg 256 _) rfl (O' := _) rfl (fun h1 => ?_))
 refine So.s (A.stoAg ty25 rfl (n := 256) rfl (by decide) (by intro j hj; first | rfl | trivial) rfl rfl rfl (So.e ?_))
 show HT _ _ _ _ _
 refine HT.ret ?_
 exact retC_ok (sg []) [(2, .ptr 2 0)] [(2, ⟨25, 1, 256, true, .rows (fun j => .v (.int .i64 (p j % 3329)))⟩)] h ⟨⟨⟨.refl _, rfl⟩, trivial⟩, ⟨⟨_, rfl, .inr (ob_rows rfl (by intro j hj; first | rfl | ((try dsimp only); (first | rfl | (rw [Nat.zero_add]))))), trivial⟩, trivial⟩⟩ ⟨rvA_cell ty25 rfl rfl rfl rfl (Nat.le_refl _) (le_agg (fun j _ => by first | rfl | (dsimp only; rw [Nat.zero_add]))), trivial⟩ trivial rfl trivial ⟨trivial, trivial⟩ rfl
end Go.Vh

set_option linter.unusedVariables false
set_option linter.unusedSimpArgs false
namespace Go.Vh
open Go Go.Vc Go.Proofs Go.Vw Go.Vk
def centredSp : Sp := ⟨[], mkE (α := (List UInt8)) (fun b => [.p (.bs (b))]) (fun b => []) (fun b => True) (fun b => [.agg 256 (fun j => .v (.int .i64 ((cenF b).1 j))), .p (.v (.int .i64 ((cenF b).2)))]) (fun b => [])⟩
def S_centred : FuncId → Option Sp := fun f => if f = 15 then some sModSp else none
theorem S_centred_ok : ∀ f s, S_centred f = some s → FOK Tryd.prog gl f s := fun f s h => by
 unfold S_centred at h
 split at h
 ·rename_i e; cases h; subst e; exact sMod_ok
 cases h
set_option maxHeartbeats 1000000 in
set_option maxRecDepth 20000 in
theorem centred_ok : FOK Tryd.prog gl 6 centredSp := by
 refine FOK.ofEC (tyOf_ok Tryd.prog) (rvs := [.cell 2 25, .tmp 3]) (nt := 40) Tryd.func6 rfl rfl rfl rfl (by decide) 1 (fun _ => rfl) (by decide) (fun _ => ⟨trivial, trivial⟩) ?_
 rintro b kk hlen hpre h
 have hl0 : (b).length ≤ 9223372036854775807 := hlen.1
 replace hpre : True := hpre
 show HT (cx Tryd.prog 40 (tyOf Tryd.prog) gl []) _ [(0, .p (.bs (b)))] [] _
 refine HT.seq (HT.region S_centred_ok (So.n (lk rfl) (A.alloc 1 1 ty25 rfl trivial (f := fun _ => .v (.int .i64 0)) (fun _ _ => rfl) (So.q rfl rfl (V.as (v := .p (.v (.int .i64 (0)))) rfl (So.e (HT.seq (HT.seq (HT.region S_centred_ok (So.q rfl rfl (V.mv (v := .p (.bs _)) rfl (So.q rfl rfl (V.len ty22 (v := .p (.bs _)) rfl rfl ?_)))))))))))))
 refine So.q rfl rfl (V.bin (a := (.v (.int .i64 _))) (b := (.v (.int .i64 (128)))) (r := .v (.bool _)) rfl rfl rfl trivial (So.e ?_))
 show HT _ _ _ _ _
 refine R.cond rfl rfl (fun h1 => ?_) (fun h1 => ?_)
 ·have h1 := of_decide_eq_false (bnT h1)
  refine HT.seq (HT.region S_centred_ok (So.n (lk rfl) (A.bld0 ty25 rfl rfl rfl (f := fun _ => .v (.int .i64 0)) (fun _ _ => rfl) (So.s (A.stoAg ty25 rfl (n := 256) rfl (by decide) (by intro j hj; first | rfl | trivial) rfl rfl rfl (So.q rfl rfl (V.as (v := .p (.v (.int .i64 (1)))) rfl (So.e ?_))))))))
  show HT _ _ _ _ _
  refine HT.ret ?_
  exact retC_ok (sg []) [(2, .ptr 1 0), (3, .p (.v (.int .i64 ((cenF b).2))))] [(1, ⟨25, 1, 256, true, .rows (fun j => .v (.int .i64 ((cenF b).1 j)))⟩)] h ⟨⟨⟨.refl _, rfl⟩, ⟨le_int (by first | rfl | (unfold cenF; rw [if_neg (show ¬ b.length ≠ 128 by omega)]; first | done | rfl) | (unfold cenF; rw [if_pos (show b.length ≠ 128 by omega)]; first | done | rfl) | (unfold cenF; rw [if_neg (show ¬ b.length ≠ 128 by omega)]; replace hP0 : s = 256 := (by omega); subst hP0; simp [hj]; done)), trivial⟩, trivial⟩, ⟨⟨_, rfl, .inr (ob_rows rfl (by intro j hj; first | rfl | ((try dsimp only); (first | rfl | (unfold cenF; rw [if_neg (show ¬ b.length ≠ 128 by omega)]; first | done | rfl) | (unfold cenF; rw [if_pos (show b.length ≠ 128 by omega)]; first | done | rfl) | (unfold cenF; rw [if_neg (show ¬ b.length ≠ 128 by omega)]; replace hP0 : s = 256 := (by omega); subst hP0; simp [hj]; done))))), trivial⟩, trivial⟩⟩ ⟨rvA_cell ty25 rfl rfl rfl rfl (Nat.le_refl _) (le_agg (fun j _ => by first | rfl | (dsimp only; rw [Nat.zero_add]))), .refl _, trivial⟩ trivial rfl trivial ⟨trivial, trivial, trivial⟩ rfl
 ·have h1 := of_decide_eq_true (bnF h1)
  refine HT.skip (HT.seq (HT.region S_centred_ok (So.n (lk rfl) (A.bldA ty36 rfl rfl ⟨by first | exact trivial | exact rfl | (intro j hj; first | trivial | rfl | (simp [BV.one]; done)), by first | exact trivial | exact rfl | (intro j hj; first | trivial | rfl | (simp [BV.one]; done)), by first | exact trivial | exact rfl | (intro j hj; first | trivial | rfl | (simp [BV.one]; done)), by first | exact trivial | exact rfl | (intro j hj; first | trivial | rfl | (simp [BV.one]; done)), trivial⟩ rfl (f := fun j => .v (.int .i64 (mN j))) (by exact allP_spec (P := fun j => _ = _) ⟨⟨⟨⟨trivial, rfl⟩, rfl⟩, rfl⟩, rfl⟩) (So.n (lk rfl) (A.alloc 2 1 ty36 rfl trivial (f := fun _ => .v (.int .i64 0)) (fun _ _ => rfl) (So.s (A.stoAg ty36 rfl (n := 4) rfl (by decide) (by intro j hj; first | rfl | trivial | (match j, hj with | 0, _ => (first | trivial | rfl) | 1, _ => (first | trivial | rfl) | 2, _ => (first | trivial | rfl) | 3, _ => (first | trivial | rfl))) rfl rfl rfl (So.e (HT.seq (HT.region S_centred_ok (So.n (lk rfl) (A.alloc 3 1 ty25 rfl trivial (f := fun _ => .v (.int .i64 0)) (fun _ _ => rfl) ?_)))))))))))))
  refine So.e (HT.seq (HT.seq (HT.region S_centred_ok (So.q rfl rfl (V.mv (v := .p (.v (.int .i64 (0)))) rfl (So.e (HT.block ?_)))))))
  refine R.loop (σ := Nat) (fun s => [(13, .p (.v (.int .i64 ((s : Int)))))]) (fun s => [(3, ⟨25, 1, 256, true, .rows (fun j => .v (.int .i64 (if j < s then cnP b j else 0)))⟩)]) [0, 2, 3, 4, 5] [1, 2] (fun s => s ≤ 256) (fun s => 256 - s) (0) (fr0 := [(0, .p (.bs _)), (2, .ptr 1 0), (3, .p (.v (.int .i64 _))), (4, .ptr 2 0), (5, .ptr 3 0)]) (O0 := [(1, ⟨_, _, _, _, .rows _⟩), (2, ⟨_, _, _, _, .rows _⟩)]) rfl rfl (by first | rfl | omega | (simp; done) | (simp; omega)) ⟨⟨⟨le_int (by first | rfl | (simp; done)), trivial⟩, ⟨.refl _, trivial⟩, ⟨.refl _, rfl⟩, ⟨.refl _, trivial⟩, ⟨.refl _, rfl⟩, ⟨.refl _, rfl⟩, trivial⟩, ⟨⟨_, rfl, .inr (ob_rows (by first | rfl | ((try dsimp only); first | rfl | (simp; done))) (by first | rfl | ((try dsimp only); first | rfl | (simp; done)))), trivial⟩, ⟨_, rfl, .inl rfl, trivial⟩, ⟨_, rfl, .inl rfl, trivial⟩, trivial⟩⟩ (fun s hP0 => ?_)
  refine HT.seq (HT.region S_centred_ok (So.q rfl rfl (V.bin (a := (.v (.int .i64 ((_ : Nat) : Int)))) (b := (.v (.int .i64 (256)))) (r := .v (.bool _)) rfl rfl rfl trivial (So.e (HT.seq ?_)))))
  refine R.cond rfl rfl (fun h2 => ?_) (fun h2 => ?_)
  ·have h2 := of_decide_eq_true h2
   refine HT.skip (HT.seq (HT.block (HT.seq (HT.region S_centred_ok (So.q rfl rfl (V.mv (v := .p (.v (.int .i64 ((_ : Nat) : Int)))) rfl (So.q rfl rfl (V.as (v := .p (.v (.int .i64 ((_ : Nat) : Int)))) rfl (So.e (HT.seq (HT.region S_centred_ok ?_)))))))))))
   have hbl : b.length = 128 := by omega
   refine So.q rfl rfl (V.mv (v := .p (.bs _)) rfl (So.q rfl rfl (V.mv (v := .p (.v (.int .i64 ((_ : Nat) : Int)))) rfl (So.q rfl rfl (V.quoI rfl rfl (by omega) (So.q rfl rfl (V.ixBs (mi := s / 2) ty22 ty5 rfl rfl rfl (by omega) (by omega) (So.q rfl rfl (V.ldRp ty5 rfl rfl (lk rfl) (v := (.u8 _)) rfl (So.q rfl rfl (V.mv (v := .p (.v (.int .i64 ((_ : Nat) : Int)))) rfl (So.q rfl rfl (V.remI rfl rfl (by omega) (So.q rfl rfl (V.mulI rfl rfl (by omega) (So.q rfl rfl (V.bin (a := (.u8 _)) (b := (.v (.int .i64 _))) (r := .u8 _) rfl rfl rfl (by first | rfl | omega | (simp; done) | (simp; omega)) (So.q rfl rfl (V.as (v := .p (.u8 _)) rfl ?_)))))))))))))))))))
   refine So.e ?_
   show HT _ _ _ _ _
   refine R.tell [(7, .p (.u8 (fourF b s)))] [] [0, 2, 3, 4, 5, 6, 13] [1, 2, 3] (fr0 := [(0, .p (.bs _)), (2, .ptr 1 0), (3, .p (.v (.int .i64 _))), (4, .ptr 2 0), (5, .ptr 3 0), (6, .p (.v (.int .i64 ((_ : Nat) : Int)))), (13, .p (.v (.int .i64 ((_ : Nat) : Int))))]) (O0 := [(1, ⟨_, _, _, _, .rows _⟩), (2, ⟨_, _, _, _, .rows _⟩), (3, ⟨_, _, _, _, .rows _⟩)]) rfl rfl ⟨⟨⟨le_u8 (by first | rfl | exact four_eq b s), trivial⟩, ⟨.refl _, trivial⟩, ⟨.refl _, rfl⟩, ⟨.refl _, trivial⟩, ⟨.refl _, rfl⟩, ⟨.refl _, rfl⟩, ⟨.refl _, trivial⟩, ⟨.refl _, trivial⟩, trivial⟩, ⟨⟨_, rfl, .inl rfl, trivial⟩, ⟨_, rfl, .inl rfl, trivial⟩, ⟨_, rfl, .inl rfl, trivial⟩, trivial⟩⟩ ?_
   show HT _ _ _ _ _
   refine HT.tail S_centred_ok mixed 12 (by kernel_rfl) (by kernel_rfl) ?_
   have ha1 := and3 (fourF b s)
   have ha2 := and3 (u8Shr (fourF b s) 2)
   have hm1 := mN_b (fourF b s &&& 3).toNat
   have hm2 := mN_b (u8Shr (fourF b s) 2 &&& 3).toNat
   refine So.q rfl rfl (V.mv (v := .p (.v (.int .i64 ((_ : Nat) : Int)))) rfl (So.q rfl rfl (V.mv (v := .p (.u8 _)) rfl (So.q rfl rfl (V.bin (a := (.u8 _)) (b := (.u8 3)) (r := .u8 _) rfl rfl rfl trivial (So.q rfl rfl (V.ixArrP10T (mi := (fourF b s &&& 3).toNat) ty36 ty3 rfl rfl rfl (by first | rfl | omega | (simp; done) | (simp; omega)) rfl (by omega) (by omega) (So.q rfl rfl (V.ldPtr ty3 rfl rfl rfl (by first | rfl | omega | (simp; done) | (simp; omega)) (v := .p (.v (.int .i64 _))) rfl (So.q rfl rfl (V.mv (v := .p (.u8 _)) rfl (So.q rfl rfl (V.shrC (n := 2) (a := (.u8 _)) (b := (.u64 2)) (r := .u8 (u8Shr _ 2)) rfl rfl rfl rfl (So.q rfl rfl (V.bin (a := (.u8 _)) (b := (.u8 3)) (r := .u8 _) rfl rfl rfl trivial (So.q rfl rfl (V.ixArrP10T (mi := (u8Shr (fourF b s) 2 &&& 3).toNat) ty36 ty3 rfl rfl rfl (by first | rfl | omega | (simp; done) | (simp; omega)) rfl (by omega) (by omega) (So.q rfl rfl (V.ldPtr ty3 rfl rfl rfl (by first | rfl | omega | (simp; done) | (simp; omega)) (v := .p (.v (.int .i64 _))) rfl ?_)))))))))))))))))))
   refine So.q rfl rfl (V.subI rfl rfl (by omega) (So.q rfl rfl (V.ixArrP10 ty25 ty3 rfl rfl rfl (by first | rfl | omega | (simp; done) | (simp; omega)) rfl (by omega) (Int.toNat_natCast _) (So.s (A.sto ty3 rfl rfl rfl (v := .p (.v (.int .i64 _))) rfl rfl rfl (by first | rfl | omega | (simp; done) | (simp; omega)) (c' := .rows (fun j => .v (.int .i64 (if j = s then cnP b s else if j < s then cnP b j else 0)))) (congrArg (fun g => some (OC.rows g)) (funext fun j => by by_cases h9 : j = s <;> simp [h9, cnP])) rfl (So.e (HT.region S_centred_ok (So.q rfl rfl (V.addI rfl rfl (by omega) (So.q rfl rfl (V.mv (v := .p (.v (.int .i64 _))) rfl (So.e ?_))))))))))))
   refine ⟨s + 1, by first | rfl | omega | (simp; done) | (simp; omega), by omega, ⟨⟨⟨le_int (by first | rfl | omega | (simp; done) | (simp; omega)), trivial⟩, ⟨.refl _, trivial⟩, ⟨.refl _, rfl⟩, ⟨.refl _, trivial⟩, ⟨.refl _, rfl⟩, ⟨.refl _, rfl⟩, trivial⟩, ⟨⟨_, rfl, .inr (ob_rows (by first | rfl | ((try dsimp only); first | rfl | omega | (intro j hj; exact cn_put j))) (by first | rfl | ((try dsimp only); first | rfl | omega | (intro j hj; exact cn_put j)))), trivial⟩, ⟨_, rfl, .inl rfl, trivial⟩, ⟨_, rfl, .inl rfl, trivial⟩, trivial⟩⟩⟩
  ·have h2 := of_decide_eq_false h2
   refine HT.exit ?_
   show HT _ _ _ _ _
   refine HT.seq (HT.region S_centred_ok (So.q rfl rfl (V.ldPtrA ty25 rfl rfl rfl rfl (lk rfl) ?_)))
   refine So.n (lk rfl) (A.call0 [.agg 256 _] 4 rfl rfl rfl rfl ⟨trivial, trivial⟩ trivial _ ⟨.refl _, trivial⟩ trivial (by trivial) (Φ := fun _ => True) (fun _ _ => trivial) (.inl rfl) (v := .agg 256 _) rfl (O' := _) rfl (fun h3 => ?_))
   refine So.s (A.stoAg ty25 rfl (n := 256) rfl (by decide) (by intro j hj; first | rfl | trivial) rfl rfl rfl (So.q rfl rfl (V.as (v := .p (.v (.int .i64 (0)))) rfl (So.e ?_))))
   show HT _ _ _ _ _
   refine HT.ret ?_
   exact retC_ok (sg []) [(2, .ptr 1 0), (3, .p (.v (.int .i64 ((cenF b).2))))] [(1, ⟨25, 1, 256, true, .rows (fun j => .v (.int .i64 ((cenF b).1 j)))⟩)] h ⟨⟨⟨.refl _, rfl⟩, ⟨le_int (by first | rfl | (unfold cenF; rw [if_neg (show ¬ b.length ≠ 128 by omega)]; first | done | rfl) | (unfold cenF; rw [if_pos (show b.length ≠ 128 by omega)]; first | done | rfl) | (unfold cenF; rw [if_neg (show ¬ b.length ≠ 128 by omega)]; replace hP0 : s = 256 := (by omega); subst hP0; simp [hj]; done)), trivial⟩, trivial⟩, ⟨⟨_, rfl, .inr (ob_rows rfl (by intro j hj; first | rfl | ((try dsimp only); (first | rfl | (unfold cenF; rw [if_neg (show ¬ b.length ≠ 128 by omega)]; first | done | rfl) | (unfold cenF; rw [if_pos (show b.length ≠ 128 by omega)]; first | done | rfl) | (unfold cenF; rw [if_neg (show ¬ b.length ≠ 128 by omega)]; replace hP0 : s = 256 := (by omega); subst hP0; simp [hj]; done))))), trivial⟩, trivial⟩⟩ ⟨rvA_cell ty25 rfl rfl rfl rfl (Nat.le_refl _) (le_agg (fun j _ => by first | rfl | (dsimp only; rw [Nat.zero_add]))), .refl _, trivial⟩ trivial rfl trivial ⟨trivial, trivial, trivial⟩ rfl
end Go.Vh

set_option linter.unusedVariables false
set_option linter.unusedSimpArgs false
namespace Go.Vh
open Go Go.Vc Go.Proofs Go.Vw Go.Vk
def r4modSp : Sp := ⟨[], mkE (α := Int) (fun n => [.p (.v (.int .i64 (n)))]) (fun n => []) (fun n => True) (fun n => [.p (.v (.int .i64 (n % 3329)))]) (fun n => [])⟩
def S_r4mod : FuncId → Option Sp := fun _ => none
theorem S_r4mod_ok : ∀ f s, S_r4mod f = some s → FOK Tryd.prog gl f s := fun f s h => by cases h
set_option maxHeartbeats 1000000 in
set_option maxRecDepth 1000 in
theorem r4mod_ok : FOK Tryd.prog gl 27 r4modSp := by
 refine FOK.ofE (tyOf_ok Tryd.prog) (slots := [2]) (nt := 10) Tryd.func27 rfl rfl rfl rfl (by decide) 1 (fun _ => rfl) (by decide) (fun _ => ⟨trivial, trivial⟩) ?_
 rintro n kk hlen hpre h
 replace hpre : True := hpre
 show HT (cx Tryd.prog 10 (tyOf Tryd.prog) gl []) _ [(0, .p (.v (.int .i64 (n))))] [] _
 refine HT.seq (HT.region S_r4mod_ok (So.q rfl rfl (V.as (v := .p (.v (.int .i64 (0)))) rfl (So.e (HT.seq (HT.region S_r4mod_ok (So.q rfl rfl (V.mv (v := .p (.v (.int .i64 _))) rfl (So.q rfl rfl (V.bin (a := (.v (.int .i64 _))) (b := (.v (.int .i64 (3329)))) (r := .v (.int .i64 _)) rfl rfl rfl (by omega) (So.q rfl rfl (V.as (v := .p (.v (.int .i64 _))) rfl (So.e ?_)))))))))))))
 show HT _ _ _ _ _
 refine HT.seq (HT.seq (HT.region S_r4mod_ok ?_))
 have hb := tmod_lb (n := n) (m := 3329) (by omega)
 refine So.q rfl rfl (V.mv (v := .p (.v (.int .i64 _))) rfl (So.q rfl rfl (V.bin (a := (.v (.int .i64 _))) (b := (.v (.int .i64 (0)))) (r := .v (.bool _)) rfl rfl rfl trivial (So.e ?_))))
 show HT _ _ _ _ _
 refine R.cond rfl rfl (fun h1 => ?_) (fun h1 => ?_)
 ·have h1 := of_decide_eq_true h1
  refine HT.region S_r4mod_ok (So.q rfl rfl (V.mv (v := .p (.v (.int .i64 _))) rfl (So.q rfl rfl (V.addI rfl rfl (by omega) (So.q rfl rfl (V.as (v := .p (.v (.int .i64 _))) rfl (So.e (HT.seq (HT.region S_r4mod_ok (So.q rfl rfl (V.mv (v := .p (.v (.int .i64 _))) rfl (So.q rfl rfl (V.as (v := .p (.v (.int .i64 _))) rfl (So.e ?_))))))))))))))
  show HT _ _ _ _ _
  refine HT.ret ?_
  exact ret_ok (sg []) h rfl rfl rfl trivial ⟨trivial, trivial⟩ rfl ⟨⟨⟨le_int (by first | rfl | (exact mod_neg (by omega) (by omega)) | (exact mod_pos (by omega) (by omega))), trivial⟩, trivial⟩, trivial⟩
 ·have h1 := of_decide_eq_false h1
  refine HT.skip (HT.seq (HT.region S_r4mod_ok (So.q rfl rfl (V.mv (v := .p (.v (.int .i64 _))) rfl (So.q rfl rfl (V.as (v := .p (.v (.int .i64 _))) rfl (So.e ?_)))))))
  show HT _ _ _ _ _
  refine HT.ret ?_
  exact ret_ok (sg []) h rfl rfl rfl trivial ⟨trivial, trivial⟩ rfl ⟨⟨⟨le_int (by first | rfl | (exact mod_neg (by omega) (by omega)) | (exact mod_pos (by omega) (by omega))), trivial⟩, trivial⟩, trivial⟩
def r4ModSp : Sp := ⟨[], mkE (α := (Nat → Int)) (fun p => [.agg 256 (fun j => .v (.int .i64 (p j)))]) (fun p => []) (fun p => True) (fun p => [.agg 256 (fun j => .v (.int .i64 (p j % 3329)))]) (fun p => [])⟩
def S_r4Mod : FuncId → Option Sp := fun f => if f = 27 then some r4modSp else none
theorem S_r4Mod_ok : ∀ f s, S_r4Mod f = some s → FOK Tryd.prog gl f s := fun f s h => by
 unfold S_r4Mod at h
 split at h
 ·rename_i e; cases h; subst e; exact r4mod_ok
 cases h
set_option maxHeartbeats 1000000 in
set_option maxRecDepth 20000 in
theorem r4Mod_ok : FOK Tryd.prog gl 20 r4ModSp := by
 refine FOK.ofEC (tyOf_ok Tryd.prog) (rvs := [.cell 2 25]) (nt := 15) Tryd.func20 rfl rfl rfl rfl (by decide) 1 (fun _ => rfl) (by decide) (fun _ => ⟨trivial, trivial⟩) ?_
 rintro p kk hlen hpre h
 replace hpre : True := hpre
 show HT (cx Tryd.prog 15 (tyOf Tryd.prog) gl []) _ [(0, .agg 256 (fun j => .v (.int .i64 (p j))))] [] _
 refine HT.seq (HT.region S_r4Mod_ok (So.n (lk rfl) (A.boxAg 1 1 (n := 256) rfl (by intro j hj; first | rfl | trivial | (split <;> first | rfl | trivial | (split <;> first | rfl | trivial))) rfl trivial (So.n (lk rfl) (A.alloc 2 1 ty25 rfl trivial (f := fun _ => .v (.int .i64 0)) (fun _ _ => rfl) (So.e (HT.seq (HT.seq (HT.region S_r4Mod_ok (So.q rfl rfl (V.as (v := .p (.v (.int .i64 (0)))) rfl (So.e ?_))))))))))))
 show HT _ _ _ _ _
 refine HT.block ?_
 refine R.loop (σ := Nat) (fun s => [(3, .p (.v (.int .i64 ((s : Int)))))]) (fun s => [(1, ⟨25, 1, 256, true, .rows (fun j => .v (.int .i64 (if j < s then p j % 3329 else p j)))⟩)]) [1, 2] [2] (fun s => s ≤ 256) (fun s => 256 - s) (0) (fr0 := [(1, .ptr 1 0), (2, .ptr 2 0)]) (O0 := [(2, ⟨_, _, _, _, .rows _⟩)]) rfl rfl (by first | rfl | omega | (simp; done) | (simp; omega)) ⟨⟨⟨le_int (by first | rfl | omega | (simp; done)), trivial⟩, ⟨.refl _, rfl⟩, ⟨.refl _, rfl⟩, trivial⟩, ⟨⟨_, rfl, .inr (ob_rows (by first | rfl | ((try dsimp only); first | rfl | omega | (simp; done))) (by first | rfl | ((try dsimp only); first | rfl | omega | (simp; done)))), trivial⟩, ⟨_, rfl, .inl rfl, trivial⟩, trivial⟩⟩ (fun s hP0 => ?_)
 refine HT.seq (HT.seq (HT.region S_r4Mod_ok (So.q rfl rfl (V.mv (v := .p (.v (.int .i64 ((_ : Nat) : Int)))) rfl (So.q rfl rfl (V.bin (a := (.v (.int .i64 ((_ : Nat) : Int)))) (b := (.v (.int .i64 (256)))) (r := .v (.bool _)) rfl rfl rfl trivial (So.e ?_)))))))
 show HT _ _ _ _ _
 refine R.cond rfl rfl (fun h1 => ?_) (fun h1 => ?_)
 ·have h1 := of_decide_eq_true h1
  refine HT.skip (HT.seq (HT.block (HT.region S_r4Mod_ok (So.q rfl rfl (V.mv (v := .p (.v (.int .i64 ((_ : Nat) : Int)))) rfl (So.q rfl rfl (V.mv (v := .p (.v (.int .i64 ((_ : Nat) : Int)))) rfl (So.q rfl rfl (V.ixArrP10 ty25 ty3 rfl rfl rfl (by first | rfl | omega | (simp; done) | (simp; omega)) rfl (by omega) (Int.toNat_natCast _) (So.q rfl rfl (V.ldPtr ty3 rfl rfl rfl (by first | rfl | omega | (simp; done) | (simp; omega)) (v := .p (.v (.int .i64 _))) rfl ?_)))))))))))
  refine So.n (lk rfl) (A.call0 [.p (.v (.int .i64 _))] 3 rfl rfl rfl rfl ⟨trivial, trivial⟩ trivial _ ⟨.refl _, trivial⟩ trivial (by trivial) (Φ := fun _ => True) (fun _ _ => trivial) (.inl rfl) (v := .p (.v (.int .i64 _))) rfl (O' := _) rfl (fun h2 => ?_))
  refine So.q rfl rfl (V.ixArrP10 ty25 ty3 rfl rfl rfl (by first | rfl | omega | (simp; done) | (simp; omega)) rfl (by omega) (Int.toNat_natCast _) (So.s (A.sto ty3 rfl rfl rfl (v := .p (.v (.int .i64 _))) rfl rfl rfl (by first | rfl | omega | (simp; done) | (simp; omega)) (c' := .rows (fun j => .v (.int .i64 (if j < s + 1 then p j % 3329 else p j)))) (congrArg (fun g => some (OC.rows g)) (funext fun j => by by_cases h9 : j = s; (subst h9; simp); (by_cases h8 : j < s <;> simp [h9, h8] <;> (intro h7; omega)))) rfl (So.e (HT.region S_r4Mod_ok (So.q rfl rfl (V.mv (v := .p (.v (.int .i64 ((_ : Nat) : Int)))) rfl (So.q rfl rfl (V.addI rfl rfl (by omega) (So.q rfl rfl (V.as (v := .p (.v (.int .i64 _))) rfl (So.e ?_))))))))))))
  refine ⟨s + 1, by first | rfl | omega | (simp; done) | (simp; omega), by omega, ⟨⟨⟨le_int (by first | rfl | omega | (simp; done) | (simp; omega)), trivial⟩, ⟨.refl _, rfl⟩, ⟨.refl _, rfl⟩, trivial⟩, ⟨⟨_, rfl, .inr (ob_rows (by first | rfl | ((try dsimp only); first | rfl | omega | (simp; done) | (simp; omega))) (by first | rfl | ((try dsimp only); first | rfl | omega | (simp; done) | (simp; omega)))), trivial⟩, ⟨_, rfl, .inl rfl, trivial⟩, trivial⟩⟩⟩
 ·have h1 := of_decide_eq_false h1
  refine HT.exit ?_
  show HT _ _ _ _ _
  refine HT.seq (HT.region S_r4Mod_ok (So.q rfl rfl (V.ldPtrA ty25 rfl rfl rfl rfl (lk rfl) (So.s (A.stoAg ty25 rfl (n := 256) rfl (by decide) (by intro j hj; first | rfl | trivial) rfl rfl rfl (So.e ?_))))))
  show HT _ _ _ _ _
  refine HT.ret ?_
  exact retC_ok (sg []) [(2, .ptr 2 0)] [(2, ⟨25, 1, 256, true, .rows (fun j => .v (.int .i64 (p j % 3329)))⟩)] h ⟨⟨⟨.refl _, rfl⟩, trivial⟩, ⟨⟨_, rfl, .inr (ob_rowsL (by intro j hj; replace hP0 : s = 256 := (by omega); subst hP0; simp only [Nat.zero_add]; rw [if_pos hj]; exact .refl _)), trivial⟩, trivial⟩⟩ ⟨rvA_cell ty25 rfl rfl rfl rfl (Nat.le_refl _) (le_agg (fun j _ => by first | rfl | (dsimp only; rw [Nat.zero_add]))), trivial⟩ trivial rfl trivial ⟨trivial, trivial⟩ rfl
def rbitSp : Sp := ⟨[], mkE (α := (List UInt8) × Int) (fun (b, i) => [.p (.bs (b)), .p (.v (.int .i64 (i)))]) (fun (b, i) => []) (fun (b, i) => 0 ≤ i ∧ i / 8 < b.length ∧ i < 2147483648) (fun (b, i) => [.p (.v (.int .i64 (((bitF b i.toNat : Nat) : Int))))]) (fun (b, i) => [])⟩
def S_rbit : FuncId → Option Sp := fun _ => none
theorem S_rbit_ok : ∀ f s, S_rbit f = some s → FOK Tryd.prog gl f s := fun f s h => by cases h
set_option maxHeartbeats 1000000 in
set_option maxRecDepth 1000 in
theorem rbit_ok : FOK Tryd.prog gl 19 rbitSp := by
 refine FOK.ofE (tyOf_ok Tryd.prog) (slots := [4]) (nt := 15) Tryd.func19 rfl rfl rfl rfl (by decide) 2 (fun ⟨_, _⟩ => rfl) (by decide) (fun ⟨_, _⟩ => ⟨trivial, trivial, trivial⟩) ?_
 rintro ⟨b, i⟩ kk hlen hpre h
 have hl0 : (b).length ≤ 9223372036854775807 := hlen.1
 replace hpre : 0 ≤ i ∧ i / 8 < b.length ∧ i < 2147483648 := hpre
 show HT (cx Tryd.prog 15 (tyOf Tryd.prog) gl []) _ [(0, .p (.bs (b))), (1, .p (.v (.int .i64 (i))))] [] _
 refine HT.seq (HT.region S_rbit_ok (So.q rfl rfl (V.as (v := .p (.v (.int .i64 (0)))) rfl (So.e (HT.seq (HT.region S_rbit_ok (So.q rfl rfl (V.mv (v := .p (.bs _)) rfl (So.q rfl rfl (V.mv (v := .p (.v (.int .i64 _))) rfl (So.q rfl rfl (V.quoI rfl rfl (by omega) (So.q rfl rfl (V.ixBs ty22 ty5 rfl rfl rfl (by omega) rfl ?_))))))))))))))
 refine So.q rfl rfl (V.ldRp ty5 rfl rfl (lk rfl) (v := (.u8 _)) rfl (So.q rfl rfl (V.mv (v := .p (.v (.int .i64 _))) rfl (So.q rfl rfl (V.remI rfl rfl (by omega) (So.q rfl rfl (V.bin (a := (.u8 _)) (b := (.v (.int .i64 _))) (r := .u8 _) rfl rfl rfl (by first | rfl | omega | (simp; done) | (simp; omega)) (So.q rfl rfl (V.cvN ty3 ty5 (a := (.u8 _)) (r := (.v (.int .i64 _))) rfl rfl (So.q rfl rfl (V.bin (a := (.v (.int .i64 _))) (b := (.v (.int .i64 (1)))) (r := .v (.int .i64 _)) rfl rfl rfl trivial (So.q rfl rfl (V.as (v := .p (.v (.int .i64 _))) rfl (So.e ?_))))))))))))))
 show HT _ _ _ _ _
 refine HT.ret ?_
 exact ret_ok (sg []) h rfl rfl rfl trivial ⟨trivial, trivial⟩ rfl ⟨⟨⟨le_int (by first | rfl | exact bit_ret hpre.1), trivial⟩, trivial⟩, trivial⟩
def rcentredSp : Sp := ⟨[], mkE (α := (List UInt8)) (fun b => [.p (.bs (b))]) (fun b => []) (fun b => True) (fun b => [.agg 256 (fun j => .v (.int .i64 ((Go.Vk.cenF b).1 j))), .p (.v (.int .i64 ((Go.Vk.cenF b).2)))]) (fun b => [])⟩
def S_rcentred : FuncId → Option Sp := fun f => if f = 19 then some rbitSp else if f = 20 then some r4ModSp else none
theorem S_rcentred_ok : ∀ f s, S_rcentred f = some s → FOK Tryd.prog gl f s := fun f s h => by
 unfold S_rcentred at h
 split at h
 ·rename_i e; cases h; subst e; exact rbit_ok
 split at h
 ·rename_i e; cases h; subst e; exact r4Mod_ok
 cases h
set_option maxHeartbeats 1000000 in
set_option maxRecDepth 20000 in
theorem rcentred_ok : FOK Tryd.prog gl 10 rcentredSp := by
 refine FOK.ofEC (tyOf_ok Tryd.prog) (rvs := [.cell 2 25, .tmp 3]) (nt := 40) Tryd.func10 rfl rfl rfl rfl (by decide) 1 (fun _ => rfl) (by decide) (fun _ => ⟨trivial, trivial⟩) ?_
 rintro b kk hlen hpre h
 have hl0 : (b).length ≤ 9223372036854775807 := hlen.1
 replace hpre : True := hpre
 show HT (cx Tryd.prog 40 (tyOf Tryd.prog) gl []) _ [(0, .p (.bs (b)))] [] _
 refine HT.seq (HT.region S_rcentred_ok (So.n (lk rfl) (A.alloc 1 1 ty25 rfl trivial (f := fun _ => .v (.int .i64 0)) (fun _ _ => rfl) (So.q rfl rfl (V.as (v := .p (.v (.int .i64 (0)))) rfl (So.e (HT.seq (HT.region S_rcentred_ok (So.n (lk rfl) (A.alloc 2 1 ty25 rfl trivial (f := fun _ => .v (.int .i64 0)) (fun _ _ => rfl) (So.e (HT.seq ?_))))))))))))
 refine HT.seq (HT.region S_rcentred_ok (So.q rfl rfl (V.mv (v := .p (.bs _)) rfl (So.q rfl rfl (V.len ty22 (v := .p (.bs _)) rfl rfl (So.q rfl rfl (V.bin (a := (.v (.int .i64 _))) (b := (.v (.int .i64 (128)))) (r := .v (.bool _)) rfl rfl rfl trivial (So.e ?_))))))))
 show HT _ _ _ _ _
 refine R.cond rfl rfl (fun h1 => ?_) (fun h1 => ?_)
 ·have h1 := of_decide_eq_false (bnT h1)
  refine HT.seq (HT.region S_rcentred_ok (So.q rfl rfl (V.ldPtrA ty25 rfl rfl rfl rfl (lk rfl) (So.s (A.stoAg ty25 rfl (n := 256) rfl (by decide) (by intro j hj; first | rfl | trivial) rfl rfl rfl (So.q rfl rfl (V.as (v := .p (.v (.int .i64 (1)))) rfl (So.e ?_))))))))
  show HT _ _ _ _ _
  refine HT.ret ?_
  exact retC_ok (sg []) [(2, .ptr 1 0), (3, .p (.v (.int .i64 ((Go.Vk.cenF b).2))))] [(1, ⟨25, 1, 256, true, .rows (fun j => .v (.int .i64 ((Go.Vk.cenF b).1 j)))⟩)] h ⟨⟨⟨.refl _, rfl⟩, ⟨le_int (by first | rfl | (rw [ce_1 (by omega)]; done) | (rw [ce_0 (by omega)]; done)), trivial⟩, trivial⟩, ⟨⟨_, rfl, .inr (ob_rowsL (by intro j hj; (try simp only [Nat.zero_add]); first | (rw [ce_1 (by omega)]; exact .refl _) | (rw [ce_0 (by omega)]; exact .refl _))), trivial⟩, trivial⟩⟩ ⟨rvA_cell ty25 rfl rfl rfl rfl (Nat.le_refl _) (le_agg (fun j _ => by first | rfl | (dsimp only; rw [Nat.zero_add]))), .refl _, trivial⟩ trivial rfl trivial ⟨trivial, trivial, trivial⟩ rfl
 ·have h1 := of_decide_eq_true (bnF h1)
  refine HT.skip (HT.seq (HT.seq (HT.region S_rcentred_ok (So.q rfl rfl (V.as (v := .p (.v (.int .i64 (0)))) rfl (So.e (HT.block ?_)))))))
  refine R.loop (σ := Nat) (fun s => [(5, .p (.v (.int .i64 ((s : Int)))))]) (fun s => [(2, ⟨25, 1, 256, true, .rows (fun j => .v (.int .i64 (if j < s then Go.Vk.cnP b j else 0)))⟩)]) [0, 2, 3, 4] [1] (fun s => s ≤ 256) (fun s => 256 - s) (0) (fr0 := [(0, .p (.bs _)), (2, .ptr 1 0), (3, .p (.v (.int .i64 _))), (4, .ptr 2 0)]) (O0 := [(1, ⟨_, _, _, _, .rows _⟩)]) rfl rfl (by first | rfl | omega | (simp; done) | (simp; omega)) ⟨⟨⟨le_int (by first | rfl | omega | (intro j hj; rw [if_neg (Nat.not_lt_zero j)])), trivial⟩, ⟨.refl _, trivial⟩, ⟨.refl _, rfl⟩, ⟨.refl _, trivial⟩, ⟨.refl _, rfl⟩, trivial⟩, ⟨⟨_, rfl, .inr (ob_rows (by first | rfl | ((try dsimp only); first | rfl | omega | (intro j hj; rw [if_neg (Nat.not_lt_zero j)]))) (by first | rfl | ((try dsimp only); first | rfl | omega | (intro j hj; rw [if_neg (Nat.not_lt_zero j)])))), trivial⟩, ⟨_, rfl, .inl rfl, trivial⟩, trivial⟩⟩ (fun s hP0 => ?_)
  refine HT.seq (HT.seq (HT.region S_rcentred_ok (So.q rfl rfl (V.mv (v := .p (.v (.int .i64 ((_ : Nat) : Int)))) rfl (So.q rfl rfl (V.bin (a := (.v (.int .i64 ((_ : Nat) : Int)))) (b := (.v (.int .i64 (256)))) (r := .v (.bool _)) rfl rfl rfl trivial (So.e ?_)))))))
  show HT _ _ _ _ _
  refine R.cond rfl rfl (fun h2 => ?_) (fun h2 => ?_)
  ·have h2 := of_decide_eq_true h2
   refine HT.skip (HT.seq (HT.block (HT.region S_rcentred_ok ?_)))
   have hb0 := Go.Vk.bitF_lt b (4 * (s : Int)).toNat
   have hb1 := Go.Vk.bitF_lt b (4 * (s : Int) + 1).toNat
   have hb2 := Go.Vk.bitF_lt b (4 * (s : Int) + 2).toNat
   have hb3 := Go.Vk.bitF_lt b (4 * (s : Int) + 3).toNat
   refine So.q rfl rfl (V.mv (v := .p (.v (.int .i64 ((_ : Nat) : Int)))) rfl (So.q rfl rfl (V.mv (v := .p (.bs _)) rfl (So.q rfl rfl (V.mv (v := .p (.v (.int .i64 ((_ : Nat) : Int)))) rfl (So.q rfl rfl (V.mulI rfl rfl (by omega) ?_)))))))
   refine So.n (lk rfl) (A.call0 [.p (.bs _), .p (.v (.int .i64 _))] 3 rfl rfl rfl rfl ⟨trivial, trivial, trivial⟩ trivial (b, 4 * (s : Int)) ⟨.refl _, .refl _, trivial⟩ trivial (by first | omega | (dsimp only; omega)) (Φ := fun _ => True) (fun _ _ => trivial) (.inl rfl) (v := .p (.v (.int .i64 _))) rfl (O' := _) rfl (fun h3 => ?_))
   refine So.q rfl rfl (V.mv (v := .p (.bs _)) rfl (So.q rfl rfl (V.mv (v := .p (.v (.int .i64 ((_ : Nat) : Int)))) rfl (So.q rfl rfl (V.mulI rfl rfl (by omega) (So.q rfl rfl (V.addI rfl rfl (by omega) ?_)))))))
   refine So.n (lk rfl) (A.call0 [.p (.bs _), .p (.v (.int .i64 _))] 3 rfl rfl rfl rfl ⟨trivial, trivial, trivial⟩ trivial (_, _) ⟨.refl _, .refl _, trivial⟩ trivial (by first | omega | (dsimp only; omega)) (Φ := fun _ => True) (fun _ _ => trivial) (.inl rfl) (v := .p (.v (.int .i64 _))) rfl (O' := _) rfl (fun h4 => ?_))
   refine So.q rfl rfl (V.addI rfl rfl (by omega) (So.q rfl rfl (V.mv (v := .p (.bs _)) rfl (So.q rfl rfl (V.mv (v := .p (.v (.int .i64 ((_ : Nat) : Int)))) rfl (So.q rfl rfl (V.mulI rfl rfl (by omega) (So.q rfl rfl (V.addI rfl rfl (by omega) ?_)))))))))
   refine So.n (lk rfl) (A.call0 [.p (.bs _), .p (.v (.int .i64 _))] 3 rfl rfl rfl rfl ⟨trivial, trivial, trivial⟩ trivial (_, _) ⟨.refl _, .refl _, trivial⟩ trivial (by first | omega | (dsimp only; omega)) (Φ := fun _ => True) (fun _ _ => trivial) (.inl rfl) (v := .p (.v (.int .i64 _))) rfl (O' := _) rfl (fun h5 => ?_))
   refine So.q rfl rfl (V.subI rfl rfl (by omega) (So.q rfl rfl (V.mv (v := .p (.bs _)) rfl (So.q rfl rfl (V.mv (v := .p (.v (.int .i64 ((_ : Nat) : Int)))) rfl (So.q rfl rfl (V.mulI rfl rfl (by omega) (So.q rfl rfl (V.addI rfl rfl (by omega) ?_)))))))))
   refine So.n (lk rfl) (A.call0 [.p (.bs _), .p (.v (.int .i64 _))] 3 rfl rfl rfl rfl ⟨trivial, trivial, trivial⟩ trivial (_, _) ⟨.refl _, .refl _, trivial⟩ trivial (by first | omega | (dsimp only; omega)) (Φ := fun _ => True) (fun _ _ => trivial) (.inl rfl) (v := .p (.v (.int .i64 _))) rfl (O' := _) rfl (fun h6 => ?_))
   refine So.q rfl rfl (V.subI rfl rfl (by omega) (So.q rfl rfl (V.ixArrP10 ty25 ty3 rfl rfl rfl (by first | rfl | omega | (simp; done) | (simp; omega)) rfl (by omega) (Int.toNat_natCast _) (So.s (A.sto ty3 rfl rfl rfl (v := .p (.v (.int .i64 _))) rfl rfl rfl (by first | rfl | omega | (simp; done) | (simp; omega)) (c' := .rows (fun j => .v (.int .i64 (if j < s + 1 then Go.Vk.cnP b j else 0)))) (congrArg (fun g => some (OC.rows g)) (funext fun j => by by_cases h9 : j = s; (rw [if_pos h9, if_pos (by omega), h9]; exact congrArg (fun x => PV.v (.int .i64 x)) (cn_bits b s)); (rw [if_neg h9]; dsimp only; by_cases h8 : j < s; (rw [if_pos h8, if_pos (by omega)]); (rw [if_neg h8, if_neg (by omega)])))) rfl (So.e (HT.region S_rcentred_ok (So.q rfl rfl (V.mv (v := .p (.v (.int .i64 ((_ : Nat) : Int)))) rfl (So.q rfl rfl (V.addI rfl rfl (by omega) (So.q rfl rfl (V.as (v := .p (.v (.int .i64 _))) rfl (So.e ?_))))))))))))))
   refine ⟨s + 1, by first | rfl | omega | (simp; done) | (simp; omega), by omega, ⟨⟨⟨le_int (by first | rfl | omega | (simp; done) | (simp; omega)), trivial⟩, ⟨.refl _, trivial⟩, ⟨.refl _, rfl⟩, ⟨.refl _, trivial⟩, ⟨.refl _, rfl⟩, trivial⟩, ⟨⟨_, rfl, .inr (ob_rows (by first | rfl | ((try dsimp only); first | rfl | omega | (simp; done) | (simp; omega))) (by first | rfl | ((try dsimp only); first | rfl | omega | (simp; done) | (simp; omega)))), trivial⟩, ⟨_, rfl, .inl rfl, trivial⟩, trivial⟩⟩⟩
  ·have h2 := of_decide_eq_false h2
   refine HT.exit ?_
   show HT _ _ _ _ _
   refine HT.seq (HT.region S_rcentred_ok (So.q rfl rfl (V.ldPtrA ty25 rfl rfl rfl rfl (lk rfl) ?_)))
   refine So.n (lk rfl) (A.call0 [.agg 256 _] 3 rfl rfl rfl rfl ⟨trivial, trivial⟩ trivial (Go.Vk.cnP b) ⟨le_agg (fun j hj => by first | rfl | (replace hP0 : s = 256 := (by omega); subst hP0; simp only [Nat.zero_add]; rw [if_pos hj])), trivial⟩ trivial (by trivial) (Φ := fun _ => True) (fun _ _ => trivial) (.inl rfl) (v := .agg 256 _) rfl (O' := _) rfl (fun h7 => ?_))
   refine So.s (A.stoAg ty25 rfl (n := 256) rfl (by decide) (by intro j hj; first | rfl | trivial) rfl rfl rfl (So.q rfl rfl (V.as (v := .p (.v (.int .i64 (0)))) rfl (So.e ?_))))
   show HT _ _ _ _ _
   refine HT.ret ?_
   exact retC_ok (sg []) [(2, .ptr 1 0), (3, .p (.v (.int .i64 ((Go.Vk.cenF b).2))))] [(1, ⟨25, 1, 256, true, .rows (fun j => .v (.int .i64 ((Go.Vk.cenF b).1 j)))⟩)] h ⟨⟨⟨.refl _, rfl⟩, ⟨le_int (by first | rfl | (rw [ce_1 (by omega)]; done) | (rw [ce_0 (by omega)]; done)), trivial⟩, trivial⟩, ⟨⟨_, rfl, .inr (ob_rowsL (by intro j hj; (try simp only [Nat.zero_add]); first | (rw [ce_1 (by omega)]; exact .refl _) | (rw [ce_0 (by omega)]; exact .refl _))), trivial⟩, trivial⟩⟩ ⟨rvA_cell ty25 rfl rfl rfl rfl (Nat.le_refl _) (le_agg (fun j _ => by first | rfl | (dsimp only; rw [Nat.zero_add]))), .refl _, trivial⟩ trivial rfl trivial ⟨trivial, trivial, trivial⟩ rfl
end Go.Vh

set_option linter.unusedVariables false
set_option linter.unusedSimpArgs false
namespace Go.Vh
open Go Go.Vc Go.Proofs Go.Vw Go.Vk
def kturnsSp : Sp := ⟨[], mkE (α := Unit) (fun _ => []) (fun _ => []) (fun _ => True) (fun _ => [.agg 25 (fun j => .v (.int .i64 ((tL.getD j 0 : Nat) : Int)))]) (fun _ => [])⟩
def S_kturns : FuncId → Option Sp := fun _ => none
theorem S_kturns_ok : ∀ f s, S_kturns f = some s → FOK Tryd.prog gl f s := fun f s h => by cases h
set_option maxHeartbeats 1000000 in
set_option maxRecDepth 20000 in
theorem kturns_ok : FOK Tryd.prog gl 40 kturnsSp := by
 refine FOK.ofEC (tyOf_ok Tryd.prog) (rvs := [.cell 0 66]) (nt := 30) Tryd.func40 rfl rfl rfl rfl (by decide) 0 (fun _ => rfl) (by decide) (fun _ => trivial) ?_
 rintro _ kk hlen hpre h
 replace hpre : True := hpre
 show HT (cx Tryd.prog 30 (tyOf Tryd.prog) gl []) _ [] [] _
 refine HT.seq (HT.region S_kturns_ok (So.n (lk rfl) (A.alloc 1 5 ty66 rfl trivial (f := fun _ => .v (.int .i64 0)) (fun _ _ => rfl) (So.e (HT.seq (HT.region S_kturns_ok (So.n (lk rfl) (A.alloc 2 5 ty66 rfl trivial (f := fun _ => .v (.int .i64 0)) (fun _ _ => rfl) (So.e (HT.seq (HT.region S_kturns_ok ?_)))))))))))
 refine So.q rfl rfl (V.as (v := .p (.v (.int .i64 (1)))) rfl (So.e (HT.seq (HT.region S_kturns_ok (So.q rfl rfl (V.as (v := .p (.v (.int .i64 (0)))) rfl (So.e (HT.seq (HT.seq (HT.region S_kturns_ok (So.q rfl rfl (V.as (v := .p (.v (.int .i64 (0)))) rfl ?_))))))))))))
 refine So.e (HT.block ?_)
 refine R.loop (σ := Nat) (fun i => [(4, .p (.v (.int .i64 ((i : Int))))), (2, .p (.v (.int .i64 (((xT i : Nat) : Int))))), (3, .p (.v (.int .i64 (((yT i : Nat) : Int)))))]) (fun i => [(2, ⟨66, 5, 25, true, .rows (fun j => .v (.int .i64 ((tP i j : Nat) : Int)))⟩)]) [0, 1] [1] (fun i => i ≤ 24) (fun i => 24 - i) (0) (fr0 := [(0, .ptr 1 0), (1, .ptr 2 0)]) (O0 := [(1, ⟨_, _, _, _, .rows _⟩)]) rfl rfl (by first | rfl | omega | (intro j hj; rfl) | (simp; done) | (simp; omega)) ⟨⟨⟨le_int (by first | rfl | omega | (intro j hj; rfl) | (simp; done) | (simp; omega)), trivial⟩, ⟨le_int (by first | rfl | omega | (intro j hj; rfl) | (simp; done) | (simp; omega)), trivial⟩, ⟨le_int (by first | rfl | omega | (intro j hj; rfl) | (simp; done) | (simp; omega)), trivial⟩, ⟨.refl _, rfl⟩, ⟨.refl _, rfl⟩, trivial⟩, ⟨⟨_, rfl, .inr (ob_rows (by first | rfl | ((try dsimp only); first | rfl | omega | (intro j hj; rfl) | (simp; done) | (simp; omega))) (by first | rfl | ((try dsimp only); first | rfl | omega | (intro j hj; rfl) | (simp; done) | (simp; omega)))), trivial⟩, ⟨_, rfl, .inl rfl, trivial⟩, trivial⟩⟩ (fun i hP0 => ?_)
 refine HT.seq (HT.seq (HT.region S_kturns_ok (So.q rfl rfl (V.mv (v := .p (.v (.int .i64 ((_ : Nat) : Int)))) rfl (So.q rfl rfl (V.bin (a := (.v (.int .i64 ((_ : Nat) : Int)))) (b := (.v (.int .i64 (24)))) (r := .v (.bool _)) rfl rfl rfl trivial (So.e ?_)))))))
 show HT _ _ _ _ _
 refine R.cond rfl rfl (fun h1 => ?_) (fun h1 => ?_)
 ·have h1 := of_decide_eq_true h1
  refine HT.skip (HT.seq (HT.block (HT.seq (HT.region S_kturns_ok ?_))))
  have htb := turn_b ⟨i, by omega⟩
  simp only at htb
  obtain ⟨hx, hy, hv, hn, hm, _⟩ := htb
  have hv2 : ((i : Int) + 1) * ((i : Int) + 2) / 2 % 64 = ((tL.getD (xT i * 5 + yT i) 0 : Nat) : Int) := by rw [← hv]; rfl
  have hmul : 0 ≤ ((i : Int) + 1) * ((i : Int) + 2) ∧ ((i : Int) + 1) * ((i : Int) + 2) ≤ 600 := ⟨Int.mul_nonneg (by omega) (by omega), Int.le_trans (Int.mul_le_mul (show (i : Int) + 1 ≤ 24 by omega) (show (i : Int) + 2 ≤ 25 by omega) (by omega) (by omega)) (by decide)⟩
  refine So.q rfl rfl (V.mv (v := .p (.v (.int .i64 _))) rfl (So.q rfl rfl (V.mv (v := .p (.v (.int .i64 _))) rfl (So.q rfl rfl (V.mv (v := .p (.v (.int .i64 ((_ : Nat) : Int)))) rfl (So.q rfl rfl (V.addI rfl rfl (by omega) (So.q rfl rfl (V.mv (v := .p (.v (.int .i64 ((_ : Nat) : Int)))) rfl (So.q rfl rfl (V.addI rfl rfl (by omega) (So.q rfl rfl (V.mulI rfl rfl (by constructor; (exact Int.le_trans (by decide) (Int.mul_nonneg (by omega) (by omega))); (exact Int.le_trans (Int.mul_le_mul (show (i : Int) + 1 ≤ 24 by omega) (show (i : Int) + 2 ≤ 25 by omega) (by omega) (by omega)) (by decide))) (So.q rfl rfl (V.quoI rfl rfl (by omega) (So.q rfl rfl (V.remI rfl rfl (by omega) (So.q rfl rfl (V.ixArrPS0 (mi := xT i) (s := 5) ty66 ty65 rfl rfl rfl (by first | rfl | omega | (intro j hj; rfl) | (simp; done) | (simp; omega)) rfl (by omega) (by omega) ?_)))))))))))))))))))
  refine So.q rfl rfl (V.ixArrP1 (mi := yT i) ty65 ty3 rfl rfl rfl (by first | rfl | omega | (intro j hj; rfl) | (simp; done) | (simp; omega)) rfl (by omega) (by omega) (So.s (A.sto ty3 rfl rfl rfl (v := .p (.v (.int .i64 _))) rfl rfl rfl (by first | rfl | omega | (intro j hj; rfl) | (simp; done) | (simp; omega)) (c' := .rows (fun j => .v (.int .i64 ((tP (i + 1) j : Nat) : Int)))) (congrArg (fun g => some (OC.rows g)) (funext fun j => by simp only [hv2]; rw [← tP_put (by omega) j]; by_cases h9 : j = xT i * 5 + yT i <;> simp [h9])) rfl (So.e (HT.seq (HT.region S_kturns_ok (So.q rfl rfl (V.mv (v := .p (.v (.int .i64 _))) rfl (So.q rfl rfl (V.mulI rfl rfl (by omega) (So.q rfl rfl (V.mv (v := .p (.v (.int .i64 _))) rfl (So.q rfl rfl (V.mulI rfl rfl (by omega) (So.q rfl rfl (V.addI rfl rfl (by omega) ?_))))))))))))))))
  refine So.q rfl rfl (V.remI rfl rfl (by omega) (So.q rfl rfl (V.as (v := .p (.v (.int .i64 _))) rfl (So.e (HT.seq (HT.region S_kturns_ok (So.q rfl rfl (V.mv (v := .p (.v (.int .i64 _))) rfl (So.q rfl rfl (V.as (v := .p (.v (.int .i64 _))) rfl (So.e (HT.region S_kturns_ok (So.q rfl rfl (V.mv (v := .p (.v (.int .i64 _))) rfl ?_))))))))))))))
  refine So.q rfl rfl (V.as (v := .p (.v (.int .i64 _))) rfl (So.e (HT.region S_kturns_ok (So.q rfl rfl (V.mv (v := .p (.v (.int .i64 ((_ : Nat) : Int)))) rfl (So.q rfl rfl (V.addI rfl rfl (by omega) (So.q rfl rfl (V.as (v := .p (.v (.int .i64 _))) rfl (So.e ?_))))))))))
  refine ⟨i + 1, by first | rfl | omega | (intro j hj; rfl) | (simp; done) | (simp; omega), by omega, ⟨⟨⟨le_int (by first | rfl | omega | (intro j hj; rfl) | (simp; done) | (simp; omega)), trivial⟩, ⟨le_int (by first | rfl | omega | (intro j hj; rfl) | (simp; done) | (simp; omega)), trivial⟩, ⟨le_int (by first | rfl | omega | (intro j hj; rfl) | (simp; done) | (simp; omega)), trivial⟩, ⟨.refl _, rfl⟩, ⟨.refl _, rfl⟩, trivial⟩, ⟨⟨_, rfl, .inr (ob_rows (by first | rfl | ((try dsimp only); first | rfl | omega | (intro j hj; rfl) | (simp; done) | (simp; omega))) (by first | rfl | ((try dsimp only); first | rfl | omega | (intro j hj; rfl) | (simp; done) | (simp; omega)))), trivial⟩, ⟨_, rfl, .inl rfl, trivial⟩, trivial⟩⟩⟩
 ·have h1 := of_decide_eq_false h1
  refine HT.exit ?_
  show HT _ _ _ _ _
  refine HT.seq (HT.region S_kturns_ok (So.q rfl rfl (V.ldPtrA ty66 rfl rfl rfl rfl (lk rfl) (So.s (A.stoAg ty66 rfl (n := 25) rfl (by decide) (by intro j hj; first | rfl | trivial) rfl rfl rfl (So.e ?_))))))
  show HT _ _ _ _ _
  refine HT.ret ?_
  exact retC_ok (sg []) [(0, .ptr 1 0)] [(1, ⟨66, 5, 25, true, .rows (fun j => .v (.int .i64 ((tL.getD j 0 : Nat) : Int)))⟩)] h ⟨⟨⟨.refl _, rfl⟩, trivial⟩, ⟨⟨_, rfl, .inr (ob_rowsL (by intro j hj; replace hP0 : i = 24 := (by omega); subst hP0; simp only [Nat.zero_add]; rw [tP_25 hj]; exact .refl _)), trivial⟩, trivial⟩⟩ ⟨rvA_cell ty66 rfl rfl rfl rfl (Nat.le_refl _) (le_agg (fun j _ => by first | rfl | (dsimp only; rw [Nat.zero_add]))), trivial⟩ trivial rfl trivial ⟨trivial, trivial⟩ rfl
end Go.Vh

set_option linter.unusedVariables false
set_option linter.unusedSimpArgs false
namespace Go.Vh
open Go Go.Vc Go.Proofs Go.Vw Go.Vk
def kconstsSp : Sp := ⟨[], mkE (α := Unit) (fun _ => []) (fun _ => []) (fun _ => True) (fun _ => [.agg 24 (fun j => .u64 (constL.getD j 0))]) (fun _ => [])⟩
def S_kconsts : FuncId → Option Sp := fun _ => none
theorem S_kconsts_ok : ∀ f s, S_kconsts f = some s → FOK Tryd.prog gl f s := fun f s h => by cases h
set_option maxHeartbeats 1000000 in
set_option maxRecDepth 20000 in
theorem kconsts_ok : FOK Tryd.prog gl 41 kconstsSp := by
 refine FOK.ofEC (tyOf_ok Tryd.prog) (rvs := [.cell 0 68]) (nt := 33) Tryd.func41 rfl rfl rfl rfl (by decide) 0 (fun _ => rfl) (by decide) (fun _ => trivial) ?_
 rintro _ kk hlen hpre h
 replace hpre : True := hpre
 show HT (cx Tryd.prog 33 (tyOf Tryd.prog) gl []) _ [] [] _
 refine HT.seq (HT.region S_kconsts_ok (So.n (lk rfl) (A.alloc 1 1 ty68 rfl trivial (f := fun _ => .u64 0) (fun _ _ => rfl) (So.e (HT.seq (HT.region S_kconsts_ok (So.n (lk rfl) (A.alloc 2 1 ty68 rfl trivial (f := fun _ => .u64 0) (fun _ _ => rfl) (So.e (HT.seq (HT.region S_kconsts_ok ?_)))))))))))
 refine So.q rfl rfl (V.as (v := .p (.v (.int .i64 (1)))) rfl (So.e (HT.seq (HT.seq (HT.region S_kconsts_ok (So.q rfl rfl (V.as (v := .p (.v (.int .i64 (0)))) rfl (So.e (HT.block ?_)))))))))
 refine R.loop (σ := Nat) (fun i => [(3, .p (.v (.int .i64 ((i : Int))))), (2, .p (.v (.int .i64 (((rT (7 * i) : Nat) : Int)))))]) (fun i => [(2, ⟨68, 1, 24, true, .rows (fun m => .u64 (lP (7 * i) m))⟩)]) [0, 1] [1] (fun i => i ≤ 24) (fun i => 24 - i) (0) (fr0 := [(0, .ptr 1 0), (1, .ptr 2 0)]) (O0 := [(1, ⟨_, _, _, _, .rows _⟩)]) rfl rfl (by first | rfl | omega | (intro j hj; rfl) | (simp; done) | (simp; omega)) ⟨⟨⟨le_int (by first | rfl | omega | (intro j hj; rfl) | (simp; done) | (simp; omega) | (intro m hm; exact congrArg PV.u64 (lP_0 m).symm)), trivial⟩, ⟨le_int (by first | rfl | omega | (intro j hj; rfl) | (simp; done) | (simp; omega) | (intro m hm; exact congrArg PV.u64 (lP_0 m).symm)), trivial⟩, ⟨.refl _, rfl⟩, ⟨.refl _, rfl⟩, trivial⟩, ⟨⟨_, rfl, .inr (ob_rows (by first | rfl | ((try dsimp only); first | rfl | omega | (intro j hj; rfl) | (simp; done) | (simp; omega) | (intro m hm; exact congrArg PV.u64 (lP_0 m).symm))) (by first | rfl | ((try dsimp only); first | rfl | omega | (intro j hj; rfl) | (simp; done) | (simp; omega) | (intro m hm; exact congrArg PV.u64 (lP_0 m).symm)))), trivial⟩, ⟨_, rfl, .inl rfl, trivial⟩, trivial⟩⟩ (fun i hP0 => ?_)
 refine HT.seq (HT.seq (HT.region S_kconsts_ok (So.q rfl rfl (V.mv (v := .p (.v (.int .i64 ((_ : Nat) : Int)))) rfl (So.q rfl rfl (V.bin (a := (.v (.int .i64 ((_ : Nat) : Int)))) (b := (.v (.int .i64 (24)))) (r := .v (.bool _)) rfl rfl rfl trivial (So.e ?_)))))))
 show HT _ _ _ _ _
 refine R.cond rfl rfl (fun h1 => ?_) (fun h1 => ?_)
 ·have h1 := of_decide_eq_true h1
  refine HT.skip (HT.seq (HT.block (HT.seq (HT.region S_kconsts_ok (So.q rfl rfl (V.as (v := .p (.v (.int .i64 (0)))) rfl (So.e (HT.block ?_))))))))
  refine R.loop (σ := Nat) (fun u => [(4, .p (.v (.int .i64 ((u : Int))))), (2, .p (.v (.int .i64 (((rT (7 * i + u) : Nat) : Int)))))]) (fun u => [(2, ⟨68, 1, 24, true, .rows (fun m => .u64 (lP (7 * i + u) m))⟩)]) [0, 1, 3] [1] (fun u => u ≤ 7) (fun u => 7 - u) (0) (fr0 := [(0, .ptr 1 0), (1, .ptr 2 0), (3, .p (.v (.int .i64 ((_ : Nat) : Int))))]) (O0 := [(1, ⟨_, _, _, _, .rows _⟩)]) rfl rfl (by first | rfl | omega | (intro j hj; rfl) | (simp; done) | (simp; omega)) ⟨⟨⟨le_int (by first | rfl | omega | (intro j hj; rfl) | (simp; done) | (simp; omega)), trivial⟩, ⟨le_int (by first | rfl | omega | (intro j hj; rfl) | (simp; done) | (simp; omega)), trivial⟩, ⟨.refl _, rfl⟩, ⟨.refl _, rfl⟩, ⟨.refl _, trivial⟩, trivial⟩, ⟨⟨_, rfl, .inr (ob_rows (by first | rfl | ((try dsimp only); first | rfl | omega | (intro j hj; rfl) | (simp; done) | (simp; omega))) (by first | rfl | ((try dsimp only); first | rfl | omega | (intro j hj; rfl) | (simp; done) | (simp; omega)))), trivial⟩, ⟨_, rfl, .inl rfl, trivial⟩, trivial⟩⟩ (fun u hP1 => ?_)
  refine HT.seq (HT.seq (HT.region S_kconsts_ok (So.q rfl rfl (V.mv (v := .p (.v (.int .i64 ((_ : Nat) : Int)))) rfl (So.q rfl rfl (V.bin (a := (.v (.int .i64 ((_ : Nat) : Int)))) (b := (.v (.int .i64 (7)))) (r := .v (.bool _)) rfl rfl rfl trivial (So.e ?_)))))))
  show HT _ _ _ _ _
  refine R.cond rfl rfl (fun h2 => ?_) (fun h2 => ?_)
  ·have h2 := of_decide_eq_true h2
   refine HT.skip (HT.seq (HT.block ?_))
   refine R.cut (True) [] [(2, ⟨68, 1, 24, true, .rows (fun m => .u64 (lP (7 * i + u + 1) m))⟩)] [0, 1, 2, 3, 4] [1] (fr0 := [(0, .ptr 1 0), (1, .ptr 2 0), (2, .p (.v (.int .i64 _))), (3, .p (.v (.int .i64 ((_ : Nat) : Int)))), (4, .p (.v (.int .i64 ((_ : Nat) : Int))))]) (O0 := [(1, ⟨_, _, _, _, .rows _⟩)]) rfl rfl ?_ (fun hphi => ?_)
   ·refine HT.seq ?_
    refine HT.region S_kconsts_ok (So.q rfl rfl (V.mv (v := .p (.v (.int .i64 _))) rfl (So.q rfl rfl (V.remI rfl rfl (by omega) (So.q rfl rfl (V.bin (a := (.v (.int .i64 _))) (b := (.v (.int .i64 (1)))) (r := .v (.bool _)) rfl rfl rfl trivial (So.e ?_)))))))
    show HT _ _ _ _ _
    refine R.cond rfl rfl (fun h3 => ?_) (fun h3 => ?_)
    ·have h3 := of_decide_eq_true h3
     refine HT.tail S_kconsts_ok mixed 10 (by kernel_rfl) (by kernel_rfl) ?_
     refine So.q rfl rfl (V.mv (v := .p (.v (.int .i64 ((_ : Nat) : Int)))) rfl (So.q rfl rfl (V.mv (v := .p (.v (.int .i64 ((_ : Nat) : Int)))) rfl (So.q rfl rfl (V.ixArrP10 (mi := i) ty68 ty53 rfl rfl rfl (by first | rfl | omega | (intro j hj; rfl) | (simp; done) | (simp; omega)) rfl (by omega) (by omega) (So.q rfl rfl (V.ldPtr ty53 rfl rfl rfl (by first | rfl | omega | (intro j hj; rfl) | (simp; done) | (simp; omega)) (v := .p (.u64 _)) rfl (So.q rfl rfl (V.mv (v := .p (.v (.int .i64 ((_ : Nat) : Int)))) rfl (So.q rfl rfl (V.bin (a := (.u64 1)) (b := (.v (.int .i64 ((_ : Nat) : Int)))) (r := .u64 _) rfl rfl rfl (by first | rfl | omega | (intro j hj; rfl) | (simp; done) | (simp; omega)) (So.q rfl rfl (V.bin (a := (.u64 _)) (b := (.u64 1)) (r := .u64 _) rfl rfl rfl trivial (So.q rfl rfl (V.bin (a := (.u64 1)) (b := (.u64 _)) (r := .u64 _) rfl rfl rfl (by first | rfl | omega | (intro j hj; rfl) | (simp; done) | (simp; omega)) (So.q rfl rfl (V.bin (a := (.u64 _)) (b := (.u64 _)) (r := .u64 _) rfl rfl rfl trivial (So.q rfl rfl (V.ixArrP10 (mi := i) ty68 ty53 rfl rfl rfl (by first | rfl | omega | (intro j hj; rfl) | (simp; done) | (simp; omega)) rfl (by omega) (by omega) ?_)))))))))))))))))))
     refine So.s (A.sto ty53 rfl rfl rfl (v := .p (.u64 _)) rfl trivial rfl (by first | rfl | omega | (intro j hj; rfl) | (simp; done) | (simp; omega)) (c' := .rows (fun m => .u64 (lP (7 * i + u + 1) m))) (congrArg (fun g => some (OC.rows g)) (funext fun j => by first | exact (apply_ite PV.u64 _ _ _).symm.trans (congrArg PV.u64 (lP_yes (by omega) (by omega) (by omega) _)) | (rw [← lP_yes (i := i) (j := u) (by omega) (by omega) (by omega) j]; split <;> rfl))) rfl (So.e ?_))
     exact ⟨by first | trivial | rfl | (intro m hm; rfl) | (intro m hm; exact congrArg PV.u64 (lP_no (by omega) (by omega) (by omega) m)), ⟨⟨⟨.refl _, rfl⟩, ⟨.refl _, rfl⟩, ⟨.refl _, trivial⟩, ⟨.refl _, trivial⟩, ⟨.refl _, trivial⟩, trivial⟩, ⟨⟨_, rfl, .inr (ob_rows (by first | rfl | ((try dsimp only); first | trivial | rfl | (intro m hm; rfl) | (intro m hm; exact congrArg PV.u64 (lP_no (by omega) (by omega) (by omega) m)))) (by first | rfl | ((try dsimp only); first | trivial | rfl | (intro m hm; rfl) | (intro m hm; exact congrArg PV.u64 (lP_no (by omega) (by omega) (by omega) m))))), trivial⟩, ⟨_, rfl, .inl rfl, trivial⟩, trivial⟩⟩⟩
    ·have h3 := of_decide_eq_false h3
     refine HT.skip ?_
     exact ⟨by first | trivial | rfl | (intro m hm; rfl) | (intro m hm; exact congrArg PV.u64 (lP_no (by omega) (by omega) (by omega) m)), ⟨⟨⟨.refl _, rfl⟩, ⟨.refl _, rfl⟩, ⟨.refl _, trivial⟩, ⟨.refl _, trivial⟩, ⟨.refl _, trivial⟩, trivial⟩, ⟨⟨_, rfl, .inr (ob_rows (by first | rfl | ((try dsimp only); first | trivial | rfl | (intro m hm; rfl) | (intro m hm; exact congrArg PV.u64 (lP_no (by omega) (by omega) (by omega) m)))) (by first | rfl | ((try dsimp only); first | trivial | rfl | (intro m hm; rfl) | (intro m hm; exact congrArg PV.u64 (lP_no (by omega) (by omega) (by omega) m))))), trivial⟩, ⟨_, rfl, .inl rfl, trivial⟩, trivial⟩⟩⟩
   ·refine HT.seq ?_
    refine HT.region S_kconsts_ok ?_
    have hrt := rT_b ⟨7 * i + u, by omega⟩
    simp only at hrt
    obtain ⟨hr1, hr2, hr3⟩ := hrt
    refine So.q rfl rfl (V.mv (v := .p (.v (.int .i64 _))) rfl (So.q rfl rfl (V.shlI (n := 1) (M := 2) rfl rfl rfl (by decide) (by omega) (So.q rfl rfl (V.as (v := .p (.v (.int .i64 _))) rfl (So.e (HT.seq (HT.region S_kconsts_ok (So.q rfl rfl (V.mv (v := .p (.v (.int .i64 _))) rfl (So.q rfl rfl (V.bin (a := (.v (.int .i64 _))) (b := (.v (.int .i64 (256)))) (r := .v (.bool _)) rfl rfl rfl trivial (So.e ?_)))))))))))))
    show HT _ _ _ _ _
    refine R.cond rfl rfl (fun h4 => ?_) (fun h4 => ?_)
    ·have h4 := of_decide_eq_true h4
     refine HT.region S_kconsts_ok (So.q rfl rfl (V.mv (v := .p (.v (.int .i64 _))) rfl (So.q rfl rfl (V.bin (a := (.v (.int .i64 _))) (b := (.v (.int .i64 (369)))) (r := .v (.int .i64 _)) rfl rfl rfl trivial (So.q rfl rfl (V.as (v := .p (.v (.int .i64 _))) rfl (So.e (HT.region S_kconsts_ok (So.q rfl rfl (V.mv (v := .p (.v (.int .i64 ((_ : Nat) : Int)))) rfl (So.q rfl rfl (V.addI rfl rfl (by omega) (So.q rfl rfl (V.as (v := .p (.v (.int .i64 _))) rfl (So.e ?_)))))))))))))))
     refine ⟨u + 1, by first | rfl | omega | (intro j hj; rfl) | (simp; done) | (simp; omega), by omega, ⟨⟨⟨le_int (by first | rfl | omega | (intro j hj; rfl) | (simp; done) | (simp; omega)), trivial⟩, ⟨le_int (by first | exact hr2 (by omega) | (have := hr3 (by omega); rw [show 7 * i + (u + 1) = 7 * i + u + 1 by omega]; omega)), trivial⟩, ⟨.refl _, rfl⟩, ⟨.refl _, rfl⟩, ⟨.refl _, trivial⟩, trivial⟩, ⟨⟨_, rfl, .inr (ob_rows (by first | rfl | ((try dsimp only); first | rfl | omega | (intro j hj; rfl) | (simp; done) | (simp; omega))) (by first | rfl | ((try dsimp only); first | rfl | omega | (intro j hj; rfl) | (simp; done) | (simp; omega)))), trivial⟩, ⟨_, rfl, .inl rfl, trivial⟩, trivial⟩⟩⟩
    ·have h4 := of_decide_eq_false h4
     refine HT.skip (HT.region S_kconsts_ok (So.q rfl rfl (V.mv (v := .p (.v (.int .i64 ((_ : Nat) : Int)))) rfl (So.q rfl rfl (V.addI rfl rfl (by omega) (So.q rfl rfl (V.as (v := .p (.v (.int .i64 _))) rfl (So.e ?_))))))))
     refine ⟨u + 1, by first | rfl | omega | (intro j hj; rfl) | (simp; done) | (simp; omega), by omega, ⟨⟨⟨le_int (by first | rfl | omega | (intro j hj; rfl) | (simp; done) | (simp; omega)), trivial⟩, ⟨le_int (by first | exact hr2 (by omega) | (have := hr3 (by omega); rw [show 7 * i + (u + 1) = 7 * i + u + 1 by omega]; omega)), trivial⟩, ⟨.refl _, rfl⟩, ⟨.refl _, rfl⟩, ⟨.refl _, trivial⟩, trivial⟩, ⟨⟨_, rfl, .inr (ob_rows (by first | rfl | ((try dsimp only); first | rfl | omega | (intro j hj; rfl) | (simp; done) | (simp; omega))) (by first | rfl | ((try dsimp only); first | rfl | omega | (intro j hj; rfl) | (simp; done) | (simp; omega)))), trivial⟩, ⟨_, rfl, .inl rfl, trivial⟩, trivial⟩⟩⟩
  ·have h2 := of_decide_eq_false h2
   refine HT.exit ?_
   show HT _ _ _ _ _
   refine HT.region S_kconsts_ok (So.q rfl rfl (V.mv (v := .p (.v (.int .i64 ((_ : Nat) : Int)))) rfl (So.q rfl rfl (V.addI rfl rfl (by omega) (So.q rfl rfl (V.as (v := .p (.v (.int .i64 _))) rfl (So.e ?_)))))))
   refine ⟨i + 1, by first | rfl | omega | (intro j hj; rfl) | (simp; done) | (simp; omega), by omega, ⟨⟨⟨le_int (by first | rfl | omega | (intro j hj; rfl) | (simp; done) | (simp; omega)), trivial⟩, ⟨le_int (by rw [show 7 * (i + 1) = 7 * i + u by omega]), trivial⟩, ⟨.refl _, rfl⟩, ⟨.refl _, rfl⟩, trivial⟩, ⟨⟨_, rfl, .inr (ob_rows (by first | rfl | ((try dsimp only); (intro m hm; rw [show 7 * (i + 1) = 7 * i + u by omega]))) (by first | rfl | ((try dsimp only); (intro m hm; rw [show 7 * (i + 1) = 7 * i + u by omega])))), trivial⟩, ⟨_, rfl, .inl rfl, trivial⟩, trivial⟩⟩⟩
 ·have h1 := of_decide_eq_false h1
  refine HT.exit ?_
  show HT _ _ _ _ _
  refine HT.seq (HT.region S_kconsts_ok (So.q rfl rfl (V.ldPtrA ty68 rfl rfl rfl rfl (lk rfl) (So.s (A.stoAg ty68 rfl (n := 24) rfl (by decide) (by intro j hj; first | rfl | trivial) rfl rfl rfl (So.e ?_))))))
  show HT _ _ _ _ _
  refine HT.ret ?_
  exact retC_ok (sg []) [(0, .ptr 1 0)] [(1, ⟨68, 1, 24, true, .rows (fun j => .u64 (constL.getD j 0))⟩)] h ⟨⟨⟨.refl _, rfl⟩, trivial⟩, ⟨⟨_, rfl, .inr (ob_rowsL (by intro m hm; replace hP0 : i = 24 := (by omega); subst hP0; simp only [Nat.zero_add]; rw [lP_end m hm]; exact .refl _)), trivial⟩, trivial⟩⟩ ⟨rvA_cell ty68 rfl rfl rfl rfl (Nat.le_refl _) (le_agg (fun j _ => by first | rfl | (dsimp only; rw [Nat.zero_add]))), trivial⟩ trivial rfl trivial ⟨trivial, trivial⟩ rfl
end Go.Vh

set_option linter.unusedVariables false
set_option linter.unusedSimpArgs false
namespace Go.Vh
open Go Go.Vc Go.Proofs Go.Vw Go.Vk
def rkchangeSp : Sp := ⟨[], mkE (α := (Nat → UInt64)) (fun w => [.agg 25 (fun j => .u64 (tr w j))]) (fun w => []) (fun w => True) (fun w => [.agg 25 (fun j => .u64 (tr (kf w) j))]) (fun w => [])⟩
def S_rkchange : FuncId → Option Sp := fun f => if f = 40 then some kturnsSp else if f = 41 then some kconstsSp else if f = 42 then some kturnedSp else none
theorem S_rkchange_ok : ∀ f s, S_rkchange f = some s → FOK Tryd.prog gl f s := fun f s h => by
 unfold S_rkchange at h
 split at h
 ·rename_i e; cases h; subst e; exact kturns_ok
 split at h
 ·rename_i e; cases h; subst e; exact kconsts_ok
 split at h
 ·rename_i e; cases h; subst e; exact kturned_ok
 cases h
theorem S_rkchange_det : ∀ f s, S_rkchange f = some s → SpDet s.sp := fun f s h => by
 unfold S_rkchange at h
 split at h
 ·cases h; exact mkE_det _ _ _ _ _
 split at h
 ·cases h; exact mkE_det _ _ _ _ _
 split at h
 ·cases h; exact mkE_det _ _ _ _ _
 cases h
set_option maxHeartbeats 1000000 in
set_option maxRecDepth 20000 in
theorem rkchange_ok : FOK Tryd.prog gl 38 rkchangeSp := by
 refine FOK.ofEC (tyOf_ok Tryd.prog) (rvs := [.cell 2 61]) (nt := 136) Tryd.func38 rfl rfl rfl rfl (by decide) 1 (fun _ => rfl) (by decide) (fun _ => ⟨trivial, trivial⟩) ?_
 rintro w kk hlen hpre h
 replace hpre : True := hpre
 show HT (cx Tryd.prog 136 (tyOf Tryd.prog) gl []) _ [(0, .agg 25 (fun j => .u64 (tr w j)))] [] _
 refine HT.seq (HT.region S_rkchange_ok (So.n (lk rfl) (A.boxAg 1 5 (n := 25) rfl (by intro j hj; first | rfl | trivial | (split <;> first | rfl | trivial | (split <;> first | rfl | trivial))) rfl trivial (So.n (lk rfl) (A.alloc 2 5 ty61 rfl trivial (f := fun _ => .u64 0) (fun _ _ => rfl) (So.e (HT.seq (HT.region S_rkchange_ok ?_))))))))
 refine So.n (lk rfl) (A.call0 [] 3 rfl rfl rfl rfl trivial trivial () trivial trivial (by trivial) (Φ := fun _ => True) (fun _ _ => trivial) (.inl rfl) (v := .agg 25 _) rfl (O' := _) rfl (fun h1 => ?_))
 refine So.n (lk rfl) (A.alloc 3 5 ty66 rfl trivial (f := fun _ => .v (.int .i64 0)) (fun _ _ => rfl) (So.s (A.stoAg ty66 rfl (n := 25) rfl (by decide) (by intro j hj; first | rfl | trivial) rfl rfl rfl (So.e (HT.seq (HT.region S_rkchange_ok ?_))))))
 refine So.n (lk rfl) (A.call0 [] 4 rfl rfl rfl rfl trivial trivial () trivial trivial (by trivial) (Φ := fun _ => True) (fun _ _ => trivial) (.inl rfl) (v := .agg 24 _) rfl (O' := _) rfl (fun h2 => ?_))
 refine So.n (lk rfl) (A.alloc 4 1 ty68 rfl trivial (f := fun _ => .u64 0) (fun _ _ => rfl) (So.s (A.stoAg ty68 rfl (n := 24) rfl (by decide) (by intro j hj; first | rfl | trivial) rfl rfl rfl (So.e (HT.seq (HT.seq (HT.region S_rkchange_ok (So.q rfl rfl (V.as (v := .p (.v (.int .i64 (0)))) rfl (So.e (HT.block ?_)))))))))))
 refine R.loop (σ := Nat) (fun q => [(5, .p (.v (.int .i64 ((q : Int)))))]) (fun q => [(1, ⟨61, 5, 25, true, .rows (fun j => .u64 (tr (kfN w q) j))⟩)]) [1, 2, 3, 4] [2, 3, 4] (fun q => q ≤ 24) (fun q => 24 - q) (0) (fr0 := [(1, .ptr 1 0), (2, .ptr 2 0), (3, .ptr 3 0), (4, .ptr 4 0)]) (O0 := [(2, ⟨_, _, _, _, .rows _⟩), (3, ⟨_, _, _, _, .rows _⟩), (4, ⟨_, _, _, _, .rows _⟩)]) rfl rfl (by first | rfl | omega | (intro j hj; rfl) | (simp; done) | (simp; omega)) ⟨⟨⟨le_int (by first | rfl | omega | (intro j hj; rfl) | (simp; done) | (simp; omega)), trivial⟩, ⟨.refl _, rfl⟩, ⟨.refl _, rfl⟩, ⟨.refl _, rfl⟩, ⟨.refl _, rfl⟩, trivial⟩, ⟨⟨_, rfl, .inr (ob_rows (by first | rfl | ((try dsimp only); first | rfl | omega | (intro j hj; rfl) | (simp; done) | (simp; omega))) (by first | rfl | ((try dsimp only); first | rfl | omega | (intro j hj; rfl) | (simp; done) | (simp; omega)))), trivial⟩, ⟨_, rfl, .inl rfl, trivial⟩, ⟨_, rfl, .inl rfl, trivial⟩, ⟨_, rfl, .inl rfl, trivial⟩, trivial⟩⟩ (fun q hP0 => ?_)
 refine HT.seq (HT.seq (HT.region S_rkchange_ok (So.q rfl rfl (V.mv (v := .p (.v (.int .i64 ((_ : Nat) : Int)))) rfl (So.q rfl rfl (V.bin (a := (.v (.int .i64 ((_ : Nat) : Int)))) (b := (.v (.int .i64 (24)))) (r := .v (.bool _)) rfl rfl rfl trivial (So.e ?_)))))))
 show HT _ _ _ _ _
 refine R.cond rfl rfl (fun h3 => ?_) (fun h3 => ?_)
 ·have h3 := of_decide_eq_true h3
  refine HT.skip (HT.seq (HT.block (HT.seq (HT.region S_rkchange_ok (So.n (lk rfl) (A.alloc 5 1 ty60 rfl trivial (f := fun _ => .u64 0) (fun _ _ => rfl) (So.e (HT.seq (HT.seq (HT.region S_rkchange_ok ?_))))))))))
  refine So.q rfl rfl (V.as (v := .p (.v (.int .i64 (0)))) rfl (So.e (HT.block ?_)))
  refine R.loop (σ := Nat) (fun x => [(7, .p (.v (.int .i64 ((x : Int)))))]) (fun x => [(5, ⟨60, 1, 5, true, .rows (fun j => .u64 (if j < x then cR (tr (kfN w q)) j else 0))⟩)]) [1, 2, 3, 4, 5, 6] [1, 2, 3, 4] (fun x => x ≤ 5) (fun x => 5 - x) (0) (fr0 := [(1, .ptr 1 0), (2, .ptr 2 0), (3, .ptr 3 0), (4, .ptr 4 0), (5, .p (.v (.int .i64 ((_ : Nat) : Int)))), (6, .ptr 5 0)]) (O0 := [(1, ⟨_, _, _, _, .rows _⟩), (2, ⟨_, _, _, _, .rows _⟩), (3, ⟨_, _, _, _, .rows _⟩), (4, ⟨_, _, _, _, .rows _⟩)]) rfl rfl (by first | rfl | omega | (intro j hj; rfl) | (simp; done) | (simp; omega)) ⟨⟨⟨le_int (by first | rfl | omega | (intro j hj; rfl) | (simp; done) | (simp; omega) | (intro j hj; rw [if_neg (Nat.not_lt_zero j)])), trivial⟩, ⟨.refl _, rfl⟩, ⟨.refl _, rfl⟩, ⟨.refl _, rfl⟩, ⟨.refl _, rfl⟩, ⟨.refl _, trivial⟩, ⟨.refl _, rfl⟩, trivial⟩, ⟨⟨_, rfl, .inr (ob_rows (by first | rfl | ((try dsimp only); first | rfl | omega | (intro j hj; rfl) | (simp; done) | (simp; omega) | (intro j hj; rw [if_neg (Nat.not_lt_zero j)]))) (by first | rfl | ((try dsimp only); first | rfl | omega | (intro j hj; rfl) | (simp; done) | (simp; omega) | (intro j hj; rw [if_neg (Nat.not_lt_zero j)])))), trivial⟩, ⟨_, rfl, .inl rfl, trivial⟩, ⟨_, rfl, .inl rfl, trivial⟩, ⟨_, rfl, .inl rfl, trivial⟩, ⟨_, rfl, .inl rfl, trivial⟩, trivial⟩⟩ (fun x hP1 => ?_)
  refine HT.seq (HT.seq (HT.region S_rkchange_ok (So.q rfl rfl (V.mv (v := .p (.v (.int .i64 ((_ : Nat) : Int)))) rfl (So.q rfl rfl (V.bin (a := (.v (.int .i64 ((_ : Nat) : Int)))) (b := (.v (.int .i64 (5)))) (r := .v (.bool _)) rfl rfl rfl trivial (So.e ?_)))))))
  show HT _ _ _ _ _
  refine R.cond rfl rfl (fun h4 => ?_) (fun h4 => ?_)
  ·have h4 := of_decide_eq_true h4
   refine HT.skip (HT.seq (HT.block ?_))
   refine HT.tail S_rkchange_ok mixed 26 (by kernel_rfl) (by kernel_rfl) ?_
   refine So.q rfl rfl (V.mv (v := .p (.v (.int .i64 ((_ : Nat) : Int)))) rfl (So.q rfl rfl (V.mv (v := .p (.v (.int .i64 ((_ : Nat) : Int)))) rfl (So.q rfl rfl (V.ixArrPS0 (mi := x) (s := 5) ty61 ty60 rfl rfl rfl (by first | rfl | omega | (intro j hj; rfl) | (simp; done) | (simp; omega)) rfl (by omega) (by omega) (So.q rfl rfl (V.ixArrP1 ty60 ty53 rfl rfl rfl (by first | rfl | omega | (intro j hj; rfl) | (simp; done) | (simp; omega)) rfl (by omega) rfl (So.q rfl rfl (V.ldPtr ty53 rfl rfl rfl (by first | rfl | omega | (intro j hj; rfl) | (simp; done) | (simp; omega)) (v := .p (.u64 _)) rfl (So.q rfl rfl (V.mv (v := .p (.v (.int .i64 ((_ : Nat) : Int)))) rfl (So.q rfl rfl (V.ixArrPS0 (mi := x) (s := 5) ty61 ty60 rfl rfl rfl (by first | rfl | omega | (intro j hj; rfl) | (simp; done) | (simp; omega)) rfl (by omega) (by omega) (So.q rfl rfl (V.ixArrP1 ty60 ty53 rfl rfl rfl (by first | rfl | omega | (intro j hj; rfl) | (simp; done) | (simp; omega)) rfl (by omega) rfl (So.q rfl rfl (V.ldPtr ty53 rfl rfl rfl (by first | rfl | omega | (intro j hj; rfl) | (simp; done) | (simp; omega)) (v := .p (.u64 _)) rfl (So.q rfl rfl (V.bin (a := (.u64 _)) (b := (.u64 _)) (r := .u64 _) rfl rfl rfl trivial ?_)))))))))))))))))))
   refine So.q rfl rfl (V.mv (v := .p (.v (.int .i64 ((_ : Nat) : Int)))) rfl (So.q rfl rfl (V.ixArrPS0 (mi := x) (s := 5) ty61 ty60 rfl rfl rfl (by first | rfl | omega | (intro j hj; rfl) | (simp; done) | (simp; omega)) rfl (by omega) (by omega) (So.q rfl rfl (V.ixArrP1 ty60 ty53 rfl rfl rfl (by first | rfl | omega | (intro j hj; rfl) | (simp; done) | (simp; omega)) rfl (by omega) rfl (So.q rfl rfl (V.ldPtr ty53 rfl rfl rfl (by first | rfl | omega | (intro j hj; rfl) | (simp; done) | (simp; omega)) (v := .p (.u64 _)) rfl (So.q rfl rfl (V.bin (a := (.u64 _)) (b := (.u64 _)) (r := .u64 _) rfl rfl rfl trivial (So.q rfl rfl (V.mv (v := .p (.v (.int .i64 ((_ : Nat) : Int)))) rfl (So.q rfl rfl (V.ixArrPS0 (mi := x) (s := 5) ty61 ty60 rfl rfl rfl (by first | rfl | omega | (intro j hj; rfl) | (simp; done) | (simp; omega)) rfl (by omega) (by omega) (So.q rfl rfl (V.ixArrP1 ty60 ty53 rfl rfl rfl (by first | rfl | omega | (intro j hj; rfl) | (simp; done) | (simp; omega)) rfl (by omega) rfl (So.q rfl rfl (V.ldPtr ty53 rfl rfl rfl (by first | rfl | omega | (intro j hj; rfl) | (simp; done) | (simp; omega)) (v := .p (.u64 _)) rfl (So.q rfl rfl (V.bin (a := (.u64 _)) (b := (.u64 _)) (r := .u64 _) rfl rfl rfl trivial ?_)))))))))))))))))))
   refine So.q rfl rfl (V.mv (v := .p (.v (.int .i64 ((_ : Nat) : Int)))) rfl (So.q rfl rfl (V.ixArrPS0 (mi := x) (s := 5) ty61 ty60 rfl rfl rfl (by first | rfl | omega | (intro j hj; rfl) | (simp; done) | (simp; omega)) rfl (by omega) (by omega) (So.q rfl rfl (V.ixArrP1 ty60 ty53 rfl rfl rfl (by first | rfl | omega | (intro j hj; rfl) | (simp; done) | (simp; omega)) rfl (by omega) rfl (So.q rfl rfl (V.ldPtr ty53 rfl rfl rfl (by first | rfl | omega | (intro j hj; rfl) | (simp; done) | (simp; omega)) (v := .p (.u64 _)) rfl (So.q rfl rfl (V.bin (a := (.u64 _)) (b := (.u64 _)) (r := .u64 _) rfl rfl rfl trivial (So.q rfl rfl (V.ixArrP10 (mi := x) ty60 ty53 rfl rfl rfl (by first | rfl | omega | (intro j hj; rfl) | (simp; done) | (simp; omega)) rfl (by omega) (by omega) (So.s (A.sto ty53 rfl rfl rfl (v := .p (.u64 _)) rfl trivial rfl (by first | rfl | omega | (intro j hj; rfl) | (simp; done) | (simp; omega)) (c' := .rows (fun j => .u64 (if j < x + 1 then cR (tr (kfN w q)) j else 0))) (congrArg (fun g => some (OC.rows g)) (funext fun j => by by_cases h9 : j = x; (subst h9; rw [if_pos rfl, if_pos (Nat.lt_succ_self _)]; rfl); (rw [if_neg h9]; dsimp only; by_cases h8 : j < x; (rw [if_pos h8, if_pos (by omega)]); (rw [if_neg h8, if_neg (by omega)])))) rfl (So.e (HT.region S_rkchange_ok (So.q rfl rfl (V.mv (v := .p (.v (.int .i64 ((_ : Nat) : Int)))) rfl ?_)))))))))))))))))
   refine So.q rfl rfl (V.addI rfl rfl (by omega) (So.q rfl rfl (V.as (v := .p (.v (.int .i64 _))) rfl (So.e ?_))))
   refine ⟨x + 1, by first | rfl | omega | (intro j hj; rfl) | (simp; done) | (simp; omega), by omega, ⟨⟨⟨le_int (by first | rfl | omega | (intro j hj; rfl) | (simp; done) | (simp; omega)), trivial⟩, ⟨.refl _, rfl⟩, ⟨.refl _, rfl⟩, ⟨.refl _, rfl⟩, ⟨.refl _, rfl⟩, ⟨.refl _, trivial⟩, ⟨.refl _, rfl⟩, trivial⟩, ⟨⟨_, rfl, .inr (ob_rows (by first | rfl | ((try dsimp only); first | rfl | omega | (intro j hj; rfl) | (simp; done) | (simp; omega))) (by first | rfl | ((try dsimp only); first | rfl | omega | (intro j hj; rfl) | (simp; done) | (simp; omega)))), trivial⟩, ⟨_, rfl, .inl rfl, trivial⟩, ⟨_, rfl, .inl rfl, trivial⟩, ⟨_, rfl, .inl rfl, trivial⟩, ⟨_, rfl, .inl rfl, trivial⟩, trivial⟩⟩⟩
  ·have h4 := of_decide_eq_false h4
   refine HT.exit ?_
   show HT _ _ _ _ _
   refine HT.seq ?_
   have hx : x = 5 := by omega
   subst hx
   refine R.tell [] [(5, ⟨60, 1, 5, true, .rows (fun j => .u64 (cR (tr (kfN w q)) j))⟩)] [1, 2, 3, 4, 5, 6] [1, 2, 3, 4] (fr0 := [(1, .ptr 1 0), (2, .ptr 2 0), (3, .ptr 3 0), (4, .ptr 4 0), (5, .p (.v (.int .i64 ((_ : Nat) : Int)))), (6, .ptr 5 0)]) (O0 := [(1, ⟨_, _, _, _, .rows _⟩), (2, ⟨_, _, _, _, .rows _⟩), (3, ⟨_, _, _, _, .rows _⟩), (4, ⟨_, _, _, _, .rows _⟩)]) rfl rfl ⟨⟨⟨.refl _, rfl⟩, ⟨.refl _, rfl⟩, ⟨.refl _, rfl⟩, ⟨.refl _, rfl⟩, ⟨.refl _, trivial⟩, ⟨.refl _, rfl⟩, trivial⟩, ⟨⟨_, rfl, .inr (ob_rows (by first | rfl | ((try dsimp only); (intro j hj; rw [if_pos (by omega)]))) (by first | rfl | ((try dsimp only); (intro j hj; rw [if_pos (by omega)])))), trivial⟩, ⟨_, rfl, .inl rfl, trivial⟩, ⟨_, rfl, .inl rfl, trivial⟩, ⟨_, rfl, .inl rfl, trivial⟩, ⟨_, rfl, .inl rfl, trivial⟩, trivial⟩⟩ ?_
   show HT _ _ _ _ _
   refine HT.region S_rkchange_ok (So.n (lk rfl) (A.alloc 6 5 ty61 rfl trivial (f := fun _ => .u64 0) (fun _ _ => rfl) (So.e (HT.seq (HT.seq (HT.region S_rkchange_ok (So.q rfl rfl (V.as (v := .p (.v (.int .i64 (0)))) rfl (So.e (HT.block ?_))))))))))
   refine R.loop (σ := Nat) (fun x => [(9, .p (.v (.int .i64 ((x : Int)))))]) (fun x => [(6, ⟨61, 5, 25, true, .rows (fun j => .u64 (if xR j < x then bR (tr (kfN w q)) j else 0))⟩)]) [1, 2, 3, 4, 5, 6, 8] [1, 2, 3, 4, 5] (fun x => x ≤ 5) (fun x => 5 - x) (0) (fr0 := [(1, .ptr 1 0), (2, .ptr 2 0), (3, .ptr 3 0), (4, .ptr 4 0), (5, .p (.v (.int .i64 ((_ : Nat) : Int)))), (6, .ptr 5 0), (8, .ptr 6 0)]) (O0 := [(1, ⟨_, _, _, _, .rows _⟩), (2, ⟨_, _, _, _, .rows _⟩), (3, ⟨_, _, _, _, .rows _⟩), (4, ⟨_, _, _, _, .rows _⟩), (5, ⟨_, _, _, _, .rows _⟩)]) rfl rfl (by first | rfl | omega | (intro j hj; rfl) | (simp; done) | (simp; omega)) ⟨⟨⟨le_int (by first | rfl | omega | (intro j hj; rfl) | (simp; done) | (simp; omega) | (intro j hj; rw [if_neg (Nat.not_lt_zero (xR j))])), trivial⟩, ⟨.refl _, rfl⟩, ⟨.refl _, rfl⟩, ⟨.refl _, rfl⟩, ⟨.refl _, rfl⟩, ⟨.refl _, trivial⟩, ⟨.refl _, rfl⟩, ⟨.refl _, rfl⟩, trivial⟩, ⟨⟨_, rfl, .inr (ob_rows (by first | rfl | ((try dsimp only); first | rfl | omega | (intro j hj; rfl) | (simp; done) | (simp; omega) | (intro j hj; rw [if_neg (Nat.not_lt_zero (xR j))]))) (by first | rfl | ((try dsimp only); first | rfl | omega | (intro j hj; rfl) | (simp; done) | (simp; omega) | (intro j hj; rw [if_neg (Nat.not_lt_zero (xR j))])))), trivial⟩, ⟨_, rfl, .inl rfl, trivial⟩, ⟨_, rfl, .inl rfl, trivial⟩, ⟨_, rfl, .inl rfl, trivial⟩, ⟨_, rfl, .inl rfl, trivial⟩, ⟨_, rfl, .inl rfl, trivial⟩, trivial⟩⟩ (fun x hP2 => ?_)
   refine HT.seq (HT.seq (HT.region S_rkchange_ok (So.q rfl rfl (V.mv (v := .p (.v (.int .i64 ((_ : Nat) : Int)))) rfl (So.q rfl rfl (V.bin (a := (.v (.int .i64 ((_ : Nat) : Int)))) (b := (.v (.int .i64 (5)))) (r := .v (.bool _)) rfl rfl rfl trivial (So.e ?_)))))))
   show HT _ _ _ _ _
   refine R.cond rfl rfl (fun h5 => ?_) (fun h5 => ?_)
   ·have h5 := of_decide_eq_true h5
    refine HT.skip (HT.seq (HT.block (HT.seq ?_)))
    refine HT.drawn S_rkchange_ok S_rkchange_det mixed (by kernel_rfl) ?_
    refine Sd.n (lk rfl) (V.mv (v := .p (.v (.int .i64 ((_ : Nat) : Int)))) rfl (Sd.n (lk rfl) (V.addI rfl rfl (by omega) (Sd.n (lk rfl) (V.remI rfl rfl (by omega) (Sd.n (lk rfl) (V.ixArrP10 (mi := (x + 4) % 5) ty60 ty53 rfl rfl rfl (by first | rfl | omega | (intro j hj; rfl) | (simp; done) | (simp; omega)) rfl (by omega) (by omega) (Sd.n (lk rfl) (V.ldPtr ty53 rfl rfl rfl (by first | rfl | omega | (intro j hj; rfl) | (simp; done) | (simp; omega)) (v := .p (.u64 _)) rfl (Sd.n (lk rfl) (V.mv (v := .p (.v (.int .i64 ((_ : Nat) : Int)))) rfl (Sd.n (lk rfl) (V.addI rfl rfl (by omega) (Sd.n (lk rfl) (V.remI rfl rfl (by omega) (Sd.n (lk rfl) (V.ixArrP10 (mi := (x + 1) % 5) ty60 ty53 rfl rfl rfl (by first | rfl | omega | (intro j hj; rfl) | (simp; done) | (simp; omega)) rfl (by omega) (by omega) (Sd.n (lk rfl) (V.ldPtr ty53 rfl rfl rfl (by first | rfl | omega | (intro j hj; rfl) | (simp; done) | (simp; omega)) (v := .p (.u64 _)) rfl ?_)))))))))))))))))))
    refine Sd.n (lk rfl) (V.call [.p (.u64 _), .p (.v (.int .i64 _))] 7 rfl rfl rfl rfl ⟨trivial, trivial, trivial⟩ trivial (cR (tr (kfN w q)) ((x + 1) % 5), 1) ⟨.refl _, .refl _, trivial⟩ trivial (by first | omega | decide) (Φ := fun _ => True) (fun _ _ => trivial) (.inl ⟨trivial, trivial, trivial⟩) (v := .p (.u64 _)) rfl (fun h6 => ?_))
    refine Sd.n (lk rfl) (V.bin (a := (.u64 _)) (b := (.u64 _)) (r := .u64 _) rfl rfl rfl trivial (Sd.n (lk rfl) (V.as (v := .p (.u64 _)) rfl (Sd.e (HT.seq ?_)))))
    refine R.tell [(10, .p (.u64 (dR (tr (kfN w q)) x)))] [] [1, 2, 3, 4, 5, 6, 8, 9] [1, 2, 3, 4, 5, 6] (fr0 := [(1, .ptr 1 0), (2, .ptr 2 0), (3, .ptr 3 0), (4, .ptr 4 0), (5, .p (.v (.int .i64 ((_ : Nat) : Int)))), (6, .ptr 5 0), (8, .ptr 6 0), (9, .p (.v (.int .i64 ((_ : Nat) : Int))))]) (O0 := [(1, ⟨_, _, _, _, .rows _⟩), (2, ⟨_, _, _, _, .rows _⟩), (3, ⟨_, _, _, _, .rows _⟩), (4, ⟨_, _, _, _, .rows _⟩), (5, ⟨_, _, _, _, .rows _⟩), (6, ⟨_, _, _, _, .rows _⟩)]) rfl rfl ⟨⟨⟨le_u64 (by rfl), trivial⟩, ⟨.refl _, rfl⟩, ⟨.refl _, rfl⟩, ⟨.refl _, rfl⟩, ⟨.refl _, rfl⟩, ⟨.refl _, trivial⟩, ⟨.refl _, rfl⟩, ⟨.refl _, rfl⟩, ⟨.refl _, trivial⟩, trivial⟩, ⟨⟨_, rfl, .inl rfl, trivial⟩, ⟨_, rfl, .inl rfl, trivial⟩, ⟨_, rfl, .inl rfl, trivial⟩, ⟨_, rfl, .inl rfl, trivial⟩, ⟨_, rfl, .inl rfl, trivial⟩, ⟨_, rfl, .inl rfl, trivial⟩, trivial⟩⟩ ?_
    show HT _ _ _ _ _
    refine HT.region S_rkchange_ok (So.q rfl rfl (V.as (v := .p (.v (.int .i64 (0)))) rfl (So.e (HT.block ?_))))
    refine R.loop (σ := Nat) (fun y => [(11, .p (.v (.int .i64 ((y : Int)))))]) (fun y => [(6, ⟨61, 5, 25, true, .rows (fun j => .u64 (if xR j < x ∨ (xR j = x ∧ j / 5 < y) then bR (tr (kfN w q)) j else 0))⟩)]) [1, 2, 3, 4, 5, 6, 8, 9, 10] [1, 2, 3, 4, 5] (fun y => y ≤ 5) (fun y => 5 - y) (0) (fr0 := [(1, .ptr 1 0), (2, .ptr 2 0), (3, .ptr 3 0), (4, .ptr 4 0), (5, .p (.v (.int .i64 ((_ : Nat) : Int)))), (6, .ptr 5 0), (8, .ptr 6 0), (9, .p (.v (.int .i64 ((_ : Nat) : Int)))), (10, .p (.u64 _))]) (O0 := [(1, ⟨_, _, _, _, .rows _⟩), (2, ⟨_, _, _, _, .rows _⟩), (3, ⟨_, _, _, _, .rows _⟩), (4, ⟨_, _, _, _, .rows _⟩), (5, ⟨_, _, _, _, .rows _⟩)]) rfl rfl (by first | rfl | omega | (intro j hj; rfl) | (simp; done) | (simp; omega)) ⟨⟨⟨le_int (by first | rfl | omega | (intro j hj; rfl) | (simp; done) | (simp; omega) | (intro j hj; by_cases h8 : xR j < x; (rw [if_pos h8, if_pos (.inl h8)]); (rw [if_neg h8, if_neg (by omega)]))), trivial⟩, ⟨.refl _, rfl⟩, ⟨.refl _, rfl⟩, ⟨.refl _, rfl⟩, ⟨.refl _, rfl⟩, ⟨.refl _, trivial⟩, ⟨.refl _, rfl⟩, ⟨.refl _, rfl⟩, ⟨.refl _, trivial⟩, ⟨.refl _, trivial⟩, trivial⟩, ⟨⟨_, rfl, .inr (ob_rows (by first | rfl | ((try dsimp only); first | rfl | omega | (intro j hj; rfl) | (simp; done) | (simp; omega) | (intro j hj; by_cases h8 : xR j < x; (rw [if_pos h8, if_pos (.inl h8)]); (rw [if_neg h8, if_neg (by omega)])))) (by first | rfl | ((try dsimp only); first | rfl | omega | (intro j hj; rfl) | (simp; done) | (simp; omega) | (intro j hj; by_cases h8 : xR j < x; (rw [if_pos h8, if_pos (.inl h8)]); (rw [if_neg h8, if_neg (by omega)]))))), trivial⟩, ⟨_, rfl, .inl rfl, trivial⟩, ⟨_, rfl, .inl rfl, trivial⟩, ⟨_, rfl, .inl rfl, trivial⟩, ⟨_, rfl, .inl rfl, trivial⟩, ⟨_, rfl, .inl rfl, trivial⟩, trivial⟩⟩ (fun y hP3 => ?_)
    refine HT.seq (HT.seq (HT.region S_rkchange_ok (So.q rfl rfl (V.mv (v := .p (.v (.int .i64 ((_ : Nat) : Int)))) rfl (So.q rfl rfl (V.bin (a := (.v (.int .i64 ((_ : Nat) : Int)))) (b := (.v (.int .i64 (5)))) (r := .v (.bool _)) rfl rfl rfl trivial (So.e ?_)))))))
    show HT _ _ _ _ _
    refine R.cond rfl rfl (fun h7 => ?_) (fun h7 => ?_)
    ·have h7 := of_decide_eq_true h7
     refine HT.skip (HT.seq (HT.block ?_))
     refine HT.planS S_rkchange_ok S_rkchange_det mixed [] [⟨[0, 1, 2, 3, 4, 5, 6, 7, 8, 9, 10, 11, 12, 13, 14, 15, 16, 17, 18, 19, 20, 21], 22, []⟩] (by kernel_rfl) ?_
     have htl := tL_le (x * 5 + y)
     refine Pl.l0 ?_
     refine Si.n rfl (lk rfl) (V.mv (v := .p (.v (.int .i64 ((_ : Nat) : Int)))) rfl (Si.n rfl (lk rfl) (V.mv (v := .p (.v (.int .i64 ((_ : Nat) : Int)))) rfl (Si.n rfl (lk rfl) (V.mulI rfl rfl (by omega) (Si.n rfl (lk rfl) (V.mv (v := .p (.v (.int .i64 ((_ : Nat) : Int)))) rfl (Si.n rfl (lk rfl) (V.mulI rfl rfl (by omega) (Si.n rfl (lk rfl) (V.addI rfl rfl (by omega) (Si.n rfl (lk rfl) (V.remI rfl rfl (by omega) (Si.n rfl (lk rfl) (V.mv (v := .p (.v (.int .i64 ((_ : Nat) : Int)))) rfl (Si.n rfl (lk rfl) (V.mv (v := .p (.v (.int .i64 ((_ : Nat) : Int)))) rfl (Si.n rfl (lk rfl) (V.ixArrPS0 (mi := x) (s := 5) ty61 ty60 rfl rfl rfl (by first | rfl | omega | (intro j hj; rfl) | (simp; done) | (simp; omega)) rfl (by omega) (by omega) ?_)))))))))))))))))))
     refine Si.n rfl (lk rfl) (V.ixArrP1 (mi := y) ty60 ty53 rfl rfl rfl (by first | rfl | omega | (intro j hj; rfl) | (simp; done) | (simp; omega)) rfl (by omega) (by omega) (Si.n rfl (lk rfl) (V.ldPtr ty53 rfl rfl rfl (by first | rfl | omega | (intro j hj; rfl) | (simp; done) | (simp; omega)) (v := .p (.u64 _)) rfl (Si.n rfl (lk rfl) (V.mv (v := .p (.u64 _)) rfl (Si.n rfl (lk rfl) (V.bin (a := (.u64 _)) (b := (.u64 _)) (r := .u64 _) rfl rfl rfl trivial (Si.n rfl (lk rfl) (V.mv (v := .p (.v (.int .i64 ((_ : Nat) : Int)))) rfl (Si.n rfl (lk rfl) (V.mv (v := .p (.v (.int .i64 ((_ : Nat) : Int)))) rfl (Si.n rfl (lk rfl) (V.ixArrPS0 (mi := x) (s := 5) ty66 ty65 rfl rfl rfl (by first | rfl | omega | (intro j hj; rfl) | (simp; done) | (simp; omega)) rfl (by omega) (by omega) (Si.n rfl (lk rfl) (V.ixArrP1 (mi := y) ty65 ty3 rfl rfl rfl (by first | rfl | omega | (intro j hj; rfl) | (simp; done) | (simp; omega)) rfl (by omega) (by omega) (Si.n rfl (lk rfl) (V.ldPtr ty3 rfl rfl rfl (by first | rfl | omega | (intro j hj; rfl) | (simp; done) | (simp; omega)) (v := .p (.v (.int .i64 _))) rfl ?_)))))))))))))))))
     refine Si.n rfl (lk rfl) (V.call [.p (.u64 _), .p (.v (.int .i64 _))] 7 rfl rfl rfl rfl ⟨trivial, trivial, trivial⟩ trivial ((tr (kfN w q)) (x * 5 + y) ^^^ dR (tr (kfN w q)) x, ((tL.getD (x * 5 + y) 0 : Nat) : Int)) ⟨.refl _, .refl _, trivial⟩ trivial (by first | omega | decide) (Φ := fun _ => True) (fun _ _ => trivial) (.inl ⟨trivial, trivial, trivial⟩) (v := .p (.u64 _)) rfl (fun h8 => ?_))
     refine Si.n rfl (lk rfl) (V.ixArrPS0 (mi := y) (s := 5) ty61 ty60 rfl rfl rfl (by first | rfl | omega | (intro j hj; rfl) | (simp; done) | (simp; omega)) rfl (by omega) (by omega) (Si.n rfl (lk rfl) (V.ixArrP1 (mi := (2 * x + 3 * y) % 5) ty60 ty53 rfl rfl rfl (by first | rfl | omega | (intro j hj; rfl) | (simp; done) | (simp; omega)) rfl (by omega) (by omega) (Si.e ?_))))
     refine ⟨flEq_nil, ?_⟩
     refine Lo.s rfl (A.sto ty53 rfl rfl rfl (v := .p (.u64 _)) rfl trivial rfl (by first | rfl | omega | (intro j hj; rfl) | (simp; done) | (simp; omega)) (c' := .rows (fun j => .u64 (if xR j < x ∨ (xR j = x ∧ j / 5 < y + 1) then bR (tr (kfN w q)) j else 0))) (congrArg (fun g => some (OC.rows g)) (funext fun j => by rw [← b_put (v := (tr (kfN w q))) (by omega) (by omega) j]; split <;> rfl)) rfl ?_)
     refine Pl.e ?_
     refine Si.e ?_
     refine ⟨flEq_nil, ?_⟩
     show HT _ _ _ _ _
     refine HT.region S_rkchange_ok (So.q rfl rfl (V.mv (v := .p (.v (.int .i64 ((_ : Nat) : Int)))) rfl (So.q rfl rfl (V.addI rfl rfl (by omega) (So.q rfl rfl (V.as (v := .p (.v (.int .i64 _))) rfl (So.e ?_)))))))
     refine ⟨y + 1, by first | rfl | omega | (intro j hj; rfl) | (simp; done) | (simp; omega), by omega, ⟨⟨⟨le_int (by first | rfl | omega | (intro j hj; rfl) | (simp; done) | (simp; omega)), trivial⟩, ⟨.refl _, rfl⟩, ⟨.refl _, rfl⟩, ⟨.refl _, rfl⟩, ⟨.refl _, rfl⟩, ⟨.refl _, trivial⟩, ⟨.refl _, rfl⟩, ⟨.refl _, rfl⟩, ⟨.refl _, trivial⟩, ⟨.refl _, trivial⟩, trivial⟩, ⟨⟨_, rfl, .inr (ob_rows (by first | rfl | ((try dsimp only); first | rfl | omega | (intro j hj; rfl) | (simp; done) | (simp; omega))) (by first | rfl | ((try dsimp only); first | rfl | omega | (intro j hj; rfl) | (simp; done) | (simp; omega)))), trivial⟩, ⟨_, rfl, .inl rfl, trivial⟩, ⟨_, rfl, .inl rfl, trivial⟩, ⟨_, rfl, .inl rfl, trivial⟩, ⟨_, rfl, .inl rfl, trivial⟩, ⟨_, rfl, .inl rfl, trivial⟩, trivial⟩⟩⟩
    ·have h7 := of_decide_eq_false h7
     refine HT.exit ?_
     show HT _ _ _ _ _
     refine HT.region S_rkchange_ok (So.q rfl rfl (V.mv (v := .p (.v (.int .i64 ((_ : Nat) : Int)))) rfl (So.q rfl rfl (V.addI rfl rfl (by omega) (So.q rfl rfl (V.as (v := .p (.v (.int .i64 _))) rfl (So.e ?_)))))))
     refine ⟨x + 1, by first | rfl | omega | (intro j hj; rfl) | (simp; done) | (simp; omega), by omega, ⟨⟨⟨le_int (by first | rfl | omega | (intro j hj; rfl) | (simp; done) | (simp; omega)), trivial⟩, ⟨.refl _, rfl⟩, ⟨.refl _, rfl⟩, ⟨.refl _, rfl⟩, ⟨.refl _, rfl⟩, ⟨.refl _, trivial⟩, ⟨.refl _, rfl⟩, ⟨.refl _, rfl⟩, trivial⟩, ⟨⟨_, rfl, .inr (ob_rows (by first | rfl | ((try dsimp only); (intro j hj; have hj5 : j / 5 < y := (by have : j < 25 := hj; omega); by_cases h8 : xR j < x; (rw [if_pos (.inl h8), if_pos (by omega)]); (by_cases h7 : xR j = x; (rw [if_pos (.inr ⟨h7, hj5⟩), if_pos (by omega)]); (rw [if_neg (by omega), if_neg (by omega)]))))) (by first | rfl | ((try dsimp only); (intro j hj; have hj5 : j / 5 < y := (by have : j < 25 := hj; omega); by_cases h8 : xR j < x; (rw [if_pos (.inl h8), if_pos (by omega)]); (by_cases h7 : xR j = x; (rw [if_pos (.inr ⟨h7, hj5⟩), if_pos (by omega)]); (rw [if_neg (by omega), if_neg (by omega)])))))), trivial⟩, ⟨_, rfl, .inl rfl, trivial⟩, ⟨_, rfl, .inl rfl, trivial⟩, ⟨_, rfl, .inl rfl, trivial⟩, ⟨_, rfl, .inl rfl, trivial⟩, ⟨_, rfl, .inl rfl, trivial⟩, trivial⟩⟩⟩
   ·have h5 := of_decide_eq_false h5
    refine HT.exit ?_
    show HT _ _ _ _ _
    refine HT.seq (HT.seq ?_)
    have hx : x = 5 := by omega
    subst hx
    refine R.tell [] [(6, ⟨61, 5, 25, true, .rows (fun j => .u64 (bR (tr (kfN w q)) j))⟩)] [1, 2, 3, 4, 5, 8] [1, 2, 3, 4] (fr0 := [(1, .ptr 1 0), (2, .ptr 2 0), (3, .ptr 3 0), (4, .ptr 4 0), (5, .p (.v (.int .i64 ((_ : Nat) : Int)))), (8, .ptr 6 0)]) (O0 := [(1, ⟨_, _, _, _, .rows _⟩), (2, ⟨_, _, _, _, .rows _⟩), (3, ⟨_, _, _, _, .rows _⟩), (4, ⟨_, _, _, _, .rows _⟩)]) rfl rfl ⟨⟨⟨.refl _, rfl⟩, ⟨.refl _, rfl⟩, ⟨.refl _, rfl⟩, ⟨.refl _, rfl⟩, ⟨.refl _, trivial⟩, ⟨.refl _, rfl⟩, trivial⟩, ⟨⟨_, rfl, .inr (ob_rows (by first | rfl | ((try dsimp only); (intro j hj; rw [if_pos (xR_lt j)]))) (by first | rfl | ((try dsimp only); (intro j hj; rw [if_pos (xR_lt j)])))), trivial⟩, ⟨_, rfl, .inl rfl, trivial⟩, ⟨_, rfl, .inl rfl, trivial⟩, ⟨_, rfl, .inl rfl, trivial⟩, ⟨_, rfl, .inl rfl, trivial⟩, trivial⟩⟩ ?_
    show HT _ _ _ _ _
    refine HT.region S_rkchange_ok (So.q rfl rfl (V.as (v := .p (.v (.int .i64 (0)))) rfl (So.e (HT.block ?_))))
    refine R.loop (σ := Nat) (fun x => [(12, .p (.v (.int .i64 ((x : Int)))))]) (fun x => [(1, ⟨61, 5, 25, true, .rows (fun j => .u64 (if j < x * 5 then chR (bR (tr (kfN w q))) j else (tr (kfN w q)) j))⟩)]) [1, 2, 3, 4, 5, 8] [2, 3, 4, 6] (fun x => x ≤ 5) (fun x => 5 - x) (0) (fr0 := [(1, .ptr 1 0), (2, .ptr 2 0), (3, .ptr 3 0), (4, .ptr 4 0), (5, .p (.v (.int .i64 ((_ : Nat) : Int)))), (8, .ptr 6 0)]) (O0 := [(2, ⟨_, _, _, _, .rows _⟩), (3, ⟨_, _, _, _, .rows _⟩), (4, ⟨_, _, _, _, .rows _⟩), (6, ⟨_, _, _, _, .rows _⟩)]) rfl rfl (by first | rfl | omega | (intro j hj; rfl) | (simp; done) | (simp; omega)) ⟨⟨⟨le_int (by first | rfl | omega | (intro j hj; rfl) | (simp; done) | (simp; omega) | (intro j hj; rw [if_neg (by omega)])), trivial⟩, ⟨.refl _, rfl⟩, ⟨.refl _, rfl⟩, ⟨.refl _, rfl⟩, ⟨.refl _, rfl⟩, ⟨.refl _, trivial⟩, ⟨.refl _, rfl⟩, trivial⟩, ⟨⟨_, rfl, .inr (ob_rows (by first | rfl | ((try dsimp only); first | rfl | omega | (intro j hj; rfl) | (simp; done) | (simp; omega) | (intro j hj; rw [if_neg (by omega)]))) (by first | rfl | ((try dsimp only); first | rfl | omega | (intro j hj; rfl) | (simp; done) | (simp; omega) | (intro j hj; rw [if_neg (by omega)])))), trivial⟩, ⟨_, rfl, .inl rfl, trivial⟩, ⟨_, rfl, .inl rfl, trivial⟩, ⟨_, rfl, .inl rfl, trivial⟩, ⟨_, rfl, .inl rfl, trivial⟩, trivial⟩⟩ (fun x hP4 => ?_)
    refine HT.seq (HT.seq (HT.region S_rkchange_ok (So.q rfl rfl (V.mv (v := .p (.v (.int .i64 ((_ : Nat) : Int)))) rfl (So.q rfl rfl (V.bin (a := (.v (.int .i64 ((_ : Nat) : Int)))) (b := (.v (.int .i64 (5)))) (r := .v (.bool _)) rfl rfl rfl trivial (So.e ?_)))))))
    show HT _ _ _ _ _
    refine R.cond rfl rfl (fun h9 => ?_) (fun h9 => ?_)
    ·have h9 := of_decide_eq_true h9
     refine HT.skip (HT.seq (HT.block (HT.seq (HT.region S_rkchange_ok (So.q rfl rfl (V.as (v := .p (.v (.int .i64 (0)))) rfl (So.e (HT.block ?_))))))))
     refine R.loop (σ := Nat) (fun y => [(13, .p (.v (.int .i64 ((y : Int)))))]) (fun y => [(1, ⟨61, 5, 25, true, .rows (fun j => .u64 (if j < x * 5 + y then chR (bR (tr (kfN w q))) j else (tr (kfN w q)) j))⟩)]) [1, 2, 3, 4, 5, 8, 12] [2, 3, 4, 6] (fun y => y ≤ 5) (fun y => 5 - y) (0) (fr0 := [(1, .ptr 1 0), (2, .ptr 2 0), (3, .ptr 3 0), (4, .ptr 4 0), (5, .p (.v (.int .i64 ((_ : Nat) : Int)))), (8, .ptr 6 0), (12, .p (.v (.int .i64 ((_ : Nat) : Int))))]) (O0 := [(2, ⟨_, _, _, _, .rows _⟩), (3, ⟨_, _, _, _, .rows _⟩), (4, ⟨_, _, _, _, .rows _⟩), (6, ⟨_, _, _, _, .rows _⟩)]) rfl rfl (by first | rfl | omega | (intro j hj; rfl) | (simp; done) | (simp; omega)) ⟨⟨⟨le_int (by first | rfl | omega | (intro j hj; rfl) | (simp; done) | (simp; omega)), trivial⟩, ⟨.refl _, rfl⟩, ⟨.refl _, rfl⟩, ⟨.refl _, rfl⟩, ⟨.refl _, rfl⟩, ⟨.refl _, trivial⟩, ⟨.refl _, rfl⟩, ⟨.refl _, trivial⟩, trivial⟩, ⟨⟨_, rfl, .inr (ob_rows (by first | rfl | ((try dsimp only); first | rfl | omega | (intro j hj; rfl) | (simp; done) | (simp; omega))) (by first | rfl | ((try dsimp only); first | rfl | omega | (intro j hj; rfl) | (simp; done) | (simp; omega)))), trivial⟩, ⟨_, rfl, .inl rfl, trivial⟩, ⟨_, rfl, .inl rfl, trivial⟩, ⟨_, rfl, .inl rfl, trivial⟩, ⟨_, rfl, .inl rfl, trivial⟩, trivial⟩⟩ (fun y hP5 => ?_)
     refine HT.seq (HT.seq (HT.region S_rkchange_ok (So.q rfl rfl (V.mv (v := .p (.v (.int .i64 ((_ : Nat) : Int)))) rfl (So.q rfl rfl (V.bin (a := (.v (.int .i64 ((_ : Nat) : Int)))) (b := (.v (.int .i64 (5)))) (r := .v (.bool _)) rfl rfl rfl trivial (So.e ?_)))))))
     show HT _ _ _ _ _
     refine R.cond rfl rfl (fun h10 => ?_) (fun h10 => ?_)
     ·have h10 := of_decide_eq_true h10
      refine HT.skip (HT.seq (HT.block ?_))
      refine HT.tail S_rkchange_ok mixed 26 (by kernel_rfl) (by kernel_rfl) ?_
      refine So.q rfl rfl (V.mv (v := .p (.v (.int .i64 ((_ : Nat) : Int)))) rfl (So.q rfl rfl (V.mv (v := .p (.v (.int .i64 ((_ : Nat) : Int)))) rfl (So.q rfl rfl (V.mv (v := .p (.v (.int .i64 ((_ : Nat) : Int)))) rfl (So.q rfl rfl (V.mv (v := .p (.v (.int .i64 ((_ : Nat) : Int)))) rfl (So.q rfl rfl (V.ixArrPS0 (mi := x) (s := 5) ty61 ty60 rfl rfl rfl (by first | rfl | omega | (intro j hj; rfl) | (simp; done) | (simp; omega)) rfl (by omega) (by omega) (So.q rfl rfl (V.ixArrP1 (mi := y) ty60 ty53 rfl rfl rfl (by first | rfl | omega | (intro j hj; rfl) | (simp; done) | (simp; omega)) rfl (by omega) (by omega) (So.q rfl rfl (V.ldPtr ty53 rfl rfl rfl (by first | rfl | omega | (intro j hj; rfl) | (simp; done) | (simp; omega)) (v := .p (.u64 _)) rfl (So.q rfl rfl (V.mv (v := .p (.v (.int .i64 ((_ : Nat) : Int)))) rfl (So.q rfl rfl (V.addI rfl rfl (by omega) (So.q rfl rfl (V.remI rfl rfl (by omega) ?_)))))))))))))))))))
      refine So.q rfl rfl (V.mv (v := .p (.v (.int .i64 ((_ : Nat) : Int)))) rfl (So.q rfl rfl (V.ixArrPS0 (mi := (x + 1) % 5) (s := 5) ty61 ty60 rfl rfl rfl (by first | rfl | omega | (intro j hj; rfl) | (simp; done) | (simp; omega)) rfl (by omega) (by omega) (So.q rfl rfl (V.ixArrP1 (mi := y) ty60 ty53 rfl rfl rfl (by first | rfl | omega | (intro j hj; rfl) | (simp; done) | (simp; omega)) rfl (by omega) (by omega) (So.q rfl rfl (V.ldPtr ty53 rfl rfl rfl (by first | rfl | omega | (intro j hj; rfl) | (simp; done) | (simp; omega)) (v := .p (.u64 _)) rfl (So.q rfl rfl (V.xor64 rfl (So.q rfl rfl (V.mv (v := .p (.v (.int .i64 ((_ : Nat) : Int)))) rfl (So.q rfl rfl (V.addI rfl rfl (by omega) (So.q rfl rfl (V.remI rfl rfl (by omega) (So.q rfl rfl (V.mv (v := .p (.v (.int .i64 ((_ : Nat) : Int)))) rfl (So.q rfl rfl (V.ixArrPS0 (mi := (x + 2) % 5) (s := 5) ty61 ty60 rfl rfl rfl (by first | rfl | omega | (intro j hj; rfl) | (simp; done) | (simp; omega)) rfl (by omega) (by omega) ?_)))))))))))))))))))
      refine So.q rfl rfl (V.ixArrP1 (mi := y) ty60 ty53 rfl rfl rfl (by first | rfl | omega | (intro j hj; rfl) | (simp; done) | (simp; omega)) rfl (by omega) (by omega) (So.q rfl rfl (V.ldPtr ty53 rfl rfl rfl (by first | rfl | omega | (intro j hj; rfl) | (simp; done) | (simp; omega)) (v := .p (.u64 _)) rfl (So.q rfl rfl (V.bin (a := (.u64 _)) (b := (.u64 _)) (r := .u64 _) rfl rfl rfl trivial (So.q rfl rfl (V.bin (a := (.u64 _)) (b := (.u64 _)) (r := .u64 _) rfl rfl rfl trivial (So.q rfl rfl (V.ixArrPS0 (mi := x) (s := 5) ty61 ty60 rfl rfl rfl (by first | rfl | omega | (intro j hj; rfl) | (simp; done) | (simp; omega)) rfl (by omega) (by omega) (So.q rfl rfl (V.ixArrP1 (mi := y) ty60 ty53 rfl rfl rfl (by first | rfl | omega | (intro j hj; rfl) | (simp; done) | (simp; omega)) rfl (by omega) (by omega) (So.s (A.sto ty53 rfl rfl rfl (v := .p (.u64 _)) rfl trivial rfl (by first | rfl | omega | (intro j hj; rfl) | (simp; done) | (simp; omega)) (c' := .rows (fun j => .u64 (if j < x * 5 + (y + 1) then chR (bR (tr (kfN w q))) j else (tr (kfN w q)) j))) (congrArg (fun g => some (OC.rows g)) (funext fun j => by by_cases h9 : j = x * 5 + y; (rw [if_pos h9, if_pos (by omega), h9]; exact congrArg PV.u64 (chR_at (by omega))); (rw [if_neg h9]; dsimp only; by_cases h8 : j < x * 5 + y; (rw [if_pos h8, if_pos (by omega)]); (rw [if_neg h8, if_neg (by omega)])))) rfl (So.e (HT.region S_rkchange_ok (So.q rfl rfl (V.mv (v := .p (.v (.int .i64 ((_ : Nat) : Int)))) rfl ?_)))))))))))))))))
      refine So.q rfl rfl (V.addI rfl rfl (by omega) (So.q rfl rfl (V.as (v := .p (.v (.int .i64 _))) rfl (So.e ?_))))
      refine ⟨y + 1, by first | rfl | omega | (intro j hj; rfl) | (simp; done) | (simp; omega), by omega, ⟨⟨⟨le_int (by first | rfl | omega | (intro j hj; rfl) | (simp; done) | (simp; omega)), trivial⟩, ⟨.refl _, rfl⟩, ⟨.refl _, rfl⟩, ⟨.refl _, rfl⟩, ⟨.refl _, rfl⟩, ⟨.refl _, trivial⟩, ⟨.refl _, rfl⟩, ⟨.refl _, trivial⟩, trivial⟩, ⟨⟨_, rfl, .inr (ob_rows (by first | rfl | ((try dsimp only); first | rfl | omega | (intro j hj; rfl) | (simp; done) | (simp; omega))) (by first | rfl | ((try dsimp only); first | rfl | omega | (intro j hj; rfl) | (simp; done) | (simp; omega)))), trivial⟩, ⟨_, rfl, .inl rfl, trivial⟩, ⟨_, rfl, .inl rfl, trivial⟩, ⟨_, rfl, .inl rfl, trivial⟩, ⟨_, rfl, .inl rfl, trivial⟩, trivial⟩⟩⟩
     ·have h10 := of_decide_eq_false h10
      refine HT.exit ?_
      show HT _ _ _ _ _
      refine HT.region S_rkchange_ok (So.q rfl rfl (V.mv (v := .p (.v (.int .i64 ((_ : Nat) : Int)))) rfl (So.q rfl rfl (V.addI rfl rfl (by omega) (So.q rfl rfl (V.as (v := .p (.v (.int .i64 _))) rfl (So.e ?_)))))))
      refine ⟨x + 1, by first | rfl | omega | (intro j hj; rfl) | (simp; done) | (simp; omega), by omega, ⟨⟨⟨le_int (by first | rfl | omega | (intro j hj; rfl) | (simp; done) | (simp; omega)), trivial⟩, ⟨.refl _, rfl⟩, ⟨.refl _, rfl⟩, ⟨.refl _, rfl⟩, ⟨.refl _, rfl⟩, ⟨.refl _, trivial⟩, ⟨.refl _, rfl⟩, trivial⟩, ⟨⟨_, rfl, .inr (ob_rows (by first | rfl | ((try dsimp only); (intro j hj; rw [show (x + 1) * 5 = x * 5 + y by omega]))) (by first | rfl | ((try dsimp only); (intro j hj; rw [show (x + 1) * 5 = x * 5 + y by omega])))), trivial⟩, ⟨_, rfl, .inl rfl, trivial⟩, ⟨_, rfl, .inl rfl, trivial⟩, ⟨_, rfl, .inl rfl, trivial⟩, ⟨_, rfl, .inl rfl, trivial⟩, trivial⟩⟩⟩
    ·have h9 := of_decide_eq_false h9
     refine HT.exit ?_
     show HT _ _ _ _ _
     have hx : x = 5 := by omega
     subst hx
     refine R.tell [] [(1, ⟨61, 5, 25, true, .rows (fun j => .u64 (chR (bR (tr (kfN w q))) j))⟩)] [1, 2, 3, 4, 5] [2, 3, 4] (fr0 := [(1, .ptr 1 0), (2, .ptr 2 0), (3, .ptr 3 0), (4, .ptr 4 0), (5, .p (.v (.int .i64 ((_ : Nat) : Int))))]) (O0 := [(2, ⟨_, _, _, _, .rows _⟩), (3, ⟨_, _, _, _, .rows _⟩), (4, ⟨_, _, _, _, .rows _⟩)]) rfl rfl ⟨⟨⟨.refl _, rfl⟩, ⟨.refl _, rfl⟩, ⟨.refl _, rfl⟩, ⟨.refl _, rfl⟩, ⟨.refl _, trivial⟩, trivial⟩, ⟨⟨_, rfl, .inr (ob_rows (by first | rfl | ((try dsimp only); (intro j hj; rw [if_pos (by omega)]))) (by first | rfl | ((try dsimp only); (intro j hj; rw [if_pos (by omega)])))), trivial⟩, ⟨_, rfl, .inl rfl, trivial⟩, ⟨_, rfl, .inl rfl, trivial⟩, ⟨_, rfl, .inl rfl, trivial⟩, trivial⟩⟩ ?_
     show HT _ _ _ _ _
     refine HT.tail S_rkchange_ok mixed 9 (by kernel_rfl) (by kernel_rfl) ?_
     refine So.q rfl rfl (V.ixArrPS0 (s := 5) ty61 ty60 rfl rfl rfl (by first | rfl | omega | (intro j hj; rfl) | (simp; done) | (simp; omega)) rfl (by omega) rfl (So.q rfl rfl (V.ixArrP1 ty60 ty53 rfl rfl rfl (by first | rfl | omega | (intro j hj; rfl) | (simp; done) | (simp; omega)) rfl (by omega) rfl (So.q rfl rfl (V.ldPtr ty53 rfl rfl rfl (by first | rfl | omega | (intro j hj; rfl) | (simp; done) | (simp; omega)) (v := .p (.u64 _)) rfl (So.q rfl rfl (V.mv (v := .p (.v (.int .i64 ((_ : Nat) : Int)))) rfl (So.q rfl rfl (V.ixArrP10 (mi := q) ty68 ty53 rfl rfl rfl (by first | rfl | omega | (intro j hj; rfl) | (simp; done) | (simp; omega)) rfl (by omega) (by omega) (So.q rfl rfl (V.ldPtr ty53 rfl rfl rfl (by first | rfl | omega | (intro j hj; rfl) | (simp; done) | (simp; omega)) (v := .p (.u64 _)) rfl (So.q rfl rfl (V.bin (a := (.u64 _)) (b := (.u64 _)) (r := .u64 _) rfl rfl rfl trivial (So.q rfl rfl (V.ixArrPS0 (s := 5) ty61 ty60 rfl rfl rfl (by first | rfl | omega | (intro j hj; rfl) | (simp; done) | (simp; omega)) rfl (by omega) rfl (So.q rfl rfl (V.ixArrP1 ty60 ty53 rfl rfl rfl (by first | rfl | omega | (intro j hj; rfl) | (simp; done) | (simp; omega)) rfl (by omega) rfl (So.s (A.sto ty53 rfl rfl rfl (v := .p (.u64 _)) rfl trivial rfl (by first | rfl | omega | (intro j hj; rfl) | (simp; done) | (simp; omega)) (c' := .rows (fun j => .u64 (rdR (tr (kfN w q)) (constL.getD q 0) j))) (congrArg (fun g => some (OC.rows g)) (funext fun j => by unfold rdR; by_cases h9 : j = 0 <;> simp [h9])) rfl ?_)))))))))))))))))))
     refine So.e (HT.region S_rkchange_ok (So.q rfl rfl (V.mv (v := .p (.v (.int .i64 ((_ : Nat) : Int)))) rfl (So.q rfl rfl (V.addI rfl rfl (by omega) (So.q rfl rfl (V.as (v := .p (.v (.int .i64 _))) rfl (So.e ?_))))))))
     refine ⟨q + 1, by first | rfl | omega | (intro j hj; rfl) | (simp; done) | (simp; omega), by omega, ⟨⟨⟨le_int (by first | rfl | omega | (intro j hj; rfl) | (simp; done) | (simp; omega)), trivial⟩, ⟨.refl _, rfl⟩, ⟨.refl _, rfl⟩, ⟨.refl _, rfl⟩, ⟨.refl _, rfl⟩, trivial⟩, ⟨⟨_, rfl, .inr (ob_rows (by first | rfl | ((try dsimp only); (intro j hj; exact congrArg PV.u64 (rd_tr _ _ j hj)))) (by first | rfl | ((try dsimp only); (intro j hj; exact congrArg PV.u64 (rd_tr _ _ j hj))))), trivial⟩, ⟨_, rfl, .inl rfl, trivial⟩, ⟨_, rfl, .inl rfl, trivial⟩, ⟨_, rfl, .inl rfl, trivial⟩, trivial⟩⟩⟩
 ·have h3 := of_decide_eq_false h3
  refine HT.exit ?_
  show HT _ _ _ _ _
  refine HT.seq (HT.region S_rkchange_ok (So.q rfl rfl (V.ldPtrA ty61 rfl rfl rfl rfl (lk rfl) (So.s (A.stoAg ty61 rfl (n := 25) rfl (by decide) (by intro j hj; first | rfl | trivial) rfl rfl rfl (So.e ?_))))))
  show HT _ _ _ _ _
  refine HT.ret ?_
  exact retC_ok (sg []) [(2, .ptr 2 0)] [(2, ⟨61, 5, 25, true, .rows (fun j => .u64 (tr (kf w) j))⟩)] h ⟨⟨⟨.refl _, rfl⟩, trivial⟩, ⟨⟨_, rfl, .inr (ob_rowsL (by intro j hj; replace hP0 : q = 24 := (by omega); subst hP0; simp only [Nat.zero_add]; exact .refl _)), trivial⟩, trivial⟩⟩ ⟨rvA_cell ty61 rfl rfl rfl rfl (Nat.le_refl _) (le_agg (fun j _ => by first | rfl | (dsimp only; rw [Nat.zero_add]))), trivial⟩ trivial rfl trivial ⟨trivial, trivial⟩ rfl
end Go.Vh

set_option linter.unusedVariables false
set_option linter.unusedSimpArgs false
namespace Go.Vh
open Go Go.Vc Go.Proofs Go.Vw Go.Vk
def rklaySp : Sp := ⟨[1], mkE (α := Nat × UInt8 × (Nat → UInt64) × Nat × Bool × Nat × UInt8) (fun (r, e, w, p, g, q, c) => [.ptr 1 (0), .p (.v (.int .i64 ((q : Int)))), .p (.u8 (c))]) (fun (r, e, w, p, g, q, c) => [(1, ⟨63, 1, 29, true, .rows (spB r e (tr w) (p) g)⟩)]) (fun (r, e, w, p, g, q, c) => q < 192) (fun (r, e, w, p, g, q, c) => []) (fun (r, e, w, p, g, q, c) => [(1, ⟨63, 1, 29, true, .rows (spB r e (tr (layF w q c)) (p) g)⟩)])⟩
def S_rklay : FuncId → Option Sp := fun _ => none
theorem S_rklay_ok : ∀ f s, S_rklay f = some s → FOK Tryd.prog gl f s := fun f s h => by cases h
set_option maxHeartbeats 1000000 in
set_option maxRecDepth 20000 in
theorem rklay_ok : FOK Tryd.prog gl 37 rklaySp := by
 refine FOK.ofE (tyOf_ok Tryd.prog) (slots := []) (nt := 35) Tryd.func37 rfl rfl rfl rfl (by decide) 3 (fun ⟨_, _, _, _, _, _, _⟩ => rfl) (by decide) (fun ⟨_, _, _, _, _, _, _⟩ => ⟨rfl, trivial, trivial, trivial⟩) ?_
 rintro ⟨r, e, w, p, g, q, c⟩ kk hlen hpre h
 replace hpre : q < 192 := hpre
 show HT (cx Tryd.prog 35 (tyOf Tryd.prog) gl [1]) _ [(0, .ptr 1 (0)), (1, .p (.v (.int .i64 ((q : Int))))), (2, .p (.u8 (c)))] [(1, ⟨63, 1, 29, true, .rows (spB r e (tr w) (p) g)⟩)] _
 refine HT.seq (HT.region S_rklay_ok (So.q rfl rfl (V.mv (v := .p (.v (.int .i64 ((_ : Nat) : Int)))) rfl (So.q rfl rfl (V.quoI rfl rfl (by omega) (So.q rfl rfl (V.as (v := .p (.v (.int .i64 _))) rfl (So.e ?_))))))))
 show HT _ _ _ _ _
 refine HT.tail S_rklay_ok mixed 26 (by kernel_rfl) (by kernel_rfl) ?_
 refine So.q rfl rfl (V.mv (v := .ptr 1 0) rfl (So.q rfl rfl (V.mv (v := .p (.v (.int .i64 _))) rfl (So.q rfl rfl (V.remI rfl rfl (by omega) (So.q rfl rfl (V.mv (v := .p (.v (.int .i64 _))) rfl (So.q rfl rfl (V.quoI rfl rfl (by omega) (So.q rfl rfl (V.mv (v := .ptr 1 0) rfl (So.q rfl rfl (V.mv (v := .p (.v (.int .i64 _))) rfl (So.q rfl rfl (V.remI rfl rfl (by omega) (So.q rfl rfl (V.mv (v := .p (.v (.int .i64 _))) rfl (So.q rfl rfl (V.quoI rfl rfl (by omega) ?_)))))))))))))))))))
 refine So.q rfl rfl (V.ncPtr rfl (So.q rfl rfl (V.faPtr ty63 rfl ty61 (lk rfl) rfl rfl (lk rfl) (So.q rfl rfl (V.ixArrPS (mi := q / 8 % 5) (s := 5) ty61 ty60 rfl rfl rfl (by first | rfl | omega | (show _ < 29; omega) | (show _ ≤ 29; omega) | (intro j hj; rfl) | (simp; done) | (simp; omega)) rfl (by omega) (by omega) (So.q rfl rfl (V.ixArrP1 (mi := q / 8 / 5) ty60 ty53 rfl rfl rfl (by first | rfl | omega | (show _ < 29; omega) | (show _ ≤ 29; omega) | (intro j hj; rfl) | (simp; done) | (simp; omega)) rfl (by omega) (by omega) (So.q rfl rfl (V.ldPtr ty53 rfl rfl rfl (by first | rfl | omega | (show _ < 29; omega) | (show _ ≤ 29; omega) | (intro j hj; rfl) | (simp; done) | (simp; omega)) (v := .p (.u64 (w (q / 8)))) (by first | exact (congrArg BV.p (spB_w (i := q / 8 % 5 * 5 + q / 8 / 5) (by omega) (by omega))).trans (by rw [tr_at (by omega)]) | exact congrArg BV.p (spB_w (i := q / 8 % 5 * 5 + q / 8 / 5) (by omega) (by omega))) (So.q rfl rfl (V.mv (v := .p (.u8 _)) rfl (So.q rfl rfl (V.cvN ty53 ty5 (a := (.u8 _)) (r := (.u64 _)) rfl rfl (So.q rfl rfl (V.mv (v := .p (.v (.int .i64 ((_ : Nat) : Int)))) rfl (So.q rfl rfl (V.remI rfl rfl (by omega) (So.q rfl rfl (V.mulI rfl rfl (by omega) ?_)))))))))))))))))))
 refine So.q rfl rfl (V.bin (a := (.u64 _)) (b := (.v (.int .i64 _))) (r := .u64 _) rfl rfl rfl (by first | rfl | omega | (show _ < 29; omega) | (show _ ≤ 29; omega) | (intro j hj; rfl) | (simp; done) | (simp; omega)) (So.q rfl rfl (V.bin (a := (.u64 _)) (b := (.u64 _)) (r := .u64 _) rfl rfl rfl trivial (So.q rfl rfl (V.ncPtr rfl (So.q rfl rfl (V.faPtr ty63 rfl ty61 (lk rfl) rfl rfl (lk rfl) (So.q rfl rfl (V.ixArrPS (mi := q / 8 % 5) (s := 5) ty61 ty60 rfl rfl rfl (by first | rfl | omega | (show _ < 29; omega) | (show _ ≤ 29; omega) | (intro j hj; rfl) | (simp; done) | (simp; omega)) rfl (by omega) (by omega) (So.q rfl rfl (V.ixArrP1 (mi := q / 8 / 5) ty60 ty53 rfl rfl rfl (by first | rfl | omega | (show _ < 29; omega) | (show _ ≤ 29; omega) | (intro j hj; rfl) | (simp; done) | (simp; omega)) rfl (by omega) (by omega) (So.s (A.sto ty53 rfl rfl rfl (v := .p (.u64 _)) rfl trivial rfl (by first | rfl | omega | (show _ < 29; omega) | (show _ ≤ 29; omega) | (intro j hj; rfl) | (simp; done) | (simp; omega)) (c' := .rows (spB r e (tr (layF w q c)) p g)) (congrArg (fun g => some (OC.rows g)) (funext fun j => by exact spB_st (i := q / 8 % 5 * 5 + q / 8 / 5) (by omega) (by omega) (by rw [tr_at (by omega)]; unfold layF; rw [if_pos rfl]; first | rfl | (congr 2; omega)) (by intro j hj25 hj; show tr _ _ = tr _ _; unfold tr layF; exact if_neg (by omega)) j)) rfl (So.e ?_))))))))))))))
 exact ret_ok (sg [(1, 1)]) h rfl rfl rfl ⟨trivial, trivial⟩ trivial rfl ⟨trivial, ⟨⟨_, rfl, .inr (ob_rows (by first | rfl | ((try dsimp only); (first | rfl | (intro j hj; rfl)))) (by first | rfl | ((try dsimp only); (first | rfl | (intro j hj; rfl))))), trivial⟩, trivial⟩⟩
end Go.Vh

set_option linter.unusedVariables false
set_option linter.unusedSimpArgs false
namespace Go.Vh
open Go Go.Vc Go.Proofs Go.Vw Go.Vk
def rkwriteSp : Sp := ⟨[1], mkE (α := Nat × UInt8 × (List UInt8)) (fun (r, e, b) => [.ptr 1 (0), .p (.bs (b))]) (fun (r, e, b) => [(1, ⟨63, 1, 29, true, .rows (spB r e (fun _ => 0) (0) false)⟩)]) (fun (r, e, b) => 8 ≤ r ∧ r ≤ 192) (fun (r, e, b) => []) (fun (r, e, b) => [(1, ⟨63, 1, 29, true, .rows (spB r e (tr ((wrN r b b.length).1)) ((wrN r b b.length).2) false)⟩)])⟩
def S_rkwrite : FuncId → Option Sp := fun f => if f = 37 then some rklaySp else if f = 38 then some rkchangeSp else none
theorem S_rkwrite_ok : ∀ f s, S_rkwrite f = some s → FOK Tryd.prog gl f s := fun f s h => by
 unfold S_rkwrite at h
 split at h
 ·rename_i e; cases h; subst e; exact rklay_ok
 split at h
 ·rename_i e; cases h; subst e; exact rkchange_ok
 cases h
theorem S_rkwrite_det : ∀ f s, S_rkwrite f = some s → SpDet s.sp := fun f s h => by
 unfold S_rkwrite at h
 split at h
 ·cases h; exact mkE_det _ _ _ _ _
 split at h
 ·cases h; exact mkE_det _ _ _ _ _
 cases h
set_option maxHeartbeats 1000000 in
set_option maxRecDepth 20000 in
theorem rkwrite_ok : FOK Tryd.prog gl 33 rkwriteSp := by
 refine FOK.ofE (tyOf_ok Tryd.prog) (slots := []) (nt := 55) Tryd.func33 rfl rfl rfl rfl (by decide) 2 (fun ⟨_, _, _⟩ => rfl) (by decide) (fun ⟨_, _, _⟩ => ⟨rfl, trivial, trivial⟩) ?_
 rintro ⟨r, e, b⟩ kk hlen hpre h
 have hl1 : (b).length ≤ 9223372036854775807 := hlen.2.1
 replace hpre : 8 ≤ r ∧ r ≤ 192 := hpre
 show HT (cx Tryd.prog 55 (tyOf Tryd.prog) gl [1]) _ [(0, .ptr 1 (0)), (1, .p (.bs (b)))] [(1, ⟨63, 1, 29, true, .rows (spB r e (fun _ => 0) (0) false)⟩)] _
 refine HT.seq (HT.region S_rkwrite_ok (So.q rfl rfl (V.as (v := .p (.v (.int .i64 (0)))) rfl (So.e (HT.block ?_)))))
 refine R.loop (σ := Nat) (fun s => [(4, .p (.v (.int .i64 ((s : Int)))))]) (fun s => [(1, ⟨63, 1, 29, true, .rows (spB r e (tr (wrN r b s).1) ((wrN r b s).2) false)⟩)]) [0, 1] [] (fun s => s ≤ b.length) (fun s => b.length - s) (0) (fr0 := [(0, .ptr 1 0), (1, .p (.bs _))]) (O0 := []) rfl rfl (by first | rfl | omega | (show _ < 29; omega) | (show _ ≤ 29; omega) | (intro j hj; rfl) | (simp; done) | (simp; omega)) ⟨⟨⟨le_int (by first | rfl | omega | (intro j hj; rfl)), trivial⟩, ⟨.refl _, rfl⟩, ⟨.refl _, trivial⟩, trivial⟩, ⟨⟨_, rfl, .inr (ob_rows (by first | rfl | ((try dsimp only); first | rfl | omega | (intro j hj; rfl))) (by first | rfl | ((try dsimp only); first | rfl | omega | (intro j hj; rfl)))), trivial⟩, trivial⟩⟩ (fun s hP0 => ?_)
 refine HT.seq (HT.seq (HT.region S_rkwrite_ok (So.q rfl rfl (V.mv (v := .p (.v (.int .i64 ((_ : Nat) : Int)))) rfl (So.q rfl rfl (V.mv (v := .p (.bs _)) rfl (So.q rfl rfl (V.len ty22 (v := .p (.bs _)) rfl rfl (So.q rfl rfl (V.bin (a := (.v (.int .i64 ((_ : Nat) : Int)))) (b := (.v (.int .i64 _))) (r := .v (.bool _)) rfl rfl rfl trivial (So.q rfl rfl (V.mv (v := .p (.v (.bool _))) rfl ?_))))))))))))
 refine So.gd rfl rfl (lk rfl) (lk rfl) (fun h1 => ?_) (fun h1 => ?_)
 ·have h1 := of_decide_eq_true h1
  refine A.v rfl (V.mv (v := .ptr 1 0) rfl (So.gy rfl rfl (lk rfl) (lk rfl) (A.v rfl (V.ncPtr rfl (So.gy rfl rfl (lk rfl) (lk rfl) (A.v rfl (V.faPtr ty63 rfl ty4 (lk rfl) rfl rfl (lk rfl) (So.gy rfl rfl (lk rfl) (lk rfl) (A.v rfl (V.ldPtr ty4 rfl rfl rfl (lk rfl) (v := .p (.v (.bool false))) (by rfl) (So.gy rfl rfl (lk rfl) (lk rfl) (A.v rfl (V.not (b := false) rfl (So.q rfl rfl (V.pkTrue (u := .p (.v (.bool true))) rfl rfl ?_)))))))))))))))
  refine So.e ?_
  show HT _ _ _ _ _
  refine R.condT rfl ?_
  refine HT.skip (HT.seq (HT.block (HT.seq ?_)))
  refine HT.tail S_rkwrite_ok mixed 9 (by kernel_rfl) (by kernel_rfl) ?_
  have hwr := wrN_le r b (by omega) s
  refine So.q rfl rfl (V.mv (v := .ptr 1 0) rfl (So.q rfl rfl (V.mv (v := .ptr 1 0) rfl (So.q rfl rfl (V.ncPtr rfl (So.q rfl rfl (V.faPtr ty63 rfl ty3 (lk rfl) rfl rfl (lk rfl) (So.q rfl rfl (V.ldPtr ty3 rfl rfl rfl (lk rfl) (v := .p (.v (.int .i64 _))) rfl (So.q rfl rfl (V.mv (v := .p (.bs _)) rfl (So.q rfl rfl (V.mv (v := .p (.v (.int .i64 ((_ : Nat) : Int)))) rfl (So.q rfl rfl (V.ixBs ty22 ty5 rfl rfl rfl (by omega) (Int.toNat_natCast _) (So.q rfl rfl (V.ldRp ty5 rfl rfl (lk rfl) (v := (.u8 _)) rfl ?_)))))))))))))))))
  refine So.n (lk rfl) (A.call [.ptr 1 _, .p (.v (.int .i64 _)), .p (.u8 _)] [(1, ⟨_, _, _, _, .rows _⟩)] (sg [(1, 1)]) 2 rfl rfl rfl rfl ⟨rfl, trivial⟩ rfl ⟨trivial, trivial⟩ ⟨rfl, trivial, trivial, trivial⟩ ⟨lk rfl, trivial⟩ rfl (r, e, (wrN r b s).1, (wrN r b s).2, false, (wrN r b s).2, b.getD s 0) ⟨.refl _, .refl _, .refl _, trivial⟩ ⟨⟨_, rfl, .inl rfl, trivial⟩, trivial⟩ (by first | omega | (simp only [List.drop_zero, List.take_length]; omega) | (simp; done) | (simp; omega)) (Φ := fun _ => True) (fun _ _ => trivial) ⟨⟨_, _, rfl, rfl, rfl, Nat.le_refl _⟩, trivial⟩ (.inl rfl) rfl (v := .tup 0 _) rfl (O' := (1, ⟨_, _, _, _, .rows _⟩) :: _) rfl (fun h2 => ?_))
  refine So.e (HT.seq (HT.region S_rkwrite_ok (So.q rfl rfl (V.mv (v := .ptr 1 0) rfl (So.q rfl rfl (V.ncPtr rfl (So.q rfl rfl (V.faPtr ty63 rfl ty3 (lk rfl) rfl rfl (lk rfl) (So.q rfl rfl (V.ldPtr ty3 rfl rfl rfl (lk rfl) (v := .p (.v (.int .i64 _))) rfl (So.q rfl rfl (V.addI rfl rfl (by omega) (So.q rfl rfl (V.ncPtr rfl (So.q rfl rfl (V.faPtr ty63 rfl ty3 (lk rfl) rfl rfl (lk rfl) ?_))))))))))))))))
  refine So.s (A.sto ty3 rfl rfl rfl (v := .p (.v (.int .i64 _))) rfl rfl rfl (lk rfl) (c' := .rows (spB r e (tr (layF (wrN r b s).1 (wrN r b s).2 (b.getD s 0))) ((wrN r b s).2 + 1) false)) (congrArg (fun g => some (OC.rows g)) (funext fun j => by exact spB_at (by omega) j)) rfl (So.e (HT.seq ?_)))
  refine HT.drawn S_rkwrite_ok S_rkwrite_det mixed (by kernel_rfl) ?_
  refine Sd.n (lk rfl) (V.mv (v := .ptr 1 0) rfl (Sd.n (lk rfl) (V.ncPtr rfl (Sd.n (lk rfl) (V.faPtr ty63 rfl ty3 (lk rfl) rfl rfl (lk rfl) (Sd.n (lk rfl) (V.ldPtr ty3 rfl rfl rfl (lk rfl) (v := .p (.v (.int .i64 _))) rfl (Sd.n (lk rfl) (V.mv (v := .ptr 1 0) rfl (Sd.n (lk rfl) (V.ncPtr rfl (Sd.n (lk rfl) (V.faPtr ty63 rfl ty3 (lk rfl) rfl rfl (lk rfl) (Sd.n (lk rfl) (V.ldPtr ty3 rfl rfl rfl (lk rfl) (v := .p (.v (.int .i64 _))) rfl (Sd.n (lk rfl) (V.bin (a := (.v (.int .i64 _))) (b := (.v (.int .i64 _))) (r := .v (.bool _)) rfl rfl rfl trivial (Sd.e ?_))))))))))))))))))
  show HT _ _ _ _ _
  refine R.cond rfl rfl (fun h3 => ?_) (fun h3 => ?_)
  ·have h3 := of_decide_eq_true h3
   refine HT.seq (HT.region S_rkwrite_ok (So.q rfl rfl (V.mv (v := .ptr 1 0) rfl (So.q rfl rfl (V.mv (v := .ptr 1 0) rfl (So.q rfl rfl (V.ncPtr rfl (So.q rfl rfl (V.faPtr ty63 rfl ty61 (lk rfl) rfl rfl (lk rfl) (So.q rfl rfl (V.ldPtrA ty61 rfl rfl rfl rfl (lk rfl) ?_)))))))))))
   refine So.n (lk rfl) (A.call0 [.agg 25 _] 2 rfl rfl rfl rfl ⟨trivial, trivial⟩ ⟨lk rfl, trivial⟩ (layF (wrN r b s).1 (wrN r b s).2 (b.getD s 0)) ⟨le_agg (fun j hj => spB_w (i := j) rfl hj), trivial⟩ trivial (by trivial) (Φ := fun _ => True) (fun _ _ => trivial) (.inl rfl) (v := .agg 25 _) rfl (O' := _) rfl (fun h4 => ?_))
   refine So.q rfl rfl (V.ncPtr rfl (So.q rfl rfl (V.faPtr ty63 rfl ty61 (lk rfl) rfl rfl (lk rfl) (So.s (A.stoAgP ty61 rfl (n := 25) rfl (by decide) (by intro j hj; first | rfl | trivial) rfl (lk rfl) rfl (So.e ?_))))))
   show HT _ _ _ _ _
   refine R.tell [] [(1, ⟨63, 1, 29, true, .rows (spB r e (tr (kf (layF (wrN r b s).1 (wrN r b s).2 (b.getD s 0)))) ((wrN r b s).2 + 1) false)⟩)] [0, 1, 4] [] (fr0 := [(0, .ptr 1 0), (1, .p (.bs _)), (4, .p (.v (.int .i64 ((_ : Nat) : Int))))]) (O0 := []) rfl rfl ⟨⟨⟨.refl _, rfl⟩, ⟨.refl _, trivial⟩, ⟨.refl _, trivial⟩, trivial⟩, ⟨⟨_, rfl, .inr (ob_rows (by first | rfl | ((try dsimp only); (intro j hj; exact spB_ag _ (fun j hj => rfl) j))) (by first | rfl | ((try dsimp only); (intro j hj; exact spB_ag _ (fun j hj => rfl) j)))), trivial⟩, trivial⟩⟩ ?_
   show HT _ _ _ _ _
   refine HT.region S_rkwrite_ok (So.q rfl rfl (V.mv (v := .ptr 1 0) rfl (So.q rfl rfl (V.ncPtr rfl (So.q rfl rfl (V.faPtr ty63 rfl ty3 (lk rfl) rfl rfl (lk rfl) (So.s (A.sto ty3 rfl rfl rfl (v := .p (.v (.int .i64 _))) rfl rfl rfl (lk rfl) (c' := .rows (spB r e (tr (kf (layF (wrN r b s).1 (wrN r b s).2 (b.getD s 0)))) 0 false)) (congrArg (fun g => some (OC.rows g)) (funext fun j => by exact spB_at (by omega) j)) rfl (So.e (HT.region S_rkwrite_ok (So.q rfl rfl (V.mv (v := .p (.v (.int .i64 ((_ : Nat) : Int)))) rfl (So.q rfl rfl (V.addI rfl rfl (by omega) (So.q rfl rfl (V.as (v := .p (.v (.int .i64 _))) rfl ?_))))))))))))))))
   refine So.e ?_
   refine ⟨s + 1, by first | rfl | omega | (show _ < 29; omega) | (show _ ≤ 29; omega) | (intro j hj; rfl) | (simp; done) | (simp; omega), by omega, ⟨⟨⟨le_int (by first | rfl | omega | (show _ < 29; omega) | (show _ ≤ 29; omega) | (intro j hj; rfl) | (simp; done) | (simp; omega)), trivial⟩, ⟨.refl _, rfl⟩, ⟨.refl _, trivial⟩, trivial⟩, ⟨⟨_, rfl, .inr (ob_rows (by first | rfl | ((try dsimp only); (intro j hj; show _ = spB r e (tr (wrS r (wrN r b s) (b.getD s 0)).1) (wrS r (wrN r b s) (b.getD s 0)).2 false j; unfold wrS; by_cases h9 : (wrN r b s).2 + 1 = r <;> first | (exfalso; omega) | (rw [if_pos h9]; done) | (rw [if_pos h9]; rfl) | (rw [if_neg h9]; done) | (rw [if_neg h9]; rfl)))) (by first | rfl | ((try dsimp only); (intro j hj; show _ = spB r e (tr (wrS r (wrN r b s) (b.getD s 0)).1) (wrS r (wrN r b s) (b.getD s 0)).2 false j; unfold wrS; by_cases h9 : (wrN r b s).2 + 1 = r <;> first | (exfalso; omega) | (rw [if_pos h9]; done) | (rw [if_pos h9]; rfl) | (rw [if_neg h9]; done) | (rw [if_neg h9]; rfl))))), trivial⟩, trivial⟩⟩⟩
  ·have h3 := of_decide_eq_false h3
   refine HT.skip (HT.region S_rkwrite_ok (So.q rfl rfl (V.mv (v := .p (.v (.int .i64 ((_ : Nat) : Int)))) rfl (So.q rfl rfl (V.addI rfl rfl (by omega) (So.q rfl rfl (V.as (v := .p (.v (.int .i64 _))) rfl (So.e ?_))))))))
   refine ⟨s + 1, by first | rfl | omega | (show _ < 29; omega) | (show _ ≤ 29; omega) | (intro j hj; rfl) | (simp; done) | (simp; omega), by omega, ⟨⟨⟨le_int (by first | rfl | omega | (show _ < 29; omega) | (show _ ≤ 29; omega) | (intro j hj; rfl) | (simp; done) | (simp; omega)), trivial⟩, ⟨.refl _, rfl⟩, ⟨.refl _, trivial⟩, trivial⟩, ⟨⟨_, rfl, .inr (ob_rows (by first | rfl | ((try dsimp only); (intro j hj; show _ = spB r e (tr (wrS r (wrN r b s) (b.getD s 0)).1) (wrS r (wrN r b s) (b.getD s 0)).2 false j; unfold wrS; by_cases h9 : (wrN r b s).2 + 1 = r <;> first | (exfalso; omega) | (rw [if_pos h9]; done) | (rw [if_pos h9]; rfl) | (rw [if_neg h9]; done) | (rw [if_neg h9]; rfl)))) (by first | rfl | ((try dsimp only); (intro j hj; show _ = spB r e (tr (wrS r (wrN r b s) (b.getD s 0)).1) (wrS r (wrN r b s) (b.getD s 0)).2 false j; unfold wrS; by_cases h9 : (wrN r b s).2 + 1 = r <;> first | (exfalso; omega) | (rw [if_pos h9]; done) | (rw [if_pos h9]; rfl) | (rw [if_neg h9]; done) | (rw [if_neg h9]; rfl))))), trivial⟩, trivial⟩⟩⟩
 ·have h1 := of_decide_eq_false h1
  refine So.gn (b := false) rfl rfl rfl (lk rfl) (lk rfl) (So.gn (b := false) rfl rfl rfl (lk rfl) (lk rfl) (So.gn (b := false) rfl rfl rfl (lk rfl) (lk rfl) (So.gn (b := false) rfl rfl rfl (lk rfl) (lk rfl) (So.q rfl rfl (V.pkFalse (u := .p (.v (.bool false))) rfl rfl (So.e ?_))))))
  show HT _ _ _ _ _
  refine R.condF rfl ?_
  refine HT.exit ?_
  exact ret_ok (sg [(1, 1)]) h rfl rfl rfl ⟨trivial, trivial⟩ trivial rfl ⟨trivial, ⟨⟨_, rfl, .inr (ob_rows (by first | rfl | ((try dsimp only); (first | rfl | (replace hP0 : s = b.length := (by omega); subst hP0; first | rfl | (intro j hj; rfl))))) (by first | rfl | ((try dsimp only); (first | rfl | (replace hP0 : s = b.length := (by omega); subst hP0; first | rfl | (intro j hj; rfl)))))), trivial⟩, trivial⟩⟩
end Go.Vh

set_option linter.unusedVariables false
set_option linter.unusedSimpArgs false
namespace Go.Vh
open Go Go.Vc Go.Proofs Go.Vw Go.Vk
def rknewSp : Sp := ⟨[], mkE (α := Nat × UInt8) (fun (r, e) => [.p (.v (.int .i64 ((r : Int)))), .p (.u8 (e))]) (fun (r, e) => []) (fun (r, e) => 8 ≤ r ∧ r ≤ 192 ∧ r % 8 = 0) (fun (r, e) => [.ptr 1 (0)]) (fun (r, e) => [(1, ⟨63, 1, 29, true, .rows (spB r e (fun _ => 0) (0) false)⟩)])⟩
def S_rknew : FuncId → Option Sp := fun _ => none
theorem S_rknew_ok : ∀ f s, S_rknew f = some s → FOK Tryd.prog gl f s := fun f s h => by cases h
set_option maxHeartbeats 1000000 in
set_option maxRecDepth 20000 in
theorem rknew_ok : FOK Tryd.prog gl 32 rknewSp := by
 refine FOK.ofE (tyOf_ok Tryd.prog) (slots := [4]) (nt := 20) Tryd.func32 rfl rfl rfl rfl (by decide) 2 (fun ⟨_, _⟩ => rfl) (by decide) (fun ⟨_, _⟩ => ⟨trivial, trivial, trivial⟩) ?_
 rintro ⟨r, e⟩ kk hlen hpre h
 replace hpre : 8 ≤ r ∧ r ≤ 192 ∧ r % 8 = 0 := hpre
 show HT (cx Tryd.prog 20 (tyOf Tryd.prog) gl []) _ [(0, .p (.v (.int .i64 ((r : Int))))), (1, .p (.u8 (e)))] [] _
 have h7 := and7 (r := r) (by omega) (by omega)
 refine HT.seq (HT.region S_rknew_ok (So.q rfl rfl (V.as (v := _) rfl (So.e (HT.seq (HT.seq (HT.region S_rknew_ok (So.q rfl rfl (V.mv (v := .p (.v (.int .i64 ((_ : Nat) : Int)))) rfl (So.q rfl rfl (V.bin (a := (.v (.int .i64 ((_ : Nat) : Int)))) (b := (.v (.int .i64 (8)))) (r := .v (.bool _)) rfl rfl rfl trivial (So.q rfl rfl (V.mv (v := .p (.v (.bool _))) rfl ?_)))))))))))))
 refine So.gd rfl rfl (lk rfl) (lk rfl) (fun h1 => ?_) (fun h1 => ?_)
 ·have h1 := of_decide_eq_false h1
  refine A.v rfl (V.mv (v := .p (.v (.int .i64 ((_ : Nat) : Int)))) rfl (So.gy rfl rfl (lk rfl) (lk rfl) (A.v rfl (V.bin (a := (.v (.int .i64 ((_ : Nat) : Int)))) (b := (.v (.int .i64 (192)))) (r := .v (.bool _)) rfl rfl rfl trivial (So.q rfl rfl (V.pkFalse (u := .p (.v (.bool _))) rfl rfl (So.q rfl rfl (V.mv (v := .p (.v (.bool _))) rfl ?_))))))))
  refine So.gd rfl rfl (lk rfl) (lk rfl) (fun h2 => ?_) (fun h2 => ?_)
  ·have h2 := of_decide_eq_false h2
   refine A.v rfl (V.mv (v := .p (.v (.int .i64 ((_ : Nat) : Int)))) rfl (So.gy rfl rfl (lk rfl) (lk rfl) (A.v rfl (V.remI rfl rfl (by omega) (So.gy rfl rfl (lk rfl) (lk rfl) (A.v rfl (V.bin (a := (.v (.int .i64 _))) (b := (.v (.int .i64 (0)))) (r := .v (.bool _)) rfl rfl rfl trivial (So.q rfl rfl (V.pkFalse (u := .p (.v (.bool _))) rfl rfl (So.e ?_))))))))))
   show HT _ _ _ _ _
   refine R.cond rfl rfl (fun h3 => ?_) (fun h3 => ?_)
   ·have h3 := of_decide_eq_false (bnT h3)
    refine HT.seq ?_
    exfalso; first | omega | (simp_all; done)
   ·have h3 := of_decide_eq_true (bnF h3)
    refine HT.skip (HT.seq (HT.region S_rknew_ok (So.q rfl rfl (V.mv (v := .p (.v (.int .i64 ((_ : Nat) : Int)))) rfl (So.q rfl rfl (V.mv (v := .p (.u8 _)) rfl (So.n (lk rfl) (A.bldS ty63 rfl rfl ⟨by first | exact trivial | exact rfl | (intro j hj; first | trivial | rfl | (simp [BV.one]; done)), by first | exact trivial | exact rfl | (intro j hj; first | trivial | rfl | (simp [BV.one]; done)), trivial⟩ rfl (f := spB r e (fun _ => 0) 0 false) (by exact allP_spec (P := fun j => _ = _) ⟨⟨⟨⟨⟨⟨⟨⟨⟨⟨⟨⟨⟨⟨⟨⟨⟨⟨⟨⟨⟨⟨⟨⟨⟨⟨⟨⟨⟨trivial, rfl⟩, rfl⟩, rfl⟩, rfl⟩, rfl⟩, rfl⟩, rfl⟩, rfl⟩, rfl⟩, rfl⟩, rfl⟩, rfl⟩, rfl⟩, rfl⟩, rfl⟩, rfl⟩, rfl⟩, rfl⟩, rfl⟩, rfl⟩, rfl⟩, rfl⟩, rfl⟩, rfl⟩, rfl⟩, rfl⟩, rfl⟩, rfl⟩, rfl⟩) (So.n (lk rfl) (A.boxAg 1 1 (n := 29) rfl (by intro j hj; exact spB_one _) rfl trivial (So.q rfl rfl (V.as (v := .ptr 1 0) rfl (So.e ?_)))))))))))))
    show HT _ _ _ _ _
    refine HT.ret ?_
    exact ret_ok (sg [(1, 1)]) h rfl rfl rfl ⟨trivial, trivial⟩ ⟨rfl, trivial⟩ rfl ⟨⟨⟨.refl _, rfl⟩, trivial⟩, ⟨⟨_, rfl, .inr (ob_rows (by first | rfl | ((try dsimp only); (first | rfl | (intro j hj; rfl)))) (by first | rfl | ((try dsimp only); (first | rfl | (intro j hj; rfl))))), trivial⟩, trivial⟩⟩
  ·have h2 := of_decide_eq_true h2
   refine So.gn (b := true) rfl rfl rfl (lk rfl) (lk rfl) (So.gn (b := true) rfl rfl rfl (lk rfl) (lk rfl) (So.q rfl rfl (V.pkTrue (u := .p (.v (.bool true))) rfl rfl (So.e ?_))))
   show HT _ _ _ _ _
   refine R.condT rfl ?_
   refine HT.seq ?_
   exfalso; first | omega | (simp_all; done)
 ·have h1 := of_decide_eq_true h1
  refine So.gn (b := true) rfl rfl rfl (lk rfl) (lk rfl) (So.q rfl rfl (V.pkTrue (u := .p (.v (.bool true))) rfl rfl (So.q rfl rfl (V.mv (v := .p (.v (.bool true))) rfl (So.gn (b := true) rfl rfl rfl (lk rfl) (lk rfl) (So.gn (b := true) rfl rfl rfl (lk rfl) (lk rfl) (So.gn (b := true) rfl rfl rfl (lk rfl) (lk rfl) (So.q rfl rfl (V.pkTrue (u := .p (.v (.bool true))) rfl rfl (So.e ?_))))))))))
  show HT _ _ _ _ _
  refine R.condT rfl ?_
  refine HT.seq ?_
  exfalso; first | omega | (simp_all; done)
end Go.Vh

set_option linter.unusedVariables false
set_option linter.unusedSimpArgs false
namespace Go.Vh
open Go Go.Vc Go.Proofs Go.Vw Go.Vk
def rkreadSp : Sp := ⟨[1], mkE (α := Nat × UInt8 × (Nat → UInt64) × Nat × Nat) (fun (r, e, w, p, m) => [.ptr 1 (0), .p (.v (.int .i64 ((m : Int))))]) (fun (r, e, w, p, m) => [(1, ⟨63, 1, 29, true, .rows (spB r e (tr (w)) (p) false)⟩)]) (fun (r, e, w, p, m) => 8 ≤ r ∧ r ≤ 192 ∧ p < r ∧ m ≤ 65536) (fun (r, e, w, p, m) => [.own 2 (0) (m)]) (fun (r, e, w, p, m) => [(1, ⟨63, 1, 29, true, .rows (spB r e (tr ((gvN r (padK r e (w, p)) m).1)) ((gvN r (padK r e (w, p)) m).2) true)⟩), (2, ⟨5, 1, m, true, .bs (gvL r (padK r e (w, p)) m)⟩)])⟩
def S_rkread : FuncId → Option Sp := fun f => if f = 37 then some rklaySp else if f = 38 then some rkchangeSp else none
theorem S_rkread_ok : ∀ f s, S_rkread f = some s → FOK Tryd.prog gl f s := fun f s h => by
 unfold S_rkread at h
 split at h
 ·rename_i e; cases h; subst e; exact rklay_ok
 split at h
 ·rename_i e; cases h; subst e; exact rkchange_ok
 cases h
theorem S_rkread_det : ∀ f s, S_rkread f = some s → SpDet s.sp := fun f s h => by
 unfold S_rkread at h
 split at h
 ·cases h; exact mkE_det _ _ _ _ _
 split at h
 ·cases h; exact mkE_det _ _ _ _ _
 cases h
set_option maxHeartbeats 1000000 in
set_option maxRecDepth 20000 in
theorem rkread_ok : FOK Tryd.prog gl 34 rkreadSp := by
 refine FOK.ofE (tyOf_ok Tryd.prog) (slots := [4]) (nt := 109) Tryd.func34 rfl rfl rfl rfl (by decide) 2 (fun ⟨_, _, _, _, _⟩ => rfl) (by decide) (fun ⟨_, _, _, _, _⟩ => ⟨rfl, trivial, trivial⟩) ?_
 rintro ⟨r, e, w, p, m⟩ kk hlen hpre h
 replace hpre : 8 ≤ r ∧ r ≤ 192 ∧ p < r ∧ m ≤ 65536 := hpre
 show HT (cx Tryd.prog 109 (tyOf Tryd.prog) gl [1]) _ [(0, .ptr 1 (0)), (1, .p (.v (.int .i64 ((m : Int)))))] [(1, ⟨63, 1, 29, true, .rows (spB r e (tr (w)) (p) false)⟩)] _
 refine HT.seq (HT.region S_rkread_ok (So.q rfl rfl (V.as (v := .p (.v (.slice none 0 0))) rfl (So.e (HT.seq (HT.seq (HT.region S_rkread_ok (So.q rfl rfl (V.mv (v := .p (.v (.int .i64 ((_ : Nat) : Int)))) rfl (So.q rfl rfl (V.bin (a := (.v (.int .i64 ((_ : Nat) : Int)))) (b := (.v (.int .i64 (0)))) (r := .v (.bool _)) rfl rfl rfl trivial (So.q rfl rfl (V.mv (v := .p (.v (.bool _))) rfl ?_)))))))))))))
 refine So.gd rfl rfl (lk rfl) (lk rfl) (fun h1 => ?_) (fun h1 => ?_)
 ·have h1 := of_decide_eq_false h1
  refine A.v rfl (V.mv (v := .p (.v (.int .i64 ((_ : Nat) : Int)))) rfl (So.gy rfl rfl (lk rfl) (lk rfl) (A.v rfl (V.bin (a := (.v (.int .i64 ((_ : Nat) : Int)))) (b := (.v (.int .i64 (65536)))) (r := .v (.bool _)) rfl rfl rfl trivial (So.q rfl rfl (V.pkFalse (u := .p (.v (.bool _))) rfl rfl (So.e ?_)))))))
  show HT _ _ _ _ _
  refine R.cond rfl rfl (fun h2 => ?_) (fun h2 => ?_)
  ·have h2 := of_decide_eq_true h2
   refine HT.seq ?_
   exfalso; omega
  ·have h2 := of_decide_eq_false h2
   refine HT.skip (HT.seq (HT.seq (HT.region S_rkread_ok (So.q rfl rfl (V.mv (v := .ptr 1 0) rfl (So.q rfl rfl (V.ncPtr rfl (So.q rfl rfl (V.faPtr ty63 rfl ty4 (lk rfl) rfl rfl (lk rfl) (So.q rfl rfl (V.ldPtr ty4 rfl rfl rfl (lk rfl) (v := .p (.v (.bool false))) (by rfl) (So.q rfl rfl (V.not (b := false) rfl (So.e ?_))))))))))))))
   show HT _ _ _ _ _
   refine R.condT rfl ?_
   refine HT.seq ?_
   refine HT.tail S_rkread_ok mixed 9 (by kernel_rfl) (by kernel_rfl) ?_
   refine So.q rfl rfl (V.mv (v := .ptr 1 0) rfl (So.q rfl rfl (V.mv (v := .ptr 1 0) rfl (So.q rfl rfl (V.ncPtr rfl (So.q rfl rfl (V.faPtr ty63 rfl ty3 (lk rfl) rfl rfl (lk rfl) (So.q rfl rfl (V.ldPtr ty3 rfl rfl rfl (lk rfl) (v := .p (.v (.int .i64 _))) rfl (So.q rfl rfl (V.mv (v := .ptr 1 0) rfl (So.q rfl rfl (V.ncPtr rfl (So.q rfl rfl (V.faPtr ty63 rfl ty5 (lk rfl) rfl rfl (lk rfl) (So.q rfl rfl (V.ldPtr ty5 rfl rfl rfl (lk rfl) (v := .p (.u8 _)) rfl ?_)))))))))))))))))
   refine So.n (lk rfl) (A.call [.ptr 1 _, .p (.v (.int .i64 _)), .p (.u8 _)] [(1, ⟨_, _, _, _, .rows _⟩)] (sg [(1, 1)]) 2 rfl rfl rfl rfl ⟨rfl, trivial⟩ rfl ⟨trivial, trivial⟩ ⟨rfl, trivial, trivial, trivial⟩ ⟨lk rfl, trivial⟩ rfl (r, e, w, p, false, p, e) ⟨.refl _, .refl _, .refl _, trivial⟩ ⟨⟨_, rfl, .inl rfl, trivial⟩, trivial⟩ (by first | omega | (simp only [List.drop_zero, List.take_length]; omega) | (simp; done) | (simp; omega)) (Φ := fun _ => True) (fun _ _ => trivial) ⟨⟨_, _, rfl, rfl, rfl, Nat.le_refl _⟩, trivial⟩ (.inl rfl) rfl (v := .tup 0 _) rfl (O' := (1, ⟨_, _, _, _, .rows _⟩) :: _) rfl (fun h3 => ?_))
   refine So.e (HT.seq (HT.region S_rkread_ok (So.q rfl rfl (V.mv (v := .ptr 1 0) rfl (So.q rfl rfl (V.mv (v := .ptr 1 0) rfl (So.q rfl rfl (V.ncPtr rfl (So.q rfl rfl (V.faPtr ty63 rfl ty3 (lk rfl) rfl rfl (lk rfl) (So.q rfl rfl (V.ldPtr ty3 rfl rfl rfl (lk rfl) (v := .p (.v (.int .i64 _))) rfl (So.q rfl rfl (V.subI rfl rfl (by omega) ?_))))))))))))))
   refine So.n (lk rfl) (A.call [.ptr 1 _, .p (.v (.int .i64 _)), .p (.u8 _)] [(1, ⟨_, _, _, _, .rows _⟩)] (sg [(1, 1)]) 2 rfl rfl rfl rfl ⟨rfl, trivial⟩ rfl ⟨trivial, trivial⟩ ⟨rfl, trivial, trivial, trivial⟩ ⟨lk rfl, trivial⟩ rfl (r, e, layF w p e, p, false, r - 1, 128) ⟨.refl _, le_int (by omega), .refl _, trivial⟩ ⟨⟨_, rfl, .inl rfl, trivial⟩, trivial⟩ (by first | omega | (simp only [List.drop_zero, List.take_length]; omega) | (simp; done) | (simp; omega)) (Φ := fun _ => True) (fun _ _ => trivial) ⟨⟨_, _, rfl, rfl, rfl, Nat.le_refl _⟩, trivial⟩ (.inl rfl) rfl (v := .tup 0 _) rfl (O' := (1, ⟨_, _, _, _, .rows _⟩) :: _) rfl (fun h4 => ?_))
   refine So.e (HT.seq (HT.region S_rkread_ok (So.q rfl rfl (V.mv (v := .ptr 1 0) rfl (So.q rfl rfl (V.mv (v := .ptr 1 0) rfl (So.q rfl rfl (V.ncPtr rfl (So.q rfl rfl (V.faPtr ty63 rfl ty61 (lk rfl) rfl rfl (lk rfl) (So.q rfl rfl (V.ldPtrA ty61 rfl rfl rfl rfl (lk rfl) ?_))))))))))))
   refine So.n (lk rfl) (A.call0 [.agg 25 _] 2 rfl rfl rfl rfl ⟨trivial, trivial⟩ ⟨lk rfl, trivial⟩ (layF (layF w p e) (r - 1) 128) ⟨le_agg (fun j hj => spB_w (i := j) rfl hj), trivial⟩ trivial (by trivial) (Φ := fun _ => True) (fun _ _ => trivial) (.inl rfl) (v := .agg 25 _) rfl (O' := _) rfl (fun h5 => ?_))
   refine So.q rfl rfl (V.ncPtr rfl (So.q rfl rfl (V.faPtr ty63 rfl ty61 (lk rfl) rfl rfl (lk rfl) (So.s (A.stoAgP ty61 rfl (n := 25) rfl (by decide) (by intro j hj; first | rfl | trivial) rfl (lk rfl) rfl (So.e (HT.seq ?_)))))))
   refine R.tell [] [(1, ⟨63, 1, 29, true, .rows (spB r e (tr (padK r e (w, p))) (p) false)⟩)] [0, 1, 4] [] (fr0 := [(0, .ptr 1 0), (1, .p (.v (.int .i64 ((_ : Nat) : Int)))), (4, .p (.v (.slice none 0 0)))]) (O0 := []) rfl rfl ⟨⟨⟨.refl _, rfl⟩, ⟨.refl _, trivial⟩, ⟨.refl _, trivial⟩, trivial⟩, ⟨⟨_, rfl, .inr (ob_rows (by first | rfl | ((try dsimp only); (intro j hj; exact spB_ag _ (fun j hj => rfl) j))) (by first | rfl | ((try dsimp only); (intro j hj; exact spB_ag _ (fun j hj => rfl) j)))), trivial⟩, trivial⟩⟩ ?_
   show HT _ _ _ _ _
   refine HT.region S_rkread_ok (So.q rfl rfl (V.mv (v := .ptr 1 0) rfl (So.q rfl rfl (V.ncPtr rfl (So.q rfl rfl (V.faPtr ty63 rfl ty3 (lk rfl) rfl rfl (lk rfl) (So.s (A.sto ty3 rfl rfl rfl (v := .p (.v (.int .i64 _))) rfl rfl rfl (lk rfl) (c' := .rows (spB r e (tr (padK r e (w, p))) 0 false)) (congrArg (fun g => some (OC.rows g)) (funext fun j => by exact spB_at rfl j)) rfl (So.e (HT.region S_rkread_ok (So.q rfl rfl (V.mv (v := .ptr 1 0) rfl (So.q rfl rfl (V.ncPtr rfl (So.q rfl rfl (V.faPtr ty63 rfl ty4 (lk rfl) rfl rfl (lk rfl) ?_))))))))))))))))
   refine So.s (A.sto ty4 rfl rfl rfl (v := .p (.v (.bool true))) rfl rfl rfl (lk rfl) (c' := .rows (spB r e (tr (padK r e (w, p))) 0 true)) (congrArg (fun g => some (OC.rows g)) (funext fun j => by exact spB_gv j)) rfl (So.e (HT.seq (HT.region S_rkread_ok (So.q rfl rfl (V.as (v := .p (.v (.slice none 0 0))) rfl (So.e (HT.seq (HT.seq (HT.region S_rkread_ok (So.q rfl rfl (V.as (v := .p (.v (.int .i64 (0)))) rfl ?_))))))))))))
   refine So.e (HT.block ?_)
   refine R.phan 5 2 5 1 (.bs []) rfl rfl rfl ⟨rfl, rfl⟩ ?_
   refine R.loop (σ := Nat) (fun s => [(6, .p (.v (.int .i64 ((s : Int))))), (5, .own 2 (0) (s))]) (fun s => [(1, ⟨63, 1, 29, true, .rows (spB r e (tr (gvN r (padK r e (w, p)) s).1) ((gvN r (padK r e (w, p)) s).2) true)⟩), (2, ⟨5, 1, s, true, .bs (gvL r (padK r e (w, p)) s)⟩)]) [0, 1, 4] [] (fun s => s ≤ m) (fun s => m - s) (0) (fr0 := [(0, .ptr 1 0), (1, .p (.v (.int .i64 ((_ : Nat) : Int)))), (4, .p (.v (.slice none 0 0)))]) (O0 := []) rfl rfl (by first | rfl | omega | (show _ < 29; omega) | (show _ ≤ 29; omega) | (intro j hj; rfl) | (simp; done) | (simp; omega)) ⟨⟨⟨le_int (by first | rfl | omega | (intro j hj; rfl) | (simp; done)), trivial⟩, ⟨le_own2 (by first | rfl | omega) (by first | rfl | omega | (intro j hj; rfl) | (simp; done)), rfl⟩, ⟨.refl _, rfl⟩, ⟨.refl _, trivial⟩, ⟨.refl _, trivial⟩, trivial⟩, ⟨⟨_, rfl, .inr (ob_rows (by first | rfl | ((try dsimp only); first | rfl | omega | (intro j hj; rfl) | (simp; done))) (by first | rfl | ((try dsimp only); first | rfl | omega | (intro j hj; rfl) | (simp; done)))), trivial⟩, ⟨_, rfl, .inl (ob_bs (by first | rfl | ((try dsimp only); first | rfl | omega | (intro j hj; rfl) | (simp; done))) (by first | rfl | ((try dsimp only); first | rfl | omega | (intro j hj; rfl) | (simp; done)))), trivial⟩, trivial⟩⟩ (fun s hP0 => ?_)
   refine HT.seq (HT.seq (HT.region S_rkread_ok (So.q rfl rfl (V.mv (v := .p (.v (.int .i64 ((_ : Nat) : Int)))) rfl (So.q rfl rfl (V.mv (v := .p (.v (.int .i64 ((_ : Nat) : Int)))) rfl (So.q rfl rfl (V.bin (a := (.v (.int .i64 ((_ : Nat) : Int)))) (b := (.v (.int .i64 ((_ : Nat) : Int)))) (r := .v (.bool _)) rfl rfl rfl trivial (So.e ?_)))))))))
   show HT _ _ _ _ _
   refine R.cond rfl rfl (fun h6 => ?_) (fun h6 => ?_)
   ·have h6 := of_decide_eq_true h6
    refine HT.skip (HT.seq (HT.block ?_))
    refine R.cut (True) [] [(1, ⟨63, 1, 29, true, .rows (spB r e (tr (gvT r (gvN r (padK r e (w, p)) s)).1) ((gvT r (gvN r (padK r e (w, p)) s)).2) true)⟩)] [0, 1, 4, 5, 6] [2] (fr0 := [(0, .ptr 1 0), (1, .p (.v (.int .i64 ((_ : Nat) : Int)))), (4, .p (.v (.slice none 0 0))), (5, .own 2 0 _), (6, .p (.v (.int .i64 ((_ : Nat) : Int))))]) (O0 := [(2, ⟨_, _, _, _, .bs _⟩)]) rfl rfl ?_ (fun hphi => ?_)
    ·refine HT.seq ?_
     refine HT.drawn S_rkread_ok S_rkread_det mixed (by kernel_rfl) ?_
     have hgn := gvN_le r (padK r e (w, p)) (by omega) s
     refine Sd.n (lk rfl) (V.mv (v := .ptr 1 0) rfl (Sd.n (lk rfl) (V.ncPtr rfl (Sd.n (lk rfl) (V.faPtr ty63 rfl ty3 (lk rfl) rfl rfl (lk rfl) (Sd.n (lk rfl) (V.ldPtr ty3 rfl rfl rfl (lk rfl) (v := .p (.v (.int .i64 _))) rfl (Sd.n (lk rfl) (V.mv (v := .ptr 1 0) rfl (Sd.n (lk rfl) (V.ncPtr rfl (Sd.n (lk rfl) (V.faPtr ty63 rfl ty3 (lk rfl) rfl rfl (lk rfl) (Sd.n (lk rfl) (V.ldPtr ty3 rfl rfl rfl (lk rfl) (v := .p (.v (.int .i64 _))) rfl (Sd.n (lk rfl) (V.bin (a := (.v (.int .i64 _))) (b := (.v (.int .i64 _))) (r := .v (.bool _)) rfl rfl rfl trivial (Sd.e ?_))))))))))))))))))
     show HT _ _ _ _ _
     refine R.cond rfl rfl (fun h7 => ?_) (fun h7 => ?_)
     ·have h7 := of_decide_eq_true h7
      refine HT.seq (HT.region S_rkread_ok (So.q rfl rfl (V.mv (v := .ptr 1 0) rfl (So.q rfl rfl (V.mv (v := .ptr 1 0) rfl (So.q rfl rfl (V.ncPtr rfl (So.q rfl rfl (V.faPtr ty63 rfl ty61 (lk rfl) rfl rfl (lk rfl) (So.q rfl rfl (V.ldPtrA ty61 rfl rfl rfl rfl (lk rfl) ?_)))))))))))
      refine So.n (lk rfl) (A.call0 [.agg 25 _] 3 rfl rfl rfl rfl ⟨trivial, trivial⟩ ⟨lk rfl, trivial⟩ (gvN r (padK r e (w, p)) s).1 ⟨le_agg (fun j hj => spB_w (i := j) rfl hj), trivial⟩ trivial (by trivial) (Φ := fun _ => True) (fun _ _ => trivial) (.inl rfl) (v := .agg 25 _) rfl (O' := _) rfl (fun h8 => ?_))
      refine So.q rfl rfl (V.ncPtr rfl (So.q rfl rfl (V.faPtr ty63 rfl ty61 (lk rfl) rfl rfl (lk rfl) (So.s (A.stoAgP ty61 rfl (n := 25) rfl (by decide) (by intro j hj; first | rfl | trivial) rfl (lk rfl) rfl (So.e ?_))))))
      show HT _ _ _ _ _
      refine R.tell [] [(1, ⟨63, 1, 29, true, .rows (spB r e (tr (kf (gvN r (padK r e (w, p)) s).1)) ((gvN r (padK r e (w, p)) s).2) true)⟩)] [0, 1, 4, 5, 6] [2] (fr0 := [(0, .ptr 1 0), (1, .p (.v (.int .i64 ((_ : Nat) : Int)))), (4, .p (.v (.slice none 0 0))), (5, .own 2 0 _), (6, .p (.v (.int .i64 ((_ : Nat) : Int))))]) (O0 := [(2, ⟨_, _, _, _, .bs _⟩)]) rfl rfl ⟨⟨⟨.refl _, rfl⟩, ⟨.refl _, trivial⟩, ⟨.refl _, trivial⟩, ⟨.refl _, rfl⟩, ⟨.refl _, trivial⟩, trivial⟩, ⟨⟨_, rfl, .inr (ob_rows (by first | rfl | ((try dsimp only); (intro j hj; exact spB_ag _ (fun j hj => rfl) j))) (by first | rfl | ((try dsimp only); (intro j hj; exact spB_ag _ (fun j hj => rfl) j)))), trivial⟩, ⟨_, rfl, .inl rfl, trivial⟩, trivial⟩⟩ ?_
      show HT _ _ _ _ _
      refine HT.region S_rkread_ok (So.q rfl rfl (V.mv (v := .ptr 1 0) rfl (So.q rfl rfl (V.ncPtr rfl (So.q rfl rfl (V.faPtr ty63 rfl ty3 (lk rfl) rfl rfl (lk rfl) (So.s (A.sto ty3 rfl rfl rfl (v := .p (.v (.int .i64 _))) rfl rfl rfl (lk rfl) (c' := .rows (spB r e (tr (kf (gvN r (padK r e (w, p)) s).1)) 0 true)) (congrArg (fun g => some (OC.rows g)) (funext fun j => by exact spB_at rfl j)) rfl (So.e ?_)))))))))
      exact ⟨by first | trivial | rfl | (intro j hj; unfold gvT; first | rw [if_pos (by omega)] | rw [if_neg (by omega)]), ⟨⟨⟨.refl _, rfl⟩, ⟨.refl _, trivial⟩, ⟨.refl _, trivial⟩, ⟨.refl _, rfl⟩, ⟨.refl _, trivial⟩, trivial⟩, ⟨⟨_, rfl, .inr (ob_rows (by first | rfl | ((try dsimp only); first | trivial | rfl | (intro j hj; unfold gvT; first | rw [if_pos (by omega)] | rw [if_neg (by omega)]))) (by first | rfl | ((try dsimp only); first | trivial | rfl | (intro j hj; unfold gvT; first | rw [if_pos (by omega)] | rw [if_neg (by omega)])))), trivial⟩, ⟨_, rfl, .inl rfl, trivial⟩, trivial⟩⟩⟩
     ·have h7 := of_decide_eq_false h7
      refine HT.skip ?_
      exact ⟨by first | trivial | rfl | (intro j hj; unfold gvT; first | rw [if_pos (by omega)] | rw [if_neg (by omega)]), ⟨⟨⟨.refl _, rfl⟩, ⟨.refl _, trivial⟩, ⟨.refl _, trivial⟩, ⟨.refl _, rfl⟩, ⟨.refl _, trivial⟩, trivial⟩, ⟨⟨_, rfl, .inr (ob_rows (by first | rfl | ((try dsimp only); first | trivial | rfl | (intro j hj; unfold gvT; first | rw [if_pos (by omega)] | rw [if_neg (by omega)]))) (by first | rfl | ((try dsimp only); first | trivial | rfl | (intro j hj; unfold gvT; first | rw [if_pos (by omega)] | rw [if_neg (by omega)])))), trivial⟩, ⟨_, rfl, .inl rfl, trivial⟩, trivial⟩⟩⟩
    ·refine HT.seq ?_
     refine HT.region S_rkread_ok ?_
     have hgn := gvN_le r (padK r e (w, p)) (by omega) s
     have hgt := gvT_lt r (gvN r (padK r e (w, p)) s) (by omega) hgn
     refine So.q rfl rfl (V.mv (v := .ptr 1 0) rfl (So.q rfl rfl (V.ncPtr rfl (So.q rfl rfl (V.faPtr ty63 rfl ty3 (lk rfl) rfl rfl (lk rfl) (So.q rfl rfl (V.ldPtr ty3 rfl rfl rfl (lk rfl) (v := .p (.v (.int .i64 _))) rfl (So.q rfl rfl (V.quoI rfl rfl (by omega) (So.q rfl rfl (V.as (v := .p (.v (.int .i64 _))) rfl (So.e (HT.seq ?_)))))))))))))
     refine HT.planS S_rkread_ok S_rkread_det mixed [21] [⟨[0, 1, 2, 3, 4, 5, 6, 7, 8, 9, 10, 11, 12, 13, 14, 15, 16, 17, 18], 19, [0]⟩, ⟨[0], 20, []⟩] (by kernel_rfl) ?_
     refine Pl.lk ?_
     refine Si.n rfl (lk rfl) (V.mv (v := .own 2 0 _) rfl (Si.n rfl (lk rfl) (V.mv (v := .ptr 1 0) rfl (Si.n rfl (lk rfl) (V.mv (v := .p (.v (.int .i64 _))) rfl (Si.n rfl (lk rfl) (V.remI rfl rfl (by omega) (Si.n rfl (lk rfl) (V.mv (v := .p (.v (.int .i64 _))) rfl (Si.n rfl (lk rfl) (V.quoI rfl rfl (by omega) (Si.n rfl (lk rfl) (V.ncPtr rfl (Si.n rfl (lk rfl) (V.faPtr ty63 rfl ty61 (lk rfl) rfl rfl (lk rfl) (Si.n rfl (lk rfl) (V.ixArrPS (mi := (gvT r (gvN r (padK r e (w, p)) s)).2 / 8 % 5) (s := 5) ty61 ty60 rfl rfl rfl (by first | rfl | omega | (show _ < 29; omega) | (show _ ≤ 29; omega) | (intro j hj; rfl) | (simp; done) | (simp; omega)) rfl (by omega) (by omega) (Si.n rfl (lk rfl) (V.ixArrP1 (mi := (gvT r (gvN r (padK r e (w, p)) s)).2 / 8 / 5) ty60 ty53 rfl rfl rfl (by first | rfl | omega | (show _ < 29; omega) | (show _ ≤ 29; omega) | (intro j hj; rfl) | (simp; done) | (simp; omega)) rfl (by omega) (by omega) ?_)))))))))))))))))))
     refine Si.n rfl (lk rfl) (V.ldPtr ty53 rfl rfl rfl (by first | rfl | omega | (show _ < 29; omega) | (show _ ≤ 29; omega) | (intro j hj; rfl) | (simp; done) | (simp; omega)) (v := .p (.u64 ((gvT r (gvN r (padK r e (w, p)) s)).1 ((gvT r (gvN r (padK r e (w, p)) s)).2 / 8)))) (by first | exact (congrArg BV.p (spB_w (i := (gvT r (gvN r (padK r e (w, p)) s)).2 / 8 % 5 * 5 + (gvT r (gvN r (padK r e (w, p)) s)).2 / 8 / 5) (by omega) (by omega))).trans (by rw [tr_at (by omega)]) | exact congrArg BV.p (spB_w (i := (gvT r (gvN r (padK r e (w, p)) s)).2 / 8 % 5 * 5 + (gvT r (gvN r (padK r e (w, p)) s)).2 / 8 / 5) (by omega) (by omega))) (Si.n rfl (lk rfl) (V.mv (v := .ptr 1 0) rfl (Si.n rfl (lk rfl) (V.ncPtr rfl (Si.n rfl (lk rfl) (V.faPtr ty63 rfl ty3 (lk rfl) rfl rfl (lk rfl) (Si.n rfl (lk rfl) (V.ldPtr ty3 rfl rfl rfl (lk rfl) (v := .p (.v (.int .i64 _))) rfl (Si.n rfl (lk rfl) (V.remI rfl rfl (by omega) (Si.n rfl (lk rfl) (V.mulI rfl rfl (by omega) (Si.n rfl (lk rfl) (V.bin (a := (.u64 _)) (b := (.v (.int .i64 _))) (r := .u64 _) rfl rfl rfl (by first | rfl | omega | (show _ < 29; omega) | (show _ ≤ 29; omega) | (intro j hj; rfl) | (simp; done) | (simp; omega)) (Si.n rfl (lk rfl) (V.cvN ty5 ty53 (a := (.u64 _)) (r := (.u8 _)) rfl rfl (Si.e ?_))))))))))))))))))
     refine ⟨flEq_nil, fun ff => ?_⟩
     refine Lo.n rfl (lk rfl) (A.bsl 3 ty22 ty5 rfl (lk rfl) (lk rfl) (fun _ => rfl) rfl rfl ⟨lk rfl, trivial⟩ ⟨trivial, trivial⟩ rfl (N := 1) rfl (c := .bs [_]) rfl ?_)
     refine ⟨_, fun ff => ff, ap0d, rfl, FG.id, ?_⟩
     show planA _ _ _ _ _ [(0, .own 2 0 _)] _ _ _
     refine Pl.l0 ?_
     refine Si.n rfl (lk rfl) (V.mv (v := .own 2 0 _) rfl (Si.e ?_))
     refine ⟨(flEq_cons rfl flEq_nil), ?_⟩
     refine Lo.n rfl (lk rfl) (A.apOwn ty22 ty5 rfl rfl rfl rfl (u := .own 3 0 _) rfl rfl (l' := gvL r (padK r e (w, p)) (s + 1)) (by rw [ap_full (by rw [gvL_len]; exact Nat.le_refl _)]; show _ ++ [_] = _ ++ [gvB r (padK r e (w, p)) s]; unfold gvB; rw [show (8 * ((((gvT r (gvN r (padK r e (w, p)) s)).2 : Nat) : Int) % 8)).toNat = (gvT r (gvN r (padK r e (w, p)) s)).2 % 8 * 8 by omega]) (mn := s + 1) (by rfl) (by first | rfl | omega | (show _ < 29; omega) | (show _ ≤ 29; omega) | (intro j hj; rfl) | (simp; done) | (simp; omega)) rfl rfl rfl ?_)
     refine Pl.e ?_
     refine Si.n rfl (lk rfl) (V.as (v := .own 2 0 _) rfl (Si.e ?_))
     refine ⟨flEq_nil, ?_⟩
     show HT _ _ _ _ _
     refine HT.region S_rkread_ok (So.q rfl rfl (V.mv (v := .ptr 1 0) rfl (So.q rfl rfl (V.ncPtr rfl (So.q rfl rfl (V.faPtr ty63 rfl ty3 (lk rfl) rfl rfl (lk rfl) (So.q rfl rfl (V.ldPtr ty3 rfl rfl rfl (lk rfl) (v := .p (.v (.int .i64 _))) rfl (So.q rfl rfl (V.addI rfl rfl (by omega) (So.q rfl rfl (V.ncPtr rfl (So.q rfl rfl (V.faPtr ty63 rfl ty3 (lk rfl) rfl rfl (lk rfl) (So.s (A.sto ty3 rfl rfl rfl (v := .p (.v (.int .i64 _))) rfl rfl rfl (lk rfl) (c' := .rows (spB r e (tr (gvT r (gvN r (padK r e (w, p)) s)).1) ((gvT r (gvN r (padK r e (w, p)) s)).2 + 1) true)) (congrArg (fun g => some (OC.rows g)) (funext fun j => by exact spB_at (by omega) j)) rfl (So.e ?_)))))))))))))))))
     show HT _ _ _ _ _
     refine HT.region S_rkread_ok (So.q rfl rfl (V.mv (v := .p (.v (.int .i64 ((_ : Nat) : Int)))) rfl (So.q rfl rfl (V.addI rfl rfl (by omega) (So.q rfl rfl (V.as (v := .p (.v (.int .i64 _))) rfl (So.e ?_)))))))
     refine ⟨s + 1, by first | rfl | omega | (show _ < 29; omega) | (show _ ≤ 29; omega) | (intro j hj; rfl) | (simp; done) | (simp; omega), by omega, ⟨⟨⟨le_int (by first | rfl | omega | (show _ < 29; omega) | (show _ ≤ 29; omega) | (intro j hj; rfl) | (simp; done) | (simp; omega)), trivial⟩, ⟨le_own2 (by first | rfl | omega) (by first | rfl | omega | (show _ < 29; omega) | (show _ ≤ 29; omega) | (intro j hj; rfl) | (simp; done) | (simp; omega)), rfl⟩, ⟨.refl _, rfl⟩, ⟨.refl _, trivial⟩, ⟨.refl _, trivial⟩, trivial⟩, ⟨⟨_, rfl, .inr (ob_rows (by first | rfl | ((try dsimp only); first | rfl | omega | (show _ < 29; omega) | (show _ ≤ 29; omega) | (intro j hj; rfl) | (simp; done) | (simp; omega))) (by first | rfl | ((try dsimp only); first | rfl | omega | (show _ < 29; omega) | (show _ ≤ 29; omega) | (intro j hj; rfl) | (simp; done) | (simp; omega)))), trivial⟩, ⟨_, rfl, .inl (ob_bs (by first | rfl | ((try dsimp only); first | rfl | omega | (show _ < 29; omega) | (show _ ≤ 29; omega) | (intro j hj; rfl) | (simp; done) | (simp; omega))) (by first | rfl | ((try dsimp only); first | rfl | omega | (show _ < 29; omega) | (show _ ≤ 29; omega) | (intro j hj; rfl) | (simp; done) | (simp; omega)))), trivial⟩, trivial⟩⟩⟩
   ·have h6 := of_decide_eq_false h6
    refine HT.exit ?_
    show HT _ _ _ _ _
    refine HT.seq (HT.region S_rkread_ok (So.q rfl rfl (V.mv (v := .own 2 0 _) rfl (So.q rfl rfl (V.as (v := .own 2 0 _) rfl (So.e ?_))))))
    show HT _ _ _ _ _
    refine HT.ret ?_
    exact ret_ok (sg [(1, 1), (2, 2)]) h rfl rfl rfl ⟨trivial, trivial, trivial⟩ ⟨rfl, trivial⟩ rfl ⟨⟨⟨le_own2 (by first | rfl | omega) (by first | rfl | (replace hP0 : s = m := (by omega); subst hP0; first | rfl | (intro j hj; rfl))), rfl⟩, trivial⟩, ⟨⟨_, rfl, .inr (ob_rows (by first | rfl | ((try dsimp only); (first | rfl | (replace hP0 : s = m := (by omega); subst hP0; first | rfl | (intro j hj; rfl))))) (by first | rfl | ((try dsimp only); (first | rfl | (replace hP0 : s = m := (by omega); subst hP0; first | rfl | (intro j hj; rfl)))))), trivial⟩, ⟨_, rfl, .inl (ob_bs (by first | rfl | ((try dsimp only); (first | rfl | (replace hP0 : s = m := (by omega); subst hP0; first | rfl | (intro j hj; rfl))))) (by first | rfl | ((try dsimp only); (first | rfl | (replace hP0 : s = m := (by omega); subst hP0; first | rfl | (intro j hj; rfl)))))), trivial⟩, trivial⟩⟩
 ·have h1 := of_decide_eq_true h1
  refine So.gn (b := true) rfl rfl rfl (lk rfl) (lk rfl) (So.q rfl rfl (V.pkTrue (u := .p (.v (.bool true))) rfl rfl (So.e ?_)))
  show HT _ _ _ _ _
  refine R.condT rfl ?_
  refine HT.seq ?_
  exfalso; omega
end Go.Vh

set_option linter.unusedVariables false
set_option linter.unusedSimpArgs false
namespace Go.Vh
open Go Go.Vc Go.Proofs Go.Vw Go.Vk
def rkofSp : Sp := ⟨[], mkE (α := Nat × UInt8 × (List UInt8) × Nat) (fun (r, e, b, m) => [.p (.v (.int .i64 ((r : Int)))), .p (.u8 (e)), .p (.bs (b)), .p (.v (.int .i64 ((m : Int))))]) (fun (r, e, b, m) => []) (fun (r, e, b, m) => 8 ≤ r ∧ r ≤ 192 ∧ r % 8 = 0 ∧ m ≤ 65536) (fun (r, e, b, m) => [.own 2 (0) (m)]) (fun (r, e, b, m) => [(2, ⟨5, 1, m, true, .bs (spg r e b m)⟩)])⟩
def S_rkof : FuncId → Option Sp := fun f => if f = 32 then some rknewSp else if f = 33 then some rkwriteSp else if f = 34 then some rkreadSp else none
theorem S_rkof_ok : ∀ f s, S_rkof f = some s → FOK Tryd.prog gl f s := fun f s h => by
 unfold S_rkof at h
 split at h
 ·rename_i e; cases h; subst e; exact rknew_ok
 split at h
 ·rename_i e; cases h; subst e; exact rkwrite_ok
 split at h
 ·rename_i e; cases h; subst e; exact rkread_ok
 cases h
set_option maxHeartbeats 1000000 in
set_option maxRecDepth 20000 in
theorem rkof_ok : FOK Tryd.prog gl 26 rkofSp := by
 refine FOK.ofE (tyOf_ok Tryd.prog) (slots := [8]) (nt := 19) Tryd.func26 rfl rfl rfl rfl (by decide) 4 (fun ⟨_, _, _, _⟩ => rfl) (by decide) (fun ⟨_, _, _, _⟩ => ⟨trivial, trivial, trivial, trivial, trivial⟩) ?_
 rintro ⟨r, e, b, m⟩ kk hlen hpre h
 have hl2 : (b).length ≤ 9223372036854775807 := hlen.2.2.1
 replace hpre : 8 ≤ r ∧ r ≤ 192 ∧ r % 8 = 0 ∧ m ≤ 65536 := hpre
 show HT (cx Tryd.prog 19 (tyOf Tryd.prog) gl []) _ [(0, .p (.v (.int .i64 ((r : Int))))), (1, .p (.u8 (e))), (2, .p (.bs (b))), (3, .p (.v (.int .i64 ((m : Int)))))] [] _
 have hwr := wrN_le r b (by omega) b.length
 refine HT.seq (HT.region S_rkof_ok (So.q rfl rfl (V.as (v := .p (.v (.slice none 0 0))) rfl (So.e (HT.seq (HT.region S_rkof_ok (So.q rfl rfl (V.mv (v := .p (.v (.int .i64 ((_ : Nat) : Int)))) rfl (So.q rfl rfl (V.mv (v := .p (.u8 _)) rfl ?_))))))))))
 refine So.n (lk rfl) (A.call0 [.p (.v (.int .i64 ((_ : Nat) : Int))), .p (.u8 _)] 1 rfl rfl rfl rfl ⟨trivial, trivial, trivial⟩ trivial (r, e) ⟨.refl _, .refl _, trivial⟩ trivial (by first | omega | (simp only [List.drop_zero, List.take_length]; omega) | (simp; done) | (simp; omega)) (Φ := fun _ => True) (fun _ _ => trivial) (.inl rfl) (v := .ptr 2 0) rfl (O' := (2, ⟨63, 1, _, true, .rows _⟩) :: _) rfl (fun h1 => ?_))
 refine So.q rfl rfl (V.as (v := .ptr 2 0) rfl (So.e (HT.seq (HT.region S_rkof_ok (So.q rfl rfl (V.mv (v := .ptr 2 0) rfl (So.q rfl rfl (V.mv (v := .p (.bs _)) rfl ?_))))))))
 refine So.n (lk rfl) (A.call [.ptr 1 _, .p (.bs _)] [(1, ⟨_, _, _, _, .rows _⟩)] (sg [(1, 2)]) 3 rfl rfl rfl rfl ⟨rfl, trivial⟩ rfl ⟨trivial, trivial⟩ ⟨rfl, trivial, trivial⟩ trivial rfl (r, e, b) ⟨.refl _, .refl _, trivial⟩ ⟨⟨_, rfl, .inl rfl, trivial⟩, trivial⟩ (by first | omega | (simp only [List.drop_zero, List.take_length]; omega) | (simp; done) | (simp; omega)) (Φ := fun _ => True) (fun _ _ => trivial) ⟨⟨_, _, rfl, rfl, rfl, Nat.le_refl _⟩, trivial⟩ (.inl rfl) rfl (v := .tup 0 _) rfl (O' := (2, ⟨_, _, _, _, .rows _⟩) :: _) rfl (fun h2 => ?_))
 refine So.e (HT.seq (HT.region S_rkof_ok (So.q rfl rfl (V.mv (v := .ptr 2 0) rfl (So.q rfl rfl (V.mv (v := .p (.v (.int .i64 ((_ : Nat) : Int)))) rfl ?_))))))
 refine So.n (lk rfl) (A.call [.ptr 1 _, .p (.v (.int .i64 ((_ : Nat) : Int)))] [(1, ⟨_, _, _, _, .rows _⟩)] (sg [(1, 2)]) 3 rfl rfl rfl rfl ⟨rfl, trivial⟩ rfl ⟨trivial, trivial⟩ ⟨rfl, trivial, trivial⟩ trivial rfl (r, e, (wrN r b b.length).1, (wrN r b b.length).2, m) ⟨.refl _, .refl _, trivial⟩ ⟨⟨_, rfl, .inl rfl, trivial⟩, trivial⟩ (by first | omega | (simp only [List.drop_zero, List.take_length]; omega) | (simp; done) | (simp; omega)) (Φ := fun _ => True) (fun _ _ => trivial) ⟨⟨_, _, rfl, rfl, rfl, Nat.le_refl _⟩, trivial⟩ (.inl rfl) rfl (v := .own 5 0 _) rfl (O' := (2, ⟨_, _, _, _, .rows _⟩) :: (5, ⟨_, _, _, _, .bs _⟩) :: _) rfl (fun h3 => ?_))
 refine So.q rfl rfl (V.as (v := .own 5 0 _) rfl (So.e ?_))
 show HT _ _ _ _ _
 refine HT.ret ?_
 exact ret_ok (sg [(2, 5)]) h rfl rfl rfl ⟨trivial, trivial⟩ ⟨rfl, trivial⟩ rfl ⟨⟨⟨le_own2 (by first | rfl | omega) (by first | rfl), rfl⟩, trivial⟩, ⟨⟨_, rfl, .inl (ob_bs (by first | rfl | ((try dsimp only); (first | rfl))) (by first | rfl | ((try dsimp only); (first | rfl)))), trivial⟩, trivial⟩⟩
def rkshake128Sp : Sp := ⟨[], mkE (α := (List UInt8) × Nat) (fun (b, m) => [.p (.bs (b)), .p (.v (.int .i64 ((m : Int))))]) (fun (b, m) => []) (fun (b, m) => m ≤ 65536) (fun (b, m) => [.own 2 (0) (m)]) (fun (b, m) => [(2, ⟨5, 1, m, true, .bs (spg 168 31 b m)⟩)])⟩
def S_rkshake128 : FuncId → Option Sp := fun f => if f = 26 then some rkofSp else none
theorem S_rkshake128_ok : ∀ f s, S_rkshake128 f = some s → FOK Tryd.prog gl f s := fun f s h => by
 unfold S_rkshake128 at h
 split at h
 ·rename_i e; cases h; subst e; exact rkof_ok
 cases h
set_option maxHeartbeats 1000000 in
set_option maxRecDepth 20000 in
theorem rkshake128_ok : FOK Tryd.prog gl 18 rkshake128Sp := by
 refine FOK.ofE (tyOf_ok Tryd.prog) (slots := [4]) (nt := 8) Tryd.func18 rfl rfl rfl rfl (by decide) 2 (fun ⟨_, _⟩ => rfl) (by decide) (fun ⟨_, _⟩ => ⟨trivial, trivial, trivial⟩) ?_
 rintro ⟨b, m⟩ kk hlen hpre h
 have hl0 : (b).length ≤ 9223372036854775807 := hlen.1
 replace hpre : m ≤ 65536 := hpre
 show HT (cx Tryd.prog 8 (tyOf Tryd.prog) gl []) _ [(0, .p (.bs (b))), (1, .p (.v (.int .i64 ((m : Int)))))] [] _
 refine HT.seq (HT.region S_rkshake128_ok (So.q rfl rfl (V.as (v := .p (.v (.slice none 0 0))) rfl (So.e (HT.seq (HT.region S_rkshake128_ok (So.q rfl rfl (V.mv (v := .p (.bs _)) rfl (So.q rfl rfl (V.mv (v := .p (.v (.int .i64 ((_ : Nat) : Int)))) rfl ?_))))))))))
 refine So.n (lk rfl) (A.call0 [.p (.v (.int .i64 _)), .p (.u8 _), .p (.bs _), .p (.v (.int .i64 ((_ : Nat) : Int)))] 1 rfl rfl rfl rfl ⟨trivial, trivial, trivial, trivial, trivial⟩ trivial (168, 31, b, m) ⟨le_int rfl, .refl _, .refl _, .refl _, trivial⟩ trivial (by first | omega | (simp only [List.drop_zero, List.take_length]; omega) | (simp; done) | (simp; omega)) (Φ := fun _ => True) (fun _ _ => trivial) (.inl rfl) (v := .own 3 0 _) rfl (O' := (3, ⟨5, 1, _, true, .bs _⟩) :: _) rfl (fun h1 => ?_))
 refine So.q rfl rfl (V.as (v := .own 3 0 _) rfl (So.e ?_))
 show HT _ _ _ _ _
 refine HT.ret ?_
 exact ret_ok (sg [(2, 3)]) h rfl rfl rfl ⟨trivial, trivial⟩ ⟨rfl, trivial⟩ rfl ⟨⟨⟨le_own2 (by first | rfl | omega) (by first | rfl), rfl⟩, trivial⟩, ⟨⟨_, rfl, .inl (ob_bs (by first | rfl | ((try dsimp only); (first | rfl))) (by first | rfl | ((try dsimp only); (first | rfl)))), trivial⟩, trivial⟩⟩
end Go.Vh

set_option linter.unusedVariables false
set_option linter.unusedSimpArgs false
namespace Go.Vh
open Go Go.Vc Go.Proofs Go.Vw Go.Vk
def runiformSp : Sp := ⟨[], mkE (α := (List UInt8)) (fun b => [.p (.bs (b))]) (fun b => []) (fun b => True) (fun b => [.agg 256 (fun j => .v (.int .i64 ((uniF b).1 j))), .p (.v (.int .i64 ((uniF b).2)))]) (fun b => [])⟩
def S_runiform : FuncId → Option Sp := fun f => if f = 18 then some rkshake128Sp else none
theorem S_runiform_ok : ∀ f s, S_runiform f = some s → FOK Tryd.prog gl f s := fun f s h => by
 unfold S_runiform at h
 split at h
 ·rename_i e; cases h; subst e; exact rkshake128_ok
 cases h
theorem S_runiform_det : ∀ f s, S_runiform f = some s → SpDet s.sp := fun f s h => by
 unfold S_runiform at h
 split at h
 ·cases h; exact mkE_det _ _ _ _ _
 cases h
set_option maxHeartbeats 1000000 in
set_option maxRecDepth 20000 in
theorem runiform_ok : FOK Tryd.prog gl 9 runiformSp := by
 refine FOK.ofEC (tyOf_ok Tryd.prog) (rvs := [.cell 2 25, .tmp 3]) (nt := 78) Tryd.func9 rfl rfl rfl rfl (by decide) 1 (fun _ => rfl) (by decide) (fun _ => ⟨trivial, trivial⟩) ?_
 rintro b kk hlen hpre h
 have hl0 : (b).length ≤ 9223372036854775807 := hlen.1
 replace hpre : True := hpre
 show HT (cx Tryd.prog 78 (tyOf Tryd.prog) gl []) _ [(0, .p (.bs (b)))] [] _
 refine HT.seq (HT.region S_runiform_ok (So.n (lk rfl) (A.alloc 1 1 ty25 rfl trivial (f := fun _ => .v (.int .i64 0)) (fun _ _ => rfl) (So.q rfl rfl (V.as (v := .p (.v (.int .i64 (0)))) rfl (So.e (HT.seq (HT.region S_runiform_ok (So.n (lk rfl) (A.alloc 2 1 ty25 rfl trivial (f := fun _ => .v (.int .i64 0)) (fun _ _ => rfl) (So.e (HT.seq ?_))))))))))))
 refine HT.seq (HT.region S_runiform_ok (So.q rfl rfl (V.mv (v := .p (.bs _)) rfl (So.q rfl rfl (V.len ty22 (v := .p (.bs _)) rfl rfl (So.q rfl rfl (V.bin (a := (.v (.int .i64 _))) (b := (.v (.int .i64 (34)))) (r := .v (.bool _)) rfl rfl rfl trivial (So.e ?_))))))))
 show HT _ _ _ _ _
 refine R.cond rfl rfl (fun h1 => ?_) (fun h1 => ?_)
 ·have h1 := of_decide_eq_false (bnT h1)
  refine HT.seq (HT.region S_runiform_ok (So.q rfl rfl (V.ldPtrA ty25 rfl rfl rfl rfl (lk rfl) (So.s (A.stoAg ty25 rfl (n := 256) rfl (by decide) (by intro j hj; first | rfl | trivial) rfl rfl rfl (So.q rfl rfl (V.as (v := .p (.v (.int .i64 (1)))) rfl (So.e ?_))))))))
  show HT _ _ _ _ _
  refine HT.ret ?_
  exact retC_ok (sg []) [(2, .ptr 1 0), (3, .p (.v (.int .i64 ((uniF b).2))))] [(1, ⟨25, 1, 256, true, .rows (fun j => .v (.int .i64 ((uniF b).1 j)))⟩)] h ⟨⟨⟨.refl _, rfl⟩, ⟨le_int (by first | rfl | (rw [un_r0 (by omega)]; done) | (rw [un_f0 (s := s) (by omega) (by omega) (by omega)]; done) | (have hs9 : s = 560 := (by omega); subst hs9; rw [un_r1 (by omega) (by omega)]; done)), trivial⟩, trivial⟩, ⟨⟨_, rfl, .inr (ob_rowsL (by intro j hj; (try simp only [Nat.zero_add]); first | (rw [un_r0 (by omega)]; exact .refl _) | (rw [un_f0 (s := s) (by omega) (by omega) (by omega)]; exact .refl _) | (have hs9 : s = 560 := (by omega); subst hs9; rw [un_r1 (by omega) (by omega)]; exact .refl _))), trivial⟩, trivial⟩⟩ ⟨rvA_cell ty25 rfl rfl rfl rfl (Nat.le_refl _) (le_agg (fun j _ => by first | rfl | (dsimp only; rw [Nat.zero_add]))), .refl _, trivial⟩ trivial rfl trivial ⟨trivial, trivial, trivial⟩ rfl
 ·have h1 := of_decide_eq_true (bnF h1)
  refine HT.skip (HT.seq (HT.region S_runiform_ok (So.q rfl rfl (V.mv (v := .p (.bs _)) rfl ?_))))
  refine So.n (lk rfl) (A.call0F S_runiform_ok [.p (.bs _), .p (.v (.int .i64 _))] 3 rfl rfl rfl rfl ⟨trivial, trivial, trivial⟩ trivial (b, 1680) ⟨.refl _, .refl _, trivial⟩ trivial (by first | omega | (simp only [List.drop_zero, List.take_length]; omega) | (simp; done) | (simp; omega)) (Φ := fun _ => True) (fun _ _ => trivial) (.inl rfl) (t := 5) (off := 0) rfl (O' := (5, ⟨5, 1, _, true, .bs _⟩) :: _) rfl rfl rfl (y := .p (.bs _)) rfl rfl (fun h2 => ?_))
  refine So.q rfl rfl (V.as (v := .p (.bs _)) rfl (So.e (HT.seq ?_)))
  refine R.tell [(5, .p (.bs ((spg 168 31 b 1680))))] [] [2, 3, 4] [1, 2] (fr0 := [(2, .ptr 1 0), (3, .p (.v (.int .i64 _))), (4, .ptr 2 0)]) (O0 := [(1, ⟨_, _, _, _, .rows _⟩), (2, ⟨_, _, _, _, .rows _⟩)]) rfl rfl ⟨⟨⟨le_bs (by rw [List.drop_zero, List.take_of_length_le (by rw [spg_len]; exact Nat.le_refl _)]), trivial⟩, ⟨.refl _, rfl⟩, ⟨.refl _, trivial⟩, ⟨.refl _, rfl⟩, trivial⟩, ⟨⟨_, rfl, .inl rfl, trivial⟩, ⟨_, rfl, .inl rfl, trivial⟩, trivial⟩⟩ ?_
  show HT _ _ _ _ _
  refine HT.region S_runiform_ok (So.q rfl rfl (V.as (v := .p (.v (.int .i64 (0)))) rfl (So.e (HT.seq (HT.seq (HT.region S_runiform_ok (So.q rfl rfl (V.as (v := .p (.v (.int .i64 (0)))) rfl (So.e (HT.block ?_))))))))))
  refine R.loop (σ := Nat) (fun s => [(7, .p (.v (.int .i64 (3 * (s : Int))))), (6, .p (.v (.int .i64 ((((unN (spg 168 31 b 1680) s).2 : Nat) : Int)))))]) (fun s => [(2, ⟨25, 1, 256, true, .rows (fun j => .v (.int .i64 ((unN (spg 168 31 b 1680) s).1 j)))⟩)]) [2, 3, 4, 5] [1] (fun s => s ≤ 560) (fun s => 560 - s) (0) (fr0 := [(2, .ptr 1 0), (3, .p (.v (.int .i64 _))), (4, .ptr 2 0), (5, .p (.bs _))]) (O0 := [(1, ⟨_, _, _, _, .rows _⟩)]) rfl rfl (by first | rfl | omega | (simp; done) | (simp; omega)) ⟨⟨⟨le_int (by first | rfl | omega | (intro j hj; rfl)), trivial⟩, ⟨le_int (by first | rfl | omega | (intro j hj; rfl)), trivial⟩, ⟨.refl _, rfl⟩, ⟨.refl _, trivial⟩, ⟨.refl _, rfl⟩, ⟨.refl _, trivial⟩, trivial⟩, ⟨⟨_, rfl, .inr (ob_rows (by first | rfl | ((try dsimp only); first | rfl | omega | (intro j hj; rfl))) (by first | rfl | ((try dsimp only); first | rfl | omega | (intro j hj; rfl)))), trivial⟩, ⟨_, rfl, .inl rfl, trivial⟩, trivial⟩⟩ (fun s hP0 => ?_)
  refine HT.seq (HT.seq (HT.region S_runiform_ok ?_))
  have hsl := spg_len 168 31 b 1680
  refine So.q rfl rfl (V.mv (v := .p (.v (.int .i64 _))) rfl (So.q rfl rfl (V.addI rfl rfl (by omega) (So.q rfl rfl (V.mv (v := .p (.bs _)) rfl (So.q rfl rfl (V.len ty22 (v := .p (.bs _)) rfl rfl (So.q rfl rfl (V.bin (a := (.v (.int .i64 _))) (b := (.v (.int .i64 _))) (r := .v (.bool _)) rfl rfl rfl trivial (So.q rfl rfl (V.mv (v := .p (.v (.bool _))) rfl ?_)))))))))))
  refine So.gd rfl rfl (lk rfl) (lk rfl) (fun h3 => ?_) (fun h3 => ?_)
  ·have h3 := of_decide_eq_true h3
   refine A.v rfl (V.mv (v := .p (.v (.int .i64 _))) rfl (So.gy rfl rfl (lk rfl) (lk rfl) (A.v rfl (V.bin (a := (.v (.int .i64 _))) (b := (.v (.int .i64 (256)))) (r := .v (.bool _)) rfl rfl rfl trivial (So.q rfl rfl (V.pkTrue (u := .p (.v (.bool _))) rfl rfl (So.e ?_)))))))
   show HT _ _ _ _ _
   refine R.cond rfl rfl (fun h4 => ?_) (fun h4 => ?_)
   ·have h4 := of_decide_eq_true h4
    refine HT.skip (HT.seq (HT.block (HT.seq ?_)))
    refine HT.drawn S_runiform_ok S_runiform_det mixed (by kernel_rfl) ?_
    have hb0 := ((spg 168 31 b 1680).getD (3 * s) 0).toNat_lt
    have hb1 := ((spg 168 31 b 1680).getD (3 * s + 1) 0).toNat_lt
    have hb2 := ((spg 168 31 b 1680).getD (3 * s + 2) 0).toNat_lt
    have hul9 := un_le (spg 168 31 b 1680) s
    refine Sd.n (lk rfl) (V.mv (v := .p (.bs _)) rfl (Sd.n (lk rfl) (V.mv (v := .p (.v (.int .i64 _))) rfl (Sd.n (lk rfl) (V.ixBs (mi := 3 * s) ty22 ty5 rfl rfl rfl (by omega) (by omega) (Sd.n (lk rfl) (V.ldRp ty5 rfl rfl (lk rfl) (v := (.u8 _)) rfl (Sd.n (lk rfl) (V.cvN ty3 ty5 (a := (.u8 _)) (r := (.v (.int .i64 _))) rfl rfl (Sd.n (lk rfl) (V.mv (v := .p (.bs _)) rfl (Sd.n (lk rfl) (V.mv (v := .p (.v (.int .i64 _))) rfl (Sd.n (lk rfl) (V.addI rfl rfl (by omega) (Sd.n (lk rfl) (V.ixBs (mi := 3 * s + 1) ty22 ty5 rfl rfl rfl (by omega) (by omega) (Sd.n (lk rfl) (V.ldRp ty5 rfl rfl (lk rfl) (v := (.u8 _)) rfl ?_)))))))))))))))))))
    refine Sd.n (lk rfl) (V.cvN ty3 ty5 (a := (.u8 _)) (r := (.v (.int .i64 _))) rfl rfl (Sd.n (lk rfl) (V.remI rfl rfl (by omega) (Sd.n (lk rfl) (V.mulI rfl rfl (by omega) (Sd.n (lk rfl) (V.addI rfl rfl (by omega) (Sd.n (lk rfl) (V.as (v := .p (.v (.int .i64 _))) rfl (Sd.e (HT.seq ?_)))))))))))
    refine HT.drawn S_runiform_ok S_runiform_det mixed (by kernel_rfl) ?_
    refine Sd.n (lk rfl) (V.mv (v := .p (.bs _)) rfl (Sd.n (lk rfl) (V.mv (v := .p (.v (.int .i64 _))) rfl (Sd.n (lk rfl) (V.addI rfl rfl (by omega) (Sd.n (lk rfl) (V.ixBs (mi := 3 * s + 1) ty22 ty5 rfl rfl rfl (by omega) (by omega) (Sd.n (lk rfl) (V.ldRp ty5 rfl rfl (lk rfl) (v := (.u8 _)) rfl (Sd.n (lk rfl) (V.cvN ty3 ty5 (a := (.u8 _)) (r := (.v (.int .i64 _))) rfl rfl (Sd.n (lk rfl) (V.quoI rfl rfl (by omega) (Sd.n (lk rfl) (V.mv (v := .p (.bs _)) rfl (Sd.n (lk rfl) (V.mv (v := .p (.v (.int .i64 _))) rfl (Sd.n (lk rfl) (V.addI rfl rfl (by omega) ?_)))))))))))))))))))
    refine Sd.n (lk rfl) (V.ixBs (mi := 3 * s + 2) ty22 ty5 rfl rfl rfl (by omega) (by omega) (Sd.n (lk rfl) (V.ldRp ty5 rfl rfl (lk rfl) (v := (.u8 _)) rfl (Sd.n (lk rfl) (V.cvN ty3 ty5 (a := (.u8 _)) (r := (.v (.int .i64 _))) rfl rfl (Sd.n (lk rfl) (V.mulI rfl rfl (by omega) (Sd.n (lk rfl) (V.addI rfl rfl (by omega) (Sd.n (lk rfl) (V.as (v := .p (.v (.int .i64 _))) rfl (Sd.e ?_))))))))))))
    show HT _ _ _ _ _
    refine R.cut (True) [(6, .p (.v (.int .i64 ((((stP (unN (spg 168 31 b 1680) s) (cX (spg 168 31 b 1680) s)).2 : Nat) : Int))))), (9, .p (.v (.int .i64 (cY (spg 168 31 b 1680) s))))] [(2, ⟨25, 1, 256, true, .rows (fun j => .v (.int .i64 ((stP (unN (spg 168 31 b 1680) s) (cX (spg 168 31 b 1680) s)).1 j)))⟩)] [2, 3, 4, 5, 7, 22, 23] [1] (fr0 := [(2, .ptr 1 0), (3, .p (.v (.int .i64 _))), (4, .ptr 2 0), (5, .p (.bs _)), (7, .p (.v (.int .i64 _))), (22, .p (.v (.int .i64 _))), (23, .p (.v (.bool _)))]) (O0 := [(1, ⟨_, _, _, _, .rows _⟩)]) rfl rfl ?_ (fun hphi => ?_)
    ·refine HT.seq ?_
     refine R.tell [(8, .p (.v (.int .i64 (cX (spg 168 31 b 1680) s)))), (9, .p (.v (.int .i64 (cY (spg 168 31 b 1680) s))))] [] [2, 3, 4, 5, 6, 7, 22, 23] [1, 2] (fr0 := [(2, .ptr 1 0), (3, .p (.v (.int .i64 _))), (4, .ptr 2 0), (5, .p (.bs _)), (6, .p (.v (.int .i64 _))), (7, .p (.v (.int .i64 _))), (22, .p (.v (.int .i64 _))), (23, .p (.v (.bool _)))]) (O0 := [(1, ⟨_, _, _, _, .rows _⟩), (2, ⟨_, _, _, _, .rows _⟩)]) rfl rfl ⟨⟨⟨le_int (by rfl), trivial⟩, ⟨le_int (by rfl), trivial⟩, ⟨.refl _, rfl⟩, ⟨.refl _, trivial⟩, ⟨.refl _, rfl⟩, ⟨.refl _, trivial⟩, ⟨.refl _, trivial⟩, ⟨.refl _, trivial⟩, ⟨.refl _, trivial⟩, ⟨.refl _, trivial⟩, trivial⟩, ⟨⟨_, rfl, .inl rfl, trivial⟩, ⟨_, rfl, .inl rfl, trivial⟩, trivial⟩⟩ ?_
     show HT _ _ _ _ _
     refine HT.region S_runiform_ok (So.q rfl rfl (V.mv (v := .p (.v (.int .i64 _))) rfl (So.q rfl rfl (V.bin (a := (.v (.int .i64 _))) (b := (.v (.int .i64 (3329)))) (r := .v (.bool _)) rfl rfl rfl trivial (So.e ?_)))))
     show HT _ _ _ _ _
     refine R.cond rfl rfl (fun h5 => ?_) (fun h5 => ?_)
     ·have h5 := of_decide_eq_true h5
      refine HT.seq (HT.region S_runiform_ok (So.q rfl rfl (V.mv (v := .p (.v (.int .i64 _))) rfl (So.q rfl rfl (V.mv (v := .p (.v (.int .i64 _))) rfl (So.q rfl rfl (V.ixArrP10 (mi := (unN (spg 168 31 b 1680) s).2) ty25 ty3 rfl rfl rfl (by first | rfl | omega | (simp; done) | (simp; omega)) rfl (by omega) (by omega) (So.s (A.sto ty3 rfl rfl rfl (v := .p (.v (.int .i64 _))) rfl rfl rfl (by first | rfl | omega | (simp; done) | (simp; omega)) (c' := .rows (fun j => .v (.int .i64 ((stP (unN (spg 168 31 b 1680) s) (cX (spg 168 31 b 1680) s)).1 j)))) (congrArg (fun g => some (OC.rows g)) (funext fun j => by rw [stP_y (st := (unN (spg 168 31 b 1680) s)) (x := cX (spg 168 31 b 1680) s) (by omega) (by omega)]; by_cases h9 : j = (unN (spg 168 31 b 1680) s).2 <;> simp [h9])) rfl (So.e (HT.region S_runiform_ok (So.q rfl rfl (V.mv (v := .p (.v (.int .i64 _))) rfl (So.q rfl rfl (V.addI rfl rfl (by omega) ?_)))))))))))))))
      refine So.q rfl rfl (V.as (v := .p (.v (.int .i64 _))) rfl (So.e ?_))
      exact ⟨by trivial, ⟨⟨⟨le_int (by first | with_reducible rfl | (rw [stP_y (st := (unN (spg 168 31 b 1680) s)) (x := cX (spg 168 31 b 1680) s) (by omega) (by omega)]; first | done | with_reducible rfl | (show _ + 1 = ((_ + 1 : Nat) : Int); omega)) | (rw [stP_n (st := (unN (spg 168 31 b 1680) s)) (x := cX (spg 168 31 b 1680) s) (by omega)]; done) | (intro j hj; rw [stP_n (st := (unN (spg 168 31 b 1680) s)) (x := cX (spg 168 31 b 1680) s) (by omega)]; done) | (intro j hj; with_reducible rfl)), trivial⟩, ⟨le_int (by first | with_reducible rfl | (rw [stP_y (st := (unN (spg 168 31 b 1680) s)) (x := cX (spg 168 31 b 1680) s) (by omega) (by omega)]; first | done | with_reducible rfl | (show _ + 1 = ((_ + 1 : Nat) : Int); omega)) | (rw [stP_n (st := (unN (spg 168 31 b 1680) s)) (x := cX (spg 168 31 b 1680) s) (by omega)]; done) | (intro j hj; rw [stP_n (st := (unN (spg 168 31 b 1680) s)) (x := cX (spg 168 31 b 1680) s) (by omega)]; done) | (intro j hj; with_reducible rfl)), trivial⟩, ⟨.refl _, rfl⟩, ⟨.refl _, trivial⟩, ⟨.refl _, rfl⟩, ⟨.refl _, trivial⟩, ⟨.refl _, trivial⟩, ⟨.refl _, trivial⟩, ⟨.refl _, trivial⟩, trivial⟩, ⟨⟨_, rfl, .inr (ob_rows (by first | rfl | ((try dsimp only); first | with_reducible rfl | (rw [stP_y (st := (unN (spg 168 31 b 1680) s)) (x := cX (spg 168 31 b 1680) s) (by omega) (by omega)]; first | done | with_reducible rfl | (show _ + 1 = ((_ + 1 : Nat) : Int); omega)) | (rw [stP_n (st := (unN (spg 168 31 b 1680) s)) (x := cX (spg 168 31 b 1680) s) (by omega)]; done) | (intro j hj; rw [stP_n (st := (unN (spg 168 31 b 1680) s)) (x := cX (spg 168 31 b 1680) s) (by omega)]; done) | (intro j hj; with_reducible rfl))) (by first | rfl | ((try dsimp only); first | with_reducible rfl | (rw [stP_y (st := (unN (spg 168 31 b 1680) s)) (x := cX (spg 168 31 b 1680) s) (by omega) (by omega)]; first | done | with_reducible rfl | (show _ + 1 = ((_ + 1 : Nat) : Int); omega)) | (rw [stP_n (st := (unN (spg 168 31 b 1680) s)) (x := cX (spg 168 31 b 1680) s) (by omega)]; done) | (intro j hj; rw [stP_n (st := (unN (spg 168 31 b 1680) s)) (x := cX (spg 168 31 b 1680) s) (by omega)]; done) | (intro j hj; with_reducible rfl)))), trivial⟩, ⟨_, rfl, .inl rfl, trivial⟩, trivial⟩⟩⟩
     ·have h5 := of_decide_eq_false h5
      refine HT.skip ?_
      exact ⟨by trivial, ⟨⟨⟨le_int (by first | with_reducible rfl | (rw [stP_y (st := (unN (spg 168 31 b 1680) s)) (x := cX (spg 168 31 b 1680) s) (by omega) (by omega)]; first | done | with_reducible rfl | (show _ + 1 = ((_ + 1 : Nat) : Int); omega)) | (rw [stP_n (st := (unN (spg 168 31 b 1680) s)) (x := cX (spg 168 31 b 1680) s) (by omega)]; done) | (intro j hj; rw [stP_n (st := (unN (spg 168 31 b 1680) s)) (x := cX (spg 168 31 b 1680) s) (by omega)]; done) | (intro j hj; with_reducible rfl)), trivial⟩, ⟨le_int (by first | with_reducible rfl | (rw [stP_y (st := (unN (spg 168 31 b 1680) s)) (x := cX (spg 168 31 b 1680) s) (by omega) (by omega)]; first | done | with_reducible rfl | (show _ + 1 = ((_ + 1 : Nat) : Int); omega)) | (rw [stP_n (st := (unN (spg 168 31 b 1680) s)) (x := cX (spg 168 31 b 1680) s) (by omega)]; done) | (intro j hj; rw [stP_n (st := (unN (spg 168 31 b 1680) s)) (x := cX (spg 168 31 b 1680) s) (by omega)]; done) | (intro j hj; with_reducible rfl)), trivial⟩, ⟨.refl _, rfl⟩, ⟨.refl _, trivial⟩, ⟨.refl _, rfl⟩, ⟨.refl _, trivial⟩, ⟨.refl _, trivial⟩, ⟨.refl _, trivial⟩, ⟨.refl _, trivial⟩, trivial⟩, ⟨⟨_, rfl, .inr (ob_rows (by first | rfl | ((try dsimp only); first | with_reducible rfl | (rw [stP_y (st := (unN (spg 168 31 b 1680) s)) (x := cX (spg 168 31 b 1680) s) (by omega) (by omega)]; first | done | with_reducible rfl | (show _ + 1 = ((_ + 1 : Nat) : Int); omega)) | (rw [stP_n (st := (unN (spg 168 31 b 1680) s)) (x := cX (spg 168 31 b 1680) s) (by omega)]; done) | (intro j hj; rw [stP_n (st := (unN (spg 168 31 b 1680) s)) (x := cX (spg 168 31 b 1680) s) (by omega)]; done) | (intro j hj; with_reducible rfl))) (by first | rfl | ((try dsimp only); first | with_reducible rfl | (rw [stP_y (st := (unN (spg 168 31 b 1680) s)) (x := cX (spg 168 31 b 1680) s) (by omega) (by omega)]; first | done | with_reducible rfl | (show _ + 1 = ((_ + 1 : Nat) : Int); omega)) | (rw [stP_n (st := (unN (spg 168 31 b 1680) s)) (x := cX (spg 168 31 b 1680) s) (by omega)]; done) | (intro j hj; rw [stP_n (st := (unN (spg 168 31 b 1680) s)) (x := cX (spg 168 31 b 1680) s) (by omega)]; done) | (intro j hj; with_reducible rfl)))), trivial⟩, ⟨_, rfl, .inl rfl, trivial⟩, trivial⟩⟩⟩
    ·refine HT.seq ?_
     refine HT.region S_runiform_ok ?_
     have hul9 := un_le (spg 168 31 b 1680) s
     have hux := stP_le (x := cX (spg 168 31 b 1680) s) hul9
     refine So.q rfl rfl (V.mv (v := .p (.v (.int .i64 _))) rfl (So.q rfl rfl (V.bin (a := (.v (.int .i64 _))) (b := (.v (.int .i64 (3329)))) (r := .v (.bool _)) rfl rfl rfl trivial (So.q rfl rfl (V.mv (v := .p (.v (.bool _))) rfl ?_)))))
     refine So.gd rfl rfl (lk rfl) (lk rfl) (fun h6 => ?_) (fun h6 => ?_)
     ·have h6 := of_decide_eq_true h6
      refine A.v rfl (V.mv (v := .p (.v (.int .i64 _))) rfl (So.gy rfl rfl (lk rfl) (lk rfl) (A.v rfl (V.bin (a := (.v (.int .i64 _))) (b := (.v (.int .i64 (256)))) (r := .v (.bool _)) rfl rfl rfl trivial (So.q rfl rfl (V.pkTrue (u := .p (.v (.bool _))) rfl rfl (So.e ?_)))))))
      show HT _ _ _ _ _
      refine R.cond rfl rfl (fun h7 => ?_) (fun h7 => ?_)
      ·have h7 := of_decide_eq_true h7
       refine HT.seq (HT.region S_runiform_ok (So.q rfl rfl (V.mv (v := .p (.v (.int .i64 _))) rfl (So.q rfl rfl (V.mv (v := .p (.v (.int .i64 _))) rfl (So.q rfl rfl (V.ixArrP10 (mi := (stP (unN (spg 168 31 b 1680) s) (cX (spg 168 31 b 1680) s)).2) ty25 ty3 rfl rfl rfl (by first | rfl | omega | (simp; done) | (simp; omega)) rfl (by omega) (by omega) (So.s (A.sto ty3 rfl rfl rfl (v := .p (.v (.int .i64 _))) rfl rfl rfl (by first | rfl | omega | (simp; done) | (simp; omega)) (c' := .rows (fun j => .v (.int .i64 ((stP (stP (unN (spg 168 31 b 1680) s) (cX (spg 168 31 b 1680) s)) (cY (spg 168 31 b 1680) s)).1 j)))) (congrArg (fun g => some (OC.rows g)) (funext fun j => by rw [stP_y (st := (stP (unN (spg 168 31 b 1680) s) (cX (spg 168 31 b 1680) s))) (x := cY (spg 168 31 b 1680) s) (by omega) (by omega)]; by_cases h9 : j = (stP (unN (spg 168 31 b 1680) s) (cX (spg 168 31 b 1680) s)).2 <;> simp [h9])) rfl (So.e (HT.region S_runiform_ok (So.q rfl rfl (V.mv (v := .p (.v (.int .i64 _))) rfl (So.q rfl rfl (V.addI rfl rfl (by omega) ?_)))))))))))))))
       refine So.q rfl rfl (V.as (v := .p (.v (.int .i64 _))) rfl (So.e (HT.region S_runiform_ok (So.q rfl rfl (V.mv (v := .p (.v (.int .i64 _))) rfl (So.q rfl rfl (V.addI rfl rfl (by omega) (So.q rfl rfl (V.as (v := .p (.v (.int .i64 _))) rfl (So.e ?_))))))))))
       refine ⟨s + 1, by first | rfl | omega | (simp; done) | (simp; omega), by omega, ⟨⟨⟨le_int (by first | rfl | omega | (simp; done) | (simp; omega)), trivial⟩, ⟨le_int (by show _ = (((stP (stP (unN (spg 168 31 b 1680) s) (cX (spg 168 31 b 1680) s)) (cY (spg 168 31 b 1680) s)).2 : Nat) : Int); first | (rw [stP_y (st := (stP (unN (spg 168 31 b 1680) s) (cX (spg 168 31 b 1680) s))) (x := cY (spg 168 31 b 1680) s) (by omega) (by omega)]; first | done | with_reducible rfl | (show _ + 1 = ((_ + 1 : Nat) : Int); omega)) | (rw [stP_n (st := (stP (unN (spg 168 31 b 1680) s) (cX (spg 168 31 b 1680) s))) (x := cY (spg 168 31 b 1680) s) (by omega)]; done) | (rw [stP_full (st := (stP (unN (spg 168 31 b 1680) s) (cX (spg 168 31 b 1680) s))) (x := cY (spg 168 31 b 1680) s) (by omega)]; done)), trivial⟩, ⟨.refl _, rfl⟩, ⟨.refl _, trivial⟩, ⟨.refl _, rfl⟩, ⟨.refl _, trivial⟩, trivial⟩, ⟨⟨_, rfl, .inr (ob_rows (by first | rfl | ((try dsimp only); (intro j hj; show _ = PV.v (.int .i64 ((stP (stP (unN (spg 168 31 b 1680) s) (cX (spg 168 31 b 1680) s)) (cY (spg 168 31 b 1680) s)).1 j)); first | with_reducible rfl | (rw [stP_n (st := (stP (unN (spg 168 31 b 1680) s) (cX (spg 168 31 b 1680) s))) (x := cY (spg 168 31 b 1680) s) (by omega)]; done) | (rw [stP_full (st := (stP (unN (spg 168 31 b 1680) s) (cX (spg 168 31 b 1680) s))) (x := cY (spg 168 31 b 1680) s) (by omega)]; done)))) (by first | rfl | ((try dsimp only); (intro j hj; show _ = PV.v (.int .i64 ((stP (stP (unN (spg 168 31 b 1680) s) (cX (spg 168 31 b 1680) s)) (cY (spg 168 31 b 1680) s)).1 j)); first | with_reducible rfl | (rw [stP_n (st := (stP (unN (spg 168 31 b 1680) s) (cX (spg 168 31 b 1680) s))) (x := cY (spg 168 31 b 1680) s) (by omega)]; done) | (rw [stP_full (st := (stP (unN (spg 168 31 b 1680) s) (cX (spg 168 31 b 1680) s))) (x := cY (spg 168 31 b 1680) s) (by omega)]; done))))), trivial⟩, ⟨_, rfl, .inl rfl, trivial⟩, trivial⟩⟩⟩
      ·have h7 := of_decide_eq_false h7
       refine HT.skip (HT.region S_runiform_ok (So.q rfl rfl (V.mv (v := .p (.v (.int .i64 _))) rfl (So.q rfl rfl (V.addI rfl rfl (by omega) (So.q rfl rfl (V.as (v := .p (.v (.int .i64 _))) rfl (So.e ?_))))))))
       refine ⟨s + 1, by first | rfl | omega | (simp; done) | (simp; omega), by omega, ⟨⟨⟨le_int (by first | rfl | omega | (simp; done) | (simp; omega)), trivial⟩, ⟨le_int (by show _ = (((stP (stP (unN (spg 168 31 b 1680) s) (cX (spg 168 31 b 1680) s)) (cY (spg 168 31 b 1680) s)).2 : Nat) : Int); first | (rw [stP_y (st := (stP (unN (spg 168 31 b 1680) s) (cX (spg 168 31 b 1680) s))) (x := cY (spg 168 31 b 1680) s) (by omega) (by omega)]; first | done | with_reducible rfl | (show _ + 1 = ((_ + 1 : Nat) : Int); omega)) | (rw [stP_n (st := (stP (unN (spg 168 31 b 1680) s) (cX (spg 168 31 b 1680) s))) (x := cY (spg 168 31 b 1680) s) (by omega)]; done) | (rw [stP_full (st := (stP (unN (spg 168 31 b 1680) s) (cX (spg 168 31 b 1680) s))) (x := cY (spg 168 31 b 1680) s) (by omega)]; done)), trivial⟩, ⟨.refl _, rfl⟩, ⟨.refl _, trivial⟩, ⟨.refl _, rfl⟩, ⟨.refl _, trivial⟩, trivial⟩, ⟨⟨_, rfl, .inr (ob_rows (by first | rfl | ((try dsimp only); (intro j hj; show _ = PV.v (.int .i64 ((stP (stP (unN (spg 168 31 b 1680) s) (cX (spg 168 31 b 1680) s)) (cY (spg 168 31 b 1680) s)).1 j)); first | with_reducible rfl | (rw [stP_n (st := (stP (unN (spg 168 31 b 1680) s) (cX (spg 168 31 b 1680) s))) (x := cY (spg 168 31 b 1680) s) (by omega)]; done) | (rw [stP_full (st := (stP (unN (spg 168 31 b 1680) s) (cX (spg 168 31 b 1680) s))) (x := cY (spg 168 31 b 1680) s) (by omega)]; done)))) (by first | rfl | ((try dsimp only); (intro j hj; show _ = PV.v (.int .i64 ((stP (stP (unN (spg 168 31 b 1680) s) (cX (spg 168 31 b 1680) s)) (cY (spg 168 31 b 1680) s)).1 j)); first | with_reducible rfl | (rw [stP_n (st := (stP (unN (spg 168 31 b 1680) s) (cX (spg 168 31 b 1680) s))) (x := cY (spg 168 31 b 1680) s) (by omega)]; done) | (rw [stP_full (st := (stP (unN (spg 168 31 b 1680) s) (cX (spg 168 31 b 1680) s))) (x := cY (spg 168 31 b 1680) s) (by omega)]; done))))), trivial⟩, ⟨_, rfl, .inl rfl, trivial⟩, trivial⟩⟩⟩
     ·have h6 := of_decide_eq_false h6
      refine So.gn (b := false) rfl rfl rfl (lk rfl) (lk rfl) (So.q rfl rfl (V.pkFalse (u := .p (.v (.bool false))) rfl rfl (So.e ?_)))
      show HT _ _ _ _ _
      refine R.condF rfl ?_
      refine HT.skip (HT.region S_runiform_ok (So.q rfl rfl (V.mv (v := .p (.v (.int .i64 _))) rfl (So.q rfl rfl (V.addI rfl rfl (by omega) (So.q rfl rfl (V.as (v := .p (.v (.int .i64 _))) rfl (So.e ?_))))))))
      refine ⟨s + 1, by first | rfl | omega | (simp; done) | (simp; omega), by omega, ⟨⟨⟨le_int (by first | rfl | omega | (simp; done) | (simp; omega)), trivial⟩, ⟨le_int (by show _ = (((stP (stP (unN (spg 168 31 b 1680) s) (cX (spg 168 31 b 1680) s)) (cY (spg 168 31 b 1680) s)).2 : Nat) : Int); first | (rw [stP_y (st := (stP (unN (spg 168 31 b 1680) s) (cX (spg 168 31 b 1680) s))) (x := cY (spg 168 31 b 1680) s) (by omega) (by omega)]; first | done | with_reducible rfl | (show _ + 1 = ((_ + 1 : Nat) : Int); omega)) | (rw [stP_n (st := (stP (unN (spg 168 31 b 1680) s) (cX (spg 168 31 b 1680) s))) (x := cY (spg 168 31 b 1680) s) (by omega)]; done) | (rw [stP_full (st := (stP (unN (spg 168 31 b 1680) s) (cX (spg 168 31 b 1680) s))) (x := cY (spg 168 31 b 1680) s) (by omega)]; done)), trivial⟩, ⟨.refl _, rfl⟩, ⟨.refl _, trivial⟩, ⟨.refl _, rfl⟩, ⟨.refl _, trivial⟩, trivial⟩, ⟨⟨_, rfl, .inr (ob_rows (by first | rfl | ((try dsimp only); (intro j hj; show _ = PV.v (.int .i64 ((stP (stP (unN (spg 168 31 b 1680) s) (cX (spg 168 31 b 1680) s)) (cY (spg 168 31 b 1680) s)).1 j)); first | with_reducible rfl | (rw [stP_n (st := (stP (unN (spg 168 31 b 1680) s) (cX (spg 168 31 b 1680) s))) (x := cY (spg 168 31 b 1680) s) (by omega)]; done) | (rw [stP_full (st := (stP (unN (spg 168 31 b 1680) s) (cX (spg 168 31 b 1680) s))) (x := cY (spg 168 31 b 1680) s) (by omega)]; done)))) (by first | rfl | ((try dsimp only); (intro j hj; show _ = PV.v (.int .i64 ((stP (stP (unN (spg 168 31 b 1680) s) (cX (spg 168 31 b 1680) s)) (cY (spg 168 31 b 1680) s)).1 j)); first | with_reducible rfl | (rw [stP_n (st := (stP (unN (spg 168 31 b 1680) s) (cX (spg 168 31 b 1680) s))) (x := cY (spg 168 31 b 1680) s) (by omega)]; done) | (rw [stP_full (st := (stP (unN (spg 168 31 b 1680) s) (cX (spg 168 31 b 1680) s))) (x := cY (spg 168 31 b 1680) s) (by omega)]; done))))), trivial⟩, ⟨_, rfl, .inl rfl, trivial⟩, trivial⟩⟩⟩
   ·have h4 := of_decide_eq_false h4
    refine HT.exit ?_
    show HT _ _ _ _ _
    refine HT.seq (HT.seq (HT.region S_runiform_ok ?_))
    have hul9 := un_le (spg 168 31 b 1680) s
    have hsl9 := spg_len 168 31 b 1680
    refine So.q rfl rfl (V.mv (v := .p (.v (.int .i64 _))) rfl (So.q rfl rfl (V.bin (a := (.v (.int .i64 _))) (b := (.v (.int .i64 (256)))) (r := .v (.bool _)) rfl rfl rfl trivial (So.e ?_))))
    show HT _ _ _ _ _
    refine R.cond rfl rfl (fun h8 => ?_) (fun h8 => ?_)
    ·have h8 := of_decide_eq_true h8
     refine HT.seq (HT.region S_runiform_ok (So.n (lk rfl) (A.bld0 ty25 rfl rfl rfl (f := fun _ => .v (.int .i64 0)) (fun _ _ => rfl) (So.s (A.stoAg ty25 rfl (n := 256) rfl (by decide) (by intro j hj; first | rfl | trivial) rfl rfl rfl (So.q rfl rfl (V.as (v := .p (.v (.int .i64 (51)))) rfl (So.e ?_))))))))
     show HT _ _ _ _ _
     refine HT.ret ?_
     exact retC_ok (sg []) [(2, .ptr 1 0), (3, .p (.v (.int .i64 ((uniF b).2))))] [(1, ⟨25, 1, 256, true, .rows (fun j => .v (.int .i64 ((uniF b).1 j)))⟩)] h ⟨⟨⟨.refl _, rfl⟩, ⟨le_int (by first | rfl | (rw [un_r0 (by omega)]; done) | (rw [un_f0 (s := s) (by omega) (by omega) (by omega)]; done) | (have hs9 : s = 560 := (by omega); subst hs9; rw [un_r1 (by omega) (by omega)]; done)), trivial⟩, trivial⟩, ⟨⟨_, rfl, .inr (ob_rowsL (by intro j hj; (try simp only [Nat.zero_add]); first | (rw [un_r0 (by omega)]; exact .refl _) | (rw [un_f0 (s := s) (by omega) (by omega) (by omega)]; exact .refl _) | (have hs9 : s = 560 := (by omega); subst hs9; rw [un_r1 (by omega) (by omega)]; exact .refl _))), trivial⟩, trivial⟩⟩ ⟨rvA_cell ty25 rfl rfl rfl rfl (Nat.le_refl _) (le_agg (fun j _ => by first | rfl | (dsimp only; rw [Nat.zero_add]))), .refl _, trivial⟩ trivial rfl trivial ⟨trivial, trivial, trivial⟩ rfl
    ·have h8 := of_decide_eq_false h8
     refine HT.skip (HT.seq (HT.region S_runiform_ok (So.q rfl rfl (V.ldPtrA ty25 rfl rfl rfl rfl (lk rfl) (So.s (A.stoAg ty25 rfl (n := 256) rfl (by decide) (by intro j hj; first | rfl | trivial) rfl rfl rfl (So.q rfl rfl (V.as (v := .p (.v (.int .i64 (0)))) rfl (So.e ?_)))))))))
     show HT _ _ _ _ _
     refine HT.ret ?_
     exact retC_ok (sg []) [(2, .ptr 1 0), (3, .p (.v (.int .i64 ((uniF b).2))))] [(1, ⟨25, 1, 256, true, .rows (fun j => .v (.int .i64 ((uniF b).1 j)))⟩)] h ⟨⟨⟨.refl _, rfl⟩, ⟨le_int (by first | rfl | (rw [un_r0 (by omega)]; done) | (rw [un_f0 (s := s) (by omega) (by omega) (by omega)]; done) | (have hs9 : s = 560 := (by omega); subst hs9; rw [un_r1 (by omega) (by omega)]; done)), trivial⟩, trivial⟩, ⟨⟨_, rfl, .inr (ob_rowsL (by intro j hj; (try simp only [Nat.zero_add]); first | (rw [un_r0 (by omega)]; exact .refl _) | (rw [un_f0 (s := s) (by omega) (by omega) (by omega)]; exact .refl _) | (have hs9 : s = 560 := (by omega); subst hs9; rw [un_r1 (by omega) (by omega)]; exact .refl _))), trivial⟩, trivial⟩⟩ ⟨rvA_cell ty25 rfl rfl rfl rfl (Nat.le_refl _) (le_agg (fun j _ => by first | rfl | (dsimp only; rw [Nat.zero_add]))), .refl _, trivial⟩ trivial rfl trivial ⟨trivial, trivial, trivial⟩ rfl
  ·have h3 := of_decide_eq_false h3
   refine So.gn (b := false) rfl rfl rfl (lk rfl) (lk rfl) (So.q rfl rfl (V.pkFalse (u := .p (.v (.bool false))) rfl rfl (So.e ?_)))
   show HT _ _ _ _ _
   refine R.condF rfl ?_
   refine HT.exit ?_
   show HT _ _ _ _ _
   refine HT.seq (HT.seq (HT.region S_runiform_ok ?_))
   have hul9 := un_le (spg 168 31 b 1680) s
   have hsl9 := spg_len 168 31 b 1680
   refine So.q rfl rfl (V.mv (v := .p (.v (.int .i64 _))) rfl (So.q rfl rfl (V.bin (a := (.v (.int .i64 _))) (b := (.v (.int .i64 (256)))) (r := .v (.bool _)) rfl rfl rfl trivial (So.e ?_))))
   show HT _ _ _ _ _
   refine R.cond rfl rfl (fun h9 => ?_) (fun h9 => ?_)
   ·have h9 := of_decide_eq_true h9
    refine HT.seq (HT.region S_runiform_ok (So.n (lk rfl) (A.bld0 ty25 rfl rfl rfl (f := fun _ => .v (.int .i64 0)) (fun _ _ => rfl) (So.s (A.stoAg ty25 rfl (n := 256) rfl (by decide) (by intro j hj; first | rfl | trivial) rfl rfl rfl (So.q rfl rfl (V.as (v := .p (.v (.int .i64 (51)))) rfl (So.e ?_))))))))
    show HT _ _ _ _ _
    refine HT.ret ?_
    exact retC_ok (sg []) [(2, .ptr 1 0), (3, .p (.v (.int .i64 ((uniF b).2))))] [(1, ⟨25, 1, 256, true, .rows (fun j => .v (.int .i64 ((uniF b).1 j)))⟩)] h ⟨⟨⟨.refl _, rfl⟩, ⟨le_int (by first | rfl | (rw [un_r0 (by omega)]; done) | (rw [un_f0 (s := s) (by omega) (by omega) (by omega)]; done) | (have hs9 : s = 560 := (by omega); subst hs9; rw [un_r1 (by omega) (by omega)]; done)), trivial⟩, trivial⟩, ⟨⟨_, rfl, .inr (ob_rowsL (by intro j hj; (try simp only [Nat.zero_add]); first | (rw [un_r0 (by omega)]; exact .refl _) | (rw [un_f0 (s := s) (by omega) (by omega) (by omega)]; exact .refl _) | (have hs9 : s = 560 := (by omega); subst hs9; rw [un_r1 (by omega) (by omega)]; exact .refl _))), trivial⟩, trivial⟩⟩ ⟨rvA_cell ty25 rfl rfl rfl rfl (Nat.le_refl _) (le_agg (fun j _ => by first | rfl | (dsimp only; rw [Nat.zero_add]))), .refl _, trivial⟩ trivial rfl trivial ⟨trivial, trivial, trivial⟩ rfl
   ·have h9 := of_decide_eq_false h9
    refine HT.skip (HT.seq (HT.region S_runiform_ok (So.q rfl rfl (V.ldPtrA ty25 rfl rfl rfl rfl (lk rfl) (So.s (A.stoAg ty25 rfl (n := 256) rfl (by decide) (by intro j hj; first | rfl | trivial) rfl rfl rfl (So.q rfl rfl (V.as (v := .p (.v (.int .i64 (0)))) rfl (So.e ?_)))))))))
    show HT _ _ _ _ _
    refine HT.ret ?_
    exact retC_ok (sg []) [(2, .ptr 1 0), (3, .p (.v (.int .i64 ((uniF b).2))))] [(1, ⟨25, 1, 256, true, .rows (fun j => .v (.int .i64 ((uniF b).1 j)))⟩)] h ⟨⟨⟨.refl _, rfl⟩, ⟨le_int (by first | rfl | (rw [un_r0 (by omega)]; done) | (rw [un_f0 (s := s) (by omega) (by omega) (by omega)]; done) | (have hs9 : s = 560 := (by omega); subst hs9; rw [un_r1 (by omega) (by omega)]; done)), trivial⟩, trivial⟩, ⟨⟨_, rfl, .inr (ob_rowsL (by intro j hj; (try simp only [Nat.zero_add]); first | (rw [un_r0 (by omega)]; exact .refl _) | (rw [un_f0 (s := s) (by omega) (by omega) (by omega)]; exact .refl _) | (have hs9 : s = 560 := (by omega); subst hs9; rw [un_r1 (by omega) (by omega)]; exact .refl _))), trivial⟩, trivial⟩⟩ ⟨rvA_cell ty25 rfl rfl rfl rfl (Nat.le_refl _) (le_agg (fun j _ => by first | rfl | (dsimp only; rw [Nat.zero_add]))), .refl _, trivial⟩ trivial rfl trivial ⟨trivial, trivial, trivial⟩ rfl
end Go.Vh

set_option linter.unusedVariables false
set_option linter.unusedSimpArgs false
namespace Go.Vh
open Go Go.Vc Go.Proofs Go.Vw Go.Vk
def lawDrawsSp : Sp := ⟨[], mkE (α := (List UInt8) × (List UInt8)) (fun (b, c) => [.p (.bs (b)), .p (.bs (c))]) (fun (b, c) => []) (fun (b, c) => True) (fun (b, c) => [.p (.v (.bool true))]) (fun (b, c) => [])⟩
def S_lawDraws : FuncId → Option Sp := fun f => if f = 5 then some headSp else if f = 7 then some greatSp else if f = 8 then some uniformSp else if f = 6 then some centredSp else if f = 9 then some runiformSp else if f = 10 then some rcentredSp else none
theorem S_lawDraws_ok : ∀ f s, S_lawDraws f = some s → FOK Tryd.prog gl f s := fun f s h => by
 unfold S_lawDraws at h
 split at h
 ·rename_i e; cases h; subst e; exact head_ok
 split at h
 ·rename_i e; cases h; subst e; exact great_ok
 split at h
 ·rename_i e; cases h; subst e; exact uniform_ok
 split at h
 ·rename_i e; cases h; subst e; exact centred_ok
 split at h
 ·rename_i e; cases h; subst e; exact runiform_ok
 split at h
 ·rename_i e; cases h; subst e; exact rcentred_ok
 cases h
set_option maxHeartbeats 1000000 in
set_option maxRecDepth 20000 in
theorem lawDraws_ok : FOK Tryd.prog gl 4 lawDrawsSp := by
 refine FOK.ofE (tyOf_ok Tryd.prog) (slots := [4]) (nt := 97) Tryd.func4 rfl rfl rfl rfl (by decide) 2 (fun ⟨_, _⟩ => rfl) (by decide) (fun ⟨_, _⟩ => ⟨trivial, trivial, trivial⟩) ?_
 rintro ⟨b, c⟩ kk hlen hpre h
 have hl0 : (b).length ≤ 9223372036854775807 := hlen.1
 have hl1 : (c).length ≤ 9223372036854775807 := hlen.2.1
 replace hpre : True := hpre
 show HT (cx Tryd.prog 97 (tyOf Tryd.prog) gl []) _ [(0, .p (.bs (b))), (1, .p (.bs (c)))] [] _
 refine HT.seq (HT.region S_lawDraws_ok (So.q rfl rfl (V.as (v := .p (.v (.bool false))) rfl (So.e (HT.seq (HT.region S_lawDraws_ok ?_))))))
 refine So.n (lk rfl) (A.call0 [] 1 rfl rfl rfl rfl trivial trivial () trivial trivial (by trivial) (Φ := fun _ => True) (fun _ _ => trivial) (.inl rfl) (v := .p (.v (.bool true))) rfl (O' := _) rfl (fun h1 => ?_))
 refine So.q rfl rfl (V.as (v := .p (.v (.bool true))) rfl (So.e (HT.seq (HT.seq (HT.region S_lawDraws_ok (So.q rfl rfl (V.mv (v := .p (.bs _)) rfl ?_)))))))
 refine So.n (lk rfl) (A.call0 [.p (.bs _)] 1 rfl rfl rfl rfl ⟨trivial, trivial⟩ trivial _ ⟨.refl _, trivial⟩ trivial (by trivial) (Φ := fun _ => True) (fun _ _ => trivial) (.inl rfl) (v := .p (.v (.bool _))) rfl (O' := _) rfl (fun h2 => ?_))
 refine So.q rfl rfl (V.mv (v := .p (.v (.bool _))) rfl ?_)
 refine So.gd rfl rfl (lk rfl) (lk rfl) (fun h3 => ?_) (fun h3 => ?_)
 ·have h3 := of_decide_eq_false h3
  refine A.v rfl (V.mv (v := .p (.bs _)) rfl (So.gy rfl rfl (lk rfl) (lk rfl) ?_))
  refine A.call0 [.p (.bs _)] 1 rfl rfl rfl rfl ⟨trivial, trivial⟩ trivial _ ⟨.refl _, trivial⟩ trivial (by trivial) (Φ := fun _ => True) (fun _ _ => trivial) (.inl rfl) (v := .p (.v (.bool _))) rfl (O' := _) rfl (fun h4 => ?_)
  refine So.q rfl rfl (V.pkFalse (u := .p (.v (.bool _))) rfl rfl (So.e ?_))
  show HT _ _ _ _ _
  refine R.cond rfl rfl (fun h5 => ?_) (fun h5 => ?_)
  ·have h5 := of_decide_eq_true h5
   refine HT.seq (HT.region S_lawDraws_ok (So.q rfl rfl (V.mv (v := .p (.v (.bool true))) rfl (So.q rfl rfl (V.as (v := .p (.v (.bool true))) rfl (So.e ?_))))))
   show HT _ _ _ _ _
   refine HT.ret ?_
   exact ret_ok (sg []) h rfl rfl rfl trivial ⟨trivial, trivial⟩ rfl ⟨⟨⟨le_bool (by first | with_reducible rfl | exact decide_eq_true rfl), trivial⟩, trivial⟩, trivial⟩
  ·have h5 := of_decide_eq_false h5
   refine HT.skip (HT.seq (HT.region S_lawDraws_ok (So.n (lk rfl) (A.bsl 1 ty22 ty5 rfl (lk rfl) (lk rfl) (fun _ => rfl) rfl rfl trivial trivial rfl (N := 0) rfl (c := .bs []) rfl (So.q rfl rfl (V.mv (v := .p (.bs _)) rfl (So.n (lk rfl) (A.apOwn ty22 ty5 rfl rfl rfl rfl (u := .p (.bs _)) rfl rfl (l' := b) (by simp) (mn := b.length) (by simp) (by first | rfl | omega | (simp; done) | (simp; omega)) rfl rfl rfl (So.q rfl rfl (V.as (v := .own 1 0 _) rfl (So.e (HT.seq (HT.region S_lawDraws_ok ?_)))))))))))))
   refine So.n (lk rfl) (A.bsl 2 ty22 ty5 rfl (lk rfl) (lk rfl) (fun _ => rfl) rfl rfl trivial trivial rfl (N := 0) rfl (c := .bs []) rfl (So.q rfl rfl (V.mv (v := .p (.bs _)) rfl (So.n (lk rfl) (A.apOwn ty22 ty5 rfl rfl rfl rfl (u := .p (.bs _)) rfl rfl (l' := c) (by simp) (mn := c.length) (by simp) (by first | rfl | omega | (simp; done) | (simp; omega)) rfl rfl rfl (So.q rfl rfl (V.as (v := .own 2 0 _) rfl (So.e (HT.seq (HT.region S_lawDraws_ok (So.q rfl rfl (V.mv (v := .own 1 0 _) rfl ?_))))))))))))
   refine So.n (lk rfl) (A.call0 [.p (.bs _)] 3 rfl rfl rfl rfl ⟨trivial, trivial⟩ trivial _ ⟨le_full, trivial⟩ trivial (by trivial) (Φ := fun _ => True) (fun _ _ => trivial) (.inr ⟨fun j hj => by match j, hj with | 0, _ => exact (fun _ _ => trivial) | 1, _ => exact trivial, by simp [Hp.scal, OC.scal, PV.scal, BV.scal]⟩) (v := .tup 2 _) rfl (O' := _) rfl (fun h6 => ?_))
   refine So.q rfl rfl (V.mv (v := .tup 2 _) rfl (So.q rfl rfl (V.ext rfl (lk rfl) (v := .agg 256 _) rfl (So.q rfl rfl (V.ext rfl (lk rfl) (v := .p (.v (.int .i64 _))) rfl (So.n (lk rfl) (A.alloc 3 1 ty25 rfl trivial (f := fun _ => .v (.int .i64 0)) (fun _ _ => rfl) (So.s (A.stoAg ty25 rfl (n := 256) rfl (by decide) (by intro j hj; first | rfl | trivial) rfl rfl rfl (So.q rfl rfl (V.as (v := .p (.v (.int .i64 _))) rfl (So.e (HT.seq (HT.region S_lawDraws_ok (So.q rfl rfl (V.mv (v := .own 2 0 _) rfl ?_))))))))))))))))
   refine So.n (lk rfl) (A.call0 [.p (.bs _)] 4 rfl rfl rfl rfl ⟨trivial, trivial⟩ trivial _ ⟨le_full, trivial⟩ trivial (by trivial) (Φ := fun _ => True) (fun _ _ => trivial) (.inr ⟨fun j hj => by match j, hj with | 0, _ => exact (fun _ _ => trivial) | 1, _ => exact trivial, by simp [Hp.scal, OC.scal, PV.scal, BV.scal]⟩) (v := .tup 2 _) rfl (O' := _) rfl (fun h7 => ?_))
   refine So.q rfl rfl (V.mv (v := .tup 2 _) rfl (So.q rfl rfl (V.ext rfl (lk rfl) (v := .agg 256 _) rfl (So.q rfl rfl (V.ext rfl (lk rfl) (v := .p (.v (.int .i64 _))) rfl (So.n (lk rfl) (A.alloc 4 1 ty25 rfl trivial (f := fun _ => .v (.int .i64 0)) (fun _ _ => rfl) (So.s (A.stoAg ty25 rfl (n := 256) rfl (by decide) (by intro j hj; first | rfl | trivial) rfl rfl rfl (So.q rfl rfl (V.as (v := .p (.v (.int .i64 _))) rfl (So.e (HT.seq (HT.seq (HT.region S_lawDraws_ok ?_)))))))))))))))
   refine So.q rfl rfl (V.as (v := .p (.v (.int .i64 (0)))) rfl (So.e (HT.block ?_)))
   refine R.loop (σ := Nat) (fun s => [(12, .p (.v (.int .i64 ((s : Int)))))]) (fun s => [(1, ⟨5, 1, b.length, true, .bs (incW s b)⟩)]) [0, 1, 4, 5, 6, 7, 8, 9, 10, 11] [2, 3, 4] (fun s => s ≤ b.length) (fun s => b.length - s) (0) (fr0 := [(0, .p (.bs _)), (1, .p (.bs _)), (4, .p (.v (.bool false))), (5, .p (.v (.bool true))), (6, .own 1 0 _), (7, .own 2 0 _), (8, .ptr 3 0), (9, .p (.v (.int .i64 _))), (10, .ptr 4 0), (11, .p (.v (.int .i64 _)))]) (O0 := [(2, ⟨_, _, _, _, .bs _⟩), (3, ⟨_, _, _, _, .rows _⟩), (4, ⟨_, _, _, _, .rows _⟩)]) rfl rfl (by first | rfl | omega | (simp; done) | (simp; omega)) ⟨⟨⟨le_int (by first | rfl | omega | (simp; done) | (simp; omega)), trivial⟩, ⟨.refl _, trivial⟩, ⟨.refl _, trivial⟩, ⟨.refl _, trivial⟩, ⟨.refl _, trivial⟩, ⟨.refl _, rfl⟩, ⟨.refl _, rfl⟩, ⟨.refl _, rfl⟩, ⟨.refl _, trivial⟩, ⟨.refl _, rfl⟩, ⟨.refl _, trivial⟩, trivial⟩, ⟨⟨_, rfl, .inl (ob_bs (by first | rfl | ((try dsimp only); first | rfl | omega | (simp; done) | (simp; omega))) (by first | rfl | ((try dsimp only); first | rfl | omega | (simp; done) | (simp; omega)))), trivial⟩, ⟨_, rfl, .inl rfl, trivial⟩, ⟨_, rfl, .inl rfl, trivial⟩, ⟨_, rfl, .inl rfl, trivial⟩, trivial⟩⟩ (fun s hP0 => ?_)
   refine HT.seq (HT.seq (HT.region S_lawDraws_ok (So.q rfl rfl (V.mv (v := .p (.v (.int .i64 ((_ : Nat) : Int)))) rfl (So.q rfl rfl (V.mv (v := .own 1 0 _) rfl (So.q rfl rfl (V.len ty22 (v := .own 1 0 _) rfl rfl (So.q rfl rfl (V.bin (a := (.v (.int .i64 ((_ : Nat) : Int)))) (b := (.v (.int .i64 _))) (r := .v (.bool _)) rfl rfl rfl trivial (So.e ?_)))))))))))
   show HT _ _ _ _ _
   refine R.cond rfl rfl (fun h8 => ?_) (fun h8 => ?_)
   ·have h8 := of_decide_eq_true h8
    refine HT.skip (HT.seq (HT.block (HT.region S_lawDraws_ok (So.q rfl rfl (V.mv (v := .own 1 0 _) rfl (So.q rfl rfl (V.mv (v := .p (.v (.int .i64 ((_ : Nat) : Int)))) rfl (So.q rfl rfl (V.ixOwn10 ty22 ty5 rfl rfl rfl rfl rfl (by omega) (Int.toNat_natCast _) (So.q rfl rfl (V.ldPtr ty5 rfl rfl rfl (by first | rfl | omega | (simp; done) | (simp; omega)) (v := .p (.u8 _)) rfl (So.q rfl rfl (V.bin (a := (.u8 _)) (b := (.u8 1)) (r := .u8 _) rfl rfl rfl trivial (So.q rfl rfl (V.ixOwn10 ty22 ty5 rfl rfl rfl rfl rfl (by omega) (Int.toNat_natCast _) ?_)))))))))))))))
    refine So.s (A.sto ty5 rfl rfl rfl (v := .p (.u8 _)) rfl trivial rfl (by first | rfl | omega | (simp; done) | (simp; omega)) rfl rfl (So.e (HT.region S_lawDraws_ok (So.q rfl rfl (V.mv (v := .p (.v (.int .i64 ((_ : Nat) : Int)))) rfl (So.q rfl rfl (V.addI rfl rfl (by omega) (So.q rfl rfl (V.as (v := .p (.v (.int .i64 _))) rfl (So.e ?_))))))))))
    refine ⟨s + 1, by first | rfl | omega | (simp; done) | (simp; omega), by omega, ⟨⟨⟨le_int (by first | rfl | omega | (simp; done) | (simp; omega)), trivial⟩, ⟨.refl _, trivial⟩, ⟨.refl _, trivial⟩, ⟨.refl _, trivial⟩, ⟨.refl _, trivial⟩, ⟨.refl _, rfl⟩, ⟨.refl _, rfl⟩, ⟨.refl _, rfl⟩, ⟨.refl _, trivial⟩, ⟨.refl _, rfl⟩, ⟨.refl _, trivial⟩, trivial⟩, ⟨⟨_, rfl, .inl (ob_bs (by first | rfl | ((try dsimp only); first | exact incW_0 _ | (exact incW_step (by omega)) | rfl)) (by first | rfl | ((try dsimp only); first | exact incW_0 _ | (exact incW_step (by omega)) | rfl))), trivial⟩, ⟨_, rfl, .inl rfl, trivial⟩, ⟨_, rfl, .inl rfl, trivial⟩, ⟨_, rfl, .inl rfl, trivial⟩, trivial⟩⟩⟩
   ·have h8 := of_decide_eq_false h8
    refine HT.exit ?_
    show HT _ _ _ _ _
    refine HT.seq (HT.seq (HT.region S_lawDraws_ok (So.q rfl rfl (V.as (v := .p (.v (.int .i64 (0)))) rfl (So.e (HT.block ?_))))))
    refine R.loop (σ := Nat) (fun r => [(13, .p (.v (.int .i64 ((r : Int)))))]) (fun r => [(2, ⟨5, 1, c.length, true, .bs (incW r c)⟩)]) [0, 1, 4, 5, 7, 8, 9, 10, 11] [1, 3, 4] (fun r => r ≤ c.length) (fun r => c.length - r) (0) (fr0 := [(0, .p (.bs _)), (1, .p (.bs _)), (4, .p (.v (.bool false))), (5, .p (.v (.bool true))), (7, .own 2 0 _), (8, .ptr 3 0), (9, .p (.v (.int .i64 _))), (10, .ptr 4 0), (11, .p (.v (.int .i64 _)))]) (O0 := [(1, ⟨_, _, _, _, .bs _⟩), (3, ⟨_, _, _, _, .rows _⟩), (4, ⟨_, _, _, _, .rows _⟩)]) rfl rfl (by first | rfl | omega | (simp; done) | (simp; omega)) ⟨⟨⟨le_int (by first | rfl | omega | (simp; done) | (simp; omega)), trivial⟩, ⟨.refl _, trivial⟩, ⟨.refl _, trivial⟩, ⟨.refl _, trivial⟩, ⟨.refl _, trivial⟩, ⟨.refl _, rfl⟩, ⟨.refl _, rfl⟩, ⟨.refl _, trivial⟩, ⟨.refl _, rfl⟩, ⟨.refl _, trivial⟩, trivial⟩, ⟨⟨_, rfl, .inl (ob_bs (by first | rfl | ((try dsimp only); first | rfl | omega | (simp; done) | (simp; omega))) (by first | rfl | ((try dsimp only); first | rfl | omega | (simp; done) | (simp; omega)))), trivial⟩, ⟨_, rfl, .inl rfl, trivial⟩, ⟨_, rfl, .inl rfl, trivial⟩, ⟨_, rfl, .inl rfl, trivial⟩, trivial⟩⟩ (fun r hP1 => ?_)
    refine HT.seq (HT.seq (HT.region S_lawDraws_ok (So.q rfl rfl (V.mv (v := .p (.v (.int .i64 ((_ : Nat) : Int)))) rfl (So.q rfl rfl (V.mv (v := .own 2 0 _) rfl (So.q rfl rfl (V.len ty22 (v := .own 2 0 _) rfl rfl (So.q rfl rfl (V.bin (a := (.v (.int .i64 ((_ : Nat) : Int)))) (b := (.v (.int .i64 _))) (r := .v (.bool _)) rfl rfl rfl trivial (So.e ?_)))))))))))
    show HT _ _ _ _ _
    refine R.cond rfl rfl (fun h9 => ?_) (fun h9 => ?_)
    ·have h9 := of_decide_eq_true h9
     refine HT.skip (HT.seq (HT.block (HT.region S_lawDraws_ok (So.q rfl rfl (V.mv (v := .own 2 0 _) rfl (So.q rfl rfl (V.mv (v := .p (.v (.int .i64 ((_ : Nat) : Int)))) rfl (So.q rfl rfl (V.ixOwn10 ty22 ty5 rfl rfl rfl rfl rfl (by omega) (Int.toNat_natCast _) (So.q rfl rfl (V.ldPtr ty5 rfl rfl rfl (by first | rfl | omega | (simp; done) | (simp; omega)) (v := .p (.u8 _)) rfl (So.q rfl rfl (V.bin (a := (.u8 _)) (b := (.u8 1)) (r := .u8 _) rfl rfl rfl trivial (So.q rfl rfl (V.ixOwn10 ty22 ty5 rfl rfl rfl rfl rfl (by omega) (Int.toNat_natCast _) ?_)))))))))))))))
     refine So.s (A.sto ty5 rfl rfl rfl (v := .p (.u8 _)) rfl trivial rfl (by first | rfl | omega | (simp; done) | (simp; omega)) rfl rfl (So.e (HT.region S_lawDraws_ok (So.q rfl rfl (V.mv (v := .p (.v (.int .i64 ((_ : Nat) : Int)))) rfl (So.q rfl rfl (V.addI rfl rfl (by omega) (So.q rfl rfl (V.as (v := .p (.v (.int .i64 _))) rfl (So.e ?_))))))))))
     refine ⟨r + 1, by first | rfl | omega | (simp; done) | (simp; omega), by omega, ⟨⟨⟨le_int (by first | rfl | omega | (simp; done) | (simp; omega)), trivial⟩, ⟨.refl _, trivial⟩, ⟨.refl _, trivial⟩, ⟨.refl _, trivial⟩, ⟨.refl _, trivial⟩, ⟨.refl _, rfl⟩, ⟨.refl _, rfl⟩, ⟨.refl _, trivial⟩, ⟨.refl _, rfl⟩, ⟨.refl _, trivial⟩, trivial⟩, ⟨⟨_, rfl, .inl (ob_bs (by first | rfl | ((try dsimp only); first | exact incW_0 _ | (exact incW_step (by omega)) | rfl)) (by first | rfl | ((try dsimp only); first | exact incW_0 _ | (exact incW_step (by omega)) | rfl))), trivial⟩, ⟨_, rfl, .inl rfl, trivial⟩, ⟨_, rfl, .inl rfl, trivial⟩, ⟨_, rfl, .inl rfl, trivial⟩, trivial⟩⟩⟩
    ·have h9 := of_decide_eq_false h9
     refine HT.exit ?_
     show HT _ _ _ _ _
     refine HT.seq (HT.region S_lawDraws_ok (So.q rfl rfl (V.mv (v := .p (.bs _)) rfl ?_)))
     refine So.n (lk rfl) (A.call0 [.p (.bs _)] 5 rfl rfl rfl rfl ⟨trivial, trivial⟩ trivial _ ⟨.refl _, trivial⟩ trivial (by trivial) (Φ := fun _ => True) (fun _ _ => trivial) (.inl rfl) (v := .tup 2 _) rfl (O' := _) rfl (fun h10 => ?_))
     refine So.q rfl rfl (V.mv (v := .tup 2 _) rfl (So.q rfl rfl (V.ext rfl (lk rfl) (v := .agg 256 _) rfl (So.q rfl rfl (V.ext rfl (lk rfl) (v := .p (.v (.int .i64 _))) rfl (So.n (lk rfl) (A.alloc 5 1 ty25 rfl trivial (f := fun _ => .v (.int .i64 0)) (fun _ _ => rfl) (So.s (A.stoAg ty25 rfl (n := 256) rfl (by decide) (by intro j hj; first | rfl | trivial) rfl rfl rfl (So.q rfl rfl (V.as (v := .p (.v (.int .i64 _))) rfl (So.e (HT.seq (HT.region S_lawDraws_ok (So.q rfl rfl (V.mv (v := .p (.bs _)) rfl ?_))))))))))))))))
     refine So.n (lk rfl) (A.call0 [.p (.bs _)] 6 rfl rfl rfl rfl ⟨trivial, trivial⟩ trivial _ ⟨.refl _, trivial⟩ trivial (by trivial) (Φ := fun _ => True) (fun _ _ => trivial) (.inl rfl) (v := .tup 2 _) rfl (O' := _) rfl (fun h11 => ?_))
     refine So.q rfl rfl (V.mv (v := .tup 2 _) rfl (So.q rfl rfl (V.ext rfl (lk rfl) (v := .agg 256 _) rfl (So.q rfl rfl (V.ext rfl (lk rfl) (v := .p (.v (.int .i64 _))) rfl (So.n (lk rfl) (A.alloc 6 1 ty25 rfl trivial (f := fun _ => .v (.int .i64 0)) (fun _ _ => rfl) (So.s (A.stoAg ty25 rfl (n := 256) rfl (by decide) (by intro j hj; first | rfl | trivial) rfl rfl rfl (So.q rfl rfl (V.as (v := .p (.v (.int .i64 _))) rfl (So.e (HT.seq (HT.region S_lawDraws_ok (So.q rfl rfl (V.mv (v := .p (.v (.bool true))) rfl ?_))))))))))))))))
     refine So.q rfl rfl (V.mv (v := .p (.v (.bool true))) rfl (So.gy rfl rfl (lk rfl) (lk rfl) (A.v rfl (V.ldPtrA ty25 rfl rfl rfl rfl (lk rfl) (So.gy rfl rfl (lk rfl) (lk rfl) (A.v rfl (V.ldPtrA ty25 rfl rfl rfl rfl (lk rfl) (So.gy rfl rfl (lk rfl) (lk rfl) (A.v rfl (V.eqArr ty25 ty3 rfl rfl rfl rfl (by first | exact Tryd.eqGuardType25 | kernel_rfl) (fun _ _ => ⟨rfl, rfl⟩) rfl (So.q rfl rfl (V.pkTrue (u := .p (.v (.bool _))) rfl rfl (So.q rfl rfl (V.mv (v := .p (.v (.bool _))) rfl ?_))))))))))))))
     refine So.gd rfl rfl (lk rfl) (lk rfl) (fun h12 => ?_) (fun h12 => ?_)
     ·have h12 := of_decide_eq_true h12
      refine A.v rfl (V.mv (v := .p (.v (.int .i64 _))) rfl (So.gy rfl rfl (lk rfl) (lk rfl) (A.v rfl (V.mv (v := .p (.v (.int .i64 _))) rfl (So.gy rfl rfl (lk rfl) (lk rfl) (A.v rfl (V.bin (a := (.v (.int .i64 _))) (b := (.v (.int .i64 _))) (r := .v (.bool _)) rfl rfl rfl trivial (So.q rfl rfl (V.pkTrue (u := .p (.v (.bool _))) rfl rfl (So.q rfl rfl (V.mv (v := .p (.v (.bool _))) rfl ?_)))))))))))
      refine So.gd rfl rfl (lk rfl) (lk rfl) (fun h13 => ?_) (fun h13 => ?_)
      ·have h13 := of_decide_eq_true h13
       refine A.v rfl (V.ldPtrA ty25 rfl rfl rfl rfl (lk rfl) (So.gy rfl rfl (lk rfl) (lk rfl) (A.v rfl (V.ldPtrA ty25 rfl rfl rfl rfl (lk rfl) (So.gy rfl rfl (lk rfl) (lk rfl) (A.v rfl (V.eqArr ty25 ty3 rfl rfl rfl rfl (by first | exact Tryd.eqGuardType25 | kernel_rfl) (fun _ _ => ⟨rfl, rfl⟩) rfl (So.q rfl rfl (V.pkTrue (u := .p (.v (.bool _))) rfl rfl (So.q rfl rfl (V.mv (v := .p (.v (.bool _))) rfl ?_)))))))))))
       refine So.gd rfl rfl (lk rfl) (lk rfl) (fun h14 => ?_) (fun h14 => ?_)
       ·have h14 := of_decide_eq_true h14
        refine A.v rfl (V.mv (v := .p (.v (.int .i64 _))) rfl (So.gy rfl rfl (lk rfl) (lk rfl) (A.v rfl (V.mv (v := .p (.v (.int .i64 _))) rfl (So.gy rfl rfl (lk rfl) (lk rfl) (A.v rfl (V.bin (a := (.v (.int .i64 _))) (b := (.v (.int .i64 _))) (r := .v (.bool _)) rfl rfl rfl trivial (So.q rfl rfl (V.pkTrue (u := .p (.v (.bool _))) rfl rfl (So.q rfl rfl (V.as (v := .p (.v (.bool _))) rfl (So.e ?_))))))))))))
        show HT _ _ _ _ _
        refine HT.ret ?_
        exact ret_ok (sg []) h rfl rfl rfl trivial ⟨trivial, trivial⟩ rfl ⟨⟨⟨le_bool (by first | with_reducible rfl | exact decide_eq_true rfl), trivial⟩, trivial⟩, trivial⟩
       ·have h14 := of_decide_eq_false h14
        first | exact absurd (by first | with_reducible rfl | exact fun _ _ => rfl | (intro j hj; rfl)) h14 | exact absurd h14 (by first | with_reducible rfl | exact fun _ _ => rfl | (intro j hj; rfl))
      ·have h13 := of_decide_eq_false h13
       first | exact absurd (by first | with_reducible rfl | exact fun _ _ => rfl | (intro j hj; rfl)) h13 | exact absurd h13 (by first | with_reducible rfl | exact fun _ _ => rfl | (intro j hj; rfl))
     ·have h12 := of_decide_eq_false h12
      first | exact absurd (by first | with_reducible rfl | exact fun _ _ => rfl | (intro j hj; rfl)) h12 | exact absurd h12 (by first | with_reducible rfl | exact fun _ _ => rfl | (intro j hj; rfl))
 ·have h3 := of_decide_eq_true h3
  refine So.gn (b := true) rfl rfl rfl (lk rfl) (lk rfl) (So.q rfl rfl (V.pkTrue (u := .p (.v (.bool true))) rfl rfl (So.e ?_)))
  show HT _ _ _ _ _
  refine R.condT rfl ?_
  refine HT.seq (HT.region S_lawDraws_ok (So.q rfl rfl (V.mv (v := .p (.v (.bool true))) rfl (So.q rfl rfl (V.as (v := .p (.v (.bool true))) rfl (So.e ?_))))))
  show HT _ _ _ _ _
  refine HT.ret ?_
  exact ret_ok (sg []) h rfl rfl rfl trivial ⟨trivial, trivial⟩ rfl ⟨⟨⟨le_bool (by first | with_reducible rfl | exact decide_eq_true rfl), trivial⟩, trivial⟩, trivial⟩
end Go.Vh
