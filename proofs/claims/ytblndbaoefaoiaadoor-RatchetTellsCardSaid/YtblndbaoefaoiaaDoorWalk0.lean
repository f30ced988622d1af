/- What is proved: each function of the seat's program does what its contract says, wherever it is called; no condition. -/
import Derived.Test.YtblndbaoefaoiaaDoorPure0
import Derived.Test.YtblndbaoefaoiaaDoorFrame2
import Derived.Test.YtblndbaoefaoiaaDoorProg
set_option linter.unusedVariables false
set_option linter.unusedSimpArgs false
namespace Go.Vh
open Go Go.Vc Go.Proofs Go.Vw
def gl : Nat → Option (Nat × (Nat → GV)) := fun g => if g = 0 then some (64, fun j => .u32 (K256.getD j 0)) else none
theorem mixed : Tryd.prog.follows .mixedOrders = true := by kernel_rfl
theorem ty2 : tyOf Tryd.prog 2 = some ⟨.int .i64, 1, 8, some (fun _ => .int .i64 0)⟩ := by kernel_rfl
theorem ty3 : tyOf Tryd.prog 3 = some ⟨.int .i64, 1, 8, some (fun _ => .int .i64 0)⟩ := by kernel_rfl
theorem ty4 : tyOf Tryd.prog 4 = some ⟨.bool, 1, 1, some (fun _ => .bool false)⟩ := by kernel_rfl
theorem ty5 : tyOf Tryd.prog 5 = some ⟨.int .u8, 1, 1, some (fun _ => .int .u8 0)⟩ := by kernel_rfl
theorem ty9 : tyOf Tryd.prog 9 = some ⟨.string, 1, 16, some (fun _ => .string ⟨#[]⟩)⟩ := by kernel_rfl
theorem ty22 : tyOf Tryd.prog 22 = some ⟨.slice 5, 1, 24, some (fun _ => .slice none 0 0)⟩ := by kernel_rfl
theorem ty24 : tyOf Tryd.prog 24 = some ⟨.slice 35, 1, 24, some (fun _ => .slice none 0 0)⟩ := by kernel_rfl
theorem ty26 : tyOf Tryd.prog 26 = some ⟨.struct [(0, 2), (1, 22), (2, 24)], 3, 56, some (fun j => ([.int .i64 0, .slice none 0 0, .slice none 0 0] : List Value).getD j undef)⟩ := by kernel_rfl
theorem ty35 : tyOf Tryd.prog 35 = some ⟨.struct [(0, 2), (1, 22)], 2, 32, some (fun j => ([.int .i64 0, .slice none 0 0] : List Value).getD j undef)⟩ := by kernel_rfl
theorem ty57 : tyOf Tryd.prog 57 = some ⟨.float .f64, 1, 8, some (fun _ => .float .f64 0)⟩ := by kernel_rfl
theorem ty61 : tyOf Tryd.prog 61 = some ⟨.slice 24, 1, 24, some (fun _ => .slice none 0 0)⟩ := by kernel_rfl
theorem ty68 : tyOf Tryd.prog 68 = some ⟨.int .u64, 1, 8, some (fun _ => .int .u64 0)⟩ := by kernel_rfl
theorem ty73 : tyOf Tryd.prog 73 = some ⟨.slice 22, 1, 24, some (fun _ => .slice none 0 0)⟩ := by kernel_rfl
theorem ty82 : tyOf Tryd.prog 82 = some ⟨.int .u64, 1, 8, some (fun _ => .int .u64 0)⟩ := by kernel_rfl
theorem ty83 : tyOf Tryd.prog 83 = some ⟨.int .u32, 1, 4, some (fun _ => .int .u32 0)⟩ := by kernel_rfl
theorem ty84 : tyOf Tryd.prog 84 = some ⟨.array 8 83, 8, 32, some (fun _ => .int .u32 0)⟩ := by kernel_rfl
theorem ty86 : tyOf Tryd.prog 86 = some ⟨.array 8 83, 8, 32, some (fun _ => .int .u32 0)⟩ := by kernel_rfl
theorem ty89 : tyOf Tryd.prog 89 = some ⟨.struct [(0, 86), (8, 22), (9, 82)], 10, 64, some (fun j => ([.int .u32 0, .int .u32 0, .int .u32 0, .int .u32 0, .int .u32 0, .int .u32 0, .int .u32 0, .int .u32 0, .slice none 0 0, .int .u64 0] : List Value).getD j undef)⟩ := by kernel_rfl
theorem ty90 : tyOf Tryd.prog 90 = some ⟨.array 64 83, 64, 256, some (fun _ => .int .u32 0)⟩ := by kernel_rfl
def rotlSp : Sp := ⟨[], mkE (α := UInt32 × Int) (fun (x, n) => [.p (.u32 x), .p (.v (.int .i64 (-n)))]) (fun (x, n) => []) (fun (x, n) => 1 ≤ n ∧ n ≤ 31) (fun (x, n) => [.p (.u32 (rotr x n))]) (fun (x, n) => [])⟩
def S_rotl : FuncId → Option Sp := fun _ => none
theorem S_rotl_ok : ∀ f s, S_rotl f = some s → FOK Tryd.prog gl f s := fun f s h => by cases h
set_option maxHeartbeats 1000000 in
set_option maxRecDepth 1000 in
theorem rotl_ok : FOK Tryd.prog gl 64 rotlSp := by
 refine FOK.ofE (tyOf_ok Tryd.prog) (slots := [4]) (nt := 17) Tryd.func64 rfl rfl rfl rfl (by decide) 2 (fun ⟨_, _⟩ => rfl) (by decide) (fun ⟨_, _⟩ => ⟨trivial, trivial, trivial⟩) ?_
 rintro ⟨x, n⟩ kk hlen hpre h
 replace hpre : 1 ≤ n ∧ n ≤ 31 := hpre
 show HT (cx Tryd.prog 17 (tyOf Tryd.prog) gl []) _ [(0, .p (.u32 x)), (1, .p (.v (.int .i64 (-n))))] [] _
 refine HT.seq (HT.region S_rotl_ok (So.q rfl rfl (V.as (v := .p (.u32 0)) rfl (So.e (HT.seq (HT.region S_rotl_ok (So.q rfl rfl (V.mv (v := .p (.v (.int .i64 _))) rfl (So.q rfl rfl (V.cvN ty68 ty3 (a := .v (.int .i64 _)) (r := .u64 _) rfl rfl (So.q rfl rfl (V.bin (a := .u64 _) (b := .u64 31) (r := .u64 _) rfl rfl rfl trivial (So.q rfl rfl (V.as (v := .p (.u64 _)) rfl ?_))))))))))))))
 refine So.e (HT.seq (HT.region S_rotl_ok (So.q rfl rfl (V.mv (v := .p (.u32 _)) rfl (So.q rfl rfl (V.mv (v := .p (.u64 _)) rfl (So.q rfl rfl (V.bin (a := .u32 _) (b := .u64 _) (r := .u32 _) rfl rfl rfl (by omega) (So.q rfl rfl (V.mv (v := .p (.u32 _)) rfl (So.q rfl rfl (V.mv (v := .p (.u64 _)) rfl (So.q rfl rfl (V.bin (a := .u64 32) (b := .u64 _) (r := .u64 _) rfl rfl rfl trivial (So.q rfl rfl (V.bin (a := .u32 _) (b := .u64 _) (r := .u32 _) rfl rfl rfl (by omega) ?_))))))))))))))))
 refine So.q rfl rfl (V.bin (a := .u32 _) (b := .u32 _) (r := .u32 _) rfl rfl rfl trivial (So.q rfl rfl (V.as (v := .p (.u32 _)) rfl (So.e ?_))))
 show HT _ _ _ _ _
 refine HT.ret ?_
 exact ret_ok (sg []) h rfl rfl rfl trivial ⟨trivial, trivial⟩ rfl ⟨⟨⟨le_u32 (by exact rot_left hpre), trivial⟩, trivial⟩, trivial⟩
def rightSp : Sp := ⟨[], mkE (α := UInt32 × Int) (fun (x, n) => [.p (.u32 x), .p (.v (.int .i64 n))]) (fun (x, n) => []) (fun (x, n) => 1 ≤ n ∧ n ≤ 31) (fun (x, n) => [.p (.u32 (rotr x n))]) (fun (x, n) => [])⟩
def S_right : FuncId → Option Sp := fun f => if f = 64 then some rotlSp else none
theorem S_right_ok : ∀ f s, S_right f = some s → FOK Tryd.prog gl f s := fun f s h => by
 unfold S_right at h
 split at h
 ·rename_i e; cases h; subst e; exact rotl_ok
 cases h
set_option maxHeartbeats 1000000 in
set_option maxRecDepth 1000 in
theorem right_ok : FOK Tryd.prog gl 63 rightSp := by
 refine FOK.ofE (tyOf_ok Tryd.prog) (slots := [4]) (nt := 9) Tryd.func63 rfl rfl rfl rfl (by decide) 2 (fun ⟨_, _⟩ => rfl) (by decide) (fun ⟨_, _⟩ => ⟨trivial, trivial, trivial⟩) ?_
 rintro ⟨x, n⟩ kk hlen hpre h
 replace hpre : 1 ≤ n ∧ n ≤ 31 := hpre
 show HT (cx Tryd.prog 9 (tyOf Tryd.prog) gl []) _ [(0, .p (.u32 x)), (1, .p (.v (.int .i64 n)))] [] _
 refine HT.seq (HT.region S_right_ok (So.q rfl rfl (V.as (v := .p (.u32 0)) rfl (So.e (HT.seq (HT.region S_right_ok (So.q rfl rfl (V.mv (v := .p (.u32 _)) rfl (So.q rfl rfl (V.mv (v := .p (.v (.int .i64 _))) rfl (So.q rfl rfl (V.neg rfl (by omega) ?_))))))))))))
 refine So.n (lk rfl) (A.call0 [.p (.u32 _), .p (.v (.int .i64 _))] 1 rfl rfl rfl rfl ⟨trivial, trivial, trivial⟩ trivial (_, _) ⟨.refl _, .refl _, trivial⟩ trivial (by omega) (Φ := fun _ => True) (fun _ _ => trivial) (.inl rfl) (v := .p (.u32 _)) rfl (O' := _) rfl (fun h1 => ?_))
 refine So.q rfl rfl (V.as (v := .p (.u32 _)) rfl (So.e ?_))
 show HT _ _ _ _ _
 refine HT.ret ?_
 exact ret_ok (sg []) h rfl rfl rfl trivial ⟨trivial, trivial⟩ rfl ⟨⟨⟨le_u32 (by first | rfl), trivial⟩, trivial⟩, trivial⟩
def turnedSp : Sp := ⟨[], mkE (α := UInt32 × Int) (fun (x, n) => [.p (.u32 x), .p (.v (.int .i64 n))]) (fun (x, n) => []) (fun (x, n) => 1 ≤ n ∧ n ≤ 31) (fun (x, n) => [.p (.u32 (rotr x n))]) (fun (x, n) => [])⟩
def S_turned : FuncId → Option Sp := fun _ => none
theorem S_turned_ok : ∀ f s, S_turned f = some s → FOK Tryd.prog gl f s := fun f s h => by cases h
theorem S_turned_det : ∀ f s, S_turned f = some s → SpDet s.sp := fun f s h => by cases h
set_option maxHeartbeats 1000000 in
set_option maxRecDepth 1000 in
theorem turned_ok : FOK Tryd.prog gl 61 turnedSp := by
 refine FOK.ofE (tyOf_ok Tryd.prog) (slots := [4]) (nt := 13) Tryd.func61 rfl rfl rfl rfl (by decide) 2 (fun ⟨_, _⟩ => rfl) (by decide) (fun ⟨_, _⟩ => ⟨trivial, trivial, trivial⟩) ?_
 rintro ⟨x, n⟩ kk hlen hpre h
 replace hpre : 1 ≤ n ∧ n ≤ 31 := hpre
 show HT (cx Tryd.prog 13 (tyOf Tryd.prog) gl []) _ [(0, .p (.u32 x)), (1, .p (.v (.int .i64 n)))] [] _
 refine HT.seq (HT.region S_turned_ok (So.q rfl rfl (V.as (v := .p (.u32 0)) rfl (So.e (HT.seq ?_)))))
 refine HT.drawn S_turned_ok S_turned_det mixed (by kernel_rfl) ?_
 refine Sd.n (lk rfl) (V.mv (v := .p (.u32 _)) rfl (Sd.n (lk rfl) (V.mv (v := .p (.v (.int .i64 _))) rfl (Sd.n (lk rfl) (V.bin (a := .u32 _) (b := .v (.int .i64 _)) (r := .u32 _) rfl rfl rfl (by omega) (Sd.n (lk rfl) (V.mv (v := .p (.u32 _)) rfl (Sd.n (lk rfl) (V.mv (v := .p (.v (.int .i64 _))) rfl (Sd.n (lk rfl) (V.subI rfl rfl (by omega) (Sd.n (lk rfl) (V.bin (a := .u32 _) (b := .v (.int .i64 _)) (r := .u32 _) rfl rfl rfl (by omega) (Sd.n (lk rfl) (V.bin (a := .u32 _) (b := .u32 _) (r := .u32 _) rfl rfl rfl trivial (Sd.n (lk rfl) (V.as (v := .p (.u32 _)) rfl (Sd.e ?_))))))))))))))))))
 show HT _ _ _ _ _
 refine HT.ret ?_
 exact ret_ok (sg []) h rfl rfl rfl trivial ⟨trivial, trivial⟩ rfl ⟨⟨⟨le_u32 (by first | rfl), trivial⟩, trivial⟩, trivial⟩
def beginSp : Sp := ⟨[], mkE (α := Unit) (fun _ => []) (fun _ => []) (fun _ => True) (fun _ => [.agg 8 (fun j => .u32 (h0 j))]) (fun _ => [])⟩
def S_begin : FuncId → Option Sp := fun _ => none
theorem S_begin_ok : ∀ f s, S_begin f = some s → FOK Tryd.prog gl f s := fun f s h => by cases h
set_option maxHeartbeats 1000000 in
set_option maxRecDepth 5000 in
theorem begin_ok : FOK Tryd.prog gl 58 beginSp := by
 refine FOK.ofEC (tyOf_ok Tryd.prog) (rvs := [.cell 0 86]) (nt := 2) Tryd.func58 rfl rfl rfl rfl (by decide) 0 (fun _ => rfl) (by decide) (fun _ => trivial) ?_
 rintro _ kk hlen hpre h
 replace hpre : True := hpre
 show HT (cx Tryd.prog 2 (tyOf Tryd.prog) gl []) _ [] [] _
 refine HT.seq (HT.region S_begin_ok (So.n (lk rfl) (A.alloc 1 1 ty86 rfl trivial (f := fun _ => .u32 0) (fun _ _ => rfl) (So.e (HT.seq (HT.region S_begin_ok (So.n (lk rfl) (A.bldA ty86 rfl rfl ⟨by exact trivial, by exact trivial, by exact trivial, by exact trivial, by exact trivial, by exact trivial, by exact trivial, by exact trivial, trivial⟩ rfl (f := fun j => .u32 (h0 j)) (by exact allP_spec (P := fun j => _ = _) ⟨⟨⟨⟨⟨⟨⟨⟨trivial, rfl⟩, rfl⟩, rfl⟩, rfl⟩, rfl⟩, rfl⟩, rfl⟩, rfl⟩) (So.s (A.stoAg ty86 rfl (n := 8) rfl (by decide) (by intro j hj; trivial) rfl rfl rfl (So.e ?_)))))))))))
 show HT _ _ _ _ _
 refine HT.ret ?_
 exact retC_ok (sg []) [(0, .ptr 1 0)] [(1, ⟨86, 1, 8, true, .rows (fun j => .u32 (h0 j))⟩)] h ⟨⟨⟨.refl _, rfl⟩, trivial⟩, ⟨⟨_, rfl, .inr (ob_rows rfl (by intro j hj; rfl)), trivial⟩, trivial⟩⟩ ⟨rvA_cell ty86 rfl rfl rfl rfl (Nat.le_refl _) (le_agg (fun j _ => by (dsimp only; rw [Nat.zero_add]))), trivial⟩ trivial rfl trivial ⟨trivial, trivial⟩ rfl
def constantsSp : Sp := ⟨[], mkE (α := Unit) (fun _ => []) (fun _ => []) (fun _ => True) (fun _ => [.agg 64 (fun j => .u32 (K256.getD j 0))]) (fun _ => [])⟩
def S_constants : FuncId → Option Sp := fun _ => none
theorem S_constants_ok : ∀ f s, S_constants f = some s → FOK Tryd.prog gl f s := fun f s h => by cases h
set_option maxHeartbeats 1000000 in
set_option maxRecDepth 20000 in
theorem constants_ok : FOK Tryd.prog gl 60 constantsSp := by
 refine FOK.ofEC (tyOf_ok Tryd.prog) (rvs := [.cell 0 90]) (nt := 2) Tryd.func60 rfl rfl rfl rfl (by decide) 0 (fun _ => rfl) (by decide) (fun _ => trivial) ?_
 rintro _ kk hlen hpre h
 replace hpre : True := hpre
 show HT (cx Tryd.prog 2 (tyOf Tryd.prog) gl []) _ [] [] _
 refine HT.seq (HT.region S_constants_ok (So.n (lk rfl) (A.alloc 1 1 ty90 rfl trivial (f := fun _ => .u32 0) (fun _ _ => rfl) (So.e (HT.seq (HT.region S_constants_ok (So.n (lk rfl) (A.bldA ty90 rfl rfl ⟨by exact trivial, by exact trivial, by exact trivial, by exact trivial, by exact trivial, by exact trivial, by exact trivial, by exact trivial, by exact trivial, by exact trivial, by exact trivial, by exact trivial, by exact trivial, by exact trivial, by exact trivial, by exact trivial, by exact trivial, by exact trivial, by exact trivial, by exact trivial, by exact trivial, by exact trivial, by exact trivial, by exact trivial, by exact trivial, by exact trivial, by exact trivial, by exact trivial, by exact trivial, by exact trivial, by exact trivial, by exact trivial, by exact trivial, by exact trivial, by exact trivial, by exact trivial, by exact trivial, by exact trivial, by exact trivial, by exact trivial, by exact trivial, by exact trivial, by exact trivial, by exact trivial, by exact trivial, by exact trivial, by exact trivial, by exact trivial, by exact trivial, by exact trivial, by exact trivial, by exact trivial, by exact trivial, by exact trivial, by exact trivial, by exact trivial, by exact trivial, by exact trivial, by exact trivial, by exact trivial, by exact trivial, by exact trivial, by exact trivial, by exact trivial, trivial⟩ rfl (f := fun j => .u32 (K256.getD j 0)) (by exact allP_spec (P := fun j => _ = _) ⟨⟨⟨⟨⟨⟨⟨⟨⟨⟨⟨⟨⟨⟨⟨⟨⟨⟨⟨⟨⟨⟨⟨⟨⟨⟨⟨⟨⟨⟨⟨⟨⟨⟨⟨⟨⟨⟨⟨⟨⟨⟨⟨⟨⟨⟨⟨⟨⟨⟨⟨⟨⟨⟨⟨⟨⟨⟨⟨⟨⟨⟨⟨⟨trivial, rfl⟩, rfl⟩, rfl⟩, rfl⟩, rfl⟩, rfl⟩, rfl⟩, rfl⟩, rfl⟩, rfl⟩, rfl⟩, rfl⟩, rfl⟩, rfl⟩, rfl⟩, rfl⟩, rfl⟩, rfl⟩, rfl⟩, rfl⟩, rfl⟩, rfl⟩, rfl⟩, rfl⟩, rfl⟩, rfl⟩, rfl⟩, rfl⟩, rfl⟩, rfl⟩, rfl⟩, rfl⟩, rfl⟩, rfl⟩, rfl⟩, rfl⟩, rfl⟩, rfl⟩, rfl⟩, rfl⟩, rfl⟩, rfl⟩, rfl⟩, rfl⟩, rfl⟩, rfl⟩, rfl⟩, rfl⟩, rfl⟩, rfl⟩, rfl⟩, rfl⟩, rfl⟩, rfl⟩, rfl⟩, rfl⟩, rfl⟩, rfl⟩, rfl⟩, rfl⟩, rfl⟩, rfl⟩, rfl⟩, rfl⟩) (So.s (A.stoAg ty90 rfl (n := 64) rfl (by decide) (by intro j hj; trivial) rfl rfl rfl (So.e ?_)))))))))))
 show HT _ _ _ _ _
 refine HT.ret ?_
 exact retC_ok (sg []) [(0, .ptr 1 0)] [(1, ⟨90, 1, 64, true, .rows (fun j => .u32 (K256.getD j 0))⟩)] h ⟨⟨⟨.refl _, rfl⟩, trivial⟩, ⟨⟨_, rfl, .inr (ob_rows rfl (by intro j hj; rfl)), trivial⟩, trivial⟩⟩ ⟨rvA_cell ty90 rfl rfl rfl rfl (Nat.le_refl _) (le_agg (fun j _ => by (dsimp only; rw [Nat.zero_add]))), trivial⟩ trivial rfl trivial ⟨trivial, trivial⟩ rfl
def spleafSp : Sp := ⟨[], mkE (α := Int) (fun i => [.p (.v (.int .i64 i))]) (fun i => []) (fun i => True) (fun i => [.p (.v (.bool (decide (0 ≤ i ∧ i < 65536))))]) (fun i => [])⟩
def S_spleaf : FuncId → Option Sp := fun _ => none
theorem S_spleaf_ok : ∀ f s, S_spleaf f = some s → FOK Tryd.prog gl f s := fun f s h => by cases h
set_option maxHeartbeats 1000000 in
set_option maxRecDepth 1000 in
theorem spleaf_ok : FOK Tryd.prog gl 37 spleafSp := by
 refine FOK.ofE (tyOf_ok Tryd.prog) (slots := [2]) (nt := 9) Tryd.func37 rfl rfl rfl rfl (by decide) 1 (fun _ => rfl) (by decide) (fun _ => ⟨trivial, trivial⟩) ?_
 rintro i kk hlen hpre h
 replace hpre : True := hpre
 show HT (cx Tryd.prog 9 (tyOf Tryd.prog) gl []) _ [(0, .p (.v (.int .i64 i)))] [] _
 refine HT.seq (HT.region S_spleaf_ok (So.q rfl rfl (V.as (v := .p (.v (.bool false))) rfl (So.e (HT.seq (HT.region S_spleaf_ok (So.q rfl rfl (V.mv (v := .p (.v (.int .i64 _))) rfl (So.q rfl rfl (V.bin (a := .v (.int .i64 _)) (b := .v (.int .i64 0)) (r := .v (.bool _)) rfl rfl rfl trivial (So.q rfl rfl (V.mv (v := .p (.v (.bool _))) rfl ?_))))))))))))
 refine So.gd rfl rfl (lk rfl) (lk rfl) (fun h1 => ?_) (fun h1 => ?_)
 ·have h1 := of_decide_eq_true h1
  refine A.v rfl (V.mv (v := .p (.v (.int .i64 _))) rfl (So.gy rfl rfl (lk rfl) (lk rfl) (A.v rfl (V.bin (a := .v (.int .i64 _)) (b := .v (.int .i64 65536)) (r := .v (.bool _)) rfl rfl rfl trivial (So.q rfl rfl (V.pkTrue (u := .p (.v (.bool _))) rfl rfl (So.q rfl rfl (V.as (v := .p (.v (.bool _))) rfl (So.e ?_)))))))))
  show HT _ _ _ _ _
  refine HT.ret ?_
  exact ret_ok (sg []) h rfl rfl rfl trivial ⟨trivial, trivial⟩ rfl ⟨⟨⟨le_bool (by (refine dcg ?_; omega)), trivial⟩, trivial⟩, trivial⟩
 ·have h1 := of_decide_eq_false h1
  refine So.gn (b := false) rfl rfl rfl (lk rfl) (lk rfl) (So.q rfl rfl (V.pkFalse (u := .p (.v (.bool false))) rfl rfl (So.q rfl rfl (V.as (v := .p (.v (.bool false))) rfl (So.e ?_)))))
  show HT _ _ _ _ _
  refine HT.ret ?_
  exact ret_ok (sg []) h rfl rfl rfl trivial ⟨trivial, trivial⟩ rfl ⟨⟨⟨le_bool (by (exact (decide_eq_false (by omega)).symm)), trivial⟩, trivial⟩, trivial⟩
def cloneSp : Sp := ⟨[], mkE (α := (List UInt8)) (fun l => [.p (.bs l)]) (fun l => []) (fun l => l.length ≤ 140737488355328) (fun l => [.own 1 0 (l.length)]) (fun l => [(1, ⟨5, 1, (l).length, true, .bs (l)⟩)])⟩
def S_clone : FuncId → Option Sp := fun _ => none
theorem S_clone_ok : ∀ f s, S_clone f = some s → FOK Tryd.prog gl f s := fun f s h => by cases h
set_option maxHeartbeats 1000000 in
set_option maxRecDepth 1000 in
theorem clone_ok : FOK Tryd.prog gl 21 cloneSp := by
 refine FOK.ofE (tyOf_ok Tryd.prog) (slots := [2]) (nt := 8) Tryd.func21 rfl rfl rfl rfl (by decide) 1 (fun _ => rfl) (by decide) (fun _ => ⟨trivial, trivial⟩) ?_
 rintro l kk hlen hpre h
 have hl0 : (l).length ≤ 9223372036854775807 := hlen.1
 replace hpre : l.length ≤ 140737488355328 := hpre
 show HT (cx Tryd.prog 8 (tyOf Tryd.prog) gl []) _ [(0, .p (.bs l))] [] _
 refine HT.seq (HT.region S_clone_ok (So.q rfl rfl (V.as (v := .p (.v (.slice none 0 0))) rfl (So.e (HT.seq (HT.seq (HT.region S_clone_ok (So.q rfl rfl (V.mv (v := .p (.bs _)) rfl (So.n (lk rfl) (A.eqNilBs ty22 rfl rfl (fun h1 => ?_) ?_)))))))))))
 ·refine So.e ?_
  show HT _ _ _ _ _
  refine R.condT rfl ?_
  refine HT.seq (HT.region S_clone_ok (So.q rfl rfl (V.as (v := .p (.v (.slice none 0 0))) rfl (So.e ?_))))
  show HT _ _ _ _ _
  refine R.phan 2 1 5 1 (.bs []) rfl rfl rfl ⟨rfl, rfl⟩ ?_
  refine HT.ret ?_
  exact ret_ok (sg [(1, 1)]) h rfl rfl rfl ⟨trivial, trivial⟩ ⟨rfl, trivial⟩ rfl ⟨⟨⟨le_own2 (by rfl) (by omega), rfl⟩, trivial⟩, ⟨⟨_, rfl, .inl (ob_bs (by ((try dsimp only); (omega))) (by ((try dsimp only); ((exact (List.eq_nil_of_length_eq_zero (by omega)).symm))))), trivial⟩, trivial⟩⟩
 ·refine So.e ?_
  show HT _ _ _ _ _
  refine R.condF rfl ?_
  refine HT.skip (HT.seq (HT.region S_clone_ok (So.n (lk rfl) (A.bsl 1 ty22 ty5 rfl (lk rfl) (lk rfl) (fun _ => rfl) rfl rfl trivial trivial rfl (N := 0) rfl (c := .bs []) rfl (So.q rfl rfl (V.mv (v := .p (.bs _)) rfl (So.n (lk rfl) (A.apOwn ty22 ty5 rfl rfl rfl rfl (u := .p (.bs _)) rfl rfl rfl rfl (by omega) rfl rfl rfl (So.q rfl rfl (V.as (v := .own 1 0 _) rfl (So.e ?_)))))))))))
  show HT _ _ _ _ _
  refine HT.ret ?_
  exact ret_ok (sg [(1, 1)]) h rfl rfl rfl ⟨trivial, trivial⟩ ⟨rfl, trivial⟩ rfl ⟨⟨⟨le_own2 (by rfl) (by omega), rfl⟩, trivial⟩, ⟨⟨_, rfl, .inl (ob_bs (by ((try dsimp only); (omega))) (by rfl)), trivial⟩, trivial⟩⟩
def rnewoSp : Sp := ⟨[], mkE (α := (List UInt8)) (fun s => [.own 1 0 (s.length)]) (fun s => [(1, ⟨5, 1, s.length, true, .bs (s)⟩)]) (fun s => True) (fun s => [.agg 3 (fun j => ([.v (.int .i64 0), .bs (if s.length = 32 then s else []), .sl (([] : KL)).length 2 (kR (([] : KL)))] : List PV).getD j (.v undef))]) (fun s => [])⟩
def S_rnewo : FuncId → Option Sp := fun f => if f = 21 then some cloneSp else none
theorem S_rnewo_ok : ∀ f s, S_rnewo f = some s → FOK Tryd.prog gl f s := fun f s h => by
 unfold S_rnewo at h
 split at h
 ·rename_i e; cases h; subst e; exact clone_ok
 cases h
set_option maxHeartbeats 1000000 in
set_option maxRecDepth 20000 in
theorem rnewo_ok : FOK Tryd.prog gl 9 rnewoSp := by
 refine FOK.ofEC (tyOf_ok Tryd.prog) (rvs := [.cell 2 26]) (nt := 10) Tryd.func9 rfl rfl rfl rfl (by decide) 1 (fun _ => rfl) (by decide) (fun _ => ⟨rfl, trivial⟩) ?_
 rintro s kk hlen hpre h
 have hl0 : _ ≤ 9223372036854775807 := hlen.1
 replace hpre : True := hpre
 show HT (cx Tryd.prog 10 (tyOf Tryd.prog) gl []) _ [(0, .own 1 0 (s.length))] [(1, ⟨5, 1, s.length, true, .bs (s)⟩)] _
 refine HT.seq (HT.region S_rnewo_ok (So.n (lk rfl) (A.alloc 2 1 ty26 rfl trivial (f := fun j => ([.v (.int .i64 0), .v (.slice none 0 0), .v (.slice none 0 0)] : List PV).getD j (.v undef)) (fun j hj => by match j, hj with | 0, _ => rfl | 1, _ => rfl | 2, _ => rfl) (So.e (HT.seq (HT.seq (HT.region S_rnewo_ok (So.q rfl rfl (V.mv (v := .own 1 0 _) rfl (So.q rfl rfl (V.len ty22 (v := .own 1 0 _) rfl rfl (So.q rfl rfl (V.bin (a := .v (.int .i64 _)) (b := .v (.int .i64 32)) (r := .v (.bool _)) rfl rfl rfl trivial ?_)))))))))))))
 refine So.e ?_
 show HT _ _ _ _ _
 refine R.cond rfl rfl (fun h1 => ?_) (fun h1 => ?_)
 ·have h1 := of_decide_eq_false (bnT h1)
  refine HT.seq (HT.region S_rnewo_ok (So.n (lk rfl) (A.bldS ty26 rfl rfl trivial rfl (f := fun j => ([.v (.int .i64 0), .v (.slice none 0 0), .v (.slice none 0 0)] : List PV).getD j (.v undef)) (by exact allP_spec (P := fun j => _ = _) ⟨⟨⟨trivial, rfl⟩, rfl⟩, rfl⟩) (So.s (A.stoAg ty26 rfl (n := 3) rfl (by decide) (by intro j hj; (match j, hj with | 0, _ => (trivial) | 1, _ => (trivial) | 2, _ => (trivial))) rfl rfl rfl (So.e ?_))))))
  show HT _ _ _ _ _
  refine HT.ret ?_
  exact retC_ok (sg []) [(2, .ptr 2 0)] [(2, ⟨26, 1, 3, true, .rows (fun j => ([.v (.int .i64 0), .bs (if s.length = 32 then s else []), .sl (([] : KL)).length 2 (kR (([] : KL)))] : List PV).getD j (.v undef))⟩)] h ⟨⟨⟨.refl _, rfl⟩, trivial⟩, ⟨⟨_, rfl, .inr (ob_rowsL (by intro j hj; match j, hj with | 0, _ => (exact .refl _) | 1, _ => (exact le_nil (if_neg (by omega))) | 2, _ => (exact le_nilSl rfl))), trivial⟩, trivial⟩⟩ ⟨rvA_cell ty26 rfl rfl rfl rfl (Nat.le_refl _) (le_agg (fun j _ => by (dsimp only; rw [Nat.zero_add]))), trivial⟩ trivial rfl trivial ⟨trivial, trivial⟩ rfl
 ·have h1 := of_decide_eq_true (bnF h1)
  refine HT.skip (HT.seq (HT.region S_rnewo_ok (So.q rfl rfl (V.mv (v := .own 1 0 _) rfl ?_))))
  refine So.n (lk rfl) (A.call0F S_rnewo_ok [.p (.bs _)] 3 rfl rfl rfl rfl ⟨trivial, trivial⟩ trivial _ ⟨le_full, trivial⟩ trivial (by omega) (Φ := fun _ => True) (fun _ _ => trivial) (.inr ⟨trivial, by simp [Hp.scal, OC.scal, PV.scal, BV.scal]⟩) (t := 4) (off := 0) rfl (O' := (4, ⟨5, 1, _, true, .bs _⟩) :: _) rfl rfl rfl (y := .p (.bs _)) rfl rfl (fun h2 => ?_))
  refine So.n (lk rfl) (A.bldS ty26 rfl rfl ⟨by exact trivial, trivial⟩ rfl (f := fun j => ([.v (.int .i64 0), .bs s, .v (.slice none 0 0)] : List PV).getD j (.v undef)) (by exact allP_spec (P := fun j => _ = _) ⟨⟨⟨trivial, rfl⟩, by (simp only [take_full]; rfl)⟩, rfl⟩) (So.s (A.stoAg ty26 rfl (n := 3) rfl (by decide) (by intro j hj; (match j, hj with | 0, _ => (trivial) | 1, _ => (trivial) | 2, _ => (trivial))) rfl rfl rfl (So.e ?_))))
  show HT _ _ _ _ _
  refine HT.ret ?_
  exact retC_ok (sg []) [(2, .ptr 2 0)] [(2, ⟨26, 1, 3, true, .rows (fun j => ([.v (.int .i64 0), .bs (if s.length = 32 then s else []), .sl (([] : KL)).length 2 (kR (([] : KL)))] : List PV).getD j (.v undef))⟩)] h ⟨⟨⟨.refl _, rfl⟩, trivial⟩, ⟨⟨_, rfl, .inr (ob_rowsL (by intro j hj; match j, hj with | 0, _ => (exact .refl _) | 1, _ => (exact le_bs (by rw [if_pos (by omega)])) | 2, _ => (exact le_nilSl rfl))), trivial⟩, trivial⟩⟩ ⟨rvA_cell ty26 rfl rfl rfl rfl (Nat.le_refl _) (le_agg (fun j _ => by (dsimp only; rw [Nat.zero_add]))), trivial⟩ trivial rfl trivial ⟨trivial, trivial⟩ rfl
def padcSp : Sp := ⟨[1], mkE (α := UInt8 × (List UInt8)) (fun (c, k) => [.p (.u8 c), .ptr 1 0]) (fun (c, k) => [(1, ⟨22, 1, 1, true, .cells [.p (.bs k)]⟩)]) (fun (c, k) => k.length ≤ 64) (fun (c, k) => [.own 2 0 (64)]) (fun (c, k) => [(1, ⟨22, 1, 1, true, .cells [.p (.bs k)]⟩), (2, ⟨5, 1, 64, true, .bs (padF k c)⟩)])⟩
def S_padc : FuncId → Option Sp := fun _ => none
theorem S_padc_ok : ∀ f s, S_padc f = some s → FOK Tryd.prog gl f s := fun f s h => by cases h
set_option maxHeartbeats 1000000 in
set_option maxRecDepth 1000 in
theorem padc_ok : FOK Tryd.prog gl 53 padcSp := by
 refine FOK.ofE (tyOf_ok Tryd.prog) (slots := [3]) (nt := 24) Tryd.func53 rfl rfl rfl rfl (by decide) 2 (fun ⟨_, _⟩ => rfl) (by decide) (fun ⟨_, _⟩ => ⟨trivial, rfl, trivial⟩) ?_
 rintro ⟨c, k⟩ kk hlen hpre h
 replace hpre : k.length ≤ 64 := hpre
 show HT (cx Tryd.prog 24 (tyOf Tryd.prog) gl [1]) _ [(0, .p (.u8 c)), (1, .ptr 1 0)] [(1, ⟨22, 1, 1, true, .cells [.p (.bs k)]⟩)] _
 refine HT.seq (HT.region S_padc_ok (So.q rfl rfl (V.as (v := .p (.v (.slice none 0 0))) rfl (So.e (HT.seq (HT.region S_padc_ok (So.n (lk rfl) (A.mkB 2 ty22 ty5 rfl rfl rfl (by omega) rfl rfl ⟨lk rfl, trivial⟩ (So.q rfl rfl (V.as (v := .own 2 0 _) rfl (So.e (HT.seq ?_))))))))))))
 refine HT.region S_padc_ok (So.q rfl rfl (V.mv (v := .own 2 0 _) rfl (So.q rfl rfl (V.ldPtr ty22 rfl rfl rfl (lk rfl) (v := .p (.bs _)) rfl (So.n (lk rfl) (A.cpy ty22 rfl rfl rfl rfl rfl (l' := padL k c 0) (by exact padL_0 hpre c) rfl (So.e (HT.seq (HT.seq (HT.region S_padc_ok (So.q rfl rfl (V.mv (v := .own 2 0 _) rfl (So.q rfl rfl (V.len ty22 (v := .own 2 0 _) rfl rfl ?_))))))))))))))
 refine So.q rfl rfl (V.mv (v := .p (.v (.int .i64 0))) rfl (So.e (HT.block ?_)))
 refine R.loop (σ := Nat) (fun s => [(12, .p (.v (.int .i64 ((s : Int)))))]) (fun s => [(2, ⟨5, 1, 64, true, .bs (padL k c s)⟩)]) [0, 3, 4, 11] [1] (fun s => s ≤ 64) (fun s => 64 - s) (0) (fr0 := [(0, .p (.u8 _)), (3, .p (.v (.slice none 0 0))), (4, .own 2 0 _), (11, .p (.v (.int .i64 _)))]) (O0 := [(1, ⟨_, _, _, _, .cells _⟩)]) rfl rfl (by omega) ⟨⟨⟨le_int (by rfl), trivial⟩, ⟨.refl _, trivial⟩, ⟨.refl _, trivial⟩, ⟨.refl _, rfl⟩, ⟨.refl _, trivial⟩, trivial⟩, ⟨⟨_, rfl, .inl (ob_bs (by rfl) (by rfl)), trivial⟩, ⟨_, rfl, .inl rfl, ⟨trivial, trivial⟩⟩, trivial⟩⟩ (fun s hP0 => ?_)
 refine HT.seq (HT.region S_padc_ok (So.q rfl rfl (V.bin (a := (.v (.int .i64 ((_ : Nat) : Int)))) (b := .v (.int .i64 _)) (r := .v (.bool _)) rfl rfl rfl trivial (So.e (HT.seq ?_)))))
 refine R.cond rfl rfl (fun h1 => ?_) (fun h1 => ?_)
 ·have h1 := of_decide_eq_true h1
  refine HT.skip (HT.seq (HT.block (HT.seq (HT.region S_padc_ok (So.q rfl rfl (V.mv (v := .p (.v (.int .i64 ((_ : Nat) : Int)))) rfl (So.q rfl rfl (V.as (v := .p (.v (.int .i64 ((_ : Nat) : Int)))) rfl (So.e (HT.region S_padc_ok ?_))))))))))
  have hpl := padL_len hpre c (s := s) (by omega)
  have hpg := padL_get hpre c (s := s) (by omega)
  refine So.q rfl rfl (V.mv (v := .own 2 0 _) rfl (So.q rfl rfl (V.mv (v := .p (.v (.int .i64 ((_ : Nat) : Int)))) rfl (So.q rfl rfl (V.ixOwn10 (mi := s) ty22 ty5 rfl rfl rfl rfl rfl (by omega) (by omega) (So.q rfl rfl (V.ldPtr ty5 rfl rfl rfl (by (simp; omega)) (v := .p (.u8 _)) rfl (So.q rfl rfl (V.mv (v := .p (.u8 _)) rfl (So.q rfl rfl (V.bin (a := .u8 _) (b := .u8 _) (r := .u8 _) rfl rfl rfl trivial (So.q rfl rfl (V.ixOwn10 (mi := s) ty22 ty5 rfl rfl rfl rfl rfl (by omega) (by omega) (So.s (A.sto ty5 rfl rfl rfl (v := .p (.u8 _)) rfl trivial rfl (by omega) rfl rfl (So.e (HT.region S_padc_ok ?_)))))))))))))))))
  refine So.q rfl rfl (V.addI rfl rfl (by omega) (So.q rfl rfl (V.mv (v := .p (.v (.int .i64 _))) rfl (So.e ?_))))
  refine ⟨s + 1, by omega, by omega, ⟨⟨⟨le_int (by rfl), trivial⟩, ⟨.refl _, trivial⟩, ⟨.refl _, trivial⟩, ⟨.refl _, rfl⟩, ⟨.refl _, trivial⟩, trivial⟩, ⟨⟨_, rfl, .inl (ob_bs (by rfl) (by ((try dsimp only); (rw [hpg]; exact padL_succ hpre c (by omega))))), trivial⟩, ⟨_, rfl, .inl rfl, ⟨trivial, trivial⟩⟩, trivial⟩⟩⟩
 ·have h1 := of_decide_eq_false h1
  refine HT.exit ?_
  show HT _ _ _ _ _
  refine HT.seq (HT.region S_padc_ok (So.q rfl rfl (V.mv (v := .own 2 0 _) rfl (So.q rfl rfl (V.as (v := .own 2 0 _) rfl (So.e ?_))))))
  show HT _ _ _ _ _
  refine HT.ret ?_
  exact ret_ok (sg [(1, 1), (2, 2)]) h rfl rfl rfl ⟨⟨trivial, trivial⟩, trivial, trivial⟩ ⟨rfl, trivial⟩ rfl ⟨⟨⟨le_own2 (by rfl) (by (show (_ : Nat) = _; rfl)), rfl⟩, trivial⟩, ⟨⟨_, rfl, .inl (by rfl), ⟨trivial, trivial⟩⟩, ⟨_, rfl, .inl (ob_bs (by (show (_ : Nat) = _; rfl)) (by (show (_ : List UInt8) = _; replace hP0 : s = 64 := (by omega); subst hP0; exact padL_64 hpre c))), trivial⟩, trivial⟩⟩
def wordsSp : Sp := ⟨[], mkE (α := (List UInt8)) (fun b => [.p (.bs b)]) (fun b => []) (fun b => 64 ≤ b.length) (fun b => [.agg 64 (fun j => .u32 (wd b j))]) (fun b => [])⟩
def S_words : FuncId → Option Sp := fun f => if f = 63 then some rightSp else none
theorem S_words_ok : ∀ f s, S_words f = some s → FOK Tryd.prog gl f s := fun f s h => by
 unfold S_words at h
 split at h
 ·rename_i e; cases h; subst e; exact right_ok
 cases h
theorem S_words_det : ∀ f s, S_words f = some s → SpDet s.sp := fun f s h => by
 unfold S_words at h
 split at h
 ·cases h; exact mkE_det _ _ _ _ _
 cases h
set_option maxHeartbeats 1000000 in
set_option maxRecDepth 20000 in
theorem words_ok : FOK Tryd.prog gl 62 wordsSp := by
 refine FOK.ofEC (tyOf_ok Tryd.prog) (rvs := [.cell 2 90]) (nt := 89) Tryd.func62 rfl rfl rfl rfl (by decide) 1 (fun _ => rfl) (by decide) (fun _ => ⟨trivial, trivial⟩) ?_
 rintro b kk hlen hpre h
 have hl0 : (b).length ≤ 9223372036854775807 := hlen.1
 replace hpre : 64 ≤ b.length := hpre
 show HT (cx Tryd.prog 89 (tyOf Tryd.prog) gl []) _ [(0, .p (.bs b))] [] _
 refine HT.seq (HT.region S_words_ok (So.n (lk rfl) (A.alloc 1 1 ty90 rfl trivial (f := fun _ => .u32 0) (fun _ _ => rfl) (So.e (HT.seq (HT.region S_words_ok (So.n (lk rfl) (A.alloc 2 1 ty90 rfl trivial (f := fun _ => .u32 0) (fun _ _ => rfl) (So.e (HT.seq (HT.seq ?_)))))))))))
 refine HT.region S_words_ok (So.q rfl rfl (V.mv (v := .p (.v (.int .i64 0))) rfl (So.e (HT.block ?_))))
 refine R.loop (σ := Nat) (fun s => [(8, .p (.v (.int .i64 ((s : Int)))))]) (fun s => [(2, ⟨90, 1, 64, true, .rows (fun j => .u32 (if j < s then be b j else 0))⟩)]) [0, 2, 3] [1] (fun s => s ≤ 16) (fun s => 16 - s) (0) (fr0 := [(0, .p (.bs _)), (2, .ptr 1 0), (3, .ptr 2 0)]) (O0 := [(1, ⟨_, _, _, _, .rows _⟩)]) rfl rfl (by omega) ⟨⟨⟨le_int (by rfl), trivial⟩, ⟨.refl _, trivial⟩, ⟨.refl _, rfl⟩, ⟨.refl _, rfl⟩, trivial⟩, ⟨⟨_, rfl, .inr (ob_rows (by rfl) (by ((try dsimp only); (simp; done)))), trivial⟩, ⟨_, rfl, .inl rfl, trivial⟩, trivial⟩⟩ (fun s hP0 => ?_)
 refine HT.seq (HT.region S_words_ok (So.q rfl rfl (V.bin (a := (.v (.int .i64 ((_ : Nat) : Int)))) (b := .v (.int .i64 16)) (r := .v (.bool _)) rfl rfl rfl trivial (So.e (HT.seq ?_)))))
 refine R.cond rfl rfl (fun h1 => ?_) (fun h1 => ?_)
 ·have h1 := of_decide_eq_true h1
  refine HT.skip (HT.seq (HT.block (HT.seq (HT.region S_words_ok (So.q rfl rfl (V.mv (v := .p (.v (.int .i64 ((_ : Nat) : Int)))) rfl (So.q rfl rfl (V.as (v := .p (.v (.int .i64 ((_ : Nat) : Int)))) rfl (So.e ?_)))))))))
  show HT _ _ _ _ _
  refine HT.tail S_words_ok mixed 35 (by kernel_rfl) (by kernel_rfl) ?_
  refine So.q rfl rfl (V.mv (v := .p (.v (.int .i64 ((_ : Nat) : Int)))) rfl (So.q rfl rfl (V.mv (v := .p (.bs _)) rfl (So.q rfl rfl (V.mv (v := .p (.v (.int .i64 ((_ : Nat) : Int)))) rfl (So.q rfl rfl (V.mulI rfl rfl (by omega) (So.q rfl rfl (V.ixBs (mi := 4 * s) ty22 ty5 rfl rfl rfl (by omega) (by omega) (So.q rfl rfl (V.ldRp ty5 rfl rfl (lk rfl) (v := .u8 _) rfl (So.q rfl rfl (V.cvN ty83 ty5 (a := .u8 _) (r := .u32 _) rfl rfl (So.q rfl rfl (V.shlC (n := 24) (a := .u32 _) (b := .u64 24) (r := .u32 (u32Shl _ 24)) rfl rfl rfl rfl (So.q rfl rfl (V.mv (v := .p (.bs _)) rfl (So.q rfl rfl (V.mv (v := .p (.v (.int .i64 ((_ : Nat) : Int)))) rfl ?_)))))))))))))))))))
  refine So.q rfl rfl (V.mulI rfl rfl (by omega) (So.q rfl rfl (V.addI rfl rfl (by omega) (So.q rfl rfl (V.ixBs (mi := 4 * s + 1) ty22 ty5 rfl rfl rfl (by omega) (by omega) (So.q rfl rfl (V.ldRp ty5 rfl rfl (lk rfl) (v := .u8 _) rfl (So.q rfl rfl (V.cvN ty83 ty5 (a := .u8 _) (r := .u32 _) rfl rfl (So.q rfl rfl (V.shlC (n := 16) (a := .u32 _) (b := .u64 16) (r := .u32 (u32Shl _ 16)) rfl rfl rfl rfl (So.q rfl rfl (V.bin (a := .u32 _) (b := .u32 _) (r := .u32 _) rfl rfl rfl trivial (So.q rfl rfl (V.mv (v := .p (.bs _)) rfl (So.q rfl rfl (V.mv (v := .p (.v (.int .i64 ((_ : Nat) : Int)))) rfl (So.q rfl rfl (V.mulI rfl rfl (by omega) ?_)))))))))))))))))))
  refine So.q rfl rfl (V.addI rfl rfl (by omega) (So.q rfl rfl (V.ixBs (mi := 4 * s + 2) ty22 ty5 rfl rfl rfl (by omega) (by omega) (So.q rfl rfl (V.ldRp ty5 rfl rfl (lk rfl) (v := .u8 _) rfl (So.q rfl rfl (V.cvN ty83 ty5 (a := .u8 _) (r := .u32 _) rfl rfl (So.q rfl rfl (V.shlC (n := 8) (a := .u32 _) (b := .u64 8) (r := .u32 (u32Shl _ 8)) rfl rfl rfl rfl (So.q rfl rfl (V.bin (a := .u32 _) (b := .u32 _) (r := .u32 _) rfl rfl rfl trivial (So.q rfl rfl (V.mv (v := .p (.bs _)) rfl (So.q rfl rfl (V.mv (v := .p (.v (.int .i64 ((_ : Nat) : Int)))) rfl (So.q rfl rfl (V.mulI rfl rfl (by omega) (So.q rfl rfl (V.addI rfl rfl (by omega) ?_)))))))))))))))))))
  refine So.q rfl rfl (V.ixBs (mi := 4 * s + 3) ty22 ty5 rfl rfl rfl (by omega) (by omega) (So.q rfl rfl (V.ldRp ty5 rfl rfl (lk rfl) (v := .u8 _) rfl (So.q rfl rfl (V.cvN ty83 ty5 (a := .u8 _) (r := .u32 _) rfl rfl (So.q rfl rfl (V.bin (a := .u32 _) (b := .u32 _) (r := .u32 _) rfl rfl rfl trivial (So.q rfl rfl (V.ixArrP10 (mi := s) ty90 ty83 rfl rfl rfl (by (simp; done)) rfl (by omega) (by omega) (So.s (A.sto ty83 rfl rfl rfl (v := .p (.u32 _)) rfl trivial rfl (by omega) (c' := .rows (fun j => .u32 (if j = s then be b s else if j < s then be b j else 0))) (congrArg (fun g => some (OC.rows g)) (funext fun j => by by_cases h9 : j = s <;> simp [h9, be])) rfl (So.e (HT.region S_words_ok (So.q rfl rfl (V.addI rfl rfl (by omega) (So.q rfl rfl (V.mv (v := .p (.v (.int .i64 _))) rfl ?_)))))))))))))))))
  refine So.e ?_
  refine ⟨s + 1, by omega, by omega, ⟨⟨⟨le_int (by rfl), trivial⟩, ⟨.refl _, trivial⟩, ⟨.refl _, rfl⟩, ⟨.refl _, rfl⟩, trivial⟩, ⟨⟨_, rfl, .inr (ob_rows (by rfl) (by ((try dsimp only); (intro j hj; by_cases h9 : j = s <;> simp [h9] <;> (try rw [if_pos (by omega)]) <;> (try (by_cases h8 : j < s <;> simp [h8] <;> omega)))))), trivial⟩, ⟨_, rfl, .inl rfl, trivial⟩, trivial⟩⟩⟩
 ·have h1 := of_decide_eq_false h1
  refine HT.exit ?_
  show HT _ _ _ _ _
  refine HT.seq (HT.seq (HT.region S_words_ok (So.q rfl rfl (V.as (v := .p (.v (.int .i64 16))) rfl (So.e (HT.block ?_))))))
  refine R.loop (σ := Nat) (fun s => [(5, .p (.v (.int .i64 (((16 + s : Nat) : Int)))))]) (fun s => [(2, ⟨90, 1, 64, true, .rows (fun j => .u32 (wdN b s j))⟩)]) [2, 3] [1] (fun s => s ≤ 48) (fun s => 48 - s) (0) (fr0 := [(2, .ptr 1 0), (3, .ptr 2 0)]) (O0 := [(1, ⟨_, _, _, _, .rows _⟩)]) rfl rfl (by omega) ⟨⟨⟨le_int (by rfl), trivial⟩, ⟨.refl _, rfl⟩, ⟨.refl _, rfl⟩, trivial⟩, ⟨⟨_, rfl, .inr (ob_rows (by rfl) (by ((try dsimp only); (intro j _; rw [show s = 16 by omega]; rfl)))), trivial⟩, ⟨_, rfl, .inl rfl, trivial⟩, trivial⟩⟩ (fun s hP1 => ?_)
  refine HT.seq (HT.seq (HT.region S_words_ok (So.q rfl rfl (V.mv (v := .p (.v (.int .i64 _))) rfl (So.q rfl rfl (V.bin (a := .v (.int .i64 _)) (b := .v (.int .i64 64)) (r := .v (.bool _)) rfl rfl rfl trivial (So.e ?_)))))))
  show HT _ _ _ _ _
  refine R.cond rfl rfl (fun h2 => ?_) (fun h2 => ?_)
  ·have h2 := of_decide_eq_true h2
   refine HT.skip (HT.seq (HT.block (HT.seq ?_)))
   refine HT.drawn S_words_ok S_words_det mixed (by kernel_rfl) ?_
   refine Sd.n (lk rfl) (V.mv (v := .p (.v (.int .i64 _))) rfl (Sd.n (lk rfl) (V.subI rfl rfl (by omega) (Sd.n (lk rfl) (V.ixArrP10 (mi := s + 1) ty90 ty83 rfl rfl rfl (by (simp; done)) rfl (by omega) (by omega) (Sd.n (lk rfl) (V.ldPtr ty83 rfl rfl rfl (by (simp; omega)) (v := .p (.u32 _)) rfl (Sd.n (lk rfl) (V.mv (v := .p (.v (.int .i64 _))) rfl (Sd.n (lk rfl) (V.subI rfl rfl (by omega) (Sd.n (lk rfl) (V.ixArrP10 (mi := s + 14) ty90 ty83 rfl rfl rfl (by (simp; done)) rfl (by omega) (by omega) (Sd.n (lk rfl) (V.ldPtr ty83 rfl rfl rfl (by (simp; omega)) (v := .p (.u32 _)) rfl (Sd.n (lk rfl) (V.as (v := .p (.u32 _)) rfl (Sd.n (lk rfl) (V.as (v := .p (.u32 _)) rfl ?_)))))))))))))))))))
   refine Sd.e ?_
   show HT _ _ _ _ _
   refine HT.planS S_words_ok S_words_det mixed [] [⟨[0, 1, 2, 3, 4, 5, 6, 7, 8, 9, 10, 11, 12, 13, 14, 15, 16, 17, 18, 19, 20, 21, 22, 23, 24, 25, 26, 27, 28], 29, []⟩] (by kernel_rfl) ?_
   refine Pl.l0 ?_
   refine Si.n rfl (lk rfl) (V.mv (v := .p (.v (.int .i64 _))) rfl (Si.n rfl (lk rfl) (V.mv (v := .p (.v (.int .i64 _))) rfl (Si.n rfl (lk rfl) (V.subI rfl rfl (by omega) (Si.n rfl (lk rfl) (V.ixArrP10 (mi := s) ty90 ty83 rfl rfl rfl (by (simp; done)) rfl (by omega) (by omega) (Si.n rfl (lk rfl) (V.ldPtr ty83 rfl rfl rfl (by (simp; omega)) (v := .p (.u32 _)) rfl (Si.n rfl (lk rfl) (V.mv (v := .p (.v (.int .i64 _))) rfl (Si.n rfl (lk rfl) (V.subI rfl rfl (by omega) (Si.n rfl (lk rfl) (V.ixArrP10 (mi := s + 9) ty90 ty83 rfl rfl rfl (by (simp; done)) rfl (by omega) (by omega) (Si.n rfl (lk rfl) (V.ldPtr ty83 rfl rfl rfl (by (simp; omega)) (v := .p (.u32 _)) rfl (Si.n rfl (lk rfl) (V.bin (a := .u32 _) (b := .u32 _) (r := .u32 _) rfl rfl rfl trivial ?_)))))))))))))))))))
   refine Si.n rfl (lk rfl) (V.mv (v := .p (.u32 _)) rfl ?_)
   refine Si.n rfl (lk rfl) (V.call [.p (.u32 _), .p (.v (.int .i64 _))] 3 rfl rfl rfl rfl ⟨trivial, trivial, trivial⟩ trivial (_, _) ⟨.refl _, .refl _, trivial⟩ trivial (by omega) (Φ := fun _ => True) (fun _ _ => trivial) (.inl ⟨trivial, trivial, trivial⟩) (v := .p (.u32 _)) rfl (fun h3 => ?_))
   refine Si.n rfl (lk rfl) (V.mv (v := .p (.u32 _)) rfl ?_)
   refine Si.n rfl (lk rfl) (V.call [.p (.u32 _), .p (.v (.int .i64 _))] 3 rfl rfl rfl rfl ⟨trivial, trivial, trivial⟩ trivial (_, _) ⟨.refl _, .refl _, trivial⟩ trivial (by omega) (Φ := fun _ => True) (fun _ _ => trivial) (.inl ⟨trivial, trivial, trivial⟩) (v := .p (.u32 _)) rfl (fun h4 => ?_))
   refine Si.n rfl (lk rfl) (V.bin (a := .u32 _) (b := .u32 _) (r := .u32 _) rfl rfl rfl trivial (Si.n rfl (lk rfl) (V.mv (v := .p (.u32 _)) rfl (Si.n rfl (lk rfl) (V.shrC (n := 3) (a := .u32 _) (b := .u64 3) (r := .u32 (u32Shr _ 3)) rfl rfl rfl rfl (Si.n rfl (lk rfl) (V.bin (a := .u32 _) (b := .u32 _) (r := .u32 _) rfl rfl rfl trivial (Si.n rfl (lk rfl) (V.bin (a := .u32 _) (b := .u32 _) (r := .u32 _) rfl rfl rfl trivial (Si.n rfl (lk rfl) (V.mv (v := .p (.u32 _)) rfl ?_)))))))))))
   refine Si.n rfl (lk rfl) (V.call [.p (.u32 _), .p (.v (.int .i64 _))] 3 rfl rfl rfl rfl ⟨trivial, trivial, trivial⟩ trivial (_, _) ⟨.refl _, .refl _, trivial⟩ trivial (by omega) (Φ := fun _ => True) (fun _ _ => trivial) (.inl ⟨trivial, trivial, trivial⟩) (v := .p (.u32 _)) rfl (fun h5 => ?_))
   refine Si.n rfl (lk rfl) (V.mv (v := .p (.u32 _)) rfl ?_)
   refine Si.n rfl (lk rfl) (V.call [.p (.u32 _), .p (.v (.int .i64 _))] 3 rfl rfl rfl rfl ⟨trivial, trivial, trivial⟩ trivial (_, _) ⟨.refl _, .refl _, trivial⟩ trivial (by omega) (Φ := fun _ => True) (fun _ _ => trivial) (.inl ⟨trivial, trivial, trivial⟩) (v := .p (.u32 _)) rfl (fun h6 => ?_))
   refine Si.n rfl (lk rfl) (V.bin (a := .u32 _) (b := .u32 _) (r := .u32 _) rfl rfl rfl trivial (Si.n rfl (lk rfl) (V.mv (v := .p (.u32 _)) rfl (Si.n rfl (lk rfl) (V.shrC (n := 10) (a := .u32 _) (b := .u64 10) (r := .u32 (u32Shr _ 10)) rfl rfl rfl rfl (Si.n rfl (lk rfl) (V.bin (a := .u32 _) (b := .u32 _) (r := .u32 _) rfl rfl rfl trivial (Si.n rfl (lk rfl) (V.bin (a := .u32 _) (b := .u32 _) (r := .u32 _) rfl rfl rfl trivial (Si.n rfl (lk rfl) (V.ixArrP10 (mi := 16 + s) ty90 ty83 rfl rfl rfl (by (simp; done)) rfl (by omega) (by omega) (Si.e ?_))))))))))))
   refine ⟨flEq_nil, ?_⟩
   refine Lo.s rfl (A.sto ty83 rfl rfl rfl (v := .p (.u32 _)) rfl trivial rfl (by omega) (c' := .rows (fun j => .u32 (wdN b (s + 1) j))) (congrArg (fun g => some (OC.rows g)) (funext fun j => by by_cases h9 : j = 16 + s <;> simp [h9, wdN, sg0, sg1])) rfl ?_)
   refine Pl.e ?_
   refine Si.e ?_
   refine ⟨flEq_nil, ?_⟩
   show HT _ _ _ _ _
   refine HT.region S_words_ok (So.q rfl rfl (V.mv (v := .p (.v (.int .i64 _))) rfl (So.q rfl rfl (V.addI rfl rfl (by omega) (So.q rfl rfl (V.as (v := .p (.v (.int .i64 _))) rfl (So.e ?_)))))))
   refine ⟨s + 1, by omega, by omega, ⟨⟨⟨le_int (by rfl), trivial⟩, ⟨.refl _, rfl⟩, ⟨.refl _, rfl⟩, trivial⟩, ⟨⟨_, rfl, .inr (ob_rows (by rfl) (by ((try dsimp only); (simp; done)))), trivial⟩, ⟨_, rfl, .inl rfl, trivial⟩, trivial⟩⟩⟩
  ·have h2 := of_decide_eq_false h2
   refine HT.exit ?_
   show HT _ _ _ _ _
   refine HT.seq (HT.region S_words_ok (So.q rfl rfl (V.ldPtrA ty90 rfl rfl rfl rfl (lk rfl) (So.s (A.stoAg ty90 rfl (n := 64) rfl (by decide) (by intro j hj; trivial) rfl rfl rfl (So.e ?_))))))
   show HT _ _ _ _ _
   refine HT.ret ?_
   exact retC_ok (sg []) [(2, .ptr 1 0)] [(1, ⟨90, 1, 64, true, .rows (fun j => .u32 (wd b j))⟩)] h ⟨⟨⟨.refl _, rfl⟩, trivial⟩, ⟨⟨_, rfl, .inr (ob_rows rfl (by intro j hj; ((try dsimp only); ((replace hP1 : s = 48 := (by omega); subst hP1; (rw [Nat.zero_add]; rfl)))))), trivial⟩, trivial⟩⟩ ⟨rvA_cell ty90 rfl rfl rfl rfl (Nat.le_refl _) (le_agg (fun j _ => by (dsimp only; rw [Nat.zero_add]))), trivial⟩ trivial rfl trivial ⟨trivial, trivial⟩ rfl
def block10Sp : Sp := ⟨[1, 2], mkE (α := (Nat → UInt32) × (List UInt8) × Nat × Nat × UInt64) (fun (g, bb, o, n, m) => [.ptr 1 0, .own 2 o (n)]) (fun (g, bb, o, n, m) => [(1, ⟨89, 1, 10, true, .cells [.p (.u32 (g 0)), .p (.u32 (g 1)), .p (.u32 (g 2)), .p (.u32 (g 3)), .p (.u32 (g 4)), .p (.u32 (g 5)), .p (.u32 (g 6)), .p (.u32 (g 7)), .own 2 o (n), .p (.u64 m)]⟩), (2, ⟨5, 1, (bb).length, true, .bs (bb)⟩)]) (fun (g, bb, o, n, m) => 64 ≤ n ∧ o + n ≤ bb.length) (fun (g, bb, o, n, m) => []) (fun (g, bb, o, n, m) => [(1, ⟨89, 1, 10, true, .cells [.p (.u32 (comp g ((bb.drop o).take n) 0)), .p (.u32 (comp g ((bb.drop o).take n) 1)), .p (.u32 (comp g ((bb.drop o).take n) 2)), .p (.u32 (comp g ((bb.drop o).take n) 3)), .p (.u32 (comp g ((bb.drop o).take n) 4)), .p (.u32 (comp g ((bb.drop o).take n) 5)), .p (.u32 (comp g ((bb.drop o).take n) 6)), .p (.u32 (comp g ((bb.drop o).take n) 7)), .own 2 o (n), .p (.u64 m)]⟩), (2, ⟨5, 1, (bb).length, true, .bs (bb)⟩)])⟩
def S_block10 : FuncId → Option Sp := fun f => if f = 62 then some wordsSp else if f = 63 then some rightSp else none
theorem S_block10_ok : ∀ f s, S_block10 f = some s → FOK Tryd.prog gl f s := fun f s h => by
 unfold S_block10 at h
 split at h
 ·rename_i e; cases h; subst e; exact words_ok
 split at h
 ·rename_i e; cases h; subst e; exact right_ok
 cases h
theorem S_block10_det : ∀ f s, S_block10 f = some s → SpDet s.sp := fun f s h => by
 unfold S_block10 at h
 split at h
 ·cases h; exact mkE_det _ _ _ _ _
 split at h
 ·cases h; exact mkE_det _ _ _ _ _
 cases h
set_option maxHeartbeats 1000000 in
set_option maxRecDepth 20000 in
theorem block10_ok : FOK Tryd.prog gl 59 block10Sp := by
 refine FOK.ofE (tyOf_ok Tryd.prog) (slots := []) (nt := 135) Tryd.func59 rfl rfl rfl rfl (by decide) 2 (fun ⟨_, _, _, _, _⟩ => rfl) (by decide) (fun ⟨_, _, _, _, _⟩ => ⟨rfl, rfl, trivial⟩) ?_
 rintro ⟨g, bb, o, n, m⟩ kk hlen hpre h
 have hl1 : _ ≤ 9223372036854775807 := hlen.2.1
 replace hpre : 64 ≤ n ∧ o + n ≤ bb.length := hpre
 show HT (cx Tryd.prog 135 (tyOf Tryd.prog) gl [1, 2]) _ [(0, .ptr 1 0), (1, .own 2 o (n))] [(1, ⟨89, 1, 10, true, .cells [.p (.u32 (g 0)), .p (.u32 (g 1)), .p (.u32 (g 2)), .p (.u32 (g 3)), .p (.u32 (g 4)), .p (.u32 (g 5)), .p (.u32 (g 6)), .p (.u32 (g 7)), .own 2 o (n), .p (.u64 m)]⟩), (2, ⟨5, 1, (bb).length, true, .bs (bb)⟩)] _
 have hbl : ((bb.drop o).take n).length = n := by rw [List.length_take, List.length_drop]; omega
 refine R.jump (σ := Nat) 0 (fun s => [(4, .ptr 3 0), (5, .p (.u32 (rounds g (wd ((bb.drop o).take n)) s 0))), (6, .p (.u32 (rounds g (wd ((bb.drop o).take n)) s 1))), (7, .p (.u32 (rounds g (wd ((bb.drop o).take n)) s 2))), (8, .p (.u32 (rounds g (wd ((bb.drop o).take n)) s 3))), (9, .p (.u32 (rounds g (wd ((bb.drop o).take n)) s 4))), (10, .p (.u32 (rounds g (wd ((bb.drop o).take n)) s 5))), (11, .p (.u32 (rounds g (wd ((bb.drop o).take n)) s 6))), (12, .p (.u32 (rounds g (wd ((bb.drop o).take n)) s 7))), (13, .p (.v (.int .i64 ((s : Int)))))]) (fun s => [(3, ⟨90, 1, 64, true, .rows (fun j => .u32 (wd ((bb.drop o).take n) j))⟩)]) [0] [1, 2] (fun s => s < 64) (fun s => 64 - s) rfl (fr0 := [(0, .ptr 1 0)]) (O0 := [(1, ⟨_, _, _, _, .cells _⟩), (2, ⟨_, _, _, _, .bs _⟩)]) rfl rfl ?_ (fun s hPj => ?_)
 ·refine HT.seq ?_
  refine HT.region S_block10_ok (So.q rfl rfl (V.mv (v := .own 2 _ _) rfl ?_))
  refine So.n (lk rfl) (A.call0 [.p (.bs _)] 3 rfl rfl rfl rfl ⟨trivial, trivial⟩ ⟨lk rfl, lk rfl, trivial⟩ _ ⟨.refl _, trivial⟩ trivial (by omega) (Φ := fun _ => True) (fun _ _ => trivial) (.inr ⟨(fun _ _ => trivial), by simp [Hp.scal, OC.scal, PV.scal, BV.scal]⟩) (v := .agg 64 _) rfl (O' := _) rfl (fun h1 => ?_))
  refine So.n (lk rfl) (A.alloc 3 1 ty90 rfl ⟨lk rfl, lk rfl, trivial⟩ (f := fun _ => .u32 0) (fun _ _ => rfl) (So.s (A.stoAg ty90 rfl (n := 64) rfl (by decide) (by intro j hj; trivial) rfl rfl rfl (So.e (HT.seq ?_)))))
  refine HT.drawn S_block10_ok S_block10_det mixed (by kernel_rfl) ?_
  refine Sd.n (lk rfl) (V.mv (v := .ptr 1 0) rfl (Sd.n (lk rfl) (V.ncPtr rfl (Sd.n (lk rfl) (V.ixArrP10 ty86 ty83 rfl rfl rfl (by (simp; done)) rfl (by omega) rfl (Sd.n (lk rfl) (V.ldPtr ty83 rfl rfl rfl (lk rfl) (v := .p (.u32 _)) rfl (Sd.n (lk rfl) (V.mv (v := .ptr 1 0) rfl (Sd.n (lk rfl) (V.ncPtr rfl (Sd.n (lk rfl) (V.ixArrP10 ty86 ty83 rfl rfl rfl (by (simp; done)) rfl (by omega) rfl (Sd.n (lk rfl) (V.ldPtr ty83 rfl rfl rfl (lk rfl) (v := .p (.u32 _)) rfl (Sd.n (lk rfl) (V.mv (v := .ptr 1 0) rfl (Sd.n (lk rfl) (V.ncPtr rfl ?_)))))))))))))))))))
  refine Sd.n (lk rfl) (V.ixArrP10 ty86 ty83 rfl rfl rfl (by (simp; done)) rfl (by omega) rfl (Sd.n (lk rfl) (V.ldPtr ty83 rfl rfl rfl (lk rfl) (v := .p (.u32 _)) rfl (Sd.n (lk rfl) (V.mv (v := .ptr 1 0) rfl (Sd.n (lk rfl) (V.ncPtr rfl (Sd.n (lk rfl) (V.ixArrP10 ty86 ty83 rfl rfl rfl (by (simp; done)) rfl (by omega) rfl (Sd.n (lk rfl) (V.ldPtr ty83 rfl rfl rfl (lk rfl) (v := .p (.u32 _)) rfl (Sd.n (lk rfl) (V.mv (v := .ptr 1 0) rfl (Sd.n (lk rfl) (V.ncPtr rfl (Sd.n (lk rfl) (V.ixArrP10 ty86 ty83 rfl rfl rfl (by (simp; done)) rfl (by omega) rfl (Sd.n (lk rfl) (V.ldPtr ty83 rfl rfl rfl (lk rfl) (v := .p (.u32 _)) rfl ?_)))))))))))))))))))
  refine Sd.n (lk rfl) (V.mv (v := .ptr 1 0) rfl (Sd.n (lk rfl) (V.ncPtr rfl (Sd.n (lk rfl) (V.ixArrP10 ty86 ty83 rfl rfl rfl (by (simp; done)) rfl (by omega) rfl (Sd.n (lk rfl) (V.ldPtr ty83 rfl rfl rfl (lk rfl) (v := .p (.u32 _)) rfl (Sd.n (lk rfl) (V.mv (v := .ptr 1 0) rfl (Sd.n (lk rfl) (V.ncPtr rfl (Sd.n (lk rfl) (V.ixArrP10 ty86 ty83 rfl rfl rfl (by (simp; done)) rfl (by omega) rfl (Sd.n (lk rfl) (V.ldPtr ty83 rfl rfl rfl (lk rfl) (v := .p (.u32 _)) rfl (Sd.n (lk rfl) (V.mv (v := .ptr 1 0) rfl (Sd.n (lk rfl) (V.ncPtr rfl ?_)))))))))))))))))))
  refine Sd.n (lk rfl) (V.ixArrP10 ty86 ty83 rfl rfl rfl (by (simp; done)) rfl (by omega) rfl (Sd.n (lk rfl) (V.ldPtr ty83 rfl rfl rfl (lk rfl) (v := .p (.u32 _)) rfl (Sd.n (lk rfl) (V.as (v := .p (.u32 _)) rfl (Sd.n (lk rfl) (V.as (v := .p (.u32 _)) rfl (Sd.n (lk rfl) (V.as (v := .p (.u32 _)) rfl (Sd.n (lk rfl) (V.as (v := .p (.u32 _)) rfl (Sd.n (lk rfl) (V.as (v := .p (.u32 _)) rfl (Sd.n (lk rfl) (V.as (v := .p (.u32 _)) rfl (Sd.n (lk rfl) (V.as (v := .p (.u32 _)) rfl (Sd.n (lk rfl) (V.as (v := .p (.u32 _)) rfl ?_)))))))))))))))))))
  refine Sd.e (HT.seq (HT.region S_block10_ok (So.q rfl rfl (V.as (v := .p (.v (.int .i64 0))) rfl (So.e (HT.seq (HT.label (HT.seq ?_))))))))
  refine HT.drawn S_block10_ok S_block10_det mixed (by kernel_rfl) ?_
  refine Sd.n (lk rfl) (V.mv (v := .p (.u32 _)) rfl (Sd.n (lk rfl) (V.mv (v := .p (.u32 _)) rfl ?_)))
  refine Sd.n (lk rfl) (V.call [.p (.u32 _), .p (.v (.int .i64 _))] 4 rfl rfl rfl rfl ⟨trivial, trivial, trivial⟩ ⟨lk rfl, lk rfl, trivial⟩ (_, _) ⟨.refl _, .refl _, trivial⟩ trivial (by omega) (Φ := fun _ => True) (fun _ _ => trivial) (.inl ⟨trivial, trivial, trivial⟩) (v := .p (.u32 _)) rfl (fun h2 => ?_))
  refine Sd.n (lk rfl) (V.mv (v := .p (.u32 _)) rfl ?_)
  refine Sd.n (lk rfl) (V.call [.p (.u32 _), .p (.v (.int .i64 _))] 4 rfl rfl rfl rfl ⟨trivial, trivial, trivial⟩ ⟨lk rfl, lk rfl, trivial⟩ (_, _) ⟨.refl _, .refl _, trivial⟩ trivial (by omega) (Φ := fun _ => True) (fun _ _ => trivial) (.inl ⟨trivial, trivial, trivial⟩) (v := .p (.u32 _)) rfl (fun h3 => ?_))
  refine Sd.n (lk rfl) (V.bin (a := .u32 _) (b := .u32 _) (r := .u32 _) rfl rfl rfl trivial (Sd.n (lk rfl) (V.mv (v := .p (.u32 _)) rfl ?_)))
  refine Sd.n (lk rfl) (V.call [.p (.u32 _), .p (.v (.int .i64 _))] 4 rfl rfl rfl rfl ⟨trivial, trivial, trivial⟩ ⟨lk rfl, lk rfl, trivial⟩ (_, _) ⟨.refl _, .refl _, trivial⟩ trivial (by omega) (Φ := fun _ => True) (fun _ _ => trivial) (.inl ⟨trivial, trivial, trivial⟩) (v := .p (.u32 _)) rfl (fun h4 => ?_))
  refine Sd.n (lk rfl) (V.bin (a := .u32 _) (b := .u32 _) (r := .u32 _) rfl rfl rfl trivial (Sd.n (lk rfl) (V.bin (a := .u32 _) (b := .u32 _) (r := .u32 _) rfl rfl rfl trivial (Sd.n (lk rfl) (V.mv (v := .p (.u32 _)) rfl (Sd.n (lk rfl) (V.mv (v := .p (.u32 _)) rfl (Sd.n (lk rfl) (V.mv (v := .p (.u32 _)) rfl (Sd.n (lk rfl) (V.mv (v := .p (.u32 _)) rfl (Sd.n (lk rfl) (V.bin (a := .u32 _) (b := .u32 _) (r := .u32 _) rfl rfl rfl trivial (Sd.n (lk rfl) (V.bin (a := .u32 _) (b := .u32 _) (r := .u32 _) rfl rfl rfl trivial (Sd.n (lk rfl) (V.bin (a := .u32 _) (b := .u32 _) (r := .u32 _) rfl rfl rfl trivial (Sd.n (lk rfl) (V.bin (a := .u32 _) (b := .u32 _) (r := .u32 _) rfl rfl rfl trivial ?_)))))))))))))))))))
  refine Sd.n (lk rfl) (V.mv (v := .p (.v (.int .i64 _))) rfl (Sd.n (lk rfl) (V.ixArr1 ty90 ty83 rfl rfl (lk rfl) rfl (by omega) rfl (Sd.n (lk rfl) (V.ldRp ty83 rfl rfl (lk rfl) (v := .u32 _) rfl (Sd.n (lk rfl) (V.bin (a := .u32 _) (b := .u32 _) (r := .u32 _) rfl rfl rfl trivial (Sd.n (lk rfl) (V.mv (v := .p (.v (.int .i64 _))) rfl (Sd.n (lk rfl) (V.ixArrP10 ty90 ty83 rfl rfl rfl (by (simp; done)) rfl (by omega) rfl (Sd.n (lk rfl) (V.ldPtr ty83 rfl rfl rfl (by (simp; done)) (v := .p (.u32 _)) rfl (Sd.n (lk rfl) (V.bin (a := .u32 _) (b := .u32 _) (r := .u32 _) rfl rfl rfl trivial (Sd.n (lk rfl) (V.as (v := .p (.u32 _)) rfl (Sd.e ?_))))))))))))))))))
  show HT _ _ _ _ _
  refine HT.seq (HT.region S_block10_ok (So.q rfl rfl (V.mv (v := .p (.u32 _)) rfl ?_)))
  refine So.n (lk rfl) (A.call0 [.p (.u32 _), .p (.v (.int .i64 _))] 4 rfl rfl rfl rfl ⟨trivial, trivial, trivial⟩ ⟨lk rfl, lk rfl, trivial⟩ (_, _) ⟨.refl _, .refl _, trivial⟩ trivial (by omega) (Φ := fun _ => True) (fun _ _ => trivial) (.inl rfl) (v := .p (.u32 _)) rfl (O' := _) rfl (fun h5 => ?_))
  refine So.q rfl rfl (V.mv (v := .p (.u32 _)) rfl ?_)
  refine So.n (lk rfl) (A.call0 [.p (.u32 _), .p (.v (.int .i64 _))] 4 rfl rfl rfl rfl ⟨trivial, trivial, trivial⟩ ⟨lk rfl, lk rfl, trivial⟩ (_, _) ⟨.refl _, .refl _, trivial⟩ trivial (by omega) (Φ := fun _ => True) (fun _ _ => trivial) (.inl rfl) (v := .p (.u32 _)) rfl (O' := _) rfl (fun h6 => ?_))
  refine So.q rfl rfl (V.bin (a := .u32 _) (b := .u32 _) (r := .u32 _) rfl rfl rfl trivial (So.q rfl rfl (V.mv (v := .p (.u32 _)) rfl ?_)))
  refine So.n (lk rfl) (A.call0 [.p (.u32 _), .p (.v (.int .i64 _))] 4 rfl rfl rfl rfl ⟨trivial, trivial, trivial⟩ ⟨lk rfl, lk rfl, trivial⟩ (_, _) ⟨.refl _, .refl _, trivial⟩ trivial (by omega) (Φ := fun _ => True) (fun _ _ => trivial) (.inl rfl) (v := .p (.u32 _)) rfl (O' := _) rfl (fun h7 => ?_))
  refine So.q rfl rfl (V.bin (a := .u32 _) (b := .u32 _) (r := .u32 _) rfl rfl rfl trivial (So.q rfl rfl (V.mv (v := .p (.u32 _)) rfl (So.q rfl rfl (V.mv (v := .p (.u32 _)) rfl (So.q rfl rfl (V.bin (a := .u32 _) (b := .u32 _) (r := .u32 _) rfl rfl rfl trivial (So.q rfl rfl (V.mv (v := .p (.u32 _)) rfl (So.q rfl rfl (V.mv (v := .p (.u32 _)) rfl (So.q rfl rfl (V.mv (v := .p (.u32 _)) rfl (So.q rfl rfl (V.bin (a := .u32 _) (b := .u32 _) (r := .u32 _) rfl rfl rfl trivial (So.q rfl rfl (V.bin (a := .u32 _) (b := .u32 _) (r := .u32 _) rfl rfl rfl trivial (So.q rfl rfl (V.bin (a := .u32 _) (b := .u32 _) (r := .u32 _) rfl rfl rfl trivial ?_)))))))))))))))))))
  refine So.q rfl rfl (V.bin (a := .u32 _) (b := .u32 _) (r := .u32 _) rfl rfl rfl trivial (So.q rfl rfl (V.as (v := .p (.u32 _)) rfl (So.e (HT.seq (HT.region S_block10_ok (So.q rfl rfl (V.mv (v := .p (.u32 _)) rfl (So.q rfl rfl (V.mv (v := .p (.u32 _)) rfl (So.q rfl rfl (V.bin (a := .u32 _) (b := .u32 _) (r := .u32 _) rfl rfl rfl trivial (So.q rfl rfl (V.mv (v := .p (.u32 _)) rfl (So.q rfl rfl (V.mv (v := .p (.u32 _)) rfl ?_))))))))))))))))
  refine So.q rfl rfl (V.mv (v := .p (.u32 _)) rfl (So.q rfl rfl (V.mv (v := .p (.u32 _)) rfl (So.q rfl rfl (V.mv (v := .p (.u32 _)) rfl (So.q rfl rfl (V.bin (a := .u32 _) (b := .u32 _) (r := .u32 _) rfl rfl rfl trivial (So.q rfl rfl (V.mv (v := .p (.u32 _)) rfl (So.q rfl rfl (V.mv (v := .p (.u32 _)) rfl (So.q rfl rfl (V.mv (v := .p (.u32 _)) rfl (So.q rfl rfl (V.as (v := .p (.u32 _)) rfl (So.q rfl rfl (V.as (v := .p (.u32 _)) rfl (So.q rfl rfl (V.as (v := .p (.u32 _)) rfl ?_)))))))))))))))))))
  refine So.q rfl rfl (V.as (v := .p (.u32 _)) rfl (So.q rfl rfl (V.as (v := .p (.u32 _)) rfl (So.q rfl rfl (V.as (v := .p (.u32 _)) rfl (So.q rfl rfl (V.as (v := .p (.u32 _)) rfl (So.q rfl rfl (V.as (v := .p (.u32 _)) rfl (So.e (HT.seq (HT.seq (HT.region S_block10_ok (So.q rfl rfl (V.mv (v := .p (.v (.int .i64 _))) rfl ?_)))))))))))))))
  refine So.q rfl rfl (V.addI rfl rfl (by omega) (So.q rfl rfl (V.as (v := .p (.v (.int .i64 _))) rfl (So.e (HT.seq (HT.region S_block10_ok (So.q rfl rfl (V.mv (v := .p (.v (.int .i64 _))) rfl (So.q rfl rfl (V.bin (a := .v (.int .i64 _)) (b := .v (.int .i64 64)) (r := .v (.bool _)) rfl rfl rfl trivial (So.e ?_)))))))))))
  show HT _ _ _ _ _
  refine R.cond rfl rfl (fun h8 => ?_) (fun h8 => ?_)
  ·have h8 := of_decide_eq_true h8
   refine HT.goto ?_
   exact ⟨rfl, 1, by omega, ⟨⟨⟨.refl _, rfl⟩, ⟨le_u32 (by rfl), trivial⟩, ⟨le_u32 (by rfl), trivial⟩, ⟨le_u32 (by rfl), trivial⟩, ⟨le_u32 (by rfl), trivial⟩, ⟨le_u32 (by rfl), trivial⟩, ⟨le_u32 (by rfl), trivial⟩, ⟨le_u32 (by rfl), trivial⟩, ⟨le_u32 (by rfl), trivial⟩, ⟨le_int (by rfl), trivial⟩, ⟨.refl _, rfl⟩, trivial⟩, ⟨⟨_, rfl, .inr (ob_rows (by rfl) (by ((try dsimp only); (intro j hj; rfl)))), trivial⟩, ⟨_, rfl, .inl rfl, ⟨trivial, trivial, trivial, trivial, trivial, trivial, trivial, trivial, rfl, trivial, trivial⟩⟩, ⟨_, rfl, .inl rfl, trivial⟩, trivial⟩⟩⟩
  ·have h8 := of_decide_eq_false h8
   exact absurd (by omega) h8
 ·show HT _ _ _ _ _
  refine HT.seq (HT.skip (HT.seq ?_))
  refine HT.drawn S_block10_ok S_block10_det mixed (by kernel_rfl) ?_
  refine Sd.n (lk rfl) (V.mv (v := .p (.u32 _)) rfl (Sd.n (lk rfl) (V.mv (v := .p (.u32 _)) rfl ?_)))
  refine Sd.n (lk rfl) (V.call [.p (.u32 _), .p (.v (.int .i64 _))] 4 rfl rfl rfl rfl ⟨trivial, trivial, trivial⟩ ⟨lk rfl, lk rfl, trivial⟩ (_, _) ⟨.refl _, .refl _, trivial⟩ trivial (by omega) (Φ := fun _ => True) (fun _ _ => trivial) (.inl ⟨trivial, trivial, trivial⟩) (v := .p (.u32 _)) rfl (fun h9 => ?_))
  refine Sd.n (lk rfl) (V.mv (v := .p (.u32 _)) rfl ?_)
  refine Sd.n (lk rfl) (V.call [.p (.u32 _), .p (.v (.int .i64 _))] 4 rfl rfl rfl rfl ⟨trivial, trivial, trivial⟩ ⟨lk rfl, lk rfl, trivial⟩ (_, _) ⟨.refl _, .refl _, trivial⟩ trivial (by omega) (Φ := fun _ => True) (fun _ _ => trivial) (.inl ⟨trivial, trivial, trivial⟩) (v := .p (.u32 _)) rfl (fun h10 => ?_))
  refine Sd.n (lk rfl) (V.bin (a := .u32 _) (b := .u32 _) (r := .u32 _) rfl rfl rfl trivial (Sd.n (lk rfl) (V.mv (v := .p (.u32 _)) rfl ?_)))
  refine Sd.n (lk rfl) (V.call [.p (.u32 _), .p (.v (.int .i64 _))] 4 rfl rfl rfl rfl ⟨trivial, trivial, trivial⟩ ⟨lk rfl, lk rfl, trivial⟩ (_, _) ⟨.refl _, .refl _, trivial⟩ trivial (by omega) (Φ := fun _ => True) (fun _ _ => trivial) (.inl ⟨trivial, trivial, trivial⟩) (v := .p (.u32 _)) rfl (fun h11 => ?_))
  refine Sd.n (lk rfl) (V.bin (a := .u32 _) (b := .u32 _) (r := .u32 _) rfl rfl rfl trivial (Sd.n (lk rfl) (V.bin (a := .u32 _) (b := .u32 _) (r := .u32 _) rfl rfl rfl trivial (Sd.n (lk rfl) (V.mv (v := .p (.u32 _)) rfl (Sd.n (lk rfl) (V.mv (v := .p (.u32 _)) rfl (Sd.n (lk rfl) (V.mv (v := .p (.u32 _)) rfl (Sd.n (lk rfl) (V.mv (v := .p (.u32 _)) rfl (Sd.n (lk rfl) (V.bin (a := .u32 _) (b := .u32 _) (r := .u32 _) rfl rfl rfl trivial (Sd.n (lk rfl) (V.bin (a := .u32 _) (b := .u32 _) (r := .u32 _) rfl rfl rfl trivial (Sd.n (lk rfl) (V.bin (a := .u32 _) (b := .u32 _) (r := .u32 _) rfl rfl rfl trivial (Sd.n (lk rfl) (V.bin (a := .u32 _) (b := .u32 _) (r := .u32 _) rfl rfl rfl trivial ?_)))))))))))))))))))
  refine Sd.n (lk rfl) (V.mv (v := .p (.v (.int .i64 ((_ : Nat) : Int)))) rfl (Sd.n (lk rfl) (V.ixArr1 ty90 ty83 rfl rfl (lk rfl) rfl (by omega) (Int.toNat_natCast _) (Sd.n (lk rfl) (V.ldRp ty83 rfl rfl (lk rfl) (v := .u32 _) rfl (Sd.n (lk rfl) (V.bin (a := .u32 _) (b := .u32 _) (r := .u32 _) rfl rfl rfl trivial (Sd.n (lk rfl) (V.mv (v := .p (.v (.int .i64 ((_ : Nat) : Int)))) rfl (Sd.n (lk rfl) (V.ixArrP10 ty90 ty83 rfl rfl rfl (by (simp; done)) rfl (by omega) (Int.toNat_natCast _) (Sd.n (lk rfl) (V.ldPtr ty83 rfl rfl rfl (by omega) (v := .p (.u32 _)) rfl (Sd.n (lk rfl) (V.bin (a := .u32 _) (b := .u32 _) (r := .u32 _) rfl rfl rfl trivial (Sd.n (lk rfl) (V.as (v := .p (.u32 _)) rfl (Sd.e ?_))))))))))))))))))
  show HT _ _ _ _ _
  refine HT.seq (HT.region S_block10_ok (So.q rfl rfl (V.mv (v := .p (.u32 _)) rfl ?_)))
  refine So.n (lk rfl) (A.call0 [.p (.u32 _), .p (.v (.int .i64 _))] 4 rfl rfl rfl rfl ⟨trivial, trivial, trivial⟩ ⟨lk rfl, lk rfl, trivial⟩ (_, _) ⟨.refl _, .refl _, trivial⟩ trivial (by omega) (Φ := fun _ => True) (fun _ _ => trivial) (.inl rfl) (v := .p (.u32 _)) rfl (O' := _) rfl (fun h12 => ?_))
  refine So.q rfl rfl (V.mv (v := .p (.u32 _)) rfl ?_)
  refine So.n (lk rfl) (A.call0 [.p (.u32 _), .p (.v (.int .i64 _))] 4 rfl rfl rfl rfl ⟨trivial, trivial, trivial⟩ ⟨lk rfl, lk rfl, trivial⟩ (_, _) ⟨.refl _, .refl _, trivial⟩ trivial (by omega) (Φ := fun _ => True) (fun _ _ => trivial) (.inl rfl) (v := .p (.u32 _)) rfl (O' := _) rfl (fun h13 => ?_))
  refine So.q rfl rfl (V.bin (a := .u32 _) (b := .u32 _) (r := .u32 _) rfl rfl rfl trivial (So.q rfl rfl (V.mv (v := .p (.u32 _)) rfl ?_)))
  refine So.n (lk rfl) (A.call0 [.p (.u32 _), .p (.v (.int .i64 _))] 4 rfl rfl rfl rfl ⟨trivial, trivial, trivial⟩ ⟨lk rfl, lk rfl, trivial⟩ (_, _) ⟨.refl _, .refl _, trivial⟩ trivial (by omega) (Φ := fun _ => True) (fun _ _ => trivial) (.inl rfl) (v := .p (.u32 _)) rfl (O' := _) rfl (fun h14 => ?_))
  refine So.q rfl rfl (V.bin (a := .u32 _) (b := .u32 _) (r := .u32 _) rfl rfl rfl trivial (So.q rfl rfl (V.mv (v := .p (.u32 _)) rfl (So.q rfl rfl (V.mv (v := .p (.u32 _)) rfl (So.q rfl rfl (V.bin (a := .u32 _) (b := .u32 _) (r := .u32 _) rfl rfl rfl trivial (So.q rfl rfl (V.mv (v := .p (.u32 _)) rfl (So.q rfl rfl (V.mv (v := .p (.u32 _)) rfl (So.q rfl rfl (V.mv (v := .p (.u32 _)) rfl (So.q rfl rfl (V.bin (a := .u32 _) (b := .u32 _) (r := .u32 _) rfl rfl rfl trivial (So.q rfl rfl (V.bin (a := .u32 _) (b := .u32 _) (r := .u32 _) rfl rfl rfl trivial (So.q rfl rfl (V.bin (a := .u32 _) (b := .u32 _) (r := .u32 _) rfl rfl rfl trivial ?_)))))))))))))))))))
  refine So.q rfl rfl (V.bin (a := .u32 _) (b := .u32 _) (r := .u32 _) rfl rfl rfl trivial (So.q rfl rfl (V.as (v := .p (.u32 _)) rfl (So.e (HT.seq (HT.region S_block10_ok (So.q rfl rfl (V.mv (v := .p (.u32 _)) rfl (So.q rfl rfl (V.mv (v := .p (.u32 _)) rfl (So.q rfl rfl (V.bin (a := .u32 _) (b := .u32 _) (r := .u32 _) rfl rfl rfl trivial (So.q rfl rfl (V.mv (v := .p (.u32 _)) rfl (So.q rfl rfl (V.mv (v := .p (.u32 _)) rfl ?_))))))))))))))))
  refine So.q rfl rfl (V.mv (v := .p (.u32 _)) rfl (So.q rfl rfl (V.mv (v := .p (.u32 _)) rfl (So.q rfl rfl (V.mv (v := .p (.u32 _)) rfl (So.q rfl rfl (V.bin (a := .u32 _) (b := .u32 _) (r := .u32 _) rfl rfl rfl trivial (So.q rfl rfl (V.mv (v := .p (.u32 _)) rfl (So.q rfl rfl (V.mv (v := .p (.u32 _)) rfl (So.q rfl rfl (V.mv (v := .p (.u32 _)) rfl (So.q rfl rfl (V.as (v := .p (.u32 _)) rfl (So.q rfl rfl (V.as (v := .p (.u32 _)) rfl (So.q rfl rfl (V.as (v := .p (.u32 _)) rfl ?_)))))))))))))))))))
  refine So.q rfl rfl (V.as (v := .p (.u32 _)) rfl (So.q rfl rfl (V.as (v := .p (.u32 _)) rfl (So.q rfl rfl (V.as (v := .p (.u32 _)) rfl (So.q rfl rfl (V.as (v := .p (.u32 _)) rfl (So.q rfl rfl (V.as (v := .p (.u32 _)) rfl (So.e (HT.seq (HT.seq (HT.region S_block10_ok (So.q rfl rfl (V.mv (v := .p (.v (.int .i64 ((_ : Nat) : Int)))) rfl ?_)))))))))))))))
  refine So.q rfl rfl (V.addI rfl rfl (by omega) (So.q rfl rfl (V.as (v := .p (.v (.int .i64 _))) rfl (So.e (HT.seq (HT.region S_block10_ok (So.q rfl rfl (V.mv (v := .p (.v (.int .i64 _))) rfl (So.q rfl rfl (V.bin (a := .v (.int .i64 _)) (b := .v (.int .i64 64)) (r := .v (.bool _)) rfl rfl rfl trivial (So.e ?_)))))))))))
  show HT _ _ _ _ _
  refine R.cond rfl rfl (fun h15 => ?_) (fun h15 => ?_)
  ·have h15 := of_decide_eq_true h15
   refine HT.goto ?_
   exact ⟨rfl, s + 1, by omega, by omega, ⟨⟨⟨.refl _, rfl⟩, ⟨le_u32 (by rfl), trivial⟩, ⟨le_u32 (by rfl), trivial⟩, ⟨le_u32 (by rfl), trivial⟩, ⟨le_u32 (by rfl), trivial⟩, ⟨le_u32 (by rfl), trivial⟩, ⟨le_u32 (by rfl), trivial⟩, ⟨le_u32 (by rfl), trivial⟩, ⟨le_u32 (by rfl), trivial⟩, ⟨le_int (by rfl), trivial⟩, ⟨.refl _, rfl⟩, trivial⟩, ⟨⟨_, rfl, .inr (ob_rows (by rfl) (by ((try dsimp only); (intro j hj; rfl)))), trivial⟩, ⟨_, rfl, .inl rfl, ⟨trivial, trivial, trivial, trivial, trivial, trivial, trivial, trivial, rfl, trivial, trivial⟩⟩, ⟨_, rfl, .inl rfl, trivial⟩, trivial⟩⟩⟩
  ·have h15 := of_decide_eq_false h15
   refine HT.skip (HT.seq (HT.region S_block10_ok ?_))
   have hs : s + 1 = 64 := by omega
   refine So.q rfl rfl (V.mv (v := .p (.u32 _)) rfl (So.q rfl rfl (V.mv (v := .p (.u32 _)) rfl (So.q rfl rfl (V.mv (v := .p (.u32 _)) rfl (So.q rfl rfl (V.mv (v := .p (.u32 _)) rfl (So.q rfl rfl (V.mv (v := .p (.u32 _)) rfl (So.q rfl rfl (V.mv (v := .p (.u32 _)) rfl (So.q rfl rfl (V.mv (v := .p (.u32 _)) rfl (So.q rfl rfl (V.mv (v := .p (.u32 _)) rfl (So.n (lk rfl) (A.bldA ty84 rfl rfl ⟨by exact trivial, by exact trivial, by exact trivial, by exact trivial, by exact trivial, by exact trivial, by exact trivial, by exact trivial, trivial⟩ rfl (f := fun j => .u32 (rounds g (wd ((bb.drop o).take n)) (s + 1) j)) (by exact allP_spec (P := fun j => _ = _) ⟨⟨⟨⟨⟨⟨⟨⟨trivial, rfl⟩, rfl⟩, rfl⟩, rfl⟩, rfl⟩, rfl⟩, rfl⟩, rfl⟩) (So.q rfl rfl (V.mv (v := .p (.v (.int .i64 0))) rfl ?_)))))))))))))))))))
   refine So.e (HT.block ?_)
   refine R.loop (σ := Nat) (fun r => [(121, .p (.v (.int .i64 ((r : Int)))))]) (fun r => [(1, ⟨89, 1, 10, true, .cells [.p (.u32 (if 0 < r then comp g ((bb.drop o).take n) 0 else g 0)), .p (.u32 (if 1 < r then comp g ((bb.drop o).take n) 1 else g 1)), .p (.u32 (if 2 < r then comp g ((bb.drop o).take n) 2 else g 2)), .p (.u32 (if 3 < r then comp g ((bb.drop o).take n) 3 else g 3)), .p (.u32 (if 4 < r then comp g ((bb.drop o).take n) 4 else g 4)), .p (.u32 (if 5 < r then comp g ((bb.drop o).take n) 5 else g 5)), .p (.u32 (if 6 < r then comp g ((bb.drop o).take n) 6 else g 6)), .p (.u32 (if 7 < r then comp g ((bb.drop o).take n) 7 else g 7)), .own 2 o (n), .p (.u64 m)]⟩)]) [0, 120] [2, 3] (fun r => r ≤ 8) (fun r => 8 - r) (0) (fr0 := [(0, .ptr 1 0), (120, .agg 8 _)]) (O0 := [(2, ⟨_, _, _, _, .bs _⟩), (3, ⟨_, _, _, _, .rows _⟩)]) rfl rfl (by omega) ⟨⟨⟨le_int (by rfl), trivial⟩, ⟨.refl _, rfl⟩, ⟨.refl _, trivial⟩, trivial⟩, ⟨⟨_, rfl, .inl (by rfl), ⟨trivial, trivial, trivial, trivial, trivial, trivial, trivial, trivial, rfl, trivial, trivial⟩⟩, ⟨_, rfl, .inl rfl, trivial⟩, ⟨_, rfl, .inl rfl, trivial⟩, trivial⟩⟩ (fun r hP0 => ?_)
   refine HT.seq (HT.region S_block10_ok (So.q rfl rfl (V.bin (a := (.v (.int .i64 ((_ : Nat) : Int)))) (b := .v (.int .i64 8)) (r := .v (.bool _)) rfl rfl rfl trivial (So.e (HT.seq ?_)))))
   refine R.cond rfl rfl (fun h16 => ?_) (fun h16 => ?_)
   ·have h16 := of_decide_eq_true h16
    refine HT.skip (HT.seq (HT.block (HT.seq (HT.region S_block10_ok (So.q rfl rfl (V.mv (v := .p (.v (.int .i64 ((_ : Nat) : Int)))) rfl (So.q rfl rfl (V.ixV1 ty84 ty83 rfl rfl rfl rfl (by omega) (lk rfl) (Int.toNat_natCast _) (v := .u32 _) rfl (So.q rfl rfl (V.as (v := .p (.v (.int .i64 ((_ : Nat) : Int)))) rfl (So.q rfl rfl (V.as (v := .p (.u32 _)) rfl (So.e ?_)))))))))))))
    show HT _ _ _ _ _
    refine HT.tail S_block10_ok mixed 9 (by kernel_rfl) (by kernel_rfl) ?_
    refine So.q rfl rfl (V.mv (v := .ptr 1 0) rfl (So.q rfl rfl (V.mv (v := .p (.v (.int .i64 ((_ : Nat) : Int)))) rfl (So.q rfl rfl (V.ncPtr rfl (So.q rfl rfl (V.ixArrP10 (mi := r) ty86 ty83 rfl rfl rfl (by (simp; done)) rfl (by omega) (by omega) (So.q rfl rfl (V.ldPtr ty83 rfl rfl rfl (by (simp; omega)) (v := .p (.u32 _)) (c8_get (g := fun j => .p (.u32 (if j < r then comp g ((bb.drop o).take n) j else g j))) (r := [.own 2 o n, .p (.u64 m)]) (by omega)) (So.q rfl rfl (V.mv (v := .p (.u32 _)) rfl (So.q rfl rfl (V.bin (a := .u32 _) (b := .u32 _) (r := .u32 _) rfl rfl rfl trivial (So.q rfl rfl (V.ncPtr rfl (So.q rfl rfl (V.ixArrP10 (mi := r) ty86 ty83 rfl rfl rfl (by (simp; done)) rfl (by omega) (by omega) (So.s (A.sto ty83 rfl rfl rfl (v := .p (.u32 _)) rfl trivial rfl (by omega) (c8_put (g := fun j => .p (.u32 (if j < r then comp g ((bb.drop o).take n) j else g j))) (g' := fun j => .p (.u32 (if j < r + 1 then comp g ((bb.drop o).take n) j else g j))) (r := [.own 2 o n, .p (.u64 m)]) (by omega) (by intro j hj; by_cases h9 : j = r <;> simp [h9, comp, hs] <;> (by_cases h8 : j < r <;> simp [h8] <;> omega))) rfl ?_)))))))))))))))))))
    refine So.e (HT.region S_block10_ok (So.q rfl rfl (V.addI rfl rfl (by omega) (So.q rfl rfl (V.mv (v := .p (.v (.int .i64 _))) rfl (So.e ?_))))))
    refine ⟨r + 1, by omega, by omega, ⟨⟨⟨le_int (by rfl), trivial⟩, ⟨.refl _, rfl⟩, ⟨.refl _, trivial⟩, trivial⟩, ⟨⟨_, rfl, .inl (by rfl), ⟨trivial, trivial, trivial, trivial, trivial, trivial, trivial, trivial, rfl, trivial, trivial⟩⟩, ⟨_, rfl, .inl rfl, trivial⟩, ⟨_, rfl, .inl rfl, trivial⟩, trivial⟩⟩⟩
   ·have h16 := of_decide_eq_false h16
    refine HT.exit ?_
    exact ret_ok (sg [(1, 1), (2, 2)]) h rfl rfl rfl ⟨⟨trivial, trivial, trivial, trivial, trivial, trivial, trivial, trivial, rfl, trivial, trivial⟩, trivial, trivial⟩ trivial rfl ⟨trivial, ⟨⟨_, rfl, .inl (by ((try dsimp only); ((replace hP0 : r = 8 := (by omega); subst hP0; rfl)))), ⟨trivial, trivial, trivial, trivial, trivial, trivial, trivial, trivial, rfl, trivial, trivial⟩⟩, ⟨_, rfl, .inl (ob_bs (by rfl) (by rfl)), trivial⟩, trivial⟩⟩
def writeSp : Sp := ⟨[1], mkE (α := (List UInt8) × (List UInt8) × (List UInt8)) (fun (tx, p, j) => [.ptr 1 0, .p (.bs p)]) (fun (tx, p, j) => [(1, ⟨89, 1, 10, true, .cells [.p (.u32 (hst tx 0)), .p (.u32 (hst tx 1)), .p (.u32 (hst tx 2)), .p (.u32 (hst tx 3)), .p (.u32 (hst tx 4)), .p (.u32 (hst tx 5)), .p (.u32 (hst tx 6)), .p (.u32 (hst tx 7)), .own 2 ((j).length) ((rst tx).length), .p (.u64 (UInt64.ofNat (tx).length))]⟩), (2, ⟨5, 1, (j ++ rst tx).length, true, .bs (j ++ rst tx)⟩)]) (fun (tx, p, j) => p.length ≤ 1099511627776 ∧ tx.length ≤ 1099511627776 ∧ j.length ≤ 1099511627776) (fun (tx, p, j) => []) (fun (tx, p, j) => [(1, ⟨89, 1, 10, true, .cells [.p (.u32 (hst (tx ++ p) 0)), .p (.u32 (hst (tx ++ p) 1)), .p (.u32 (hst (tx ++ p) 2)), .p (.u32 (hst (tx ++ p) 3)), .p (.u32 (hst (tx ++ p) 4)), .p (.u32 (hst (tx ++ p) 5)), .p (.u32 (hst (tx ++ p) 6)), .p (.u32 (hst (tx ++ p) 7)), .own 2 ((jn tx p).length) ((rst (tx ++ p)).length), .p (.u64 (UInt64.ofNat (tx ++ p).length))]⟩), (2, ⟨5, 1, (jn tx p ++ rst (tx ++ p)).length, true, .bs (jn tx p ++ rst (tx ++ p))⟩)])⟩
def S_write : FuncId → Option Sp := fun f => if f = 59 then some block10Sp else none
theorem S_write_ok : ∀ f s, S_write f = some s → FOK Tryd.prog gl f s := fun f s h => by
 unfold S_write at h
 split at h
 ·rename_i e; cases h; subst e; exact block10_ok
 cases h
theorem S_write_det : ∀ f s, S_write f = some s → SpDet s.sp := fun f s h => by
 unfold S_write at h
 split at h
 ·cases h; exact mkE_det _ _ _ _ _
 cases h
set_option maxHeartbeats 1000000 in
set_option maxRecDepth 20000 in
theorem write_ok : FOK Tryd.prog gl 55 writeSp := by
 refine FOK.ofE (tyOf_ok Tryd.prog) (slots := []) (nt := 56) Tryd.func55 rfl rfl rfl rfl (by decide) 2 (fun ⟨_, _, _⟩ => rfl) (by decide) (fun ⟨_, _, _⟩ => ⟨rfl, trivial, trivial⟩) ?_
 rintro ⟨tx, p, j⟩ kk hlen hpre h
 have hl1 : (p).length ≤ 9223372036854775807 := hlen.2.1
 replace hpre : p.length ≤ 1099511627776 ∧ tx.length ≤ 1099511627776 ∧ j.length ≤ 1099511627776 := hpre
 show HT (cx Tryd.prog 56 (tyOf Tryd.prog) gl [1]) _ [(0, .ptr 1 0), (1, .p (.bs p))] [(1, ⟨89, 1, 10, true, .cells [.p (.u32 (hst tx 0)), .p (.u32 (hst tx 1)), .p (.u32 (hst tx 2)), .p (.u32 (hst tx 3)), .p (.u32 (hst tx 4)), .p (.u32 (hst tx 5)), .p (.u32 (hst tx 6)), .p (.u32 (hst tx 7)), .own 2 ((j).length) ((rst tx).length), .p (.u64 (UInt64.ofNat (tx).length))]⟩), (2, ⟨5, 1, (j ++ rst tx).length, true, .bs (j ++ rst tx)⟩)] _
 have hrl := rst_len tx
 have hXl : (rst tx ++ p).length = (rst tx).length + p.length := List.length_append
 refine HT.seq (HT.region S_write_ok (So.q rfl rfl (V.mv (v := .ptr 1 0) rfl (So.q rfl rfl (V.ncPtr rfl (So.q rfl rfl (V.faPtr ty89 rfl ty82 (lk rfl) rfl rfl (lk rfl) (So.q rfl rfl (V.ldPtr ty82 rfl rfl rfl (lk rfl) (v := .p (.u64 _)) rfl (So.q rfl rfl (V.mv (v := .p (.bs _)) rfl (So.q rfl rfl (V.len ty22 (v := .p (.bs _)) rfl rfl (So.q rfl rfl (V.cvN ty82 ty3 (a := .v (.int .i64 _)) (r := .u64 _) rfl rfl (So.q rfl rfl (V.bin (a := .u64 _) (b := .u64 _) (r := .u64 _) rfl rfl rfl trivial ?_)))))))))))))))))
 refine So.q rfl rfl (V.ncPtr rfl (So.q rfl rfl (V.faPtr ty89 rfl ty82 (lk rfl) rfl rfl (lk rfl) (So.s (A.sto ty82 rfl rfl rfl (v := .p (.u64 _)) rfl trivial rfl (lk rfl) rfl rfl (So.e (HT.seq ?_)))))))
 refine HT.planS S_write_ok S_write_det mixed [] [⟨[0, 1, 2, 3, 4, 5, 6, 7, 8, 9, 10, 11, 12, 13, 14, 15, 16], 17, [0]⟩, ⟨[0, 18, 19], 20, []⟩] (by kernel_rfl) ?_
 refine Pl.lk ?_
 refine Si.n rfl (lk rfl) (V.mv (v := .ptr 1 0) rfl (Si.n rfl (lk rfl) (V.mv (v := .ptr 1 0) rfl (Si.n rfl (lk rfl) (V.ncPtr rfl (Si.n rfl (lk rfl) (V.faPtr ty89 rfl ty22 (lk rfl) rfl rfl (lk rfl) (Si.n rfl (lk rfl) (V.ldPtr ty22 rfl rfl rfl (lk rfl) (v := .own 2 _ _) rfl (Si.n rfl (lk rfl) (V.mv (v := .ptr 1 0) rfl (Si.n rfl (lk rfl) (V.ncPtr rfl (Si.n rfl (lk rfl) (V.faPtr ty89 rfl ty22 (lk rfl) rfl rfl (lk rfl) (Si.n rfl (lk rfl) (V.ldPtr ty22 rfl rfl rfl (lk rfl) (v := .own 2 _ _) rfl (Si.n rfl (lk rfl) (V.len ty22 (v := .own 2 _ _) rfl rfl ?_)))))))))))))))))))
 refine Si.n rfl (lk rfl) (V.mv (v := .ptr 1 0) rfl (Si.n rfl (lk rfl) (V.ncPtr rfl (Si.n rfl (lk rfl) (V.faPtr ty89 rfl ty22 (lk rfl) rfl rfl (lk rfl) (Si.n rfl (lk rfl) (V.ldPtr ty22 rfl rfl rfl (lk rfl) (v := .own 2 _ _) rfl (Si.n rfl (lk rfl) (V.len ty22 (v := .own 2 _ _) rfl rfl (Si.n rfl (lk rfl) (V.cutOwnH ty22 ty5 rfl rfl rfl rfl (by omega) (.inr ⟨_, _, rfl, rfl, rfl, by omega⟩) rfl (Si.n rfl (lk rfl) (V.mv (v := .p (.bs _)) rfl (Si.e ?_))))))))))))))
 refine ⟨flEq_nil, fun ff => ?_⟩
 refine Lo.n rfl (lk rfl) (A.apOwn ty22 ty5 rfl rfl rfl rfl (u := .p (.bs _)) rfl rfl (l' := (rst tx ++ p)) (by simp) (mn := (rst tx ++ p).length) (by omega) (by omega) rfl rfl rfl ?_)
 refine ⟨_, fun ff => Fr.kill 2 ff, ap1d, rfl, (FG.kill 2 (flP_cons rfl flP_nil)), ?_⟩
 show planA _ _ _ _ _ [(0, .ptr 1 0)] _ _ _
 refine Pl.l0 ?_
 refine Si.n rfl (lk rfl) (V.mv (v := .ptr 1 0) rfl (Si.n rfl (lk rfl) (V.ncPtr rfl (Si.n rfl (lk rfl) (V.faPtr ty89 rfl ty22 (lk rfl) rfl rfl (lk rfl) (Si.e ?_))))))
 refine ⟨(flEq_cons rfl flEq_nil), ?_⟩
 refine Lo.s rfl (A.sto ty22 rfl rfl rfl (v := .own 2 0 _) rfl trivial rfl (lk rfl) rfl rfl ?_)
 refine Pl.e ?_
 refine Si.e ?_
 refine ⟨flEq_nil, ?_⟩
 show HT _ _ _ _ _
 refine HT.block ?_
 refine R.loop (σ := Nat) (fun s => []) (fun s => [(1, ⟨89, 1, 10, true, .cells [.p (.u32 (stN (tx ++ p) (tx.length / 64 + s) 0)), .p (.u32 (stN (tx ++ p) (tx.length / 64 + s) 1)), .p (.u32 (stN (tx ++ p) (tx.length / 64 + s) 2)), .p (.u32 (stN (tx ++ p) (tx.length / 64 + s) 3)), .p (.u32 (stN (tx ++ p) (tx.length / 64 + s) 4)), .p (.u32 (stN (tx ++ p) (tx.length / 64 + s) 5)), .p (.u32 (stN (tx ++ p) (tx.length / 64 + s) 6)), .p (.u32 (stN (tx ++ p) (tx.length / 64 + s) 7)), .own 2 (64 * s) ((rst tx ++ p).length - 64 * s), .p (.u64 (UInt64.ofNat (tx ++ p).length))]⟩)]) [0] [2] (fun s => 64 * s ≤ (rst tx ++ p).length) (fun s => (rst tx ++ p).length - 64 * s) (0) (fr0 := [(0, .ptr 1 0)]) (O0 := [(2, ⟨_, _, _, _, .bs _⟩)]) rfl rfl (by omega) ⟨⟨⟨.refl _, rfl⟩, trivial⟩, ⟨⟨_, rfl, .inl (by ((try dsimp only); (simp only [← wr_0, u64_app]; rfl))), ⟨trivial, trivial, trivial, trivial, trivial, trivial, trivial, trivial, rfl, trivial, trivial⟩⟩, ⟨_, rfl, .inl rfl, trivial⟩, trivial⟩⟩ (fun s hP0 => ?_)
 refine HT.seq (HT.seq (HT.region S_write_ok (So.q rfl rfl (V.mv (v := .ptr 1 0) rfl (So.q rfl rfl (V.ncPtr rfl (So.q rfl rfl (V.faPtr ty89 rfl ty22 (lk rfl) rfl rfl (lk rfl) (So.q rfl rfl (V.ldPtr ty22 rfl rfl rfl (lk rfl) (v := .own 2 _ _) rfl (So.q rfl rfl (V.len ty22 (v := .own 2 _ _) rfl rfl (So.q rfl rfl (V.bin (a := .v (.int .i64 _)) (b := .v (.int .i64 64)) (r := .v (.bool _)) rfl rfl rfl trivial (So.e ?_)))))))))))))))
 show HT _ _ _ _ _
 refine R.cond rfl rfl (fun h1 => ?_) (fun h1 => ?_)
 ·have h1 := of_decide_eq_true h1
  refine HT.skip (HT.seq (HT.block ?_))
  refine HT.tail S_write_ok mixed 7 (by kernel_rfl) (by kernel_rfl) ?_
  refine So.q rfl rfl (V.mv (v := .ptr 1 0) rfl (So.q rfl rfl (V.ncPtr rfl (So.q rfl rfl (V.faPtr ty89 rfl ty86 (lk rfl) rfl rfl (lk rfl) (So.q rfl rfl (V.mv (v := .ptr 1 0) rfl (So.q rfl rfl (V.ncPtr rfl (So.q rfl rfl (V.faPtr ty89 rfl ty22 (lk rfl) rfl rfl (lk rfl) (So.q rfl rfl (V.ldPtr ty22 rfl rfl rfl (lk rfl) (v := .own 2 _ _) rfl ?_)))))))))))))
  refine So.n (lk rfl) (A.call [.ptr 1 _, .own 2 _ _] [(1, ⟨_, _, _, _, .cells [.p (.u32 _), .p (.u32 _), .p (.u32 _), .p (.u32 _), .p (.u32 _), .p (.u32 _), .p (.u32 _), .p (.u32 _), .own 2 _ _, .p (.u64 _)]⟩), (2, ⟨_, _, _, _, .bs _⟩)] (sg [(1, 1), (2, 2)]) 3 rfl rfl rfl rfl ⟨rfl, rfl, trivial⟩ rfl ⟨⟨trivial, trivial, trivial, trivial, trivial, trivial, trivial, trivial, rfl, trivial, trivial⟩, trivial, trivial⟩ ⟨rfl, rfl, trivial⟩ ⟨lk rfl, trivial⟩ rfl (stN (tx ++ p) (tx.length / 64 + s), rst tx ++ p, 64 * s, (rst tx ++ p).length - 64 * s, _) ⟨.refl _, .refl _, trivial⟩ ⟨⟨_, rfl, .inl rfl, ⟨trivial, trivial, trivial, trivial, trivial, trivial, trivial, trivial, rfl, trivial, trivial⟩⟩, ⟨_, rfl, .inl rfl, trivial⟩, trivial⟩ (by omega) (Φ := fun _ => True) (fun _ _ => trivial) ⟨⟨_, _, rfl, rfl, rfl, Nat.le_refl _⟩, ⟨_, _, rfl, rfl, rfl, Nat.le_refl _⟩, trivial⟩ (.inl rfl) rfl (v := .tup 0 _) rfl (O' := (1, ⟨_, _, _, _, .cells _⟩) :: (2, ⟨_, _, _, _, .bs _⟩) :: _) rfl (fun h2 => ?_))
  refine So.e (HT.region S_write_ok (So.q rfl rfl (V.mv (v := .ptr 1 0) rfl (So.q rfl rfl (V.mv (v := .ptr 1 0) rfl (So.q rfl rfl (V.ncPtr rfl (So.q rfl rfl (V.faPtr ty89 rfl ty22 (lk rfl) rfl rfl (lk rfl) (So.q rfl rfl (V.ldPtr ty22 rfl rfl rfl (lk rfl) (v := .own 2 _ _) rfl (So.q rfl rfl (V.cutOwnL ty22 ty5 (s := 1) rfl rfl rfl rfl rfl (by omega) rfl (So.q rfl rfl (V.ncPtr rfl (So.q rfl rfl (V.faPtr ty89 rfl ty22 (lk rfl) rfl rfl (lk rfl) ?_)))))))))))))))))
  refine So.s (A.sto ty22 rfl rfl rfl (v := .own 2 _ _) rfl trivial rfl (lk rfl) rfl rfl (So.e ?_))
  refine ⟨s + 1, by omega, by omega, ⟨⟨⟨.refl _, rfl⟩, trivial⟩, ⟨⟨_, rfl, .inl (by simp only [wr_1 (show 64 ≤ (rst tx ++ p).length - 64 * s by omega)]; rw [show 64 * (s + 1) = 64 * s + 64 by omega, show (rst tx ++ p).length - (64 * s + 64) = (rst tx ++ p).length - 64 * s - 64 by omega]; rfl), ⟨trivial, trivial, trivial, trivial, trivial, trivial, trivial, trivial, rfl, trivial, trivial⟩⟩, ⟨_, rfl, .inl rfl, trivial⟩, trivial⟩⟩⟩
 ·have h1 := of_decide_eq_false h1
  refine HT.exit ?_
  exact ret_ok (sg [(1, 1), (2, 2)]) h rfl rfl rfl ⟨⟨trivial, trivial, trivial, trivial, trivial, trivial, trivial, trivial, rfl, trivial, trivial⟩, trivial, trivial⟩ trivial rfl ⟨trivial, ⟨⟨_, rfl, .inl (by (simp only [wr_2 (l := tx) (p := p) hP0 (by omega), jn_len, rst_app, List.length_drop, show (rst tx ++ p).length / 64 = s by omega]; rfl)), ⟨trivial, trivial, trivial, trivial, trivial, trivial, trivial, trivial, rfl, trivial, trivial⟩⟩, ⟨_, rfl, .inl (ob_bs (by (rw [jn_rst]; done)) (by (exact (jn_rst tx p).symm))), trivial⟩, trivial⟩⟩
def newSp : Sp := ⟨[], mkE (α := Unit) (fun _ => []) (fun _ => []) (fun _ => True) (fun _ => [.ptr 1 0]) (fun _ => [(1, ⟨89, 1, 10, true, .cells [.p (.u32 (hst nl 0)), .p (.u32 (hst nl 1)), .p (.u32 (hst nl 2)), .p (.u32 (hst nl 3)), .p (.u32 (hst nl 4)), .p (.u32 (hst nl 5)), .p (.u32 (hst nl 6)), .p (.u32 (hst nl 7)), .own 2 ((nl).length) ((rst nl).length), .p (.u64 (UInt64.ofNat (nl).length))]⟩), (2, ⟨5, 1, (nl ++ rst nl).length, true, .bs (nl ++ rst nl)⟩)])⟩
def S_new : FuncId → Option Sp := fun f => if f = 58 then some beginSp else none
theorem S_new_ok : ∀ f s, S_new f = some s → FOK Tryd.prog gl f s := fun f s h => by
 unfold S_new at h
 split at h
 ·rename_i e; cases h; subst e; exact begin_ok
 cases h
set_option maxHeartbeats 1000000 in
set_option maxRecDepth 20000 in
theorem new_ok : FOK Tryd.prog gl 54 newSp := by
 refine FOK.ofE (tyOf_ok Tryd.prog) (slots := [0]) (nt := 4) Tryd.func54 rfl rfl rfl rfl (by decide) 0 (fun _ => rfl) (by decide) (fun _ => trivial) ?_
 rintro _ kk hlen hpre h
 replace hpre : True := hpre
 show HT (cx Tryd.prog 4 (tyOf Tryd.prog) gl []) _ [] [] _
 refine HT.seq (HT.region S_new_ok (So.q rfl rfl (V.as (v := _) rfl (So.e (HT.seq (HT.region S_new_ok ?_))))))
 refine So.n (lk rfl) (A.call0 [] 1 rfl rfl rfl rfl trivial trivial () trivial trivial (by trivial) (Φ := fun _ => True) (fun _ _ => trivial) (.inl rfl) (v := .agg 8 _) rfl (O' := _) rfl (fun h1 => ?_))
 refine So.n (lk rfl) (A.bldS ty89 rfl rfl ⟨by (intro j hj; trivial), trivial⟩ rfl (f := fun j => if j < 8 then .u32 (h0 j) else if j = 8 then .v (.slice none 0 0) else .u64 0) (by exact allP_spec (P := fun j => _ = _) ⟨⟨⟨⟨⟨⟨⟨⟨⟨⟨trivial, rfl⟩, rfl⟩, rfl⟩, rfl⟩, rfl⟩, rfl⟩, rfl⟩, rfl⟩, rfl⟩, rfl⟩) (So.n (lk rfl) (A.boxAg 1 1 (n := 10) rfl (by intro j hj; (match j, hj with | 0, _ => (trivial) | 1, _ => (trivial) | 2, _ => (trivial) | 3, _ => (trivial) | 4, _ => (trivial) | 5, _ => (trivial) | 6, _ => (trivial) | 7, _ => (trivial) | 8, _ => (trivial) | 9, _ => (trivial))) rfl trivial (So.q rfl rfl (V.as (v := .ptr 1 0) rfl (So.e ?_))))))
 show HT _ _ _ _ _
 refine HT.phanC 1 2 5 1 (.bs []) (c' := .cells [.p (.u32 (h0 0)), .p (.u32 (h0 1)), .p (.u32 (h0 2)), .p (.u32 (h0 3)), .p (.u32 (h0 4)), .p (.u32 (h0 5)), .p (.u32 (h0 6)), .p (.u32 (h0 7)), .own 2 0 0, .p (.u64 0)]) rfl rfl rfl ⟨rfl, rfl⟩ rfl (allP_spec (P := fun j => _ ∨ _) ⟨⟨⟨⟨⟨⟨⟨⟨⟨⟨trivial, .inl rfl⟩, .inl rfl⟩, .inl rfl⟩, .inl rfl⟩, .inl rfl⟩, .inl rfl⟩, .inl rfl⟩, .inl rfl⟩, .inr ⟨rfl, rfl⟩⟩, .inl rfl⟩) rfl ?_
 refine HT.ret ?_
 exact ret_ok (sg [(1, 1), (2, 2)]) h rfl rfl rfl ⟨⟨trivial, trivial, trivial, trivial, trivial, trivial, trivial, trivial, rfl, trivial, trivial⟩, trivial, trivial⟩ ⟨rfl, trivial⟩ rfl ⟨⟨⟨.refl _, rfl⟩, trivial⟩, ⟨⟨_, rfl, .inl (by rfl), ⟨trivial, trivial, trivial, trivial, trivial, trivial, trivial, trivial, rfl, trivial, trivial⟩⟩, ⟨_, rfl, .inl (ob_bs (by rfl) (by rfl)), trivial⟩, trivial⟩⟩
def blockSp : Sp := ⟨[1], mkE (α := (Nat → UInt32) × (List UInt8)) (fun (g, b) => [.ptr 1 0, .p (.bs b)]) (fun (g, b) => [(1, ⟨86, 1, 8, true, .rows (fun j => .u32 (g j))⟩)]) (fun (g, b) => 64 ≤ b.length) (fun (g, b) => []) (fun (g, b) => [(1, ⟨86, 1, 8, true, .rows (fun j => .u32 (comp g b j))⟩)])⟩
def S_block : FuncId → Option Sp := fun f => if f = 62 then some wordsSp else if f = 63 then some rightSp else none
theorem S_block_ok : ∀ f s, S_block f = some s → FOK Tryd.prog gl f s := fun f s h => by
 unfold S_block at h
 split at h
 ·rename_i e; cases h; subst e; exact words_ok
 split at h
 ·rename_i e; cases h; subst e; exact right_ok
 cases h
theorem S_block_det : ∀ f s, S_block f = some s → SpDet s.sp := fun f s h => by
 unfold S_block at h
 split at h
 ·cases h; exact mkE_det _ _ _ _ _
 split at h
 ·cases h; exact mkE_det _ _ _ _ _
 cases h
set_option maxHeartbeats 1000000 in
set_option maxRecDepth 20000 in
theorem block_ok : FOK Tryd.prog gl 59 blockSp := by
 refine FOK.ofE (tyOf_ok Tryd.prog) (slots := []) (nt := 135) Tryd.func59 rfl rfl rfl rfl (by decide) 2 (fun ⟨_, _⟩ => rfl) (by decide) (fun ⟨_, _⟩ => ⟨rfl, trivial, trivial⟩) ?_
 rintro ⟨g, b⟩ kk hlen hpre h
 have hl1 : (b).length ≤ 9223372036854775807 := hlen.2.1
 replace hpre : 64 ≤ b.length := hpre
 show HT (cx Tryd.prog 135 (tyOf Tryd.prog) gl [1]) _ [(0, .ptr 1 0), (1, .p (.bs b))] [(1, ⟨86, 1, 8, true, .rows (fun j => .u32 (g j))⟩)] _
 refine R.jump (σ := Nat) 0 (fun s => [(4, .ptr 2 0), (5, .p (.u32 (rounds g (wd b) s 0))), (6, .p (.u32 (rounds g (wd b) s 1))), (7, .p (.u32 (rounds g (wd b) s 2))), (8, .p (.u32 (rounds g (wd b) s 3))), (9, .p (.u32 (rounds g (wd b) s 4))), (10, .p (.u32 (rounds g (wd b) s 5))), (11, .p (.u32 (rounds g (wd b) s 6))), (12, .p (.u32 (rounds g (wd b) s 7))), (13, .p (.v (.int .i64 ((s : Int)))))]) (fun s => [(2, ⟨90, 1, 64, true, .rows (fun j => .u32 (wd b j))⟩)]) [0] [1] (fun s => s < 64) (fun s => 64 - s) rfl (fr0 := [(0, .ptr 1 0)]) (O0 := [(1, ⟨_, _, _, _, .rows _⟩)]) rfl rfl ?_ (fun s hPj => ?_)
 ·refine HT.seq ?_
  refine HT.region S_block_ok (So.q rfl rfl (V.mv (v := .p (.bs _)) rfl ?_))
  refine So.n (lk rfl) (A.call0 [.p (.bs _)] 2 rfl rfl rfl rfl ⟨trivial, trivial⟩ ⟨lk rfl, trivial⟩ _ ⟨.refl _, trivial⟩ trivial (by omega) (Φ := fun _ => True) (fun _ _ => trivial) (.inl rfl) (v := .agg 64 _) rfl (O' := _) rfl (fun h1 => ?_))
  refine So.n (lk rfl) (A.alloc 2 1 ty90 rfl ⟨lk rfl, trivial⟩ (f := fun _ => .u32 0) (fun _ _ => rfl) (So.s (A.stoAg ty90 rfl (n := 64) rfl (by decide) (by intro j hj; trivial) rfl rfl rfl (So.e (HT.seq ?_)))))
  refine HT.drawn S_block_ok S_block_det mixed (by kernel_rfl) ?_
  refine Sd.n (lk rfl) (V.mv (v := .ptr 1 0) rfl (Sd.n (lk rfl) (V.ncPtr rfl (Sd.n (lk rfl) (V.ixArrP10 ty86 ty83 rfl rfl rfl (by (simp; done)) rfl (by omega) rfl (Sd.n (lk rfl) (V.ldPtr ty83 rfl rfl rfl (by (simp; done)) (v := .p (.u32 _)) rfl (Sd.n (lk rfl) (V.mv (v := .ptr 1 0) rfl (Sd.n (lk rfl) (V.ncPtr rfl (Sd.n (lk rfl) (V.ixArrP10 ty86 ty83 rfl rfl rfl (by (simp; done)) rfl (by omega) rfl (Sd.n (lk rfl) (V.ldPtr ty83 rfl rfl rfl (by (simp; done)) (v := .p (.u32 _)) rfl (Sd.n (lk rfl) (V.mv (v := .ptr 1 0) rfl (Sd.n (lk rfl) (V.ncPtr rfl ?_)))))))))))))))))))
  refine Sd.n (lk rfl) (V.ixArrP10 ty86 ty83 rfl rfl rfl (by (simp; done)) rfl (by omega) rfl (Sd.n (lk rfl) (V.ldPtr ty83 rfl rfl rfl (by (simp; done)) (v := .p (.u32 _)) rfl (Sd.n (lk rfl) (V.mv (v := .ptr 1 0) rfl (Sd.n (lk rfl) (V.ncPtr rfl (Sd.n (lk rfl) (V.ixArrP10 ty86 ty83 rfl rfl rfl (by (simp; done)) rfl (by omega) rfl (Sd.n (lk rfl) (V.ldPtr ty83 rfl rfl rfl (by (simp; done)) (v := .p (.u32 _)) rfl (Sd.n (lk rfl) (V.mv (v := .ptr 1 0) rfl (Sd.n (lk rfl) (V.ncPtr rfl (Sd.n (lk rfl) (V.ixArrP10 ty86 ty83 rfl rfl rfl (by (simp; done)) rfl (by omega) rfl (Sd.n (lk rfl) (V.ldPtr ty83 rfl rfl rfl (by (simp; done)) (v := .p (.u32 _)) rfl ?_)))))))))))))))))))
  refine Sd.n (lk rfl) (V.mv (v := .ptr 1 0) rfl (Sd.n (lk rfl) (V.ncPtr rfl (Sd.n (lk rfl) (V.ixArrP10 ty86 ty83 rfl rfl rfl (by (simp; done)) rfl (by omega) rfl (Sd.n (lk rfl) (V.ldPtr ty83 rfl rfl rfl (by (simp; done)) (v := .p (.u32 _)) rfl (Sd.n (lk rfl) (V.mv (v := .ptr 1 0) rfl (Sd.n (lk rfl) (V.ncPtr rfl (Sd.n (lk rfl) (V.ixArrP10 ty86 ty83 rfl rfl rfl (by (simp; done)) rfl (by omega) rfl (Sd.n (lk rfl) (V.ldPtr ty83 rfl rfl rfl (by (simp; done)) (v := .p (.u32 _)) rfl (Sd.n (lk rfl) (V.mv (v := .ptr 1 0) rfl (Sd.n (lk rfl) (V.ncPtr rfl ?_)))))))))))))))))))
  refine Sd.n (lk rfl) (V.ixArrP10 ty86 ty83 rfl rfl rfl (by (simp; done)) rfl (by omega) rfl (Sd.n (lk rfl) (V.ldPtr ty83 rfl rfl rfl (by (simp; done)) (v := .p (.u32 _)) rfl (Sd.n (lk rfl) (V.as (v := .p (.u32 _)) rfl (Sd.n (lk rfl) (V.as (v := .p (.u32 _)) rfl (Sd.n (lk rfl) (V.as (v := .p (.u32 _)) rfl (Sd.n (lk rfl) (V.as (v := .p (.u32 _)) rfl (Sd.n (lk rfl) (V.as (v := .p (.u32 _)) rfl (Sd.n (lk rfl) (V.as (v := .p (.u32 _)) rfl (Sd.n (lk rfl) (V.as (v := .p (.u32 _)) rfl (Sd.n (lk rfl) (V.as (v := .p (.u32 _)) rfl ?_)))))))))))))))))))
  refine Sd.e (HT.seq (HT.region S_block_ok (So.q rfl rfl (V.as (v := .p (.v (.int .i64 0))) rfl (So.e (HT.seq (HT.label (HT.seq ?_))))))))
  refine HT.drawn S_block_ok S_block_det mixed (by kernel_rfl) ?_
  refine Sd.n (lk rfl) (V.mv (v := .p (.u32 _)) rfl (Sd.n (lk rfl) (V.mv (v := .p (.u32 _)) rfl ?_)))
  refine Sd.n (lk rfl) (V.call [.p (.u32 _), .p (.v (.int .i64 _))] 3 rfl rfl rfl rfl ⟨trivial, trivial, trivial⟩ ⟨lk rfl, trivial⟩ (_, _) ⟨.refl _, .refl _, trivial⟩ trivial (by omega) (Φ := fun _ => True) (fun _ _ => trivial) (.inl ⟨trivial, trivial, trivial⟩) (v := .p (.u32 _)) rfl (fun h2 => ?_))
  refine Sd.n (lk rfl) (V.mv (v := .p (.u32 _)) rfl ?_)
  refine Sd.n (lk rfl) (V.call [.p (.u32 _), .p (.v (.int .i64 _))] 3 rfl rfl rfl rfl ⟨trivial, trivial, trivial⟩ ⟨lk rfl, trivial⟩ (_, _) ⟨.refl _, .refl _, trivial⟩ trivial (by omega) (Φ := fun _ => True) (fun _ _ => trivial) (.inl ⟨trivial, trivial, trivial⟩) (v := .p (.u32 _)) rfl (fun h3 => ?_))
  refine Sd.n (lk rfl) (V.bin (a := .u32 _) (b := .u32 _) (r := .u32 _) rfl rfl rfl trivial (Sd.n (lk rfl) (V.mv (v := .p (.u32 _)) rfl ?_)))
  refine Sd.n (lk rfl) (V.call [.p (.u32 _), .p (.v (.int .i64 _))] 3 rfl rfl rfl rfl ⟨trivial, trivial, trivial⟩ ⟨lk rfl, trivial⟩ (_, _) ⟨.refl _, .refl _, trivial⟩ trivial (by omega) (Φ := fun _ => True) (fun _ _ => trivial) (.inl ⟨trivial, trivial, trivial⟩) (v := .p (.u32 _)) rfl (fun h4 => ?_))
  refine Sd.n (lk rfl) (V.bin (a := .u32 _) (b := .u32 _) (r := .u32 _) rfl rfl rfl trivial (Sd.n (lk rfl) (V.bin (a := .u32 _) (b := .u32 _) (r := .u32 _) rfl rfl rfl trivial (Sd.n (lk rfl) (V.mv (v := .p (.u32 _)) rfl (Sd.n (lk rfl) (V.mv (v := .p (.u32 _)) rfl (Sd.n (lk rfl) (V.mv (v := .p (.u32 _)) rfl (Sd.n (lk rfl) (V.mv (v := .p (.u32 _)) rfl (Sd.n (lk rfl) (V.bin (a := .u32 _) (b := .u32 _) (r := .u32 _) rfl rfl rfl trivial (Sd.n (lk rfl) (V.bin (a := .u32 _) (b := .u32 _) (r := .u32 _) rfl rfl rfl trivial (Sd.n (lk rfl) (V.bin (a := .u32 _) (b := .u32 _) (r := .u32 _) rfl rfl rfl trivial (Sd.n (lk rfl) (V.bin (a := .u32 _) (b := .u32 _) (r := .u32 _) rfl rfl rfl trivial ?_)))))))))))))))))))
  refine Sd.n (lk rfl) (V.mv (v := .p (.v (.int .i64 _))) rfl (Sd.n (lk rfl) (V.ixArr1 ty90 ty83 rfl rfl (lk rfl) rfl (by omega) rfl (Sd.n (lk rfl) (V.ldRp ty83 rfl rfl (lk rfl) (v := .u32 _) rfl (Sd.n (lk rfl) (V.bin (a := .u32 _) (b := .u32 _) (r := .u32 _) rfl rfl rfl trivial (Sd.n (lk rfl) (V.mv (v := .p (.v (.int .i64 _))) rfl (Sd.n (lk rfl) (V.ixArrP10 ty90 ty83 rfl rfl rfl (by (simp; done)) rfl (by omega) rfl (Sd.n (lk rfl) (V.ldPtr ty83 rfl rfl rfl (by (simp; done)) (v := .p (.u32 _)) rfl (Sd.n (lk rfl) (V.bin (a := .u32 _) (b := .u32 _) (r := .u32 _) rfl rfl rfl trivial (Sd.n (lk rfl) (V.as (v := .p (.u32 _)) rfl (Sd.e ?_))))))))))))))))))
  show HT _ _ _ _ _
  refine HT.seq (HT.region S_block_ok (So.q rfl rfl (V.mv (v := .p (.u32 _)) rfl ?_)))
  refine So.n (lk rfl) (A.call0 [.p (.u32 _), .p (.v (.int .i64 _))] 3 rfl rfl rfl rfl ⟨trivial, trivial, trivial⟩ ⟨lk rfl, trivial⟩ (_, _) ⟨.refl _, .refl _, trivial⟩ trivial (by omega) (Φ := fun _ => True) (fun _ _ => trivial) (.inl rfl) (v := .p (.u32 _)) rfl (O' := _) rfl (fun h5 => ?_))
  refine So.q rfl rfl (V.mv (v := .p (.u32 _)) rfl ?_)
  refine So.n (lk rfl) (A.call0 [.p (.u32 _), .p (.v (.int .i64 _))] 3 rfl rfl rfl rfl ⟨trivial, trivial, trivial⟩ ⟨lk rfl, trivial⟩ (_, _) ⟨.refl _, .refl _, trivial⟩ trivial (by omega) (Φ := fun _ => True) (fun _ _ => trivial) (.inl rfl) (v := .p (.u32 _)) rfl (O' := _) rfl (fun h6 => ?_))
  refine So.q rfl rfl (V.bin (a := .u32 _) (b := .u32 _) (r := .u32 _) rfl rfl rfl trivial (So.q rfl rfl (V.mv (v := .p (.u32 _)) rfl ?_)))
  refine So.n (lk rfl) (A.call0 [.p (.u32 _), .p (.v (.int .i64 _))] 3 rfl rfl rfl rfl ⟨trivial, trivial, trivial⟩ ⟨lk rfl, trivial⟩ (_, _) ⟨.refl _, .refl _, trivial⟩ trivial (by omega) (Φ := fun _ => True) (fun _ _ => trivial) (.inl rfl) (v := .p (.u32 _)) rfl (O' := _) rfl (fun h7 => ?_))
  refine So.q rfl rfl (V.bin (a := .u32 _) (b := .u32 _) (r := .u32 _) rfl rfl rfl trivial (So.q rfl rfl (V.mv (v := .p (.u32 _)) rfl (So.q rfl rfl (V.mv (v := .p (.u32 _)) rfl (So.q rfl rfl (V.bin (a := .u32 _) (b := .u32 _) (r := .u32 _) rfl rfl rfl trivial (So.q rfl rfl (V.mv (v := .p (.u32 _)) rfl (So.q rfl rfl (V.mv (v := .p (.u32 _)) rfl (So.q rfl rfl (V.mv (v := .p (.u32 _)) rfl (So.q rfl rfl (V.bin (a := .u32 _) (b := .u32 _) (r := .u32 _) rfl rfl rfl trivial (So.q rfl rfl (V.bin (a := .u32 _) (b := .u32 _) (r := .u32 _) rfl rfl rfl trivial (So.q rfl rfl (V.bin (a := .u32 _) (b := .u32 _) (r := .u32 _) rfl rfl rfl trivial ?_)))))))))))))))))))
  refine So.q rfl rfl (V.bin (a := .u32 _) (b := .u32 _) (r := .u32 _) rfl rfl rfl trivial (So.q rfl rfl (V.as (v := .p (.u32 _)) rfl (So.e (HT.seq (HT.region S_block_ok (So.q rfl rfl (V.mv (v := .p (.u32 _)) rfl (So.q rfl rfl (V.mv (v := .p (.u32 _)) rfl (So.q rfl rfl (V.bin (a := .u32 _) (b := .u32 _) (r := .u32 _) rfl rfl rfl trivial (So.q rfl rfl (V.mv (v := .p (.u32 _)) rfl (So.q rfl rfl (V.mv (v := .p (.u32 _)) rfl ?_))))))))))))))))
  refine So.q rfl rfl (V.mv (v := .p (.u32 _)) rfl (So.q rfl rfl (V.mv (v := .p (.u32 _)) rfl (So.q rfl rfl (V.mv (v := .p (.u32 _)) rfl (So.q rfl rfl (V.bin (a := .u32 _) (b := .u32 _) (r := .u32 _) rfl rfl rfl trivial (So.q rfl rfl (V.mv (v := .p (.u32 _)) rfl (So.q rfl rfl (V.mv (v := .p (.u32 _)) rfl (So.q rfl rfl (V.mv (v := .p (.u32 _)) rfl (So.q rfl rfl (V.as (v := .p (.u32 _)) rfl (So.q rfl rfl (V.as (v := .p (.u32 _)) rfl (So.q rfl rfl (V.as (v := .p (.u32 _)) rfl ?_)))))))))))))))))))
  refine So.q rfl rfl (V.as (v := .p (.u32 _)) rfl (So.q rfl rfl (V.as (v := .p (.u32 _)) rfl (So.q rfl rfl (V.as (v := .p (.u32 _)) rfl (So.q rfl rfl (V.as (v := .p (.u32 _)) rfl (So.q rfl rfl (V.as (v := .p (.u32 _)) rfl (So.e (HT.seq (HT.seq (HT.region S_block_ok (So.q rfl rfl (V.mv (v := .p (.v (.int .i64 _))) rfl ?_)))))))))))))))
  refine So.q rfl rfl (V.addI rfl rfl (by omega) (So.q rfl rfl (V.as (v := .p (.v (.int .i64 _))) rfl (So.e (HT.seq (HT.region S_block_ok (So.q rfl rfl (V.mv (v := .p (.v (.int .i64 _))) rfl (So.q rfl rfl (V.bin (a := .v (.int .i64 _)) (b := .v (.int .i64 64)) (r := .v (.bool _)) rfl rfl rfl trivial (So.e ?_)))))))))))
  show HT _ _ _ _ _
  refine R.cond rfl rfl (fun h8 => ?_) (fun h8 => ?_)
  ·have h8 := of_decide_eq_true h8
   refine HT.goto ?_
   exact ⟨rfl, 1, by omega, ⟨⟨⟨.refl _, rfl⟩, ⟨le_u32 (by rfl), trivial⟩, ⟨le_u32 (by rfl), trivial⟩, ⟨le_u32 (by rfl), trivial⟩, ⟨le_u32 (by rfl), trivial⟩, ⟨le_u32 (by rfl), trivial⟩, ⟨le_u32 (by rfl), trivial⟩, ⟨le_u32 (by rfl), trivial⟩, ⟨le_u32 (by rfl), trivial⟩, ⟨le_int (by rfl), trivial⟩, ⟨.refl _, rfl⟩, trivial⟩, ⟨⟨_, rfl, .inr (ob_rows (by rfl) (by ((try dsimp only); (intro j hj; rfl)))), trivial⟩, ⟨_, rfl, .inl rfl, trivial⟩, trivial⟩⟩⟩
  ·have h8 := of_decide_eq_false h8
   exact absurd (by omega) h8
 ·show HT _ _ _ _ _
  refine HT.seq (HT.skip (HT.seq ?_))
  refine HT.drawn S_block_ok S_block_det mixed (by kernel_rfl) ?_
  refine Sd.n (lk rfl) (V.mv (v := .p (.u32 _)) rfl (Sd.n (lk rfl) (V.mv (v := .p (.u32 _)) rfl ?_)))
  refine Sd.n (lk rfl) (V.call [.p (.u32 _), .p (.v (.int .i64 _))] 3 rfl rfl rfl rfl ⟨trivial, trivial, trivial⟩ ⟨lk rfl, trivial⟩ (_, _) ⟨.refl _, .refl _, trivial⟩ trivial (by omega) (Φ := fun _ => True) (fun _ _ => trivial) (.inl ⟨trivial, trivial, trivial⟩) (v := .p (.u32 _)) rfl (fun h9 => ?_))
  refine Sd.n (lk rfl) (V.mv (v := .p (.u32 _)) rfl ?_)
  refine Sd.n (lk rfl) (V.call [.p (.u32 _), .p (.v (.int .i64 _))] 3 rfl rfl rfl rfl ⟨trivial, trivial, trivial⟩ ⟨lk rfl, trivial⟩ (_, _) ⟨.refl _, .refl _, trivial⟩ trivial (by omega) (Φ := fun _ => True) (fun _ _ => trivial) (.inl ⟨trivial, trivial, trivial⟩) (v := .p (.u32 _)) rfl (fun h10 => ?_))
  refine Sd.n (lk rfl) (V.bin (a := .u32 _) (b := .u32 _) (r := .u32 _) rfl rfl rfl trivial (Sd.n (lk rfl) (V.mv (v := .p (.u32 _)) rfl ?_)))
  refine Sd.n (lk rfl) (V.call [.p (.u32 _), .p (.v (.int .i64 _))] 3 rfl rfl rfl rfl ⟨trivial, trivial, trivial⟩ ⟨lk rfl, trivial⟩ (_, _) ⟨.refl _, .refl _, trivial⟩ trivial (by omega) (Φ := fun _ => True) (fun _ _ => trivial) (.inl ⟨trivial, trivial, trivial⟩) (v := .p (.u32 _)) rfl (fun h11 => ?_))
  refine Sd.n (lk rfl) (V.bin (a := .u32 _) (b := .u32 _) (r := .u32 _) rfl rfl rfl trivial (Sd.n (lk rfl) (V.bin (a := .u32 _) (b := .u32 _) (r := .u32 _) rfl rfl rfl trivial (Sd.n (lk rfl) (V.mv (v := .p (.u32 _)) rfl (Sd.n (lk rfl) (V.mv (v := .p (.u32 _)) rfl (Sd.n (lk rfl) (V.mv (v := .p (.u32 _)) rfl (Sd.n (lk rfl) (V.mv (v := .p (.u32 _)) rfl (Sd.n (lk rfl) (V.bin (a := .u32 _) (b := .u32 _) (r := .u32 _) rfl rfl rfl trivial (Sd.n (lk rfl) (V.bin (a := .u32 _) (b := .u32 _) (r := .u32 _) rfl rfl rfl trivial (Sd.n (lk rfl) (V.bin (a := .u32 _) (b := .u32 _) (r := .u32 _) rfl rfl rfl trivial (Sd.n (lk rfl) (V.bin (a := .u32 _) (b := .u32 _) (r := .u32 _) rfl rfl rfl trivial ?_)))))))))))))))))))
  refine Sd.n (lk rfl) (V.mv (v := .p (.v (.int .i64 ((_ : Nat) : Int)))) rfl (Sd.n (lk rfl) (V.ixArr1 ty90 ty83 rfl rfl (lk rfl) rfl (by omega) (Int.toNat_natCast _) (Sd.n (lk rfl) (V.ldRp ty83 rfl rfl (lk rfl) (v := .u32 _) rfl (Sd.n (lk rfl) (V.bin (a := .u32 _) (b := .u32 _) (r := .u32 _) rfl rfl rfl trivial (Sd.n (lk rfl) (V.mv (v := .p (.v (.int .i64 ((_ : Nat) : Int)))) rfl (Sd.n (lk rfl) (V.ixArrP10 ty90 ty83 rfl rfl rfl (by (simp; done)) rfl (by omega) (Int.toNat_natCast _) (Sd.n (lk rfl) (V.ldPtr ty83 rfl rfl rfl (by omega) (v := .p (.u32 _)) rfl (Sd.n (lk rfl) (V.bin (a := .u32 _) (b := .u32 _) (r := .u32 _) rfl rfl rfl trivial (Sd.n (lk rfl) (V.as (v := .p (.u32 _)) rfl (Sd.e ?_))))))))))))))))))
  show HT _ _ _ _ _
  refine HT.seq (HT.region S_block_ok (So.q rfl rfl (V.mv (v := .p (.u32 _)) rfl ?_)))
  refine So.n (lk rfl) (A.call0 [.p (.u32 _), .p (.v (.int .i64 _))] 3 rfl rfl rfl rfl ⟨trivial, trivial, trivial⟩ ⟨lk rfl, trivial⟩ (_, _) ⟨.refl _, .refl _, trivial⟩ trivial (by omega) (Φ := fun _ => True) (fun _ _ => trivial) (.inl rfl) (v := .p (.u32 _)) rfl (O' := _) rfl (fun h12 => ?_))
  refine So.q rfl rfl (V.mv (v := .p (.u32 _)) rfl ?_)
  refine So.n (lk rfl) (A.call0 [.p (.u32 _), .p (.v (.int .i64 _))] 3 rfl rfl rfl rfl ⟨trivial, trivial, trivial⟩ ⟨lk rfl, trivial⟩ (_, _) ⟨.refl _, .refl _, trivial⟩ trivial (by omega) (Φ := fun _ => True) (fun _ _ => trivial) (.inl rfl) (v := .p (.u32 _)) rfl (O' := _) rfl (fun h13 => ?_))
  refine So.q rfl rfl (V.bin (a := .u32 _) (b := .u32 _) (r := .u32 _) rfl rfl rfl trivial (So.q rfl rfl (V.mv (v := .p (.u32 _)) rfl ?_)))
  refine So.n (lk rfl) (A.call0 [.p (.u32 _), .p (.v (.int .i64 _))] 3 rfl rfl rfl rfl ⟨trivial, trivial, trivial⟩ ⟨lk rfl, trivial⟩ (_, _) ⟨.refl _, .refl _, trivial⟩ trivial (by omega) (Φ := fun _ => True) (fun _ _ => trivial) (.inl rfl) (v := .p (.u32 _)) rfl (O' := _) rfl (fun h14 => ?_))
  refine So.q rfl rfl (V.bin (a := .u32 _) (b := .u32 _) (r := .u32 _) rfl rfl rfl trivial (So.q rfl rfl (V.mv (v := .p (.u32 _)) rfl (So.q rfl rfl (V.mv (v := .p (.u32 _)) rfl (So.q rfl rfl (V.bin (a := .u32 _) (b := .u32 _) (r := .u32 _) rfl rfl rfl trivial (So.q rfl rfl (V.mv (v := .p (.u32 _)) rfl (So.q rfl rfl (V.mv (v := .p (.u32 _)) rfl (So.q rfl rfl (V.mv (v := .p (.u32 _)) rfl (So.q rfl rfl (V.bin (a := .u32 _) (b := .u32 _) (r := .u32 _) rfl rfl rfl trivial (So.q rfl rfl (V.bin (a := .u32 _) (b := .u32 _) (r := .u32 _) rfl rfl rfl trivial (So.q rfl rfl (V.bin (a := .u32 _) (b := .u32 _) (r := .u32 _) rfl rfl rfl trivial ?_)))))))))))))))))))
  refine So.q rfl rfl (V.bin (a := .u32 _) (b := .u32 _) (r := .u32 _) rfl rfl rfl trivial (So.q rfl rfl (V.as (v := .p (.u32 _)) rfl (So.e (HT.seq (HT.region S_block_ok (So.q rfl rfl (V.mv (v := .p (.u32 _)) rfl (So.q rfl rfl (V.mv (v := .p (.u32 _)) rfl (So.q rfl rfl (V.bin (a := .u32 _) (b := .u32 _) (r := .u32 _) rfl rfl rfl trivial (So.q rfl rfl (V.mv (v := .p (.u32 _)) rfl (So.q rfl rfl (V.mv (v := .p (.u32 _)) rfl ?_))))))))))))))))
  refine So.q rfl rfl (V.mv (v := .p (.u32 _)) rfl (So.q rfl rfl (V.mv (v := .p (.u32 _)) rfl (So.q rfl rfl (V.mv (v := .p (.u32 _)) rfl (So.q rfl rfl (V.bin (a := .u32 _) (b := .u32 _) (r := .u32 _) rfl rfl rfl trivial (So.q rfl rfl (V.mv (v := .p (.u32 _)) rfl (So.q rfl rfl (V.mv (v := .p (.u32 _)) rfl (So.q rfl rfl (V.mv (v := .p (.u32 _)) rfl (So.q rfl rfl (V.as (v := .p (.u32 _)) rfl (So.q rfl rfl (V.as (v := .p (.u32 _)) rfl (So.q rfl rfl (V.as (v := .p (.u32 _)) rfl ?_)))))))))))))))))))
  refine So.q rfl rfl (V.as (v := .p (.u32 _)) rfl (So.q rfl rfl (V.as (v := .p (.u32 _)) rfl (So.q rfl rfl (V.as (v := .p (.u32 _)) rfl (So.q rfl rfl (V.as (v := .p (.u32 _)) rfl (So.q rfl rfl (V.as (v := .p (.u32 _)) rfl (So.e (HT.seq (HT.seq (HT.region S_block_ok (So.q rfl rfl (V.mv (v := .p (.v (.int .i64 ((_ : Nat) : Int)))) rfl ?_)))))))))))))))
  refine So.q rfl rfl (V.addI rfl rfl (by omega) (So.q rfl rfl (V.as (v := .p (.v (.int .i64 _))) rfl (So.e (HT.seq (HT.region S_block_ok (So.q rfl rfl (V.mv (v := .p (.v (.int .i64 _))) rfl (So.q rfl rfl (V.bin (a := .v (.int .i64 _)) (b := .v (.int .i64 64)) (r := .v (.bool _)) rfl rfl rfl trivial (So.e ?_)))))))))))
  show HT _ _ _ _ _
  refine R.cond rfl rfl (fun h15 => ?_) (fun h15 => ?_)
  ·have h15 := of_decide_eq_true h15
   refine HT.goto ?_
   exact ⟨rfl, s + 1, by omega, by omega, ⟨⟨⟨.refl _, rfl⟩, ⟨le_u32 (by rfl), trivial⟩, ⟨le_u32 (by rfl), trivial⟩, ⟨le_u32 (by rfl), trivial⟩, ⟨le_u32 (by rfl), trivial⟩, ⟨le_u32 (by rfl), trivial⟩, ⟨le_u32 (by rfl), trivial⟩, ⟨le_u32 (by rfl), trivial⟩, ⟨le_u32 (by rfl), trivial⟩, ⟨le_int (by rfl), trivial⟩, ⟨.refl _, rfl⟩, trivial⟩, ⟨⟨_, rfl, .inr (ob_rows (by rfl) (by ((try dsimp only); (intro j hj; rfl)))), trivial⟩, ⟨_, rfl, .inl rfl, trivial⟩, trivial⟩⟩⟩
  ·have h15 := of_decide_eq_false h15
   refine HT.skip (HT.seq (HT.region S_block_ok ?_))
   have hs : s + 1 = 64 := by omega
   refine So.q rfl rfl (V.mv (v := .p (.u32 _)) rfl (So.q rfl rfl (V.mv (v := .p (.u32 _)) rfl (So.q rfl rfl (V.mv (v := .p (.u32 _)) rfl (So.q rfl rfl (V.mv (v := .p (.u32 _)) rfl (So.q rfl rfl (V.mv (v := .p (.u32 _)) rfl (So.q rfl rfl (V.mv (v := .p (.u32 _)) rfl (So.q rfl rfl (V.mv (v := .p (.u32 _)) rfl (So.q rfl rfl (V.mv (v := .p (.u32 _)) rfl (So.n (lk rfl) (A.bldA ty84 rfl rfl ⟨by exact trivial, by exact trivial, by exact trivial, by exact trivial, by exact trivial, by exact trivial, by exact trivial, by exact trivial, trivial⟩ rfl (f := fun j => .u32 (rounds g (wd b) (s + 1) j)) (by exact allP_spec (P := fun j => _ = _) ⟨⟨⟨⟨⟨⟨⟨⟨trivial, rfl⟩, rfl⟩, rfl⟩, rfl⟩, rfl⟩, rfl⟩, rfl⟩, rfl⟩) (So.q rfl rfl (V.mv (v := .p (.v (.int .i64 0))) rfl ?_)))))))))))))))))))
   refine So.e (HT.block ?_)
   refine R.loop (σ := Nat) (fun r => [(121, .p (.v (.int .i64 ((r : Int)))))]) (fun r => [(1, ⟨86, 1, 8, true, .rows (fun j => .u32 (if j < r then comp g b j else g j))⟩)]) [0, 120] [2] (fun r => r ≤ 8) (fun r => 8 - r) (0) (fr0 := [(0, .ptr 1 0), (120, .agg 8 _)]) (O0 := [(2, ⟨_, _, _, _, .rows _⟩)]) rfl rfl (by omega) ⟨⟨⟨le_int (by rfl), trivial⟩, ⟨.refl _, rfl⟩, ⟨.refl _, trivial⟩, trivial⟩, ⟨⟨_, rfl, .inr (ob_rows (by rfl) (by ((try dsimp only); (simp; done)))), trivial⟩, ⟨_, rfl, .inl rfl, trivial⟩, trivial⟩⟩ (fun r hP0 => ?_)
   refine HT.seq (HT.region S_block_ok (So.q rfl rfl (V.bin (a := (.v (.int .i64 ((_ : Nat) : Int)))) (b := .v (.int .i64 8)) (r := .v (.bool _)) rfl rfl rfl trivial (So.e (HT.seq ?_)))))
   refine R.cond rfl rfl (fun h16 => ?_) (fun h16 => ?_)
   ·have h16 := of_decide_eq_true h16
    refine HT.skip (HT.seq (HT.block (HT.seq (HT.region S_block_ok (So.q rfl rfl (V.mv (v := .p (.v (.int .i64 ((_ : Nat) : Int)))) rfl (So.q rfl rfl (V.ixV1 ty84 ty83 rfl rfl rfl rfl (by omega) (lk rfl) (Int.toNat_natCast _) (v := .u32 _) rfl (So.q rfl rfl (V.as (v := .p (.v (.int .i64 ((_ : Nat) : Int)))) rfl (So.q rfl rfl (V.as (v := .p (.u32 _)) rfl (So.e ?_)))))))))))))
    show HT _ _ _ _ _
    refine HT.tail S_block_ok mixed 9 (by kernel_rfl) (by kernel_rfl) ?_
    refine So.q rfl rfl (V.mv (v := .ptr 1 0) rfl (So.q rfl rfl (V.mv (v := .p (.v (.int .i64 ((_ : Nat) : Int)))) rfl (So.q rfl rfl (V.ncPtr rfl (So.q rfl rfl (V.ixArrP10 (mi := r) ty86 ty83 rfl rfl rfl (by (simp; done)) rfl (by omega) (by omega) (So.q rfl rfl (V.ldPtr ty83 rfl rfl rfl (by (simp; omega)) (v := .p (.u32 _)) rfl (So.q rfl rfl (V.mv (v := .p (.u32 _)) rfl (So.q rfl rfl (V.bin (a := .u32 _) (b := .u32 _) (r := .u32 _) rfl rfl rfl trivial (So.q rfl rfl (V.ncPtr rfl (So.q rfl rfl (V.ixArrP10 (mi := r) ty86 ty83 rfl rfl rfl (by (simp; done)) rfl (by omega) (by omega) (So.s (A.sto ty83 rfl rfl rfl (v := .p (.u32 _)) rfl trivial rfl (by omega) (c' := .rows (fun j => .u32 (if j = r then comp g b r else if j < r then comp g b j else g j))) (congrArg (fun g => some (OC.rows g)) (funext fun j => by by_cases h9 : j = r <;> simp [h9, comp, hs])) rfl ?_)))))))))))))))))))
    refine So.e (HT.region S_block_ok (So.q rfl rfl (V.addI rfl rfl (by omega) (So.q rfl rfl (V.mv (v := .p (.v (.int .i64 _))) rfl (So.e ?_))))))
    refine ⟨r + 1, by omega, by omega, ⟨⟨⟨le_int (by rfl), trivial⟩, ⟨.refl _, rfl⟩, ⟨.refl _, trivial⟩, trivial⟩, ⟨⟨_, rfl, .inr (ob_rows (by rfl) (by ((try dsimp only); (intro j hj; by_cases h9 : j = r <;> simp [h9] <;> (by_cases h8 : j < r <;> simp [h8] <;> omega))))), trivial⟩, ⟨_, rfl, .inl rfl, trivial⟩, trivial⟩⟩⟩
   ·have h16 := of_decide_eq_false h16
    refine HT.exit ?_
    exact ret_ok (sg [(1, 1)]) h rfl rfl rfl ⟨trivial, trivial⟩ trivial rfl ⟨trivial, ⟨⟨_, rfl, .inr (ob_rows (by rfl) (by ((try dsimp only); ((intro j hj; rw [if_pos (by omega)]))))), trivial⟩, trivial⟩⟩
def hsumSp : Sp := ⟨[1, 2], mkE (α := (List UInt8) × (List UInt8)) (fun (tx, j) => [.ptr 1 0]) (fun (tx, j) => [(1, ⟨89, 1, 10, true, .cells [.p (.u32 (hst tx 0)), .p (.u32 (hst tx 1)), .p (.u32 (hst tx 2)), .p (.u32 (hst tx 3)), .p (.u32 (hst tx 4)), .p (.u32 (hst tx 5)), .p (.u32 (hst tx 6)), .p (.u32 (hst tx 7)), .own 2 ((j).length) ((rst tx).length), .p (.u64 (UInt64.ofNat (tx).length))]⟩), (2, ⟨5, 1, (j ++ rst tx).length, true, .bs (j ++ rst tx)⟩)]) (fun (tx, j) => tx.length ≤ 1099511627776 ∧ j.length ≤ 1099511627776) (fun (tx, j) => [.own 3 0 (32)]) (fun (tx, j) => [(1, ⟨89, 1, 10, true, .cells [.p (.u32 (hst tx 0)), .p (.u32 (hst tx 1)), .p (.u32 (hst tx 2)), .p (.u32 (hst tx 3)), .p (.u32 (hst tx 4)), .p (.u32 (hst tx 5)), .p (.u32 (hst tx 6)), .p (.u32 (hst tx 7)), .own 2 ((j).length) ((rst tx).length), .p (.u64 (UInt64.ofNat (tx).length))]⟩), (2, ⟨5, 1, (j ++ rst tx).length, true, .bs (j ++ rst tx)⟩), (3, ⟨5, 1, 32, true, .bs (sha tx)⟩)])⟩
def S_hsum : FuncId → Option Sp := fun f => if f = 59 then some blockSp else none
theorem S_hsum_ok : ∀ f s, S_hsum f = some s → FOK Tryd.prog gl f s := fun f s h => by
 unfold S_hsum at h
 split at h
 ·rename_i e; cases h; subst e; exact block_ok
 cases h
set_option maxHeartbeats 1000000 in
set_option maxRecDepth 20000 in
theorem hsum_ok : FOK Tryd.prog gl 56 hsumSp := by
 refine FOK.ofE (tyOf_ok Tryd.prog) (slots := [2]) (nt := 70) Tryd.func56 rfl rfl rfl rfl (by decide) 1 (fun ⟨_, _⟩ => rfl) (by decide) (fun ⟨_, _⟩ => ⟨rfl, trivial⟩) ?_
 rintro ⟨tx, j⟩ kk hlen hpre h
 replace hpre : tx.length ≤ 1099511627776 ∧ j.length ≤ 1099511627776 := hpre
 show HT (cx Tryd.prog 70 (tyOf Tryd.prog) gl [1, 2]) _ [(0, .ptr 1 0)] [(1, ⟨89, 1, 10, true, .cells [.p (.u32 (hst tx 0)), .p (.u32 (hst tx 1)), .p (.u32 (hst tx 2)), .p (.u32 (hst tx 3)), .p (.u32 (hst tx 4)), .p (.u32 (hst tx 5)), .p (.u32 (hst tx 6)), .p (.u32 (hst tx 7)), .own 2 ((j).length) ((rst tx).length), .p (.u64 (UInt64.ofNat (tx).length))]⟩), (2, ⟨5, 1, (j ++ rst tx).length, true, .bs (j ++ rst tx)⟩)] _
 have hrl := rst_len tx
 have hzl : zlen tx.length < 64 := by unfold zlen; omega
 have hEl : (rst tx ++ pad tx).length = (rst tx).length + (9 + zlen tx.length) := by rw [List.length_append, pad_len]
 have hE64 : (rst tx ++ pad tx).length % 64 = 0 := by rw [hEl]; unfold zlen; omega
 refine HT.seq (HT.region S_hsum_ok (So.q rfl rfl (V.as (v := .p (.v (.slice none 0 0))) rfl (So.e (HT.seq (HT.region S_hsum_ok (So.q rfl rfl (V.mv (v := .ptr 1 0) rfl (So.q rfl rfl (V.ncPtr rfl (So.q rfl rfl (V.faPtr ty89 rfl ty86 (lk rfl) rfl rfl (lk rfl) (So.q rfl rfl (V.ldPtrA ty86 rfl rfl rfl rfl (lk rfl) ?_))))))))))))))
 refine So.n (lk rfl) (A.alloc 3 1 ty86 rfl ⟨lk rfl, lk rfl, trivial⟩ (f := fun _ => .u32 0) (fun _ _ => rfl) (So.s (A.stoAg ty86 rfl (n := 8) rfl (by decide) (by intro j hj; (match j, hj with | 0, _ => (trivial) | 1, _ => (trivial) | 2, _ => (trivial) | 3, _ => (trivial) | 4, _ => (trivial) | 5, _ => (trivial) | 6, _ => (trivial) | 7, _ => (trivial))) rfl rfl rfl (So.e (HT.seq (HT.region S_hsum_ok (So.n (lk rfl) (A.bsl 4 ty22 ty5 rfl (lk rfl) (lk rfl) (fun _ => rfl) rfl rfl ⟨lk rfl, lk rfl, trivial⟩ trivial rfl (N := 0) rfl (c := .bs []) rfl (So.q rfl rfl (V.mv (v := .ptr 1 0) rfl (So.q rfl rfl (V.ncPtr rfl (So.q rfl rfl (V.faPtr ty89 rfl ty22 (lk rfl) rfl rfl (lk rfl) (So.q rfl rfl (V.ldPtr ty22 rfl rfl rfl (lk rfl) (v := .own 2 _ _) rfl ?_))))))))))))))))
 refine So.n (lk rfl) (A.apOwn ty22 ty5 rfl rfl rfl rfl (u := .own 2 _ _) rfl rfl (l' := rst tx) (by simp) (mn := (rst tx).length) (by simp) (by omega) rfl rfl rfl (So.n (lk rfl) (A.bsl 5 ty22 ty5 rfl (lk rfl) (lk rfl) (fun _ => rfl) rfl rfl ⟨lk rfl, lk rfl, trivial⟩ ⟨trivial, trivial⟩ rfl (N := 1) rfl (c := .bs [_]) rfl (So.n (lk rfl) (A.apOwn ty22 ty5 rfl rfl rfl rfl (u := .own 5 0 _) rfl rfl (l' := rst tx ++ [128]) (by simp) (mn := (rst tx).length + 1) (by simp) (by omega) rfl rfl rfl (So.q rfl rfl (V.as (v := .own 4 0 _) rfl (So.e (HT.seq (HT.block ?_))))))))))
 refine R.loop (σ := Nat) (fun s => [(4, .own 4 0 ((rst tx).length + 1 + s))]) (fun s => [(4, ⟨5, 1, (rst tx).length + 1 + s, true, .bs (rst tx ++ [128] ++ List.replicate s 0)⟩)]) [0, 2, 3] [1, 2, 3, 5] (fun s => s ≤ zlen tx.length) (fun s => zlen tx.length - s) (0) (fr0 := [(0, .ptr 1 0), (2, .p (.v (.slice none 0 0))), (3, .ptr 3 0)]) (O0 := [(1, ⟨_, _, _, _, .cells _⟩), (2, ⟨_, _, _, _, .bs _⟩), (3, ⟨_, _, _, _, .rows _⟩), (5, ⟨_, _, _, _, .bs _⟩)]) rfl rfl (by omega) ⟨⟨⟨le_own2 (by rfl) (by rfl), rfl⟩, ⟨.refl _, rfl⟩, ⟨.refl _, trivial⟩, ⟨.refl _, rfl⟩, trivial⟩, ⟨⟨_, rfl, .inl (ob_bs (by rfl) (by ((try dsimp only); (simp; done)))), trivial⟩, ⟨_, rfl, .inl rfl, ⟨trivial, trivial, trivial, trivial, trivial, trivial, trivial, trivial, rfl, trivial, trivial⟩⟩, ⟨_, rfl, .inl rfl, trivial⟩, ⟨_, rfl, .inl rfl, trivial⟩, ⟨_, rfl, .inl rfl, trivial⟩, trivial⟩⟩ (fun s hP0 => ?_)
 refine HT.seq (HT.seq (HT.region S_hsum_ok (So.q rfl rfl (V.mv (v := .own 4 0 _) rfl (So.q rfl rfl (V.len ty22 (v := .own 4 0 _) rfl rfl (So.q rfl rfl (V.remI rfl rfl (by omega) (So.q rfl rfl (V.bin (a := .v (.int .i64 _)) (b := .v (.int .i64 56)) (r := .v (.bool _)) rfl rfl rfl trivial (So.e ?_)))))))))))
 show HT _ _ _ _ _
 refine R.cond rfl rfl (fun h1 => ?_) (fun h1 => ?_)
 ·have h1 := of_decide_eq_false (bnT h1)
  refine HT.skip (HT.block (HT.region S_hsum_ok (So.q rfl rfl (V.mv (v := .own 4 0 _) rfl (So.n (lk rfl) (A.bsl 6 ty22 ty5 rfl (lk rfl) (lk rfl) (fun _ => rfl) rfl rfl ⟨lk rfl, lk rfl, trivial⟩ ⟨trivial, trivial⟩ rfl (N := 1) rfl (c := .bs [_]) rfl (So.n (lk rfl) (A.apOwn ty22 ty5 rfl rfl rfl rfl (u := .own 6 0 _) rfl rfl (l' := rst tx ++ [128] ++ List.replicate (s + 1) 0) (by rw [ap_full (by simp; omega)]; simp [List.replicate_succ']) (mn := (rst tx).length + 1 + (s + 1)) (by omega) (by omega) rfl rfl rfl (So.q rfl rfl (V.as (v := .own 4 0 _) rfl (So.e ?_)))))))))))
  refine ⟨s + 1, by unfold zlen at *; omega, by unfold zlen at *; omega, ⟨⟨⟨le_own2 (by rfl) (by rfl), rfl⟩, ⟨.refl _, rfl⟩, ⟨.refl _, trivial⟩, ⟨.refl _, rfl⟩, trivial⟩, ⟨⟨_, rfl, .inl (ob_bs (by rfl) (by rfl)), trivial⟩, ⟨_, rfl, .inl rfl, ⟨trivial, trivial, trivial, trivial, trivial, trivial, trivial, trivial, rfl, trivial, trivial⟩⟩, ⟨_, rfl, .inl rfl, trivial⟩, ⟨_, rfl, .inl rfl, trivial⟩, ⟨_, rfl, .inl rfl, trivial⟩, trivial⟩⟩⟩
 ·have h1 := of_decide_eq_true (bnF h1)
  refine HT.exit ?_
  show HT _ _ _ _ _
  refine HT.seq (HT.seq (HT.region S_hsum_ok ?_))
  have hs : s = zlen tx.length := by unfold zlen at *; omega
  refine So.q rfl rfl (V.as (v := .p (.v (.int .i64 56))) rfl (So.e (HT.block ?_)))
  refine R.loop (σ := Nat) (fun r => [(4, .own 4 0 ((rst tx).length + 1 + zlen tx.length + r)), (5, .p (.v (.int .i64 (56 - 8 * (r : Int)))))]) (fun r => [(4, ⟨5, 1, (rst tx).length + 1 + zlen tx.length + r, true, .bs (rst tx ++ [128] ++ List.replicate (zlen tx.length) 0 ++ len8 (UInt64.ofNat tx.length) r)⟩)]) [0, 2, 3] [1, 2, 3, 5] (fun r => r ≤ 8) (fun r => 8 - r) (0) (fr0 := [(0, .ptr 1 0), (2, .p (.v (.slice none 0 0))), (3, .ptr 3 0)]) (O0 := [(1, ⟨_, _, _, _, .cells _⟩), (2, ⟨_, _, _, _, .bs _⟩), (3, ⟨_, _, _, _, .rows _⟩), (5, ⟨_, _, _, _, .bs _⟩)]) rfl rfl (by omega) ⟨⟨⟨le_own2 (by rfl) (by omega), rfl⟩, ⟨le_int (by rfl), trivial⟩, ⟨.refl _, rfl⟩, ⟨.refl _, trivial⟩, ⟨.refl _, rfl⟩, trivial⟩, ⟨⟨_, rfl, .inl (ob_bs (by ((try dsimp only); omega)) (by ((try dsimp only); (rw [hs]; simp [len8]; done)))), trivial⟩, ⟨_, rfl, .inl rfl, ⟨trivial, trivial, trivial, trivial, trivial, trivial, trivial, trivial, rfl, trivial, trivial⟩⟩, ⟨_, rfl, .inl rfl, trivial⟩, ⟨_, rfl, .inl rfl, trivial⟩, ⟨_, rfl, .inl rfl, trivial⟩, trivial⟩⟩ (fun r hP1 => ?_)
  refine HT.seq (HT.seq (HT.region S_hsum_ok (So.q rfl rfl (V.mv (v := .p (.v (.int .i64 _))) rfl (So.q rfl rfl (V.bin (a := .v (.int .i64 _)) (b := .v (.int .i64 0)) (r := .v (.bool _)) rfl rfl rfl trivial (So.e ?_)))))))
  show HT _ _ _ _ _
  refine R.cond rfl rfl (fun h2 => ?_) (fun h2 => ?_)
  ·have h2 := of_decide_eq_true h2
   refine HT.skip (HT.seq (HT.block (HT.region S_hsum_ok (So.q rfl rfl (V.mv (v := .own 4 0 _) rfl (So.q rfl rfl (V.mv (v := .ptr 1 0) rfl (So.q rfl rfl (V.ncPtr rfl (So.q rfl rfl (V.faPtr ty89 rfl ty82 (lk rfl) rfl rfl (lk rfl) (So.q rfl rfl (V.ldPtr ty82 rfl rfl rfl (lk rfl) (v := .p (.u64 _)) rfl (So.q rfl rfl (V.shlC (n := 3) (a := .u64 _) (b := .u64 3) (r := .u64 (u64Shl _ 3)) rfl rfl rfl rfl ?_)))))))))))))))
   refine So.q rfl rfl (V.mv (v := .p (.v (.int .i64 _))) rfl (So.q rfl rfl (V.bin (a := .u64 _) (b := .v (.int .i64 _)) (r := .u64 _) rfl rfl rfl (by omega) (So.q rfl rfl (V.cvN ty5 ty82 (a := .u64 _) (r := .u8 _) rfl rfl (So.n (lk rfl) (A.bsl 6 ty22 ty5 rfl (lk rfl) (lk rfl) (fun _ => rfl) rfl rfl ⟨lk rfl, lk rfl, trivial⟩ ⟨trivial, trivial⟩ rfl (N := 1) rfl (c := .bs [_]) rfl (So.n (lk rfl) (A.apOwn ty22 ty5 rfl rfl rfl rfl (u := .own 6 0 _) rfl rfl (l' := rst tx ++ [128] ++ List.replicate (zlen tx.length) 0 ++ len8 (UInt64.ofNat tx.length) (r + 1)) (by rw [ap_full (by simp [len8_len]; omega)]; simp only [len8, show (56 - 8 * (r : Int)).toNat = 56 - 8 * r by omega]; simp) (mn := (rst tx).length + 1 + zlen tx.length + (r + 1)) (by omega) (by omega) rfl rfl rfl (So.q rfl rfl (V.as (v := .own 4 0 _) rfl (So.e (HT.region S_hsum_ok (So.q rfl rfl (V.mv (v := .p (.v (.int .i64 _))) rfl (So.q rfl rfl (V.subI rfl rfl (by omega) ?_)))))))))))))))))
   refine So.q rfl rfl (V.as (v := .p (.v (.int .i64 _))) rfl (So.e ?_))
   refine ⟨r + 1, by omega, by omega, ⟨⟨⟨le_own2 (by rfl) (by rfl), rfl⟩, ⟨le_int (by omega), trivial⟩, ⟨.refl _, rfl⟩, ⟨.refl _, trivial⟩, ⟨.refl _, rfl⟩, trivial⟩, ⟨⟨_, rfl, .inl (ob_bs (by rfl) (by rfl)), trivial⟩, ⟨_, rfl, .inl rfl, ⟨trivial, trivial, trivial, trivial, trivial, trivial, trivial, trivial, rfl, trivial, trivial⟩⟩, ⟨_, rfl, .inl rfl, trivial⟩, ⟨_, rfl, .inl rfl, trivial⟩, ⟨_, rfl, .inl rfl, trivial⟩, trivial⟩⟩⟩
  ·have h2 := of_decide_eq_false h2
   refine HT.exit ?_
   show HT _ _ _ _ _
   refine HT.seq (HT.block ?_)
   refine R.loop (σ := Nat) (fun q => [(4, .own 4 (64 * q) ((rst tx ++ pad tx).length - 64 * q))]) (fun q => [(3, ⟨86, 1, 8, true, .rows (fun j => .u32 (stN (ptx tx) (tx.length / 64 + q) j))⟩), (4, ⟨5, 1, ((rst tx ++ pad tx)).length, true, .bs ((rst tx ++ pad tx))⟩)]) [2, 3] [1, 2, 5] (fun q => 64 * q ≤ (rst tx ++ pad tx).length) (fun q => (rst tx ++ pad tx).length - 64 * q) (0) (fr0 := [(2, .p (.v (.slice none 0 0))), (3, .ptr 3 0)]) (O0 := [(1, ⟨_, _, _, _, .cells _⟩), (2, ⟨_, _, _, _, .bs _⟩), (5, ⟨_, _, _, _, .bs _⟩)]) rfl rfl (by omega) ⟨⟨⟨le_own2 (by rfl) (by omega), rfl⟩, ⟨.refl _, trivial⟩, ⟨.refl _, rfl⟩, trivial⟩, ⟨⟨_, rfl, .inr (ob_rows (by rfl) (by ((try dsimp only); (intro j hj; have hj8 : j < 8 := hj; simp only [← su_0]; match j, hj8 with | 0, _ => rfl | 1, _ => rfl | 2, _ => rfl | 3, _ => rfl | 4, _ => rfl | 5, _ => rfl | 6, _ => rfl | 7, _ => rfl)))), trivial⟩, ⟨_, rfl, .inl (ob_bs (by ((try dsimp only); omega)) (by ((try dsimp only); (replace hP1 : r = 8 := (by omega); subst hP1; simp [pad]; done)))), trivial⟩, ⟨_, rfl, .inl rfl, ⟨trivial, trivial, trivial, trivial, trivial, trivial, trivial, trivial, rfl, trivial, trivial⟩⟩, ⟨_, rfl, .inl rfl, trivial⟩, ⟨_, rfl, .inl rfl, trivial⟩, trivial⟩⟩ (fun q hP2 => ?_)
   refine HT.seq (HT.seq (HT.region S_hsum_ok (So.q rfl rfl (V.mv (v := .own 4 _ _) rfl (So.q rfl rfl (V.len ty22 (v := .own 4 _ _) rfl rfl (So.q rfl rfl (V.bin (a := .v (.int .i64 _)) (b := .v (.int .i64 0)) (r := .v (.bool _)) rfl rfl rfl trivial (So.e ?_)))))))))
   show HT _ _ _ _ _
   refine R.cond rfl rfl (fun h3 => ?_) (fun h3 => ?_)
   ·have h3 := of_decide_eq_true h3
    refine HT.skip (HT.seq (HT.block (HT.region S_hsum_ok ?_)))
    have hbl : (List.take ((rst tx ++ pad tx).length - 64 * q) (List.drop (64 * q) (rst tx ++ pad tx))).length = (rst tx ++ pad tx).length - 64 * q := by rw [List.length_take, List.length_drop]; omega
    refine So.q rfl rfl (V.mv (v := .own 4 _ _) rfl ?_)
    refine So.n (lk rfl) (A.call [.ptr 1 _, .p (.bs _)] [(1, ⟨_, _, _, _, .rows _⟩)] (sg [(1, 3)]) 6 rfl rfl rfl rfl ⟨rfl, trivial⟩ rfl ⟨trivial, trivial⟩ ⟨rfl, trivial, trivial⟩ ⟨lk rfl, lk rfl, trivial⟩ rfl (_, _) ⟨.refl _, .refl _, trivial⟩ ⟨⟨_, rfl, .inl rfl, trivial⟩, trivial⟩ (by omega) (Φ := fun _ => True) (fun _ _ => trivial) ⟨⟨_, _, rfl, rfl, rfl, Nat.le_refl _⟩, trivial⟩ (.inr ⟨fun _ hj => absurd hj (Nat.not_lt_zero _), by simp [Hp.scal, OC.scal, PV.scal, BV.scal]⟩) rfl (v := .tup 0 _) rfl (O' := (3, ⟨_, _, _, _, .rows _⟩) :: _) rfl (fun h4 => ?_))
    refine So.e (HT.region S_hsum_ok (So.q rfl rfl (V.mv (v := .own 4 _ _) rfl (So.q rfl rfl (V.cutOwnL ty22 ty5 (s := 1) rfl rfl rfl rfl rfl (by omega) rfl (So.q rfl rfl (V.as (v := .own 4 _ _) rfl (So.e ?_))))))))
    refine ⟨q + 1, by omega, by omega, ⟨⟨⟨le_own2 (by rfl) (by rfl), rfl⟩, ⟨.refl _, trivial⟩, ⟨.refl _, rfl⟩, trivial⟩, ⟨⟨_, rfl, .inr (ob_rows (by rfl) (by (intro j hj; exact congrArg PV.u32 (su_1 (by omega) j)))), trivial⟩, ⟨_, rfl, .inl (ob_bs (by rfl) (by rfl)), trivial⟩, ⟨_, rfl, .inl rfl, ⟨trivial, trivial, trivial, trivial, trivial, trivial, trivial, trivial, rfl, trivial, trivial⟩⟩, ⟨_, rfl, .inl rfl, trivial⟩, ⟨_, rfl, .inl rfl, trivial⟩, trivial⟩⟩⟩
   ·have h3 := of_decide_eq_false h3
    refine HT.exit ?_
    show HT _ _ _ _ _
    refine HT.seq (HT.region S_hsum_ok (So.q rfl rfl (V.as (v := .p (.v (.slice none 0 0))) rfl (So.e (HT.seq (HT.seq (HT.region S_hsum_ok (So.q rfl rfl (V.ldPtrA ty86 rfl rfl rfl rfl (lk rfl) (So.q rfl rfl (V.mv (v := .p (.v (.int .i64 0))) rfl (So.e ?_))))))))))))
    show HT _ _ _ _ _
    refine HT.block ?_
    refine R.phan 6 6 5 1 (.bs []) rfl rfl rfl ⟨rfl, rfl⟩ ?_
    refine R.loop (σ := Nat) (fun r => [(6, .own 6 0 (4 * r)), (51, .p (.v (.int .i64 ((r : Int)))))]) (fun r => [(6, ⟨5, 1, 4 * r, true, .bs (outN (stN (ptx tx) (tx.length / 64 + q)) r)⟩)]) [2, 50] [1, 2, 3, 4, 5] (fun r => r ≤ 8) (fun r => 8 - r) (0) (fr0 := [(2, .p (.v (.slice none 0 0))), (50, .agg 8 _)]) (O0 := [(1, ⟨_, _, _, _, .cells _⟩), (2, ⟨_, _, _, _, .bs _⟩), (3, ⟨_, _, _, _, .rows _⟩), (4, ⟨_, _, _, _, .bs _⟩), (5, ⟨_, _, _, _, .bs _⟩)]) rfl rfl (by omega) ⟨⟨⟨le_own2 (by rfl) (by rfl), rfl⟩, ⟨le_int (by rfl), trivial⟩, ⟨.refl _, trivial⟩, ⟨.refl _, trivial⟩, trivial⟩, ⟨⟨_, rfl, .inl (ob_bs (by rfl) (by rfl)), trivial⟩, ⟨_, rfl, .inl rfl, ⟨trivial, trivial, trivial, trivial, trivial, trivial, trivial, trivial, rfl, trivial, trivial⟩⟩, ⟨_, rfl, .inl rfl, trivial⟩, ⟨_, rfl, .inl rfl, trivial⟩, ⟨_, rfl, .inl rfl, trivial⟩, ⟨_, rfl, .inl rfl, trivial⟩, trivial⟩⟩ (fun r hP3 => ?_)
    refine HT.seq (HT.region S_hsum_ok (So.q rfl rfl (V.bin (a := (.v (.int .i64 ((_ : Nat) : Int)))) (b := .v (.int .i64 8)) (r := .v (.bool _)) rfl rfl rfl trivial (So.e (HT.seq ?_)))))
    refine R.cond rfl rfl (fun h5 => ?_) (fun h5 => ?_)
    ·have h5 := of_decide_eq_true h5
     refine HT.skip (HT.seq (HT.block (HT.seq (HT.region S_hsum_ok (So.q rfl rfl (V.ixV1 (mi := r) ty86 ty83 rfl rfl rfl rfl (by omega) (lk rfl) (by omega) (v := .u32 _) rfl (So.q rfl rfl (V.as (v := .p (.u32 _)) rfl (So.e (HT.region S_hsum_ok (So.q rfl rfl (V.mv (v := .own 6 0 _) rfl ?_))))))))))))
     refine So.q rfl rfl (V.mv (v := .p (.u32 _)) rfl (So.q rfl rfl (V.shrC (n := 24) (a := .u32 _) (b := .u64 24) (r := .u32 (u32Shr _ 24)) rfl rfl rfl rfl (So.q rfl rfl (V.cvN ty5 ty83 (a := .u32 _) (r := .u8 _) rfl rfl (So.q rfl rfl (V.mv (v := .p (.u32 _)) rfl (So.q rfl rfl (V.shrC (n := 16) (a := .u32 _) (b := .u64 16) (r := .u32 (u32Shr _ 16)) rfl rfl rfl rfl (So.q rfl rfl (V.cvN ty5 ty83 (a := .u32 _) (r := .u8 _) rfl rfl (So.q rfl rfl (V.mv (v := .p (.u32 _)) rfl (So.q rfl rfl (V.shrC (n := 8) (a := .u32 _) (b := .u64 8) (r := .u32 (u32Shr _ 8)) rfl rfl rfl rfl (So.q rfl rfl (V.cvN ty5 ty83 (a := .u32 _) (r := .u8 _) rfl rfl (So.q rfl rfl (V.mv (v := .p (.u32 _)) rfl ?_)))))))))))))))))))
     refine So.q rfl rfl (V.cvN ty5 ty83 (a := .u32 _) (r := .u8 _) rfl rfl (So.n (lk rfl) (A.bsl 7 ty22 ty5 rfl (lk rfl) (lk rfl) (fun _ => rfl) rfl rfl ⟨lk rfl, lk rfl, trivial⟩ ⟨trivial, trivial, trivial, trivial, trivial⟩ rfl (N := 4) rfl (c := .bs [_, _, _, _]) rfl (So.n (lk rfl) (A.apOwn ty22 ty5 rfl rfl rfl rfl (u := .own 7 0 _) rfl rfl (l' := outN (stN (ptx tx) (tx.length / 64 + q)) (r + 1)) (by rw [ap_full (by rw [outN_len]; omega)]; simp [outN, w4]) (mn := 4 * (r + 1)) (by omega) (by omega) rfl rfl rfl (So.q rfl rfl (V.as (v := .own 6 0 _) rfl (So.e (HT.region S_hsum_ok (So.q rfl rfl (V.addI rfl rfl (by omega) (So.q rfl rfl (V.mv (v := .p (.v (.int .i64 _))) rfl (So.e ?_))))))))))))))
     refine ⟨r + 1, by omega, by omega, ⟨⟨⟨le_own2 (by rfl) (by rfl), rfl⟩, ⟨le_int (by rfl), trivial⟩, ⟨.refl _, trivial⟩, ⟨.refl _, trivial⟩, trivial⟩, ⟨⟨_, rfl, .inl (ob_bs (by rfl) (by rfl)), trivial⟩, ⟨_, rfl, .inl rfl, ⟨trivial, trivial, trivial, trivial, trivial, trivial, trivial, trivial, rfl, trivial, trivial⟩⟩, ⟨_, rfl, .inl rfl, trivial⟩, ⟨_, rfl, .inl rfl, trivial⟩, ⟨_, rfl, .inl rfl, trivial⟩, ⟨_, rfl, .inl rfl, trivial⟩, trivial⟩⟩⟩
    ·have h5 := of_decide_eq_false h5
     refine HT.exit ?_
     show HT _ _ _ _ _
     refine HT.seq (HT.region S_hsum_ok (So.q rfl rfl (V.mv (v := .own 6 0 _) rfl (So.q rfl rfl (V.as (v := .own 6 0 _) rfl (So.e ?_))))))
     show HT _ _ _ _ _
     refine HT.ret ?_
     exact ret_ok (sg [(1, 1), (2, 2), (3, 6)]) h rfl rfl rfl ⟨⟨trivial, trivial, trivial, trivial, trivial, trivial, trivial, trivial, rfl, trivial, trivial⟩, trivial, trivial, trivial⟩ ⟨rfl, trivial⟩ rfl ⟨⟨⟨le_own2 (by rfl) (by (replace hP3 : r = 8 := (by omega); subst hP3; rfl)), rfl⟩, trivial⟩, ⟨⟨_, rfl, .inl (by rfl), ⟨trivial, trivial, trivial, trivial, trivial, trivial, trivial, trivial, rfl, trivial, trivial⟩⟩, ⟨_, rfl, .inl (ob_bs (by rfl) (by rfl)), trivial⟩, ⟨_, rfl, .inl (ob_bs (by ((try dsimp only); ((replace hP3 : r = 8 := (by omega); subst hP3; rfl)))) (by ((try dsimp only); ((replace hP3 : r = 8 := (by omega); subst hP3; (unfold sha; rw [su_2 (s := q) (by omega)])))))), trivial⟩, trivial⟩⟩
def shasumSp : Sp := ⟨[], mkE (α := (List UInt8)) (fun b => [.p (.bs b)]) (fun b => []) (fun b => b.length ≤ 1099511627776) (fun b => [.own 2 0 (32)]) (fun b => [(2, ⟨5, 1, 32, true, .bs (sha b)⟩)])⟩
def S_shasum : FuncId → Option Sp := fun f => if f = 54 then some newSp else if f = 55 then some writeSp else if f = 56 then some hsumSp else none
theorem S_shasum_ok : ∀ f s, S_shasum f = some s → FOK Tryd.prog gl f s := fun f s h => by
 unfold S_shasum at h
 split at h
 ·rename_i e; cases h; subst e; exact new_ok
 split at h
 ·rename_i e; cases h; subst e; exact write_ok
 split at h
 ·rename_i e; cases h; subst e; exact hsum_ok
 cases h
set_option maxHeartbeats 1000000 in
set_option maxRecDepth 20000 in
theorem shasum_ok : FOK Tryd.prog gl 52 shasumSp := by
 refine FOK.ofE (tyOf_ok Tryd.prog) (slots := [2]) (nt := 10) Tryd.func52 rfl rfl rfl rfl (by decide) 1 (fun _ => rfl) (by decide) (fun _ => ⟨trivial, trivial⟩) ?_
 rintro b kk hlen hpre h
 have hl0 : (b).length ≤ 9223372036854775807 := hlen.1
 replace hpre : b.length ≤ 1099511627776 := hpre
 show HT (cx Tryd.prog 10 (tyOf Tryd.prog) gl []) _ [(0, .p (.bs b))] [] _
 refine HT.seq (HT.region S_shasum_ok (So.q rfl rfl (V.as (v := .p (.v (.slice none 0 0))) rfl (So.e (HT.seq (HT.region S_shasum_ok ?_))))))
 refine So.n (lk rfl) (A.call0 [] 1 rfl rfl rfl rfl trivial trivial () trivial trivial (by trivial) (Φ := fun _ => True) (fun _ _ => trivial) (.inl rfl) (v := .ptr 2 0) rfl (O' := (2, ⟨89, 1, _, true, .cells _⟩) :: (3, ⟨5, 1, _, true, .bs _⟩) :: _) rfl (fun h1 => ?_))
 refine So.q rfl rfl (V.as (v := .ptr 2 0) rfl (So.e (HT.seq (HT.region S_shasum_ok (So.q rfl rfl (V.mv (v := .ptr 2 0) rfl (So.q rfl rfl (V.mv (v := .p (.bs _)) rfl ?_))))))))
 refine So.n (lk rfl) (A.call [.ptr 1 _, .p (.bs _)] [(1, ⟨_, _, _, _, .cells [.p (.u32 _), .p (.u32 _), .p (.u32 _), .p (.u32 _), .p (.u32 _), .p (.u32 _), .p (.u32 _), .p (.u32 _), .own 2 _ _, .p (.u64 _)]⟩), (2, ⟨_, _, _, _, .bs _⟩)] (sg [(1, 2), (2, 3)]) 4 rfl rfl rfl rfl ⟨rfl, rfl, trivial⟩ rfl ⟨⟨trivial, trivial, trivial, trivial, trivial, trivial, trivial, trivial, rfl, trivial, trivial⟩, trivial, trivial⟩ ⟨rfl, trivial, trivial⟩ trivial rfl (nl, b, nl) ⟨.refl _, .refl _, trivial⟩ ⟨⟨_, rfl, .inl rfl, ⟨trivial, trivial, trivial, trivial, trivial, trivial, trivial, trivial, rfl, trivial, trivial⟩⟩, ⟨_, rfl, .inl rfl, trivial⟩, trivial⟩ (by (simp; omega)) (Φ := fun _ => True) (fun _ _ => trivial) ⟨⟨_, _, rfl, rfl, rfl, Nat.le_refl _⟩, trivial⟩ (.inl rfl) rfl (v := .tup 0 _) rfl (O' := (2, ⟨_, _, _, _, .cells _⟩) :: (6, ⟨_, _, _, _, .bs _⟩) :: _) rfl (fun h2 => ?_))
 refine So.e (HT.seq (HT.region S_shasum_ok (So.q rfl rfl (V.mv (v := .ptr 2 0) rfl ?_))))
 refine So.n (lk rfl) (A.call [.ptr 1 _] [(1, ⟨_, _, _, _, .cells [.p (.u32 _), .p (.u32 _), .p (.u32 _), .p (.u32 _), .p (.u32 _), .p (.u32 _), .p (.u32 _), .p (.u32 _), .own 2 _ _, .p (.u64 _)]⟩), (2, ⟨_, _, _, _, .bs _⟩)] (sg [(1, 2), (2, 6)]) 7 rfl rfl rfl rfl ⟨rfl, rfl, trivial⟩ rfl ⟨⟨trivial, trivial, trivial, trivial, trivial, trivial, trivial, trivial, rfl, trivial, trivial⟩, trivial, trivial⟩ ⟨rfl, trivial⟩ trivial rfl (nl ++ b, jn nl b) ⟨.refl _, trivial⟩ ⟨⟨_, rfl, .inl rfl, ⟨trivial, trivial, trivial, trivial, trivial, trivial, trivial, trivial, rfl, trivial, trivial⟩⟩, ⟨_, rfl, .inl rfl, trivial⟩, trivial⟩ (by (simp [jn_len, rst]; omega)) (Φ := fun _ => True) (fun _ _ => trivial) ⟨⟨_, _, rfl, rfl, rfl, Nat.le_refl _⟩, ⟨_, _, rfl, rfl, rfl, Nat.le_refl _⟩, trivial⟩ (.inl rfl) rfl (v := .own 10 0 _) rfl (O' := (2, ⟨_, _, _, _, .cells _⟩) :: (6, ⟨_, _, _, _, .bs _⟩) :: (10, ⟨_, _, _, _, .bs _⟩) :: _) rfl (fun h3 => ?_))
 refine So.q rfl rfl (V.as (v := .own 10 0 _) rfl (So.e ?_))
 show HT _ _ _ _ _
 refine HT.ret ?_
 exact ret_ok (sg [(2, 10)]) h rfl rfl rfl ⟨trivial, trivial⟩ ⟨rfl, trivial⟩ rfl ⟨⟨⟨le_own2 (by rfl) (by first | rfl), rfl⟩, trivial⟩, ⟨⟨_, rfl, .inl (ob_bs (by rfl) (by rfl)), trivial⟩, trivial⟩⟩
def hmacSp : Sp := ⟨[], mkE (α := (List UInt8) × (List UInt8)) (fun (k, t) => [.p (.bs k), .p (.bs t)]) (fun (k, t) => []) (fun (k, t) => k.length ≤ 1000000000 ∧ t.length ≤ 1000000000) (fun (k, t) => [.own 2 0 (32)]) (fun (k, t) => [(2, ⟨5, 1, 32, true, .bs (mac k t)⟩)])⟩
def S_hmac : FuncId → Option Sp := fun f => if f = 52 then some shasumSp else if f = 54 then some newSp else if f = 53 then some padcSp else if f = 55 then some writeSp else if f = 56 then some hsumSp else none
theorem S_hmac_ok : ∀ f s, S_hmac f = some s → FOK Tryd.prog gl f s := fun f s h => by
 unfold S_hmac at h
 split at h
 ·rename_i e; cases h; subst e; exact shasum_ok
 split at h
 ·rename_i e; cases h; subst e; exact new_ok
 split at h
 ·rename_i e; cases h; subst e; exact padc_ok
 split at h
 ·rename_i e; cases h; subst e; exact write_ok
 split at h
 ·rename_i e; cases h; subst e; exact hsum_ok
 cases h
set_option maxHeartbeats 1000000 in
set_option maxRecDepth 20000 in
theorem hmac_ok : FOK Tryd.prog gl 50 hmacSp := by
 refine FOK.ofE (tyOf_ok Tryd.prog) (slots := [4]) (nt := 29) Tryd.func50 rfl rfl rfl rfl (by decide) 2 (fun ⟨_, _⟩ => rfl) (by decide) (fun ⟨_, _⟩ => ⟨trivial, trivial, trivial⟩) ?_
 rintro ⟨k, t⟩ kk hlen hpre h
 have hl0 : (k).length ≤ 9223372036854775807 := hlen.1
 have hl1 : (t).length ≤ 9223372036854775807 := hlen.2.1
 replace hpre : k.length ≤ 1000000000 ∧ t.length ≤ 1000000000 := hpre
 show HT (cx Tryd.prog 29 (tyOf Tryd.prog) gl []) _ [(0, .p (.bs k)), (1, .p (.bs t))] [] _
 have hk0 := key0_le k
 have hp1 := padF_len (key0 k) 54
 have hp2 := padF_len (key0 k) 92
 have hs0 := sha_len (padF (key0 k) 54 ++ t)
 have hs1 := sha_len (nl ++ padF (key0 k) 54 ++ t)
 have hj1 : (jn nl (padF (key0 k) 54)).length ≤ 64 := by rw [jn_len]; simp [rst]; omega
 have hj2 : (jn (nl ++ padF (key0 k) 54) t).length ≤ 1000000064 := by have := rst_len (nl ++ padF (key0 k) 54); rw [jn_len, List.length_append]; omega
 have hnl : (nl ++ padF (key0 k) 54).length = 64 := hp1
 have hnt : (nl ++ padF (key0 k) 54 ++ t).length = 64 + t.length := by rw [List.length_append, hnl]
 refine HT.seq (HT.region S_hmac_ok (So.n (lk rfl) (A.box1 1 (v := .p (.bs _)) rfl (by trivial) rfl rfl trivial (So.q rfl rfl (V.as (v := .p (.v (.slice none 0 0))) rfl (So.e ?_))))))
 show HT _ _ _ _ _
 refine R.cut True [] [(1, ⟨22, 1, 1, true, .cells [.p (.bs (key0 k))]⟩)] [1, 2, 4] [] (fr0 := [(1, .p (.bs _)), (2, .ptr 1 0), (4, .p (.v (.slice none 0 0)))]) (O0 := []) rfl rfl ?_ (fun hphi => ?_)
 ·refine HT.seq ?_
  refine HT.region S_hmac_ok (So.q rfl rfl (V.ldPtr ty22 rfl rfl rfl (lk rfl) (v := .p (.bs _)) rfl (So.q rfl rfl (V.len ty22 (v := .p (.bs _)) rfl rfl (So.q rfl rfl (V.bin (a := .v (.int .i64 _)) (b := .v (.int .i64 64)) (r := .v (.bool _)) rfl rfl rfl trivial (So.e ?_)))))))
  show HT _ _ _ _ _
  refine R.cond rfl rfl (fun h1 => ?_) (fun h1 => ?_)
  ·have h1 := of_decide_eq_true h1
   refine HT.region S_hmac_ok (So.q rfl rfl (V.ldPtr ty22 rfl rfl rfl (lk rfl) (v := .p (.bs _)) rfl ?_))
   refine So.n (lk rfl) (A.call0F S_hmac_ok [.p (.bs _)] 2 rfl rfl rfl rfl ⟨trivial, trivial⟩ trivial _ ⟨.refl _, trivial⟩ trivial (by omega) (Φ := fun _ => True) (fun _ _ => trivial) (.inl rfl) (t := 4) (off := 0) rfl (O' := (4, ⟨5, 1, _, true, .bs _⟩) :: _) rfl rfl rfl (y := .p (.bs _)) rfl rfl (fun h2 => ?_))
   refine So.s (A.sto ty22 rfl rfl rfl (v := .p (.bs _)) rfl trivial rfl (lk rfl) rfl rfl (So.e ?_))
   exact ⟨by trivial, ⟨⟨⟨.refl _, trivial⟩, ⟨.refl _, rfl⟩, ⟨.refl _, trivial⟩, trivial⟩, ⟨⟨_, rfl, .inl (by ((try dsimp only); (unfold key0; rw [if_pos (by omega), ap_sha k]; rfl))), ⟨trivial, trivial⟩⟩, trivial⟩⟩⟩
  ·have h1 := of_decide_eq_false h1
   refine HT.skip ?_
   exact ⟨by trivial, ⟨⟨⟨.refl _, trivial⟩, ⟨.refl _, rfl⟩, ⟨.refl _, trivial⟩, trivial⟩, ⟨⟨_, rfl, .inl (by ((try dsimp only); (unfold key0; rw [if_neg (by omega)]; done))), ⟨trivial, trivial⟩⟩, trivial⟩⟩⟩
 ·refine HT.seq ?_
  refine HT.region S_hmac_ok (So.n (lk rfl) (A.mkf (cs := [.ptr 1 _]) rfl rfl (So.q rfl rfl (V.as (v := .clo 53 [.ptr 1 _]) rfl (So.e (HT.seq (HT.region S_hmac_ok ?_)))))))
  refine So.n (lk rfl) (A.call0 [] 2 rfl rfl rfl rfl trivial trivial () trivial trivial (by trivial) (Φ := fun _ => True) (fun _ _ => trivial) (.inl rfl) (v := .ptr 3 0) rfl (O' := (3, ⟨89, 1, _, true, .cells _⟩) :: (4, ⟨5, 1, _, true, .bs _⟩) :: _) rfl (fun h3 => ?_))
  refine So.q rfl rfl (V.as (v := .ptr 3 0) rfl (So.e (HT.seq (HT.region S_hmac_ok (So.q rfl rfl (V.mv (v := .ptr 3 0) rfl (So.q rfl rfl (V.mv (v := .clo 53 [.ptr 1 _]) rfl ?_))))))))
  refine So.n (lk rfl) (A.call [.p (.u8 _), .ptr 1 _] [(1, ⟨_, _, _, _, .cells [.p (.bs _)]⟩)] (sg [(1, 1)]) 5 rfl rfl rfl rfl ⟨rfl, trivial⟩ rfl ⟨⟨trivial, trivial⟩, trivial⟩ ⟨trivial, rfl, trivial⟩ trivial rfl (54, key0 k) ⟨.refl _, .refl _, trivial⟩ ⟨⟨_, rfl, .inl rfl, ⟨trivial, trivial⟩⟩, trivial⟩ (by omega) (Φ := fun _ => True) (fun _ _ => trivial) ⟨⟨_, _, rfl, rfl, rfl, Nat.le_refl _⟩, trivial⟩ (.inl rfl) rfl (v := .own 7 0 _) rfl (O' := (1, ⟨_, _, _, _, .cells _⟩) :: (7, ⟨_, _, _, _, .bs _⟩) :: _) rfl (fun h4 => ?_))
  refine So.n (lk rfl) (A.call [.ptr 1 _, .p (.bs _)] [(1, ⟨_, _, _, _, .cells [.p (.u32 _), .p (.u32 _), .p (.u32 _), .p (.u32 _), .p (.u32 _), .p (.u32 _), .p (.u32 _), .p (.u32 _), .own 2 _ _, .p (.u64 _)]⟩), (2, ⟨_, _, _, _, .bs _⟩)] (sg [(1, 3), (2, 4)]) 8 rfl rfl rfl rfl ⟨rfl, rfl, trivial⟩ rfl ⟨⟨trivial, trivial, trivial, trivial, trivial, trivial, trivial, trivial, rfl, trivial, trivial⟩, trivial, trivial⟩ ⟨rfl, trivial, trivial⟩ trivial rfl (nl, padF (key0 k) 54, nl) ⟨.refl _, le_bs (by rw [List.drop_zero, List.take_of_length_le (by omega)]), trivial⟩ ⟨⟨_, rfl, .inl rfl, ⟨trivial, trivial, trivial, trivial, trivial, trivial, trivial, trivial, rfl, trivial, trivial⟩⟩, ⟨_, rfl, .inl rfl, trivial⟩, trivial⟩ (by (simp; omega)) (Φ := fun _ => True) (fun _ _ => trivial) ⟨⟨_, _, rfl, rfl, rfl, Nat.le_refl _⟩, trivial⟩ (.inr ⟨fun _ hj => absurd hj (Nat.not_lt_zero _), by simp [Hp.scal, OC.scal, PV.scal, BV.scal]⟩) rfl (v := .tup 0 _) rfl (O' := (3, ⟨_, _, _, _, .cells _⟩) :: (10, ⟨_, _, _, _, .bs _⟩) :: _) rfl (fun h5 => ?_))
  refine So.e (HT.seq ?_)
  refine R.norm [1, 4, 5, 6] [1, 3, 10] (fr0 := [(1, .p (.bs _)), (4, .p (.v (.slice none 0 0))), (5, .clo 53 [.ptr 1 _]), (6, .ptr 3 0)]) (O0 := [(1, ⟨_, _, _, _, .cells [.p (.bs _)]⟩), (3, ⟨_, _, _, _, .cells [.p (.u32 _), .p (.u32 _), .p (.u32 _), .p (.u32 _), .p (.u32 _), .p (.u32 _), .p (.u32 _), .p (.u32 _), .own 10 _ _, .p (.u64 _)]⟩), (10, ⟨_, _, _, _, .bs _⟩)]) rfl rfl ⟨⟨⟨.refl _, trivial⟩, ⟨.refl _, trivial⟩, ⟨.refl _, ⟨rfl, trivial⟩⟩, ⟨.refl _, rfl⟩, trivial⟩, ⟨⟨_, rfl, .inl rfl, ⟨trivial, trivial⟩⟩, ⟨_, rfl, .inl rfl, ⟨trivial, trivial, trivial, trivial, trivial, trivial, trivial, trivial, rfl, trivial, trivial⟩⟩, ⟨_, rfl, .inl rfl, trivial⟩, trivial⟩⟩ ?_
  refine HT.region S_hmac_ok (So.q rfl rfl (V.mv (v := .ptr 3 0) rfl (So.q rfl rfl (V.mv (v := .p (.bs _)) rfl ?_))))
  refine So.n (lk rfl) (A.call [.ptr 1 _, .p (.bs _)] [(1, ⟨_, _, _, _, .cells [.p (.u32 _), .p (.u32 _), .p (.u32 _), .p (.u32 _), .p (.u32 _), .p (.u32 _), .p (.u32 _), .p (.u32 _), .own 2 _ _, .p (.u64 _)]⟩), (2, ⟨_, _, _, _, .bs _⟩)] (sg [(1, 3), (2, 10)]) 11 rfl rfl rfl rfl ⟨rfl, rfl, trivial⟩ rfl ⟨⟨trivial, trivial, trivial, trivial, trivial, trivial, trivial, trivial, rfl, trivial, trivial⟩, trivial, trivial⟩ ⟨rfl, trivial, trivial⟩ trivial rfl (nl ++ padF (key0 k) 54, t, jn nl (padF (key0 k) 54)) ⟨.refl _, .refl _, trivial⟩ ⟨⟨_, rfl, .inl rfl, ⟨trivial, trivial, trivial, trivial, trivial, trivial, trivial, trivial, rfl, trivial, trivial⟩⟩, ⟨_, rfl, .inl rfl, trivial⟩, trivial⟩ (by omega) (Φ := fun _ => True) (fun _ _ => trivial) ⟨⟨_, _, rfl, rfl, rfl, Nat.le_refl _⟩, trivial⟩ (.inl rfl) rfl (v := .tup 0 _) rfl (O' := (3, ⟨_, _, _, _, .cells _⟩) :: (13, ⟨_, _, _, _, .bs _⟩) :: _) rfl (fun h6 => ?_))
  refine So.e (HT.seq ?_)
  refine R.norm [4, 5, 6] [1, 3, 13] (fr0 := [(4, .p (.v (.slice none 0 0))), (5, .clo 53 [.ptr 1 _]), (6, .ptr 3 0)]) (O0 := [(1, ⟨_, _, _, _, .cells [.p (.bs _)]⟩), (3, ⟨_, _, _, _, .cells [.p (.u32 _), .p (.u32 _), .p (.u32 _), .p (.u32 _), .p (.u32 _), .p (.u32 _), .p (.u32 _), .p (.u32 _), .own 13 _ _, .p (.u64 _)]⟩), (13, ⟨_, _, _, _, .bs _⟩)]) rfl rfl ⟨⟨⟨.refl _, trivial⟩, ⟨.refl _, ⟨rfl, trivial⟩⟩, ⟨.refl _, rfl⟩, trivial⟩, ⟨⟨_, rfl, .inl rfl, ⟨trivial, trivial⟩⟩, ⟨_, rfl, .inl rfl, ⟨trivial, trivial, trivial, trivial, trivial, trivial, trivial, trivial, rfl, trivial, trivial⟩⟩, ⟨_, rfl, .inl rfl, trivial⟩, trivial⟩⟩ ?_
  refine HT.region S_hmac_ok (So.q rfl rfl (V.mv (v := .ptr 3 0) rfl ?_))
  refine So.n (lk rfl) (A.call [.ptr 1 _] [(1, ⟨_, _, _, _, .cells [.p (.u32 _), .p (.u32 _), .p (.u32 _), .p (.u32 _), .p (.u32 _), .p (.u32 _), .p (.u32 _), .p (.u32 _), .own 2 _ _, .p (.u64 _)]⟩), (2, ⟨_, _, _, _, .bs _⟩)] (sg [(1, 3), (2, 13)]) 14 rfl rfl rfl rfl ⟨rfl, rfl, trivial⟩ rfl ⟨⟨trivial, trivial, trivial, trivial, trivial, trivial, trivial, trivial, rfl, trivial, trivial⟩, trivial, trivial⟩ ⟨rfl, trivial⟩ trivial rfl ((nl ++ padF (key0 k) 54) ++ t, jn (nl ++ padF (key0 k) 54) t) ⟨.refl _, trivial⟩ ⟨⟨_, rfl, .inl rfl, ⟨trivial, trivial, trivial, trivial, trivial, trivial, trivial, trivial, rfl, trivial, trivial⟩⟩, ⟨_, rfl, .inl rfl, trivial⟩, trivial⟩ (by omega) (Φ := fun _ => True) (fun _ _ => trivial) ⟨⟨_, _, rfl, rfl, rfl, Nat.le_refl _⟩, ⟨_, _, rfl, rfl, rfl, Nat.le_refl _⟩, trivial⟩ (.inl rfl) rfl (v := .own 17 0 _) rfl (O' := (3, ⟨_, _, _, _, .cells _⟩) :: (13, ⟨_, _, _, _, .bs _⟩) :: (17, ⟨_, _, _, _, .bs _⟩) :: _) rfl (fun h7 => ?_))
  refine So.q rfl rfl (V.as (v := .own 17 0 _) rfl (So.e (HT.seq ?_)))
  refine R.norm [4, 5, 7] [1, 17] (fr0 := [(4, .p (.v (.slice none 0 0))), (5, .clo 53 [.ptr 1 _]), (7, .own 17 0 _)]) (O0 := [(1, ⟨_, _, _, _, .cells [.p (.bs _)]⟩), (17, ⟨_, _, _, _, .bs _⟩)]) rfl rfl ⟨⟨⟨.refl _, trivial⟩, ⟨.refl _, ⟨rfl, trivial⟩⟩, ⟨.refl _, rfl⟩, trivial⟩, ⟨⟨_, rfl, .inl rfl, ⟨trivial, trivial⟩⟩, ⟨_, rfl, .inl rfl, trivial⟩, trivial⟩⟩ ?_
  refine HT.region S_hmac_ok (So.q rfl rfl (V.mv (v := .clo 53 [.ptr 1 _]) rfl ?_))
  refine So.n (lk rfl) (A.call [.p (.u8 _), .ptr 1 _] [(1, ⟨_, _, _, _, .cells [.p (.bs _)]⟩)] (sg [(1, 1)]) 18 rfl rfl rfl rfl ⟨rfl, trivial⟩ rfl ⟨⟨trivial, trivial⟩, trivial⟩ ⟨trivial, rfl, trivial⟩ trivial rfl (92, key0 k) ⟨.refl _, .refl _, trivial⟩ ⟨⟨_, rfl, .inl rfl, ⟨trivial, trivial⟩⟩, trivial⟩ (by omega) (Φ := fun _ => True) (fun _ _ => trivial) ⟨⟨_, _, rfl, rfl, rfl, Nat.le_refl _⟩, trivial⟩ (.inl rfl) rfl (v := .own 20 0 _) rfl (O' := (1, ⟨_, _, _, _, .cells _⟩) :: (20, ⟨_, _, _, _, .bs _⟩) :: _) rfl (fun h8 => ?_))
  refine So.q rfl rfl (V.mv (v := .own 17 0 _) rfl (So.n (lk rfl) (A.apOwn ty22 ty5 rfl rfl rfl rfl (u := .own 17 0 _) rfl rfl (l' := padF (key0 k) 92 ++ sha (padF (key0 k) 54 ++ t)) (by rw [ap_full (by omega)]; rw [List.drop_zero, List.take_of_length_le (by omega)]; rfl) (mn := 96) (by rfl) (by omega) rfl rfl rfl ?_)))
  refine So.n (lk rfl) (A.call0 [.p (.bs _)] 21 rfl rfl rfl rfl ⟨trivial, trivial⟩ trivial (padF (key0 k) 92 ++ sha (padF (key0 k) 54 ++ t)) ⟨le_bs (by rw [List.drop_zero, List.take_of_length_le (by rw [List.length_append]; omega)]), trivial⟩ trivial (by (simp; omega)) (Φ := fun _ => True) (fun _ _ => trivial) (.inr ⟨trivial, by simp [Hp.scal, OC.scal, PV.scal, BV.scal]⟩) (v := .own 23 0 _) rfl (O' := (23, ⟨5, 1, _, true, .bs _⟩) :: _) rfl (fun h9 => ?_))
  refine So.q rfl rfl (V.as (v := .own 23 0 _) rfl (So.e ?_))
  show HT _ _ _ _ _
  refine HT.ret ?_
  exact ret_ok (sg [(2, 23)]) h rfl rfl rfl ⟨trivial, trivial⟩ ⟨rfl, trivial⟩ rfl ⟨⟨⟨le_own2 (by rfl) (by rfl), rfl⟩, trivial⟩, ⟨⟨_, rfl, .inl (ob_bs (by rfl) (by ((try dsimp only); ((unfold mac; rfl))))), trivial⟩, trivial⟩⟩
def growSp : Sp := ⟨[], mkE (α := Int) (fun n => [.p (.v (.slice none 0 0)), .p (.v (.int .i64 n))]) (fun n => []) (fun n => 0 ≤ n ∧ n ≤ 1099511627776) (fun n => [.own 2 0 (0)]) (fun n => [(2, ⟨5, 1, n.toNat, true, .bs (List.replicate n.toNat 0)⟩)])⟩
def S_grow : FuncId → Option Sp := fun _ => none
theorem S_grow_ok : ∀ f s, S_grow f = some s → FOK Tryd.prog gl f s := fun f s h => by cases h
set_option maxHeartbeats 1000000 in
set_option maxRecDepth 1000 in
theorem grow_ok : FOK Tryd.prog gl 46 growSp := by
 refine FOK.ofE (tyOf_ok Tryd.prog) (slots := [4]) (nt := 27) Tryd.func46 rfl rfl rfl rfl (by decide) 2 (fun _ => rfl) (by decide) (fun _ => ⟨trivial, trivial, trivial⟩) ?_
 rintro n kk hlen hpre h
 replace hpre : 0 ≤ n ∧ n ≤ 1099511627776 := hpre
 show HT (cx Tryd.prog 27 (tyOf Tryd.prog) gl []) _ [(0, .p (.v (.slice none 0 0))), (1, .p (.v (.int .i64 n)))] [] _
 refine HT.seq (HT.region S_grow_ok (So.q rfl rfl (V.as (v := .p (.v (.slice none 0 0))) rfl (So.e (HT.seq (HT.seq (HT.region S_grow_ok (So.q rfl rfl (V.mv (v := .p (.v (.int .i64 _))) rfl (So.q rfl rfl (V.bin (a := .v (.int .i64 _)) (b := .v (.int .i64 0)) (r := .v (.bool _)) rfl rfl rfl trivial (So.e ?_))))))))))))
 show HT _ _ _ _ _
 refine R.cond rfl rfl (fun h1 => ?_) (fun h1 => ?_)
 ·have h1 := of_decide_eq_true h1
  exact absurd h1 (by omega)
 ·have h1 := of_decide_eq_false h1
  refine HT.skip (HT.seq (HT.seq (HT.region S_grow_ok (So.q rfl rfl (V.mv (v := .p (.v (.int .i64 _))) rfl (So.q rfl rfl (V.mv (v := .p (.v (.slice none 0 0))) rfl (So.n (lk rfl) (A.cap0 ty22 rfl (So.q rfl rfl (V.mv (v := .p (.v (.slice none 0 0))) rfl (So.q rfl rfl (V.len ty22 (v := .p (.v (.slice none 0 0))) rfl rfl (So.q rfl rfl (V.subI rfl rfl (by omega) ?_)))))))))))))))
  refine So.q rfl rfl (V.subI rfl rfl (by omega) (So.q rfl rfl (V.as (v := .p (.v (.int .i64 _))) rfl (So.e (HT.seq (HT.region S_grow_ok (So.q rfl rfl (V.mv (v := .p (.v (.int .i64 _))) rfl (So.q rfl rfl (V.bin (a := .v (.int .i64 _)) (b := .v (.int .i64 0)) (r := .v (.bool _)) rfl rfl rfl trivial (So.e ?_)))))))))))
  show HT _ _ _ _ _
  refine R.cond rfl rfl (fun h2 => ?_) (fun h2 => ?_)
  ·have h2 := of_decide_eq_true h2
   refine HT.region S_grow_ok (So.q rfl rfl (V.mv (v := .p (.v (.slice none 0 0))) rfl (So.q rfl rfl (V.mv (v := .p (.v (.slice none 0 0))) rfl (So.n (lk rfl) (A.cap0 ty22 rfl (So.q rfl rfl (V.cutNil ty22 ty5 rfl rfl rfl (by omega) (.inl rfl) (So.q rfl rfl (V.mv (v := .p (.v (.int .i64 _))) rfl (So.n (lk rfl) (A.apz 1 ty22 ty3 ty5 rfl rfl rfl (by omega) rfl rfl trivial (So.q rfl rfl (V.mv (v := .p (.v (.slice none 0 0))) rfl (So.q rfl rfl (V.len ty22 (v := .p (.v (.slice none 0 0))) rfl rfl (So.q rfl rfl (V.cutOwnH ty22 ty5 rfl rfl rfl rfl (by omega) (.inl rfl) rfl ?_))))))))))))))))))
   refine So.q rfl rfl (V.as (v := .own 1 0 _) rfl (So.e (HT.seq (HT.region S_grow_ok (So.q rfl rfl (V.mv (v := .own 1 0 _) rfl (So.q rfl rfl (V.as (v := .own 1 0 _) rfl (So.e ?_)))))))))
   show HT _ _ _ _ _
   refine HT.ret ?_
   exact ret_ok (sg [(2, 1)]) h rfl rfl rfl ⟨trivial, trivial⟩ ⟨rfl, trivial⟩ rfl ⟨⟨⟨le_own2 (by rfl) (by rfl), rfl⟩, trivial⟩, ⟨⟨_, rfl, .inl (ob_bs (by ((try dsimp only); (omega))) (by ((try dsimp only); ((simp; done))))), trivial⟩, trivial⟩⟩
  ·have h2 := of_decide_eq_false h2
   refine HT.skip (HT.seq (HT.region S_grow_ok (So.q rfl rfl (V.mv (v := .p (.v (.slice none 0 0))) rfl (So.q rfl rfl (V.as (v := .p (.v (.slice none 0 0))) rfl (So.e ?_)))))))
   show HT _ _ _ _ _
   refine R.phan 4 1 5 1 (.bs []) rfl rfl rfl ⟨rfl, rfl⟩ ?_
   refine HT.ret ?_
   exact ret_ok (sg [(2, 1)]) h rfl rfl rfl ⟨trivial, trivial⟩ ⟨rfl, trivial⟩ rfl ⟨⟨⟨le_own2 (by rfl) (by rfl), rfl⟩, trivial⟩, ⟨⟨_, rfl, .inl (ob_bs (by ((try dsimp only); (omega))) (by ((try dsimp only); ((rw [show n.toNat = 0 by omega]; rfl))))), trivial⟩, trivial⟩⟩
def concatSp : Sp := ⟨[], mkE (α := (List (List UInt8))) (fun l => [.p (.sl (l).length 1 (fun j => .bs ((l).getD j [])))]) (fun l => []) (fun l => (cat l).length ≤ 1099511627776) (fun l => [.own 2 0 ((cat l).length)]) (fun l => [(2, ⟨5, 1, (cat l).length, true, .bs (cat l)⟩)])⟩
def S_concat : FuncId → Option Sp := fun f => if f = 46 then some growSp else none
theorem S_concat_ok : ∀ f s, S_concat f = some s → FOK Tryd.prog gl f s := fun f s h => by
 unfold S_concat at h
 split at h
 ·rename_i e; cases h; subst e; exact grow_ok
 cases h
set_option maxHeartbeats 1000000 in
set_option maxRecDepth 1000 in
theorem concat_ok : FOK Tryd.prog gl 40 concatSp := by
 refine FOK.ofE (tyOf_ok Tryd.prog) (slots := [2]) (nt := 36) Tryd.func40 rfl rfl rfl rfl (by decide) 1 (fun _ => rfl) (by decide) (fun _ => ⟨trivial, trivial⟩) ?_
 rintro l kk hlen hpre h
 have hl0 : (l).length ≤ 9223372036854775807 := hlen.1
 replace hpre : (cat l).length ≤ 1099511627776 := hpre
 show HT (cx Tryd.prog 36 (tyOf Tryd.prog) gl []) _ [(0, .p (.sl (l).length 1 (fun j => .bs ((l).getD j []))))] [] _
 have hle := cat_take_le l
 refine HT.seq (HT.region S_concat_ok (So.q rfl rfl (V.as (v := .p (.v (.slice none 0 0))) rfl (So.e (HT.seq (HT.region S_concat_ok (So.q rfl rfl (V.as (v := .p (.v (.int .i64 0))) rfl (So.e (HT.seq (HT.seq ?_)))))))))))
 refine HT.region S_concat_ok (So.q rfl rfl (V.mv (v := .p (.sl _ 1 _)) rfl (So.q rfl rfl (V.len ty73 (v := .p (.sl _ 1 _)) rfl rfl (So.q rfl rfl (V.mv (v := .p (.v (.int .i64 0))) rfl (So.e (HT.block ?_))))))))
 refine R.loop (σ := Nat) (fun s => [(3, .p (.v (.int .i64 ((((cat (l.take s)).length : Nat) : Int))))), (11, .p (.v (.int .i64 ((s : Int)))))]) (fun s => []) [0, 2, 9, 10] [] (fun s => s ≤ l.length) (fun s => l.length - s) (0) (fr0 := [(0, .p (.sl _ 1 _)), (2, .p (.v (.slice none 0 0))), (9, .p (.sl _ 1 _)), (10, .p (.v (.int .i64 _)))]) (O0 := []) rfl rfl (by omega) ⟨⟨⟨le_int (by rfl), trivial⟩, ⟨le_int (by rfl), trivial⟩, ⟨.refl _, trivial⟩, ⟨.refl _, trivial⟩, ⟨.refl _, trivial⟩, ⟨.refl _, trivial⟩, trivial⟩, trivial⟩ (fun s hP0 => ?_)
 refine HT.seq (HT.region S_concat_ok (So.q rfl rfl (V.bin (a := (.v (.int .i64 ((_ : Nat) : Int)))) (b := .v (.int .i64 _)) (r := .v (.bool _)) rfl rfl rfl trivial (So.e (HT.seq ?_)))))
 refine R.cond rfl rfl (fun h1 => ?_) (fun h1 => ?_)
 ·have h1 := of_decide_eq_true h1
  refine HT.skip (HT.seq (HT.block (HT.seq (HT.region S_concat_ok ?_))))
  have hct := congrArg List.length (cat_take l (k := s) (by omega))
  rw [List.length_append] at hct
  have hc1 := hle (s + 1)
  refine So.q rfl rfl (V.ixSl1 (mi := s) ty73 ty22 rfl rfl rfl (by omega) (by omega) (So.q rfl rfl (V.ldRp ty22 rfl rfl (lk rfl) (v := .bs _) rfl (So.q rfl rfl (V.as (v := .p (.bs _)) rfl (So.e (HT.seq (HT.region S_concat_ok (So.q rfl rfl (V.mv (v := .p (.v (.int .i64 _))) rfl (So.q rfl rfl (V.mv (v := .p (.bs _)) rfl (So.q rfl rfl (V.len ty22 (v := .p (.bs _)) rfl rfl (So.q rfl rfl (V.addI rfl rfl (by omega) ?_))))))))))))))))
  refine So.q rfl rfl (V.as (v := .p (.v (.int .i64 _))) rfl (So.e (HT.seq (HT.region S_concat_ok (So.q rfl rfl (V.mv (v := .p (.v (.int .i64 _))) rfl (So.q rfl rfl (V.bin (a := .v (.int .i64 _)) (b := .v (.int .i64 0)) (r := .v (.bool _)) rfl rfl rfl trivial (So.e ?_)))))))))
  show HT _ _ _ _ _
  refine R.cond rfl rfl (fun h2 => ?_) (fun h2 => ?_)
  ·have h2 := of_decide_eq_true h2
   exact absurd h2 (by omega)
  ·have h2 := of_decide_eq_false h2
   refine HT.skip (HT.region S_concat_ok (So.q rfl rfl (V.addI rfl rfl (by omega) (So.q rfl rfl (V.mv (v := .p (.v (.int .i64 _))) rfl (So.e ?_))))))
   refine ⟨s + 1, by omega, by omega, ⟨⟨⟨le_int (by omega), trivial⟩, ⟨le_int (by rfl), trivial⟩, ⟨.refl _, trivial⟩, ⟨.refl _, trivial⟩, ⟨.refl _, trivial⟩, ⟨.refl _, trivial⟩, trivial⟩, trivial⟩⟩
 ·have h1 := of_decide_eq_false h1
  refine HT.exit ?_
  show HT _ _ _ _ _
  refine HT.seq (HT.region S_concat_ok ?_)
  have hs : s = l.length := by omega
  have hsl : cat (l.take s) = cat l := by rw [hs, List.take_length]
  have hc1 := hle s
  refine So.q rfl rfl (V.mv (v := .p (.v (.int .i64 _))) rfl ?_)
  refine So.n (lk rfl) (A.call0 [.p (.v (.slice none 0 0)), .p (.v (.int .i64 _))] 1 rfl rfl rfl rfl ⟨trivial, trivial, trivial⟩ trivial _ ⟨.refl _, .refl _, trivial⟩ trivial (by omega) (Φ := fun _ => True) (fun _ _ => trivial) (.inl rfl) (v := .own 3 0 _) rfl (O' := (3, ⟨5, 1, _, true, .bs _⟩) :: _) rfl (fun h3 => ?_))
  refine So.q rfl rfl (V.as (v := .own 3 0 _) rfl (So.e (HT.seq (HT.seq (HT.region S_concat_ok (So.q rfl rfl (V.mv (v := .p (.sl _ 1 _)) rfl (So.q rfl rfl (V.len ty73 (v := .p (.sl _ 1 _)) rfl rfl (So.q rfl rfl (V.mv (v := .p (.v (.int .i64 0))) rfl (So.e (HT.block ?_)))))))))))))
  refine R.loop (σ := Nat) (fun r => [(6, .own 3 0 ((cat (l.take r)).length)), (27, .p (.v (.int .i64 ((r : Int)))))]) (fun r => [(3, ⟨5, 1, (cb l r).length, true, .bs (cb l r)⟩)]) [2, 25, 26] [] (fun r => r ≤ l.length) (fun r => l.length - r) (0) (fr0 := [(2, .p (.v (.slice none 0 0))), (25, .p (.sl _ 1 _)), (26, .p (.v (.int .i64 _)))]) (O0 := []) rfl rfl (by omega) ⟨⟨⟨le_own2 (by rfl) (by rfl), rfl⟩, ⟨le_int (by rfl), trivial⟩, ⟨.refl _, trivial⟩, ⟨.refl _, trivial⟩, ⟨.refl _, trivial⟩, trivial⟩, ⟨⟨_, rfl, .inl (ob_bs (by ((try dsimp only); (rw [hsl, cb_0]; simp; done))) (by ((try dsimp only); (rw [hsl, cb_0]; simp; done)))), trivial⟩, trivial⟩⟩ (fun r hP1 => ?_)
  refine HT.seq (HT.region S_concat_ok (So.q rfl rfl (V.bin (a := (.v (.int .i64 ((_ : Nat) : Int)))) (b := .v (.int .i64 _)) (r := .v (.bool _)) rfl rfl rfl trivial (So.e (HT.seq ?_)))))
  refine R.cond rfl rfl (fun h4 => ?_) (fun h4 => ?_)
  ·have h4 := of_decide_eq_true h4
   refine HT.skip (HT.seq (HT.block (HT.seq (HT.region S_concat_ok (So.q rfl rfl (V.ixSl1 (mi := r) ty73 ty22 rfl rfl rfl (by omega) (by omega) (So.q rfl rfl (V.ldRp ty22 rfl rfl (lk rfl) (v := .bs _) rfl (So.q rfl rfl (V.as (v := .p (.bs _)) rfl (So.e (HT.region S_concat_ok ?_))))))))))))
   refine So.q rfl rfl (V.mv (v := .own 3 0 _) rfl (So.q rfl rfl (V.mv (v := .p (.bs _)) rfl (So.n (lk rfl) (A.apOwn ty22 ty5 rfl rfl rfl rfl (u := .p (.bs _)) rfl rfl (l' := cat (l.take (r + 1))) (by rw [cb_take]; exact (cat_take l (by omega)).symm) (mn := (cat (l.take (r + 1))).length) (by rw [cat_take l (by omega), List.length_append]) (by have := hle (r + 1); omega) rfl rfl rfl (So.q rfl rfl (V.as (v := .own 3 0 _) rfl (So.e (HT.region S_concat_ok (So.q rfl rfl (V.addI rfl rfl (by omega) (So.q rfl rfl (V.mv (v := .p (.v (.int .i64 _))) rfl (So.e ?_))))))))))))))
   refine ⟨r + 1, by omega, by omega, ⟨⟨⟨le_own2 (by rfl) (by rfl), rfl⟩, ⟨le_int (by rfl), trivial⟩, ⟨.refl _, trivial⟩, ⟨.refl _, trivial⟩, ⟨.refl _, trivial⟩, trivial⟩, ⟨⟨_, rfl, .inl (ob_bs (by rfl) (by rfl)), trivial⟩, trivial⟩⟩⟩
  ·have h4 := of_decide_eq_false h4
   refine HT.exit ?_
   show HT _ _ _ _ _
   refine HT.seq (HT.region S_concat_ok (So.q rfl rfl (V.mv (v := .own 3 0 _) rfl (So.q rfl rfl (V.as (v := .own 3 0 _) rfl (So.e ?_))))))
   show HT _ _ _ _ _
   refine HT.ret ?_
   exact ret_ok (sg [(2, 3)]) h rfl rfl rfl ⟨trivial, trivial⟩ ⟨rfl, trivial⟩ rfl ⟨⟨⟨le_own2 (by rfl) (by (rw [show r = l.length from (by omega), List.take_length])), rfl⟩, trivial⟩, ⟨⟨_, rfl, .inl (ob_bs (by ((try dsimp only); ((rw [← cb_end (l := l) (r := r) (by omega)]; done)))) (by ((try dsimp only); ((rw [← cb_end (l := l) (r := r) (by omega)]; done))))), trivial⟩, trivial⟩⟩
def piecesSp : Sp := ⟨[], mkE (α := (List UInt8) × (List UInt8)) (fun (k, i) => [.p (.bs k), .p (.bs i)]) (fun (k, i) => []) (fun (k, i) => True) (fun (k, i) => [.clo 49 [.ptr 2 0, .ptr 3 0]]) (fun (k, i) => [(2, ⟨22, 1, 1, true, .cells [.p (.bs k)]⟩), (3, ⟨22, 1, 1, true, .cells [.p (.bs i)]⟩)])⟩
def S_pieces : FuncId → Option Sp := fun _ => none
theorem S_pieces_ok : ∀ f s, S_pieces f = some s → FOK Tryd.prog gl f s := fun f s h => by cases h
set_option maxHeartbeats 1000000 in
set_option maxRecDepth 1000 in
theorem pieces_ok : FOK Tryd.prog gl 45 piecesSp := by
 refine FOK.ofE (tyOf_ok Tryd.prog) (slots := [4]) (nt := 6) Tryd.func45 rfl rfl rfl rfl (by decide) 2 (fun ⟨_, _⟩ => rfl) (by decide) (fun ⟨_, _⟩ => ⟨trivial, trivial, trivial⟩) ?_
 rintro ⟨k, i⟩ kk hlen hpre h
 have hl0 : (k).length ≤ 9223372036854775807 := hlen.1
 have hl1 : (i).length ≤ 9223372036854775807 := hlen.2.1
 replace hpre : True := hpre
 show HT (cx Tryd.prog 6 (tyOf Tryd.prog) gl []) _ [(0, .p (.bs k)), (1, .p (.bs i))] [] _
 refine HT.seq (HT.region S_pieces_ok (So.n (lk rfl) (A.box1 1 (v := .p (.bs _)) rfl (by trivial) rfl rfl trivial (So.n (lk rfl) (A.box1 2 (v := .p (.bs _)) rfl (by trivial) rfl rfl trivial (So.q rfl rfl (V.as (v := _) rfl (So.e (HT.seq (HT.region S_pieces_ok (So.n (lk rfl) (A.mkf (cs := [.ptr 1 _, .ptr 2 _]) rfl rfl (So.q rfl rfl (V.as (v := .clo 49 [.ptr 1 _, .ptr 2 _]) rfl ?_))))))))))))))
 refine So.e ?_
 show HT _ _ _ _ _
 refine HT.ret ?_
 exact ret_ok (sg [(2, 1), (3, 2)]) h rfl rfl rfl ⟨⟨trivial, trivial⟩, ⟨trivial, trivial⟩, trivial⟩ ⟨⟨rfl, rfl, trivial⟩, trivial⟩ rfl ⟨⟨⟨.refl _, ⟨rfl, rfl, trivial⟩⟩, trivial⟩, ⟨⟨_, rfl, .inl (by rfl), ⟨trivial, trivial⟩⟩, ⟨_, rfl, .inl (by rfl), ⟨trivial, trivial⟩⟩, trivial⟩⟩
def hexpandSp : Sp := ⟨[], mkE (α := (List UInt8) × (List UInt8) × Int) (fun (k, i, n) => [.p (.bs k), .p (.bs i), .p (.v (.int .i64 n))]) (fun (k, i, n) => []) (fun (k, i, n) => k.length ≤ 1000000000 ∧ i.length ≤ 900000000) (fun (k, i, n) => [.own 2 0 ((expandN k i n).length)]) (fun (k, i, n) => [(2, ⟨5, 1, (expandN k i n).length, true, .bs (expandN k i n)⟩)])⟩
def S_hexpand : FuncId → Option Sp := fun f => if f = 45 then some piecesSp else if f = 40 then some concatSp else if f = 50 then some hmacSp else none
theorem S_hexpand_ok : ∀ f s, S_hexpand f = some s → FOK Tryd.prog gl f s := fun f s h => by
 unfold S_hexpand at h
 split at h
 ·rename_i e; cases h; subst e; exact pieces_ok
 split at h
 ·rename_i e; cases h; subst e; exact concat_ok
 split at h
 ·rename_i e; cases h; subst e; exact hmac_ok
 cases h
theorem S_hexpand_det : ∀ f s, S_hexpand f = some s → SpDet s.sp := fun f s h => by
 unfold S_hexpand at h
 split at h
 ·cases h; exact mkE_det _ _ _ _ _
 split at h
 ·cases h; exact mkE_det _ _ _ _ _
 split at h
 ·cases h; exact mkE_det _ _ _ _ _
 cases h
set_option maxHeartbeats 1000000 in
set_option maxRecDepth 20000 in
theorem hexpand_ok : FOK Tryd.prog gl 39 hexpandSp := by
 refine FOK.ofE (tyOf_ok Tryd.prog) (slots := [6]) (nt := 40) Tryd.func39 rfl rfl rfl rfl (by decide) 3 (fun ⟨_, _, _⟩ => rfl) (by decide) (fun ⟨_, _, _⟩ => ⟨trivial, trivial, trivial, trivial⟩) ?_
 rintro ⟨k, i, n⟩ kk hlen hpre h
 have hl0 : (k).length ≤ 9223372036854775807 := hlen.1
 have hl1 : (i).length ≤ 9223372036854775807 := hlen.2.1
 replace hpre : k.length ≤ 1000000000 ∧ i.length ≤ 900000000 := hpre
 show HT (cx Tryd.prog 40 (tyOf Tryd.prog) gl []) _ [(0, .p (.bs k)), (1, .p (.bs i)), (2, .p (.v (.int .i64 n)))] [] _
 refine HT.seq (HT.region S_hexpand_ok (So.n (lk rfl) (A.box1 1 (v := .p (.v (.int .i64 _))) rfl (by rfl) rfl rfl trivial (So.q rfl rfl (V.as (v := .p (.v (.slice none 0 0))) rfl (So.e (HT.seq (HT.seq (HT.region S_hexpand_ok (So.q rfl rfl (V.ldPtr ty3 rfl rfl rfl (lk rfl) (v := .p (.v (.int .i64 _))) rfl (So.q rfl rfl (V.bin (a := .v (.int .i64 _)) (b := .v (.int .i64 0)) (r := .v (.bool _)) rfl rfl rfl trivial ?_)))))))))))))
 refine So.q rfl rfl (V.mv (v := .p (.v (.bool _))) rfl ?_)
 refine So.gd rfl rfl (lk rfl) (lk rfl) (fun h1 => ?_) (fun h1 => ?_)
 ·have h1 := of_decide_eq_false h1
  refine A.v rfl (V.ldPtr ty3 rfl rfl rfl (lk rfl) (v := .p (.v (.int .i64 _))) rfl (So.gy rfl rfl (lk rfl) (lk rfl) (A.v rfl (V.bin (a := .v (.int .i64 _)) (b := .v (.int .i64 8160)) (r := .v (.bool _)) rfl rfl rfl trivial (So.q rfl rfl (V.pkFalse (u := .p (.v (.bool _))) rfl rfl (So.e ?_)))))))
  show HT _ _ _ _ _
  refine R.cond rfl rfl (fun h2 => ?_) (fun h2 => ?_)
  ·have h2 := of_decide_eq_true h2
   refine HT.seq (HT.region S_hexpand_ok (So.q rfl rfl (V.as (v := .p (.v (.slice none 0 0))) rfl (So.e ?_))))
   show HT _ _ _ _ _
   refine R.phan 6 2 5 1 (.bs []) rfl rfl rfl ⟨rfl, rfl⟩ ?_
   refine HT.ret ?_
   exact ret_ok (sg [(2, 2)]) h rfl rfl rfl ⟨trivial, trivial⟩ ⟨rfl, trivial⟩ rfl ⟨⟨⟨le_own2 (by rfl) (by (show (_ : Nat) = _; (rw [expandN_no (by omega)]; rfl))), rfl⟩, trivial⟩, ⟨⟨_, rfl, .inl (ob_bs (by ((try dsimp only); ((show (_ : Nat) = _; (rw [expandN_no (by omega)]; rfl))))) (by ((try dsimp only); ((show (_ : List UInt8) = _; (rw [expandN_no (by omega)]; done)))))), trivial⟩, trivial⟩⟩
  ·have h2 := of_decide_eq_false h2
   refine HT.skip (HT.seq (HT.region S_hexpand_ok (So.q rfl rfl (V.ldPtr ty3 rfl rfl rfl (lk rfl) (v := .p (.v (.int .i64 _))) rfl (So.n (lk rfl) (A.mkB 2 ty22 ty5 rfl rfl rfl (by omega) rfl rfl trivial (So.n (lk rfl) (A.alloc1 3 ty22 rfl rfl trivial (x := .v (.slice none 0 0)) rfl (So.s (A.sto ty22 rfl rfl rfl (v := .own 2 0 _) rfl trivial rfl (lk rfl) rfl rfl (So.e (HT.seq (HT.seq ?_)))))))))))))
   refine HT.region S_hexpand_ok (So.q rfl rfl (V.ldPtr ty3 rfl rfl rfl (lk rfl) (v := .p (.v (.int .i64 _))) rfl (So.q rfl rfl (V.bin (a := .v (.int .i64 _)) (b := .v (.int .i64 0)) (r := .v (.bool _)) rfl rfl rfl trivial (So.e ?_)))))
   show HT _ _ _ _ _
   refine R.cond rfl rfl (fun h3 => ?_) (fun h3 => ?_)
   ·have h3 := of_decide_eq_true h3
    refine HT.seq (HT.region S_hexpand_ok (So.q rfl rfl (V.ldPtr ty22 rfl rfl rfl (lk rfl) (v := .own 2 0 _) rfl (So.q rfl rfl (V.as (v := .own 2 0 _) rfl (So.e ?_))))))
    show HT _ _ _ _ _
    refine HT.ret ?_
    exact ret_ok (sg [(2, 2)]) h rfl rfl rfl ⟨trivial, trivial⟩ ⟨rfl, trivial⟩ rfl ⟨⟨⟨le_own2 (by rfl) (by (show (_ : Nat) = _; (rw [expandN_0 (by omega)]; subst h3; rfl))), rfl⟩, trivial⟩, ⟨⟨_, rfl, .inl (ob_bs (by ((try dsimp only); ((show (_ : Nat) = _; (rw [expandN_0 (by omega)]; subst h3; rfl))))) (by ((try dsimp only); ((show (_ : List UInt8) = _; (rw [expandN_0 (by omega)]; subst h3; rfl)))))), trivial⟩, trivial⟩⟩
   ·have h3 := of_decide_eq_false h3
    refine HT.skip (HT.seq (HT.seq (HT.region S_hexpand_ok (So.q rfl rfl (V.mv (v := .p (.bs _)) rfl (So.q rfl rfl (V.mv (v := .p (.bs _)) rfl ?_)))))))
    refine So.n (lk rfl) (A.call0 [.p (.bs _), .p (.bs _)] 4 rfl rfl rfl rfl ⟨trivial, trivial, trivial⟩ trivial (_, _) ⟨.refl _, .refl _, trivial⟩ trivial (by trivial) (Φ := fun _ => True) (fun _ _ => trivial) (.inl rfl) (v := .clo 49 [.ptr 6 _, .ptr 7 _]) rfl (O' := (6, ⟨22, 1, _, true, .cells _⟩) :: (7, ⟨22, 1, _, true, .cells _⟩) :: _) rfl (fun h4 => ?_))
    refine So.e (HT.block ?_)
    refine HT.rangeFn rfl rfl rfl Tryd.func49 rfl rfl rfl rfl (by decide) [(5, .ptr 1 0), (6, .p (.v (.slice none 0 0))), (7, .ptr 3 0)] [1, 3] (fun _ => 1) (.exit 0) (pins_one (ss := fun _ => 1) rfl) ⟨rfl, (List.contains_iff_mem.1 rfl), rfl, trivial, rfl, (List.contains_iff_mem.1 rfl), trivial⟩ (fun l => ?_)
    show HT _ _ [(23, .p (.v undef)), (0, .p (.v (.func (.yield l) #[] #[]))), (1, .ptr 6 _), (2, .ptr 7 _)] _ _
    refine HT.seq (HT.region S_hexpand_ok (So.q rfl rfl (V.as (v := .p (.v (.slice none 0 0))) rfl (So.e (HT.seq (HT.region S_hexpand_ok (So.q rfl rfl (V.as (v := .p (.v (.int .i64 1))) rfl (So.e (HT.block ?_))))))))))
    refine R.loop (σ := Nat) (fun s => [(4, .p (.bs (tN k i s))), (5, .p (.v (.int .i64 ((s : Int) + 1))))]) (fun s => [(2, ⟨5, 1, 32 * s, true, .bs (okm k i s)⟩), (3, ⟨22, 1, 1, true, .cells [.own 2 0 (32 * s)]⟩)]) [0, 1, 2, 23] [1, 6, 7] (fun s => 32 * (s : Int) < n) (fun s => n.toNat - 32 * s) (0) (fr0 := [(0, .p (.v (.func (.yield _) #[] #[]))), (1, .ptr 6 0), (2, .ptr 7 0), (23, .p (.v undef))]) (O0 := [(1, ⟨_, _, _, _, .cells _⟩), (6, ⟨_, _, _, _, .cells _⟩), (7, ⟨_, _, _, _, .cells _⟩)]) rfl rfl (by omega) ⟨⟨⟨le_nil (by rfl), trivial⟩, ⟨le_int (by rfl), trivial⟩, ⟨.refl _, trivial⟩, ⟨.refl _, rfl⟩, ⟨.refl _, rfl⟩, ⟨.refl _, trivial⟩, trivial⟩, ⟨⟨_, rfl, .inl (ob_bs (by rfl) (by rfl)), trivial⟩, ⟨_, rfl, .inl (by rfl), ⟨rfl, trivial⟩⟩, ⟨_, rfl, .inl rfl, ⟨trivial, trivial⟩⟩, ⟨_, rfl, .inl rfl, ⟨trivial, trivial⟩⟩, ⟨_, rfl, .inl rfl, ⟨trivial, trivial⟩⟩, trivial⟩⟩ (fun s hP0 => ?_)
    refine HT.seq (HT.seq (HT.region S_hexpand_ok (So.q rfl rfl (V.mv (v := .p (.v (.int .i64 _))) rfl (So.q rfl rfl (V.bin (a := .v (.int .i64 _)) (b := .v (.int .i64 256)) (r := .v (.bool _)) rfl rfl rfl trivial (So.e ?_)))))))
    show HT _ _ _ _ _
    refine R.cond rfl rfl (fun h5 => ?_) (fun h5 => ?_)
    ·have h5 := of_decide_eq_true h5
     refine HT.skip (HT.seq (HT.block (HT.seq ?_)))
     refine HT.planS S_hexpand_ok S_hexpand_det mixed [0, 7, 8, 9] [⟨[0, 1, 2, 3, 4], 5, [0, 1, 2]⟩, ⟨[0, 1, 2], 6, [0]⟩] (by kernel_rfl) ?_
     have hcl := cat3_len (tN k i s) i (UInt8.ofInt ((s : Int) + 1))
     have htl0 := tN_le k i s
     have htl := tN_len k i s
     refine Pl.lk ?_
     refine Si.n rfl (lk rfl) (V.ldPtr ty22 rfl rfl rfl (lk rfl) (v := .p (.bs _)) rfl (Si.n rfl (lk rfl) (V.mv (v := .p (.bs _)) rfl (Si.n rfl (lk rfl) (V.ldPtr ty22 rfl rfl rfl (lk rfl) (v := .p (.bs _)) rfl (Si.n rfl (lk rfl) (V.mv (v := .p (.v (.int .i64 _))) rfl (Si.n rfl (lk rfl) (V.cvN ty5 ty3 (a := .v (.int .i64 _)) (r := .u8 _) rfl rfl (Si.e ?_))))))))))
     refine ⟨flEq_nil, fun ff => ?_⟩
     refine Lo.n rfl (lk rfl) (A.bsl 8 ty22 ty5 rfl (lk rfl) (lk rfl) (fun _ => rfl) rfl rfl ⟨lk rfl, lk rfl, trivial⟩ ⟨trivial, trivial⟩ rfl (N := 1) rfl (c := .bs [_]) rfl ?_)
     refine ⟨_, fun ff => ff, ap0d, rfl, FG.id, ?_⟩
     show planA _ _ _ _ _ [(0, .p (.bs _)), (1, .p (.bs _)), (2, .p (.bs _))] _ _ _
     refine Pl.lk ?_
     refine Si.n rfl (lk rfl) (V.ldPtr ty22 rfl rfl rfl (lk rfl) (v := .p (.bs _)) rfl (Si.n rfl (lk rfl) (V.mv (v := .p (.bs _)) rfl (Si.n rfl (lk rfl) (V.ldPtr ty22 rfl rfl rfl (lk rfl) (v := .p (.bs _)) rfl (Si.e ?_))))))
     refine ⟨(flEq_cons rfl (flEq_cons rfl (flEq_cons rfl flEq_nil))), fun ff => ?_⟩
     refine Lo.n rfl (lk rfl) (A.bsl 8 ty73 ty22 rfl (lk rfl) (lk rfl) (fun _ => rfl) rfl rfl ⟨lk rfl, lk rfl, trivial⟩ ⟨trivial, trivial, trivial, trivial⟩ rfl (N := 3) rfl (c := .rows _) rfl ?_)
     refine ⟨_, fun ff => Fr.frz 8 _ ff, az1d, rfl, (FG.frz 8 _ (flP_cons rfl flP_nil)), ?_⟩
     show planA _ _ _ _ _ [(0, .p (.bs _))] _ _ _
     refine Pl.e ?_
     refine Si.n rfl (lk rfl) (V.ldPtr ty22 rfl rfl rfl (lk rfl) (v := .p (.bs _)) rfl ?_)
     refine Si.n rfl (lk rfl) (V.call [.p (.sl _ _ _)] 9 rfl rfl rfl rfl ⟨trivial, trivial⟩ ⟨lk rfl, lk rfl, trivial⟩ [tN k i s, i, [UInt8.ofInt ((s : Int) + 1)]] ⟨le_sl rfl (by intro j hj; match j, hj with | 0, _ => rfl | 1, _ => rfl | 2, _ => rfl), trivial⟩ trivial (by omega) (Φ := fun _ => True) (fun _ _ => trivial) (.inr ⟨trivial, by simp [Hp.scal, OC.scal, PV.scal, BV.scal]⟩) (v := .p (.bs _)) rfl (fun h6 => ?_))
     refine Si.n rfl (lk rfl) (V.call [.p (.bs _), .p (.bs _)] 9 rfl rfl rfl rfl ⟨trivial, trivial, trivial⟩ ⟨lk rfl, lk rfl, trivial⟩ (_, _) ⟨.refl _, .refl _, trivial⟩ trivial (by (simp only [List.drop_zero, List.take_length]; omega)) (Φ := fun _ => True) (fun _ _ => trivial) (.inl ⟨trivial, trivial, trivial⟩) (v := .p (.bs _)) rfl (fun h7 => ?_))
     refine Si.n rfl (lk rfl) (V.as (v := .p (.bs _)) rfl (Si.e ?_))
     refine ⟨(flEq_cons rfl flEq_nil), ?_⟩
     show HT _ _ _ _ _
     refine HT.seq ?_
     refine R.tell [(4, .p (.bs (tN k i (s + 1))))] [] [0, 1, 2, 5, 6, 7, 10, 11, 12, 13, 14, 15, 17, 18, 23] [1, 2, 3, 6, 7, 8] (fr0 := [(0, .p (.v (.func (.yield _) #[] #[]))), (1, .ptr 6 0), (2, .ptr 7 0), (5, .p (.v (.int .i64 _))), (6, .p (.v (.int .i64 _))), (7, .p (.v (.bool true))), (10, .p (.bs _)), (11, .p (.bs _)), (12, .p (.bs _)), (13, .p (.v (.int .i64 _))), (14, .p (.u8 _)), (15, .p (.bs _)), (17, .p (.bs _)), (18, .p (.bs _)), (23, .p (.v undef))]) (O0 := [(1, ⟨_, _, _, _, .cells [.p (.v (.int .i64 _))]⟩), (2, ⟨_, _, _, _, .bs _⟩), (3, ⟨_, _, _, _, .cells [.own 2 0 _]⟩), (6, ⟨_, _, _, _, .cells [.p (.bs _)]⟩), (7, ⟨_, _, _, _, .cells [.p (.bs _)]⟩), (8, ⟨_, _, _, _, .rows _⟩)]) rfl rfl ⟨⟨⟨le_bs (by exact (tN_succ k i s)), trivial⟩, ⟨.refl _, trivial⟩, ⟨.refl _, rfl⟩, ⟨.refl _, rfl⟩, ⟨.refl _, trivial⟩, ⟨.refl _, trivial⟩, ⟨.refl _, trivial⟩, ⟨.refl _, trivial⟩, ⟨.refl _, trivial⟩, ⟨.refl _, trivial⟩, ⟨.refl _, trivial⟩, ⟨.refl _, trivial⟩, ⟨.refl _, trivial⟩, ⟨.refl _, trivial⟩, ⟨.refl _, trivial⟩, ⟨.refl _, trivial⟩, trivial⟩, ⟨⟨_, rfl, .inl rfl, ⟨trivial, trivial⟩⟩, ⟨_, rfl, .inl rfl, trivial⟩, ⟨_, rfl, .inl rfl, ⟨rfl, trivial⟩⟩, ⟨_, rfl, .inl rfl, ⟨trivial, trivial⟩⟩, ⟨_, rfl, .inl rfl, ⟨trivial, trivial⟩⟩, ⟨_, rfl, .inl rfl, trivial⟩, trivial⟩⟩ ?_
     show HT _ _ _ _ _
     refine HT.region S_hexpand_ok (So.q rfl rfl (V.mv (v := .p (.v (.func (.yield _) #[] #[]))) rfl (So.q rfl rfl (V.mv (v := .p (.bs _)) rfl (So.n (lk rfl) (A.yield rfl rfl rfl rfl rfl rfl rfl [1, 3, 6, 7] (fun _ => 1) (pins_one (ss := fun _ => 1) rfl) [(0, .p (.v (.func (.yield _) #[] #[]))), (1, .ptr 6 0), (2, .ptr 7 0), (4, .p (.bs _)), (5, .p (.v (.int .i64 _))), (6, .p (.v (.int .i64 _))), (7, .p (.v (.bool true))), (10, .p (.bs _)), (11, .p (.bs _)), (12, .p (.bs _)), (13, .p (.v (.int .i64 _))), (14, .p (.u8 _)), (15, .p (.bs _)), (17, .p (.bs _)), (18, .p (.bs _)), (19, .p (.v (.func (.yield _) #[] #[]))), (20, .p (.bs _))] ⟨rfl, trivial, rfl, (List.contains_iff_mem.1 rfl), rfl, (List.contains_iff_mem.1 rfl), rfl, trivial, rfl, trivial, rfl, trivial, rfl, trivial, rfl, trivial, rfl, trivial, rfl, trivial, rfl, trivial, rfl, trivial, rfl, trivial, rfl, trivial, rfl, trivial, rfl, trivial, rfl, trivial, trivial⟩ rfl ⟨(show _ ≤ _ by omega), trivial, (show _ ≤ _ by omega), trivial⟩ ?_))))))
     show HT _ _ [(23, .p (.bs _)), (5, .ptr 1 0), (6, .p (.v (.slice none 0 0))), (7, .ptr 3 0)] _ _
     refine HT.region S_hexpand_ok (So.q rfl rfl (V.as (v := .p (.bs _)) rfl (So.e (HT.block (HT.seq ?_)))))
     refine HT.tail S_hexpand_ok mixed 10 (by kernel_rfl) (by kernel_rfl) ?_
     refine So.q rfl rfl (V.ldPtr ty22 rfl rfl rfl (lk rfl) (v := .own 2 0 _) rfl (So.q rfl rfl (V.mv (v := .p (.bs _)) rfl (So.q rfl rfl (V.mv (v := .p (.bs _)) rfl (So.q rfl rfl (V.len ty22 (v := .p (.bs _)) rfl rfl (So.q rfl rfl (V.ldPtr ty3 rfl rfl rfl (lk rfl) (v := .p (.v (.int .i64 _))) rfl (So.q rfl rfl (V.ldPtr ty22 rfl rfl rfl (lk rfl) (v := .own 2 0 _) rfl (So.q rfl rfl (V.len ty22 (v := .own 2 0 _) rfl rfl (So.q rfl rfl (V.subI rfl rfl (by omega) (So.q rfl rfl (V.pb (r := .v (.int .i64 _)) (by decide) rfl rfl (So.q rfl rfl (V.cutBsH ty22 ty5 rfl rfl rfl (by omega) (.inl rfl) rfl ?_)))))))))))))))))))
     refine So.n (lk rfl) (A.apOwn ty22 ty5 rfl rfl rfl rfl (u := .p (.bs _)) rfl rfl (l' := okm k i s ++ (tN k i (s + 1)).take (min 32 (n.toNat - 32 * s))) (by exact okm_ap (by omega)) (mn := 32 * s + min 32 (n.toNat - 32 * s)) (by rw [List.length_take, htl]; omega) (by omega) rfl rfl rfl (So.s (A.sto ty22 rfl rfl rfl (v := .own 2 0 _) rfl trivial rfl (lk rfl) rfl rfl (So.e (HT.seq (HT.region S_hexpand_ok (So.q rfl rfl (V.ldPtr ty22 rfl rfl rfl (lk rfl) (v := .own 2 0 _) rfl (So.q rfl rfl (V.len ty22 (v := .own 2 0 _) rfl rfl (So.q rfl rfl (V.ldPtr ty3 rfl rfl rfl (lk rfl) (v := .p (.v (.int .i64 _))) rfl (So.q rfl rfl (V.bin (a := .v (.int .i64 _)) (b := .v (.int .i64 _)) (r := .v (.bool _)) rfl rfl rfl trivial (So.e ?_)))))))))))))))
     show HT _ _ _ _ _
     refine R.cond rfl rfl (fun h8 => ?_) (fun h8 => ?_)
     ·have h8 := of_decide_eq_true h8
      refine HT.exit ?_
      refine ⟨rfl, ⟨trivial, (show _ ≤ _ by omega), (show _ ≤ _ by omega), trivial, trivial, trivial, trivial, trivial, trivial, trivial, trivial, trivial, trivial, trivial, trivial, trivial, trivial, trivial⟩, ?_⟩
      refine So.q rfl rfl (V.not (b := false) rfl (So.e ?_))
      show HT _ _ _ _ _
      refine R.condT rfl ?_
      refine HT.ret ?_
      refine ⟨.inr rfl, ⟨(show _ ≤ _ by omega), trivial, (show _ ≤ _ by omega), trivial⟩, .inr ⟨rfl, ?_⟩⟩
      refine HT.exit ?_
      show HT _ _ _ _ _
      refine HT.seq ?_
      try (have hx := okm_end (k := k) (i := i) hP0 (by omega) (by omega))
      refine R.norm [6, 7] [2, 3] (fr0 := [(6, .p (.v (.slice none 0 0))), (7, .ptr 3 0)]) (O0 := [(2, ⟨_, _, _, _, .bs _⟩), (3, ⟨_, _, _, _, .cells [.own 2 0 _]⟩)]) rfl rfl ⟨⟨⟨.refl _, trivial⟩, ⟨.refl _, rfl⟩, trivial⟩, ⟨⟨_, rfl, .inl rfl, trivial⟩, ⟨_, rfl, .inl rfl, ⟨rfl, trivial⟩⟩, trivial⟩⟩ ?_
      refine HT.region S_hexpand_ok (So.q rfl rfl (V.ldPtr ty22 rfl rfl rfl (lk rfl) (v := .own 2 0 _) rfl (So.q rfl rfl (V.as (v := .own 2 0 _) rfl (So.e ?_)))))
      show HT _ _ _ _ _
      refine HT.ret ?_
      exact ret_ok (sg [(2, 2)]) h rfl rfl rfl ⟨trivial, trivial⟩ ⟨rfl, trivial⟩ rfl ⟨⟨⟨le_own2 (by rfl) (by (show (_ : Nat) = _; (rw [expandN_len (by omega) (by omega)]; omega))), rfl⟩, trivial⟩, ⟨⟨_, rfl, .inl (ob_bs (by ((try dsimp only); ((show (_ : Nat) = _; (rw [expandN_len (by omega) (by omega)]; omega))))) (by ((try dsimp only); ((show (_ : List UInt8) = _; exact hx))))), trivial⟩, trivial⟩⟩
     ·have h8 := of_decide_eq_false h8
      refine HT.skip ?_
      refine ⟨⟨trivial, (show _ ≤ _ by omega), (show _ ≤ _ by omega), trivial, trivial, trivial, trivial, trivial, trivial, trivial, trivial, trivial, trivial, trivial, trivial, trivial, trivial, trivial⟩, ?_⟩
      refine So.q rfl rfl (V.not (b := true) rfl (So.e ?_))
      show HT _ _ _ _ _
      refine R.condF rfl ?_
      refine HT.skip (HT.region S_hexpand_ok (So.q rfl rfl (V.mv (v := .p (.v (.int .i64 _))) rfl (So.q rfl rfl (V.addI rfl rfl (by omega) (So.q rfl rfl (V.as (v := .p (.v (.int .i64 _))) rfl (So.e ?_))))))))
      refine ⟨s + 1, by omega, by omega, ⟨⟨⟨le_bs (by rfl), trivial⟩, ⟨le_int (by rfl), trivial⟩, ⟨.refl _, trivial⟩, ⟨.refl _, rfl⟩, ⟨.refl _, rfl⟩, ⟨.refl _, trivial⟩, trivial⟩, ⟨⟨_, rfl, .inl (ob_bs (by (show (_ : Nat) = _; omega)) (by (show (_ : List UInt8) = _; exact okm_next (by omega)))), trivial⟩, ⟨_, rfl, .inl (by (have hm : 32 * s + min 32 (n.toNat - 32 * s) = 32 * (s + 1) := (by omega); rw [hm]; rfl)), ⟨rfl, trivial⟩⟩, ⟨_, rfl, .inl rfl, ⟨trivial, trivial⟩⟩, ⟨_, rfl, .inl rfl, ⟨trivial, trivial⟩⟩, ⟨_, rfl, .inl rfl, ⟨trivial, trivial⟩⟩, trivial⟩⟩⟩
    ·have h5 := of_decide_eq_false h5
     refine HT.exit ?_
     refine ⟨.inl rfl, ⟨(show _ ≤ _ by omega), trivial, (show _ ≤ _ by omega), trivial⟩, .inl ⟨rfl, ?_⟩⟩
     show HT _ _ _ _ _
     refine HT.seq ?_
     try (have hx := okm_end (k := k) (i := i) hP0 (by omega) (by omega))
     refine R.norm [6, 7] [2, 3] (fr0 := [(6, .p (.v (.slice none 0 0))), (7, .ptr 3 0)]) (O0 := [(2, ⟨_, _, _, _, .bs _⟩), (3, ⟨_, _, _, _, .cells [.own 2 0 _]⟩)]) rfl rfl ⟨⟨⟨.refl _, trivial⟩, ⟨.refl _, rfl⟩, trivial⟩, ⟨⟨_, rfl, .inl rfl, trivial⟩, ⟨_, rfl, .inl rfl, ⟨rfl, trivial⟩⟩, trivial⟩⟩ ?_
     refine HT.region S_hexpand_ok (So.q rfl rfl (V.ldPtr ty22 rfl rfl rfl (lk rfl) (v := .own 2 0 _) rfl (So.q rfl rfl (V.as (v := .own 2 0 _) rfl (So.e ?_)))))
     show HT _ _ _ _ _
     refine HT.ret ?_
     exact ret_ok (sg [(2, 2)]) h rfl rfl rfl ⟨trivial, trivial⟩ ⟨rfl, trivial⟩ rfl ⟨⟨⟨le_own2 (by rfl) (by (show (_ : Nat) = _; omega)), rfl⟩, trivial⟩, ⟨⟨_, rfl, .inl (ob_bs (by ((try dsimp only); ((show (_ : Nat) = _; omega)))) (by ((try dsimp only); ((show (_ : List UInt8) = _; (exfalso; omega)))))), trivial⟩, trivial⟩⟩
 ·have h1 := of_decide_eq_true h1
  refine So.gn (b := true) rfl rfl rfl (lk rfl) (lk rfl) (So.q rfl rfl (V.pkTrue (u := .p (.v (.bool true))) rfl rfl (So.e ?_)))
  show HT _ _ _ _ _
  refine R.condT rfl ?_
  refine HT.seq (HT.region S_hexpand_ok (So.q rfl rfl (V.as (v := .p (.v (.slice none 0 0))) rfl (So.e ?_))))
  show HT _ _ _ _ _
  refine R.phan 6 2 5 1 (.bs []) rfl rfl rfl ⟨rfl, rfl⟩ ?_
  refine HT.ret ?_
  exact ret_ok (sg [(2, 2)]) h rfl rfl rfl ⟨trivial, trivial⟩ ⟨rfl, trivial⟩ rfl ⟨⟨⟨le_own2 (by rfl) (by (show (_ : Nat) = _; (rw [expandN_no (by omega)]; rfl))), rfl⟩, trivial⟩, ⟨⟨_, rfl, .inl (ob_bs (by ((try dsimp only); ((show (_ : Nat) = _; (rw [expandN_no (by omega)]; rfl))))) (by ((try dsimp only); ((show (_ : List UInt8) = _; (rw [expandN_no (by omega)]; done)))))), trivial⟩, trivial⟩⟩
def longSp : Sp := ⟨[], mkE (α := (List UInt8)) (fun t => [.p (.bs t)]) (fun t => []) (fun t => t.length < 16384) (fun t => [.own 2 0 ((longF t).length)]) (fun t => [(2, ⟨5, 1, (longF t).length, true, .bs (longF t)⟩)])⟩
def S_long : FuncId → Option Sp := fun _ => none
theorem S_long_ok : ∀ f s, S_long f = some s → FOK Tryd.prog gl f s := fun f s h => by cases h
set_option maxHeartbeats 1000000 in
set_option maxRecDepth 1000 in
theorem long_ok : FOK Tryd.prog gl 41 longSp := by
 refine FOK.ofE (tyOf_ok Tryd.prog) (slots := [2]) (nt := 22) Tryd.func41 rfl rfl rfl rfl (by decide) 1 (fun _ => rfl) (by decide) (fun _ => ⟨trivial, trivial⟩) ?_
 rintro t kk hlen hpre h
 have hl0 : (t).length ≤ 9223372036854775807 := hlen.1
 replace hpre : t.length < 16384 := hpre
 show HT (cx Tryd.prog 22 (tyOf Tryd.prog) gl []) _ [(0, .p (.bs t))] [] _
 refine HT.seq (HT.region S_long_ok (So.q rfl rfl (V.as (v := .p (.v (.slice none 0 0))) rfl (So.e (HT.seq (HT.region S_long_ok (So.q rfl rfl (V.mv (v := .p (.bs _)) rfl (So.q rfl rfl (V.len ty22 (v := .p (.bs _)) rfl rfl (So.q rfl rfl (V.as (v := .p (.v (.int .i64 _))) rfl (So.e ?_)))))))))))))
 show HT _ _ _ _ _
 refine HT.seq (HT.seq (HT.region S_long_ok (So.q rfl rfl (V.mv (v := .p (.v (.int .i64 _))) rfl (So.q rfl rfl (V.bin (a := .v (.int .i64 _)) (b := .v (.int .i64 64)) (r := .v (.bool _)) rfl rfl rfl trivial (So.e ?_)))))))
 show HT _ _ _ _ _
 refine R.cond rfl rfl (fun h1 => ?_) (fun h1 => ?_)
 ·have h1 := of_decide_eq_true h1
  refine HT.seq (HT.region S_long_ok (So.q rfl rfl (V.mv (v := .p (.v (.int .i64 _))) rfl (So.q rfl rfl (V.cvN ty5 ty3 (a := .v (.int .i64 _)) (r := .u8 _) rfl rfl (So.n (lk rfl) (A.bsl 1 ty22 ty5 rfl (lk rfl) (lk rfl) (fun _ => rfl) rfl rfl trivial ⟨trivial, trivial⟩ rfl (N := 1) rfl (c := .bs [_]) rfl (So.q rfl rfl (V.mv (v := .p (.bs _)) rfl (So.n (lk rfl) (A.apOwn ty22 ty5 rfl rfl rfl rfl (u := .p (.bs _)) rfl rfl rfl rfl (by omega) rfl rfl rfl (So.q rfl rfl (V.as (v := .own 1 0 _) rfl (So.e ?_))))))))))))))
  show HT _ _ _ _ _
  refine HT.ret ?_
  exact ret_ok (sg [(2, 1)]) h rfl rfl rfl ⟨trivial, trivial⟩ ⟨rfl, trivial⟩ rfl ⟨⟨⟨le_own2 (by rfl) (by (unfold longF; rw [if_pos (by omega)]; (simp; omega))), rfl⟩, trivial⟩, ⟨⟨_, rfl, .inl (ob_bs (by ((try dsimp only); ((unfold longF; rw [if_pos (by omega)]; (simp; omega))))) (by ((try dsimp only); ((unfold longF; rw [if_pos (by omega)]; rfl))))), trivial⟩, trivial⟩⟩
 ·have h1 := of_decide_eq_false h1
  refine HT.skip (HT.seq (HT.region S_long_ok (So.q rfl rfl (V.mv (v := .p (.v (.int .i64 _))) rfl (So.q rfl rfl (V.shrI (n := 8) (M := 256) rfl rfl rfl (by decide) (So.q rfl rfl (V.cvN ty5 ty3 (a := .v (.int .i64 _)) (r := .u8 _) rfl rfl (So.q rfl rfl (V.bin (a := .u8 _) (b := .u8 64) (r := .u8 _) rfl rfl rfl trivial (So.q rfl rfl (V.mv (v := .p (.v (.int .i64 _))) rfl (So.q rfl rfl (V.cvN ty5 ty3 (a := .v (.int .i64 _)) (r := .u8 _) rfl rfl (So.n (lk rfl) (A.bsl 1 ty22 ty5 rfl (lk rfl) (lk rfl) (fun _ => rfl) rfl rfl trivial ⟨trivial, trivial, trivial⟩ rfl (N := 2) rfl (c := .bs [_, _]) rfl ?_))))))))))))))))
  refine So.q rfl rfl (V.mv (v := .p (.bs _)) rfl (So.n (lk rfl) (A.apOwn ty22 ty5 rfl rfl rfl rfl (u := .p (.bs _)) rfl rfl rfl rfl (by omega) rfl rfl rfl (So.q rfl rfl (V.as (v := .own 1 0 _) rfl (So.e ?_))))))
  show HT _ _ _ _ _
  refine HT.ret ?_
  exact ret_ok (sg [(2, 1)]) h rfl rfl rfl ⟨trivial, trivial⟩ ⟨rfl, trivial⟩ rfl ⟨⟨⟨le_own2 (by rfl) (by (unfold longF; rw [if_neg (by omega)]; (simp; omega))), rfl⟩, trivial⟩, ⟨⟨_, rfl, .inl (ob_bs (by ((try dsimp only); ((unfold longF; rw [if_neg (by omega)]; (simp; omega))))) (by ((try dsimp only); ((unfold longF; rw [if_neg (by omega)]; rfl))))), trivial⟩, trivial⟩⟩
def rlongSp : Sp := ⟨[], mkE (α := (List UInt8)) (fun t => [.p (.bs t)]) (fun t => []) (fun t => t.length < 16384) (fun t => [.own 2 0 ((longF t).length)]) (fun t => [(2, ⟨5, 1, (longF t).length, true, .bs (longF t)⟩)])⟩
def S_rlong : FuncId → Option Sp := fun _ => none
theorem S_rlong_ok : ∀ f s, S_rlong f = some s → FOK Tryd.prog gl f s := fun f s h => by cases h
set_option maxHeartbeats 1000000 in
set_option maxRecDepth 1000 in
theorem rlong_ok : FOK Tryd.prog gl 47 rlongSp := by
 refine FOK.ofE (tyOf_ok Tryd.prog) (slots := [2]) (nt := 24) Tryd.func47 rfl rfl rfl rfl (by decide) 1 (fun _ => rfl) (by decide) (fun _ => ⟨trivial, trivial⟩) ?_
 rintro t kk hlen hpre h
 have hl0 : (t).length ≤ 9223372036854775807 := hlen.1
 replace hpre : t.length < 16384 := hpre
 show HT (cx Tryd.prog 24 (tyOf Tryd.prog) gl []) _ [(0, .p (.bs t))] [] _
 refine HT.seq (HT.region S_rlong_ok (So.q rfl rfl (V.as (v := .p (.v (.slice none 0 0))) rfl (So.e (HT.seq (HT.seq (HT.region S_rlong_ok (So.q rfl rfl (V.mv (v := .p (.bs _)) rfl (So.q rfl rfl (V.len ty22 (v := .p (.bs _)) rfl rfl (So.q rfl rfl (V.bin (a := .v (.int .i64 _)) (b := .v (.int .i64 64)) (r := .v (.bool _)) rfl rfl rfl trivial ?_)))))))))))))
 refine So.e ?_
 show HT _ _ _ _ _
 refine R.cond rfl rfl (fun h1 => ?_) (fun h1 => ?_)
 ·have h1 := of_decide_eq_true h1
  refine HT.seq (HT.region S_rlong_ok (So.q rfl rfl (V.mv (v := .p (.bs _)) rfl (So.q rfl rfl (V.len ty22 (v := .p (.bs _)) rfl rfl (So.q rfl rfl (V.cvN ty5 ty3 (a := .v (.int .i64 _)) (r := .u8 _) rfl rfl (So.n (lk rfl) (A.bsl 1 ty22 ty5 rfl (lk rfl) (lk rfl) (fun _ => rfl) rfl rfl trivial ⟨trivial, trivial⟩ rfl (N := 1) rfl (c := .bs [_]) rfl (So.q rfl rfl (V.mv (v := .p (.bs _)) rfl (So.n (lk rfl) (A.apOwn ty22 ty5 rfl rfl rfl rfl (u := .p (.bs _)) rfl rfl rfl rfl (by omega) rfl rfl rfl (So.q rfl rfl (V.as (v := .own 1 0 _) rfl (So.e ?_))))))))))))))))
  show HT _ _ _ _ _
  refine HT.ret ?_
  exact ret_ok (sg [(2, 1)]) h rfl rfl rfl ⟨trivial, trivial⟩ ⟨rfl, trivial⟩ rfl ⟨⟨⟨le_own2 (by rfl) (by (unfold longF; rw [if_pos (by omega)]; (simp; omega))), rfl⟩, trivial⟩, ⟨⟨_, rfl, .inl (ob_bs (by ((try dsimp only); ((unfold longF; rw [if_pos (by omega)]; (simp; omega))))) (by ((try dsimp only); ((unfold longF; rw [if_pos (by omega)]; rfl))))), trivial⟩, trivial⟩⟩
 ·have h1 := of_decide_eq_false h1
  refine HT.skip (HT.seq (HT.region S_rlong_ok (So.q rfl rfl (V.mv (v := .p (.bs _)) rfl (So.q rfl rfl (V.len ty22 (v := .p (.bs _)) rfl rfl (So.q rfl rfl (V.addI rfl rfl (by omega) (So.q rfl rfl (V.as (v := .p (.v (.int .i64 _))) rfl (So.e (HT.seq (HT.region S_rlong_ok ?_)))))))))))))
  refine So.q rfl rfl (V.mv (v := .p (.v (.int .i64 _))) rfl (So.q rfl rfl (V.shrI (n := 8) (M := 256) rfl rfl rfl (by decide) (So.q rfl rfl (V.cvN ty5 ty3 (a := .v (.int .i64 _)) (r := .u8 _) rfl rfl (So.q rfl rfl (V.mv (v := .p (.v (.int .i64 _))) rfl (So.q rfl rfl (V.cvN ty5 ty3 (a := .v (.int .i64 _)) (r := .u8 _) rfl rfl (So.n (lk rfl) (A.bsl 1 ty22 ty5 rfl (lk rfl) (lk rfl) (fun _ => rfl) rfl rfl trivial ⟨trivial, trivial, trivial⟩ rfl (N := 2) rfl (c := .bs [_, _]) rfl (So.q rfl rfl (V.mv (v := .p (.bs _)) rfl (So.n (lk rfl) (A.apOwn ty22 ty5 rfl rfl rfl rfl (u := .p (.bs _)) rfl rfl rfl rfl (by omega) rfl rfl rfl (So.q rfl rfl (V.as (v := .own 1 0 _) rfl (So.e ?_))))))))))))))))))
  show HT _ _ _ _ _
  refine HT.ret ?_
  exact ret_ok (sg [(2, 1)]) h rfl rfl rfl ⟨trivial, trivial⟩ ⟨rfl, trivial⟩ rfl ⟨⟨⟨le_own2 (by rfl) (by (unfold longF; rw [if_neg (by omega)]; (simp; omega))), rfl⟩, trivial⟩, ⟨⟨_, rfl, .inl (ob_bs (by ((try dsimp only); ((unfold longF; rw [if_neg (by omega)]; (simp; omega))))) (by ((try dsimp only); ((unfold longF; rw [if_neg (by omega)]; (rw [long_r1 hpre, long_r2]; rfl)))))), trivial⟩, trivial⟩⟩
def hlabelSp : Sp := ⟨[], mkE (α := (List UInt8) × (List UInt8) × (List UInt8) × Int) (fun (k, m, c, n) => [.p (.bs k), .p (.str m), .p (.bs c), .p (.v (.int .i64 n))]) (fun (k, m, c, n) => []) (fun (k, m, c, n) => k.length ≤ 1000000000) (fun (k, m, c, n) => [.own 2 0 ((labelF k m c n).length)]) (fun (k, m, c, n) => [(2, ⟨5, 1, (labelF k m c n).length, true, .bs (labelF k m c n)⟩)])⟩
def S_hlabel : FuncId → Option Sp := fun f => if f = 41 then some longSp else if f = 40 then some concatSp else if f = 39 then some hexpandSp else none
theorem S_hlabel_ok : ∀ f s, S_hlabel f = some s → FOK Tryd.prog gl f s := fun f s h => by
 unfold S_hlabel at h
 split at h
 ·rename_i e; cases h; subst e; exact long_ok
 split at h
 ·rename_i e; cases h; subst e; exact concat_ok
 split at h
 ·rename_i e; cases h; subst e; exact hexpand_ok
 cases h
set_option maxHeartbeats 1000000 in
set_option maxRecDepth 20000 in
theorem hlabel_ok : FOK Tryd.prog gl 31 hlabelSp := by
 refine FOK.ofE (tyOf_ok Tryd.prog) (slots := [8]) (nt := 42) Tryd.func31 rfl rfl rfl rfl (by decide) 4 (fun ⟨_, _, _, _⟩ => rfl) (by decide) (fun ⟨_, _, _, _⟩ => ⟨trivial, trivial, trivial, trivial, trivial⟩) ?_
 rintro ⟨k, m, c, n⟩ kk hlen hpre h
 have hl0 : (k).length ≤ 9223372036854775807 := hlen.1
 have hl2 : (c).length ≤ 9223372036854775807 := hlen.2.2.1
 replace hpre : k.length ≤ 1000000000 := hpre
 show HT (cx Tryd.prog 42 (tyOf Tryd.prog) gl []) _ [(0, .p (.bs k)), (1, .p (.str m)), (2, .p (.bs c)), (3, .p (.v (.int .i64 n)))] [] _
 have hl1 := longF_len (lbl ++ m)
 have hl2 := longF_len c
 have hl3 : (lbl ++ m).length = 8 + m.length := by rw [List.length_append]; rfl
 have hl4 := congrArg List.length (infoG_cat m c n)
 have hl5 : (infoG m c n).length = 2 + (longF (lbl ++ m)).length + (longF c).length := by unfold infoG; simp; omega
 refine HT.seq (HT.region S_hlabel_ok (So.q rfl rfl (V.as (v := .p (.v (.slice none 0 0))) rfl (So.e (HT.seq (HT.seq (HT.region S_hlabel_ok (So.q rfl rfl (V.mv (v := .p (.v (.int .i64 _))) rfl (So.q rfl rfl (V.bin (a := .v (.int .i64 _)) (b := .v (.int .i64 0)) (r := .v (.bool _)) rfl rfl rfl trivial (So.q rfl rfl (V.mv (v := .p (.v (.bool _))) rfl ?_)))))))))))))
 refine So.gd rfl rfl (lk rfl) (lk rfl) (fun h1 => ?_) (fun h1 => ?_)
 ·have h1 := of_decide_eq_false h1
  refine A.v rfl (V.mv (v := .p (.v (.int .i64 _))) rfl (So.gy rfl rfl (lk rfl) (lk rfl) (A.v rfl (V.bin (a := .v (.int .i64 _)) (b := .v (.int .i64 8160)) (r := .v (.bool _)) rfl rfl rfl trivial (So.q rfl rfl (V.pkFalse (u := .p (.v (.bool _))) rfl rfl (So.q rfl rfl (V.mv (v := .p (.v (.bool _))) rfl ?_))))))))
  refine So.gd rfl rfl (lk rfl) (lk rfl) (fun h2 => ?_) (fun h2 => ?_)
  ·have h2 := of_decide_eq_false h2
   refine A.v rfl (V.mv (v := .p (.str _)) rfl (So.gy rfl rfl (lk rfl) (lk rfl) (A.v rfl (V.lenStr ty9 rfl (So.gy rfl rfl (lk rfl) (lk rfl) (A.v rfl (V.bin (a := .v (.int .i64 _)) (b := .v (.int .i64 40)) (r := .v (.bool _)) rfl rfl rfl trivial (So.q rfl rfl (V.pkFalse (u := .p (.v (.bool _))) rfl rfl (So.q rfl rfl (V.mv (v := .p (.v (.bool _))) rfl ?_)))))))))))
   refine So.gd rfl rfl (lk rfl) (lk rfl) (fun h3 => ?_) (fun h3 => ?_)
   ·have h3 := of_decide_eq_false h3
    refine A.v rfl (V.mv (v := .p (.bs _)) rfl (So.gy rfl rfl (lk rfl) (lk rfl) (A.v rfl (V.len ty22 (v := .p (.bs _)) rfl rfl (So.gy rfl rfl (lk rfl) (lk rfl) (A.v rfl (V.bin (a := .v (.int .i64 _)) (b := .v (.int .i64 16000)) (r := .v (.bool _)) rfl rfl rfl trivial (So.q rfl rfl (V.pkFalse (u := .p (.v (.bool _))) rfl rfl (So.e ?_))))))))))
    show HT _ _ _ _ _
    refine R.cond rfl rfl (fun h4 => ?_) (fun h4 => ?_)
    ·have h4 := of_decide_eq_true h4
     refine HT.seq (HT.region S_hlabel_ok (So.q rfl rfl (V.as (v := .p (.v (.slice none 0 0))) rfl (So.e ?_))))
     show HT _ _ _ _ _
     refine R.phan 8 1 5 1 (.bs []) rfl rfl rfl ⟨rfl, rfl⟩ ?_
     refine HT.ret ?_
     exact ret_ok (sg [(2, 1)]) h rfl rfl rfl ⟨trivial, trivial⟩ ⟨rfl, trivial⟩ rfl ⟨⟨⟨le_own2 (by rfl) (by (show (_ : Nat) = _; (rw [labelF_no (by omega)]; rfl))), rfl⟩, trivial⟩, ⟨⟨_, rfl, .inl (ob_bs (by ((try dsimp only); ((show (_ : Nat) = _; (rw [labelF_no (by omega)]; rfl))))) (by ((try dsimp only); ((show (_ : List UInt8) = _; (rw [labelF_no (by omega)]; done)))))), trivial⟩, trivial⟩⟩
    ·have h4 := of_decide_eq_false h4
     refine HT.skip (HT.seq (HT.region S_hlabel_ok (So.q rfl rfl (V.mv (v := .p (.bs _)) rfl (So.q rfl rfl (V.mv (v := .p (.v (.int .i64 _))) rfl (So.q rfl rfl (V.shrI (n := 8) (M := 256) rfl rfl rfl (by decide) (So.q rfl rfl (V.cvN ty5 ty3 (a := .v (.int .i64 _)) (r := .u8 _) rfl rfl (So.q rfl rfl (V.mv (v := .p (.v (.int .i64 _))) rfl (So.q rfl rfl (V.cvN ty5 ty3 (a := .v (.int .i64 _)) (r := .u8 _) rfl rfl (So.n (lk rfl) (A.bsl 1 ty22 ty5 rfl (lk rfl) (lk rfl) (fun _ => rfl) rfl rfl trivial ⟨trivial, trivial, trivial⟩ rfl (N := 2) rfl (c := .bs [_, _]) rfl ?_))))))))))))))))
     refine So.q rfl rfl (V.mv (v := .p (.str _)) rfl (So.q rfl rfl (V.bin (a := .str [71, 75, 65, 32, 49, 46, 48, 32]) (b := .str _) (r := .str _) rfl rfl rfl (by (simp [maxLen]; omega)) (So.n (lk rfl) (A.cvS 2 ty22 ty5 ty9 rfl rfl (by (simp; omega)) rfl trivial ?_)))))
     refine So.n (lk rfl) (A.call0 [.p (.bs _)] 3 rfl rfl rfl rfl ⟨trivial, trivial⟩ trivial (lbl ++ m) ⟨le_bs (by rw [take_full]; rfl), trivial⟩ trivial (by omega) (Φ := fun _ => True) (fun _ _ => trivial) (.inr ⟨trivial, by simp [Hp.scal, OC.scal, PV.scal, BV.scal]⟩) (v := .own 5 0 _) rfl (O' := (5, ⟨5, 1, _, true, .bs _⟩) :: _) rfl (fun h5 => ?_))
     refine So.q rfl rfl (V.mv (v := .p (.bs _)) rfl ?_)
     refine So.n (lk rfl) (A.call0 [.p (.bs _)] 6 rfl rfl rfl rfl ⟨trivial, trivial⟩ trivial _ ⟨.refl _, trivial⟩ trivial (by omega) (Φ := fun _ => True) (fun _ _ => trivial) (.inl rfl) (v := .own 8 0 _) rfl (O' := (8, ⟨5, 1, _, true, .bs _⟩) :: _) rfl (fun h6 => ?_))
     refine So.n (lk rfl) (A.bsl 3 ty73 ty22 rfl (lk rfl) (lk rfl) (fun _ => rfl) rfl rfl trivial ⟨trivial, trivial, trivial, trivial⟩ rfl (N := 3) rfl (c := .rows _) rfl ?_)
     refine So.n (lk rfl) (A.call0 [.p (.sl _ _ _)] 4 rfl rfl rfl rfl ⟨trivial, trivial⟩ trivial [[UInt8.ofInt (n / 256), UInt8.ofInt n], longF (lbl ++ m), longF c] ⟨le_sl rfl (by intro j hj; match j, hj with | 0, _ => rfl | 1, _ => exact congrArg PV.bs (take_full _) | 2, _ => exact congrArg PV.bs (take_full _)), trivial⟩ trivial (by omega) (Φ := fun _ => True) (fun _ _ => trivial) (.inr ⟨trivial, by simp [Hp.scal, OC.scal, PV.scal, BV.scal]⟩) (v := .own 6 0 _) rfl (O' := (6, ⟨5, 1, _, true, .bs _⟩) :: _) rfl (fun h7 => ?_))
     refine So.q rfl rfl (V.mv (v := .p (.v (.int .i64 _))) rfl ?_)
     refine So.n (lk rfl) (A.call0 [.p (.bs _), .p (.bs _), .p (.v (.int .i64 _))] 7 rfl rfl rfl rfl ⟨trivial, trivial, trivial, trivial⟩ trivial (k, infoG m c n, n) ⟨.refl _, le_bs (by rw [take_full]; exact infoG_cat m c n), .refl _, trivial⟩ trivial (by omega) (Φ := fun _ => True) (fun _ _ => trivial) (.inr ⟨trivial, by simp [Hp.scal, OC.scal, PV.scal, BV.scal]⟩) (v := .own 9 0 _) rfl (O' := (9, ⟨5, 1, _, true, .bs _⟩) :: _) rfl (fun h8 => ?_))
     refine So.q rfl rfl (V.as (v := .own 9 0 _) rfl (So.e ?_))
     show HT _ _ _ _ _
     refine HT.ret ?_
     exact ret_ok (sg [(2, 9)]) h rfl rfl rfl ⟨trivial, trivial⟩ ⟨rfl, trivial⟩ rfl ⟨⟨⟨le_own2 (by rfl) (by (show (_ : Nat) = _; (rw [labelF_yes (by omega)]))), rfl⟩, trivial⟩, ⟨⟨_, rfl, .inl (ob_bs (by ((try dsimp only); ((show (_ : Nat) = _; (rw [labelF_yes (by omega)]))))) (by ((try dsimp only); ((show (_ : List UInt8) = _; (rw [labelF_yes (by omega)])))))), trivial⟩, trivial⟩⟩
   ·have h3 := of_decide_eq_true h3
    refine So.gn (b := true) rfl rfl rfl (lk rfl) (lk rfl) (So.gn (b := true) rfl rfl rfl (lk rfl) (lk rfl) (So.q rfl rfl (V.pkTrue (u := .p (.v (.bool true))) rfl rfl (So.e ?_))))
    show HT _ _ _ _ _
    refine R.condT rfl ?_
    refine HT.seq (HT.region S_hlabel_ok (So.q rfl rfl (V.as (v := .p (.v (.slice none 0 0))) rfl (So.e ?_))))
    show HT _ _ _ _ _
    refine R.phan 8 1 5 1 (.bs []) rfl rfl rfl ⟨rfl, rfl⟩ ?_
    refine HT.ret ?_
    exact ret_ok (sg [(2, 1)]) h rfl rfl rfl ⟨trivial, trivial⟩ ⟨rfl, trivial⟩ rfl ⟨⟨⟨le_own2 (by rfl) (by (show (_ : Nat) = _; (rw [labelF_no (by omega)]; rfl))), rfl⟩, trivial⟩, ⟨⟨_, rfl, .inl (ob_bs (by ((try dsimp only); ((show (_ : Nat) = _; (rw [labelF_no (by omega)]; rfl))))) (by ((try dsimp only); ((show (_ : List UInt8) = _; (rw [labelF_no (by omega)]; done)))))), trivial⟩, trivial⟩⟩
  ·have h2 := of_decide_eq_true h2
   refine So.gn (b := true) rfl rfl rfl (lk rfl) (lk rfl) (So.gn (b := true) rfl rfl rfl (lk rfl) (lk rfl) (So.q rfl rfl (V.pkTrue (u := .p (.v (.bool true))) rfl rfl (So.q rfl rfl (V.mv (v := .p (.v (.bool true))) rfl (So.gn (b := true) rfl rfl rfl (lk rfl) (lk rfl) (So.gn (b := true) rfl rfl rfl (lk rfl) (lk rfl) (So.gn (b := true) rfl rfl rfl (lk rfl) (lk rfl) (So.q rfl rfl (V.pkTrue (u := .p (.v (.bool true))) rfl rfl (So.e ?_)))))))))))
   show HT _ _ _ _ _
   refine R.condT rfl ?_
   refine HT.seq (HT.region S_hlabel_ok (So.q rfl rfl (V.as (v := .p (.v (.slice none 0 0))) rfl (So.e ?_))))
   show HT _ _ _ _ _
   refine R.phan 8 1 5 1 (.bs []) rfl rfl rfl ⟨rfl, rfl⟩ ?_
   refine HT.ret ?_
   exact ret_ok (sg [(2, 1)]) h rfl rfl rfl ⟨trivial, trivial⟩ ⟨rfl, trivial⟩ rfl ⟨⟨⟨le_own2 (by rfl) (by (show (_ : Nat) = _; (rw [labelF_no (by omega)]; rfl))), rfl⟩, trivial⟩, ⟨⟨_, rfl, .inl (ob_bs (by ((try dsimp only); ((show (_ : Nat) = _; (rw [labelF_no (by omega)]; rfl))))) (by ((try dsimp only); ((show (_ : List UInt8) = _; (rw [labelF_no (by omega)]; done)))))), trivial⟩, trivial⟩⟩
 ·have h1 := of_decide_eq_true h1
  refine So.gn (b := true) rfl rfl rfl (lk rfl) (lk rfl) (So.q rfl rfl (V.pkTrue (u := .p (.v (.bool true))) rfl rfl (So.q rfl rfl (V.mv (v := .p (.v (.bool true))) rfl (So.gn (b := true) rfl rfl rfl (lk rfl) (lk rfl) (So.gn (b := true) rfl rfl rfl (lk rfl) (lk rfl) (So.gn (b := true) rfl rfl rfl (lk rfl) (lk rfl) (So.q rfl rfl (V.pkTrue (u := .p (.v (.bool true))) rfl rfl (So.q rfl rfl (V.mv (v := .p (.v (.bool true))) rfl (So.gn (b := true) rfl rfl rfl (lk rfl) (lk rfl) (So.gn (b := true) rfl rfl rfl (lk rfl) (lk rfl) ?_)))))))))))))
  refine So.gn (b := true) rfl rfl rfl (lk rfl) (lk rfl) (So.q rfl rfl (V.pkTrue (u := .p (.v (.bool true))) rfl rfl (So.e ?_)))
  show HT _ _ _ _ _
  refine R.condT rfl ?_
  refine HT.seq (HT.region S_hlabel_ok (So.q rfl rfl (V.as (v := .p (.v (.slice none 0 0))) rfl (So.e ?_))))
  show HT _ _ _ _ _
  refine R.phan 8 1 5 1 (.bs []) rfl rfl rfl ⟨rfl, rfl⟩ ?_
  refine HT.ret ?_
  exact ret_ok (sg [(2, 1)]) h rfl rfl rfl ⟨trivial, trivial⟩ ⟨rfl, trivial⟩ rfl ⟨⟨⟨le_own2 (by rfl) (by (show (_ : Nat) = _; (rw [labelF_no (by omega)]; rfl))), rfl⟩, trivial⟩, ⟨⟨_, rfl, .inl (ob_bs (by ((try dsimp only); ((show (_ : Nat) = _; (rw [labelF_no (by omega)]; rfl))))) (by ((try dsimp only); ((show (_ : List UInt8) = _; (rw [labelF_no (by omega)]; done)))))), trivial⟩, trivial⟩⟩
def spwholeSp : Sp := ⟨[], mkE (α := Nat × Int) (fun (n, t) => [.p (.v (.float .f64 (fl n))), .p (.v (.int .i64 t))]) (fun (n, t) => []) (fun (n, t) => n < 65536 ∧ 0 ≤ t ∧ t ≤ 65536) (fun (n, t) => [.p (.v (.bool (decide ((n : Int) ≤ t))))]) (fun (n, t) => [])⟩
def S_spwhole : FuncId → Option Sp := fun _ => none
theorem S_spwhole_ok : ∀ f s, S_spwhole f = some s → FOK Tryd.prog gl f s := fun f s h => by cases h
set_option maxHeartbeats 1000000 in
set_option maxRecDepth 1000 in
theorem spwhole_ok : FOK Tryd.prog gl 36 spwholeSp := by
 refine FOK.ofE (tyOf_ok Tryd.prog) (slots := [4]) (nt := 20) Tryd.func36 rfl rfl rfl rfl (by decide) 2 (fun ⟨_, _⟩ => rfl) (by decide) (fun ⟨_, _⟩ => ⟨trivial, trivial, trivial⟩) ?_
 rintro ⟨n, t⟩ kk hlen hpre h
 replace hpre : n < 65536 ∧ 0 ≤ t ∧ t ≤ 65536 := hpre
 show HT (cx Tryd.prog 20 (tyOf Tryd.prog) gl []) _ [(0, .p (.v (.float .f64 (fl n)))), (1, .p (.v (.int .i64 t)))] [] _
 refine HT.seq (HT.region S_spwhole_ok (So.q rfl rfl (V.as (v := .p (.v (.bool false))) rfl (So.e (HT.seq (HT.region S_spwhole_ok (So.q rfl rfl (V.mv (v := .p (.v (.float .f64 _))) rfl (So.q rfl rfl (V.flt rfl (flc fl_0) (flt_geq (by omega) (by omega)) (So.q rfl rfl (V.mv (v := .p (.v (.bool _))) rfl ?_))))))))))))
 refine So.gd rfl rfl (lk rfl) (lk rfl) (fun h1 => ?_) (fun h1 => ?_)
 ·have h1 := of_decide_eq_true h1
  refine A.v rfl (V.mv (v := .p (.v (.float .f64 _))) rfl (So.gy rfl rfl (lk rfl) (lk rfl) (A.v rfl (V.mv (v := .p (.v (.int .i64 _))) rfl (So.gy rfl rfl (lk rfl) (lk rfl) (A.v rfl (V.cvF ty57 ty3 rfl (fl_of (m := t.toNat) (by omega)) (So.gy rfl rfl (lk rfl) (lk rfl) (A.v rfl (V.flt rfl rfl (flt_leq (by omega) (by omega)) (So.q rfl rfl (V.pkTrue (u := .p (.v (.bool _))) rfl rfl (So.q rfl rfl (V.mv (v := .p (.v (.bool _))) rfl ?_))))))))))))))
  refine So.gd rfl rfl (lk rfl) (lk rfl) (fun h2 => ?_) (fun h2 => ?_)
  ·have h2 := of_decide_eq_true h2
   refine A.v rfl (V.mv (v := .p (.v (.float .f64 _))) rfl (So.gy rfl rfl (lk rfl) (lk rfl) (A.v rfl (V.mv (v := .p (.v (.float .f64 _))) rfl (So.gy rfl rfl (lk rfl) (lk rfl) (A.v rfl (V.cvFI ty3 ty57 rfl (fltInt_fl (by omega)) (So.gy rfl rfl (lk rfl) (lk rfl) (A.v rfl (V.cvF ty57 ty3 rfl (fl_of (m := n) (by omega)) (So.gy rfl rfl (lk rfl) (lk rfl) (A.v rfl (V.flt rfl rfl (flt_eql (by omega) (by omega)) (So.q rfl rfl (V.pkTrue (u := .p (.v (.bool _))) rfl rfl ?_)))))))))))))))
   refine So.q rfl rfl (V.as (v := .p (.v (.bool _))) rfl (So.e ?_))
   show HT _ _ _ _ _
   refine HT.ret ?_
   exact ret_ok (sg []) h rfl rfl rfl trivial ⟨trivial, trivial⟩ rfl ⟨⟨⟨le_bool (by (refine dcg ?_; omega)), trivial⟩, trivial⟩, trivial⟩
  ·have h2 := of_decide_eq_false h2
   refine So.gn (b := false) rfl rfl rfl (lk rfl) (lk rfl) (So.gn (b := false) rfl rfl rfl (lk rfl) (lk rfl) (So.gn (b := false) rfl rfl rfl (lk rfl) (lk rfl) (So.gn (b := false) rfl rfl rfl (lk rfl) (lk rfl) (So.q rfl rfl (V.pkFalse (u := .p (.v (.bool false))) rfl rfl (So.q rfl rfl (V.as (v := .p (.v (.bool false))) rfl (So.e ?_))))))))
   show HT _ _ _ _ _
   refine HT.ret ?_
   exact ret_ok (sg []) h rfl rfl rfl trivial ⟨trivial, trivial⟩ rfl ⟨⟨⟨le_bool (by (exact (decide_eq_false (by omega)).symm)), trivial⟩, trivial⟩, trivial⟩
 ·have h1 := of_decide_eq_false h1
  refine So.gn (b := false) rfl rfl rfl (lk rfl) (lk rfl) (So.gn (b := false) rfl rfl rfl (lk rfl) (lk rfl) (So.gn (b := false) rfl rfl rfl (lk rfl) (lk rfl) (So.q rfl rfl (V.pkFalse (u := .p (.v (.bool false))) rfl rfl (So.q rfl rfl (V.mv (v := .p (.v (.bool false))) rfl (So.gn (b := false) rfl rfl rfl (lk rfl) (lk rfl) (So.gn (b := false) rfl rfl rfl (lk rfl) (lk rfl) (So.gn (b := false) rfl rfl rfl (lk rfl) (lk rfl) (So.gn (b := false) rfl rfl rfl (lk rfl) (lk rfl) (So.gn (b := false) rfl rfl rfl (lk rfl) (lk rfl) ?_)))))))))))
  refine So.q rfl rfl (V.pkFalse (u := .p (.v (.bool false))) rfl rfl (So.q rfl rfl (V.as (v := .p (.v (.bool false))) rfl (So.e ?_))))
  show HT _ _ _ _ _
  refine HT.ret ?_
  exact ret_ok (sg []) h rfl rfl rfl trivial ⟨trivial, trivial⟩ rfl ⟨⟨⟨le_bool (by (exact (decide_eq_false (by omega)).symm)), trivial⟩, trivial⟩, trivial⟩
def sprightSp : Sp := ⟨[], mkE (α := Nat × Nat × Int) (fun (l, i, d) => [.p (.v (.complex .f64 (fl l) (fl i))), .p (.v (.int .i64 d))]) (fun (l, i, d) => []) (fun (l, i, d) => l < 65536 ∧ i < 65536) (fun (l, i, d) => [.p (.v (.bool (decide (rightS l i d))))]) (fun (l, i, d) => [])⟩
def S_spright : FuncId → Option Sp := fun f => if f = 36 then some spwholeSp else none
theorem S_spright_ok : ∀ f s, S_spright f = some s → FOK Tryd.prog gl f s := fun f s h => by
 unfold S_spright at h
 split at h
 ·rename_i e; cases h; subst e; exact spwhole_ok
 cases h
set_option maxHeartbeats 1000000 in
set_option maxRecDepth 1000 in
theorem spright_ok : FOK Tryd.prog gl 27 sprightSp := by
 refine FOK.ofE (tyOf_ok Tryd.prog) (slots := [4]) (nt := 28) Tryd.func27 rfl rfl rfl rfl (by decide) 2 (fun ⟨_, _, _⟩ => rfl) (by decide) (fun ⟨_, _, _⟩ => ⟨trivial, trivial, trivial⟩) ?_
 rintro ⟨l, i, d⟩ kk hlen hpre h
 replace hpre : l < 65536 ∧ i < 65536 := hpre
 show HT (cx Tryd.prog 28 (tyOf Tryd.prog) gl []) _ [(0, .p (.v (.complex .f64 (fl l) (fl i)))), (1, .p (.v (.int .i64 d)))] [] _
 refine HT.seq (HT.region S_spright_ok (So.q rfl rfl (V.as (v := .p (.v (.bool false))) rfl (So.e (HT.seq (HT.seq (HT.region S_spright_ok (So.q rfl rfl (V.mv (v := .p (.v (.int .i64 _))) rfl (So.q rfl rfl (V.bin (a := .v (.int .i64 _)) (b := .v (.int .i64 0)) (r := .v (.bool _)) rfl rfl rfl trivial (So.q rfl rfl (V.mv (v := .p (.v (.bool _))) rfl ?_)))))))))))))
 refine So.gd rfl rfl (lk rfl) (lk rfl) (fun h1 => ?_) (fun h1 => ?_)
 ·have h1 := of_decide_eq_false h1
  refine A.v rfl (V.mv (v := .p (.v (.int .i64 _))) rfl (So.gy rfl rfl (lk rfl) (lk rfl) (A.v rfl (V.bin (a := .v (.int .i64 _)) (b := .v (.int .i64 16)) (r := .v (.bool _)) rfl rfl rfl trivial (So.q rfl rfl (V.pkFalse (u := .p (.v (.bool _))) rfl rfl (So.q rfl rfl (V.mv (v := .p (.v (.bool _))) rfl ?_))))))))
  refine So.gd rfl rfl (lk rfl) (lk rfl) (fun h2 => ?_) (fun h2 => ?_)
  ·have h2 := of_decide_eq_false h2
   refine A.v rfl (V.mv (v := .p (.v (.complex .f64 _ _))) rfl (So.gy rfl rfl (lk rfl) (lk rfl) (A.v rfl (V.pb (r := .v (.float .f64 _)) (by decide) rfl rfl (So.gy rfl rfl (lk rfl) (lk rfl) (A.v rfl (V.mv (v := .p (.v (.int .i64 _))) rfl (So.gy rfl rfl (lk rfl) (lk rfl) ?_))))))))
   refine A.call0 [.p (.v (.float .f64 _)), .p (.v (.int .i64 _))] 1 rfl rfl rfl rfl ⟨trivial, trivial, trivial⟩ trivial (l, d) ⟨.refl _, .refl _, trivial⟩ trivial (by omega) (Φ := fun _ => True) (fun _ _ => trivial) (.inl rfl) (v := .p (.v (.bool _))) rfl (O' := _) rfl (fun h3 => ?_)
   refine So.gy rfl rfl (lk rfl) (lk rfl) (A.v rfl (V.not rfl (So.q rfl rfl (V.pkFalse (u := .p (.v (.bool _))) rfl rfl (So.e ?_)))))
   show HT _ _ _ _ _
   refine R.cond rfl rfl (fun h4 => ?_) (fun h4 => ?_)
   ·have h4 := of_decide_eq_false (bnT h4)
    refine HT.seq (HT.region S_spright_ok (So.q rfl rfl (V.as (v := .p (.v (.bool false))) rfl (So.e ?_))))
    show HT _ _ _ _ _
    refine HT.ret ?_
    exact ret_ok (sg []) h rfl rfl rfl trivial ⟨trivial, trivial⟩ rfl ⟨⟨⟨le_bool (by (exact (decide_eq_false (by unfold rightS; omega)).symm)), trivial⟩, trivial⟩, trivial⟩
   ·have h4 := of_decide_eq_true (bnF h4)
    refine HT.skip (HT.seq (HT.region S_spright_ok ?_))
    have h16 := p2_16 (k := d.toNat - l) (by omega)
    have hsh : iShl .i64 1 (d - (l : Int)).toNat = ((2 ^ (d.toNat - l) : Nat) : Int) := by rw [show (d - (l : Int)).toNat = d.toNat - l by omega]; exact shl1_16 (by omega)
    refine So.q rfl rfl (V.mv (v := .p (.v (.complex .f64 _ _))) rfl (So.q rfl rfl (V.pb (r := .v (.float .f64 _)) (by decide) rfl rfl (So.q rfl rfl (V.mv (v := .p (.v (.int .i64 _))) rfl (So.q rfl rfl (V.mv (v := .p (.v (.complex .f64 _ _))) rfl (So.q rfl rfl (V.pb (r := .v (.float .f64 _)) (by decide) rfl rfl (So.q rfl rfl (V.cvFI ty3 ty57 rfl (fltInt_fl (by omega)) (So.q rfl rfl (V.subI rfl rfl (by omega) (So.q rfl rfl (V.bin (a := .v (.int .i64 1)) (b := .v (.int .i64 _)) (r := .v (.int .i64 _)) rfl rfl rfl (by omega) (So.q rfl rfl (V.subI rfl rfl (by omega) ?_)))))))))))))))))
    refine So.n (lk rfl) (A.call0 [.p (.v (.float .f64 _)), .p (.v (.int .i64 _))] 1 rfl rfl rfl rfl ⟨trivial, trivial, trivial⟩ trivial (i, iShl .i64 1 (d - (l : Int)).toNat - 1) ⟨.refl _, .refl _, trivial⟩ trivial (by omega) (Φ := fun _ => True) (fun _ _ => trivial) (.inl rfl) (v := .p (.v (.bool _))) rfl (O' := _) rfl (fun h5 => ?_))
    refine So.q rfl rfl (V.as (v := .p (.v (.bool _))) rfl (So.e ?_))
    show HT _ _ _ _ _
    refine HT.ret ?_
    exact ret_ok (sg []) h rfl rfl rfl trivial ⟨trivial, trivial⟩ rfl ⟨⟨⟨le_bool (by (refine dcg ?_; unfold rightS; omega)), trivial⟩, trivial⟩, trivial⟩
  ·have h2 := of_decide_eq_true h2
   refine So.gn (b := true) rfl rfl rfl (lk rfl) (lk rfl) (So.gn (b := true) rfl rfl rfl (lk rfl) (lk rfl) (So.gn (b := true) rfl rfl rfl (lk rfl) (lk rfl) (So.gn (b := true) rfl rfl rfl (lk rfl) (lk rfl) (So.q rfl rfl (V.pkTrue (u := .p (.v (.bool true))) rfl rfl (So.e ?_))))))
   show HT _ _ _ _ _
   refine R.condT rfl ?_
   refine HT.seq (HT.region S_spright_ok (So.q rfl rfl (V.as (v := .p (.v (.bool false))) rfl (So.e ?_))))
   show HT _ _ _ _ _
   refine HT.ret ?_
   exact ret_ok (sg []) h rfl rfl rfl trivial ⟨trivial, trivial⟩ rfl ⟨⟨⟨le_bool (by (exact (decide_eq_false (by unfold rightS; omega)).symm)), trivial⟩, trivial⟩, trivial⟩
 ·have h1 := of_decide_eq_true h1
  refine So.gn (b := true) rfl rfl rfl (lk rfl) (lk rfl) (So.q rfl rfl (V.pkTrue (u := .p (.v (.bool true))) rfl rfl (So.q rfl rfl (V.mv (v := .p (.v (.bool true))) rfl (So.gn (b := true) rfl rfl rfl (lk rfl) (lk rfl) (So.gn (b := true) rfl rfl rfl (lk rfl) (lk rfl) (So.gn (b := true) rfl rfl rfl (lk rfl) (lk rfl) (So.gn (b := true) rfl rfl rfl (lk rfl) (lk rfl) (So.gn (b := true) rfl rfl rfl (lk rfl) (lk rfl) (So.q rfl rfl (V.pkTrue (u := .p (.v (.bool true))) rfl rfl (So.e ?_))))))))))))
  show HT _ _ _ _ _
  refine R.condT rfl ?_
  refine HT.seq (HT.region S_spright_ok (So.q rfl rfl (V.as (v := .p (.v (.bool false))) rfl (So.e ?_))))
  show HT _ _ _ _ _
  refine HT.ret ?_
  exact ret_ok (sg []) h rfl rfl rfl trivial ⟨trivial, trivial⟩ rfl ⟨⟨⟨le_bool (by (exact (decide_eq_false (by unfold rightS; omega)).symm)), trivial⟩, trivial⟩, trivial⟩
def spLeafSp : Sp := ⟨[], mkE (α := Int) (fun i => [.p (.v (.int .i64 i))]) (fun i => []) (fun i => True) (fun i => [.p (.v (.complex .f64 (fl 0) (fl (if 0 ≤ i ∧ i < 65536 then i.toNat else 0))))]) (fun i => [])⟩
def S_spLeaf : FuncId → Option Sp := fun f => if f = 37 then some spleafSp else none
theorem S_spLeaf_ok : ∀ f s, S_spLeaf f = some s → FOK Tryd.prog gl f s := fun f s h => by
 unfold S_spLeaf at h
 split at h
 ·rename_i e; cases h; subst e; exact spleaf_ok
 cases h
set_option maxHeartbeats 1000000 in
set_option maxRecDepth 1000 in
theorem spLeaf_ok : FOK Tryd.prog gl 28 spLeafSp := by
 refine FOK.ofE (tyOf_ok Tryd.prog) (slots := [2]) (nt := 9) Tryd.func28 rfl rfl rfl rfl (by decide) 1 (fun _ => rfl) (by decide) (fun _ => ⟨trivial, trivial⟩) ?_
 rintro i kk hlen hpre h
 replace hpre : True := hpre
 show HT (cx Tryd.prog 9 (tyOf Tryd.prog) gl []) _ [(0, .p (.v (.int .i64 i)))] [] _
 refine HT.seq (HT.region S_spLeaf_ok (So.q rfl rfl (V.as (v := _) rfl (So.e (HT.seq (HT.seq (HT.region S_spLeaf_ok (So.q rfl rfl (V.mv (v := .p (.v (.int .i64 _))) rfl ?_)))))))))
 refine So.n (lk rfl) (A.call0 [.p (.v (.int .i64 _))] 1 rfl rfl rfl rfl ⟨trivial, trivial⟩ trivial _ ⟨.refl _, trivial⟩ trivial (by trivial) (Φ := fun _ => True) (fun _ _ => trivial) (.inl rfl) (v := .p (.v (.bool _))) rfl (O' := _) rfl (fun h1 => ?_))
 refine So.q rfl rfl (V.not rfl (So.e ?_))
 show HT _ _ _ _ _
 refine R.cond rfl rfl (fun h2 => ?_) (fun h2 => ?_)
 ·have h2 := of_decide_eq_false (bnT h2)
  refine HT.seq (HT.region S_spLeaf_ok (So.q rfl rfl (V.as (v := _) rfl (So.e ?_))))
  show HT _ _ _ _ _
  refine HT.ret ?_
  exact ret_ok (sg []) h rfl rfl rfl trivial ⟨trivial, trivial⟩ rfl ⟨⟨⟨le_cx (by rfl) (by (rw [if_neg (by omega)]; exact fl_0.symm)), trivial⟩, trivial⟩, trivial⟩
 ·have h2 := of_decide_eq_true (bnF h2)
  refine HT.skip (HT.seq (HT.region S_spLeaf_ok (So.q rfl rfl (V.mv (v := .p (.v (.int .i64 _))) rfl (So.q rfl rfl (V.cvF ty57 ty3 rfl (fl_of (m := i.toNat) (by omega)) (So.q rfl rfl (V.pb (r := .v (.complex .f64 _ _)) (by decide) rfl rfl (So.q rfl rfl (V.as (v := .p (.v (.complex .f64 _ _))) rfl (So.e ?_)))))))))))
  show HT _ _ _ _ _
  refine HT.ret ?_
  exact ret_ok (sg []) h rfl rfl rfl trivial ⟨trivial, trivial⟩ rfl ⟨⟨⟨le_cx (by rfl) (by (rw [if_pos (by omega)])), trivial⟩, trivial⟩, trivial⟩
def spallSp : Sp := ⟨[], mkE (α := Nat × Nat) (fun (l, i) => [.p (.v (.complex .f64 (fl l) (fl i)))]) (fun (l, i) => []) (fun (l, i) => l < 65536 ∧ i < 65536) (fun (l, i) => [.p (.v (.bool (decide (rightS l i 16))))]) (fun (l, i) => [])⟩
def S_spall : FuncId → Option Sp := fun f => if f = 27 then some sprightSp else none
theorem S_spall_ok : ∀ f s, S_spall f = some s → FOK Tryd.prog gl f s := fun f s h => by
 unfold S_spall at h
 split at h
 ·rename_i e; cases h; subst e; exact spright_ok
 cases h
set_option maxHeartbeats 1000000 in
set_option maxRecDepth 1000 in
theorem spall_ok : FOK Tryd.prog gl 38 spallSp := by
 refine FOK.ofE (tyOf_ok Tryd.prog) (slots := [2]) (nt := 5) Tryd.func38 rfl rfl rfl rfl (by decide) 1 (fun ⟨_, _⟩ => rfl) (by decide) (fun ⟨_, _⟩ => ⟨trivial, trivial⟩) ?_
 rintro ⟨l, i⟩ kk hlen hpre h
 replace hpre : l < 65536 ∧ i < 65536 := hpre
 show HT (cx Tryd.prog 5 (tyOf Tryd.prog) gl []) _ [(0, .p (.v (.complex .f64 (fl l) (fl i))))] [] _
 refine HT.seq (HT.region S_spall_ok (So.q rfl rfl (V.as (v := .p (.v (.bool false))) rfl (So.e (HT.seq (HT.region S_spall_ok (So.q rfl rfl (V.mv (v := .p (.v (.complex .f64 _ _))) rfl ?_))))))))
 refine So.n (lk rfl) (A.call0 [.p (.v (.complex .f64 _ _)), .p (.v (.int .i64 _))] 1 rfl rfl rfl rfl ⟨trivial, trivial, trivial⟩ trivial (_, _, _) ⟨.refl _, .refl _, trivial⟩ trivial (by omega) (Φ := fun _ => True) (fun _ _ => trivial) (.inl rfl) (v := .p (.v (.bool _))) rfl (O' := _) rfl (fun h1 => ?_))
 refine So.q rfl rfl (V.as (v := .p (.v (.bool _))) rfl (So.e ?_))
 show HT _ _ _ _ _
 refine HT.ret ?_
 exact ret_ok (sg []) h rfl rfl rfl trivial ⟨trivial, trivial⟩ rfl ⟨⟨⟨le_bool (by first | rfl), trivial⟩, trivial⟩, trivial⟩
end Go.Vh
