/- What is proved: each function of the seat's program does what its contract says, wherever it is called; no condition. -/
import Derived.Test.YtkabppmmdhkmiaaDoorPure0
import Derived.Test.YtkabppmmdhkmiaaDoorFrame2
import Derived.Test.YtkabppmmdhkmiaaDoorProg
set_option linter.unusedVariables false
set_option linter.unusedSimpArgs false
set_option linter.unusedVariables false
set_option linter.unusedSimpArgs false
namespace Go.Vh
open Go Go.Vc Go.Proofs Go.Vw
def gl : Nat → Option (Nat × (Nat → GV)) := fun g => if g = 1 then some (64, fun j => .u32 (K256.getD j 0)) else if g = 0 then some (3, fun j => .v (.int .i64 (([6, 14, 30] : List Int).getD j 0))) else none
theorem mixed : Tryd.prog.follows .mixedOrders = true := by kernel_rfl
theorem ty2 : tyOf Tryd.prog 2 = some ⟨.int .i64, 1, 8, some (fun _ => .int .i64 0)⟩ := by kernel_rfl
theorem ty3 : tyOf Tryd.prog 3 = some ⟨.int .i64, 1, 8, some (fun _ => .int .i64 0)⟩ := by kernel_rfl
theorem ty5 : tyOf Tryd.prog 5 = some ⟨.int .u8, 1, 1, some (fun _ => .int .u8 0)⟩ := by kernel_rfl
theorem ty9 : tyOf Tryd.prog 9 = some ⟨.string, 1, 16, some (fun _ => .string ⟨#[]⟩)⟩ := by kernel_rfl
theorem ty22 : tyOf Tryd.prog 22 = some ⟨.slice 5, 1, 24, some (fun _ => .slice none 0 0)⟩ := by kernel_rfl
theorem ty24 : tyOf Tryd.prog 24 = some ⟨.struct [(0, 22), (1, 2), (2, 3), (3, 3), (4, 22)], 5, 72, some (fun j => ([.slice none 0 0, .int .i64 0, .int .i64 0, .int .i64 0, .slice none 0 0] : List Value).getD j undef)⟩ := by kernel_rfl
theorem ty26 : tyOf Tryd.prog 26 = some ⟨.struct [(0, 24), (5, 22), (6, 22), (7, 22)], 8, 144, some (fun j => ([.slice none 0 0, .int .i64 0, .int .i64 0, .int .i64 0, .slice none 0 0, .slice none 0 0, .slice none 0 0, .slice none 0 0] : List Value).getD j undef)⟩ := by kernel_rfl
theorem ty29 : tyOf Tryd.prog 29 = some ⟨.int .i64, 1, 8, some (fun _ => .int .i64 0)⟩ := by kernel_rfl
theorem ty35 : tyOf Tryd.prog 35 = some ⟨.struct [(0, 22), (1, 2), (2, 3), (3, 2), (4, 22)], 5, 72, some (fun j => ([.slice none 0 0, .int .i64 0, .int .i64 0, .int .i64 0, .slice none 0 0] : List Value).getD j undef)⟩ := by kernel_rfl
theorem ty47 : tyOf Tryd.prog 47 = some ⟨.array 32 5, 32, 32, some (fun _ => .int .u8 0)⟩ := by kernel_rfl
theorem ty51 : tyOf Tryd.prog 51 = some ⟨.slice 22, 1, 24, some (fun _ => .slice none 0 0)⟩ := by kernel_rfl
theorem ty54 : tyOf Tryd.prog 54 = some ⟨.struct [(0, 22)], 1, 24, some (fun _ => .slice none 0 0)⟩ := by kernel_rfl
theorem ty57 : tyOf Tryd.prog 57 = some ⟨.struct [(0, 22), (1, 2), (2, 3)], 3, 40, some (fun j => ([.slice none 0 0, .int .i64 0, .int .i64 0] : List Value).getD j undef)⟩ := by kernel_rfl
theorem ty63 : tyOf Tryd.prog 63 = some ⟨.struct [(0, 22), (1, 3), (2, 29)], 3, 40, some (fun j => ([.slice none 0 0, .int .i64 0, .int .i64 0] : List Value).getD j undef)⟩ := by kernel_rfl
theorem ty67 : tyOf Tryd.prog 67 = some ⟨.pointer 22, 1, 8, some (fun _ => .pointer none)⟩ := by kernel_rfl
theorem ty83 : tyOf Tryd.prog 83 = some ⟨.slice 67, 1, 24, some (fun _ => .slice none 0 0)⟩ := by kernel_rfl
theorem ty92 : tyOf Tryd.prog 92 = some ⟨.int .u64, 1, 8, some (fun _ => .int .u64 0)⟩ := by kernel_rfl
theorem ty95 : tyOf Tryd.prog 95 = some ⟨.int .u64, 1, 8, some (fun _ => .int .u64 0)⟩ := by kernel_rfl
theorem ty96 : tyOf Tryd.prog 96 = some ⟨.int .u32, 1, 4, some (fun _ => .int .u32 0)⟩ := by kernel_rfl
theorem ty97 : tyOf Tryd.prog 97 = some ⟨.array 8 96, 8, 32, some (fun _ => .int .u32 0)⟩ := by kernel_rfl
theorem ty98 : tyOf Tryd.prog 98 = some ⟨.array 8 96, 8, 32, some (fun _ => .int .u32 0)⟩ := by kernel_rfl
theorem ty101 : tyOf Tryd.prog 101 = some ⟨.struct [(0, 98), (8, 22), (9, 95)], 10, 64, some (fun j => ([.int .u32 0, .int .u32 0, .int .u32 0, .int .u32 0, .int .u32 0, .int .u32 0, .int .u32 0, .int .u32 0, .slice none 0 0, .int .u64 0] : List Value).getD j undef)⟩ := by kernel_rfl
theorem ty102 : tyOf Tryd.prog 102 = some ⟨.array 3 3, 3, 24, some (fun _ => .int .i64 0)⟩ := by kernel_rfl
theorem ty104 : tyOf Tryd.prog 104 = some ⟨.array 64 96, 64, 256, some (fun _ => .int .u32 0)⟩ := by kernel_rfl
end Go.Vh

set_option linter.unusedVariables false
set_option linter.unusedSimpArgs false
namespace Go.Vh
open Go Go.Vc Go.Proofs Go.Vw
def rotlSp : Sp := ⟨[], mkE (α := UInt32 × Int) (fun (x, n) => [.p (.u32 (x)), .p (.v (.int .i64 (-n)))]) (fun (x, n) => []) (fun (x, n) => 1 ≤ n ∧ n ≤ 31) (fun (x, n) => [.p (.u32 (rotr x n))]) (fun (x, n) => [])⟩
def S_rotl : FuncId → Option Sp := fun _ => none
theorem S_rotl_ok : ∀ f s, S_rotl f = some s → FOK Tryd.prog gl f s := fun f s h => by cases h
set_option maxHeartbeats 1000000 in
set_option maxRecDepth 1000 in
theorem rotl_ok : FOK Tryd.prog gl 68 rotlSp := by
 refine FOK.ofE (tyOf_ok Tryd.prog) (slots := [4]) (nt := 17) Tryd.func68 rfl rfl rfl rfl (by decide) 2 (fun ⟨_, _⟩ => rfl) (by decide) (fun ⟨_, _⟩ => ⟨trivial, trivial, trivial⟩) ?_
 rintro ⟨x, n⟩ kk hlen hpre h
 replace hpre : 1 ≤ n ∧ n ≤ 31 := hpre
 show HT (cx Tryd.prog 17 (tyOf Tryd.prog) gl []) _ [(0, .p (.u32 (x))), (1, .p (.v (.int .i64 (-n))))] [] _
 refine HT.seq ?_
 refine HT.region S_rotl_ok ?_
 refine So.q rfl rfl (V.as (v := .p (.u32 0)) rfl ?_)
 refine So.e ?_
 show HT _ _ _ _ _
 refine HT.seq ?_
 refine HT.region S_rotl_ok ?_
 refine So.q rfl rfl (V.mv (v := .p (.v (.int .i64 _))) rfl ?_)
 refine So.q rfl rfl (V.cvN ty92 ty3 (a := (.v (.int .i64 _))) (r := (.u64 _)) rfl rfl ?_)
 refine So.q rfl rfl (V.bin (a := (.u64 _)) (b := (.u64 31)) (r := .u64 _) rfl rfl rfl trivial ?_)
 refine So.q rfl rfl (V.as (v := .p (.u64 _)) rfl ?_)
 refine So.e ?_
 show HT _ _ _ _ _
 refine HT.seq ?_
 refine HT.region S_rotl_ok ?_
 refine So.q rfl rfl (V.mv (v := .p (.u32 _)) rfl ?_)
 refine So.q rfl rfl (V.mv (v := .p (.u64 _)) rfl ?_)
 refine So.q rfl rfl (V.bin (a := (.u32 _)) (b := (.u64 _)) (r := .u32 _) rfl rfl rfl (by first | rfl | omega | (simp; done) | (simp; omega)) ?_)
 refine So.q rfl rfl (V.mv (v := .p (.u32 _)) rfl ?_)
 refine So.q rfl rfl (V.mv (v := .p (.u64 _)) rfl ?_)
 refine So.q rfl rfl (V.bin (a := (.u64 32)) (b := (.u64 _)) (r := .u64 _) rfl rfl rfl trivial ?_)
 refine So.q rfl rfl (V.bin (a := (.u32 _)) (b := (.u64 _)) (r := .u32 _) rfl rfl rfl (by first | rfl | omega | (simp; done) | (simp; omega)) ?_)
 refine So.q rfl rfl (V.bin (a := (.u32 _)) (b := (.u32 _)) (r := .u32 _) rfl rfl rfl trivial ?_)
 refine So.q rfl rfl (V.as (v := .p (.u32 _)) rfl ?_)
 refine So.e ?_
 show HT _ _ _ _ _
 refine HT.ret ?_
 exact ret_ok (sg []) h rfl rfl rfl trivial ⟨trivial, trivial⟩ rfl ⟨⟨⟨le_u32 (by first | rfl | exact rot_left hpre), trivial⟩, trivial⟩, trivial⟩
def rightSp : Sp := ⟨[], mkE (α := UInt32 × Int) (fun (x, n) => [.p (.u32 (x)), .p (.v (.int .i64 (n)))]) (fun (x, n) => []) (fun (x, n) => 1 ≤ n ∧ n ≤ 31) (fun (x, n) => [.p (.u32 (rotr x n))]) (fun (x, n) => [])⟩
def S_right : FuncId → Option Sp := fun f => if f = 68 then some rotlSp else none
theorem S_right_ok : ∀ f s, S_right f = some s → FOK Tryd.prog gl f s := fun f s h => by
 unfold S_right at h
 split at h
 ·rename_i e; cases h; subst e; exact rotl_ok
 cases h
set_option maxHeartbeats 1000000 in
set_option maxRecDepth 1000 in
theorem right_ok : FOK Tryd.prog gl 67 rightSp := by
 refine FOK.ofE (tyOf_ok Tryd.prog) (slots := [4]) (nt := 9) Tryd.func67 rfl rfl rfl rfl (by decide) 2 (fun ⟨_, _⟩ => rfl) (by decide) (fun ⟨_, _⟩ => ⟨trivial, trivial, trivial⟩) ?_
 rintro ⟨x, n⟩ kk hlen hpre h
 replace hpre : 1 ≤ n ∧ n ≤ 31 := hpre
 show HT (cx Tryd.prog 9 (tyOf Tryd.prog) gl []) _ [(0, .p (.u32 (x))), (1, .p (.v (.int .i64 (n))))] [] _
 refine HT.seq ?_
 refine HT.region S_right_ok ?_
 refine So.q rfl rfl (V.as (v := .p (.u32 0)) rfl ?_)
 refine So.e ?_
 show HT _ _ _ _ _
 refine HT.seq ?_
 refine HT.region S_right_ok ?_
 refine So.q rfl rfl (V.mv (v := .p (.u32 _)) rfl ?_)
 refine So.q rfl rfl (V.mv (v := .p (.v (.int .i64 _))) rfl ?_)
 refine So.q rfl rfl (V.neg rfl (by omega) ?_)
 refine So.n (lk rfl) (A.call0 [.p (.u32 _), .p (.v (.int .i64 _))] 1 rfl rfl rfl rfl ⟨trivial, trivial, trivial⟩ trivial (_, _) ⟨.refl _, .refl _, trivial⟩ trivial (by first | omega | decide) (Φ := fun _ => True) (fun _ _ => trivial) (.inl rfl) (v := .p (.u32 _)) rfl (O' := _) rfl (fun h1 => ?_))
 refine So.q rfl rfl (V.as (v := .p (.u32 _)) rfl ?_)
 refine So.e ?_
 show HT _ _ _ _ _
 refine HT.ret ?_
 exact ret_ok (sg []) h rfl rfl rfl trivial ⟨trivial, trivial⟩ rfl ⟨⟨⟨le_u32 (by first | rfl), trivial⟩, trivial⟩, trivial⟩
def beginSp : Sp := ⟨[], mkE (α := Unit) (fun _ => []) (fun _ => []) (fun _ => True) (fun _ => [.agg 8 (fun j => .u32 (h0 j))]) (fun _ => [])⟩
def S_begin : FuncId → Option Sp := fun _ => none
theorem S_begin_ok : ∀ f s, S_begin f = some s → FOK Tryd.prog gl f s := fun f s h => by cases h
set_option maxHeartbeats 1000000 in
set_option maxRecDepth 5000 in
theorem begin_ok : FOK Tryd.prog gl 64 beginSp := by
 refine FOK.ofEC (tyOf_ok Tryd.prog) (rvs := [.cell 0 98]) (nt := 2) Tryd.func64 rfl rfl rfl rfl (by decide) 0 (fun _ => rfl) (by decide) (fun _ => trivial) ?_
 rintro _ kk hlen hpre h
 replace hpre : True := hpre
 show HT (cx Tryd.prog 2 (tyOf Tryd.prog) gl []) _ [] [] _
 refine HT.seq ?_
 refine HT.region S_begin_ok ?_
 refine So.n (lk rfl) (A.alloc 1 1 ty98 rfl trivial (f := fun _ => .u32 0) (fun _ _ => rfl) ?_)
 refine So.e ?_
 show HT _ _ _ _ _
 refine HT.seq ?_
 refine HT.region S_begin_ok ?_
 refine So.n (lk rfl) (A.bldA ty98 rfl rfl ⟨by first | exact trivial | exact rfl | (intro j hj; first | trivial | rfl | (simp [BV.one]; done)), by first | exact trivial | exact rfl | (intro j hj; first | trivial | rfl | (simp [BV.one]; done)), by first | exact trivial | exact rfl | (intro j hj; first | trivial | rfl | (simp [BV.one]; done)), by first | exact trivial | exact rfl | (intro j hj; first | trivial | rfl | (simp [BV.one]; done)), by first | exact trivial | exact rfl | (intro j hj; first | trivial | rfl | (simp [BV.one]; done)), by first | exact trivial | exact rfl | (intro j hj; first | trivial | rfl | (simp [BV.one]; done)), by first | exact trivial | exact rfl | (intro j hj; first | trivial | rfl | (simp [BV.one]; done)), by first | exact trivial | exact rfl | (intro j hj; first | trivial | rfl | (simp [BV.one]; done)), trivial⟩ rfl (f := fun j => .u32 (h0 j)) (by exact allP_spec (P := fun j => _ = _) ⟨⟨⟨⟨⟨⟨⟨⟨trivial, rfl⟩, rfl⟩, rfl⟩, rfl⟩, rfl⟩, rfl⟩, rfl⟩, rfl⟩) ?_)
 refine So.s (A.stoAg ty98 rfl (n := 8) rfl (by decide) (by intro j hj; first | rfl | trivial | (match j, hj with | 0, _ => (first | trivial | rfl) | 1, _ => (first | trivial | rfl) | 2, _ => (first | trivial | rfl) | 3, _ => (first | trivial | rfl) | 4, _ => (first | trivial | rfl) | 5, _ => (first | trivial | rfl) | 6, _ => (first | trivial | rfl) | 7, _ => (first | trivial | rfl))) rfl rfl rfl ?_)
 refine So.e ?_
 show HT _ _ _ _ _
 refine HT.ret ?_
 exact retC_ok (sg []) [(0, .ptr 1 0)] [(1, ⟨98, 1, 8, true, .rows (fun j => .u32 (h0 j))⟩)] h ⟨⟨⟨.refl _, rfl⟩, trivial⟩, ⟨⟨_, rfl, .inr (ob_rows rfl (by intro j hj; first | rfl | ((try dsimp only); (first | rfl | omega | (simp; done) | (simp; omega))))), trivial⟩, trivial⟩⟩ ⟨rvA_cell ty98 rfl rfl rfl rfl (Nat.le_refl _) (le_agg (fun j _ => by first | rfl | (dsimp only; rw [Nat.zero_add]))), trivial⟩ trivial rfl trivial ⟨trivial, trivial⟩ rfl
end Go.Vh

set_option linter.unusedVariables false
set_option linter.unusedSimpArgs false
namespace Go.Vh
open Go Go.Vc Go.Proofs Go.Vw
def fofSp : Sp := ⟨[], mkE (α := (List UInt8) × Int × Int × Int × (List UInt8)) (fun (g, ep, fr, kd, bd) => [.agg 5 (fun j => ([.bs g, .v (.int .i64 ep), .v (.int .i64 fr), .v (.int .i64 kd), .bs bd] : List PV).getD j (.v undef))]) (fun (g, ep, fr, kd, bd) => []) (fun (g, ep, fr, kd, bd) => True) (fun (g, ep, fr, kd, bd) => [.agg 3 (fun j => ([.bs g, .v (.int .i64 ep), .v (.int .i64 fr)] : List PV).getD j (.v undef))]) (fun (g, ep, fr, kd, bd) => [])⟩
def S_fof : FuncId → Option Sp := fun _ => none
theorem S_fof_ok : ∀ f s, S_fof f = some s → FOK Tryd.prog gl f s := fun f s h => by cases h
set_option maxHeartbeats 1000000 in
set_option maxRecDepth 1000 in
theorem fof_ok : FOK Tryd.prog gl 27 fofSp := by
 refine FOK.ofEC (tyOf_ok Tryd.prog) (rvs := [.cell 2 57]) (nt := 10) Tryd.func27 rfl rfl rfl rfl (by decide) 1 (fun ⟨_, _, _, _, _⟩ => rfl) (by decide) (fun ⟨_, _, _, _, _⟩ => ⟨trivial, trivial⟩) ?_
 rintro ⟨g, ep, fr, kd, bd⟩ kk hlen hpre h
 replace hpre : True := hpre
 show HT (cx Tryd.prog 10 (tyOf Tryd.prog) gl []) _ [(0, .agg 5 (fun j => ([.bs g, .v (.int .i64 ep), .v (.int .i64 fr), .v (.int .i64 kd), .bs bd] : List PV).getD j (.v undef)))] [] _
 refine HT.seq ?_
 refine HT.region S_fof_ok ?_
 refine So.n (lk rfl) (A.boxAg 1 1 (n := 5) rfl (by intro j hj; first | rfl | trivial | (match j, hj with | 0, _ => (first | trivial | rfl) | 1, _ => (first | trivial | rfl) | 2, _ => (first | trivial | rfl) | 3, _ => (first | trivial | rfl) | 4, _ => (first | trivial | rfl)) | (split <;> first | rfl | trivial | (split <;> first | rfl | trivial))) rfl trivial ?_)
 refine So.n (lk rfl) (A.alloc 2 1 ty57 rfl trivial (f := fun j => ([.v (.slice none 0 0), .v (.int .i64 0), .v (.int .i64 0)] : List PV).getD j (.v undef)) (fun j hj => by match j, hj with | 0, _ => rfl | 1, _ => rfl | 2, _ => rfl) ?_)
 refine So.e ?_
 show HT _ _ _ _ _
 refine HT.seq ?_
 refine HT.region S_fof_ok ?_
 refine So.q rfl rfl (V.faPtr ty24 rfl ty22 (lk rfl) rfl rfl (lk rfl) ?_)
 refine So.q rfl rfl (V.ldPtr ty22 rfl rfl rfl (lk rfl) (v := .p (.bs _)) rfl ?_)
 refine So.q rfl rfl (V.faPtr ty24 rfl ty2 (lk rfl) rfl rfl (lk rfl) ?_)
 refine So.q rfl rfl (V.ldPtr ty2 rfl rfl rfl (lk rfl) (v := .p (.v (.int .i64 _))) rfl ?_)
 refine So.q rfl rfl (V.faPtr ty24 rfl ty3 (lk rfl) rfl rfl (lk rfl) ?_)
 refine So.q rfl rfl (V.ldPtr ty3 rfl rfl rfl (lk rfl) (v := .p (.v (.int .i64 _))) rfl ?_)
 refine So.n (lk rfl) (A.bldS ty57 rfl rfl ⟨by first | exact trivial | exact rfl | (intro j hj; first | trivial | rfl | (simp [BV.one]; done)), by first | exact trivial | exact rfl | (intro j hj; first | trivial | rfl | (simp [BV.one]; done)), by first | exact trivial | exact rfl | (intro j hj; first | trivial | rfl | (simp [BV.one]; done)), trivial⟩ rfl (f := fun j => ([.bs g, .v (.int .i64 ep), .v (.int .i64 fr)] : List PV).getD j (.v undef)) (by exact allP_spec (P := fun j => _ = _) ⟨⟨⟨trivial, rfl⟩, rfl⟩, rfl⟩) ?_)
 refine So.s (A.stoAg ty57 rfl (n := 3) rfl (by decide) (by intro j hj; first | rfl | trivial | (match j, hj with | 0, _ => (first | trivial | rfl) | 1, _ => (first | trivial | rfl) | 2, _ => (first | trivial | rfl))) rfl rfl rfl ?_)
 refine So.e ?_
 show HT _ _ _ _ _
 refine HT.ret ?_
 exact retC_ok (sg []) [(2, .ptr 2 0)] [(2, ⟨57, 1, 3, true, .rows (fun j => ([.bs g, .v (.int .i64 ep), .v (.int .i64 fr)] : List PV).getD j (.v undef))⟩)] h ⟨⟨⟨.refl _, rfl⟩, trivial⟩, ⟨⟨_, rfl, .inr (ob_rows rfl (by intro j hj; first | rfl | ((try dsimp only); (first | rfl | (match j, hj with | 0, _ => rfl | 1, _ => rfl | 2, _ => rfl))))), trivial⟩, trivial⟩⟩ ⟨rvA_cell ty57 rfl rfl rfl rfl (Nat.le_refl _) (le_agg (fun j _ => by first | rfl | (dsimp only; rw [Nat.zero_add]))), trivial⟩ trivial rfl trivial ⟨trivial, trivial⟩ rfl
def fwhereSp : Sp := ⟨[], mkE (α := (List UInt8) × Int × Int × Int × (List UInt8)) (fun (g, ep, fr, gn, cl) => [.agg 5 (fun j => ([.bs g, .v (.int .i64 ep), .v (.int .i64 fr), .v (.int .i64 gn), .bs cl] : List PV).getD j (.v undef))]) (fun (g, ep, fr, gn, cl) => []) (fun (g, ep, fr, gn, cl) => True) (fun (g, ep, fr, gn, cl) => [.agg 3 (fun j => ([.bs g, .v (.int .i64 ep), .v (.int .i64 fr)] : List PV).getD j (.v undef))]) (fun (g, ep, fr, gn, cl) => [])⟩
def S_fwhere : FuncId → Option Sp := fun _ => none
theorem S_fwhere_ok : ∀ f s, S_fwhere f = some s → FOK Tryd.prog gl f s := fun f s h => by cases h
set_option maxHeartbeats 1000000 in
set_option maxRecDepth 1000 in
theorem fwhere_ok : FOK Tryd.prog gl 39 fwhereSp := by
 refine FOK.ofEC (tyOf_ok Tryd.prog) (rvs := [.cell 2 57]) (nt := 10) Tryd.func39 rfl rfl rfl rfl (by decide) 1 (fun ⟨_, _, _, _, _⟩ => rfl) (by decide) (fun ⟨_, _, _, _, _⟩ => ⟨trivial, trivial⟩) ?_
 rintro ⟨g, ep, fr, gn, cl⟩ kk hlen hpre h
 replace hpre : True := hpre
 show HT (cx Tryd.prog 10 (tyOf Tryd.prog) gl []) _ [(0, .agg 5 (fun j => ([.bs g, .v (.int .i64 ep), .v (.int .i64 fr), .v (.int .i64 gn), .bs cl] : List PV).getD j (.v undef)))] [] _
 refine HT.seq ?_
 refine HT.region S_fwhere_ok ?_
 refine So.n (lk rfl) (A.boxAg 1 1 (n := 5) rfl (by intro j hj; first | rfl | trivial | (match j, hj with | 0, _ => (first | trivial | rfl) | 1, _ => (first | trivial | rfl) | 2, _ => (first | trivial | rfl) | 3, _ => (first | trivial | rfl) | 4, _ => (first | trivial | rfl)) | (split <;> first | rfl | trivial | (split <;> first | rfl | trivial))) rfl trivial ?_)
 refine So.n (lk rfl) (A.alloc 2 1 ty57 rfl trivial (f := fun j => ([.v (.slice none 0 0), .v (.int .i64 0), .v (.int .i64 0)] : List PV).getD j (.v undef)) (fun j hj => by match j, hj with | 0, _ => rfl | 1, _ => rfl | 2, _ => rfl) ?_)
 refine So.e ?_
 show HT _ _ _ _ _
 refine HT.seq ?_
 refine HT.region S_fwhere_ok ?_
 refine So.q rfl rfl (V.faPtr ty35 rfl ty22 (lk rfl) rfl rfl (lk rfl) ?_)
 refine So.q rfl rfl (V.ldPtr ty22 rfl rfl rfl (lk rfl) (v := .p (.bs _)) rfl ?_)
 refine So.q rfl rfl (V.faPtr ty35 rfl ty2 (lk rfl) rfl rfl (lk rfl) ?_)
 refine So.q rfl rfl (V.ldPtr ty2 rfl rfl rfl (lk rfl) (v := .p (.v (.int .i64 _))) rfl ?_)
 refine So.q rfl rfl (V.faPtr ty35 rfl ty3 (lk rfl) rfl rfl (lk rfl) ?_)
 refine So.q rfl rfl (V.ldPtr ty3 rfl rfl rfl (lk rfl) (v := .p (.v (.int .i64 _))) rfl ?_)
 refine So.n (lk rfl) (A.bldS ty57 rfl rfl ⟨by first | exact trivial | exact rfl | (intro j hj; first | trivial | rfl | (simp [BV.one]; done)), by first | exact trivial | exact rfl | (intro j hj; first | trivial | rfl | (simp [BV.one]; done)), by first | exact trivial | exact rfl | (intro j hj; first | trivial | rfl | (simp [BV.one]; done)), trivial⟩ rfl (f := fun j => ([.bs g, .v (.int .i64 ep), .v (.int .i64 fr)] : List PV).getD j (.v undef)) (by exact allP_spec (P := fun j => _ = _) ⟨⟨⟨trivial, rfl⟩, rfl⟩, rfl⟩) ?_)
 refine So.s (A.stoAg ty57 rfl (n := 3) rfl (by decide) (by intro j hj; first | rfl | trivial | (match j, hj with | 0, _ => (first | trivial | rfl) | 1, _ => (first | trivial | rfl) | 2, _ => (first | trivial | rfl))) rfl rfl rfl ?_)
 refine So.e ?_
 show HT _ _ _ _ _
 refine HT.ret ?_
 exact retC_ok (sg []) [(2, .ptr 2 0)] [(2, ⟨57, 1, 3, true, .rows (fun j => ([.bs g, .v (.int .i64 ep), .v (.int .i64 fr)] : List PV).getD j (.v undef))⟩)] h ⟨⟨⟨.refl _, rfl⟩, trivial⟩, ⟨⟨_, rfl, .inr (ob_rows rfl (by intro j hj; first | rfl | ((try dsimp only); (first | rfl | (match j, hj with | 0, _ => rfl | 1, _ => rfl | 2, _ => rfl))))), trivial⟩, trivial⟩⟩ ⟨rvA_cell ty57 rfl rfl rfl rfl (Nat.le_refl _) (le_agg (fun j _ => by first | rfl | (dsimp only; rw [Nat.zero_add]))), trivial⟩ trivial rfl trivial ⟨trivial, trivial⟩ rfl
def prightSp : Sp := ⟨[], mkE (α := (List UInt8) × Int × Int) (fun (g, ep, fr) => [.agg 3 (fun j => ([.bs g, .v (.int .i64 ep), .v (.int .i64 fr)] : List PV).getD j (.v undef))]) (fun (g, ep, fr) => []) (fun (g, ep, fr) => True) (fun (g, ep, fr) => [.p (.v (.bool (decide (whereP g ep fr))))]) (fun (g, ep, fr) => [])⟩
def S_pright : FuncId → Option Sp := fun _ => none
theorem S_pright_ok : ∀ f s, S_pright f = some s → FOK Tryd.prog gl f s := fun f s h => by cases h
set_option maxHeartbeats 1000000 in
set_option maxRecDepth 1000 in
theorem pright_ok : FOK Tryd.prog gl 28 prightSp := by
 refine FOK.ofE (tyOf_ok Tryd.prog) (slots := [2]) (nt := 33) Tryd.func28 rfl rfl rfl rfl (by decide) 1 (fun ⟨_, _, _⟩ => rfl) (by decide) (fun ⟨_, _, _⟩ => ⟨trivial, trivial⟩) ?_
 rintro ⟨g, ep, fr⟩ kk hlen hpre h
 replace hpre : True := hpre
 show HT (cx Tryd.prog 33 (tyOf Tryd.prog) gl []) _ [(0, .agg 3 (fun j => ([.bs g, .v (.int .i64 ep), .v (.int .i64 fr)] : List PV).getD j (.v undef)))] [] _
 refine HT.seq ?_
 refine HT.region S_pright_ok ?_
 refine So.n (lk rfl) (A.boxAg 1 1 (n := 3) rfl (by intro j hj; first | rfl | trivial | (match j, hj with | 0, _ => (first | trivial | rfl) | 1, _ => (first | trivial | rfl) | 2, _ => (first | trivial | rfl)) | (split <;> first | rfl | trivial | (split <;> first | rfl | trivial))) rfl trivial ?_)
 refine So.q rfl rfl (V.as (v := .p (.v (.bool false))) rfl ?_)
 refine So.e ?_
 show HT _ _ _ _ _
 refine HT.seq ?_
 refine HT.region S_pright_ok ?_
 refine So.q rfl rfl (V.faPtr ty57 rfl ty22 (lk rfl) rfl rfl (lk rfl) ?_)
 refine So.q rfl rfl (V.ldPtr ty22 rfl rfl rfl (lk rfl) (v := .p (.bs _)) rfl ?_)
 refine So.q rfl rfl (V.len ty22 (v := .p (.bs _)) rfl rfl ?_)
 refine So.q rfl rfl (V.bin (a := (.v (.int .i64 _))) (b := (.v (.int .i64 (0)))) (r := .v (.bool _)) rfl rfl rfl trivial ?_)
 refine So.q rfl rfl (V.mv (v := .p (.v (.bool _))) rfl ?_)
 refine So.gd rfl rfl (lk rfl) (lk rfl) (fun h1 => ?_) (fun h1 => ?_)
 ·have h1 := of_decide_eq_true h1
  refine A.v rfl (V.faPtr ty57 rfl ty22 (lk rfl) rfl rfl (lk rfl) ?_)
  refine So.gy rfl rfl (lk rfl) (lk rfl) ?_
  refine A.v rfl (V.ldPtr ty22 rfl rfl rfl (lk rfl) (v := .p (.bs _)) rfl ?_)
  refine So.gy rfl rfl (lk rfl) (lk rfl) ?_
  refine A.v rfl (V.len ty22 (v := .p (.bs _)) rfl rfl ?_)
  refine So.gy rfl rfl (lk rfl) (lk rfl) ?_
  refine A.v rfl (V.bin (a := (.v (.int .i64 _))) (b := (.v (.int .i64 (32)))) (r := .v (.bool _)) rfl rfl rfl trivial ?_)
  refine So.q rfl rfl (V.pkTrue (u := .p (.v (.bool _))) rfl rfl ?_)
  refine So.q rfl rfl (V.mv (v := .p (.v (.bool _))) rfl ?_)
  refine So.gd rfl rfl (lk rfl) (lk rfl) (fun h2 => ?_) (fun h2 => ?_)
  ·have h2 := of_decide_eq_true h2
   refine A.v rfl (V.faPtr ty57 rfl ty2 (lk rfl) rfl rfl (lk rfl) ?_)
   refine So.gy rfl rfl (lk rfl) (lk rfl) ?_
   refine A.v rfl (V.ldPtr ty2 rfl rfl rfl (lk rfl) (v := .p (.v (.int .i64 _))) rfl ?_)
   refine So.gy rfl rfl (lk rfl) (lk rfl) ?_
   refine A.v rfl (V.bin (a := (.v (.int .i64 _))) (b := (.v (.int .i64 (0)))) (r := .v (.bool _)) rfl rfl rfl trivial ?_)
   refine So.q rfl rfl (V.pkTrue (u := .p (.v (.bool _))) rfl rfl ?_)
   refine So.q rfl rfl (V.mv (v := .p (.v (.bool _))) rfl ?_)
   refine So.gd rfl rfl (lk rfl) (lk rfl) (fun h3 => ?_) (fun h3 => ?_)
   ·have h3 := of_decide_eq_true h3
    refine A.v rfl (V.faPtr ty57 rfl ty2 (lk rfl) rfl rfl (lk rfl) ?_)
    refine So.gy rfl rfl (lk rfl) (lk rfl) ?_
    refine A.v rfl (V.ldPtr ty2 rfl rfl rfl (lk rfl) (v := .p (.v (.int .i64 _))) rfl ?_)
    refine So.gy rfl rfl (lk rfl) (lk rfl) ?_
    refine A.v rfl (V.bin (a := (.v (.int .i64 _))) (b := (.v (.int .i64 (1099511627776)))) (r := .v (.bool _)) rfl rfl rfl trivial ?_)
    refine So.q rfl rfl (V.pkTrue (u := .p (.v (.bool _))) rfl rfl ?_)
    refine So.q rfl rfl (V.mv (v := .p (.v (.bool _))) rfl ?_)
    refine So.gd rfl rfl (lk rfl) (lk rfl) (fun h4 => ?_) (fun h4 => ?_)
    ·have h4 := of_decide_eq_true h4
     refine A.v rfl (V.faPtr ty57 rfl ty3 (lk rfl) rfl rfl (lk rfl) ?_)
     refine So.gy rfl rfl (lk rfl) (lk rfl) ?_
     refine A.v rfl (V.ldPtr ty3 rfl rfl rfl (lk rfl) (v := .p (.v (.int .i64 _))) rfl ?_)
     refine So.gy rfl rfl (lk rfl) (lk rfl) ?_
     refine A.v rfl (V.bin (a := (.v (.int .i64 _))) (b := (.v (.int .i64 (0)))) (r := .v (.bool _)) rfl rfl rfl trivial ?_)
     refine So.q rfl rfl (V.pkTrue (u := .p (.v (.bool _))) rfl rfl ?_)
     refine So.q rfl rfl (V.mv (v := .p (.v (.bool _))) rfl ?_)
     refine So.gd rfl rfl (lk rfl) (lk rfl) (fun h5 => ?_) (fun h5 => ?_)
     ·have h5 := of_decide_eq_true h5
      refine A.v rfl (V.faPtr ty57 rfl ty3 (lk rfl) rfl rfl (lk rfl) ?_)
      refine So.gy rfl rfl (lk rfl) (lk rfl) ?_
      refine A.v rfl (V.ldPtr ty3 rfl rfl rfl (lk rfl) (v := .p (.v (.int .i64 _))) rfl ?_)
      refine So.gy rfl rfl (lk rfl) (lk rfl) ?_
      refine A.v rfl (V.bin (a := (.v (.int .i64 _))) (b := (.v (.int .i64 (65536)))) (r := .v (.bool _)) rfl rfl rfl trivial ?_)
      refine So.q rfl rfl (V.pkTrue (u := .p (.v (.bool _))) rfl rfl ?_)
      refine So.q rfl rfl (V.as (v := .p (.v (.bool _))) rfl ?_)
      refine So.e ?_
      show HT _ _ _ _ _
      refine HT.ret ?_
      exact ret_ok (sg []) h rfl rfl rfl trivial ⟨trivial, trivial⟩ rfl ⟨⟨⟨le_bool (by first | with_reducible rfl | exact (decide_eq_false (by unfold whereP; omega)).symm | exact decide_eq_decide.2 (by unfold whereP; omega)), trivial⟩, trivial⟩, trivial⟩
     ·have h5 := of_decide_eq_false h5
      refine So.gn (b := false) rfl rfl rfl (lk rfl) (lk rfl) ?_
      refine So.gn (b := false) rfl rfl rfl (lk rfl) (lk rfl) ?_
      refine So.q rfl rfl (V.pkFalse (u := .p (.v (.bool false))) rfl rfl ?_)
      refine So.q rfl rfl (V.as (v := .p (.v (.bool false))) rfl ?_)
      refine So.e ?_
      show HT _ _ _ _ _
      refine HT.ret ?_
      exact ret_ok (sg []) h rfl rfl rfl trivial ⟨trivial, trivial⟩ rfl ⟨⟨⟨le_bool (by first | with_reducible rfl | exact (decide_eq_false (by unfold whereP; omega)).symm | exact decide_eq_decide.2 (by unfold whereP; omega)), trivial⟩, trivial⟩, trivial⟩
    ·have h4 := of_decide_eq_false h4
     refine So.gn (b := false) rfl rfl rfl (lk rfl) (lk rfl) ?_
     refine So.gn (b := false) rfl rfl rfl (lk rfl) (lk rfl) ?_
     refine So.q rfl rfl (V.pkFalse (u := .p (.v (.bool false))) rfl rfl ?_)
     refine So.q rfl rfl (V.mv (v := .p (.v (.bool false))) rfl ?_)
     refine So.gn (b := false) rfl rfl rfl (lk rfl) (lk rfl) ?_
     refine So.gn (b := false) rfl rfl rfl (lk rfl) (lk rfl) ?_
     refine So.gn (b := false) rfl rfl rfl (lk rfl) (lk rfl) ?_
     refine So.q rfl rfl (V.pkFalse (u := .p (.v (.bool false))) rfl rfl ?_)
     refine So.q rfl rfl (V.as (v := .p (.v (.bool false))) rfl ?_)
     refine So.e ?_
     show HT _ _ _ _ _
     refine HT.ret ?_
     exact ret_ok (sg []) h rfl rfl rfl trivial ⟨trivial, trivial⟩ rfl ⟨⟨⟨le_bool (by first | with_reducible rfl | exact (decide_eq_false (by unfold whereP; omega)).symm | exact decide_eq_decide.2 (by unfold whereP; omega)), trivial⟩, trivial⟩, trivial⟩
   ·have h3 := of_decide_eq_false h3
    refine So.gn (b := false) rfl rfl rfl (lk rfl) (lk rfl) ?_
    refine So.gn (b := false) rfl rfl rfl (lk rfl) (lk rfl) ?_
    refine So.q rfl rfl (V.pkFalse (u := .p (.v (.bool false))) rfl rfl ?_)
    refine So.q rfl rfl (V.mv (v := .p (.v (.bool false))) rfl ?_)
    refine So.gn (b := false) rfl rfl rfl (lk rfl) (lk rfl) ?_
    refine So.gn (b := false) rfl rfl rfl (lk rfl) (lk rfl) ?_
    refine So.gn (b := false) rfl rfl rfl (lk rfl) (lk rfl) ?_
    refine So.q rfl rfl (V.pkFalse (u := .p (.v (.bool false))) rfl rfl ?_)
    refine So.q rfl rfl (V.mv (v := .p (.v (.bool false))) rfl ?_)
    refine So.gn (b := false) rfl rfl rfl (lk rfl) (lk rfl) ?_
    refine So.gn (b := false) rfl rfl rfl (lk rfl) (lk rfl) ?_
    refine So.gn (b := false) rfl rfl rfl (lk rfl) (lk rfl) ?_
    refine So.q rfl rfl (V.pkFalse (u := .p (.v (.bool false))) rfl rfl ?_)
    refine So.q rfl rfl (V.as (v := .p (.v (.bool false))) rfl ?_)
    refine So.e ?_
    show HT _ _ _ _ _
    refine HT.ret ?_
    exact ret_ok (sg []) h rfl rfl rfl trivial ⟨trivial, trivial⟩ rfl ⟨⟨⟨le_bool (by first | with_reducible rfl | exact (decide_eq_false (by unfold whereP; omega)).symm | exact decide_eq_decide.2 (by unfold whereP; omega)), trivial⟩, trivial⟩, trivial⟩
  ·have h2 := of_decide_eq_false h2
   refine So.gn (b := false) rfl rfl rfl (lk rfl) (lk rfl) ?_
   refine So.gn (b := false) rfl rfl rfl (lk rfl) (lk rfl) ?_
   refine So.q rfl rfl (V.pkFalse (u := .p (.v (.bool false))) rfl rfl ?_)
   refine So.q rfl rfl (V.mv (v := .p (.v (.bool false))) rfl ?_)
   refine So.gn (b := false) rfl rfl rfl (lk rfl) (lk rfl) ?_
   refine So.gn (b := false) rfl rfl rfl (lk rfl) (lk rfl) ?_
   refine So.gn (b := false) rfl rfl rfl (lk rfl) (lk rfl) ?_
   refine So.q rfl rfl (V.pkFalse (u := .p (.v (.bool false))) rfl rfl ?_)
   refine So.q rfl rfl (V.mv (v := .p (.v (.bool false))) rfl ?_)
   refine So.gn (b := false) rfl rfl rfl (lk rfl) (lk rfl) ?_
   refine So.gn (b := false) rfl rfl rfl (lk rfl) (lk rfl) ?_
   refine So.gn (b := false) rfl rfl rfl (lk rfl) (lk rfl) ?_
   refine So.q rfl rfl (V.pkFalse (u := .p (.v (.bool false))) rfl rfl ?_)
   refine So.q rfl rfl (V.mv (v := .p (.v (.bool false))) rfl ?_)
   refine So.gn (b := false) rfl rfl rfl (lk rfl) (lk rfl) ?_
   refine So.gn (b := false) rfl rfl rfl (lk rfl) (lk rfl) ?_
   refine So.gn (b := false) rfl rfl rfl (lk rfl) (lk rfl) ?_
   refine So.q rfl rfl (V.pkFalse (u := .p (.v (.bool false))) rfl rfl ?_)
   refine So.q rfl rfl (V.as (v := .p (.v (.bool false))) rfl ?_)
   refine So.e ?_
   show HT _ _ _ _ _
   refine HT.ret ?_
   exact ret_ok (sg []) h rfl rfl rfl trivial ⟨trivial, trivial⟩ rfl ⟨⟨⟨le_bool (by first | with_reducible rfl | exact (decide_eq_false (by unfold whereP; omega)).symm | exact decide_eq_decide.2 (by unfold whereP; omega)), trivial⟩, trivial⟩, trivial⟩
 ·have h1 := of_decide_eq_false h1
  refine So.gn (b := false) rfl rfl rfl (lk rfl) (lk rfl) ?_
  refine So.gn (b := false) rfl rfl rfl (lk rfl) (lk rfl) ?_
  refine So.gn (b := false) rfl rfl rfl (lk rfl) (lk rfl) ?_
  refine So.q rfl rfl (V.pkFalse (u := .p (.v (.bool false))) rfl rfl ?_)
  refine So.q rfl rfl (V.mv (v := .p (.v (.bool false))) rfl ?_)
  refine So.gn (b := false) rfl rfl rfl (lk rfl) (lk rfl) ?_
  refine So.gn (b := false) rfl rfl rfl (lk rfl) (lk rfl) ?_
  refine So.gn (b := false) rfl rfl rfl (lk rfl) (lk rfl) ?_
  refine So.q rfl rfl (V.pkFalse (u := .p (.v (.bool false))) rfl rfl ?_)
  refine So.q rfl rfl (V.mv (v := .p (.v (.bool false))) rfl ?_)
  refine So.gn (b := false) rfl rfl rfl (lk rfl) (lk rfl) ?_
  refine So.gn (b := false) rfl rfl rfl (lk rfl) (lk rfl) ?_
  refine So.gn (b := false) rfl rfl rfl (lk rfl) (lk rfl) ?_
  refine So.q rfl rfl (V.pkFalse (u := .p (.v (.bool false))) rfl rfl ?_)
  refine So.q rfl rfl (V.mv (v := .p (.v (.bool false))) rfl ?_)
  refine So.gn (b := false) rfl rfl rfl (lk rfl) (lk rfl) ?_
  refine So.gn (b := false) rfl rfl rfl (lk rfl) (lk rfl) ?_
  refine So.gn (b := false) rfl rfl rfl (lk rfl) (lk rfl) ?_
  refine So.q rfl rfl (V.pkFalse (u := .p (.v (.bool false))) rfl rfl ?_)
  refine So.q rfl rfl (V.mv (v := .p (.v (.bool false))) rfl ?_)
  refine So.gn (b := false) rfl rfl rfl (lk rfl) (lk rfl) ?_
  refine So.gn (b := false) rfl rfl rfl (lk rfl) (lk rfl) ?_
  refine So.gn (b := false) rfl rfl rfl (lk rfl) (lk rfl) ?_
  refine So.q rfl rfl (V.pkFalse (u := .p (.v (.bool false))) rfl rfl ?_)
  refine So.q rfl rfl (V.as (v := .p (.v (.bool false))) rfl ?_)
  refine So.e ?_
  show HT _ _ _ _ _
  refine HT.ret ?_
  exact ret_ok (sg []) h rfl rfl rfl trivial ⟨trivial, trivial⟩ rfl ⟨⟨⟨le_bool (by first | with_reducible rfl | exact (decide_eq_false (by unfold whereP; omega)).symm | exact decide_eq_decide.2 (by unfold whereP; omega)), trivial⟩, trivial⟩, trivial⟩
def ftagSp : Sp := ⟨[], mkE (α := (List UInt8)) (fun b => [.p (.bs (b))]) (fun b => []) (fun b => True) (fun b => [.p (.v (.bool (decide (tagP b))))]) (fun b => [])⟩
def S_ftag : FuncId → Option Sp := fun _ => none
theorem S_ftag_ok : ∀ f s, S_ftag f = some s → FOK Tryd.prog gl f s := fun f s h => by cases h
set_option maxHeartbeats 1000000 in
set_option maxRecDepth 1000 in
theorem ftag_ok : FOK Tryd.prog gl 44 ftagSp := by
 refine FOK.ofE (tyOf_ok Tryd.prog) (slots := [2]) (nt := 11) Tryd.func44 rfl rfl rfl rfl (by decide) 1 (fun _ => rfl) (by decide) (fun _ => ⟨trivial, trivial⟩) ?_
 rintro b kk hlen hpre h
 have hl0 : (b).length ≤ 9223372036854775807 := hlen.1
 replace hpre : True := hpre
 show HT (cx Tryd.prog 11 (tyOf Tryd.prog) gl []) _ [(0, .p (.bs (b)))] [] _
 refine HT.seq ?_
 refine HT.region S_ftag_ok ?_
 refine So.q rfl rfl (V.as (v := .p (.v (.bool false))) rfl ?_)
 refine So.e ?_
 show HT _ _ _ _ _
 refine HT.seq ?_
 refine HT.region S_ftag_ok ?_
 refine So.q rfl rfl (V.mv (v := .p (.bs _)) rfl ?_)
 refine So.q rfl rfl (V.len ty22 (v := .p (.bs _)) rfl rfl ?_)
 refine So.q rfl rfl (V.bin (a := (.v (.int .i64 _))) (b := (.v (.int .i64 (0)))) (r := .v (.bool _)) rfl rfl rfl trivial ?_)
 refine So.q rfl rfl (V.mv (v := .p (.v (.bool _))) rfl ?_)
 refine So.gd rfl rfl (lk rfl) (lk rfl) (fun h1 => ?_) (fun h1 => ?_)
 ·have h1 := of_decide_eq_false h1
  refine A.v rfl (V.mv (v := .p (.bs _)) rfl ?_)
  refine So.gy rfl rfl (lk rfl) (lk rfl) ?_
  refine A.v rfl (V.len ty22 (v := .p (.bs _)) rfl rfl ?_)
  refine So.gy rfl rfl (lk rfl) (lk rfl) ?_
  refine A.v rfl (V.bin (a := (.v (.int .i64 _))) (b := (.v (.int .i64 (32)))) (r := .v (.bool _)) rfl rfl rfl trivial ?_)
  refine So.q rfl rfl (V.pkFalse (u := .p (.v (.bool _))) rfl rfl ?_)
  refine So.q rfl rfl (V.as (v := .p (.v (.bool _))) rfl ?_)
  refine So.e ?_
  show HT _ _ _ _ _
  refine HT.ret ?_
  exact ret_ok (sg []) h rfl rfl rfl trivial ⟨trivial, trivial⟩ rfl ⟨⟨⟨le_bool (by first | with_reducible rfl | exact (decide_eq_true (by unfold tagP; omega)).symm | exact decide_eq_decide.2 (by unfold tagP; omega)), trivial⟩, trivial⟩, trivial⟩
 ·have h1 := of_decide_eq_true h1
  refine So.gn (b := true) rfl rfl rfl (lk rfl) (lk rfl) ?_
  refine So.gn (b := true) rfl rfl rfl (lk rfl) (lk rfl) ?_
  refine So.q rfl rfl (V.pkTrue (u := .p (.v (.bool true))) rfl rfl ?_)
  refine So.q rfl rfl (V.as (v := .p (.v (.bool true))) rfl ?_)
  refine So.e ?_
  show HT _ _ _ _ _
  refine HT.ret ?_
  exact ret_ok (sg []) h rfl rfl rfl trivial ⟨trivial, trivial⟩ rfl ⟨⟨⟨le_bool (by first | with_reducible rfl | exact (decide_eq_true (by unfold tagP; omega)).symm | exact decide_eq_decide.2 (by unfold tagP; omega)), trivial⟩, trivial⟩, trivial⟩
end Go.Vh

set_option linter.unusedVariables false
set_option linter.unusedSimpArgs false
namespace Go.Vh
open Go Go.Vc Go.Proofs Go.Vw
def frightSp : Sp := ⟨[], mkE (α := (List UInt8) × Int × Int × Int × (List UInt8)) (fun (g, ep, fr, kd, bd) => [.agg 5 (fun j => ([.bs g, .v (.int .i64 ep), .v (.int .i64 fr), .v (.int .i64 kd), .bs bd] : List PV).getD j (.v undef))]) (fun (g, ep, fr, kd, bd) => []) (fun (g, ep, fr, kd, bd) => True) (fun (g, ep, fr, kd, bd) => [.p (.v (.bool (decide (rightP g ep fr kd bd))))]) (fun (g, ep, fr, kd, bd) => [])⟩
def S_fright : FuncId → Option Sp := fun f => if f = 27 then some fofSp else if f = 28 then some prightSp else none
theorem S_fright_ok : ∀ f s, S_fright f = some s → FOK Tryd.prog gl f s := fun f s h => by
 unfold S_fright at h
 split at h
 ·rename_i e; cases h; subst e; exact fof_ok
 split at h
 ·rename_i e; cases h; subst e; exact pright_ok
 cases h
set_option maxHeartbeats 1000000 in
set_option maxRecDepth 1000 in
theorem fright_ok : FOK Tryd.prog gl 12 frightSp := by
 refine FOK.ofE (tyOf_ok Tryd.prog) (slots := [2]) (nt := 22) Tryd.func12 rfl rfl rfl rfl (by decide) 1 (fun ⟨_, _, _, _, _⟩ => rfl) (by decide) (fun ⟨_, _, _, _, _⟩ => ⟨trivial, trivial⟩) ?_
 rintro ⟨g, ep, fr, kd, bd⟩ kk hlen hpre h
 replace hpre : True := hpre
 show HT (cx Tryd.prog 22 (tyOf Tryd.prog) gl []) _ [(0, .agg 5 (fun j => ([.bs g, .v (.int .i64 ep), .v (.int .i64 fr), .v (.int .i64 kd), .bs bd] : List PV).getD j (.v undef)))] [] _
 refine HT.seq ?_
 refine HT.region S_fright_ok ?_
 refine So.n (lk rfl) (A.boxAg 1 1 (n := 5) rfl (by intro j hj; first | rfl | trivial | (match j, hj with | 0, _ => (first | trivial | rfl) | 1, _ => (first | trivial | rfl) | 2, _ => (first | trivial | rfl) | 3, _ => (first | trivial | rfl) | 4, _ => (first | trivial | rfl)) | (split <;> first | rfl | trivial | (split <;> first | rfl | trivial))) rfl trivial ?_)
 refine So.q rfl rfl (V.as (v := .p (.v (.bool false))) rfl ?_)
 refine So.e ?_
 show HT _ _ _ _ _
 refine HT.seq ?_
 refine HT.region S_fright_ok ?_
 refine So.q rfl rfl (V.ldPtrA ty24 rfl rfl rfl rfl (lk rfl) ?_)
 refine So.n (lk rfl) (A.call0 [.agg 5 _] 2 rfl rfl rfl rfl ⟨trivial, trivial⟩ trivial (g, ep, fr, kd, bd) ⟨le_agg (fun j hj => by match j, hj with | 0, _ => rfl | 1, _ => rfl | 2, _ => rfl | 3, _ => rfl | 4, _ => rfl), trivial⟩ trivial (by trivial) (Φ := fun _ => True) (fun _ _ => trivial) (.inl rfl) (v := .agg 3 _) rfl (O' := _) rfl (fun h1 => ?_))
 refine So.n (lk rfl) (A.call0 [.agg 3 _] 2 rfl rfl rfl rfl ⟨trivial, trivial⟩ trivial (g, ep, fr) ⟨.refl _, trivial⟩ trivial (by trivial) (Φ := fun _ => True) (fun _ _ => trivial) (.inl rfl) (v := .p (.v (.bool _))) rfl (O' := _) rfl (fun h2 => ?_))
 refine So.q rfl rfl (V.mv (v := .p (.v (.bool _))) rfl ?_)
 refine So.gd rfl rfl (lk rfl) (lk rfl) (fun h3 => ?_) (fun h3 => ?_)
 ·have h3 := of_decide_eq_true h3
  refine A.v rfl (V.faPtr ty24 rfl ty3 (lk rfl) rfl rfl (lk rfl) ?_)
  refine So.gy rfl rfl (lk rfl) (lk rfl) ?_
  refine A.v rfl (V.ldPtr ty3 rfl rfl rfl (lk rfl) (v := .p (.v (.int .i64 _))) rfl ?_)
  refine So.gy rfl rfl (lk rfl) (lk rfl) ?_
  refine A.v rfl (V.bin (a := (.v (.int .i64 _))) (b := (.v (.int .i64 (1)))) (r := .v (.bool _)) rfl rfl rfl trivial ?_)
  refine So.q rfl rfl (V.pkTrue (u := .p (.v (.bool _))) rfl rfl ?_)
  refine So.q rfl rfl (V.mv (v := .p (.v (.bool _))) rfl ?_)
  refine So.gd rfl rfl (lk rfl) (lk rfl) (fun h4 => ?_) (fun h4 => ?_)
  ·have h4 := of_decide_eq_true h4
   refine A.v rfl (V.faPtr ty24 rfl ty3 (lk rfl) rfl rfl (lk rfl) ?_)
   refine So.gy rfl rfl (lk rfl) (lk rfl) ?_
   refine A.v rfl (V.ldPtr ty3 rfl rfl rfl (lk rfl) (v := .p (.v (.int .i64 _))) rfl ?_)
   refine So.gy rfl rfl (lk rfl) (lk rfl) ?_
   refine A.v rfl (V.bin (a := (.v (.int .i64 _))) (b := (.v (.int .i64 (5)))) (r := .v (.bool _)) rfl rfl rfl trivial ?_)
   refine So.q rfl rfl (V.pkTrue (u := .p (.v (.bool _))) rfl rfl ?_)
   refine So.q rfl rfl (V.mv (v := .p (.v (.bool _))) rfl ?_)
   refine So.gd rfl rfl (lk rfl) (lk rfl) (fun h5 => ?_) (fun h5 => ?_)
   ·have h5 := of_decide_eq_true h5
    refine A.v rfl (V.faPtr ty24 rfl ty22 (lk rfl) rfl rfl (lk rfl) ?_)
    refine So.gy rfl rfl (lk rfl) (lk rfl) ?_
    refine A.v rfl (V.ldPtr ty22 rfl rfl rfl (lk rfl) (v := .p (.bs _)) rfl ?_)
    refine So.gy rfl rfl (lk rfl) (lk rfl) ?_
    refine A.v rfl (V.len ty22 (v := .p (.bs _)) rfl rfl ?_)
    refine So.gy rfl rfl (lk rfl) (lk rfl) ?_
    refine A.v rfl (V.bin (a := (.v (.int .i64 _))) (b := (.v (.int .i64 (30000)))) (r := .v (.bool _)) rfl rfl rfl trivial ?_)
    refine So.q rfl rfl (V.pkTrue (u := .p (.v (.bool _))) rfl rfl ?_)
    refine So.q rfl rfl (V.as (v := .p (.v (.bool _))) rfl ?_)
    refine So.e ?_
    show HT _ _ _ _ _
    refine HT.ret ?_
    exact ret_ok (sg []) h rfl rfl rfl trivial ⟨trivial, trivial⟩ rfl ⟨⟨⟨le_bool (by first | with_reducible rfl | exact (decide_eq_false (by unfold rightP; first | omega | (rintro ⟨q, _⟩; exact absurd q (by assumption)))).symm | exact decide_eq_decide.2 (by unfold rightP; first | omega | (have q := ‹whereP g ep fr›; exact ⟨fun h9 => ⟨q, by omega⟩, fun h9 => by omega⟩))), trivial⟩, trivial⟩, trivial⟩
   ·have h5 := of_decide_eq_false h5
    refine So.gn (b := false) rfl rfl rfl (lk rfl) (lk rfl) ?_
    refine So.gn (b := false) rfl rfl rfl (lk rfl) (lk rfl) ?_
    refine So.gn (b := false) rfl rfl rfl (lk rfl) (lk rfl) ?_
    refine So.q rfl rfl (V.pkFalse (u := .p (.v (.bool false))) rfl rfl ?_)
    refine So.q rfl rfl (V.as (v := .p (.v (.bool false))) rfl ?_)
    refine So.e ?_
    show HT _ _ _ _ _
    refine HT.ret ?_
    exact ret_ok (sg []) h rfl rfl rfl trivial ⟨trivial, trivial⟩ rfl ⟨⟨⟨le_bool (by first | with_reducible rfl | exact (decide_eq_false (by unfold rightP; first | omega | (rintro ⟨q, _⟩; exact absurd q (by assumption)))).symm | exact decide_eq_decide.2 (by unfold rightP; first | omega | (have q := ‹whereP g ep fr›; exact ⟨fun h9 => ⟨q, by omega⟩, fun h9 => by omega⟩))), trivial⟩, trivial⟩, trivial⟩
  ·have h4 := of_decide_eq_false h4
   refine So.gn (b := false) rfl rfl rfl (lk rfl) (lk rfl) ?_
   refine So.gn (b := false) rfl rfl rfl (lk rfl) (lk rfl) ?_
   refine So.q rfl rfl (V.pkFalse (u := .p (.v (.bool false))) rfl rfl ?_)
   refine So.q rfl rfl (V.mv (v := .p (.v (.bool false))) rfl ?_)
   refine So.gn (b := false) rfl rfl rfl (lk rfl) (lk rfl) ?_
   refine So.gn (b := false) rfl rfl rfl (lk rfl) (lk rfl) ?_
   refine So.gn (b := false) rfl rfl rfl (lk rfl) (lk rfl) ?_
   refine So.gn (b := false) rfl rfl rfl (lk rfl) (lk rfl) ?_
   refine So.q rfl rfl (V.pkFalse (u := .p (.v (.bool false))) rfl rfl ?_)
   refine So.q rfl rfl (V.as (v := .p (.v (.bool false))) rfl ?_)
   refine So.e ?_
   show HT _ _ _ _ _
   refine HT.ret ?_
   exact ret_ok (sg []) h rfl rfl rfl trivial ⟨trivial, trivial⟩ rfl ⟨⟨⟨le_bool (by first | with_reducible rfl | exact (decide_eq_false (by unfold rightP; first | omega | (rintro ⟨q, _⟩; exact absurd q (by assumption)))).symm | exact decide_eq_decide.2 (by unfold rightP; first | omega | (have q := ‹whereP g ep fr›; exact ⟨fun h9 => ⟨q, by omega⟩, fun h9 => by omega⟩))), trivial⟩, trivial⟩, trivial⟩
 ·have h3 := of_decide_eq_false h3
  refine So.gn (b := false) rfl rfl rfl (lk rfl) (lk rfl) ?_
  refine So.gn (b := false) rfl rfl rfl (lk rfl) (lk rfl) ?_
  refine So.q rfl rfl (V.pkFalse (u := .p (.v (.bool false))) rfl rfl ?_)
  refine So.q rfl rfl (V.mv (v := .p (.v (.bool false))) rfl ?_)
  refine So.gn (b := false) rfl rfl rfl (lk rfl) (lk rfl) ?_
  refine So.gn (b := false) rfl rfl rfl (lk rfl) (lk rfl) ?_
  refine So.gn (b := false) rfl rfl rfl (lk rfl) (lk rfl) ?_
  refine So.q rfl rfl (V.pkFalse (u := .p (.v (.bool false))) rfl rfl ?_)
  refine So.q rfl rfl (V.mv (v := .p (.v (.bool false))) rfl ?_)
  refine So.gn (b := false) rfl rfl rfl (lk rfl) (lk rfl) ?_
  refine So.gn (b := false) rfl rfl rfl (lk rfl) (lk rfl) ?_
  refine So.gn (b := false) rfl rfl rfl (lk rfl) (lk rfl) ?_
  refine So.gn (b := false) rfl rfl rfl (lk rfl) (lk rfl) ?_
  refine So.q rfl rfl (V.pkFalse (u := .p (.v (.bool false))) rfl rfl ?_)
  refine So.q rfl rfl (V.as (v := .p (.v (.bool false))) rfl ?_)
  refine So.e ?_
  show HT _ _ _ _ _
  refine HT.ret ?_
  exact ret_ok (sg []) h rfl rfl rfl trivial ⟨trivial, trivial⟩ rfl ⟨⟨⟨le_bool (by first | with_reducible rfl | exact (decide_eq_false (by unfold rightP; first | omega | (rintro ⟨q, _⟩; exact absurd q (by assumption)))).symm | exact decide_eq_decide.2 (by unfold rightP; first | omega | (have q := ‹whereP g ep fr›; exact ⟨fun h9 => ⟨q, by omega⟩, fun h9 => by omega⟩))), trivial⟩, trivial⟩, trivial⟩
def fsealSp : Sp := ⟨[], mkE (α := (List UInt8) × Int × Int × Int × (List UInt8)) (fun (g, ep, fr, gn, cl) => [.agg 5 (fun j => ([.bs g, .v (.int .i64 ep), .v (.int .i64 fr), .v (.int .i64 gn), .bs cl] : List PV).getD j (.v undef))]) (fun (g, ep, fr, gn, cl) => []) (fun (g, ep, fr, gn, cl) => True) (fun (g, ep, fr, gn, cl) => [.p (.v (.bool (decide (sealP g ep fr gn cl))))]) (fun (g, ep, fr, gn, cl) => [])⟩
def S_fseal : FuncId → Option Sp := fun f => if f = 39 then some fwhereSp else if f = 28 then some prightSp else none
theorem S_fseal_ok : ∀ f s, S_fseal f = some s → FOK Tryd.prog gl f s := fun f s h => by
 unfold S_fseal at h
 split at h
 ·rename_i e; cases h; subst e; exact fwhere_ok
 split at h
 ·rename_i e; cases h; subst e; exact pright_ok
 cases h
set_option maxHeartbeats 1000000 in
set_option maxRecDepth 1000 in
theorem fseal_ok : FOK Tryd.prog gl 29 fsealSp := by
 refine FOK.ofE (tyOf_ok Tryd.prog) (slots := [2]) (nt := 22) Tryd.func29 rfl rfl rfl rfl (by decide) 1 (fun ⟨_, _, _, _, _⟩ => rfl) (by decide) (fun ⟨_, _, _, _, _⟩ => ⟨trivial, trivial⟩) ?_
 rintro ⟨g, ep, fr, gn, cl⟩ kk hlen hpre h
 replace hpre : True := hpre
 show HT (cx Tryd.prog 22 (tyOf Tryd.prog) gl []) _ [(0, .agg 5 (fun j => ([.bs g, .v (.int .i64 ep), .v (.int .i64 fr), .v (.int .i64 gn), .bs cl] : List PV).getD j (.v undef)))] [] _
 refine HT.seq ?_
 refine HT.region S_fseal_ok ?_
 refine So.n (lk rfl) (A.boxAg 1 1 (n := 5) rfl (by intro j hj; first | rfl | trivial | (match j, hj with | 0, _ => (first | trivial | rfl) | 1, _ => (first | trivial | rfl) | 2, _ => (first | trivial | rfl) | 3, _ => (first | trivial | rfl) | 4, _ => (first | trivial | rfl)) | (split <;> first | rfl | trivial | (split <;> first | rfl | trivial))) rfl trivial ?_)
 refine So.q rfl rfl (V.as (v := .p (.v (.bool false))) rfl ?_)
 refine So.e ?_
 show HT _ _ _ _ _
 refine HT.seq ?_
 refine HT.region S_fseal_ok ?_
 refine So.q rfl rfl (V.ldPtrA ty35 rfl rfl rfl rfl (lk rfl) ?_)
 refine So.n (lk rfl) (A.call0 [.agg 5 _] 2 rfl rfl rfl rfl ⟨trivial, trivial⟩ trivial (g, ep, fr, gn, cl) ⟨le_agg (fun j hj => by match j, hj with | 0, _ => rfl | 1, _ => rfl | 2, _ => rfl | 3, _ => rfl | 4, _ => rfl), trivial⟩ trivial (by trivial) (Φ := fun _ => True) (fun _ _ => trivial) (.inl rfl) (v := .agg 3 _) rfl (O' := _) rfl (fun h1 => ?_))
 refine So.n (lk rfl) (A.call0 [.agg 3 _] 2 rfl rfl rfl rfl ⟨trivial, trivial⟩ trivial (g, ep, fr) ⟨.refl _, trivial⟩ trivial (by trivial) (Φ := fun _ => True) (fun _ _ => trivial) (.inl rfl) (v := .p (.v (.bool _))) rfl (O' := _) rfl (fun h2 => ?_))
 refine So.q rfl rfl (V.mv (v := .p (.v (.bool _))) rfl ?_)
 refine So.gd rfl rfl (lk rfl) (lk rfl) (fun h3 => ?_) (fun h3 => ?_)
 ·have h3 := of_decide_eq_true h3
  refine A.v rfl (V.faPtr ty35 rfl ty2 (lk rfl) rfl rfl (lk rfl) ?_)
  refine So.gy rfl rfl (lk rfl) (lk rfl) ?_
  refine A.v rfl (V.ldPtr ty2 rfl rfl rfl (lk rfl) (v := .p (.v (.int .i64 _))) rfl ?_)
  refine So.gy rfl rfl (lk rfl) (lk rfl) ?_
  refine A.v rfl (V.bin (a := (.v (.int .i64 _))) (b := (.v (.int .i64 (0)))) (r := .v (.bool _)) rfl rfl rfl trivial ?_)
  refine So.q rfl rfl (V.pkTrue (u := .p (.v (.bool _))) rfl rfl ?_)
  refine So.q rfl rfl (V.mv (v := .p (.v (.bool _))) rfl ?_)
  refine So.gd rfl rfl (lk rfl) (lk rfl) (fun h4 => ?_) (fun h4 => ?_)
  ·have h4 := of_decide_eq_true h4
   refine A.v rfl (V.faPtr ty35 rfl ty2 (lk rfl) rfl rfl (lk rfl) ?_)
   refine So.gy rfl rfl (lk rfl) (lk rfl) ?_
   refine A.v rfl (V.ldPtr ty2 rfl rfl rfl (lk rfl) (v := .p (.v (.int .i64 _))) rfl ?_)
   refine So.gy rfl rfl (lk rfl) (lk rfl) ?_
   refine A.v rfl (V.bin (a := (.v (.int .i64 _))) (b := (.v (.int .i64 (1073741824)))) (r := .v (.bool _)) rfl rfl rfl trivial ?_)
   refine So.q rfl rfl (V.pkTrue (u := .p (.v (.bool _))) rfl rfl ?_)
   refine So.q rfl rfl (V.mv (v := .p (.v (.bool _))) rfl ?_)
   refine So.gd rfl rfl (lk rfl) (lk rfl) (fun h5 => ?_) (fun h5 => ?_)
   ·have h5 := of_decide_eq_true h5
    refine A.v rfl (V.faPtr ty35 rfl ty22 (lk rfl) rfl rfl (lk rfl) ?_)
    refine So.gy rfl rfl (lk rfl) (lk rfl) ?_
    refine A.v rfl (V.ldPtr ty22 rfl rfl rfl (lk rfl) (v := .p (.bs _)) rfl ?_)
    refine So.gy rfl rfl (lk rfl) (lk rfl) ?_
    refine A.v rfl (V.len ty22 (v := .p (.bs _)) rfl rfl ?_)
    refine So.gy rfl rfl (lk rfl) (lk rfl) ?_
    refine A.v rfl (V.bin (a := (.v (.int .i64 _))) (b := (.v (.int .i64 (32800)))) (r := .v (.bool _)) rfl rfl rfl trivial ?_)
    refine So.q rfl rfl (V.pkTrue (u := .p (.v (.bool _))) rfl rfl ?_)
    refine So.q rfl rfl (V.as (v := .p (.v (.bool _))) rfl ?_)
    refine So.e ?_
    show HT _ _ _ _ _
    refine HT.ret ?_
    exact ret_ok (sg []) h rfl rfl rfl trivial ⟨trivial, trivial⟩ rfl ⟨⟨⟨le_bool (by first | with_reducible rfl | exact (decide_eq_false (by unfold sealP; first | omega | (rintro ⟨q, _⟩; exact absurd q (by assumption)))).symm | exact decide_eq_decide.2 (by unfold sealP; first | omega | (have q := ‹whereP g ep fr›; exact ⟨fun h9 => ⟨q, by omega⟩, fun h9 => by omega⟩))), trivial⟩, trivial⟩, trivial⟩
   ·have h5 := of_decide_eq_false h5
    refine So.gn (b := false) rfl rfl rfl (lk rfl) (lk rfl) ?_
    refine So.gn (b := false) rfl rfl rfl (lk rfl) (lk rfl) ?_
    refine So.gn (b := false) rfl rfl rfl (lk rfl) (lk rfl) ?_
    refine So.q rfl rfl (V.pkFalse (u := .p (.v (.bool false))) rfl rfl ?_)
    refine So.q rfl rfl (V.as (v := .p (.v (.bool false))) rfl ?_)
    refine So.e ?_
    show HT _ _ _ _ _
    refine HT.ret ?_
    exact ret_ok (sg []) h rfl rfl rfl trivial ⟨trivial, trivial⟩ rfl ⟨⟨⟨le_bool (by first | with_reducible rfl | exact (decide_eq_false (by unfold sealP; first | omega | (rintro ⟨q, _⟩; exact absurd q (by assumption)))).symm | exact decide_eq_decide.2 (by unfold sealP; first | omega | (have q := ‹whereP g ep fr›; exact ⟨fun h9 => ⟨q, by omega⟩, fun h9 => by omega⟩))), trivial⟩, trivial⟩, trivial⟩
  ·have h4 := of_decide_eq_false h4
   refine So.gn (b := false) rfl rfl rfl (lk rfl) (lk rfl) ?_
   refine So.gn (b := false) rfl rfl rfl (lk rfl) (lk rfl) ?_
   refine So.q rfl rfl (V.pkFalse (u := .p (.v (.bool false))) rfl rfl ?_)
   refine So.q rfl rfl (V.mv (v := .p (.v (.bool false))) rfl ?_)
   refine So.gn (b := false) rfl rfl rfl (lk rfl) (lk rfl) ?_
   refine So.gn (b := false) rfl rfl rfl (lk rfl) (lk rfl) ?_
   refine So.gn (b := false) rfl rfl rfl (lk rfl) (lk rfl) ?_
   refine So.gn (b := false) rfl rfl rfl (lk rfl) (lk rfl) ?_
   refine So.q rfl rfl (V.pkFalse (u := .p (.v (.bool false))) rfl rfl ?_)
   refine So.q rfl rfl (V.as (v := .p (.v (.bool false))) rfl ?_)
   refine So.e ?_
   show HT _ _ _ _ _
   refine HT.ret ?_
   exact ret_ok (sg []) h rfl rfl rfl trivial ⟨trivial, trivial⟩ rfl ⟨⟨⟨le_bool (by first | with_reducible rfl | exact (decide_eq_false (by unfold sealP; first | omega | (rintro ⟨q, _⟩; exact absurd q (by assumption)))).symm | exact decide_eq_decide.2 (by unfold sealP; first | omega | (have q := ‹whereP g ep fr›; exact ⟨fun h9 => ⟨q, by omega⟩, fun h9 => by omega⟩))), trivial⟩, trivial⟩, trivial⟩
 ·have h3 := of_decide_eq_false h3
  refine So.gn (b := false) rfl rfl rfl (lk rfl) (lk rfl) ?_
  refine So.gn (b := false) rfl rfl rfl (lk rfl) (lk rfl) ?_
  refine So.q rfl rfl (V.pkFalse (u := .p (.v (.bool false))) rfl rfl ?_)
  refine So.q rfl rfl (V.mv (v := .p (.v (.bool false))) rfl ?_)
  refine So.gn (b := false) rfl rfl rfl (lk rfl) (lk rfl) ?_
  refine So.gn (b := false) rfl rfl rfl (lk rfl) (lk rfl) ?_
  refine So.gn (b := false) rfl rfl rfl (lk rfl) (lk rfl) ?_
  refine So.q rfl rfl (V.pkFalse (u := .p (.v (.bool false))) rfl rfl ?_)
  refine So.q rfl rfl (V.mv (v := .p (.v (.bool false))) rfl ?_)
  refine So.gn (b := false) rfl rfl rfl (lk rfl) (lk rfl) ?_
  refine So.gn (b := false) rfl rfl rfl (lk rfl) (lk rfl) ?_
  refine So.gn (b := false) rfl rfl rfl (lk rfl) (lk rfl) ?_
  refine So.gn (b := false) rfl rfl rfl (lk rfl) (lk rfl) ?_
  refine So.q rfl rfl (V.pkFalse (u := .p (.v (.bool false))) rfl rfl ?_)
  refine So.q rfl rfl (V.as (v := .p (.v (.bool false))) rfl ?_)
  refine So.e ?_
  show HT _ _ _ _ _
  refine HT.ret ?_
  exact ret_ok (sg []) h rfl rfl rfl trivial ⟨trivial, trivial⟩ rfl ⟨⟨⟨le_bool (by first | with_reducible rfl | exact (decide_eq_false (by unfold sealP; first | omega | (rintro ⟨q, _⟩; exact absurd q (by assumption)))).symm | exact decide_eq_decide.2 (by unfold sealP; first | omega | (have q := ‹whereP g ep fr›; exact ⟨fun h9 => ⟨q, by omega⟩, fun h9 => by omega⟩))), trivial⟩, trivial⟩, trivial⟩
end Go.Vh

set_option linter.unusedVariables false
set_option linter.unusedSimpArgs false
namespace Go.Vh
open Go Go.Vc Go.Proofs Go.Vw
def fmsgSp : Sp := ⟨[], mkE (α := (List UInt8) × Int × Int × Int × (List UInt8) × (List UInt8) × (List UInt8) × (List UInt8)) (fun (g, ep, fr, kd, bd, sn, cf, mb) => [.agg 8 (fun j => ([.bs g, .v (.int .i64 ep), .v (.int .i64 fr), .v (.int .i64 kd), .bs bd, .bs sn, .bs cf, .bs mb] : List PV).getD j (.v undef))]) (fun (g, ep, fr, kd, bd, sn, cf, mb) => []) (fun (g, ep, fr, kd, bd, sn, cf, mb) => True) (fun (g, ep, fr, kd, bd, sn, cf, mb) => [.p (.v (.bool (decide (msgP g ep fr kd bd sn cf mb))))]) (fun (g, ep, fr, kd, bd, sn, cf, mb) => [])⟩
def S_fmsg : FuncId → Option Sp := fun f => if f = 12 then some frightSp else if f = 44 then some ftagSp else none
theorem S_fmsg_ok : ∀ f s, S_fmsg f = some s → FOK Tryd.prog gl f s := fun f s h => by
 unfold S_fmsg at h
 split at h
 ·rename_i e; cases h; subst e; exact fright_ok
 split at h
 ·rename_i e; cases h; subst e; exact ftag_ok
 cases h
set_option maxHeartbeats 1000000 in
set_option maxRecDepth 1000 in
theorem fmsg_ok : FOK Tryd.prog gl 24 fmsgSp := by
 refine FOK.ofE (tyOf_ok Tryd.prog) (slots := [2]) (nt := 25) Tryd.func24 rfl rfl rfl rfl (by decide) 1 (fun ⟨_, _, _, _, _, _, _, _⟩ => rfl) (by decide) (fun ⟨_, _, _, _, _, _, _, _⟩ => ⟨trivial, trivial⟩) ?_
 rintro ⟨g, ep, fr, kd, bd, sn, cf, mb⟩ kk hlen hpre h
 replace hpre : True := hpre
 show HT (cx Tryd.prog 25 (tyOf Tryd.prog) gl []) _ [(0, .agg 8 (fun j => ([.bs g, .v (.int .i64 ep), .v (.int .i64 fr), .v (.int .i64 kd), .bs bd, .bs sn, .bs cf, .bs mb] : List PV).getD j (.v undef)))] [] _
 refine HT.seq ?_
 refine HT.region S_fmsg_ok ?_
 refine So.n (lk rfl) (A.boxAg 1 1 (n := 8) rfl (by intro j hj; first | rfl | trivial | (match j, hj with | 0, _ => (first | trivial | rfl) | 1, _ => (first | trivial | rfl) | 2, _ => (first | trivial | rfl) | 3, _ => (first | trivial | rfl) | 4, _ => (first | trivial | rfl) | 5, _ => (first | trivial | rfl) | 6, _ => (first | trivial | rfl) | 7, _ => (first | trivial | rfl)) | (split <;> first | rfl | trivial | (split <;> first | rfl | trivial))) rfl trivial ?_)
 refine So.q rfl rfl (V.as (v := .p (.v (.bool false))) rfl ?_)
 refine So.e ?_
 show HT _ _ _ _ _
 refine HT.seq ?_
 refine HT.region S_fmsg_ok ?_
 refine So.q rfl rfl (V.as (v := .clo 44 []) rfl ?_)
 refine So.e ?_
 show HT _ _ _ _ _
 refine HT.seq ?_
 refine HT.region S_fmsg_ok ?_
 refine So.q rfl rfl (V.faPtr ty26 rfl ty24 (lk rfl) rfl rfl (lk rfl) ?_)
 refine So.q rfl rfl (V.ldPtrA ty24 rfl rfl rfl rfl (lk rfl) ?_)
 refine So.n (lk rfl) (A.call0 [.agg 5 _] 2 rfl rfl rfl rfl ⟨trivial, trivial⟩ trivial (g, ep, fr, kd, bd) ⟨le_agg (fun j hj => by match j, hj with | 0, _ => rfl | 1, _ => rfl | 2, _ => rfl | 3, _ => rfl | 4, _ => rfl), trivial⟩ trivial (by trivial) (Φ := fun _ => True) (fun _ _ => trivial) (.inl rfl) (v := .p (.v (.bool _))) rfl (O' := _) rfl (fun h1 => ?_))
 refine So.q rfl rfl (V.mv (v := .p (.v (.bool _))) rfl ?_)
 refine So.gd rfl rfl (lk rfl) (lk rfl) (fun h2 => ?_) (fun h2 => ?_)
 ·have h2 := of_decide_eq_true h2
  refine A.v rfl (V.faPtr ty26 rfl ty22 (lk rfl) rfl rfl (lk rfl) ?_)
  refine So.gy rfl rfl (lk rfl) (lk rfl) ?_
  refine A.v rfl (V.ldPtr ty22 rfl rfl rfl (lk rfl) (v := .p (.bs _)) rfl ?_)
  refine So.gy rfl rfl (lk rfl) (lk rfl) ?_
  refine A.v rfl (V.len ty22 (v := .p (.bs _)) rfl rfl ?_)
  refine So.gy rfl rfl (lk rfl) (lk rfl) ?_
  refine A.v rfl (V.bin (a := (.v (.int .i64 _))) (b := (.v (.int .i64 (3309)))) (r := .v (.bool _)) rfl rfl rfl trivial ?_)
  refine So.q rfl rfl (V.pkTrue (u := .p (.v (.bool _))) rfl rfl ?_)
  refine So.q rfl rfl (V.mv (v := .p (.v (.bool _))) rfl ?_)
  refine So.gd rfl rfl (lk rfl) (lk rfl) (fun h3 => ?_) (fun h3 => ?_)
  ·have h3 := of_decide_eq_true h3
   refine A.v rfl (V.mv (v := .clo 44 []) rfl ?_)
   refine So.gy rfl rfl (lk rfl) (lk rfl) ?_
   refine A.v rfl (V.faPtr ty26 rfl ty22 (lk rfl) rfl rfl (lk rfl) ?_)
   refine So.gy rfl rfl (lk rfl) (lk rfl) ?_
   refine A.v rfl (V.ldPtr ty22 rfl rfl rfl (lk rfl) (v := .p (.bs _)) rfl ?_)
   refine So.gy rfl rfl (lk rfl) (lk rfl) ?_
   refine A.call0 [.p (.bs _)] 2 rfl rfl rfl rfl ⟨trivial, trivial⟩ trivial (cf) ⟨.refl _, trivial⟩ trivial (by trivial) (Φ := fun _ => True) (fun _ _ => trivial) (.inl rfl) (v := .p (.v (.bool _))) rfl (O' := _) rfl (fun h4 => ?_)
   refine So.q rfl rfl (V.pkTrue (u := .p (.v (.bool _))) rfl rfl ?_)
   refine So.q rfl rfl (V.mv (v := .p (.v (.bool _))) rfl ?_)
   refine So.gd rfl rfl (lk rfl) (lk rfl) (fun h5 => ?_) (fun h5 => ?_)
   ·have h5 := of_decide_eq_true h5
    refine A.v rfl (V.mv (v := .clo 44 []) rfl ?_)
    refine So.gy rfl rfl (lk rfl) (lk rfl) ?_
    refine A.v rfl (V.faPtr ty26 rfl ty22 (lk rfl) rfl rfl (lk rfl) ?_)
    refine So.gy rfl rfl (lk rfl) (lk rfl) ?_
    refine A.v rfl (V.ldPtr ty22 rfl rfl rfl (lk rfl) (v := .p (.bs _)) rfl ?_)
    refine So.gy rfl rfl (lk rfl) (lk rfl) ?_
    refine A.call0 [.p (.bs _)] 2 rfl rfl rfl rfl ⟨trivial, trivial⟩ trivial (mb) ⟨.refl _, trivial⟩ trivial (by trivial) (Φ := fun _ => True) (fun _ _ => trivial) (.inl rfl) (v := .p (.v (.bool _))) rfl (O' := _) rfl (fun h6 => ?_)
    refine So.q rfl rfl (V.pkTrue (u := .p (.v (.bool _))) rfl rfl ?_)
    refine So.q rfl rfl (V.as (v := .p (.v (.bool _))) rfl ?_)
    refine So.e ?_
    show HT _ _ _ _ _
    refine HT.ret ?_
    exact ret_ok (sg []) h rfl rfl rfl trivial ⟨trivial, trivial⟩ rfl ⟨⟨⟨le_bool (by first | with_reducible rfl | exact msg_no (fun q => absurd q.1 (by assumption)) | exact msg_no (fun q => by have := q.2; omega) | exact msg_yes ⟨by assumption, by omega⟩ | exact msg_iff ⟨fun q => ⟨by assumption, by omega⟩, fun q => by have := q.2; omega⟩ | (unfold tagP at *; first | exact msg_no (fun q => absurd q.1 (by assumption)) | exact msg_no (fun q => by have := q.2; omega) | exact msg_yes ⟨by assumption, by omega⟩ | exact msg_iff ⟨fun q => ⟨by assumption, by omega⟩, fun q => by have := q.2; omega⟩)), trivial⟩, trivial⟩, trivial⟩
   ·have h5 := of_decide_eq_false h5
    refine So.gn (b := false) rfl rfl rfl (lk rfl) (lk rfl) ?_
    refine So.gn (b := false) rfl rfl rfl (lk rfl) (lk rfl) ?_
    refine So.gn (b := false) rfl rfl rfl (lk rfl) (lk rfl) ?_
    refine So.q rfl rfl (V.pkFalse (u := .p (.v (.bool false))) rfl rfl ?_)
    refine So.q rfl rfl (V.as (v := .p (.v (.bool false))) rfl ?_)
    refine So.e ?_
    show HT _ _ _ _ _
    refine HT.ret ?_
    exact ret_ok (sg []) h rfl rfl rfl trivial ⟨trivial, trivial⟩ rfl ⟨⟨⟨le_bool (by first | with_reducible rfl | exact msg_no (fun q => absurd q.1 (by assumption)) | exact msg_no (fun q => by have := q.2; omega) | exact msg_yes ⟨by assumption, by omega⟩ | exact msg_iff ⟨fun q => ⟨by assumption, by omega⟩, fun q => by have := q.2; omega⟩ | (unfold tagP at *; first | exact msg_no (fun q => absurd q.1 (by assumption)) | exact msg_no (fun q => by have := q.2; omega) | exact msg_yes ⟨by assumption, by omega⟩ | exact msg_iff ⟨fun q => ⟨by assumption, by omega⟩, fun q => by have := q.2; omega⟩)), trivial⟩, trivial⟩, trivial⟩
  ·have h3 := of_decide_eq_false h3
   refine So.gn (b := false) rfl rfl rfl (lk rfl) (lk rfl) ?_
   refine So.gn (b := false) rfl rfl rfl (lk rfl) (lk rfl) ?_
   refine So.gn (b := false) rfl rfl rfl (lk rfl) (lk rfl) ?_
   refine So.q rfl rfl (V.pkFalse (u := .p (.v (.bool false))) rfl rfl ?_)
   refine So.q rfl rfl (V.mv (v := .p (.v (.bool false))) rfl ?_)
   refine So.gn (b := false) rfl rfl rfl (lk rfl) (lk rfl) ?_
   refine So.gn (b := false) rfl rfl rfl (lk rfl) (lk rfl) ?_
   refine So.gn (b := false) rfl rfl rfl (lk rfl) (lk rfl) ?_
   refine So.gn (b := false) rfl rfl rfl (lk rfl) (lk rfl) ?_
   refine So.q rfl rfl (V.pkFalse (u := .p (.v (.bool false))) rfl rfl ?_)
   refine So.q rfl rfl (V.as (v := .p (.v (.bool false))) rfl ?_)
   refine So.e ?_
   show HT _ _ _ _ _
   refine HT.ret ?_
   exact ret_ok (sg []) h rfl rfl rfl trivial ⟨trivial, trivial⟩ rfl ⟨⟨⟨le_bool (by first | with_reducible rfl | exact msg_no (fun q => absurd q.1 (by assumption)) | exact msg_no (fun q => by have := q.2; omega) | exact msg_yes ⟨by assumption, by omega⟩ | exact msg_iff ⟨fun q => ⟨by assumption, by omega⟩, fun q => by have := q.2; omega⟩ | (unfold tagP at *; first | exact msg_no (fun q => absurd q.1 (by assumption)) | exact msg_no (fun q => by have := q.2; omega) | exact msg_yes ⟨by assumption, by omega⟩ | exact msg_iff ⟨fun q => ⟨by assumption, by omega⟩, fun q => by have := q.2; omega⟩)), trivial⟩, trivial⟩, trivial⟩
 ·have h2 := of_decide_eq_false h2
  refine So.gn (b := false) rfl rfl rfl (lk rfl) (lk rfl) ?_
  refine So.gn (b := false) rfl rfl rfl (lk rfl) (lk rfl) ?_
  refine So.gn (b := false) rfl rfl rfl (lk rfl) (lk rfl) ?_
  refine So.q rfl rfl (V.pkFalse (u := .p (.v (.bool false))) rfl rfl ?_)
  refine So.q rfl rfl (V.mv (v := .p (.v (.bool false))) rfl ?_)
  refine So.gn (b := false) rfl rfl rfl (lk rfl) (lk rfl) ?_
  refine So.gn (b := false) rfl rfl rfl (lk rfl) (lk rfl) ?_
  refine So.gn (b := false) rfl rfl rfl (lk rfl) (lk rfl) ?_
  refine So.gn (b := false) rfl rfl rfl (lk rfl) (lk rfl) ?_
  refine So.q rfl rfl (V.pkFalse (u := .p (.v (.bool false))) rfl rfl ?_)
  refine So.q rfl rfl (V.mv (v := .p (.v (.bool false))) rfl ?_)
  refine So.gn (b := false) rfl rfl rfl (lk rfl) (lk rfl) ?_
  refine So.gn (b := false) rfl rfl rfl (lk rfl) (lk rfl) ?_
  refine So.gn (b := false) rfl rfl rfl (lk rfl) (lk rfl) ?_
  refine So.gn (b := false) rfl rfl rfl (lk rfl) (lk rfl) ?_
  refine So.q rfl rfl (V.pkFalse (u := .p (.v (.bool false))) rfl rfl ?_)
  refine So.q rfl rfl (V.as (v := .p (.v (.bool false))) rfl ?_)
  refine So.e ?_
  show HT _ _ _ _ _
  refine HT.ret ?_
  exact ret_ok (sg []) h rfl rfl rfl trivial ⟨trivial, trivial⟩ rfl ⟨⟨⟨le_bool (by first | with_reducible rfl | exact msg_no (fun q => absurd q.1 (by assumption)) | exact msg_no (fun q => by have := q.2; omega) | exact msg_yes ⟨by assumption, by omega⟩ | exact msg_iff ⟨fun q => ⟨by assumption, by omega⟩, fun q => by have := q.2; omega⟩ | (unfold tagP at *; first | exact msg_no (fun q => absurd q.1 (by assumption)) | exact msg_no (fun q => by have := q.2; omega) | exact msg_yes ⟨by assumption, by omega⟩ | exact msg_iff ⟨fun q => ⟨by assumption, by omega⟩, fun q => by have := q.2; omega⟩)), trivial⟩, trivial⟩, trivial⟩
end Go.Vh

set_option linter.unusedVariables false
set_option linter.unusedSimpArgs false
namespace Go.Vh
open Go Go.Vc Go.Proofs Go.Vw
def fitsSp : Sp := ⟨[], mkE (α := Int) (fun n => [.p (.v (.int .i64 (n)))]) (fun n => []) (fun n => True) (fun n => [.p (.v (.bool (fitsF n)))]) (fun n => [])⟩
def S_fits : FuncId → Option Sp := fun _ => none
theorem S_fits_ok : ∀ f s, S_fits f = some s → FOK Tryd.prog gl f s := fun f s h => by cases h
set_option maxHeartbeats 1000000 in
set_option maxRecDepth 1000 in
theorem fits_ok : FOK Tryd.prog gl 60 fitsSp := by
 refine FOK.ofE (tyOf_ok Tryd.prog) (slots := [2]) (nt := 9) Tryd.func60 rfl rfl rfl rfl (by decide) 1 (fun _ => rfl) (by decide) (fun _ => ⟨trivial, trivial⟩) ?_
 rintro n kk hlen hpre h
 replace hpre : True := hpre
 show HT (cx Tryd.prog 9 (tyOf Tryd.prog) gl []) _ [(0, .p (.v (.int .i64 (n))))] [] _
 refine HT.seq ?_
 refine HT.region S_fits_ok ?_
 refine So.q rfl rfl (V.as (v := .p (.v (.bool false))) rfl ?_)
 refine So.e ?_
 show HT _ _ _ _ _
 refine HT.seq ?_
 refine HT.seq ?_
 refine HT.region S_fits_ok ?_
 refine So.q rfl rfl (V.mv (v := .p (.v (.int .i64 _))) rfl ?_)
 refine So.e ?_
 show HT _ _ _ _ _
 refine HT.block ?_
 refine HT.seq ?_
 refine HT.seq ?_
 refine HT.region S_fits_ok ?_
 refine So.q rfl rfl (V.bin (a := (.v (.int .i64 _))) (b := (.v (.int .i64 (1)))) (r := .v (.bool _)) rfl rfl rfl trivial ?_)
 refine So.q rfl rfl (V.as (v := .p (.v (.bool _))) rfl ?_)
 refine So.e ?_
 show HT _ _ _ _ _
 refine R.cond rfl rfl (fun h1 => ?_) (fun h1 => ?_)
 ·have h1 := of_decide_eq_true h1
  refine HT.skip ?_
  show HT _ _ _ _ _
  refine R.condT rfl ?_
  refine HT.seq ?_
  refine HT.region S_fits_ok ?_
  refine So.q rfl rfl (V.as (v := .p (.v (.bool true))) rfl ?_)
  refine So.e ?_
  show HT _ _ _ _ _
  refine HT.ret ?_
  exact ret_ok (sg []) h rfl rfl rfl trivial ⟨trivial, trivial⟩ rfl ⟨⟨⟨le_bool (by first | exact fits_t (by omega) | exact fits_f (by omega) | omega), trivial⟩, trivial⟩, trivial⟩
 ·have h1 := of_decide_eq_false h1
  refine HT.seq ?_
  refine HT.region S_fits_ok ?_
  refine So.q rfl rfl (V.bin (a := (.v (.int .i64 _))) (b := (.v (.int .i64 (2)))) (r := .v (.bool _)) rfl rfl rfl trivial ?_)
  refine So.q rfl rfl (V.as (v := .p (.v (.bool _))) rfl ?_)
  refine So.e ?_
  show HT _ _ _ _ _
  refine R.cond rfl rfl (fun h2 => ?_) (fun h2 => ?_)
  ·have h2 := of_decide_eq_true h2
   refine HT.skip ?_
   show HT _ _ _ _ _
   refine R.condT rfl ?_
   refine HT.seq ?_
   refine HT.region S_fits_ok ?_
   refine So.q rfl rfl (V.as (v := .p (.v (.bool true))) rfl ?_)
   refine So.e ?_
   show HT _ _ _ _ _
   refine HT.ret ?_
   exact ret_ok (sg []) h rfl rfl rfl trivial ⟨trivial, trivial⟩ rfl ⟨⟨⟨le_bool (by first | exact fits_t (by omega) | exact fits_f (by omega) | omega), trivial⟩, trivial⟩, trivial⟩
  ·have h2 := of_decide_eq_false h2
   refine HT.seq ?_
   refine HT.region S_fits_ok ?_
   refine So.q rfl rfl (V.bin (a := (.v (.int .i64 _))) (b := (.v (.int .i64 (4)))) (r := .v (.bool _)) rfl rfl rfl trivial ?_)
   refine So.q rfl rfl (V.as (v := .p (.v (.bool _))) rfl ?_)
   refine So.e ?_
   show HT _ _ _ _ _
   refine R.cond rfl rfl (fun h3 => ?_) (fun h3 => ?_)
   ·have h3 := of_decide_eq_true h3
    refine HT.skip ?_
    show HT _ _ _ _ _
    refine R.condT rfl ?_
    refine HT.seq ?_
    refine HT.region S_fits_ok ?_
    refine So.q rfl rfl (V.as (v := .p (.v (.bool true))) rfl ?_)
    refine So.e ?_
    show HT _ _ _ _ _
    refine HT.ret ?_
    exact ret_ok (sg []) h rfl rfl rfl trivial ⟨trivial, trivial⟩ rfl ⟨⟨⟨le_bool (by first | exact fits_t (by omega) | exact fits_f (by omega) | omega), trivial⟩, trivial⟩, trivial⟩
   ·have h3 := of_decide_eq_false h3
    refine HT.region S_fits_ok ?_
    refine So.q rfl rfl (V.bin (a := (.v (.int .i64 _))) (b := (.v (.int .i64 (8)))) (r := .v (.bool _)) rfl rfl rfl trivial ?_)
    refine So.q rfl rfl (V.as (v := .p (.v (.bool _))) rfl ?_)
    refine So.e ?_
    show HT _ _ _ _ _
    refine R.cond rfl rfl (fun h4 => ?_) (fun h4 => ?_)
    ·have h4 := of_decide_eq_true h4
     refine HT.seq ?_
     refine HT.region S_fits_ok ?_
     refine So.q rfl rfl (V.as (v := .p (.v (.bool true))) rfl ?_)
     refine So.e ?_
     show HT _ _ _ _ _
     refine HT.ret ?_
     exact ret_ok (sg []) h rfl rfl rfl trivial ⟨trivial, trivial⟩ rfl ⟨⟨⟨le_bool (by first | exact fits_t (by omega) | exact fits_f (by omega) | omega), trivial⟩, trivial⟩, trivial⟩
    ·have h4 := of_decide_eq_false h4
     refine HT.skip ?_
     show HT _ _ _ _ _
     refine HT.seq ?_
     refine HT.region S_fits_ok ?_
     refine So.q rfl rfl (V.as (v := .p (.v (.bool false))) rfl ?_)
     refine So.e ?_
     show HT _ _ _ _ _
     refine HT.ret ?_
     exact ret_ok (sg []) h rfl rfl rfl trivial ⟨trivial, trivial⟩ rfl ⟨⟨⟨le_bool (by first | exact fits_t (by omega) | exact fits_f (by omega) | omega), trivial⟩, trivial⟩, trivial⟩
def numSp : Sp := ⟨[], mkE (α := Int × Int) (fun (n, k) => [.p (.v (.int .i64 (n))), .p (.v (.int .i64 (k)))]) (fun (n, k) => []) (fun (n, k) => True) (fun (n, k) => [.own 1 (0) ((numF n k).length)]) (fun (n, k) => [(1, ⟨5, 1, (numF n k).length, true, .bs (numF n k)⟩)])⟩
def S_num : FuncId → Option Sp := fun f => if f = 60 then some fitsSp else none
theorem S_num_ok : ∀ f s, S_num f = some s → FOK Tryd.prog gl f s := fun f s h => by
 unfold S_num at h
 split at h
 ·rename_i e; cases h; subst e; exact fits_ok
 cases h
set_option maxHeartbeats 1000000 in
set_option maxRecDepth 1000 in
theorem num_ok : FOK Tryd.prog gl 52 numSp := by
 refine FOK.ofE (tyOf_ok Tryd.prog) (slots := [4]) (nt := 45) Tryd.func52 rfl rfl rfl rfl (by decide) 2 (fun ⟨_, _⟩ => rfl) (by decide) (fun ⟨_, _⟩ => ⟨trivial, trivial, trivial⟩) ?_
 rintro ⟨n, k⟩ kk hlen hpre h
 replace hpre : True := hpre
 show HT (cx Tryd.prog 45 (tyOf Tryd.prog) gl []) _ [(0, .p (.v (.int .i64 (n)))), (1, .p (.v (.int .i64 (k))))] [] _
 refine HT.seq ?_
 refine HT.region S_num_ok ?_
 refine So.q rfl rfl (V.as (v := .p (.v (.slice none 0 0))) rfl ?_)
 refine So.e ?_
 show HT _ _ _ _ _
 refine HT.seq ?_
 refine HT.seq ?_
 refine HT.region S_num_ok ?_
 refine So.q rfl rfl (V.mv (v := .p (.v (.int .i64 _))) rfl ?_)
 refine So.n (lk rfl) (A.call0 [.p (.v (.int .i64 _))] 1 rfl rfl rfl rfl ⟨trivial, trivial⟩ trivial _ ⟨.refl _, trivial⟩ trivial (by trivial) (Φ := fun _ => True) (fun _ _ => trivial) (.inl rfl) (v := .p (.v (.bool _))) rfl (O' := _) rfl (fun h1 => ?_))
 refine So.q rfl rfl (V.not rfl ?_)
 refine So.q rfl rfl (V.mv (v := .p (.v (.bool _))) rfl ?_)
 refine So.gd rfl rfl (lk rfl) (lk rfl) (fun h2 => ?_) (fun h2 => ?_)
 ·have h2 := fitsT (bnF h2)
  refine A.v rfl (V.mv (v := .p (.v (.int .i64 _))) rfl ?_)
  refine So.gy rfl rfl (lk rfl) (lk rfl) ?_
  refine A.v rfl (V.bin (a := (.v (.int .i64 _))) (b := (.v (.int .i64 (0)))) (r := .v (.bool _)) rfl rfl rfl trivial ?_)
  refine So.q rfl rfl (V.pkFalse (u := .p (.v (.bool _))) rfl rfl ?_)
  refine So.q rfl rfl (V.mv (v := .p (.v (.bool _))) rfl ?_)
  refine So.gd rfl rfl (lk rfl) (lk rfl) (fun h3 => ?_) (fun h3 => ?_)
  ·have h3 := of_decide_eq_false h3
   refine A.v rfl (V.mv (v := .p (.v (.int .i64 _))) rfl ?_)
   refine So.gy rfl rfl (lk rfl) (lk rfl) ?_
   refine A.v rfl (V.bin (a := (.v (.int .i64 _))) (b := (.v (.int .i64 (8)))) (r := .v (.bool _)) rfl rfl rfl trivial ?_)
   refine So.gy rfl rfl (lk rfl) (lk rfl) ?_
   refine A.v rfl (V.mv (v := .p (.v (.bool _))) rfl ?_)
   refine So.gd rfl rfl (lk rfl) (lk rfl) (fun h4 => ?_) (fun h4 => ?_)
   ·have h4 := of_decide_eq_true h4
    refine A.v rfl (V.mv (v := .p (.v (.int .i64 _))) rfl ?_)
    refine So.gy rfl rfl (lk rfl) (lk rfl) ?_
    refine A.v rfl (V.mv (v := .p (.v (.int .i64 _))) rfl ?_)
    refine So.gy rfl rfl (lk rfl) (lk rfl) ?_
    refine A.v rfl (V.mulI rfl rfl (by omega) ?_)
    refine So.gy rfl rfl (lk rfl) (lk rfl) ?_
    refine A.v rfl (V.bin (a := (.v (.int .i64 (1)))) (b := (.v (.int .i64 _))) (r := .v (.int .i64 _)) rfl rfl rfl (by first | rfl | omega | (simp; done) | (simp; omega)) ?_)
    refine So.gy rfl rfl (lk rfl) (lk rfl) ?_
    refine A.v rfl (V.bin (a := (.v (.int .i64 _))) (b := (.v (.int .i64 _))) (r := .v (.bool _)) rfl rfl rfl trivial ?_)
    refine So.gy rfl rfl (lk rfl) (lk rfl) ?_
    refine A.v rfl (V.pkTrue (u := .p (.v (.bool _))) rfl rfl ?_)
    refine So.q rfl rfl (V.pkFalse (u := .p (.v (.bool _))) rfl rfl ?_)
    refine So.e ?_
    show HT _ _ _ _ _
    refine R.cond rfl rfl (fun h5 => ?_) (fun h5 => ?_)
    ·have h5 := of_decide_eq_true h5
     refine HT.seq ?_
     refine HT.region S_num_ok ?_
     refine So.q rfl rfl (V.as (v := .p (.v (.slice none 0 0))) rfl ?_)
     refine So.e ?_
     show HT _ _ _ _ _
     refine R.phan 4 1 5 1 (.bs []) rfl rfl rfl ⟨rfl, rfl⟩ ?_
     refine HT.ret ?_
     exact ret_ok (sg [(1, 1)]) h rfl rfl rfl ⟨trivial, trivial⟩ ⟨rfl, trivial⟩ rfl ⟨⟨⟨le_own2 (by first | rfl | omega) (by first | rfl | (rw [numF_bad (by omega)] <;> rfl) | (rw [numF_big (by omega) (by omega)] <;> rfl) | (rw [numF_ok (by omega) (by omega) (by omega), numB_len]) | (rw [numF_ok (by omega) (by omega) (by omega)]; exact num_fin (by omega))), rfl⟩, trivial⟩, ⟨⟨_, rfl, .inl (ob_bs (by first | rfl | ((try dsimp only); (first | rfl | (rw [numF_bad (by omega)] <;> rfl) | (rw [numF_big (by omega) (by omega)] <;> rfl) | (rw [numF_ok (by omega) (by omega) (by omega), numB_len]) | (rw [numF_ok (by omega) (by omega) (by omega)]; exact num_fin (by omega))))) (by first | rfl | ((try dsimp only); (first | rfl | (rw [numF_bad (by omega)] <;> rfl) | (rw [numF_big (by omega) (by omega)] <;> rfl) | (rw [numF_ok (by omega) (by omega) (by omega), numB_len]) | (rw [numF_ok (by omega) (by omega) (by omega)]; exact num_fin (by omega)))))), trivial⟩, trivial⟩⟩
    ·have h5 := of_decide_eq_false h5
     refine HT.skip ?_
     show HT _ _ _ _ _
     refine HT.seq ?_
     refine HT.region S_num_ok ?_
     refine So.q rfl rfl (V.mv (v := .p (.v (.int .i64 _))) rfl ?_)
     refine So.n (lk rfl) (A.mkB 1 ty22 ty5 rfl rfl rfl (by omega) rfl rfl trivial ?_)
     refine So.q rfl rfl (V.as (v := .own 1 0 _) rfl ?_)
     refine So.e ?_
     show HT _ _ _ _ _
     refine HT.seq ?_
     refine HT.seq ?_
     refine HT.region S_num_ok ?_
     refine So.q rfl rfl (V.mv (v := .own 1 0 _) rfl ?_)
     refine So.q rfl rfl (V.len ty22 (v := .own 1 0 _) rfl rfl ?_)
     refine So.q rfl rfl (V.mv (v := .p (.v (.int .i64 (0)))) rfl ?_)
     refine So.e ?_
     show HT _ _ _ _ _
     refine HT.block ?_
     refine R.loop (σ := Nat) (fun s => [(29, .p (.v (.int .i64 ((s : Int)))))]) (fun s => [(1, ⟨5, 1, k.toNat, true, .bs (List.replicate (k.toNat - s) 0 ++ (numB n k.toNat).drop (k.toNat - s))⟩)]) [0, 1, 4, 5, 28] [] (fun s => s ≤ k.toNat) (fun s => k.toNat - s) (0) (fr0 := [(0, .p (.v (.int .i64 _))), (1, .p (.v (.int .i64 _))), (4, .p (.v (.slice none 0 0))), (5, .own 1 0 _), (28, .p (.v (.int .i64 _)))]) (O0 := []) rfl rfl (by first | rfl | omega | (simp; done) | (simp; omega)) ⟨⟨⟨le_int (by first | rfl | omega | (simp [numB]; done)), trivial⟩, ⟨.refl _, trivial⟩, ⟨.refl _, trivial⟩, ⟨.refl _, trivial⟩, ⟨.refl _, rfl⟩, ⟨.refl _, trivial⟩, trivial⟩, ⟨⟨_, rfl, .inl (ob_bs (by first | rfl | ((try dsimp only); first | rfl | omega | (simp [numB]; done))) (by first | rfl | ((try dsimp only); first | rfl | omega | (simp [numB]; done)))), trivial⟩, trivial⟩⟩ (fun s hP0 => ?_)
     refine HT.seq ?_
     refine HT.region S_num_ok ?_
     refine So.q rfl rfl (V.bin (a := (.v (.int .i64 ((_ : Nat) : Int)))) (b := (.v (.int .i64 _))) (r := .v (.bool _)) rfl rfl rfl trivial ?_)
     refine So.e ?_
     show HT _ _ _ _ _
     refine HT.seq ?_
     refine R.cond rfl rfl (fun h6 => ?_) (fun h6 => ?_)
     ·have h6 := of_decide_eq_true h6
      refine HT.skip ?_
      show HT _ _ _ _ _
      refine HT.seq ?_
      refine HT.block ?_
      refine HT.seq ?_
      refine HT.region S_num_ok ?_
      refine So.q rfl rfl (V.mv (v := .p (.v (.int .i64 ((_ : Nat) : Int)))) rfl ?_)
      refine So.q rfl rfl (V.as (v := .p (.v (.int .i64 ((_ : Nat) : Int)))) rfl ?_)
      refine So.e ?_
      show HT _ _ _ _ _
      refine HT.region S_num_ok ?_
      refine So.q rfl rfl (V.mv (v := .own 1 0 _) rfl ?_)
      refine So.q rfl rfl (V.mv (v := .p (.v (.int .i64 _))) rfl ?_)
      refine So.q rfl rfl (V.subI rfl rfl (by omega) ?_)
      refine So.q rfl rfl (V.mv (v := .p (.v (.int .i64 ((_ : Nat) : Int)))) rfl ?_)
      refine So.q rfl rfl (V.subI rfl rfl (by omega) ?_)
      refine So.q rfl rfl (V.mv (v := .p (.v (.int .i64 _))) rfl ?_)
      refine So.q rfl rfl (V.mv (v := .p (.v (.int .i64 ((_ : Nat) : Int)))) rfl ?_)
      refine So.q rfl rfl (V.mulI rfl rfl (by omega) ?_)
      refine So.q rfl rfl (V.bin (a := (.v (.int .i64 _))) (b := (.v (.int .i64 _))) (r := .v (.int .i64 _)) rfl rfl rfl (by first | rfl | omega | (simp; done) | (simp; omega)) ?_)
      refine So.q rfl rfl (V.cvN ty5 ty2 (a := (.v (.int .i64 _))) (r := (.u8 _)) rfl rfl ?_)
      refine So.q rfl rfl (V.ixOwn10 ty22 ty5 rfl rfl rfl rfl rfl (by omega) rfl ?_)
      refine So.s (A.sto ty5 rfl rfl rfl (v := .p (.u8 _)) rfl trivial rfl (by first | rfl | omega | (simp; done) | (simp; omega)) rfl rfl ?_)
      refine So.e ?_
      show HT _ _ _ _ _
      refine HT.region S_num_ok ?_
      refine So.q rfl rfl (V.addI rfl rfl (by omega) ?_)
      refine So.q rfl rfl (V.mv (v := .p (.v (.int .i64 _))) rfl ?_)
      refine So.e ?_
      refine ⟨s + 1, by first | rfl | omega | (simp; done) | (simp; omega), by omega, ⟨⟨⟨le_int (by first | rfl | omega | (simp; done) | (simp; omega)), trivial⟩, ⟨.refl _, trivial⟩, ⟨.refl _, trivial⟩, ⟨.refl _, trivial⟩, ⟨.refl _, rfl⟩, ⟨.refl _, trivial⟩, trivial⟩, ⟨⟨_, rfl, .inl (ob_bs (by first | rfl | ((try dsimp only); first | rfl | exact num_step (by omega) (by omega))) (by first | rfl | ((try dsimp only); first | rfl | exact num_step (by omega) (by omega)))), trivial⟩, trivial⟩⟩⟩
     ·have h6 := of_decide_eq_false h6
      refine HT.exit ?_
      show HT _ _ _ _ _
      refine HT.seq ?_
      refine HT.region S_num_ok ?_
      refine So.q rfl rfl (V.mv (v := .own 1 0 _) rfl ?_)
      refine So.q rfl rfl (V.as (v := .own 1 0 _) rfl ?_)
      refine So.e ?_
      show HT _ _ _ _ _
      refine HT.ret ?_
      exact ret_ok (sg [(1, 1)]) h rfl rfl rfl ⟨trivial, trivial⟩ ⟨rfl, trivial⟩ rfl ⟨⟨⟨le_own2 (by first | rfl | omega) (by first | rfl | (rw [numF_bad (by omega)] <;> rfl) | (rw [numF_big (by omega) (by omega)] <;> rfl) | (rw [numF_ok (by omega) (by omega) (by omega), numB_len]) | (rw [numF_ok (by omega) (by omega) (by omega)]; exact num_fin (by omega))), rfl⟩, trivial⟩, ⟨⟨_, rfl, .inl (ob_bs (by first | rfl | ((try dsimp only); (first | rfl | (rw [numF_bad (by omega)] <;> rfl) | (rw [numF_big (by omega) (by omega)] <;> rfl) | (rw [numF_ok (by omega) (by omega) (by omega), numB_len]) | (rw [numF_ok (by omega) (by omega) (by omega)]; exact num_fin (by omega))))) (by first | rfl | ((try dsimp only); (first | rfl | (rw [numF_bad (by omega)] <;> rfl) | (rw [numF_big (by omega) (by omega)] <;> rfl) | (rw [numF_ok (by omega) (by omega) (by omega), numB_len]) | (rw [numF_ok (by omega) (by omega) (by omega)]; exact num_fin (by omega)))))), trivial⟩, trivial⟩⟩
   ·have h4 := of_decide_eq_false h4
    refine So.gn (b := false) rfl rfl rfl (lk rfl) (lk rfl) ?_
    refine So.gn (b := false) rfl rfl rfl (lk rfl) (lk rfl) ?_
    refine So.gn (b := false) rfl rfl rfl (lk rfl) (lk rfl) ?_
    refine So.gn (b := false) rfl rfl rfl (lk rfl) (lk rfl) ?_
    refine So.gy rfl rfl (lk rfl) (lk rfl) ?_
    refine A.v rfl (V.pkFalse (u := .p (.v (.bool false))) rfl rfl ?_)
    refine So.q rfl rfl (V.pkFalse (u := .p (.v (.bool false))) rfl rfl ?_)
    refine So.e ?_
    show HT _ _ _ _ _
    refine R.condF rfl ?_
    refine HT.skip ?_
    show HT _ _ _ _ _
    refine HT.seq ?_
    refine HT.region S_num_ok ?_
    refine So.q rfl rfl (V.mv (v := .p (.v (.int .i64 _))) rfl ?_)
    refine So.n (lk rfl) (A.mkB 1 ty22 ty5 rfl rfl rfl (by omega) rfl rfl trivial ?_)
    refine So.q rfl rfl (V.as (v := .own 1 0 _) rfl ?_)
    refine So.e ?_
    show HT _ _ _ _ _
    refine HT.seq ?_
    refine HT.seq ?_
    refine HT.region S_num_ok ?_
    refine So.q rfl rfl (V.mv (v := .own 1 0 _) rfl ?_)
    refine So.q rfl rfl (V.len ty22 (v := .own 1 0 _) rfl rfl ?_)
    refine So.q rfl rfl (V.mv (v := .p (.v (.int .i64 (0)))) rfl ?_)
    refine So.e ?_
    show HT _ _ _ _ _
    refine HT.block ?_
    refine R.loop (σ := Nat) (fun s => [(29, .p (.v (.int .i64 ((s : Int)))))]) (fun s => [(1, ⟨5, 1, k.toNat, true, .bs (List.replicate (k.toNat - s) 0 ++ (numB n k.toNat).drop (k.toNat - s))⟩)]) [0, 1, 4, 5, 28] [] (fun s => s ≤ k.toNat) (fun s => k.toNat - s) (0) (fr0 := [(0, .p (.v (.int .i64 _))), (1, .p (.v (.int .i64 _))), (4, .p (.v (.slice none 0 0))), (5, .own 1 0 _), (28, .p (.v (.int .i64 _)))]) (O0 := []) rfl rfl (by first | rfl | omega | (simp; done) | (simp; omega)) ⟨⟨⟨le_int (by first | rfl | omega | (simp [numB]; done)), trivial⟩, ⟨.refl _, trivial⟩, ⟨.refl _, trivial⟩, ⟨.refl _, trivial⟩, ⟨.refl _, rfl⟩, ⟨.refl _, trivial⟩, trivial⟩, ⟨⟨_, rfl, .inl (ob_bs (by first | rfl | ((try dsimp only); first | rfl | omega | (simp [numB]; done))) (by first | rfl | ((try dsimp only); first | rfl | omega | (simp [numB]; done)))), trivial⟩, trivial⟩⟩ (fun s hP0 => ?_)
    refine HT.seq ?_
    refine HT.region S_num_ok ?_
    refine So.q rfl rfl (V.bin (a := (.v (.int .i64 ((_ : Nat) : Int)))) (b := (.v (.int .i64 _))) (r := .v (.bool _)) rfl rfl rfl trivial ?_)
    refine So.e ?_
    show HT _ _ _ _ _
    refine HT.seq ?_
    refine R.cond rfl rfl (fun h7 => ?_) (fun h7 => ?_)
    ·have h7 := of_decide_eq_true h7
     refine HT.skip ?_
     show HT _ _ _ _ _
     refine HT.seq ?_
     refine HT.block ?_
     refine HT.seq ?_
     refine HT.region S_num_ok ?_
     refine So.q rfl rfl (V.mv (v := .p (.v (.int .i64 ((_ : Nat) : Int)))) rfl ?_)
     refine So.q rfl rfl (V.as (v := .p (.v (.int .i64 ((_ : Nat) : Int)))) rfl ?_)
     refine So.e ?_
     show HT _ _ _ _ _
     refine HT.region S_num_ok ?_
     refine So.q rfl rfl (V.mv (v := .own 1 0 _) rfl ?_)
     refine So.q rfl rfl (V.mv (v := .p (.v (.int .i64 _))) rfl ?_)
     refine So.q rfl rfl (V.subI rfl rfl (by omega) ?_)
     refine So.q rfl rfl (V.mv (v := .p (.v (.int .i64 ((_ : Nat) : Int)))) rfl ?_)
     refine So.q rfl rfl (V.subI rfl rfl (by omega) ?_)
     refine So.q rfl rfl (V.mv (v := .p (.v (.int .i64 _))) rfl ?_)
     refine So.q rfl rfl (V.mv (v := .p (.v (.int .i64 ((_ : Nat) : Int)))) rfl ?_)
     refine So.q rfl rfl (V.mulI rfl rfl (by omega) ?_)
     refine So.q rfl rfl (V.bin (a := (.v (.int .i64 _))) (b := (.v (.int .i64 _))) (r := .v (.int .i64 _)) rfl rfl rfl (by first | rfl | omega | (simp; done) | (simp; omega)) ?_)
     refine So.q rfl rfl (V.cvN ty5 ty2 (a := (.v (.int .i64 _))) (r := (.u8 _)) rfl rfl ?_)
     refine So.q rfl rfl (V.ixOwn10 ty22 ty5 rfl rfl rfl rfl rfl (by omega) rfl ?_)
     refine So.s (A.sto ty5 rfl rfl rfl (v := .p (.u8 _)) rfl trivial rfl (by first | rfl | omega | (simp; done) | (simp; omega)) rfl rfl ?_)
     refine So.e ?_
     show HT _ _ _ _ _
     refine HT.region S_num_ok ?_
     refine So.q rfl rfl (V.addI rfl rfl (by omega) ?_)
     refine So.q rfl rfl (V.mv (v := .p (.v (.int .i64 _))) rfl ?_)
     refine So.e ?_
     refine ⟨s + 1, by first | rfl | omega | (simp; done) | (simp; omega), by omega, ⟨⟨⟨le_int (by first | rfl | omega | (simp; done) | (simp; omega)), trivial⟩, ⟨.refl _, trivial⟩, ⟨.refl _, trivial⟩, ⟨.refl _, trivial⟩, ⟨.refl _, rfl⟩, ⟨.refl _, trivial⟩, trivial⟩, ⟨⟨_, rfl, .inl (ob_bs (by first | rfl | ((try dsimp only); first | rfl | exact num_step (by omega) (by omega))) (by first | rfl | ((try dsimp only); first | rfl | exact num_step (by omega) (by omega)))), trivial⟩, trivial⟩⟩⟩
    ·have h7 := of_decide_eq_false h7
     refine HT.exit ?_
     show HT _ _ _ _ _
     refine HT.seq ?_
     refine HT.region S_num_ok ?_
     refine So.q rfl rfl (V.mv (v := .own 1 0 _) rfl ?_)
     refine So.q rfl rfl (V.as (v := .own 1 0 _) rfl ?_)
     refine So.e ?_
     show HT _ _ _ _ _
     refine HT.ret ?_
     exact ret_ok (sg [(1, 1)]) h rfl rfl rfl ⟨trivial, trivial⟩ ⟨rfl, trivial⟩ rfl ⟨⟨⟨le_own2 (by first | rfl | omega) (by first | rfl | (rw [numF_bad (by omega)] <;> rfl) | (rw [numF_big (by omega) (by omega)] <;> rfl) | (rw [numF_ok (by omega) (by omega) (by omega), numB_len]) | (rw [numF_ok (by omega) (by omega) (by omega)]; exact num_fin (by omega))), rfl⟩, trivial⟩, ⟨⟨_, rfl, .inl (ob_bs (by first | rfl | ((try dsimp only); (first | rfl | (rw [numF_bad (by omega)] <;> rfl) | (rw [numF_big (by omega) (by omega)] <;> rfl) | (rw [numF_ok (by omega) (by omega) (by omega), numB_len]) | (rw [numF_ok (by omega) (by omega) (by omega)]; exact num_fin (by omega))))) (by first | rfl | ((try dsimp only); (first | rfl | (rw [numF_bad (by omega)] <;> rfl) | (rw [numF_big (by omega) (by omega)] <;> rfl) | (rw [numF_ok (by omega) (by omega) (by omega), numB_len]) | (rw [numF_ok (by omega) (by omega) (by omega)]; exact num_fin (by omega)))))), trivial⟩, trivial⟩⟩
  ·have h3 := of_decide_eq_true h3
   refine So.gn (b := true) rfl rfl rfl (lk rfl) (lk rfl) ?_
   refine So.gn (b := true) rfl rfl rfl (lk rfl) (lk rfl) ?_
   refine So.gu rfl rfl (lk rfl) ?_
   refine So.gu rfl rfl (lk rfl) ?_
   refine So.gu rfl rfl (lk rfl) ?_
   refine So.gu rfl rfl (lk rfl) ?_
   refine So.gu rfl rfl (lk rfl) ?_
   refine So.gn (b := true) rfl rfl rfl (lk rfl) (lk rfl) ?_
   refine So.q rfl rfl (V.pkTrue (u := .p (.v (.bool true))) rfl rfl ?_)
   refine So.e ?_
   show HT _ _ _ _ _
   refine R.condT rfl ?_
   refine HT.seq ?_
   refine HT.region S_num_ok ?_
   refine So.q rfl rfl (V.as (v := .p (.v (.slice none 0 0))) rfl ?_)
   refine So.e ?_
   show HT _ _ _ _ _
   refine R.phan 4 1 5 1 (.bs []) rfl rfl rfl ⟨rfl, rfl⟩ ?_
   refine HT.ret ?_
   exact ret_ok (sg [(1, 1)]) h rfl rfl rfl ⟨trivial, trivial⟩ ⟨rfl, trivial⟩ rfl ⟨⟨⟨le_own2 (by first | rfl | omega) (by first | rfl | (rw [numF_bad (by omega)] <;> rfl) | (rw [numF_big (by omega) (by omega)] <;> rfl) | (rw [numF_ok (by omega) (by omega) (by omega), numB_len]) | (rw [numF_ok (by omega) (by omega) (by omega)]; exact num_fin (by omega))), rfl⟩, trivial⟩, ⟨⟨_, rfl, .inl (ob_bs (by first | rfl | ((try dsimp only); (first | rfl | (rw [numF_bad (by omega)] <;> rfl) | (rw [numF_big (by omega) (by omega)] <;> rfl) | (rw [numF_ok (by omega) (by omega) (by omega), numB_len]) | (rw [numF_ok (by omega) (by omega) (by omega)]; exact num_fin (by omega))))) (by first | rfl | ((try dsimp only); (first | rfl | (rw [numF_bad (by omega)] <;> rfl) | (rw [numF_big (by omega) (by omega)] <;> rfl) | (rw [numF_ok (by omega) (by omega) (by omega), numB_len]) | (rw [numF_ok (by omega) (by omega) (by omega)]; exact num_fin (by omega)))))), trivial⟩, trivial⟩⟩
 ·have h2 := fitsN (bnT h2)
  refine So.gn (b := true) rfl rfl rfl (lk rfl) (lk rfl) ?_
  refine So.q rfl rfl (V.pkTrue (u := .p (.v (.bool true))) rfl rfl ?_)
  refine So.q rfl rfl (V.mv (v := .p (.v (.bool true))) rfl ?_)
  refine So.gn (b := true) rfl rfl rfl (lk rfl) (lk rfl) ?_
  refine So.gn (b := true) rfl rfl rfl (lk rfl) (lk rfl) ?_
  refine So.gn (b := true) rfl rfl rfl (lk rfl) (lk rfl) ?_
  refine So.gu rfl rfl (lk rfl) ?_
  refine So.gu rfl rfl (lk rfl) ?_
  refine So.gu rfl rfl (lk rfl) ?_
  refine So.gu rfl rfl (lk rfl) ?_
  refine So.gu rfl rfl (lk rfl) ?_
  refine So.gn (b := true) rfl rfl rfl (lk rfl) (lk rfl) ?_
  refine So.q rfl rfl (V.pkTrue (u := .p (.v (.bool true))) rfl rfl ?_)
  refine So.e ?_
  show HT _ _ _ _ _
  refine R.condT rfl ?_
  refine HT.seq ?_
  refine HT.region S_num_ok ?_
  refine So.q rfl rfl (V.as (v := .p (.v (.slice none 0 0))) rfl ?_)
  refine So.e ?_
  show HT _ _ _ _ _
  refine R.phan 4 1 5 1 (.bs []) rfl rfl rfl ⟨rfl, rfl⟩ ?_
  refine HT.ret ?_
  exact ret_ok (sg [(1, 1)]) h rfl rfl rfl ⟨trivial, trivial⟩ ⟨rfl, trivial⟩ rfl ⟨⟨⟨le_own2 (by first | rfl | omega) (by first | rfl | (rw [numF_bad (by omega)] <;> rfl) | (rw [numF_big (by omega) (by omega)] <;> rfl) | (rw [numF_ok (by omega) (by omega) (by omega), numB_len]) | (rw [numF_ok (by omega) (by omega) (by omega)]; exact num_fin (by omega))), rfl⟩, trivial⟩, ⟨⟨_, rfl, .inl (ob_bs (by first | rfl | ((try dsimp only); (first | rfl | (rw [numF_bad (by omega)] <;> rfl) | (rw [numF_big (by omega) (by omega)] <;> rfl) | (rw [numF_ok (by omega) (by omega) (by omega), numB_len]) | (rw [numF_ok (by omega) (by omega) (by omega)]; exact num_fin (by omega))))) (by first | rfl | ((try dsimp only); (first | rfl | (rw [numF_bad (by omega)] <;> rfl) | (rw [numF_big (by omega) (by omega)] <;> rfl) | (rw [numF_ok (by omega) (by omega) (by omega), numB_len]) | (rw [numF_ok (by omega) (by omega) (by omega)]; exact num_fin (by omega)))))), trivial⟩, trivial⟩⟩
def lenSp : Sp := ⟨[], mkE (α := Int) (fun n => [.p (.v (.int .i64 (n)))]) (fun n => []) (fun n => 0 ≤ n ∧ n < 1073741824) (fun n => [.own 1 (0) ((lenF n).length)]) (fun n => [(1, ⟨5, 1, (lenF n).length, true, .bs (lenF n)⟩)])⟩
def S_len : FuncId → Option Sp := fun f => if f = 52 then some numSp else none
theorem S_len_ok : ∀ f s, S_len f = some s → FOK Tryd.prog gl f s := fun f s h => by
 unfold S_len at h
 split at h
 ·rename_i e; cases h; subst e; exact num_ok
 cases h
set_option maxHeartbeats 1000000 in
set_option maxRecDepth 1000 in
theorem len_ok : FOK Tryd.prog gl 58 lenSp := by
 refine FOK.ofE (tyOf_ok Tryd.prog) (slots := [2]) (nt := 22) Tryd.func58 rfl rfl rfl rfl (by decide) 1 (fun _ => rfl) (by decide) (fun _ => ⟨trivial, trivial⟩) ?_
 rintro n kk hlen hpre h
 replace hpre : 0 ≤ n ∧ n < 1073741824 := hpre
 show HT (cx Tryd.prog 22 (tyOf Tryd.prog) gl []) _ [(0, .p (.v (.int .i64 (n))))] [] _
 refine HT.seq ?_
 refine HT.region S_len_ok ?_
 refine So.q rfl rfl (V.as (v := .p (.v (.slice none 0 0))) rfl ?_)
 refine So.e ?_
 show HT _ _ _ _ _
 refine HT.scopeS ?_
 refine HT.seq ?_
 refine HT.region S_len_ok ?_
 refine So.q rfl rfl (V.as (v := .p (.v (.int .i64 (0)))) rfl ?_)
 refine So.e ?_
 show HT _ _ _ _ _
 refine HT.seq ?_
 refine HT.label ?_
 show HT _ _ _ _ _
 refine HT.seq ?_
 refine HT.block ?_
 refine R.loop (σ := Int) (fun s => [(3, .p (.v (.int .i64 (s))))]) (fun s => []) [0, 2] [] (fun s => 0 ≤ s ∧ s ≤ 2 ∧ (0 < s → 64 ≤ n) ∧ (1 < s → 16384 ≤ n)) (fun s => (3 - s).toNat) (0) (fr0 := [(0, .p (.v (.int .i64 _))), (2, .p (.v (.slice none 0 0)))]) (O0 := []) rfl rfl (by first | rfl | omega | (simp; done) | (simp; omega)) ⟨⟨⟨le_int (by first | rfl | omega | (simp; done) | (simp; omega)), trivial⟩, ⟨.refl _, trivial⟩, ⟨.refl _, trivial⟩, trivial⟩, trivial⟩ (fun s hP0 => ?_)
 have hsv := shl_v s
 have htb := tbl_nn s
 refine HT.block ?_
 refine HT.seq ?_
 refine HT.seq ?_
 refine HT.region S_len_ok ?_
 refine So.q rfl rfl (V.mv (v := .p (.v (.int .i64 _))) rfl ?_)
 refine So.q rfl rfl (V.mv (v := .p (.v (.int .i64 _))) rfl ?_)
 refine So.q rfl rfl (V.ixArr1 ty102 ty3 rfl rfl (lk rfl) rfl (by omega) rfl ?_)
 refine So.q rfl rfl (V.ldRp ty3 rfl rfl (lk rfl) (v := (.v (.int .i64 _))) rfl ?_)
 refine So.q rfl rfl (V.bin (a := (.v (.int .i64 (1)))) (b := (.v (.int .i64 _))) (r := .v (.int .i64 _)) rfl rfl rfl (by first | rfl | omega | (simp; done) | (simp; omega)) ?_)
 refine So.q rfl rfl (V.bin (a := (.v (.int .i64 _))) (b := (.v (.int .i64 _))) (r := .v (.bool _)) rfl rfl rfl trivial ?_)
 refine So.e ?_
 show HT _ _ _ _ _
 refine R.cond rfl rfl (fun h1 => ?_) (fun h1 => ?_)
 ·have h1 := of_decide_eq_true h1
  refine HT.exit ?_
  show HT _ _ _ _ _
  refine HT.seq ?_
  refine HT.tail S_len_ok mixed 9 (by kernel_rfl) (by kernel_rfl) ?_
  refine So.q rfl rfl (V.mv (v := .p (.v (.int .i64 _))) rfl ?_)
  refine So.q rfl rfl (V.mv (v := .p (.v (.int .i64 _))) rfl ?_)
  refine So.q rfl rfl (V.mv (v := .p (.v (.int .i64 _))) rfl ?_)
  refine So.q rfl rfl (V.ixArr1 ty102 ty3 rfl rfl (lk rfl) rfl (by omega) rfl ?_)
  refine So.q rfl rfl (V.ldRp ty3 rfl rfl (lk rfl) (v := (.v (.int .i64 _))) rfl ?_)
  refine So.q rfl rfl (V.bin (a := (.v (.int .i64 _))) (b := (.v (.int .i64 _))) (r := .v (.int .i64 _)) rfl rfl rfl (by first | rfl | omega | (simp; done) | (simp; omega)) ?_)
  refine So.q rfl rfl (V.bin (a := (.v (.int .i64 _))) (b := (.v (.int .i64 _))) (r := .v (.int .i64 _)) rfl rfl rfl trivial ?_)
  refine So.q rfl rfl (V.mv (v := .p (.v (.int .i64 _))) rfl ?_)
  refine So.q rfl rfl (V.bin (a := (.v (.int .i64 (1)))) (b := (.v (.int .i64 _))) (r := .v (.int .i64 _)) rfl rfl rfl (by first | rfl | omega | (simp; done) | (simp; omega)) ?_)
  refine So.n (lk rfl) (A.call0 [.p (.v (.int .i64 _)), .p (.v (.int .i64 _))] 1 rfl rfl rfl rfl ⟨trivial, trivial, trivial⟩ trivial (_, _) ⟨.refl _, .refl _, trivial⟩ trivial (by trivial) (Φ := fun (n, k) => (numF n k).length ≤ 8) (fun _ _ => numF_len _ _) (.inl rfl) (v := .own 2 0 _) rfl (O' := (2, ⟨5, 1, _, true, .bs _⟩) :: _) rfl (fun h2 => ?_))
  try dsimp only at h2
  refine So.q rfl rfl (V.as (v := .own 2 0 _) rfl ?_)
  refine So.e ?_
  show HT _ _ _ _ _
  refine HT.ret ?_
  exact ret_ok (sg [(1, 2)]) h rfl rfl rfl ⟨trivial, trivial⟩ ⟨rfl, trivial⟩ rfl ⟨⟨⟨le_own2 (by first | rfl | omega) (by first | rfl | (rw [lenP (by omega) (by omega) (by omega) (by omega) (by omega) (by omega) (by omega)])), rfl⟩, trivial⟩, ⟨⟨_, rfl, .inl (ob_bs (by first | rfl | ((try dsimp only); (first | rfl | (rw [lenP (by omega) (by omega) (by omega) (by omega) (by omega) (by omega) (by omega)])))) (by first | rfl | ((try dsimp only); (first | rfl | (rw [lenP (by omega) (by omega) (by omega) (by omega) (by omega) (by omega) (by omega)]))))), trivial⟩, trivial⟩⟩
 ·have h1 := of_decide_eq_false h1
  refine HT.skip ?_
  show HT _ _ _ _ _
  refine HT.region S_len_ok ?_
  refine So.q rfl rfl (V.mv (v := .p (.v (.int .i64 _))) rfl ?_)
  refine So.q rfl rfl (V.addI rfl rfl (by omega) ?_)
  refine So.q rfl rfl (V.as (v := .p (.v (.int .i64 _))) rfl ?_)
  refine So.e ?_
  refine ⟨s + 1, by omega, by omega, ⟨⟨⟨le_int (by first | rfl | omega | (simp; done) | (simp; omega)), trivial⟩, ⟨.refl _, trivial⟩, ⟨.refl _, trivial⟩, trivial⟩, trivial⟩⟩
def textSp : Sp := ⟨[], mkE (α := (List UInt8)) (fun s => [.p (.bs (s))]) (fun s => []) (fun s => True) (fun s => [.own 1 (0) ((textF s).length), .p (.v (.int .i64 (textE s)))]) (fun s => [(1, ⟨5, 1, (textF s).length, true, .bs (textF s)⟩)])⟩
def S_text : FuncId → Option Sp := fun f => if f = 58 then some lenSp else none
theorem S_text_ok : ∀ f s, S_text f = some s → FOK Tryd.prog gl f s := fun f s h => by
 unfold S_text at h
 split at h
 ·rename_i e; cases h; subst e; exact len_ok
 cases h
set_option maxHeartbeats 1000000 in
set_option maxRecDepth 1000 in
theorem text_ok : FOK Tryd.prog gl 45 textSp := by
 refine FOK.ofE (tyOf_ok Tryd.prog) (slots := [2, 3]) (nt := 12) Tryd.func45 rfl rfl rfl rfl (by decide) 1 (fun _ => rfl) (by decide) (fun _ => ⟨trivial, trivial⟩) ?_
 rintro s kk hlen hpre h
 have hl0 : (s).length ≤ 9223372036854775807 := hlen.1
 replace hpre : True := hpre
 show HT (cx Tryd.prog 12 (tyOf Tryd.prog) gl []) _ [(0, .p (.bs (s)))] [] _
 refine HT.seq ?_
 refine HT.region S_text_ok ?_
 refine So.q rfl rfl (V.as (v := .p (.v (.slice none 0 0))) rfl ?_)
 refine So.q rfl rfl (V.as (v := .p (.v (.int .i64 (0)))) rfl ?_)
 refine So.e ?_
 show HT _ _ _ _ _
 refine HT.seq ?_
 refine HT.seq ?_
 refine HT.region S_text_ok ?_
 refine So.q rfl rfl (V.mv (v := .p (.bs _)) rfl ?_)
 refine So.q rfl rfl (V.len ty22 (v := .p (.bs _)) rfl rfl ?_)
 refine So.q rfl rfl (V.bin (a := (.v (.int .i64 _))) (b := (.v (.int .i64 (1048576)))) (r := .v (.bool _)) rfl rfl rfl trivial ?_)
 refine So.e ?_
 show HT _ _ _ _ _
 refine R.cond rfl rfl (fun h1 => ?_) (fun h1 => ?_)
 ·have h1 := of_decide_eq_true h1
  refine HT.seq ?_
  refine HT.region S_text_ok ?_
  refine So.q rfl rfl (V.as (v := .p (.v (.slice none 0 0))) rfl ?_)
  refine So.q rfl rfl (V.as (v := .p (.v (.int .i64 (2)))) rfl ?_)
  refine So.e ?_
  show HT _ _ _ _ _
  refine R.phan 2 1 5 1 (.bs []) rfl rfl rfl ⟨rfl, rfl⟩ ?_
  refine HT.ret ?_
  exact ret_ok (sg [(1, 1)]) h rfl rfl rfl ⟨trivial, trivial⟩ ⟨rfl, trivial, trivial⟩ rfl ⟨⟨⟨le_own2 (by first | rfl | omega) (by first | rfl | (unfold textF; simp (disch := omega) only [if_pos, if_neg] <;> first | rfl | (simp; done)) | (unfold textE; simp (disch := omega) only [if_pos, if_neg])), rfl⟩, ⟨le_int (by first | rfl | (unfold textF; simp (disch := omega) only [if_pos, if_neg] <;> first | rfl | (simp; done)) | (unfold textE; simp (disch := omega) only [if_pos, if_neg])), trivial⟩, trivial⟩, ⟨⟨_, rfl, .inl (ob_bs (by first | rfl | ((try dsimp only); (first | rfl | (unfold textF; simp (disch := omega) only [if_pos, if_neg] <;> first | rfl | (simp; done)) | (unfold textE; simp (disch := omega) only [if_pos, if_neg])))) (by first | rfl | ((try dsimp only); (first | rfl | (unfold textF; simp (disch := omega) only [if_pos, if_neg] <;> first | rfl | (simp; done)) | (unfold textE; simp (disch := omega) only [if_pos, if_neg]))))), trivial⟩, trivial⟩⟩
 ·have h1 := of_decide_eq_false h1
  refine HT.skip ?_
  show HT _ _ _ _ _
  refine HT.seq ?_
  refine HT.region S_text_ok ?_
  refine So.q rfl rfl (V.mv (v := .p (.bs _)) rfl ?_)
  refine So.q rfl rfl (V.len ty22 (v := .p (.bs _)) rfl rfl ?_)
  refine So.n (lk rfl) (A.call0 [.p (.v (.int .i64 _))] 1 rfl rfl rfl rfl ⟨trivial, trivial⟩ trivial _ ⟨.refl _, trivial⟩ trivial (by omega) (Φ := fun n => (lenF n).length ≤ 4) (fun n _ => lenF_le n) (.inl rfl) (v := .own 2 0 _) rfl (O' := (2, ⟨5, 1, _, true, .bs _⟩) :: _) rfl (fun h2 => ?_))
  try dsimp only at h2
  refine So.q rfl rfl (V.mv (v := .p (.bs _)) rfl ?_)
  refine So.n (lk rfl) (A.apOwn ty22 ty5 rfl rfl rfl rfl (u := .p (.bs _)) rfl rfl rfl rfl (by first | rfl | omega | (simp; done) | (simp; omega)) rfl rfl rfl ?_)
  refine So.q rfl rfl (V.as (v := .own 2 0 _) rfl ?_)
  refine So.q rfl rfl (V.as (v := .p (.v (.int .i64 (0)))) rfl ?_)
  refine So.e ?_
  show HT _ _ _ _ _
  refine HT.ret ?_
  exact ret_ok (sg [(1, 2)]) h rfl rfl rfl ⟨trivial, trivial⟩ ⟨rfl, trivial, trivial⟩ rfl ⟨⟨⟨le_own2 (by first | rfl | omega) (by first | rfl | (unfold textF; simp (disch := omega) only [if_pos, if_neg] <;> first | rfl | (simp; done)) | (unfold textE; simp (disch := omega) only [if_pos, if_neg])), rfl⟩, ⟨le_int (by first | rfl | (unfold textF; simp (disch := omega) only [if_pos, if_neg] <;> first | rfl | (simp; done)) | (unfold textE; simp (disch := omega) only [if_pos, if_neg])), trivial⟩, trivial⟩, ⟨⟨_, rfl, .inl (ob_bs (by first | rfl | ((try dsimp only); (first | rfl | (unfold textF; simp (disch := omega) only [if_pos, if_neg] <;> first | rfl | (simp; done)) | (unfold textE; simp (disch := omega) only [if_pos, if_neg])))) (by first | rfl | ((try dsimp only); (first | rfl | (unfold textF; simp (disch := omega) only [if_pos, if_neg] <;> first | rfl | (simp; done)) | (unfold textE; simp (disch := omega) only [if_pos, if_neg]))))), trivial⟩, trivial⟩⟩
def cloneSp : Sp := ⟨[], mkE (α := (List UInt8)) (fun l => [.p (.bs (l))]) (fun l => []) (fun l => l.length ≤ 140737488355328) (fun l => [.own 1 (0) (l.length)]) (fun l => [(1, ⟨5, 1, (l).length, true, .bs (l)⟩)])⟩
def S_clone : FuncId → Option Sp := fun _ => none
theorem S_clone_ok : ∀ f s, S_clone f = some s → FOK Tryd.prog gl f s := fun f s h => by cases h
set_option maxHeartbeats 1000000 in
set_option maxRecDepth 1000 in
theorem clone_ok : FOK Tryd.prog gl 62 cloneSp := by
 refine FOK.ofE (tyOf_ok Tryd.prog) (slots := [2]) (nt := 8) Tryd.func62 rfl rfl rfl rfl (by decide) 1 (fun _ => rfl) (by decide) (fun _ => ⟨trivial, trivial⟩) ?_
 rintro l kk hlen hpre h
 have hl0 : (l).length ≤ 9223372036854775807 := hlen.1
 replace hpre : l.length ≤ 140737488355328 := hpre
 show HT (cx Tryd.prog 8 (tyOf Tryd.prog) gl []) _ [(0, .p (.bs (l)))] [] _
 refine HT.seq ?_
 refine HT.region S_clone_ok ?_
 refine So.q rfl rfl (V.as (v := .p (.v (.slice none 0 0))) rfl ?_)
 refine So.e ?_
 show HT _ _ _ _ _
 refine HT.seq ?_
 refine HT.seq ?_
 refine HT.region S_clone_ok ?_
 refine So.q rfl rfl (V.mv (v := .p (.bs _)) rfl ?_)
 refine So.n (lk rfl) (A.eqNilBs ty22 rfl rfl (fun h1 => ?_) ?_)
 ·refine So.e ?_
  show HT _ _ _ _ _
  refine R.condT rfl ?_
  refine HT.seq ?_
  refine HT.region S_clone_ok ?_
  refine So.q rfl rfl (V.as (v := .p (.v (.slice none 0 0))) rfl ?_)
  refine So.e ?_
  show HT _ _ _ _ _
  refine R.phan 2 1 5 1 (.bs []) rfl rfl rfl ⟨rfl, rfl⟩ ?_
  refine HT.ret ?_
  exact ret_ok (sg [(1, 1)]) h rfl rfl rfl ⟨trivial, trivial⟩ ⟨rfl, trivial⟩ rfl ⟨⟨⟨le_own2 (by first | rfl | omega) (by first | rfl | omega | (exact (List.eq_nil_of_length_eq_zero (by omega)).symm) | (simp; done)), rfl⟩, trivial⟩, ⟨⟨_, rfl, .inl (ob_bs (by first | rfl | ((try dsimp only); (first | rfl | omega | (exact (List.eq_nil_of_length_eq_zero (by omega)).symm) | (simp; done)))) (by first | rfl | ((try dsimp only); (first | rfl | omega | (exact (List.eq_nil_of_length_eq_zero (by omega)).symm) | (simp; done))))), trivial⟩, trivial⟩⟩
 ·refine So.e ?_
  show HT _ _ _ _ _
  refine R.condF rfl ?_
  refine HT.skip ?_
  show HT _ _ _ _ _
  refine HT.seq ?_
  refine HT.region S_clone_ok ?_
  refine So.n (lk rfl) (A.bsl 1 ty22 ty5 rfl (lk rfl) (lk rfl) (fun _ => rfl) rfl rfl trivial trivial rfl (N := 0) rfl (c := .bs []) rfl ?_)
  refine So.q rfl rfl (V.mv (v := .p (.bs _)) rfl ?_)
  refine So.n (lk rfl) (A.apOwn ty22 ty5 rfl rfl rfl rfl (u := .p (.bs _)) rfl rfl rfl rfl (by first | rfl | omega | (simp; done) | (simp; omega)) rfl rfl rfl ?_)
  refine So.q rfl rfl (V.as (v := .own 1 0 _) rfl ?_)
  refine So.e ?_
  show HT _ _ _ _ _
  refine HT.ret ?_
  exact ret_ok (sg [(1, 1)]) h rfl rfl rfl ⟨trivial, trivial⟩ ⟨rfl, trivial⟩ rfl ⟨⟨⟨le_own2 (by first | rfl | omega) (by first | rfl | omega | (exact (List.eq_nil_of_length_eq_zero (by omega)).symm) | (simp; done)), rfl⟩, trivial⟩, ⟨⟨_, rfl, .inl (ob_bs (by first | rfl | ((try dsimp only); (first | rfl | omega | (exact (List.eq_nil_of_length_eq_zero (by omega)).symm) | (simp; done)))) (by first | rfl | ((try dsimp only); (first | rfl | omega | (exact (List.eq_nil_of_length_eq_zero (by omega)).symm) | (simp; done))))), trivial⟩, trivial⟩⟩
def getSp : Sp := ⟨[], mkE (α := (List UInt8) × Int × Int) (fun (b, i, n) => [.p (.bs (b)), .p (.v (.int .i64 (i))), .p (.v (.int .i64 (n)))]) (fun (b, i, n) => []) (fun (b, i, n) => True) (fun (b, i, n) => [.p (.v (.int .i64 ((getF b i n).1))), .p (.v (.int .i64 ((getF b i n).2.1))), .p (.v (.int .i64 ((getF b i n).2.2)))]) (fun (b, i, n) => [])⟩
def S_get : FuncId → Option Sp := fun f => if f = 60 then some fitsSp else none
theorem S_get_ok : ∀ f s, S_get f = some s → FOK Tryd.prog gl f s := fun f s h => by
 unfold S_get at h
 split at h
 ·rename_i e; cases h; subst e; exact fits_ok
 cases h
set_option maxHeartbeats 1000000 in
set_option maxRecDepth 1000 in
theorem get_ok : FOK Tryd.prog gl 48 getSp := by
 refine FOK.ofE (tyOf_ok Tryd.prog) (slots := [6, 7, 8]) (nt := 52) Tryd.func48 rfl rfl rfl rfl (by decide) 3 (fun ⟨_, _, _⟩ => rfl) (by decide) (fun ⟨_, _, _⟩ => ⟨trivial, trivial, trivial, trivial⟩) ?_
 rintro ⟨b, i, n⟩ kk hlen hpre h
 have hl0 : (b).length ≤ 9223372036854775807 := hlen.1
 replace hpre : True := hpre
 show HT (cx Tryd.prog 52 (tyOf Tryd.prog) gl []) _ [(0, .p (.bs (b))), (1, .p (.v (.int .i64 (i)))), (2, .p (.v (.int .i64 (n))))] [] _
 refine HT.seq ?_
 refine HT.region S_get_ok ?_
 refine So.q rfl rfl (V.as (v := .p (.v (.int .i64 (0)))) rfl ?_)
 refine So.q rfl rfl (V.as (v := .p (.v (.int .i64 (0)))) rfl ?_)
 refine So.q rfl rfl (V.as (v := .p (.v (.int .i64 (0)))) rfl ?_)
 refine So.e ?_
 show HT _ _ _ _ _
 refine HT.seq ?_
 refine HT.block ?_
 refine HT.seq ?_
 refine HT.seq ?_
 refine HT.region S_get_ok ?_
 refine So.q rfl rfl (V.mv (v := .p (.v (.int .i64 _))) rfl ?_)
 refine So.q rfl rfl (V.bin (a := (.v (.int .i64 _))) (b := (.v (.int .i64 (0)))) (r := .v (.bool _)) rfl rfl rfl trivial ?_)
 refine So.q rfl rfl (V.as (v := .p (.v (.bool _))) rfl ?_)
 refine So.e ?_
 show HT _ _ _ _ _
 refine R.cond rfl rfl (fun h1 => ?_) (fun h1 => ?_)
 ·have h1 := of_decide_eq_true h1
  refine HT.skip ?_
  show HT _ _ _ _ _
  refine R.condT rfl ?_
  refine HT.seq ?_
  refine HT.region S_get_ok ?_
  refine So.q rfl rfl (V.as (v := .p (.v (.int .i64 (0)))) rfl ?_)
  refine So.q rfl rfl (V.as (v := .p (.v (.int .i64 (0)))) rfl ?_)
  refine So.q rfl rfl (V.as (v := .p (.v (.int .i64 (1)))) rfl ?_)
  refine So.e ?_
  show HT _ _ _ _ _
  refine HT.ret ?_
  exact ret_ok (sg []) h rfl rfl rfl trivial ⟨trivial, trivial, trivial, trivial⟩ rfl ⟨⟨⟨le_int (by first | (rw [getF_arg (by omega)]; done) | (rw [getF_end (by omega) (by omega) (by omega) (by omega)]; done) | (simp only [show ((b.take (i + n).toNat).drop i.toNat).take s = ((b.take (i + n).toNat).drop i.toNat) from List.take_of_length_le (by omega)] at *; first | (rw [getF_long (by omega) (by omega) (by omega) (by omega) (by assumption)]; done) | (rw [getF_ok (by omega) (by omega) (by omega) (by omega) (by assumption)]; done))), trivial⟩, ⟨le_int (by first | (rw [getF_arg (by omega)]; done) | (rw [getF_end (by omega) (by omega) (by omega) (by omega)]; done) | (simp only [show ((b.take (i + n).toNat).drop i.toNat).take s = ((b.take (i + n).toNat).drop i.toNat) from List.take_of_length_le (by omega)] at *; first | (rw [getF_long (by omega) (by omega) (by omega) (by omega) (by assumption)]; done) | (rw [getF_ok (by omega) (by omega) (by omega) (by omega) (by assumption)]; done))), trivial⟩, ⟨le_int (by first | (rw [getF_arg (by omega)]; done) | (rw [getF_end (by omega) (by omega) (by omega) (by omega)]; done) | (simp only [show ((b.take (i + n).toNat).drop i.toNat).take s = ((b.take (i + n).toNat).drop i.toNat) from List.take_of_length_le (by omega)] at *; first | (rw [getF_long (by omega) (by omega) (by omega) (by omega) (by assumption)]; done) | (rw [getF_ok (by omega) (by omega) (by omega) (by omega) (by assumption)]; done))), trivial⟩, trivial⟩, trivial⟩
 ·have h1 := of_decide_eq_false h1
  refine HT.seq ?_
  refine HT.region S_get_ok ?_
  refine So.q rfl rfl (V.mv (v := .p (.v (.int .i64 _))) rfl ?_)
  refine So.q rfl rfl (V.mv (v := .p (.bs _)) rfl ?_)
  refine So.q rfl rfl (V.len ty22 (v := .p (.bs _)) rfl rfl ?_)
  refine So.q rfl rfl (V.bin (a := (.v (.int .i64 _))) (b := (.v (.int .i64 _))) (r := .v (.bool _)) rfl rfl rfl trivial ?_)
  refine So.q rfl rfl (V.as (v := .p (.v (.bool _))) rfl ?_)
  refine So.e ?_
  show HT _ _ _ _ _
  refine R.cond rfl rfl (fun h2 => ?_) (fun h2 => ?_)
  ·have h2 := of_decide_eq_true h2
   refine HT.skip ?_
   show HT _ _ _ _ _
   refine R.condT rfl ?_
   refine HT.seq ?_
   refine HT.region S_get_ok ?_
   refine So.q rfl rfl (V.as (v := .p (.v (.int .i64 (0)))) rfl ?_)
   refine So.q rfl rfl (V.as (v := .p (.v (.int .i64 (0)))) rfl ?_)
   refine So.q rfl rfl (V.as (v := .p (.v (.int .i64 (1)))) rfl ?_)
   refine So.e ?_
   show HT _ _ _ _ _
   refine HT.ret ?_
   exact ret_ok (sg []) h rfl rfl rfl trivial ⟨trivial, trivial, trivial, trivial⟩ rfl ⟨⟨⟨le_int (by first | (rw [getF_arg (by omega)]; done) | (rw [getF_end (by omega) (by omega) (by omega) (by omega)]; done) | (simp only [show ((b.take (i + n).toNat).drop i.toNat).take s = ((b.take (i + n).toNat).drop i.toNat) from List.take_of_length_le (by omega)] at *; first | (rw [getF_long (by omega) (by omega) (by omega) (by omega) (by assumption)]; done) | (rw [getF_ok (by omega) (by omega) (by omega) (by omega) (by assumption)]; done))), trivial⟩, ⟨le_int (by first | (rw [getF_arg (by omega)]; done) | (rw [getF_end (by omega) (by omega) (by omega) (by omega)]; done) | (simp only [show ((b.take (i + n).toNat).drop i.toNat).take s = ((b.take (i + n).toNat).drop i.toNat) from List.take_of_length_le (by omega)] at *; first | (rw [getF_long (by omega) (by omega) (by omega) (by omega) (by assumption)]; done) | (rw [getF_ok (by omega) (by omega) (by omega) (by omega) (by assumption)]; done))), trivial⟩, ⟨le_int (by first | (rw [getF_arg (by omega)]; done) | (rw [getF_end (by omega) (by omega) (by omega) (by omega)]; done) | (simp only [show ((b.take (i + n).toNat).drop i.toNat).take s = ((b.take (i + n).toNat).drop i.toNat) from List.take_of_length_le (by omega)] at *; first | (rw [getF_long (by omega) (by omega) (by omega) (by omega) (by assumption)]; done) | (rw [getF_ok (by omega) (by omega) (by omega) (by omega) (by assumption)]; done))), trivial⟩, trivial⟩, trivial⟩
  ·have h2 := of_decide_eq_false h2
   refine HT.region S_get_ok ?_
   refine So.q rfl rfl (V.mv (v := .p (.v (.int .i64 _))) rfl ?_)
   refine So.n (lk rfl) (A.call0 [.p (.v (.int .i64 _))] 1 rfl rfl rfl rfl ⟨trivial, trivial⟩ trivial _ ⟨.refl _, trivial⟩ trivial (by trivial) (Φ := fun _ => True) (fun _ _ => trivial) (.inl rfl) (v := .p (.v (.bool _))) rfl (O' := _) rfl (fun h3 => ?_))
   refine So.q rfl rfl (V.not rfl ?_)
   refine So.q rfl rfl (V.as (v := .p (.v (.bool _))) rfl ?_)
   refine So.e ?_
   show HT _ _ _ _ _
   refine R.cond rfl rfl (fun h4 => ?_) (fun h4 => ?_)
   ·have h4 := fitsN (bnT h4)
    refine HT.seq ?_
    refine HT.region S_get_ok ?_
    refine So.q rfl rfl (V.as (v := .p (.v (.int .i64 (0)))) rfl ?_)
    refine So.q rfl rfl (V.as (v := .p (.v (.int .i64 (0)))) rfl ?_)
    refine So.q rfl rfl (V.as (v := .p (.v (.int .i64 (1)))) rfl ?_)
    refine So.e ?_
    show HT _ _ _ _ _
    refine HT.ret ?_
    exact ret_ok (sg []) h rfl rfl rfl trivial ⟨trivial, trivial, trivial, trivial⟩ rfl ⟨⟨⟨le_int (by first | (rw [getF_arg (by omega)]; done) | (rw [getF_end (by omega) (by omega) (by omega) (by omega)]; done) | (simp only [show ((b.take (i + n).toNat).drop i.toNat).take s = ((b.take (i + n).toNat).drop i.toNat) from List.take_of_length_le (by omega)] at *; first | (rw [getF_long (by omega) (by omega) (by omega) (by omega) (by assumption)]; done) | (rw [getF_ok (by omega) (by omega) (by omega) (by omega) (by assumption)]; done))), trivial⟩, ⟨le_int (by first | (rw [getF_arg (by omega)]; done) | (rw [getF_end (by omega) (by omega) (by omega) (by omega)]; done) | (simp only [show ((b.take (i + n).toNat).drop i.toNat).take s = ((b.take (i + n).toNat).drop i.toNat) from List.take_of_length_le (by omega)] at *; first | (rw [getF_long (by omega) (by omega) (by omega) (by omega) (by assumption)]; done) | (rw [getF_ok (by omega) (by omega) (by omega) (by omega) (by assumption)]; done))), trivial⟩, ⟨le_int (by first | (rw [getF_arg (by omega)]; done) | (rw [getF_end (by omega) (by omega) (by omega) (by omega)]; done) | (simp only [show ((b.take (i + n).toNat).drop i.toNat).take s = ((b.take (i + n).toNat).drop i.toNat) from List.take_of_length_le (by omega)] at *; first | (rw [getF_long (by omega) (by omega) (by omega) (by omega) (by assumption)]; done) | (rw [getF_ok (by omega) (by omega) (by omega) (by omega) (by assumption)]; done))), trivial⟩, trivial⟩, trivial⟩
   ·have h4 := fitsT (bnF h4)
    refine HT.seq ?_
    refine HT.region S_get_ok ?_
    refine So.q rfl rfl (V.mv (v := .p (.v (.int .i64 _))) rfl ?_)
    refine So.q rfl rfl (V.mv (v := .p (.bs _)) rfl ?_)
    refine So.q rfl rfl (V.len ty22 (v := .p (.bs _)) rfl rfl ?_)
    refine So.q rfl rfl (V.mv (v := .p (.v (.int .i64 _))) rfl ?_)
    refine So.q rfl rfl (V.subI rfl rfl (by omega) ?_)
    refine So.q rfl rfl (V.bin (a := (.v (.int .i64 _))) (b := (.v (.int .i64 _))) (r := .v (.bool _)) rfl rfl rfl trivial ?_)
    refine So.q rfl rfl (V.as (v := .p (.v (.bool _))) rfl ?_)
    refine So.e ?_
    show HT _ _ _ _ _
    refine R.cond rfl rfl (fun h5 => ?_) (fun h5 => ?_)
    ·have h5 := of_decide_eq_true h5
     refine HT.seq ?_
     refine HT.region S_get_ok ?_
     refine So.q rfl rfl (V.as (v := .p (.v (.int .i64 (0)))) rfl ?_)
     refine So.q rfl rfl (V.as (v := .p (.v (.int .i64 (0)))) rfl ?_)
     refine So.q rfl rfl (V.as (v := .p (.v (.int .i64 (111)))) rfl ?_)
     refine So.e ?_
     show HT _ _ _ _ _
     refine HT.ret ?_
     exact ret_ok (sg []) h rfl rfl rfl trivial ⟨trivial, trivial, trivial, trivial⟩ rfl ⟨⟨⟨le_int (by first | (rw [getF_arg (by omega)]; done) | (rw [getF_end (by omega) (by omega) (by omega) (by omega)]; done) | (simp only [show ((b.take (i + n).toNat).drop i.toNat).take s = ((b.take (i + n).toNat).drop i.toNat) from List.take_of_length_le (by omega)] at *; first | (rw [getF_long (by omega) (by omega) (by omega) (by omega) (by assumption)]; done) | (rw [getF_ok (by omega) (by omega) (by omega) (by omega) (by assumption)]; done))), trivial⟩, ⟨le_int (by first | (rw [getF_arg (by omega)]; done) | (rw [getF_end (by omega) (by omega) (by omega) (by omega)]; done) | (simp only [show ((b.take (i + n).toNat).drop i.toNat).take s = ((b.take (i + n).toNat).drop i.toNat) from List.take_of_length_le (by omega)] at *; first | (rw [getF_long (by omega) (by omega) (by omega) (by omega) (by assumption)]; done) | (rw [getF_ok (by omega) (by omega) (by omega) (by omega) (by assumption)]; done))), trivial⟩, ⟨le_int (by first | (rw [getF_arg (by omega)]; done) | (rw [getF_end (by omega) (by omega) (by omega) (by omega)]; done) | (simp only [show ((b.take (i + n).toNat).drop i.toNat).take s = ((b.take (i + n).toNat).drop i.toNat) from List.take_of_length_le (by omega)] at *; first | (rw [getF_long (by omega) (by omega) (by omega) (by omega) (by assumption)]; done) | (rw [getF_ok (by omega) (by omega) (by omega) (by omega) (by assumption)]; done))), trivial⟩, trivial⟩, trivial⟩
    ·have h5 := of_decide_eq_false h5
     refine HT.skip ?_
     show HT _ _ _ _ _
     refine HT.seq ?_
     refine HT.region S_get_ok ?_
     refine So.q rfl rfl (V.as (v := .p (.v (.int .i64 (0)))) rfl ?_)
     refine So.e ?_
     show HT _ _ _ _ _
     refine HT.seq ?_
     refine HT.seq ?_
     refine HT.region S_get_ok ?_
     refine So.q rfl rfl (V.mv (v := .p (.bs _)) rfl ?_)
     refine So.q rfl rfl (V.mv (v := .p (.v (.int .i64 _))) rfl ?_)
     refine So.q rfl rfl (V.mv (v := .p (.v (.int .i64 _))) rfl ?_)
     refine So.q rfl rfl (V.mv (v := .p (.v (.int .i64 _))) rfl ?_)
     refine So.q rfl rfl (V.addI rfl rfl (by omega) ?_)
     refine So.q rfl rfl (V.cutBs ty22 ty5 rfl rfl rfl rfl (by omega) (.inl rfl) rfl ?_)
     refine So.q rfl rfl (V.len ty22 (v := .p (.bs _)) rfl rfl ?_)
     refine So.q rfl rfl (V.mv (v := .p (.v (.int .i64 (0)))) rfl ?_)
     refine So.e ?_
     show HT _ _ _ _ _
     refine HT.block ?_
     refine R.loop (σ := Nat) (fun s => [(9, .p (.v (.int .i64 (IntKind.i64.wrap (beN (((b.take (i + n).toNat).drop i.toNat).take s) : Int))))), (36, .p (.v (.int .i64 ((s : Int)))))]) (fun s => []) [1, 2, 6, 7, 8, 34, 35] [] (fun s => s ≤ n.toNat) (fun s => n.toNat - s) (0) (fr0 := [(1, .p (.v (.int .i64 _))), (2, .p (.v (.int .i64 _))), (6, .p (.v (.int .i64 _))), (7, .p (.v (.int .i64 _))), (8, .p (.v (.int .i64 _))), (34, .p (.bs _)), (35, .p (.v (.int .i64 _)))]) (O0 := []) rfl rfl (by first | rfl | omega | (simp; done) | (simp; omega)) ⟨⟨⟨le_int (by first | rfl | omega | (simp; done) | (simp; omega)), trivial⟩, ⟨le_int (by first | rfl | omega | (simp; done) | (simp; omega)), trivial⟩, ⟨.refl _, trivial⟩, ⟨.refl _, trivial⟩, ⟨.refl _, trivial⟩, ⟨.refl _, trivial⟩, ⟨.refl _, trivial⟩, ⟨.refl _, trivial⟩, ⟨.refl _, trivial⟩, trivial⟩, trivial⟩ (fun s hP0 => ?_)
     have hcl := @cut_len b i n (by omega) (by omega) (by omega)
     refine HT.seq ?_
     refine HT.region S_get_ok ?_
     refine So.q rfl rfl (V.bin (a := (.v (.int .i64 ((_ : Nat) : Int)))) (b := (.v (.int .i64 _))) (r := .v (.bool _)) rfl rfl rfl trivial ?_)
     refine So.e ?_
     show HT _ _ _ _ _
     refine HT.seq ?_
     refine R.cond rfl rfl (fun h6 => ?_) (fun h6 => ?_)
     ·have h6 := of_decide_eq_true h6
      refine HT.skip ?_
      show HT _ _ _ _ _
      refine HT.seq ?_
      refine HT.block ?_
      refine HT.seq ?_
      refine HT.region S_get_ok ?_
      refine So.q rfl rfl (V.ixBs ty22 ty5 rfl rfl rfl (by omega) (Int.toNat_natCast _) ?_)
      refine So.q rfl rfl (V.ldRp ty5 rfl rfl (lk rfl) (v := (.u8 _)) rfl ?_)
      refine So.q rfl rfl (V.as (v := .p (.u8 _)) rfl ?_)
      refine So.e ?_
      show HT _ _ _ _ _
      refine HT.region S_get_ok ?_
      refine So.q rfl rfl (V.mv (v := .p (.v (.int .i64 _))) rfl ?_)
      refine So.q rfl rfl (V.shlC (n := 8) (a := (.v (.int .i64 _))) (b := (.u64 8)) (r := .v (.int .i64 (iShl .i64 _ 8))) rfl rfl rfl rfl ?_)
      refine So.q rfl rfl (V.mv (v := .p (.u8 _)) rfl ?_)
      refine So.q rfl rfl (V.cvN ty2 ty5 (a := (.u8 _)) (r := (.v (.int .i64 _))) rfl rfl ?_)
      refine So.q rfl rfl (V.bin (a := (.v (.int .i64 _))) (b := (.v (.int .i64 _))) (r := .v (.int .i64 _)) rfl rfl rfl trivial ?_)
      refine So.q rfl rfl (V.as (v := .p (.v (.int .i64 _))) rfl ?_)
      refine So.e ?_
      show HT _ _ _ _ _
      refine HT.region S_get_ok ?_
      refine So.q rfl rfl (V.addI rfl rfl (by omega) ?_)
      refine So.q rfl rfl (V.mv (v := .p (.v (.int .i64 _))) rfl ?_)
      refine So.e ?_
      refine ⟨s + 1, by first | rfl | omega | (simp; done) | (simp; omega), by omega, ⟨⟨⟨le_int (by first | rfl | (rw [beN_take (by omega), ← i64_step] <;> rfl)), trivial⟩, ⟨le_int (by first | rfl | omega | (simp; done) | (simp; omega)), trivial⟩, ⟨.refl _, trivial⟩, ⟨.refl _, trivial⟩, ⟨.refl _, trivial⟩, ⟨.refl _, trivial⟩, ⟨.refl _, trivial⟩, ⟨.refl _, trivial⟩, ⟨.refl _, trivial⟩, trivial⟩, trivial⟩⟩
     ·have h6 := of_decide_eq_false h6
      refine HT.exit ?_
      show HT _ _ _ _ _
      refine HT.seq ?_
      refine HT.seq ?_
      refine HT.region S_get_ok ?_
      refine So.q rfl rfl (V.mv (v := .p (.v (.int .i64 _))) rfl ?_)
      refine So.q rfl rfl (V.bin (a := (.v (.int .i64 _))) (b := (.v (.int .i64 (0)))) (r := .v (.bool _)) rfl rfl rfl trivial ?_)
      refine So.e ?_
      show HT _ _ _ _ _
      refine R.cond rfl rfl (fun h7 => ?_) (fun h7 => ?_)
      ·have h7 := of_decide_eq_true h7
       refine HT.seq ?_
       refine HT.region S_get_ok ?_
       refine So.q rfl rfl (V.as (v := .p (.v (.int .i64 (0)))) rfl ?_)
       refine So.q rfl rfl (V.as (v := .p (.v (.int .i64 (0)))) rfl ?_)
       refine So.q rfl rfl (V.as (v := .p (.v (.int .i64 (112)))) rfl ?_)
       refine So.e ?_
       show HT _ _ _ _ _
       refine HT.ret ?_
       exact ret_ok (sg []) h rfl rfl rfl trivial ⟨trivial, trivial, trivial, trivial⟩ rfl ⟨⟨⟨le_int (by first | (rw [getF_arg (by omega)]; done) | (rw [getF_end (by omega) (by omega) (by omega) (by omega)]; done) | (simp only [show ((b.take (i + n).toNat).drop i.toNat).take s = ((b.take (i + n).toNat).drop i.toNat) from List.take_of_length_le (by omega)] at *; first | (rw [getF_long (by omega) (by omega) (by omega) (by omega) (by assumption)]; done) | (rw [getF_ok (by omega) (by omega) (by omega) (by omega) (by assumption)]; done))), trivial⟩, ⟨le_int (by first | (rw [getF_arg (by omega)]; done) | (rw [getF_end (by omega) (by omega) (by omega) (by omega)]; done) | (simp only [show ((b.take (i + n).toNat).drop i.toNat).take s = ((b.take (i + n).toNat).drop i.toNat) from List.take_of_length_le (by omega)] at *; first | (rw [getF_long (by omega) (by omega) (by omega) (by omega) (by assumption)]; done) | (rw [getF_ok (by omega) (by omega) (by omega) (by omega) (by assumption)]; done))), trivial⟩, ⟨le_int (by first | (rw [getF_arg (by omega)]; done) | (rw [getF_end (by omega) (by omega) (by omega) (by omega)]; done) | (simp only [show ((b.take (i + n).toNat).drop i.toNat).take s = ((b.take (i + n).toNat).drop i.toNat) from List.take_of_length_le (by omega)] at *; first | (rw [getF_long (by omega) (by omega) (by omega) (by omega) (by assumption)]; done) | (rw [getF_ok (by omega) (by omega) (by omega) (by omega) (by assumption)]; done))), trivial⟩, trivial⟩, trivial⟩
      ·have h7 := of_decide_eq_false h7
       refine HT.skip ?_
       show HT _ _ _ _ _
       refine HT.seq ?_
       refine HT.region S_get_ok ?_
       refine So.q rfl rfl (V.mv (v := .p (.v (.int .i64 _))) rfl ?_)
       refine So.q rfl rfl (V.mv (v := .p (.v (.int .i64 _))) rfl ?_)
       refine So.q rfl rfl (V.mv (v := .p (.v (.int .i64 _))) rfl ?_)
       refine So.q rfl rfl (V.addI rfl rfl (by omega) ?_)
       refine So.q rfl rfl (V.as (v := .p (.v (.int .i64 _))) rfl ?_)
       refine So.q rfl rfl (V.as (v := .p (.v (.int .i64 _))) rfl ?_)
       refine So.q rfl rfl (V.as (v := .p (.v (.int .i64 (0)))) rfl ?_)
       refine So.e ?_
       show HT _ _ _ _ _
       refine HT.ret ?_
       exact ret_ok (sg []) h rfl rfl rfl trivial ⟨trivial, trivial, trivial, trivial⟩ rfl ⟨⟨⟨le_int (by first | (rw [getF_arg (by omega)]; done) | (rw [getF_end (by omega) (by omega) (by omega) (by omega)]; done) | (simp only [show ((b.take (i + n).toNat).drop i.toNat).take s = ((b.take (i + n).toNat).drop i.toNat) from List.take_of_length_le (by omega)] at *; first | (rw [getF_long (by omega) (by omega) (by omega) (by omega) (by assumption)]; done) | (rw [getF_ok (by omega) (by omega) (by omega) (by omega) (by assumption)]; done))), trivial⟩, ⟨le_int (by first | (rw [getF_arg (by omega)]; done) | (rw [getF_end (by omega) (by omega) (by omega) (by omega)]; done) | (simp only [show ((b.take (i + n).toNat).drop i.toNat).take s = ((b.take (i + n).toNat).drop i.toNat) from List.take_of_length_le (by omega)] at *; first | (rw [getF_long (by omega) (by omega) (by omega) (by omega) (by assumption)]; done) | (rw [getF_ok (by omega) (by omega) (by omega) (by omega) (by assumption)]; done))), trivial⟩, ⟨le_int (by first | (rw [getF_arg (by omega)]; done) | (rw [getF_end (by omega) (by omega) (by omega) (by omega)]; done) | (simp only [show ((b.take (i + n).toNat).drop i.toNat).take s = ((b.take (i + n).toNat).drop i.toNat) from List.take_of_length_le (by omega)] at *; first | (rw [getF_long (by omega) (by omega) (by omega) (by omega) (by assumption)]; done) | (rw [getF_ok (by omega) (by omega) (by omega) (by omega) (by assumption)]; done))), trivial⟩, trivial⟩, trivial⟩
def spanSp : Sp := ⟨[], mkE (α := (List UInt8) × Int) (fun (b, i) => [.p (.bs (b)), .p (.v (.int .i64 (i)))]) (fun (b, i) => []) (fun (b, i) => True) (fun (b, i) => [.p (.v (.int .i64 ((spanF b i).1))), .p (.v (.int .i64 ((spanF b i).2.1))), .p (.v (.int .i64 ((spanF b i).2.2)))]) (fun (b, i) => [])⟩
def S_span : FuncId → Option Sp := fun f => if f = 48 then some getSp else none
theorem S_span_ok : ∀ f s, S_span f = some s → FOK Tryd.prog gl f s := fun f s h => by
 unfold S_span at h
 split at h
 ·rename_i e; cases h; subst e; exact get_ok
 cases h
set_option maxHeartbeats 1000000 in
set_option maxRecDepth 1000 in
theorem span_ok : FOK Tryd.prog gl 61 spanSp := by
 refine FOK.ofE (tyOf_ok Tryd.prog) (slots := [4, 5, 6]) (nt := 77) Tryd.func61 rfl rfl rfl rfl (by decide) 2 (fun ⟨_, _⟩ => rfl) (by decide) (fun ⟨_, _⟩ => ⟨trivial, trivial, trivial⟩) ?_
 rintro ⟨b, i⟩ kk hlen hpre h
 have hl0 : (b).length ≤ 9223372036854775807 := hlen.1
 replace hpre : True := hpre
 show HT (cx Tryd.prog 77 (tyOf Tryd.prog) gl []) _ [(0, .p (.bs (b))), (1, .p (.v (.int .i64 (i))))] [] _
 refine HT.seq ?_
 refine HT.region S_span_ok ?_
 refine So.q rfl rfl (V.as (v := .p (.v (.int .i64 (0)))) rfl ?_)
 refine So.q rfl rfl (V.as (v := .p (.v (.int .i64 (0)))) rfl ?_)
 refine So.q rfl rfl (V.as (v := .p (.v (.int .i64 (0)))) rfl ?_)
 refine So.e ?_
 show HT _ _ _ _ _
 refine HT.seq ?_
 refine HT.block ?_
 refine HT.seq ?_
 refine HT.seq ?_
 refine HT.region S_span_ok ?_
 refine So.q rfl rfl (V.mv (v := .p (.v (.int .i64 _))) rfl ?_)
 refine So.q rfl rfl (V.bin (a := (.v (.int .i64 _))) (b := (.v (.int .i64 (0)))) (r := .v (.bool _)) rfl rfl rfl trivial ?_)
 refine So.q rfl rfl (V.as (v := .p (.v (.bool _))) rfl ?_)
 refine So.e ?_
 show HT _ _ _ _ _
 refine R.cond rfl rfl (fun h1 => ?_) (fun h1 => ?_)
 ·have h1 := of_decide_eq_true h1
  refine HT.skip ?_
  show HT _ _ _ _ _
  refine R.condT rfl ?_
  refine HT.seq ?_
  refine HT.region S_span_ok ?_
  refine So.q rfl rfl (V.as (v := .p (.v (.int .i64 (0)))) rfl ?_)
  refine So.q rfl rfl (V.as (v := .p (.v (.int .i64 (0)))) rfl ?_)
  refine So.q rfl rfl (V.as (v := .p (.v (.int .i64 (1)))) rfl ?_)
  refine So.e ?_
  show HT _ _ _ _ _
  refine HT.ret ?_
  exact ret_ok (sg []) h rfl rfl rfl trivial ⟨trivial, trivial, trivial, trivial⟩ rfl ⟨⟨⟨le_int (by (unfold spanF; simp (disch := omega) only [if_pos, if_neg]; try (unfold spanK; simp (disch := omega) only [if_pos, if_neg]; try (unfold spanN; simp (disch := omega) only [if_pos, if_neg])))), trivial⟩, ⟨le_int (by (unfold spanF; simp (disch := omega) only [if_pos, if_neg]; try (unfold spanK; simp (disch := omega) only [if_pos, if_neg]; try (unfold spanN; simp (disch := omega) only [if_pos, if_neg])))), trivial⟩, ⟨le_int (by (unfold spanF; simp (disch := omega) only [if_pos, if_neg]; try (unfold spanK; simp (disch := omega) only [if_pos, if_neg]; try (unfold spanN; simp (disch := omega) only [if_pos, if_neg])))), trivial⟩, trivial⟩, trivial⟩
 ·have h1 := of_decide_eq_false h1
  refine HT.region S_span_ok ?_
  refine So.q rfl rfl (V.mv (v := .p (.v (.int .i64 _))) rfl ?_)
  refine So.q rfl rfl (V.mv (v := .p (.bs _)) rfl ?_)
  refine So.q rfl rfl (V.len ty22 (v := .p (.bs _)) rfl rfl ?_)
  refine So.q rfl rfl (V.bin (a := (.v (.int .i64 _))) (b := (.v (.int .i64 _))) (r := .v (.bool _)) rfl rfl rfl trivial ?_)
  refine So.q rfl rfl (V.as (v := .p (.v (.bool _))) rfl ?_)
  refine So.e ?_
  show HT _ _ _ _ _
  refine R.cond rfl rfl (fun h2 => ?_) (fun h2 => ?_)
  ·have h2 := of_decide_eq_true h2
   refine HT.seq ?_
   refine HT.region S_span_ok ?_
   refine So.q rfl rfl (V.as (v := .p (.v (.int .i64 (0)))) rfl ?_)
   refine So.q rfl rfl (V.as (v := .p (.v (.int .i64 (0)))) rfl ?_)
   refine So.q rfl rfl (V.as (v := .p (.v (.int .i64 (1)))) rfl ?_)
   refine So.e ?_
   show HT _ _ _ _ _
   refine HT.ret ?_
   exact ret_ok (sg []) h rfl rfl rfl trivial ⟨trivial, trivial, trivial, trivial⟩ rfl ⟨⟨⟨le_int (by (unfold spanF; simp (disch := omega) only [if_pos, if_neg]; try (unfold spanK; simp (disch := omega) only [if_pos, if_neg]; try (unfold spanN; simp (disch := omega) only [if_pos, if_neg])))), trivial⟩, ⟨le_int (by (unfold spanF; simp (disch := omega) only [if_pos, if_neg]; try (unfold spanK; simp (disch := omega) only [if_pos, if_neg]; try (unfold spanN; simp (disch := omega) only [if_pos, if_neg])))), trivial⟩, ⟨le_int (by (unfold spanF; simp (disch := omega) only [if_pos, if_neg]; try (unfold spanK; simp (disch := omega) only [if_pos, if_neg]; try (unfold spanN; simp (disch := omega) only [if_pos, if_neg])))), trivial⟩, trivial⟩, trivial⟩
  ·have h2 := of_decide_eq_false h2
   refine HT.seq ?_
   refine HT.region S_span_ok ?_
   refine So.q rfl rfl (V.mv (v := .p (.v (.int .i64 _))) rfl ?_)
   refine So.q rfl rfl (V.mv (v := .p (.bs _)) rfl ?_)
   refine So.q rfl rfl (V.len ty22 (v := .p (.bs _)) rfl rfl ?_)
   refine So.q rfl rfl (V.bin (a := (.v (.int .i64 _))) (b := (.v (.int .i64 _))) (r := .v (.bool _)) rfl rfl rfl trivial ?_)
   refine So.q rfl rfl (V.as (v := .p (.v (.bool _))) rfl ?_)
   refine So.e ?_
   show HT _ _ _ _ _
   refine R.cond rfl rfl (fun h3 => ?_) (fun h3 => ?_)
   ·have h3 := of_decide_eq_true h3
    refine HT.seq ?_
    refine HT.region S_span_ok ?_
    refine So.q rfl rfl (V.as (v := .p (.v (.int .i64 (0)))) rfl ?_)
    refine So.q rfl rfl (V.as (v := .p (.v (.int .i64 (0)))) rfl ?_)
    refine So.q rfl rfl (V.as (v := .p (.v (.int .i64 (111)))) rfl ?_)
    refine So.e ?_
    show HT _ _ _ _ _
    refine HT.ret ?_
    exact ret_ok (sg []) h rfl rfl rfl trivial ⟨trivial, trivial, trivial, trivial⟩ rfl ⟨⟨⟨le_int (by (unfold spanF; simp (disch := omega) only [if_pos, if_neg]; try (unfold spanK; simp (disch := omega) only [if_pos, if_neg]; try (unfold spanN; simp (disch := omega) only [if_pos, if_neg])))), trivial⟩, ⟨le_int (by (unfold spanF; simp (disch := omega) only [if_pos, if_neg]; try (unfold spanK; simp (disch := omega) only [if_pos, if_neg]; try (unfold spanN; simp (disch := omega) only [if_pos, if_neg])))), trivial⟩, ⟨le_int (by (unfold spanF; simp (disch := omega) only [if_pos, if_neg]; try (unfold spanK; simp (disch := omega) only [if_pos, if_neg]; try (unfold spanN; simp (disch := omega) only [if_pos, if_neg])))), trivial⟩, trivial⟩, trivial⟩
   ·have h3 := of_decide_eq_false h3
    refine HT.skip ?_
    show HT _ _ _ _ _
    refine HT.seq ?_
    refine HT.region S_span_ok ?_
    refine So.q rfl rfl (V.mv (v := .p (.bs _)) rfl ?_)
    refine So.q rfl rfl (V.mv (v := .p (.v (.int .i64 _))) rfl ?_)
    refine So.q rfl rfl (V.ixBs ty22 ty5 rfl rfl rfl (by omega) rfl ?_)
    refine So.q rfl rfl (V.ldRp ty5 rfl rfl (lk rfl) (v := (.u8 _)) rfl ?_)
    refine So.q rfl rfl (V.shrC (n := 6) (a := (.u8 _)) (b := (.u64 6)) (r := .u8 (u8Shr _ 6)) rfl rfl rfl rfl ?_)
    refine So.q rfl rfl (V.cvN ty3 ty5 (a := (.u8 _)) (r := (.v (.int .i64 _))) rfl rfl ?_)
    refine So.q rfl rfl (V.as (v := .p (.v (.int .i64 _))) rfl ?_)
    refine So.e ?_
    show HT _ _ _ _ _
    refine HT.seq ?_
    refine HT.seq ?_
    refine HT.region S_span_ok ?_
    have hk := shr6_le (b.getD i.toNat 0)
    refine So.q rfl rfl (V.mv (v := .p (.v (.int .i64 _))) rfl ?_)
    refine So.q rfl rfl (V.bin (a := (.v (.int .i64 _))) (b := (.v (.int .i64 (3)))) (r := .v (.bool _)) rfl rfl rfl trivial ?_)
    refine So.e ?_
    show HT _ _ _ _ _
    refine R.cond rfl rfl (fun h4 => ?_) (fun h4 => ?_)
    ·have h4 := of_decide_eq_true h4
     refine HT.seq ?_
     refine HT.region S_span_ok ?_
     refine So.q rfl rfl (V.as (v := .p (.v (.int .i64 (0)))) rfl ?_)
     refine So.q rfl rfl (V.as (v := .p (.v (.int .i64 (0)))) rfl ?_)
     refine So.q rfl rfl (V.as (v := .p (.v (.int .i64 (112)))) rfl ?_)
     refine So.e ?_
     show HT _ _ _ _ _
     refine HT.ret ?_
     exact ret_ok (sg []) h rfl rfl rfl trivial ⟨trivial, trivial, trivial, trivial⟩ rfl ⟨⟨⟨le_int (by (unfold spanF; simp (disch := omega) only [if_pos, if_neg]; try (unfold spanK; simp (disch := omega) only [if_pos, if_neg]; try (unfold spanN; simp (disch := omega) only [if_pos, if_neg])))), trivial⟩, ⟨le_int (by (unfold spanF; simp (disch := omega) only [if_pos, if_neg]; try (unfold spanK; simp (disch := omega) only [if_pos, if_neg]; try (unfold spanN; simp (disch := omega) only [if_pos, if_neg])))), trivial⟩, ⟨le_int (by (unfold spanF; simp (disch := omega) only [if_pos, if_neg]; try (unfold spanK; simp (disch := omega) only [if_pos, if_neg]; try (unfold spanN; simp (disch := omega) only [if_pos, if_neg])))), trivial⟩, trivial⟩, trivial⟩
    ·have h4 := of_decide_eq_false h4
     refine HT.skip ?_
     show HT _ _ _ _ _
     refine HT.seq ?_
     refine HT.region S_span_ok ?_
     have hc := shl_cls (k := ((u8Shr (b.getD i.toNat 0) 6).toNat : Int)) (by omega) (by omega)
     refine So.q rfl rfl (V.mv (v := .p (.bs _)) rfl ?_)
     refine So.q rfl rfl (V.mv (v := .p (.v (.int .i64 _))) rfl ?_)
     refine So.q rfl rfl (V.mv (v := .p (.v (.int .i64 _))) rfl ?_)
     refine So.q rfl rfl (V.bin (a := (.v (.int .i64 (1)))) (b := (.v (.int .i64 _))) (r := .v (.int .i64 _)) rfl rfl rfl (by first | rfl | omega | (simp; done) | (simp; omega)) ?_)
     refine So.n (lk rfl) (A.call0 [.p (.bs _), .p (.v (.int .i64 _)), .p (.v (.int .i64 _))] 1 rfl rfl rfl rfl ⟨trivial, trivial, trivial, trivial⟩ trivial (_, _, _) ⟨.refl _, .refl _, .refl _, trivial⟩ trivial (by trivial) (Φ := fun (b, i, n) => 0 ≤ (getF b i n).2.1 ∧ (getF b i n).2.1 ≤ b.length) (fun (b, i, n) _ => ⟨(getF_from b i n).1, (getF_from b i n).2.1⟩) (.inl rfl) (v := .tup 3 _) rfl (O' := _) rfl (fun h5 => ?_))
     try dsimp only at h5
     refine So.q rfl rfl (V.mv (v := .tup 3 _) rfl ?_)
     refine So.q rfl rfl (V.ext rfl (lk rfl) (v := .p (.v (.int .i64 _))) rfl ?_)
     refine So.q rfl rfl (V.ext rfl (lk rfl) (v := .p (.v (.int .i64 _))) rfl ?_)
     refine So.q rfl rfl (V.ext rfl (lk rfl) (v := .p (.v (.int .i64 _))) rfl ?_)
     refine So.q rfl rfl (V.as (v := .p (.v (.int .i64 _))) rfl ?_)
     refine So.q rfl rfl (V.as (v := .p (.v (.int .i64 _))) rfl ?_)
     refine So.q rfl rfl (V.as (v := .p (.v (.int .i64 _))) rfl ?_)
     refine So.e ?_
     show HT _ _ _ _ _
     refine HT.seq ?_
     refine HT.region S_span_ok ?_
     have htb := tbl_nn ((u8Shr (b.getD i.toNat 0) 6).toNat : Int)
     have h14 := shl_tbl (k := ((u8Shr (b.getD i.toNat 0) 6).toNat : Int)) (by omega) (by omega)
     refine So.q rfl rfl (V.mv (v := .p (.v (.int .i64 _))) rfl ?_)
     refine So.q rfl rfl (V.mv (v := .p (.v (.int .i64 _))) rfl ?_)
     refine So.q rfl rfl (V.ixArr1 ty102 ty3 rfl rfl (lk rfl) rfl (by omega) rfl ?_)
     refine So.q rfl rfl (V.ldRp ty3 rfl rfl (lk rfl) (v := (.v (.int .i64 _))) rfl ?_)
     refine So.q rfl rfl (V.bin (a := (.v (.int .i64 (1)))) (b := (.v (.int .i64 _))) (r := .v (.int .i64 _)) rfl rfl rfl (by first | rfl | omega | (simp; done) | (simp; omega)) ?_)
     refine So.q rfl rfl (V.subI rfl rfl (by omega) ?_)
     refine So.q rfl rfl (V.bin (a := (.v (.int .i64 _))) (b := (.v (.int .i64 _))) (r := .v (.int .i64 _)) rfl rfl rfl trivial ?_)
     refine So.q rfl rfl (V.as (v := .p (.v (.int .i64 _))) rfl ?_)
     refine So.e ?_
     show HT _ _ _ _ _
     refine HT.seq ?_
     refine HT.block ?_
     refine HT.seq ?_
     refine HT.region S_span_ok ?_
     refine So.q rfl rfl (V.mv (v := .p (.v (.int .i64 _))) rfl ?_)
     refine So.q rfl rfl (V.bin (a := (.v (.int .i64 _))) (b := (.v (.int .i64 (0)))) (r := .v (.bool _)) rfl rfl rfl trivial ?_)
     refine So.q rfl rfl (V.as (v := .p (.v (.bool _))) rfl ?_)
     refine So.e ?_
     show HT _ _ _ _ _
     refine R.cond rfl rfl (fun h6 => ?_) (fun h6 => ?_)
     ·have h6 := of_decide_eq_false (bnT h6)
      refine HT.seq ?_
      refine HT.region S_span_ok ?_
      refine So.q rfl rfl (V.mv (v := .p (.v (.int .i64 _))) rfl ?_)
      refine So.q rfl rfl (V.as (v := .p (.v (.int .i64 (0)))) rfl ?_)
      refine So.q rfl rfl (V.as (v := .p (.v (.int .i64 (0)))) rfl ?_)
      refine So.q rfl rfl (V.as (v := .p (.v (.int .i64 _))) rfl ?_)
      refine So.e ?_
      show HT _ _ _ _ _
      refine HT.ret ?_
      exact ret_ok (sg []) h rfl rfl rfl trivial ⟨trivial, trivial, trivial, trivial⟩ rfl ⟨⟨⟨le_int (by (unfold spanF; simp (disch := omega) only [if_pos, if_neg]; try (unfold spanK; simp (disch := omega) only [if_pos, if_neg]; try (unfold spanN; simp (disch := omega) only [if_pos, if_neg])))), trivial⟩, ⟨le_int (by (unfold spanF; simp (disch := omega) only [if_pos, if_neg]; try (unfold spanK; simp (disch := omega) only [if_pos, if_neg]; try (unfold spanN; simp (disch := omega) only [if_pos, if_neg])))), trivial⟩, ⟨le_int (by (unfold spanF; simp (disch := omega) only [if_pos, if_neg]; try (unfold spanK; simp (disch := omega) only [if_pos, if_neg]; try (unfold spanN; simp (disch := omega) only [if_pos, if_neg])))), trivial⟩, trivial⟩, trivial⟩
     ·have h6 := of_decide_eq_true (bnF h6)
      refine HT.seq ?_
      refine HT.region S_span_ok ?_
      have htb2 := tbl_nn (((u8Shr (b.getD i.toNat 0) 6).toNat : Int) - 1)
      refine So.q rfl rfl (V.mv (v := .p (.v (.int .i64 _))) rfl ?_)
      refine So.q rfl rfl (V.bin (a := (.v (.int .i64 _))) (b := (.v (.int .i64 (0)))) (r := .v (.bool _)) rfl rfl rfl trivial ?_)
      refine So.q rfl rfl (V.mv (v := .p (.v (.bool _))) rfl ?_)
      refine So.gd rfl rfl (lk rfl) (lk rfl) (fun h7 => ?_) (fun h7 => ?_)
      ·have h7 := of_decide_eq_true h7
       refine A.v rfl (V.mv (v := .p (.v (.int .i64 _))) rfl ?_)
       refine So.gy rfl rfl (lk rfl) (lk rfl) ?_
       refine A.v rfl (V.mv (v := .p (.v (.int .i64 _))) rfl ?_)
       refine So.gy rfl rfl (lk rfl) (lk rfl) ?_
       refine A.v rfl (V.subI rfl rfl (by omega) ?_)
       refine So.gy rfl rfl (lk rfl) (lk rfl) ?_
       refine A.v rfl (V.ixArr1 ty102 ty3 rfl rfl (lk rfl) rfl (by omega) rfl ?_)
       refine So.gy rfl rfl (lk rfl) (lk rfl) ?_
       refine A.v rfl (V.ldRp ty3 rfl rfl (lk rfl) (v := (.v (.int .i64 _))) rfl ?_)
       refine So.gy rfl rfl (lk rfl) (lk rfl) ?_
       refine A.v rfl (V.bin (a := (.v (.int .i64 (1)))) (b := (.v (.int .i64 _))) (r := .v (.int .i64 _)) rfl rfl rfl (by first | rfl | omega | (simp; done) | (simp; omega)) ?_)
       refine So.gy rfl rfl (lk rfl) (lk rfl) ?_
       refine A.v rfl (V.bin (a := (.v (.int .i64 _))) (b := (.v (.int .i64 _))) (r := .v (.bool _)) rfl rfl rfl trivial ?_)
       refine So.q rfl rfl (V.pkTrue (u := .p (.v (.bool _))) rfl rfl ?_)
       refine So.q rfl rfl (V.as (v := .p (.v (.bool _))) rfl ?_)
       refine So.e ?_
       show HT _ _ _ _ _
       refine R.cond rfl rfl (fun h8 => ?_) (fun h8 => ?_)
       ·have h8 := of_decide_eq_true h8
        refine HT.seq ?_
        refine HT.region S_span_ok ?_
        refine So.q rfl rfl (V.as (v := .p (.v (.int .i64 (0)))) rfl ?_)
        refine So.q rfl rfl (V.as (v := .p (.v (.int .i64 (0)))) rfl ?_)
        refine So.q rfl rfl (V.as (v := .p (.v (.int .i64 (112)))) rfl ?_)
        refine So.e ?_
        show HT _ _ _ _ _
        refine HT.ret ?_
        exact ret_ok (sg []) h rfl rfl rfl trivial ⟨trivial, trivial, trivial, trivial⟩ rfl ⟨⟨⟨le_int (by (unfold spanF; simp (disch := omega) only [if_pos, if_neg]; try (unfold spanK; simp (disch := omega) only [if_pos, if_neg]; try (unfold spanN; simp (disch := omega) only [if_pos, if_neg])))), trivial⟩, ⟨le_int (by (unfold spanF; simp (disch := omega) only [if_pos, if_neg]; try (unfold spanK; simp (disch := omega) only [if_pos, if_neg]; try (unfold spanN; simp (disch := omega) only [if_pos, if_neg])))), trivial⟩, ⟨le_int (by (unfold spanF; simp (disch := omega) only [if_pos, if_neg]; try (unfold spanK; simp (disch := omega) only [if_pos, if_neg]; try (unfold spanN; simp (disch := omega) only [if_pos, if_neg])))), trivial⟩, trivial⟩, trivial⟩
       ·have h8 := of_decide_eq_false h8
        refine HT.seq ?_
        refine HT.region S_span_ok ?_
        refine So.q rfl rfl (V.mv (v := .p (.v (.int .i64 _))) rfl ?_)
        refine So.q rfl rfl (V.bin (a := (.v (.int .i64 _))) (b := (.v (.int .i64 (1048576)))) (r := .v (.bool _)) rfl rfl rfl trivial ?_)
        refine So.q rfl rfl (V.as (v := .p (.v (.bool _))) rfl ?_)
        refine So.e ?_
        show HT _ _ _ _ _
        refine R.cond rfl rfl (fun h9 => ?_) (fun h9 => ?_)
        ·have h9 := of_decide_eq_true h9
         refine HT.seq ?_
         refine HT.region S_span_ok ?_
         refine So.q rfl rfl (V.as (v := .p (.v (.int .i64 (0)))) rfl ?_)
         refine So.q rfl rfl (V.as (v := .p (.v (.int .i64 (0)))) rfl ?_)
         refine So.q rfl rfl (V.as (v := .p (.v (.int .i64 (2)))) rfl ?_)
         refine So.e ?_
         show HT _ _ _ _ _
         refine HT.ret ?_
         exact ret_ok (sg []) h rfl rfl rfl trivial ⟨trivial, trivial, trivial, trivial⟩ rfl ⟨⟨⟨le_int (by (unfold spanF; simp (disch := omega) only [if_pos, if_neg]; try (unfold spanK; simp (disch := omega) only [if_pos, if_neg]; try (unfold spanN; simp (disch := omega) only [if_pos, if_neg])))), trivial⟩, ⟨le_int (by (unfold spanF; simp (disch := omega) only [if_pos, if_neg]; try (unfold spanK; simp (disch := omega) only [if_pos, if_neg]; try (unfold spanN; simp (disch := omega) only [if_pos, if_neg])))), trivial⟩, ⟨le_int (by (unfold spanF; simp (disch := omega) only [if_pos, if_neg]; try (unfold spanK; simp (disch := omega) only [if_pos, if_neg]; try (unfold spanN; simp (disch := omega) only [if_pos, if_neg])))), trivial⟩, trivial⟩, trivial⟩
        ·have h9 := of_decide_eq_false h9
         refine HT.seq ?_
         refine HT.region S_span_ok ?_
         have hn := iAnd_bound (getF b i (iShl .i64 1 ((u8Shr (b.getD i.toNat 0) 6).toNat : Int).toNat)).1 (m := iShl .i64 1 (([6, 14, 30] : List Int).getD ((u8Shr (b.getD i.toNat 0) 6).toNat : Int).toNat 0).toNat - 1) (by omega) (by omega)
         refine So.q rfl rfl (V.mv (v := .p (.v (.int .i64 _))) rfl ?_)
         refine So.q rfl rfl (V.mv (v := .p (.bs _)) rfl ?_)
         refine So.q rfl rfl (V.len ty22 (v := .p (.bs _)) rfl rfl ?_)
         refine So.q rfl rfl (V.mv (v := .p (.v (.int .i64 _))) rfl ?_)
         refine So.q rfl rfl (V.subI rfl rfl (by omega) ?_)
         refine So.q rfl rfl (V.bin (a := (.v (.int .i64 _))) (b := (.v (.int .i64 _))) (r := .v (.bool _)) rfl rfl rfl trivial ?_)
         refine So.q rfl rfl (V.as (v := .p (.v (.bool _))) rfl ?_)
         refine So.e ?_
         show HT _ _ _ _ _
         refine R.cond rfl rfl (fun h10 => ?_) (fun h10 => ?_)
         ·have h10 := of_decide_eq_true h10
          refine HT.seq ?_
          refine HT.region S_span_ok ?_
          refine So.q rfl rfl (V.as (v := .p (.v (.int .i64 (0)))) rfl ?_)
          refine So.q rfl rfl (V.as (v := .p (.v (.int .i64 (0)))) rfl ?_)
          refine So.q rfl rfl (V.as (v := .p (.v (.int .i64 (111)))) rfl ?_)
          refine So.e ?_
          show HT _ _ _ _ _
          refine HT.ret ?_
          exact ret_ok (sg []) h rfl rfl rfl trivial ⟨trivial, trivial, trivial, trivial⟩ rfl ⟨⟨⟨le_int (by (unfold spanF; simp (disch := omega) only [if_pos, if_neg]; try (unfold spanK; simp (disch := omega) only [if_pos, if_neg]; try (unfold spanN; simp (disch := omega) only [if_pos, if_neg])))), trivial⟩, ⟨le_int (by (unfold spanF; simp (disch := omega) only [if_pos, if_neg]; try (unfold spanK; simp (disch := omega) only [if_pos, if_neg]; try (unfold spanN; simp (disch := omega) only [if_pos, if_neg])))), trivial⟩, ⟨le_int (by (unfold spanF; simp (disch := omega) only [if_pos, if_neg]; try (unfold spanK; simp (disch := omega) only [if_pos, if_neg]; try (unfold spanN; simp (disch := omega) only [if_pos, if_neg])))), trivial⟩, trivial⟩, trivial⟩
         ·have h10 := of_decide_eq_false h10
          refine HT.skip ?_
          show HT _ _ _ _ _
          refine HT.seq ?_
          refine HT.region S_span_ok ?_
          refine So.q rfl rfl (V.mv (v := .p (.v (.int .i64 _))) rfl ?_)
          refine So.q rfl rfl (V.mv (v := .p (.v (.int .i64 _))) rfl ?_)
          refine So.q rfl rfl (V.mv (v := .p (.v (.int .i64 _))) rfl ?_)
          refine So.q rfl rfl (V.addI rfl rfl (by omega) ?_)
          refine So.q rfl rfl (V.as (v := .p (.v (.int .i64 _))) rfl ?_)
          refine So.q rfl rfl (V.as (v := .p (.v (.int .i64 _))) rfl ?_)
          refine So.q rfl rfl (V.as (v := .p (.v (.int .i64 (0)))) rfl ?_)
          refine So.e ?_
          show HT _ _ _ _ _
          refine HT.ret ?_
          exact ret_ok (sg []) h rfl rfl rfl trivial ⟨trivial, trivial, trivial, trivial⟩ rfl ⟨⟨⟨le_int (by (unfold spanF; simp (disch := omega) only [if_pos, if_neg]; try (unfold spanK; simp (disch := omega) only [if_pos, if_neg]; try (unfold spanN; simp (disch := omega) only [if_pos, if_neg])))), trivial⟩, ⟨le_int (by (unfold spanF; simp (disch := omega) only [if_pos, if_neg]; try (unfold spanK; simp (disch := omega) only [if_pos, if_neg]; try (unfold spanN; simp (disch := omega) only [if_pos, if_neg])))), trivial⟩, ⟨le_int (by (unfold spanF; simp (disch := omega) only [if_pos, if_neg]; try (unfold spanK; simp (disch := omega) only [if_pos, if_neg]; try (unfold spanN; simp (disch := omega) only [if_pos, if_neg])))), trivial⟩, trivial⟩, trivial⟩
      ·have h7 := of_decide_eq_false h7
       refine So.gn (b := false) rfl rfl rfl (lk rfl) (lk rfl) ?_
       refine So.gn (b := false) rfl rfl rfl (lk rfl) (lk rfl) ?_
       refine So.gn (b := false) rfl rfl rfl (lk rfl) (lk rfl) ?_
       refine So.gn (b := false) rfl rfl rfl (lk rfl) (lk rfl) ?_
       refine So.gn (b := false) rfl rfl rfl (lk rfl) (lk rfl) ?_
       refine So.gn (b := false) rfl rfl rfl (lk rfl) (lk rfl) ?_
       refine So.q rfl rfl (V.pkFalse (u := .p (.v (.bool false))) rfl rfl ?_)
       refine So.q rfl rfl (V.as (v := .p (.v (.bool false))) rfl ?_)
       refine So.e ?_
       show HT _ _ _ _ _
       refine R.condF rfl ?_
       refine HT.seq ?_
       refine HT.region S_span_ok ?_
       refine So.q rfl rfl (V.mv (v := .p (.v (.int .i64 _))) rfl ?_)
       refine So.q rfl rfl (V.bin (a := (.v (.int .i64 _))) (b := (.v (.int .i64 (1048576)))) (r := .v (.bool _)) rfl rfl rfl trivial ?_)
       refine So.q rfl rfl (V.as (v := .p (.v (.bool _))) rfl ?_)
       refine So.e ?_
       show HT _ _ _ _ _
       refine R.cond rfl rfl (fun h11 => ?_) (fun h11 => ?_)
       ·have h11 := of_decide_eq_true h11
        refine HT.seq ?_
        refine HT.region S_span_ok ?_
        refine So.q rfl rfl (V.as (v := .p (.v (.int .i64 (0)))) rfl ?_)
        refine So.q rfl rfl (V.as (v := .p (.v (.int .i64 (0)))) rfl ?_)
        refine So.q rfl rfl (V.as (v := .p (.v (.int .i64 (2)))) rfl ?_)
        refine So.e ?_
        show HT _ _ _ _ _
        refine HT.ret ?_
        exact ret_ok (sg []) h rfl rfl rfl trivial ⟨trivial, trivial, trivial, trivial⟩ rfl ⟨⟨⟨le_int (by (unfold spanF; simp (disch := omega) only [if_pos, if_neg]; try (unfold spanK; simp (disch := omega) only [if_pos, if_neg]; try (unfold spanN; simp (disch := omega) only [if_pos, if_neg])))), trivial⟩, ⟨le_int (by (unfold spanF; simp (disch := omega) only [if_pos, if_neg]; try (unfold spanK; simp (disch := omega) only [if_pos, if_neg]; try (unfold spanN; simp (disch := omega) only [if_pos, if_neg])))), trivial⟩, ⟨le_int (by (unfold spanF; simp (disch := omega) only [if_pos, if_neg]; try (unfold spanK; simp (disch := omega) only [if_pos, if_neg]; try (unfold spanN; simp (disch := omega) only [if_pos, if_neg])))), trivial⟩, trivial⟩, trivial⟩
       ·have h11 := of_decide_eq_false h11
        refine HT.seq ?_
        refine HT.region S_span_ok ?_
        have hn := iAnd_bound (getF b i (iShl .i64 1 ((u8Shr (b.getD i.toNat 0) 6).toNat : Int).toNat)).1 (m := iShl .i64 1 (([6, 14, 30] : List Int).getD ((u8Shr (b.getD i.toNat 0) 6).toNat : Int).toNat 0).toNat - 1) (by omega) (by omega)
        refine So.q rfl rfl (V.mv (v := .p (.v (.int .i64 _))) rfl ?_)
        refine So.q rfl rfl (V.mv (v := .p (.bs _)) rfl ?_)
        refine So.q rfl rfl (V.len ty22 (v := .p (.bs _)) rfl rfl ?_)
        refine So.q rfl rfl (V.mv (v := .p (.v (.int .i64 _))) rfl ?_)
        refine So.q rfl rfl (V.subI rfl rfl (by omega) ?_)
        refine So.q rfl rfl (V.bin (a := (.v (.int .i64 _))) (b := (.v (.int .i64 _))) (r := .v (.bool _)) rfl rfl rfl trivial ?_)
        refine So.q rfl rfl (V.as (v := .p (.v (.bool _))) rfl ?_)
        refine So.e ?_
        show HT _ _ _ _ _
        refine R.cond rfl rfl (fun h12 => ?_) (fun h12 => ?_)
        ·have h12 := of_decide_eq_true h12
         refine HT.seq ?_
         refine HT.region S_span_ok ?_
         refine So.q rfl rfl (V.as (v := .p (.v (.int .i64 (0)))) rfl ?_)
         refine So.q rfl rfl (V.as (v := .p (.v (.int .i64 (0)))) rfl ?_)
         refine So.q rfl rfl (V.as (v := .p (.v (.int .i64 (111)))) rfl ?_)
         refine So.e ?_
         show HT _ _ _ _ _
         refine HT.ret ?_
         exact ret_ok (sg []) h rfl rfl rfl trivial ⟨trivial, trivial, trivial, trivial⟩ rfl ⟨⟨⟨le_int (by (unfold spanF; simp (disch := omega) only [if_pos, if_neg]; try (unfold spanK; simp (disch := omega) only [if_pos, if_neg]; try (unfold spanN; simp (disch := omega) only [if_pos, if_neg])))), trivial⟩, ⟨le_int (by (unfold spanF; simp (disch := omega) only [if_pos, if_neg]; try (unfold spanK; simp (disch := omega) only [if_pos, if_neg]; try (unfold spanN; simp (disch := omega) only [if_pos, if_neg])))), trivial⟩, ⟨le_int (by (unfold spanF; simp (disch := omega) only [if_pos, if_neg]; try (unfold spanK; simp (disch := omega) only [if_pos, if_neg]; try (unfold spanN; simp (disch := omega) only [if_pos, if_neg])))), trivial⟩, trivial⟩, trivial⟩
        ·have h12 := of_decide_eq_false h12
         refine HT.skip ?_
         show HT _ _ _ _ _
         refine HT.seq ?_
         refine HT.region S_span_ok ?_
         refine So.q rfl rfl (V.mv (v := .p (.v (.int .i64 _))) rfl ?_)
         refine So.q rfl rfl (V.mv (v := .p (.v (.int .i64 _))) rfl ?_)
         refine So.q rfl rfl (V.mv (v := .p (.v (.int .i64 _))) rfl ?_)
         refine So.q rfl rfl (V.addI rfl rfl (by omega) ?_)
         refine So.q rfl rfl (V.as (v := .p (.v (.int .i64 _))) rfl ?_)
         refine So.q rfl rfl (V.as (v := .p (.v (.int .i64 _))) rfl ?_)
         refine So.q rfl rfl (V.as (v := .p (.v (.int .i64 (0)))) rfl ?_)
         refine So.e ?_
         show HT _ _ _ _ _
         refine HT.ret ?_
         exact ret_ok (sg []) h rfl rfl rfl trivial ⟨trivial, trivial, trivial, trivial⟩ rfl ⟨⟨⟨le_int (by (unfold spanF; simp (disch := omega) only [if_pos, if_neg]; try (unfold spanK; simp (disch := omega) only [if_pos, if_neg]; try (unfold spanN; simp (disch := omega) only [if_pos, if_neg])))), trivial⟩, ⟨le_int (by (unfold spanF; simp (disch := omega) only [if_pos, if_neg]; try (unfold spanK; simp (disch := omega) only [if_pos, if_neg]; try (unfold spanN; simp (disch := omega) only [if_pos, if_neg])))), trivial⟩, ⟨le_int (by (unfold spanF; simp (disch := omega) only [if_pos, if_neg]; try (unfold spanK; simp (disch := omega) only [if_pos, if_neg]; try (unfold spanN; simp (disch := omega) only [if_pos, if_neg])))), trivial⟩, trivial⟩, trivial⟩
end Go.Vh

set_option linter.unusedVariables false
set_option linter.unusedSimpArgs false
namespace Go.Vh
open Go Go.Vc Go.Proofs Go.Vw
def wtextSp : Sp := ⟨[1], mkE (α := (List UInt8) × (List (List UInt8))) (fun (x, l) => [.ptr 1 (0), .p (.sl (l).length 1 (fun j => .bs ((l).getD j [])))]) (fun (x, l) => [(1, ⟨54, 1, 1, true, .cells [.own 2 (0) ((x).length)]⟩), (2, ⟨5, 1, (x).length, true, .bs (x)⟩)]) (fun (x, l) => x.length ≤ 1000000000 ∧ l.length ≤ 10) (fun (x, l) => []) (fun (x, l) => [(1, ⟨54, 1, 1, true, .cells [.own 2 (0) ((x ++ txL l).length)]⟩), (2, ⟨5, 1, (x ++ txL l).length, true, .bs (x ++ txL l)⟩)])⟩
def S_wtext : FuncId → Option Sp := fun f => if f = 45 then some textSp else none
theorem S_wtext_ok : ∀ f s, S_wtext f = some s → FOK Tryd.prog gl f s := fun f s h => by
 unfold S_wtext at h
 split at h
 ·rename_i e; cases h; subst e; exact text_ok
 cases h
set_option maxHeartbeats 1000000 in
set_option maxRecDepth 1000 in
theorem wtext_ok : FOK Tryd.prog gl 25 wtextSp := by
 refine FOK.ofE (tyOf_ok Tryd.prog) (slots := []) (nt := 29) Tryd.func25 rfl rfl rfl rfl (by decide) 2 (fun ⟨_, _⟩ => rfl) (by decide) (fun ⟨_, _⟩ => ⟨rfl, trivial, trivial⟩) ?_
 rintro ⟨x, l⟩ kk hlen hpre h
 have hl1 : (l).length ≤ 9223372036854775807 := hlen.2.1
 replace hpre : x.length ≤ 1000000000 ∧ l.length ≤ 10 := hpre
 show HT (cx Tryd.prog 29 (tyOf Tryd.prog) gl [1]) _ [(0, .ptr 1 (0)), (1, .p (.sl (l).length 1 (fun j => .bs ((l).getD j []))))] [(1, ⟨54, 1, 1, true, .cells [.own 2 (0) ((x).length)]⟩), (2, ⟨5, 1, (x).length, true, .bs (x)⟩)] _
 have hb : ∀ k, k ≤ l.length → (txL (l.take k)).length ≤ 1048580 * k := txL_len l
 refine HT.seq ?_
 refine HT.region S_wtext_ok ?_
 refine So.q rfl rfl (V.mv (v := .p (.sl _ 1 _)) rfl ?_)
 refine So.q rfl rfl (V.len ty51 (v := .p (.sl _ 1 _)) rfl rfl ?_)
 refine So.q rfl rfl (V.mv (v := .p (.v (.int .i64 (0)))) rfl ?_)
 refine So.e ?_
 show HT _ _ _ _ _
 refine HT.block ?_
 refine R.loop (σ := Nat) (fun s => [(10, .p (.v (.int .i64 ((s : Int)))))]) (fun s => [(1, ⟨54, 1, 1, true, .cells [.own 2 (0) ((x ++ txL (l.take s)).length)]⟩), (2, ⟨5, 1, (x ++ txL (l.take s)).length, true, .bs (x ++ txL (l.take s))⟩)]) [0, 8, 9] [] (fun s => s ≤ l.length) (fun s => l.length - s) (0) (fr0 := [(0, .ptr 1 0), (8, .p (.sl _ 1 _)), (9, .p (.v (.int .i64 _)))]) (O0 := []) rfl rfl (by first | rfl | omega | (simp; done) | (simp; omega)) ⟨⟨⟨le_int (by first | rfl | omega | (simp [txL]; done)), trivial⟩, ⟨.refl _, rfl⟩, ⟨.refl _, trivial⟩, ⟨.refl _, trivial⟩, trivial⟩, ⟨⟨_, rfl, .inl (by first | rfl | ((try dsimp only); first | rfl | omega | (simp [txL]; done))), ⟨rfl, trivial⟩⟩, ⟨_, rfl, .inl (ob_bs (by first | rfl | ((try dsimp only); first | rfl | omega | (simp [txL]; done))) (by first | rfl | ((try dsimp only); first | rfl | omega | (simp [txL]; done)))), trivial⟩, trivial⟩⟩ (fun s hP0 => ?_)
 have hbs := hb s
 have htl := tx_len (l.getD s [])
 refine HT.seq ?_
 refine HT.region S_wtext_ok ?_
 refine So.q rfl rfl (V.bin (a := (.v (.int .i64 ((_ : Nat) : Int)))) (b := (.v (.int .i64 _))) (r := .v (.bool _)) rfl rfl rfl trivial ?_)
 refine So.e ?_
 show HT _ _ _ _ _
 refine HT.seq ?_
 refine R.cond rfl rfl (fun h1 => ?_) (fun h1 => ?_)
 ·have h1 := of_decide_eq_true h1
  refine HT.skip ?_
  show HT _ _ _ _ _
  refine HT.seq ?_
  refine HT.block ?_
  refine HT.seq ?_
  refine HT.region S_wtext_ok ?_
  refine So.q rfl rfl (V.ixSl1 (mi := s) ty51 ty22 rfl rfl rfl (by omega) (by omega) ?_)
  refine So.q rfl rfl (V.ldRp ty22 rfl rfl (lk rfl) (v := (.bs _)) rfl ?_)
  refine So.q rfl rfl (V.as (v := .p (.bs _)) rfl ?_)
  refine So.e ?_
  show HT _ _ _ _ _
  refine HT.seq ?_
  refine HT.region S_wtext_ok ?_
  refine So.q rfl rfl (V.mv (v := .p (.bs _)) rfl ?_)
  refine So.n (lk rfl) (A.call0 [.p (.bs _)] 3 rfl rfl rfl rfl ⟨trivial, trivial⟩ ⟨lk rfl, trivial⟩ _ ⟨.refl _, trivial⟩ trivial (by trivial) (Φ := fun s => (textF s).length ≤ 1048580) (fun s _ => textF_len s) (.inl rfl) (v := .tup 2 _) rfl (O' := (4, ⟨5, 1, _, true, .bs _⟩) :: _) rfl (fun h2 => ?_))
  try dsimp only at h2
  refine So.q rfl rfl (V.mv (v := .tup 2 _) rfl ?_)
  refine So.q rfl rfl (V.ext rfl (lk rfl) (v := .own 4 0 _) rfl ?_)
  refine So.q rfl rfl (V.ext rfl (lk rfl) (v := .p (.v (.int .i64 _))) rfl ?_)
  refine So.q rfl rfl (V.as (v := .own 4 0 _) rfl ?_)
  refine So.q rfl rfl (V.as (v := .p (.v (.int .i64 _))) rfl ?_)
  refine So.e ?_
  show HT _ _ _ _ _
  refine HT.region S_wtext_ok ?_
  refine So.q rfl rfl (V.mv (v := .ptr 1 0) rfl ?_)
  refine So.q rfl rfl (V.mv (v := .ptr 1 0) rfl ?_)
  refine So.q rfl rfl (V.ncPtr rfl ?_)
  refine So.q rfl rfl (V.faPtr ty54 rfl ty22 (lk rfl) rfl rfl (lk rfl) ?_)
  refine So.q rfl rfl (V.ldPtr ty22 rfl rfl rfl (lk rfl) (v := .own 2 0 _) rfl ?_)
  refine So.q rfl rfl (V.mv (v := .own 4 0 _) rfl ?_)
  refine So.n (lk rfl) (A.apOwn ty22 ty5 rfl rfl rfl rfl (u := .own 4 0 _) rfl rfl (l' := x ++ txL (l.take s) ++ txF (l.getD s [])) (by rw [ap_full (Nat.le_refl _), take_full]) (mn := (x ++ txL (l.take s)).length + (txF (l.getD s [])).length) (by first | rfl | (rw [take_full]; done)) (by rw [List.length_append]; omega) rfl rfl rfl ?_)
  refine So.q rfl rfl (V.ncPtr rfl ?_)
  refine So.q rfl rfl (V.faPtr ty54 rfl ty22 (lk rfl) rfl rfl (lk rfl) ?_)
  refine So.s (A.sto ty22 rfl rfl rfl (v := .own 2 0 _) rfl trivial rfl (lk rfl) rfl rfl ?_)
  refine So.e ?_
  show HT _ _ _ _ _
  refine HT.region S_wtext_ok ?_
  refine So.q rfl rfl (V.addI rfl rfl (by omega) ?_)
  refine So.q rfl rfl (V.mv (v := .p (.v (.int .i64 _))) rfl ?_)
  refine So.e ?_
  refine ⟨s + 1, by first | rfl | omega | (simp; done) | (simp; omega), by omega, ⟨⟨⟨le_int (by first | rfl | omega | (simp; done) | (simp; omega)), trivial⟩, ⟨.refl _, rfl⟩, ⟨.refl _, trivial⟩, ⟨.refl _, trivial⟩, trivial⟩, ⟨⟨_, rfl, .inl (by first | rfl | (simp [txL]; done) | (rw [txL_take l (by omega)]; simp only [List.length_append, Nat.add_assoc]; rfl)), ⟨rfl, trivial⟩⟩, ⟨_, rfl, .inl (ob_bs (by first | rfl | (simp [txL]; done) | (rw [txL_take l (by omega)]; simp only [List.length_append, Nat.add_assoc])) (by first | (simp [txL]; done) | (rw [txL_take l (by omega), List.append_assoc]))), trivial⟩, trivial⟩⟩⟩
 ·have h1 := of_decide_eq_false h1
  refine HT.exit ?_
  exact ret_ok (sg [(1, 1), (2, 2)]) h rfl rfl rfl ⟨⟨rfl, trivial⟩, trivial, trivial⟩ trivial rfl ⟨trivial, ⟨⟨_, rfl, .inl (by first | rfl | ((try dsimp only); (first | rfl | (replace hP0 : s = l.length := (by omega); subst hP0; first | (rw [List.take_length]; rfl) | (rw [List.take_length]))))), ⟨rfl, trivial⟩⟩, ⟨_, rfl, .inl (ob_bs (by first | rfl | ((try dsimp only); (first | rfl | (replace hP0 : s = l.length := (by omega); subst hP0; first | (rw [List.take_length]; rfl) | (rw [List.take_length]))))) (by first | rfl | ((try dsimp only); (first | rfl | (replace hP0 : s = l.length := (by omega); subst hP0; first | (rw [List.take_length]; rfl) | (rw [List.take_length])))))), trivial⟩, trivial⟩⟩
end Go.Vh

set_option linter.unusedVariables false
set_option linter.unusedSimpArgs false
namespace Go.Vh
open Go Go.Vc Go.Proofs Go.Vw
def wnumSp : Sp := ⟨[1], mkE (α := (List UInt8) × Int × Int) (fun (x, n, k) => [.ptr 1 (0), .p (.v (.int .i64 (n))), .p (.v (.int .i64 (k)))]) (fun (x, n, k) => [(1, ⟨54, 1, 1, true, .cells [.own 2 (0) ((x).length)]⟩), (2, ⟨5, 1, (x).length, true, .bs (x)⟩)]) (fun (x, n, k) => x.length ≤ 1000000000) (fun (x, n, k) => []) (fun (x, n, k) => [(1, ⟨54, 1, 1, true, .cells [.own 2 (0) ((x ++ nuF n k).length)]⟩), (2, ⟨5, 1, (x ++ nuF n k).length, true, .bs (x ++ nuF n k)⟩)])⟩
def S_wnum : FuncId → Option Sp := fun f => if f = 52 then some numSp else none
theorem S_wnum_ok : ∀ f s, S_wnum f = some s → FOK Tryd.prog gl f s := fun f s h => by
 unfold S_wnum at h
 split at h
 ·rename_i e; cases h; subst e; exact num_ok
 cases h
theorem S_wnum_det : ∀ f s, S_wnum f = some s → SpDet s.sp := fun f s h => by
 unfold S_wnum at h
 split at h
 ·cases h; exact mkE_det _ _ _ _ _
 cases h
set_option maxHeartbeats 1000000 in
set_option maxRecDepth 1000 in
theorem wnum_ok : FOK Tryd.prog gl 40 wnumSp := by
 refine FOK.ofE (tyOf_ok Tryd.prog) (slots := []) (nt := 17) Tryd.func40 rfl rfl rfl rfl (by decide) 3 (fun ⟨_, _, _⟩ => rfl) (by decide) (fun ⟨_, _, _⟩ => ⟨rfl, trivial, trivial, trivial⟩) ?_
 rintro ⟨x, n, k⟩ kk hlen hpre h
 replace hpre : x.length ≤ 1000000000 := hpre
 show HT (cx Tryd.prog 17 (tyOf Tryd.prog) gl [1]) _ [(0, .ptr 1 (0)), (1, .p (.v (.int .i64 (n)))), (2, .p (.v (.int .i64 (k))))] [(1, ⟨54, 1, 1, true, .cells [.own 2 (0) ((x).length)]⟩), (2, ⟨5, 1, (x).length, true, .bs (x)⟩)] _
 refine HT.planS S_wnum_ok S_wnum_det mixed [] [⟨[0, 1, 2, 3, 4, 5, 6, 7], 8, [0]⟩, ⟨[0, 9, 10], 11, []⟩] (by kernel_rfl) ?_
 have hnl := nu_len n k
 refine Pl.lk ?_
 refine Si.n rfl (lk rfl) (V.mv (v := .ptr 1 0) rfl ?_)
 refine Si.n rfl (lk rfl) (V.mv (v := .ptr 1 0) rfl ?_)
 refine Si.n rfl (lk rfl) (V.ncPtr rfl ?_)
 refine Si.n rfl (lk rfl) (V.faPtr ty54 rfl ty22 (lk rfl) rfl rfl (lk rfl) ?_)
 refine Si.n rfl (lk rfl) (V.ldPtr ty22 rfl rfl rfl (lk rfl) (v := .own 2 0 _) rfl ?_)
 refine Si.n rfl (lk rfl) (V.mv (v := .p (.v (.int .i64 _))) rfl ?_)
 refine Si.n rfl (lk rfl) (V.mv (v := .p (.v (.int .i64 _))) rfl ?_)
 refine Si.n rfl (lk rfl) (V.call [.p (.v (.int .i64 _)), .p (.v (.int .i64 _))] 3 rfl rfl rfl rfl ⟨trivial, trivial, trivial⟩ ⟨lk rfl, trivial⟩ (_, _) ⟨.refl _, .refl _, trivial⟩ trivial (by trivial) (Φ := fun (n, k) => (numF n k).length ≤ 8) (fun _ _ => numF_len _ _) (.inl ⟨trivial, trivial, trivial⟩) (v := .p (.bs _)) rfl (fun h1 => ?_))
 try dsimp only at h1
 refine Si.e ?_
 refine ⟨flEq_nil, fun ff => ?_⟩
 refine Lo.n rfl (lk rfl) (A.apOwn ty22 ty5 rfl rfl rfl rfl (u := .p (.bs _)) rfl rfl (l' := x ++ nuF n k) (by rw [ap_full (Nat.le_refl _), take_full]) (mn := x.length + (nuF n k).length) (by first | rfl | (rw [take_full]; done)) (by omega) rfl rfl rfl ?_)
 refine ⟨_, fun ff => Fr.kill 2 (ff), ap1d, rfl, (FG.kill 2 (flP_cons rfl flP_nil)), ?_⟩
 show planA _ _ _ _ _ [(0, .ptr 1 0)] _ _ _
 refine Pl.l0 ?_
 refine Si.n rfl (lk rfl) (V.mv (v := .ptr 1 0) rfl ?_)
 refine Si.n rfl (lk rfl) (V.ncPtr rfl ?_)
 refine Si.n rfl (lk rfl) (V.faPtr ty54 rfl ty22 (lk rfl) rfl rfl (lk rfl) ?_)
 refine Si.e ?_
 refine ⟨(flEq_cons rfl flEq_nil), ?_⟩
 refine Lo.s rfl (A.sto ty22 rfl rfl rfl (v := .own 2 0 _) rfl trivial rfl (lk rfl) rfl rfl ?_)
 refine Pl.e ?_
 refine Si.e ?_
 refine ⟨flEq_nil, ?_⟩
 exact ret_ok (sg [(1, 1), (2, 2)]) h rfl rfl rfl ⟨⟨rfl, trivial⟩, trivial, trivial⟩ trivial rfl ⟨trivial, ⟨⟨_, rfl, .inl (by first | rfl | ((try dsimp only); (first | rfl | (rw [List.length_append]; rfl) | (rw [List.length_append])))), ⟨rfl, trivial⟩⟩, ⟨_, rfl, .inl (ob_bs (by first | rfl | ((try dsimp only); (first | rfl | (rw [List.length_append]; rfl) | (rw [List.length_append])))) (by first | rfl | ((try dsimp only); (first | rfl | (rw [List.length_append]; rfl) | (rw [List.length_append]))))), trivial⟩, trivial⟩⟩
end Go.Vh

set_option linter.unusedVariables false
set_option linter.unusedSimpArgs false
namespace Go.Vh
open Go Go.Vc Go.Proofs Go.Vw
def wplaceSp : Sp := ⟨[1], mkE (α := (List UInt8) × (List UInt8) × Int × Int) (fun (x, g, ep, fr) => [.ptr 1 (0), .agg 3 (fun j => ([.bs g, .v (.int .i64 ep), .v (.int .i64 fr)] : List PV).getD j (.v undef))]) (fun (x, g, ep, fr) => [(1, ⟨54, 1, 1, true, .cells [.own 2 (0) ((x).length)]⟩), (2, ⟨5, 1, (x).length, true, .bs (x)⟩)]) (fun (x, g, ep, fr) => x.length ≤ 900000000) (fun (x, g, ep, fr) => []) (fun (x, g, ep, fr) => [(1, ⟨54, 1, 1, true, .cells [.own 2 (0) ((x ++ txF g ++ nuF ep 8 ++ nuF fr 4).length)]⟩), (2, ⟨5, 1, (x ++ txF g ++ nuF ep 8 ++ nuF fr 4).length, true, .bs (x ++ txF g ++ nuF ep 8 ++ nuF fr 4)⟩)])⟩
def S_wplace : FuncId → Option Sp := fun f => if f = 25 then some wtextSp else if f = 40 then some wnumSp else none
theorem S_wplace_ok : ∀ f s, S_wplace f = some s → FOK Tryd.prog gl f s := fun f s h => by
 unfold S_wplace at h
 split at h
 ·rename_i e; cases h; subst e; exact wtext_ok
 split at h
 ·rename_i e; cases h; subst e; exact wnum_ok
 cases h
set_option maxHeartbeats 1000000 in
set_option maxRecDepth 1000 in
theorem wplace_ok : FOK Tryd.prog gl 38 wplaceSp := by
 refine FOK.ofE (tyOf_ok Tryd.prog) (slots := []) (nt := 17) Tryd.func38 rfl rfl rfl rfl (by decide) 2 (fun ⟨_, _, _, _⟩ => rfl) (by decide) (fun ⟨_, _, _, _⟩ => ⟨rfl, trivial, trivial⟩) ?_
 rintro ⟨x, g, ep, fr⟩ kk hlen hpre h
 replace hpre : x.length ≤ 900000000 := hpre
 show HT (cx Tryd.prog 17 (tyOf Tryd.prog) gl [1]) _ [(0, .ptr 1 (0)), (1, .agg 3 (fun j => ([.bs g, .v (.int .i64 ep), .v (.int .i64 fr)] : List PV).getD j (.v undef)))] [(1, ⟨54, 1, 1, true, .cells [.own 2 (0) ((x).length)]⟩), (2, ⟨5, 1, (x).length, true, .bs (x)⟩)] _
 have h8 := nu_len ep 8
 have h4 := nu_len fr 4
 have htg := tx_len g
 have hx1 : (x ++ txF g).length = x.length + (txF g).length := List.length_append
 have hx2 : (x ++ txF g ++ nuF ep 8).length = x.length + (txF g).length + (nuF ep 8).length := by rw [List.length_append, hx1]
 refine HT.seq ?_
 refine HT.region S_wplace_ok ?_
 refine So.n (lk rfl) (A.boxAg 3 1 (n := 3) rfl (by intro j hj; first | rfl | trivial | (match j, hj with | 0, _ => (first | trivial | rfl) | 1, _ => (first | trivial | rfl) | 2, _ => (first | trivial | rfl)) | (split <;> first | rfl | trivial | (split <;> first | rfl | trivial))) rfl ⟨lk rfl, trivial⟩ ?_)
 refine So.e ?_
 show HT _ _ _ _ _
 refine HT.seq ?_
 refine HT.region S_wplace_ok ?_
 refine So.q rfl rfl (V.mv (v := .ptr 1 0) rfl ?_)
 refine So.q rfl rfl (V.faPtr ty57 rfl ty22 (lk rfl) rfl rfl (lk rfl) ?_)
 refine So.q rfl rfl (V.ldPtr ty22 rfl rfl rfl (lk rfl) (v := .p (.bs _)) rfl ?_)
 refine So.n (lk rfl) (A.bsl 4 ty51 ty22 rfl (lk rfl) (lk rfl) (fun _ => rfl) rfl rfl ⟨lk rfl, trivial⟩ ⟨trivial, trivial⟩ rfl (N := 1) rfl (c := .rows _) rfl ?_)
 refine So.n (lk rfl) (A.call [.ptr 1 _, .p (.sl _ _ _)] [(1, ⟨_, _, _, _, .cells [.own 2 0 _]⟩), (2, ⟨_, _, _, _, .bs _⟩)] (sg [(1, 1), (2, 2)]) 5 rfl rfl rfl rfl ⟨rfl, rfl, trivial⟩ rfl ⟨⟨rfl, trivial⟩, trivial, trivial⟩ ⟨rfl, trivial, trivial⟩ ⟨lk rfl, trivial⟩ rfl (x, [g]) ⟨.refl _, le_sl rfl (by intro j hj; match j, hj with | 0, _ => rfl), trivial⟩ ⟨⟨_, rfl, .inl rfl, ⟨rfl, trivial⟩⟩, ⟨_, rfl, .inl rfl, trivial⟩, trivial⟩ (by first | omega | (simp only [List.drop_zero, List.take_length]; omega) | (simp; done) | (simp; omega)) (Φ := fun _ => True) (fun _ _ => trivial) ⟨⟨_, _, rfl, rfl, rfl, Nat.le_refl _⟩, trivial⟩ (.inr ⟨fun _ hj => absurd hj (Nat.not_lt_zero _), by simp [Hp.scal, OC.scal, PV.scal, BV.scal]⟩) rfl (v := .tup 0 _) rfl (O' := (1, ⟨_, _, _, _, .cells _⟩) :: (7, ⟨_, _, _, _, .bs _⟩) :: _) rfl (fun h1 => ?_))
 refine So.e ?_
 show HT _ _ _ _ _
 refine HT.seq ?_
 refine R.tell [] [(1, ⟨54, 1, 1, true, .cells [.own 7 (0) ((x ++ txF g).length)]⟩), (7, ⟨5, 1, (x ++ txF g).length, true, .bs (x ++ txF g)⟩)] [0, 3] [3] (fr0 := [(0, .ptr 1 0), (3, .ptr 3 0)]) (O0 := [(3, ⟨_, _, _, _, .rows _⟩)]) rfl rfl ⟨⟨⟨.refl _, rfl⟩, ⟨.refl _, rfl⟩, trivial⟩, ⟨⟨_, rfl, .inl (by first | rfl | (rw [txL_1]; rfl) | (rw [txL_1])), ⟨rfl, trivial⟩⟩, ⟨_, rfl, .inl (ob_bs (by first | rfl | (rw [txL_1]; rfl) | (rw [txL_1])) (by first | rfl | (rw [txL_1]; rfl) | (rw [txL_1]))), trivial⟩, ⟨_, rfl, .inl rfl, trivial⟩, trivial⟩⟩ ?_
 show HT _ _ _ _ _
 refine HT.region S_wplace_ok ?_
 refine So.q rfl rfl (V.mv (v := .ptr 1 0) rfl ?_)
 refine So.q rfl rfl (V.faPtr ty57 rfl ty2 (lk rfl) rfl rfl (lk rfl) ?_)
 refine So.q rfl rfl (V.ldPtr ty2 rfl rfl rfl (lk rfl) (v := .p (.v (.int .i64 _))) rfl ?_)
 refine So.n (lk rfl) (A.call [.ptr 1 _, .p (.v (.int .i64 _)), .p (.v (.int .i64 _))] [(1, ⟨_, _, _, _, .cells [.own 2 0 _]⟩), (2, ⟨_, _, _, _, .bs _⟩)] (sg [(1, 1), (2, 7)]) 8 rfl rfl rfl rfl ⟨rfl, rfl, trivial⟩ rfl ⟨⟨rfl, trivial⟩, trivial, trivial⟩ ⟨rfl, trivial, trivial, trivial⟩ ⟨lk rfl, trivial⟩ rfl (x ++ txF g, ep, 8) ⟨.refl _, .refl _, .refl _, trivial⟩ ⟨⟨_, rfl, .inl rfl, ⟨rfl, trivial⟩⟩, ⟨_, rfl, .inl rfl, trivial⟩, trivial⟩ (by first | omega | (simp only [List.drop_zero, List.take_length]; omega) | (simp; done) | (simp; omega)) (Φ := fun _ => True) (fun _ _ => trivial) ⟨⟨_, _, rfl, rfl, rfl, Nat.le_refl _⟩, trivial⟩ (.inl rfl) rfl (v := .tup 0 _) rfl (O' := (1, ⟨_, _, _, _, .cells _⟩) :: (10, ⟨_, _, _, _, .bs _⟩) :: _) rfl (fun h2 => ?_))
 refine So.e ?_
 show HT _ _ _ _ _
 refine HT.region S_wplace_ok ?_
 refine So.q rfl rfl (V.mv (v := .ptr 1 0) rfl ?_)
 refine So.q rfl rfl (V.faPtr ty57 rfl ty3 (lk rfl) rfl rfl (lk rfl) ?_)
 refine So.q rfl rfl (V.ldPtr ty3 rfl rfl rfl (lk rfl) (v := .p (.v (.int .i64 _))) rfl ?_)
 refine So.n (lk rfl) (A.call [.ptr 1 _, .p (.v (.int .i64 _)), .p (.v (.int .i64 _))] [(1, ⟨_, _, _, _, .cells [.own 2 0 _]⟩), (2, ⟨_, _, _, _, .bs _⟩)] (sg [(1, 1), (2, 10)]) 11 rfl rfl rfl rfl ⟨rfl, rfl, trivial⟩ rfl ⟨⟨rfl, trivial⟩, trivial, trivial⟩ ⟨rfl, trivial, trivial, trivial⟩ ⟨lk rfl, trivial⟩ rfl (x ++ txF g ++ nuF ep 8, fr, 4) ⟨.refl _, .refl _, .refl _, trivial⟩ ⟨⟨_, rfl, .inl rfl, ⟨rfl, trivial⟩⟩, ⟨_, rfl, .inl rfl, trivial⟩, trivial⟩ (by first | omega | (simp only [List.drop_zero, List.take_length]; omega) | (simp; done) | (simp; omega)) (Φ := fun _ => True) (fun _ _ => trivial) ⟨⟨_, _, rfl, rfl, rfl, Nat.le_refl _⟩, trivial⟩ (.inl rfl) rfl (v := .tup 0 _) rfl (O' := (1, ⟨_, _, _, _, .cells _⟩) :: (13, ⟨_, _, _, _, .bs _⟩) :: _) rfl (fun h3 => ?_))
 refine So.e ?_
 exact ret_ok (sg [(1, 1), (2, 13)]) h rfl rfl rfl ⟨⟨rfl, trivial⟩, trivial, trivial⟩ trivial rfl ⟨trivial, ⟨⟨_, rfl, .inl (by first | rfl | ((try dsimp only); (first | rfl))), ⟨rfl, trivial⟩⟩, ⟨_, rfl, .inl (ob_bs (by first | rfl | ((try dsimp only); (first | rfl))) (by first | rfl | ((try dsimp only); (first | rfl)))), trivial⟩, trivial⟩⟩
end Go.Vh

set_option linter.unusedVariables false
set_option linter.unusedSimpArgs false
namespace Go.Vh
open Go Go.Vc Go.Proofs Go.Vw
def fbytesSp : Sp := ⟨[], mkE (α := (List UInt8) × Int × Int × Int × (List UInt8)) (fun (g, ep, fr, kd, bd) => [.agg 5 (fun j => ([.bs g, .v (.int .i64 ep), .v (.int .i64 fr), .v (.int .i64 kd), .bs bd] : List PV).getD j (.v undef))]) (fun (g, ep, fr, kd, bd) => []) (fun (g, ep, fr, kd, bd) => True) (fun (g, ep, fr, kd, bd) => [.own 2 (0) ((bytesF g ep fr kd bd).length), .p (.v (.int .i64 (bytesE g ep fr kd bd)))]) (fun (g, ep, fr, kd, bd) => [(2, ⟨5, 1, (bytesF g ep fr kd bd).length, true, .bs (bytesF g ep fr kd bd)⟩)])⟩
def S_fbytes : FuncId → Option Sp := fun f => if f = 12 then some frightSp else if f = 27 then some fofSp else if f = 38 then some wplaceSp else if f = 40 then some wnumSp else if f = 25 then some wtextSp else none
theorem S_fbytes_ok : ∀ f s, S_fbytes f = some s → FOK Tryd.prog gl f s := fun f s h => by
 unfold S_fbytes at h
 split at h
 ·rename_i e; cases h; subst e; exact fright_ok
 split at h
 ·rename_i e; cases h; subst e; exact fof_ok
 split at h
 ·rename_i e; cases h; subst e; exact wplace_ok
 split at h
 ·rename_i e; cases h; subst e; exact wnum_ok
 split at h
 ·rename_i e; cases h; subst e; exact wtext_ok
 cases h
set_option maxHeartbeats 1000000 in
set_option maxRecDepth 1000 in
theorem fbytes_ok : FOK Tryd.prog gl 23 fbytesSp := by
 refine FOK.ofE (tyOf_ok Tryd.prog) (slots := [2, 3]) (nt := 27) Tryd.func23 rfl rfl rfl rfl (by decide) 1 (fun ⟨_, _, _, _, _⟩ => rfl) (by decide) (fun ⟨_, _, _, _, _⟩ => ⟨trivial, trivial⟩) ?_
 rintro ⟨g, ep, fr, kd, bd⟩ kk hlen hpre h
 replace hpre : True := hpre
 show HT (cx Tryd.prog 27 (tyOf Tryd.prog) gl []) _ [(0, .agg 5 (fun j => ([.bs g, .v (.int .i64 ep), .v (.int .i64 fr), .v (.int .i64 kd), .bs bd] : List PV).getD j (.v undef)))] [] _
 have h8 := nu_len ep 8
 have h4 := nu_len fr 4
 have h1k := nu_len kd 1
 have htg := tx_len g
 have hp3 : (txF g ++ nuF ep 8 ++ nuF fr 4).length = (txF g).length + (nuF ep 8).length + (nuF fr 4).length := by rw [List.length_append, List.length_append]
 have hp4 : (txF g ++ nuF ep 8 ++ nuF fr 4 ++ nuF kd 1).length = (txF g ++ nuF ep 8 ++ nuF fr 4).length + (nuF kd 1).length := List.length_append
 refine HT.seq ?_
 refine HT.region S_fbytes_ok ?_
 refine So.n (lk rfl) (A.boxAg 1 1 (n := 5) rfl (by intro j hj; first | rfl | trivial | (match j, hj with | 0, _ => (first | trivial | rfl) | 1, _ => (first | trivial | rfl) | 2, _ => (first | trivial | rfl) | 3, _ => (first | trivial | rfl) | 4, _ => (first | trivial | rfl)) | (split <;> first | rfl | trivial | (split <;> first | rfl | trivial))) rfl trivial ?_)
 refine So.q rfl rfl (V.as (v := .p (.v (.slice none 0 0))) rfl ?_)
 refine So.q rfl rfl (V.as (v := .p (.v (.int .i64 (0)))) rfl ?_)
 refine So.e ?_
 show HT _ _ _ _ _
 refine HT.seq ?_
 refine HT.seq ?_
 refine HT.region S_fbytes_ok ?_
 refine So.q rfl rfl (V.ldPtrA ty24 rfl rfl rfl rfl (lk rfl) ?_)
 refine So.n (lk rfl) (A.call0 [.agg 5 _] 2 rfl rfl rfl rfl ⟨trivial, trivial⟩ trivial (g, ep, fr, kd, bd) ⟨le_agg (fun j hj => by match j, hj with | 0, _ => rfl | 1, _ => rfl | 2, _ => rfl | 3, _ => rfl | 4, _ => rfl), trivial⟩ trivial (by trivial) (Φ := fun _ => True) (fun _ _ => trivial) (.inl rfl) (v := .p (.v (.bool _))) rfl (O' := _) rfl (fun h1 => ?_))
 refine So.q rfl rfl (V.not rfl ?_)
 refine So.e ?_
 show HT _ _ _ _ _
 refine R.cond rfl rfl (fun h2 => ?_) (fun h2 => ?_)
 ·have h2 := of_decide_eq_false (bnT h2)
  refine HT.seq ?_
  refine HT.region S_fbytes_ok ?_
  refine So.q rfl rfl (V.as (v := .p (.v (.slice none 0 0))) rfl ?_)
  refine So.q rfl rfl (V.as (v := .p (.v (.int .i64 (181)))) rfl ?_)
  refine So.e ?_
  show HT _ _ _ _ _
  refine R.phan 2 2 5 1 (.bs []) rfl rfl rfl ⟨rfl, rfl⟩ ?_
  refine HT.ret ?_
  exact ret_ok (sg [(2, 2)]) h rfl rfl rfl ⟨trivial, trivial⟩ ⟨rfl, trivial, trivial⟩ rfl ⟨⟨⟨le_own2 (by first | rfl | omega) (by first | with_reducible rfl | (show (_ : Nat) = _; first | (rw [bytesF_no (by assumption)]; done) | (rw [bytesF_no (by assumption)]; rfl) | (rw [bytesF_yes (by assumption)]; done) | (rw [bytesF_yes (by assumption)]; rfl)) | (show (_ : List UInt8) = _; first | (rw [bytesF_no (by assumption)]; done) | (rw [bytesF_yes (by assumption)]; done) | (rw [bytesF_yes (by assumption)]; rfl)) | (show (_ : Int) = _; first | (rw [bytesE_no (by assumption)]; done) | (rw [bytesE_yes (by assumption)]; done))), rfl⟩, ⟨le_int (by first | with_reducible rfl | (show (_ : Nat) = _; first | (rw [bytesF_no (by assumption)]; done) | (rw [bytesF_no (by assumption)]; rfl) | (rw [bytesF_yes (by assumption)]; done) | (rw [bytesF_yes (by assumption)]; rfl)) | (show (_ : List UInt8) = _; first | (rw [bytesF_no (by assumption)]; done) | (rw [bytesF_yes (by assumption)]; done) | (rw [bytesF_yes (by assumption)]; rfl)) | (show (_ : Int) = _; first | (rw [bytesE_no (by assumption)]; done) | (rw [bytesE_yes (by assumption)]; done))), trivial⟩, trivial⟩, ⟨⟨_, rfl, .inl (ob_bs (by first | rfl | ((try dsimp only); (first | with_reducible rfl | (show (_ : Nat) = _; first | (rw [bytesF_no (by assumption)]; done) | (rw [bytesF_no (by assumption)]; rfl) | (rw [bytesF_yes (by assumption)]; done) | (rw [bytesF_yes (by assumption)]; rfl)) | (show (_ : List UInt8) = _; first | (rw [bytesF_no (by assumption)]; done) | (rw [bytesF_yes (by assumption)]; done) | (rw [bytesF_yes (by assumption)]; rfl)) | (show (_ : Int) = _; first | (rw [bytesE_no (by assumption)]; done) | (rw [bytesE_yes (by assumption)]; done))))) (by first | rfl | ((try dsimp only); (first | with_reducible rfl | (show (_ : Nat) = _; first | (rw [bytesF_no (by assumption)]; done) | (rw [bytesF_no (by assumption)]; rfl) | (rw [bytesF_yes (by assumption)]; done) | (rw [bytesF_yes (by assumption)]; rfl)) | (show (_ : List UInt8) = _; first | (rw [bytesF_no (by assumption)]; done) | (rw [bytesF_yes (by assumption)]; done) | (rw [bytesF_yes (by assumption)]; rfl)) | (show (_ : Int) = _; first | (rw [bytesE_no (by assumption)]; done) | (rw [bytesE_yes (by assumption)]; done)))))), trivial⟩, trivial⟩⟩
 ·have h2 := of_decide_eq_true (bnF h2)
  refine HT.skip ?_
  show HT _ _ _ _ _
  refine HT.seq ?_
  refine HT.region S_fbytes_ok ?_
  refine So.n (lk rfl) (A.bldG ty54 rfl trivial rfl rfl ?_)
  refine So.n (lk rfl) (A.boxG 2 1 [.p (.v (.slice none 0 0))] rfl (by intro j hj; match j, hj with | 0, _ => (first | exact trivial | exact rfl)) rfl (by intro j hj; match j, hj with | 0, _ => rfl) rfl trivial ?_)
  refine So.q rfl rfl (V.as (v := .ptr 2 0) rfl ?_)
  refine So.e ?_
  show HT _ _ _ _ _
  refine HT.seq ?_
  refine HT.phanC 2 3 5 1 (.bs []) (c' := .cells [.own 3 0 0]) rfl rfl rfl ⟨rfl, rfl⟩ rfl (allP_spec (P := fun j => _ ∨ _) ⟨trivial, .inr ⟨rfl, rfl⟩⟩) rfl ?_
  show HT _ _ _ _ _
  refine HT.region S_fbytes_ok ?_
  refine So.q rfl rfl (V.mv (v := .ptr 2 0) rfl ?_)
  refine So.q rfl rfl (V.ldPtrA ty24 rfl rfl rfl rfl (lk rfl) ?_)
  refine So.n (lk rfl) (A.call0 [.agg 5 _] 4 rfl rfl rfl rfl ⟨trivial, trivial⟩ trivial (g, ep, fr, kd, bd) ⟨le_agg (fun j hj => by match j, hj with | 0, _ => rfl | 1, _ => rfl | 2, _ => rfl | 3, _ => rfl | 4, _ => rfl), trivial⟩ trivial (by trivial) (Φ := fun _ => True) (fun _ _ => trivial) (.inl rfl) (v := .agg 3 _) rfl (O' := _) rfl (fun h3 => ?_))
  refine So.n (lk rfl) (A.call [.ptr 1 _, .agg 3 _] [(1, ⟨_, _, _, _, .cells [.own 2 0 _]⟩), (2, ⟨_, _, _, _, .bs _⟩)] (sg [(1, 2), (2, 3)]) 4 rfl rfl rfl rfl ⟨rfl, rfl, trivial⟩ rfl ⟨⟨rfl, trivial⟩, trivial, trivial⟩ ⟨rfl, trivial, trivial⟩ trivial rfl (nl, g, ep, fr) ⟨.refl _, .refl _, trivial⟩ ⟨⟨_, rfl, .inl rfl, ⟨rfl, trivial⟩⟩, ⟨_, rfl, .inl rfl, trivial⟩, trivial⟩ (by first | omega | (simp only [List.drop_zero, List.take_length]; omega) | (simp; done) | (simp; omega)) (Φ := fun _ => True) (fun _ _ => trivial) ⟨⟨_, _, rfl, rfl, rfl, Nat.le_refl _⟩, trivial⟩ (.inl rfl) rfl (v := .tup 0 _) rfl (O' := (2, ⟨_, _, _, _, .cells _⟩) :: (6, ⟨_, _, _, _, .bs _⟩) :: _) rfl (fun h4 => ?_))
  refine So.e ?_
  show HT _ _ _ _ _
  refine HT.seq ?_
  refine R.tell [] [(2, ⟨54, 1, 1, true, .cells [.own 6 (0) ((txF g ++ nuF ep 8 ++ nuF fr 4).length)]⟩), (6, ⟨5, 1, (txF g ++ nuF ep 8 ++ nuF fr 4).length, true, .bs (txF g ++ nuF ep 8 ++ nuF fr 4)⟩)] [1, 2, 3, 4] [1] (fr0 := [(1, .ptr 1 0), (2, .p (.v (.slice none 0 0))), (3, .p (.v (.int .i64 _))), (4, .ptr 2 0)]) (O0 := [(1, ⟨_, _, _, _, .rows _⟩)]) rfl rfl ⟨⟨⟨.refl _, rfl⟩, ⟨.refl _, trivial⟩, ⟨.refl _, trivial⟩, ⟨.refl _, rfl⟩, trivial⟩, ⟨⟨_, rfl, .inl (by first | rfl | (simp only [nl, List.nil_append]; rfl) | (simp only [nl, List.nil_append])), ⟨rfl, trivial⟩⟩, ⟨_, rfl, .inl (ob_bs (by first | rfl | (simp only [nl, List.nil_append]; rfl) | (simp only [nl, List.nil_append])) (by first | rfl | (simp only [nl, List.nil_append]; rfl) | (simp only [nl, List.nil_append]))), trivial⟩, ⟨_, rfl, .inl rfl, trivial⟩, trivial⟩⟩ ?_
  show HT _ _ _ _ _
  refine HT.region S_fbytes_ok ?_
  refine So.q rfl rfl (V.mv (v := .ptr 2 0) rfl ?_)
  refine So.q rfl rfl (V.faPtr ty24 rfl ty3 (lk rfl) rfl rfl (lk rfl) ?_)
  refine So.q rfl rfl (V.ldPtr ty3 rfl rfl rfl (lk rfl) (v := .p (.v (.int .i64 _))) rfl ?_)
  refine So.n (lk rfl) (A.call [.ptr 1 _, .p (.v (.int .i64 _)), .p (.v (.int .i64 _))] [(1, ⟨_, _, _, _, .cells [.own 2 0 _]⟩), (2, ⟨_, _, _, _, .bs _⟩)] (sg [(1, 2), (2, 6)]) 7 rfl rfl rfl rfl ⟨rfl, rfl, trivial⟩ rfl ⟨⟨rfl, trivial⟩, trivial, trivial⟩ ⟨rfl, trivial, trivial, trivial⟩ trivial rfl (txF g ++ nuF ep 8 ++ nuF fr 4, kd, 1) ⟨.refl _, .refl _, .refl _, trivial⟩ ⟨⟨_, rfl, .inl rfl, ⟨rfl, trivial⟩⟩, ⟨_, rfl, .inl rfl, trivial⟩, trivial⟩ (by first | omega | (simp only [List.drop_zero, List.take_length]; omega) | (simp; done) | (simp; omega)) (Φ := fun _ => True) (fun _ _ => trivial) ⟨⟨_, _, rfl, rfl, rfl, Nat.le_refl _⟩, trivial⟩ (.inl rfl) rfl (v := .tup 0 _) rfl (O' := (2, ⟨_, _, _, _, .cells _⟩) :: (9, ⟨_, _, _, _, .bs _⟩) :: _) rfl (fun h5 => ?_))
  refine So.e ?_
  show HT _ _ _ _ _
  refine HT.seq ?_
  refine HT.region S_fbytes_ok ?_
  refine So.q rfl rfl (V.mv (v := .ptr 2 0) rfl ?_)
  refine So.q rfl rfl (V.faPtr ty24 rfl ty22 (lk rfl) rfl rfl (lk rfl) ?_)
  refine So.q rfl rfl (V.ldPtr ty22 rfl rfl rfl (lk rfl) (v := .p (.bs _)) rfl ?_)
  refine So.n (lk rfl) (A.bsl 10 ty51 ty22 rfl (lk rfl) (lk rfl) (fun _ => rfl) rfl rfl trivial ⟨trivial, trivial⟩ rfl (N := 1) rfl (c := .rows _) rfl ?_)
  refine So.n (lk rfl) (A.call [.ptr 1 _, .p (.sl _ _ _)] [(1, ⟨_, _, _, _, .cells [.own 2 0 _]⟩), (2, ⟨_, _, _, _, .bs _⟩)] (sg [(1, 2), (2, 9)]) 11 rfl rfl rfl rfl ⟨rfl, rfl, trivial⟩ rfl ⟨⟨rfl, trivial⟩, trivial, trivial⟩ ⟨rfl, trivial, trivial⟩ trivial rfl (txF g ++ nuF ep 8 ++ nuF fr 4 ++ nuF kd 1, [bd]) ⟨.refl _, le_sl rfl (by intro j hj; match j, hj with | 0, _ => rfl), trivial⟩ ⟨⟨_, rfl, .inl rfl, ⟨rfl, trivial⟩⟩, ⟨_, rfl, .inl rfl, trivial⟩, trivial⟩ (by first | omega | (simp only [List.drop_zero, List.take_length]; omega) | (simp; done) | (simp; omega)) (Φ := fun _ => True) (fun _ _ => trivial) ⟨⟨_, _, rfl, rfl, rfl, Nat.le_refl _⟩, trivial⟩ (.inr ⟨fun _ hj => absurd hj (Nat.not_lt_zero _), by simp [Hp.scal, OC.scal, PV.scal, BV.scal]⟩) rfl (v := .tup 0 _) rfl (O' := (2, ⟨_, _, _, _, .cells _⟩) :: (13, ⟨_, _, _, _, .bs _⟩) :: _) rfl (fun h6 => ?_))
  refine So.e ?_
  show HT _ _ _ _ _
  refine HT.seq ?_
  refine R.tell [] [(2, ⟨54, 1, 1, true, .cells [.own 13 (0) ((bodyF g ep fr kd bd).length)]⟩), (13, ⟨5, 1, (bodyF g ep fr kd bd).length, true, .bs (bodyF g ep fr kd bd)⟩)] [2, 3, 4] [] (fr0 := [(2, .p (.v (.slice none 0 0))), (3, .p (.v (.int .i64 _))), (4, .ptr 2 0)]) (O0 := []) rfl rfl ⟨⟨⟨.refl _, trivial⟩, ⟨.refl _, trivial⟩, ⟨.refl _, rfl⟩, trivial⟩, ⟨⟨_, rfl, .inl (by first | rfl | (rw [txL_1]; rfl) | (rw [txL_1])), ⟨rfl, trivial⟩⟩, ⟨_, rfl, .inl (ob_bs (by first | rfl | (rw [txL_1]; rfl) | (rw [txL_1])) (by first | rfl | (rw [txL_1]; rfl) | (rw [txL_1]))), trivial⟩, trivial⟩⟩ ?_
  show HT _ _ _ _ _
  refine HT.region S_fbytes_ok ?_
  refine So.q rfl rfl (V.mv (v := .ptr 2 0) rfl ?_)
  refine So.q rfl rfl (V.ncPtr rfl ?_)
  refine So.q rfl rfl (V.faPtr ty54 rfl ty22 (lk rfl) rfl rfl (lk rfl) ?_)
  refine So.q rfl rfl (V.ldPtr ty22 rfl rfl rfl (lk rfl) (v := .own 13 0 _) rfl ?_)
  refine So.q rfl rfl (V.as (v := .own 13 0 _) rfl ?_)
  refine So.q rfl rfl (V.as (v := .p (.v (.int .i64 (0)))) rfl ?_)
  refine So.e ?_
  show HT _ _ _ _ _
  refine HT.ret ?_
  exact ret_ok (sg [(2, 13)]) h rfl rfl rfl ⟨trivial, trivial⟩ ⟨rfl, trivial, trivial⟩ rfl ⟨⟨⟨le_own2 (by first | rfl | omega) (by first | with_reducible rfl | (show (_ : Nat) = _; first | (rw [bytesF_no (by assumption)]; done) | (rw [bytesF_no (by assumption)]; rfl) | (rw [bytesF_yes (by assumption)]; done) | (rw [bytesF_yes (by assumption)]; rfl)) | (show (_ : List UInt8) = _; first | (rw [bytesF_no (by assumption)]; done) | (rw [bytesF_yes (by assumption)]; done) | (rw [bytesF_yes (by assumption)]; rfl)) | (show (_ : Int) = _; first | (rw [bytesE_no (by assumption)]; done) | (rw [bytesE_yes (by assumption)]; done))), rfl⟩, ⟨le_int (by first | with_reducible rfl | (show (_ : Nat) = _; first | (rw [bytesF_no (by assumption)]; done) | (rw [bytesF_no (by assumption)]; rfl) | (rw [bytesF_yes (by assumption)]; done) | (rw [bytesF_yes (by assumption)]; rfl)) | (show (_ : List UInt8) = _; first | (rw [bytesF_no (by assumption)]; done) | (rw [bytesF_yes (by assumption)]; done) | (rw [bytesF_yes (by assumption)]; rfl)) | (show (_ : Int) = _; first | (rw [bytesE_no (by assumption)]; done) | (rw [bytesE_yes (by assumption)]; done))), trivial⟩, trivial⟩, ⟨⟨_, rfl, .inl (ob_bs (by first | rfl | ((try dsimp only); (first | with_reducible rfl | (show (_ : Nat) = _; first | (rw [bytesF_no (by assumption)]; done) | (rw [bytesF_no (by assumption)]; rfl) | (rw [bytesF_yes (by assumption)]; done) | (rw [bytesF_yes (by assumption)]; rfl)) | (show (_ : List UInt8) = _; first | (rw [bytesF_no (by assumption)]; done) | (rw [bytesF_yes (by assumption)]; done) | (rw [bytesF_yes (by assumption)]; rfl)) | (show (_ : Int) = _; first | (rw [bytesE_no (by assumption)]; done) | (rw [bytesE_yes (by assumption)]; done))))) (by first | rfl | ((try dsimp only); (first | with_reducible rfl | (show (_ : Nat) = _; first | (rw [bytesF_no (by assumption)]; done) | (rw [bytesF_no (by assumption)]; rfl) | (rw [bytesF_yes (by assumption)]; done) | (rw [bytesF_yes (by assumption)]; rfl)) | (show (_ : List UInt8) = _; first | (rw [bytesF_no (by assumption)]; done) | (rw [bytesF_yes (by assumption)]; done) | (rw [bytesF_yes (by assumption)]; rfl)) | (show (_ : Int) = _; first | (rw [bytesE_no (by assumption)]; done) | (rw [bytesE_yes (by assumption)]; done)))))), trivial⟩, trivial⟩⟩
end Go.Vh

set_option linter.unusedVariables false
set_option linter.unusedSimpArgs false
namespace Go.Vh
open Go Go.Vc Go.Proofs Go.Vw
def fputSp : Sp := ⟨[], mkE (α := (List UInt8) × Int × Int × Int × (List UInt8) × (List UInt8) × (List UInt8) × (List UInt8)) (fun (g, ep, fr, kd, bd, sn, cf, mb) => [.agg 8 (fun j => ([.bs g, .v (.int .i64 ep), .v (.int .i64 fr), .v (.int .i64 kd), .bs bd, .bs sn, .bs cf, .bs mb] : List PV).getD j (.v undef))]) (fun (g, ep, fr, kd, bd, sn, cf, mb) => []) (fun (g, ep, fr, kd, bd, sn, cf, mb) => True) (fun (g, ep, fr, kd, bd, sn, cf, mb) => [.own 2 (0) ((putF g ep fr kd bd sn cf mb).length), .p (.v (.int .i64 (putE g ep fr kd bd sn cf mb)))]) (fun (g, ep, fr, kd, bd, sn, cf, mb) => [(2, ⟨5, 1, (putF g ep fr kd bd sn cf mb).length, true, .bs (putF g ep fr kd bd sn cf mb)⟩)])⟩
def S_fput : FuncId → Option Sp := fun f => if f = 24 then some fmsgSp else if f = 23 then some fbytesSp else if f = 25 then some wtextSp else none
theorem S_fput_ok : ∀ f s, S_fput f = some s → FOK Tryd.prog gl f s := fun f s h => by
 unfold S_fput at h
 split at h
 ·rename_i e; cases h; subst e; exact fmsg_ok
 split at h
 ·rename_i e; cases h; subst e; exact fbytes_ok
 split at h
 ·rename_i e; cases h; subst e; exact wtext_ok
 cases h
set_option maxHeartbeats 1000000 in
set_option maxRecDepth 20000 in
theorem fput_ok : FOK Tryd.prog gl 10 fputSp := by
 refine FOK.ofE (tyOf_ok Tryd.prog) (slots := [2, 3]) (nt := 32) Tryd.func10 rfl rfl rfl rfl (by decide) 1 (fun ⟨_, _, _, _, _, _, _, _⟩ => rfl) (by decide) (fun ⟨_, _, _, _, _, _, _, _⟩ => ⟨trivial, trivial⟩) ?_
 rintro ⟨g, ep, fr, kd, bd, sn, cf, mb⟩ kk hlen hpre h
 replace hpre : True := hpre
 show HT (cx Tryd.prog 32 (tyOf Tryd.prog) gl []) _ [(0, .agg 8 (fun j => ([.bs g, .v (.int .i64 ep), .v (.int .i64 fr), .v (.int .i64 kd), .bs bd, .bs sn, .bs cf, .bs mb] : List PV).getD j (.v undef)))] [] _
 have hbl := body_len g ep fr kd bd
 refine HT.seq ?_
 refine HT.region S_fput_ok ?_
 refine So.n (lk rfl) (A.boxAg 1 1 (n := 8) rfl (by intro j hj; first | rfl | trivial | (match j, hj with | 0, _ => (first | trivial | rfl) | 1, _ => (first | trivial | rfl) | 2, _ => (first | trivial | rfl) | 3, _ => (first | trivial | rfl) | 4, _ => (first | trivial | rfl) | 5, _ => (first | trivial | rfl) | 6, _ => (first | trivial | rfl) | 7, _ => (first | trivial | rfl)) | (split <;> first | rfl | trivial | (split <;> first | rfl | trivial))) rfl trivial ?_)
 refine So.q rfl rfl (V.as (v := .p (.v (.slice none 0 0))) rfl ?_)
 refine So.q rfl rfl (V.as (v := .p (.v (.int .i64 (0)))) rfl ?_)
 refine So.e ?_
 show HT _ _ _ _ _
 refine HT.seq ?_
 refine HT.seq ?_
 refine HT.region S_fput_ok ?_
 refine So.q rfl rfl (V.ldPtrA ty26 rfl rfl rfl rfl (lk rfl) ?_)
 refine So.n (lk rfl) (A.call0 [.agg 8 _] 2 rfl rfl rfl rfl ⟨trivial, trivial⟩ trivial (g, ep, fr, kd, bd, sn, cf, mb) ⟨le_agg (fun j hj => by match j, hj with | 0, _ => rfl | 1, _ => rfl | 2, _ => rfl | 3, _ => rfl | 4, _ => rfl | 5, _ => rfl | 6, _ => rfl | 7, _ => rfl), trivial⟩ trivial (by trivial) (Φ := fun _ => True) (fun _ _ => trivial) (.inl rfl) (v := .p (.v (.bool _))) rfl (O' := _) rfl (fun h1 => ?_))
 refine So.q rfl rfl (V.not rfl ?_)
 refine So.e ?_
 show HT _ _ _ _ _
 refine R.cond rfl rfl (fun h2 => ?_) (fun h2 => ?_)
 ·have h2 := of_decide_eq_false (bnT h2)
  refine HT.seq ?_
  refine HT.region S_fput_ok ?_
  refine So.q rfl rfl (V.as (v := .p (.v (.slice none 0 0))) rfl ?_)
  refine So.q rfl rfl (V.as (v := .p (.v (.int .i64 (181)))) rfl ?_)
  refine So.e ?_
  show HT _ _ _ _ _
  refine R.phan 2 2 5 1 (.bs []) rfl rfl rfl ⟨rfl, rfl⟩ ?_
  refine HT.ret ?_
  exact ret_ok (sg [(2, 2)]) h rfl rfl rfl ⟨trivial, trivial⟩ ⟨rfl, trivial, trivial⟩ rfl ⟨⟨⟨le_own2 (by first | rfl | omega) (by first | with_reducible rfl | (show (_ : Nat) = _; first | (rw [putF_no (by assumption)]; done) | (rw [putF_no (by assumption)]; rfl) | (rw [putF_yes (by assumption)]; done) | (rw [putF_yes (by assumption)]; rfl)) | (show (_ : List UInt8) = _; first | (rw [putF_no (by assumption)]; done) | (rw [putF_yes (by assumption)]; done) | (rw [putF_yes (by assumption)]; rfl)) | (show (_ : Int) = _; first | (rw [putE_no (by assumption)]; done) | (rw [putE_yes (by assumption)]; done))), rfl⟩, ⟨le_int (by first | with_reducible rfl | (show (_ : Nat) = _; first | (rw [putF_no (by assumption)]; done) | (rw [putF_no (by assumption)]; rfl) | (rw [putF_yes (by assumption)]; done) | (rw [putF_yes (by assumption)]; rfl)) | (show (_ : List UInt8) = _; first | (rw [putF_no (by assumption)]; done) | (rw [putF_yes (by assumption)]; done) | (rw [putF_yes (by assumption)]; rfl)) | (show (_ : Int) = _; first | (rw [putE_no (by assumption)]; done) | (rw [putE_yes (by assumption)]; done))), trivial⟩, trivial⟩, ⟨⟨_, rfl, .inl (ob_bs (by first | rfl | ((try dsimp only); (first | with_reducible rfl | (show (_ : Nat) = _; first | (rw [putF_no (by assumption)]; done) | (rw [putF_no (by assumption)]; rfl) | (rw [putF_yes (by assumption)]; done) | (rw [putF_yes (by assumption)]; rfl)) | (show (_ : List UInt8) = _; first | (rw [putF_no (by assumption)]; done) | (rw [putF_yes (by assumption)]; done) | (rw [putF_yes (by assumption)]; rfl)) | (show (_ : Int) = _; first | (rw [putE_no (by assumption)]; done) | (rw [putE_yes (by assumption)]; done))))) (by first | rfl | ((try dsimp only); (first | with_reducible rfl | (show (_ : Nat) = _; first | (rw [putF_no (by assumption)]; done) | (rw [putF_no (by assumption)]; rfl) | (rw [putF_yes (by assumption)]; done) | (rw [putF_yes (by assumption)]; rfl)) | (show (_ : List UInt8) = _; first | (rw [putF_no (by assumption)]; done) | (rw [putF_yes (by assumption)]; done) | (rw [putF_yes (by assumption)]; rfl)) | (show (_ : Int) = _; first | (rw [putE_no (by assumption)]; done) | (rw [putE_yes (by assumption)]; done)))))), trivial⟩, trivial⟩⟩
 ·have h2 := of_decide_eq_true (bnF h2)
  refine HT.skip ?_
  show HT _ _ _ _ _
  refine HT.seq ?_
  refine HT.region S_fput_ok ?_
  refine So.q rfl rfl (V.faPtr ty26 rfl ty24 (lk rfl) rfl rfl (lk rfl) ?_)
  refine So.q rfl rfl (V.ldPtrA ty24 rfl rfl rfl rfl (lk rfl) ?_)
  refine So.n (lk rfl) (A.call0 [.agg 5 _] 2 rfl rfl rfl rfl ⟨trivial, trivial⟩ trivial (g, ep, fr, kd, bd) ⟨le_agg (fun j hj => by match j, hj with | 0, _ => rfl | 1, _ => rfl | 2, _ => rfl | 3, _ => rfl | 4, _ => rfl), trivial⟩ trivial (by trivial) (Φ := fun _ => True) (fun _ _ => trivial) (.inl rfl) (v := .tup 2 _) rfl (O' := (4, ⟨5, 1, _, true, .bs _⟩) :: _) rfl (fun h3 => ?_))
  refine So.q rfl rfl (V.mv (v := .tup 2 _) rfl ?_)
  refine So.q rfl rfl (V.ext rfl (lk rfl) (v := .own 4 0 _) rfl ?_)
  refine So.q rfl rfl (V.ext rfl (lk rfl) (v := .p (.v (.int .i64 _))) rfl ?_)
  refine So.q rfl rfl (V.as (v := .own 4 0 _) rfl ?_)
  refine So.q rfl rfl (V.as (v := .p (.v (.int .i64 _))) rfl ?_)
  refine So.e ?_
  show HT _ _ _ _ _
  refine HT.seq ?_
  refine HT.region S_fput_ok ?_
  refine So.n (lk rfl) (A.bldG ty54 rfl trivial rfl rfl ?_)
  refine So.n (lk rfl) (A.boxG 5 1 [.p (.v (.slice none 0 0))] rfl (by intro j hj; match j, hj with | 0, _ => (first | exact trivial | exact rfl)) rfl (by intro j hj; match j, hj with | 0, _ => rfl) rfl trivial ?_)
  refine So.q rfl rfl (V.as (v := .ptr 5 0) rfl ?_)
  refine So.e ?_
  show HT _ _ _ _ _
  refine HT.seq ?_
  refine HT.phanC 5 6 5 1 (.bs []) (c' := .cells [.own 6 0 0]) rfl rfl rfl ⟨rfl, rfl⟩ rfl (allP_spec (P := fun j => _ ∨ _) ⟨trivial, .inr ⟨rfl, rfl⟩⟩) rfl ?_
  show HT _ _ _ _ _
  refine HT.region S_fput_ok ?_
  refine So.q rfl rfl (V.mv (v := .ptr 5 0) rfl ?_)
  refine So.q rfl rfl (V.mv (v := .own 4 0 _) rfl ?_)
  refine So.q rfl rfl (V.faPtr ty26 rfl ty22 (lk rfl) rfl rfl (lk rfl) ?_)
  refine So.q rfl rfl (V.ldPtr ty22 rfl rfl rfl (lk rfl) (v := .p (.bs _)) rfl ?_)
  refine So.q rfl rfl (V.faPtr ty26 rfl ty22 (lk rfl) rfl rfl (lk rfl) ?_)
  refine So.q rfl rfl (V.ldPtr ty22 rfl rfl rfl (lk rfl) (v := .p (.bs _)) rfl ?_)
  refine So.q rfl rfl (V.faPtr ty26 rfl ty22 (lk rfl) rfl rfl (lk rfl) ?_)
  refine So.q rfl rfl (V.ldPtr ty22 rfl rfl rfl (lk rfl) (v := .p (.bs _)) rfl ?_)
  refine So.n (lk rfl) (A.bsl 7 ty51 ty22 rfl (lk rfl) (lk rfl) (fun _ => rfl) rfl rfl trivial ⟨trivial, trivial, trivial, trivial, trivial⟩ rfl (N := 4) rfl (c := .rows _) rfl ?_)
  refine So.n (lk rfl) (A.call [.ptr 1 _, .p (.sl _ _ _)] [(1, ⟨_, _, _, _, .cells [.own 2 0 _]⟩), (2, ⟨_, _, _, _, .bs _⟩)] (sg [(1, 5), (2, 6)]) 8 rfl rfl rfl rfl ⟨rfl, rfl, trivial⟩ rfl ⟨⟨rfl, trivial⟩, trivial, trivial⟩ ⟨rfl, trivial, trivial⟩ trivial rfl (nl, [bytesF g ep fr kd bd, sn, cf, mb]) ⟨.refl _, le_sl rfl (by intro j hj; match j, hj with | 0, _ => exact congrArg PV.bs (take_full _) | 1, _ => rfl | 2, _ => rfl | 3, _ => rfl), trivial⟩ ⟨⟨_, rfl, .inl rfl, ⟨rfl, trivial⟩⟩, ⟨_, rfl, .inl rfl, trivial⟩, trivial⟩ (by first | omega | (simp only [List.drop_zero, List.take_length]; omega) | (simp; done) | (simp; omega)) (Φ := fun _ => True) (fun _ _ => trivial) ⟨⟨_, _, rfl, rfl, rfl, Nat.le_refl _⟩, trivial⟩ (.inr ⟨fun _ hj => absurd hj (Nat.not_lt_zero _), by simp [Hp.scal, OC.scal, PV.scal, BV.scal]⟩) rfl (v := .tup 0 _) rfl (O' := (5, ⟨_, _, _, _, .cells _⟩) :: (10, ⟨_, _, _, _, .bs _⟩) :: _) rfl (fun h4 => ?_))
  refine So.e ?_
  show HT _ _ _ _ _
  refine HT.seq ?_
  refine R.tell [] [(5, ⟨54, 1, 1, true, .cells [.own 10 (0) ((txF (bodyF g ep fr kd bd) ++ txF sn ++ txF cf ++ txF mb).length)]⟩), (10, ⟨5, 1, (txF (bodyF g ep fr kd bd) ++ txF sn ++ txF cf ++ txF mb).length, true, .bs (txF (bodyF g ep fr kd bd) ++ txF sn ++ txF cf ++ txF mb)⟩)] [2, 3, 6] [] (fr0 := [(2, .p (.v (.slice none 0 0))), (3, .p (.v (.int .i64 _))), (6, .ptr 5 0)]) (O0 := []) rfl rfl ⟨⟨⟨.refl _, trivial⟩, ⟨.refl _, trivial⟩, ⟨.refl _, rfl⟩, trivial⟩, ⟨⟨_, rfl, .inl (by first | rfl | (rw [put_txL (by assumption)]; rfl) | (rw [put_txL (by assumption)])), ⟨rfl, trivial⟩⟩, ⟨_, rfl, .inl (ob_bs (by first | rfl | (rw [put_txL (by assumption)]; rfl) | (rw [put_txL (by assumption)])) (by first | rfl | (rw [put_txL (by assumption)]; rfl) | (rw [put_txL (by assumption)]))), trivial⟩, trivial⟩⟩ ?_
  show HT _ _ _ _ _
  refine HT.region S_fput_ok ?_
  refine So.q rfl rfl (V.mv (v := .ptr 5 0) rfl ?_)
  refine So.q rfl rfl (V.ncPtr rfl ?_)
  refine So.q rfl rfl (V.faPtr ty54 rfl ty22 (lk rfl) rfl rfl (lk rfl) ?_)
  refine So.q rfl rfl (V.ldPtr ty22 rfl rfl rfl (lk rfl) (v := .own 10 0 _) rfl ?_)
  refine So.q rfl rfl (V.as (v := .own 10 0 _) rfl ?_)
  refine So.q rfl rfl (V.as (v := .p (.v (.int .i64 (0)))) rfl ?_)
  refine So.e ?_
  show HT _ _ _ _ _
  refine HT.ret ?_
  exact ret_ok (sg [(2, 10)]) h rfl rfl rfl ⟨trivial, trivial⟩ ⟨rfl, trivial, trivial⟩ rfl ⟨⟨⟨le_own2 (by first | rfl | omega) (by first | with_reducible rfl | (show (_ : Nat) = _; first | (rw [putF_no (by assumption)]; done) | (rw [putF_no (by assumption)]; rfl) | (rw [putF_yes (by assumption)]; done) | (rw [putF_yes (by assumption)]; rfl)) | (show (_ : List UInt8) = _; first | (rw [putF_no (by assumption)]; done) | (rw [putF_yes (by assumption)]; done) | (rw [putF_yes (by assumption)]; rfl)) | (show (_ : Int) = _; first | (rw [putE_no (by assumption)]; done) | (rw [putE_yes (by assumption)]; done))), rfl⟩, ⟨le_int (by first | with_reducible rfl | (show (_ : Nat) = _; first | (rw [putF_no (by assumption)]; done) | (rw [putF_no (by assumption)]; rfl) | (rw [putF_yes (by assumption)]; done) | (rw [putF_yes (by assumption)]; rfl)) | (show (_ : List UInt8) = _; first | (rw [putF_no (by assumption)]; done) | (rw [putF_yes (by assumption)]; done) | (rw [putF_yes (by assumption)]; rfl)) | (show (_ : Int) = _; first | (rw [putE_no (by assumption)]; done) | (rw [putE_yes (by assumption)]; done))), trivial⟩, trivial⟩, ⟨⟨_, rfl, .inl (ob_bs (by first | rfl | ((try dsimp only); (first | with_reducible rfl | (show (_ : Nat) = _; first | (rw [putF_no (by assumption)]; done) | (rw [putF_no (by assumption)]; rfl) | (rw [putF_yes (by assumption)]; done) | (rw [putF_yes (by assumption)]; rfl)) | (show (_ : List UInt8) = _; first | (rw [putF_no (by assumption)]; done) | (rw [putF_yes (by assumption)]; done) | (rw [putF_yes (by assumption)]; rfl)) | (show (_ : Int) = _; first | (rw [putE_no (by assumption)]; done) | (rw [putE_yes (by assumption)]; done))))) (by first | rfl | ((try dsimp only); (first | with_reducible rfl | (show (_ : Nat) = _; first | (rw [putF_no (by assumption)]; done) | (rw [putF_no (by assumption)]; rfl) | (rw [putF_yes (by assumption)]; done) | (rw [putF_yes (by assumption)]; rfl)) | (show (_ : List UInt8) = _; first | (rw [putF_no (by assumption)]; done) | (rw [putF_yes (by assumption)]; done) | (rw [putF_yes (by assumption)]; rfl)) | (show (_ : Int) = _; first | (rw [putE_no (by assumption)]; done) | (rw [putE_yes (by assumption)]; done)))))), trivial⟩, trivial⟩⟩
end Go.Vh

set_option linter.unusedVariables false
set_option linter.unusedSimpArgs false
namespace Go.Vh
open Go Go.Vc Go.Proofs Go.Vw
def padcSp : Sp := ⟨[1], mkE (α := UInt8 × (List UInt8)) (fun (c, k) => [.p (.u8 (c)), .ptr 1 (0)]) (fun (c, k) => [(1, ⟨22, 1, 1, true, .cells [.p (.bs (k))]⟩)]) (fun (c, k) => k.length ≤ 64) (fun (c, k) => [.own 2 (0) (64)]) (fun (c, k) => [(1, ⟨22, 1, 1, true, .cells [.p (.bs (k))]⟩), (2, ⟨5, 1, 64, true, .bs (padF k c)⟩)])⟩
def S_padc : FuncId → Option Sp := fun _ => none
theorem S_padc_ok : ∀ f s, S_padc f = some s → FOK Tryd.prog gl f s := fun f s h => by cases h
set_option maxHeartbeats 1000000 in
set_option maxRecDepth 1000 in
theorem padc_ok : FOK Tryd.prog gl 54 padcSp := by
 refine FOK.ofE (tyOf_ok Tryd.prog) (slots := [3]) (nt := 24) Tryd.func54 rfl rfl rfl rfl (by decide) 2 (fun ⟨_, _⟩ => rfl) (by decide) (fun ⟨_, _⟩ => ⟨trivial, rfl, trivial⟩) ?_
 rintro ⟨c, k⟩ kk hlen hpre h
 replace hpre : k.length ≤ 64 := hpre
 show HT (cx Tryd.prog 24 (tyOf Tryd.prog) gl [1]) _ [(0, .p (.u8 (c))), (1, .ptr 1 (0))] [(1, ⟨22, 1, 1, true, .cells [.p (.bs (k))]⟩)] _
 refine HT.seq ?_
 refine HT.region S_padc_ok ?_
 refine So.q rfl rfl (V.as (v := .p (.v (.slice none 0 0))) rfl ?_)
 refine So.e ?_
 show HT _ _ _ _ _
 refine HT.seq ?_
 refine HT.region S_padc_ok ?_
 refine So.n (lk rfl) (A.mkB 2 ty22 ty5 rfl rfl rfl (by omega) rfl rfl ⟨lk rfl, trivial⟩ ?_)
 refine So.q rfl rfl (V.as (v := .own 2 0 _) rfl ?_)
 refine So.e ?_
 show HT _ _ _ _ _
 refine HT.seq ?_
 refine HT.region S_padc_ok ?_
 refine So.q rfl rfl (V.mv (v := .own 2 0 _) rfl ?_)
 refine So.q rfl rfl (V.ldPtr ty22 rfl rfl rfl (lk rfl) (v := .p (.bs _)) rfl ?_)
 refine So.n (lk rfl) (A.cpy ty22 rfl rfl rfl rfl rfl (l' := padL k c 0) (by exact padL_0 hpre c) rfl ?_)
 refine So.e ?_
 show HT _ _ _ _ _
 refine HT.seq ?_
 refine HT.seq ?_
 refine HT.region S_padc_ok ?_
 refine So.q rfl rfl (V.mv (v := .own 2 0 _) rfl ?_)
 refine So.q rfl rfl (V.len ty22 (v := .own 2 0 _) rfl rfl ?_)
 refine So.q rfl rfl (V.mv (v := .p (.v (.int .i64 (0)))) rfl ?_)
 refine So.e ?_
 show HT _ _ _ _ _
 refine HT.block ?_
 refine R.loop (σ := Nat) (fun s => [(12, .p (.v (.int .i64 ((s : Int)))))]) (fun s => [(2, ⟨5, 1, 64, true, .bs (padL k c s)⟩)]) [0, 3, 4, 11] [1] (fun s => s ≤ 64) (fun s => 64 - s) (0) (fr0 := [(0, .p (.u8 _)), (3, .p (.v (.slice none 0 0))), (4, .own 2 0 _), (11, .p (.v (.int .i64 _)))]) (O0 := [(1, ⟨_, _, _, _, .cells _⟩)]) rfl rfl (by first | rfl | omega | (simp; done) | (simp; omega)) ⟨⟨⟨le_int (by first | rfl | omega), trivial⟩, ⟨.refl _, trivial⟩, ⟨.refl _, trivial⟩, ⟨.refl _, rfl⟩, ⟨.refl _, trivial⟩, trivial⟩, ⟨⟨_, rfl, .inl (ob_bs (by first | rfl | ((try dsimp only); first | rfl | omega)) (by first | rfl | ((try dsimp only); first | rfl | omega))), trivial⟩, ⟨_, rfl, .inl rfl, ⟨trivial, trivial⟩⟩, trivial⟩⟩ (fun s hP0 => ?_)
 refine HT.seq ?_
 refine HT.region S_padc_ok ?_
 refine So.q rfl rfl (V.bin (a := (.v (.int .i64 ((_ : Nat) : Int)))) (b := (.v (.int .i64 _))) (r := .v (.bool _)) rfl rfl rfl trivial ?_)
 refine So.e ?_
 show HT _ _ _ _ _
 refine HT.seq ?_
 refine R.cond rfl rfl (fun h1 => ?_) (fun h1 => ?_)
 ·have h1 := of_decide_eq_true h1
  refine HT.skip ?_
  show HT _ _ _ _ _
  refine HT.seq ?_
  refine HT.block ?_
  refine HT.seq ?_
  refine HT.region S_padc_ok ?_
  refine So.q rfl rfl (V.mv (v := .p (.v (.int .i64 ((_ : Nat) : Int)))) rfl ?_)
  refine So.q rfl rfl (V.as (v := .p (.v (.int .i64 ((_ : Nat) : Int)))) rfl ?_)
  refine So.e ?_
  show HT _ _ _ _ _
  refine HT.region S_padc_ok ?_
  have hpl := padL_len hpre c (s := s) (by omega)
  have hpg := padL_get hpre c (s := s) (by omega)
  refine So.q rfl rfl (V.mv (v := .own 2 0 _) rfl ?_)
  refine So.q rfl rfl (V.mv (v := .p (.v (.int .i64 ((_ : Nat) : Int)))) rfl ?_)
  refine So.q rfl rfl (V.ixOwn10 (mi := s) ty22 ty5 rfl rfl rfl rfl rfl (by omega) (by omega) ?_)
  refine So.q rfl rfl (V.ldPtr ty5 rfl rfl rfl (by first | rfl | omega | (simp; done) | (simp; omega)) (v := .p (.u8 _)) rfl ?_)
  refine So.q rfl rfl (V.mv (v := .p (.u8 _)) rfl ?_)
  refine So.q rfl rfl (V.bin (a := (.u8 _)) (b := (.u8 _)) (r := .u8 _) rfl rfl rfl trivial ?_)
  refine So.q rfl rfl (V.ixOwn10 (mi := s) ty22 ty5 rfl rfl rfl rfl rfl (by omega) (by omega) ?_)
  refine So.s (A.sto ty5 rfl rfl rfl (v := .p (.u8 _)) rfl trivial rfl (by first | rfl | omega | (simp; done) | (simp; omega)) rfl rfl ?_)
  refine So.e ?_
  show HT _ _ _ _ _
  refine HT.region S_padc_ok ?_
  refine So.q rfl rfl (V.addI rfl rfl (by omega) ?_)
  refine So.q rfl rfl (V.mv (v := .p (.v (.int .i64 _))) rfl ?_)
  refine So.e ?_
  refine ⟨s + 1, by first | rfl | omega | (simp; done) | (simp; omega), by omega, ⟨⟨⟨le_int (by first | rfl | omega | (simp; done) | (simp; omega)), trivial⟩, ⟨.refl _, trivial⟩, ⟨.refl _, trivial⟩, ⟨.refl _, rfl⟩, ⟨.refl _, trivial⟩, trivial⟩, ⟨⟨_, rfl, .inl (ob_bs (by first | rfl | ((try dsimp only); first | rfl | omega | (rw [hpg]; exact padL_succ hpre c (by omega)))) (by first | rfl | ((try dsimp only); first | rfl | omega | (rw [hpg]; exact padL_succ hpre c (by omega))))), trivial⟩, ⟨_, rfl, .inl rfl, ⟨trivial, trivial⟩⟩, trivial⟩⟩⟩
 ·have h1 := of_decide_eq_false h1
  refine HT.exit ?_
  show HT _ _ _ _ _
  refine HT.seq ?_
  refine HT.region S_padc_ok ?_
  refine So.q rfl rfl (V.mv (v := .own 2 0 _) rfl ?_)
  refine So.q rfl rfl (V.as (v := .own 2 0 _) rfl ?_)
  refine So.e ?_
  show HT _ _ _ _ _
  refine HT.ret ?_
  exact ret_ok (sg [(1, 1), (2, 2)]) h rfl rfl rfl ⟨⟨trivial, trivial⟩, trivial, trivial⟩ ⟨rfl, trivial⟩ rfl ⟨⟨⟨le_own2 (by first | rfl | omega) (by first | (show (_ : Nat) = _; rfl) | (show (_ : List UInt8) = _; replace hP0 : s = 64 := (by omega); subst hP0; exact padL_64 hpre c) | rfl), rfl⟩, trivial⟩, ⟨⟨_, rfl, .inl (by first | (show (_ : Nat) = _; rfl) | (show (_ : List UInt8) = _; replace hP0 : s = 64 := (by omega); subst hP0; exact padL_64 hpre c) | rfl), ⟨trivial, trivial⟩⟩, ⟨_, rfl, .inl (ob_bs (by first | (show (_ : Nat) = _; rfl) | (show (_ : List UInt8) = _; replace hP0 : s = 64 := (by omega); subst hP0; exact padL_64 hpre c) | rfl) (by first | (show (_ : Nat) = _; rfl) | (show (_ : List UInt8) = _; replace hP0 : s = 64 := (by omega); subst hP0; exact padL_64 hpre c) | rfl)), trivial⟩, trivial⟩⟩
end Go.Vh

set_option linter.unusedVariables false
set_option linter.unusedSimpArgs false
namespace Go.Vh
open Go Go.Vc Go.Proofs Go.Vw
def wordsSp : Sp := ⟨[], mkE (α := (List UInt8)) (fun b => [.p (.bs (b))]) (fun b => []) (fun b => 64 ≤ b.length) (fun b => [.agg 64 (fun j => .u32 (wd b j))]) (fun b => [])⟩
def S_words : FuncId → Option Sp := fun f => if f = 67 then some rightSp else none
theorem S_words_ok : ∀ f s, S_words f = some s → FOK Tryd.prog gl f s := fun f s h => by
 unfold S_words at h
 split at h
 ·rename_i e; cases h; subst e; exact right_ok
 cases h
theorem S_words_det : ∀ f s, S_words f = some s → SpDet s.sp := fun f s h => by
 unfold S_words at h
 split at h
 ·cases h; exact mkE_det _ _ _ _ _
 cases h
set_option maxHeartbeats 1000000 in
set_option maxRecDepth 20000 in
theorem words_ok : FOK Tryd.prog gl 66 wordsSp := by
 refine FOK.ofEC (tyOf_ok Tryd.prog) (rvs := [.cell 2 104]) (nt := 89) Tryd.func66 rfl rfl rfl rfl (by decide) 1 (fun _ => rfl) (by decide) (fun _ => ⟨trivial, trivial⟩) ?_
 rintro b kk hlen hpre h
 have hl0 : (b).length ≤ 9223372036854775807 := hlen.1
 replace hpre : 64 ≤ b.length := hpre
 show HT (cx Tryd.prog 89 (tyOf Tryd.prog) gl []) _ [(0, .p (.bs (b)))] [] _
 refine HT.seq ?_
 refine HT.region S_words_ok ?_
 refine So.n (lk rfl) (A.alloc 1 1 ty104 rfl trivial (f := fun _ => .u32 0) (fun _ _ => rfl) ?_)
 refine So.e ?_
 show HT _ _ _ _ _
 refine HT.seq ?_
 refine HT.region S_words_ok ?_
 refine So.n (lk rfl) (A.alloc 2 1 ty104 rfl trivial (f := fun _ => .u32 0) (fun _ _ => rfl) ?_)
 refine So.e ?_
 show HT _ _ _ _ _
 refine HT.seq ?_
 refine HT.seq ?_
 refine HT.region S_words_ok ?_
 refine So.q rfl rfl (V.mv (v := .p (.v (.int .i64 (0)))) rfl ?_)
 refine So.e ?_
 show HT _ _ _ _ _
 refine HT.block ?_
 refine R.loop (σ := Nat) (fun s => [(8, .p (.v (.int .i64 ((s : Int)))))]) (fun s => [(2, ⟨104, 1, 64, true, .rows (fun j => .u32 (if j < s then be b j else 0))⟩)]) [0, 2, 3] [1] (fun s => s ≤ 16) (fun s => 16 - s) (0) (fr0 := [(0, .p (.bs _)), (2, .ptr 1 0), (3, .ptr 2 0)]) (O0 := [(1, ⟨_, _, _, _, .rows _⟩)]) rfl rfl (by first | rfl | omega | (simp; done) | (simp; omega)) ⟨⟨⟨le_int (by first | rfl | omega | (simp; done)), trivial⟩, ⟨.refl _, trivial⟩, ⟨.refl _, rfl⟩, ⟨.refl _, rfl⟩, trivial⟩, ⟨⟨_, rfl, .inr (ob_rows (by first | rfl | ((try dsimp only); first | rfl | omega | (simp; done))) (by first | rfl | ((try dsimp only); first | rfl | omega | (simp; done)))), trivial⟩, ⟨_, rfl, .inl rfl, trivial⟩, trivial⟩⟩ (fun s hP0 => ?_)
 refine HT.seq ?_
 refine HT.region S_words_ok ?_
 refine So.q rfl rfl (V.bin (a := (.v (.int .i64 ((_ : Nat) : Int)))) (b := (.v (.int .i64 (16)))) (r := .v (.bool _)) rfl rfl rfl trivial ?_)
 refine So.e ?_
 show HT _ _ _ _ _
 refine HT.seq ?_
 refine R.cond rfl rfl (fun h1 => ?_) (fun h1 => ?_)
 ·have h1 := of_decide_eq_true h1
  refine HT.skip ?_
  show HT _ _ _ _ _
  refine HT.seq ?_
  refine HT.block ?_
  refine HT.seq ?_
  refine HT.region S_words_ok ?_
  refine So.q rfl rfl (V.mv (v := .p (.v (.int .i64 ((_ : Nat) : Int)))) rfl ?_)
  refine So.q rfl rfl (V.as (v := .p (.v (.int .i64 ((_ : Nat) : Int)))) rfl ?_)
  refine So.e ?_
  show HT _ _ _ _ _
  refine HT.tail S_words_ok mixed 35 (by kernel_rfl) (by kernel_rfl) ?_
  refine So.q rfl rfl (V.mv (v := .p (.v (.int .i64 ((_ : Nat) : Int)))) rfl ?_)
  refine So.q rfl rfl (V.mv (v := .p (.bs _)) rfl ?_)
  refine So.q rfl rfl (V.mv (v := .p (.v (.int .i64 ((_ : Nat) : Int)))) rfl ?_)
  refine So.q rfl rfl (V.mulI rfl rfl (by omega) ?_)
  refine So.q rfl rfl (V.ixBs (mi := 4 * s) ty22 ty5 rfl rfl rfl (by omega) (by omega) ?_)
  refine So.q rfl rfl (V.ldRp ty5 rfl rfl (lk rfl) (v := (.u8 _)) rfl ?_)
  refine So.q rfl rfl (V.cvN ty96 ty5 (a := (.u8 _)) (r := (.u32 _)) rfl rfl ?_)
  refine So.q rfl rfl (V.shlC (n := 24) (a := (.u32 _)) (b := (.u64 24)) (r := .u32 (u32Shl _ 24)) rfl rfl rfl rfl ?_)
  refine So.q rfl rfl (V.mv (v := .p (.bs _)) rfl ?_)
  refine So.q rfl rfl (V.mv (v := .p (.v (.int .i64 ((_ : Nat) : Int)))) rfl ?_)
  refine So.q rfl rfl (V.mulI rfl rfl (by omega) ?_)
  refine So.q rfl rfl (V.addI rfl rfl (by omega) ?_)
  refine So.q rfl rfl (V.ixBs (mi := 4 * s + 1) ty22 ty5 rfl rfl rfl (by omega) (by omega) ?_)
  refine So.q rfl rfl (V.ldRp ty5 rfl rfl (lk rfl) (v := (.u8 _)) rfl ?_)
  refine So.q rfl rfl (V.cvN ty96 ty5 (a := (.u8 _)) (r := (.u32 _)) rfl rfl ?_)
  refine So.q rfl rfl (V.shlC (n := 16) (a := (.u32 _)) (b := (.u64 16)) (r := .u32 (u32Shl _ 16)) rfl rfl rfl rfl ?_)
  refine So.q rfl rfl (V.bin (a := (.u32 _)) (b := (.u32 _)) (r := .u32 _) rfl rfl rfl trivial ?_)
  refine So.q rfl rfl (V.mv (v := .p (.bs _)) rfl ?_)
  refine So.q rfl rfl (V.mv (v := .p (.v (.int .i64 ((_ : Nat) : Int)))) rfl ?_)
  refine So.q rfl rfl (V.mulI rfl rfl (by omega) ?_)
  refine So.q rfl rfl (V.addI rfl rfl (by omega) ?_)
  refine So.q rfl rfl (V.ixBs (mi := 4 * s + 2) ty22 ty5 rfl rfl rfl (by omega) (by omega) ?_)
  refine So.q rfl rfl (V.ldRp ty5 rfl rfl (lk rfl) (v := (.u8 _)) rfl ?_)
  refine So.q rfl rfl (V.cvN ty96 ty5 (a := (.u8 _)) (r := (.u32 _)) rfl rfl ?_)
  refine So.q rfl rfl (V.shlC (n := 8) (a := (.u32 _)) (b := (.u64 8)) (r := .u32 (u32Shl _ 8)) rfl rfl rfl rfl ?_)
  refine So.q rfl rfl (V.bin (a := (.u32 _)) (b := (.u32 _)) (r := .u32 _) rfl rfl rfl trivial ?_)
  refine So.q rfl rfl (V.mv (v := .p (.bs _)) rfl ?_)
  refine So.q rfl rfl (V.mv (v := .p (.v (.int .i64 ((_ : Nat) : Int)))) rfl ?_)
  refine So.q rfl rfl (V.mulI rfl rfl (by omega) ?_)
  refine So.q rfl rfl (V.addI rfl rfl (by omega) ?_)
  refine So.q rfl rfl (V.ixBs (mi := 4 * s + 3) ty22 ty5 rfl rfl rfl (by omega) (by omega) ?_)
  refine So.q rfl rfl (V.ldRp ty5 rfl rfl (lk rfl) (v := (.u8 _)) rfl ?_)
  refine So.q rfl rfl (V.cvN ty96 ty5 (a := (.u8 _)) (r := (.u32 _)) rfl rfl ?_)
  refine So.q rfl rfl (V.bin (a := (.u32 _)) (b := (.u32 _)) (r := .u32 _) rfl rfl rfl trivial ?_)
  refine So.q rfl rfl (V.ixArrP10 (mi := s) ty104 ty96 rfl rfl rfl (by first | rfl | omega | (simp; done) | (simp; omega)) rfl (by omega) (by omega) ?_)
  refine So.s (A.sto ty96 rfl rfl rfl (v := .p (.u32 _)) rfl trivial rfl (by first | rfl | omega | (simp; done) | (simp; omega)) (c' := .rows (fun j => .u32 (if j = s then be b s else if j < s then be b j else 0))) (congrArg (fun g => some (OC.rows g)) (funext fun j => by by_cases h9 : j = s <;> simp [h9, be])) rfl ?_)
  refine So.e ?_
  show HT _ _ _ _ _
  refine HT.region S_words_ok ?_
  refine So.q rfl rfl (V.addI rfl rfl (by omega) ?_)
  refine So.q rfl rfl (V.mv (v := .p (.v (.int .i64 _))) rfl ?_)
  refine So.e ?_
  refine ⟨s + 1, by first | rfl | omega | (simp; done) | (simp; omega), by omega, ⟨⟨⟨le_int (by first | rfl | omega | (simp; done) | (simp; omega)), trivial⟩, ⟨.refl _, trivial⟩, ⟨.refl _, rfl⟩, ⟨.refl _, rfl⟩, trivial⟩, ⟨⟨_, rfl, .inr (ob_rows (by first | rfl | ((try dsimp only); (intro j hj; by_cases h9 : j = s <;> simp [h9] <;> (try rw [if_pos (by omega)]) <;> (try (by_cases h8 : j < s <;> simp [h8] <;> omega))))) (by first | rfl | ((try dsimp only); (intro j hj; by_cases h9 : j = s <;> simp [h9] <;> (try rw [if_pos (by omega)]) <;> (try (by_cases h8 : j < s <;> simp [h8] <;> omega)))))), trivial⟩, ⟨_, rfl, .inl rfl, trivial⟩, trivial⟩⟩⟩
 ·have h1 := of_decide_eq_false h1
  refine HT.exit ?_
  show HT _ _ _ _ _
  refine HT.seq ?_
  refine HT.seq ?_
  refine HT.region S_words_ok ?_
  refine So.q rfl rfl (V.as (v := .p (.v (.int .i64 (16)))) rfl ?_)
  refine So.e ?_
  show HT _ _ _ _ _
  refine HT.block ?_
  refine R.loop (σ := Nat) (fun s => [(5, .p (.v (.int .i64 (((16 + s : Nat) : Int)))))]) (fun s => [(2, ⟨104, 1, 64, true, .rows (fun j => .u32 (wdN b s j))⟩)]) [2, 3] [1] (fun s => s ≤ 48) (fun s => 48 - s) (0) (fr0 := [(2, .ptr 1 0), (3, .ptr 2 0)]) (O0 := [(1, ⟨_, _, _, _, .rows _⟩)]) rfl rfl (by first | rfl | omega | (simp; done) | (simp; omega)) ⟨⟨⟨le_int (by first | rfl | omega | (intro j _; rw [show s = 16 by omega]; rfl)), trivial⟩, ⟨.refl _, rfl⟩, ⟨.refl _, rfl⟩, trivial⟩, ⟨⟨_, rfl, .inr (ob_rows (by first | rfl | ((try dsimp only); first | rfl | omega | (intro j _; rw [show s = 16 by omega]; rfl))) (by first | rfl | ((try dsimp only); first | rfl | omega | (intro j _; rw [show s = 16 by omega]; rfl)))), trivial⟩, ⟨_, rfl, .inl rfl, trivial⟩, trivial⟩⟩ (fun s hP1 => ?_)
  refine HT.seq ?_
  refine HT.seq ?_
  refine HT.region S_words_ok ?_
  refine So.q rfl rfl (V.mv (v := .p (.v (.int .i64 _))) rfl ?_)
  refine So.q rfl rfl (V.bin (a := (.v (.int .i64 _))) (b := (.v (.int .i64 (64)))) (r := .v (.bool _)) rfl rfl rfl trivial ?_)
  refine So.e ?_
  show HT _ _ _ _ _
  refine R.cond rfl rfl (fun h2 => ?_) (fun h2 => ?_)
  ·have h2 := of_decide_eq_true h2
   refine HT.skip ?_
   show HT _ _ _ _ _
   refine HT.seq ?_
   refine HT.block ?_
   refine HT.seq ?_
   refine HT.drawn S_words_ok S_words_det mixed (by kernel_rfl) ?_
   refine Sd.n (lk rfl) (V.mv (v := .p (.v (.int .i64 _))) rfl ?_)
   refine Sd.n (lk rfl) (V.subI rfl rfl (by omega) ?_)
   refine Sd.n (lk rfl) (V.ixArrP10 (mi := s + 1) ty104 ty96 rfl rfl rfl (by first | rfl | omega | (simp; done) | (simp; omega)) rfl (by omega) (by omega) ?_)
   refine Sd.n (lk rfl) (V.ldPtr ty96 rfl rfl rfl (by first | rfl | omega | (simp; done) | (simp; omega)) (v := .p (.u32 _)) rfl ?_)
   refine Sd.n (lk rfl) (V.mv (v := .p (.v (.int .i64 _))) rfl ?_)
   refine Sd.n (lk rfl) (V.subI rfl rfl (by omega) ?_)
   refine Sd.n (lk rfl) (V.ixArrP10 (mi := s + 14) ty104 ty96 rfl rfl rfl (by first | rfl | omega | (simp; done) | (simp; omega)) rfl (by omega) (by omega) ?_)
   refine Sd.n (lk rfl) (V.ldPtr ty96 rfl rfl rfl (by first | rfl | omega | (simp; done) | (simp; omega)) (v := .p (.u32 _)) rfl ?_)
   refine Sd.n (lk rfl) (V.as (v := .p (.u32 _)) rfl ?_)
   refine Sd.n (lk rfl) (V.as (v := .p (.u32 _)) rfl ?_)
   refine Sd.e ?_
   show HT _ _ _ _ _
   refine HT.planS S_words_ok S_words_det mixed [] [⟨[0, 1, 2, 3, 4, 5, 6, 7, 8, 9, 10, 11, 12, 13, 14, 15, 16, 17, 18, 19, 20, 21, 22, 23, 24, 25, 26, 27, 28], 29, []⟩] (by kernel_rfl) ?_
   refine Pl.l0 ?_
   refine Si.n rfl (lk rfl) (V.mv (v := .p (.v (.int .i64 _))) rfl ?_)
   refine Si.n rfl (lk rfl) (V.mv (v := .p (.v (.int .i64 _))) rfl ?_)
   refine Si.n rfl (lk rfl) (V.subI rfl rfl (by omega) ?_)
   refine Si.n rfl (lk rfl) (V.ixArrP10 (mi := s) ty104 ty96 rfl rfl rfl (by first | rfl | omega | (simp; done) | (simp; omega)) rfl (by omega) (by omega) ?_)
   refine Si.n rfl (lk rfl) (V.ldPtr ty96 rfl rfl rfl (by first | rfl | omega | (simp; done) | (simp; omega)) (v := .p (.u32 _)) rfl ?_)
   refine Si.n rfl (lk rfl) (V.mv (v := .p (.v (.int .i64 _))) rfl ?_)
   refine Si.n rfl (lk rfl) (V.subI rfl rfl (by omega) ?_)
   refine Si.n rfl (lk rfl) (V.ixArrP10 (mi := s + 9) ty104 ty96 rfl rfl rfl (by first | rfl | omega | (simp; done) | (simp; omega)) rfl (by omega) (by omega) ?_)
   refine Si.n rfl (lk rfl) (V.ldPtr ty96 rfl rfl rfl (by first | rfl | omega | (simp; done) | (simp; omega)) (v := .p (.u32 _)) rfl ?_)
   refine Si.n rfl (lk rfl) (V.bin (a := (.u32 _)) (b := (.u32 _)) (r := .u32 _) rfl rfl rfl trivial ?_)
   refine Si.n rfl (lk rfl) (V.mv (v := .p (.u32 _)) rfl ?_)
   refine Si.n rfl (lk rfl) (V.call [.p (.u32 _), .p (.v (.int .i64 _))] 3 rfl rfl rfl rfl ⟨trivial, trivial, trivial⟩ trivial (_, _) ⟨.refl _, .refl _, trivial⟩ trivial (by first | omega | decide) (Φ := fun _ => True) (fun _ _ => trivial) (.inl ⟨trivial, trivial, trivial⟩) (v := .p (.u32 _)) rfl (fun h3 => ?_))
   refine Si.n rfl (lk rfl) (V.mv (v := .p (.u32 _)) rfl ?_)
   refine Si.n rfl (lk rfl) (V.call [.p (.u32 _), .p (.v (.int .i64 _))] 3 rfl rfl rfl rfl ⟨trivial, trivial, trivial⟩ trivial (_, _) ⟨.refl _, .refl _, trivial⟩ trivial (by first | omega | decide) (Φ := fun _ => True) (fun _ _ => trivial) (.inl ⟨trivial, trivial, trivial⟩) (v := .p (.u32 _)) rfl (fun h4 => ?_))
   refine Si.n rfl (lk rfl) (V.bin (a := (.u32 _)) (b := (.u32 _)) (r := .u32 _) rfl rfl rfl trivial ?_)
   refine Si.n rfl (lk rfl) (V.mv (v := .p (.u32 _)) rfl ?_)
   refine Si.n rfl (lk rfl) (V.shrC (n := 3) (a := (.u32 _)) (b := (.u64 3)) (r := .u32 (u32Shr _ 3)) rfl rfl rfl rfl ?_)
   refine Si.n rfl (lk rfl) (V.bin (a := (.u32 _)) (b := (.u32 _)) (r := .u32 _) rfl rfl rfl trivial ?_)
   refine Si.n rfl (lk rfl) (V.bin (a := (.u32 _)) (b := (.u32 _)) (r := .u32 _) rfl rfl rfl trivial ?_)
   refine Si.n rfl (lk rfl) (V.mv (v := .p (.u32 _)) rfl ?_)
   refine Si.n rfl (lk rfl) (V.call [.p (.u32 _), .p (.v (.int .i64 _))] 3 rfl rfl rfl rfl ⟨trivial, trivial, trivial⟩ trivial (_, _) ⟨.refl _, .refl _, trivial⟩ trivial (by first | omega | decide) (Φ := fun _ => True) (fun _ _ => trivial) (.inl ⟨trivial, trivial, trivial⟩) (v := .p (.u32 _)) rfl (fun h5 => ?_))
   refine Si.n rfl (lk rfl) (V.mv (v := .p (.u32 _)) rfl ?_)
   refine Si.n rfl (lk rfl) (V.call [.p (.u32 _), .p (.v (.int .i64 _))] 3 rfl rfl rfl rfl ⟨trivial, trivial, trivial⟩ trivial (_, _) ⟨.refl _, .refl _, trivial⟩ trivial (by first | omega | decide) (Φ := fun _ => True) (fun _ _ => trivial) (.inl ⟨trivial, trivial, trivial⟩) (v := .p (.u32 _)) rfl (fun h6 => ?_))
   refine Si.n rfl (lk rfl) (V.bin (a := (.u32 _)) (b := (.u32 _)) (r := .u32 _) rfl rfl rfl trivial ?_)
   refine Si.n rfl (lk rfl) (V.mv (v := .p (.u32 _)) rfl ?_)
   refine Si.n rfl (lk rfl) (V.shrC (n := 10) (a := (.u32 _)) (b := (.u64 10)) (r := .u32 (u32Shr _ 10)) rfl rfl rfl rfl ?_)
   refine Si.n rfl (lk rfl) (V.bin (a := (.u32 _)) (b := (.u32 _)) (r := .u32 _) rfl rfl rfl trivial ?_)
   refine Si.n rfl (lk rfl) (V.bin (a := (.u32 _)) (b := (.u32 _)) (r := .u32 _) rfl rfl rfl trivial ?_)
   refine Si.n rfl (lk rfl) (V.ixArrP10 (mi := 16 + s) ty104 ty96 rfl rfl rfl (by first | rfl | omega | (simp; done) | (simp; omega)) rfl (by omega) (by omega) ?_)
   refine Si.e ?_
   refine ⟨flEq_nil, ?_⟩
   refine Lo.s rfl (A.sto ty96 rfl rfl rfl (v := .p (.u32 _)) rfl trivial rfl (by first | rfl | omega | (simp; done) | (simp; omega)) (c' := .rows (fun j => .u32 (wdN b (s + 1) j))) (congrArg (fun g => some (OC.rows g)) (funext fun j => by by_cases h9 : j = 16 + s <;> simp [h9, wdN, sg0, sg1])) rfl ?_)
   refine Pl.e ?_
   refine Si.e ?_
   refine ⟨flEq_nil, ?_⟩
   show HT _ _ _ _ _
   refine HT.region S_words_ok ?_
   refine So.q rfl rfl (V.mv (v := .p (.v (.int .i64 _))) rfl ?_)
   refine So.q rfl rfl (V.addI rfl rfl (by omega) ?_)
   refine So.q rfl rfl (V.as (v := .p (.v (.int .i64 _))) rfl ?_)
   refine So.e ?_
   refine ⟨s + 1, by first | rfl | omega | (simp; done) | (simp; omega), by omega, ⟨⟨⟨le_int (by first | rfl | omega | (simp; done) | (simp; omega)), trivial⟩, ⟨.refl _, rfl⟩, ⟨.refl _, rfl⟩, trivial⟩, ⟨⟨_, rfl, .inr (ob_rows (by first | rfl | ((try dsimp only); first | rfl | omega | (simp; done) | (simp; omega))) (by first | rfl | ((try dsimp only); first | rfl | omega | (simp; done) | (simp; omega)))), trivial⟩, ⟨_, rfl, .inl rfl, trivial⟩, trivial⟩⟩⟩
  ·have h2 := of_decide_eq_false h2
   refine HT.exit ?_
   show HT _ _ _ _ _
   refine HT.seq ?_
   refine HT.region S_words_ok ?_
   refine So.q rfl rfl (V.ldPtrA ty104 rfl rfl rfl rfl (lk rfl) ?_)
   refine So.s (A.stoAg ty104 rfl (n := 64) rfl (by decide) (by intro j hj; first | rfl | trivial) rfl rfl rfl ?_)
   refine So.e ?_
   show HT _ _ _ _ _
   refine HT.ret ?_
   exact retC_ok (sg []) [(2, .ptr 1 0)] [(1, ⟨104, 1, 64, true, .rows (fun j => .u32 (wd b j))⟩)] h ⟨⟨⟨.refl _, rfl⟩, trivial⟩, ⟨⟨_, rfl, .inr (ob_rows rfl (by intro j hj; first | rfl | ((try dsimp only); (first | rfl | (replace hP1 : s = 48 := (by omega); subst hP1; first | rfl | (rw [Nat.zero_add]; rfl)))))), trivial⟩, trivial⟩⟩ ⟨rvA_cell ty104 rfl rfl rfl rfl (Nat.le_refl _) (le_agg (fun j _ => by first | rfl | (dsimp only; rw [Nat.zero_add]))), trivial⟩ trivial rfl trivial ⟨trivial, trivial⟩ rfl
end Go.Vh
