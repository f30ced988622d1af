/- What is proved: each function of the seat's program does what its contract says, wherever it is called; no condition. -/
import Derived.Test.YtmlkellnophlaaaDoorPure0
import Derived.Test.YtmlkellnophlaaaDoorFrame2
import Derived.Test.YtmlkellnophlaaaDoorProg
set_option linter.unusedVariables false
set_option linter.unusedSimpArgs false
set_option linter.unusedVariables false
set_option linter.unusedSimpArgs false
namespace Go.Vh
open Go Go.Vc Go.Proofs Go.Vw

def gl : Nat → Option (Nat × (Nat → GV)) := fun g => if g = 0 then some (64, fun j => .u32 (K256.getD j 0)) else if g = 1 then some (3, fun j => .v (.int .i64 (([6, 14, 30] : List Int).getD j 0))) else none
theorem mixed : Tryd.prog.follows .mixedOrders = true := by kernel_rfl
theorem ty1 : tyOf Tryd.prog 1 = some ⟨.func, 1, 8, some (fun _ => .nilFunc)⟩ := by rfl
theorem ty2 : tyOf Tryd.prog 2 = some ⟨.int .i64, 1, 8, some (fun _ => .int .i64 0)⟩ := by rfl
theorem ty3 : tyOf Tryd.prog 3 = some ⟨.int .i64, 1, 8, some (fun _ => .int .i64 0)⟩ := by rfl
theorem ty4 : tyOf Tryd.prog 4 = some ⟨.bool, 1, 1, some (fun _ => .bool false)⟩ := by rfl
theorem ty5 : tyOf Tryd.prog 5 = some ⟨.int .u8, 1, 1, some (fun _ => .int .u8 0)⟩ := by rfl
theorem ty6 : tyOf Tryd.prog 6 = some ⟨.int .u8, 1, 1, some (fun _ => .int .u8 0)⟩ := by rfl
theorem ty7 : tyOf Tryd.prog 7 = some ⟨.struct [(0, 2), (1, 3), (2, 4), (3, 6)], 4, 24, some (fun j => ([.int .i64 0, .int .i64 0, .bool false, .int .u8 0] : List Value).getD j undef)⟩ := by rfl
theorem ty8 : tyOf Tryd.prog 8 = some ⟨.struct [(0, 2), (1, 3), (2, 4), (3, 6)], 4, 24, some (fun j => ([.int .i64 0, .int .i64 0, .bool false, .int .u8 0] : List Value).getD j undef)⟩ := by rfl
theorem ty9 : tyOf Tryd.prog 9 = some ⟨.string, 1, 16, some (fun _ => .string ⟨#[]⟩)⟩ := by rfl
theorem ty10 : tyOf Tryd.prog 10 = some ⟨.string, 1, 16, some (fun _ => .string ⟨#[]⟩)⟩ := by rfl
theorem ty11 : tyOf Tryd.prog 11 = some ⟨.string, 1, 16, some (fun _ => .string ⟨#[]⟩)⟩ := by rfl
theorem ty12 : tyOf Tryd.prog 12 = some ⟨.int .u64, 1, 8, some (fun _ => .int .u64 0)⟩ := by rfl
theorem ty13 : tyOf Tryd.prog 13 = some ⟨.struct [(0, 9), (1, 12)], 2, 24, some (fun j => ([.string ⟨#[]⟩, .int .u64 0] : List Value).getD j undef)⟩ := by rfl
theorem ty14 : tyOf Tryd.prog 14 = some ⟨.struct [(0, 9), (1, 12)], 2, 24, some (fun j => ([.string ⟨#[]⟩, .int .u64 0] : List Value).getD j undef)⟩ := by rfl
theorem ty15 : tyOf Tryd.prog 15 = some ⟨.pointer 80, 1, 8, some (fun _ => .pointer none)⟩ := by rfl
theorem ty16 : tyOf Tryd.prog 16 = some ⟨.pointer 83, 1, 8, some (fun _ => .pointer none)⟩ := by rfl
theorem ty17 : tyOf Tryd.prog 17 = some ⟨.pointer 92, 1, 8, some (fun _ => .pointer none)⟩ := by rfl
theorem ty18 : tyOf Tryd.prog 18 = some ⟨.struct [(0, 17)], 1, 8, some (fun _ => .pointer none)⟩ := by rfl
theorem ty19 : tyOf Tryd.prog 19 = some ⟨.struct [(0, 17)], 1, 8, some (fun _ => .pointer none)⟩ := by rfl
theorem ty21 : tyOf Tryd.prog 21 = some ⟨.int .i32, 1, 4, some (fun _ => .int .i32 0)⟩ := by rfl
theorem ty22 : tyOf Tryd.prog 22 = some ⟨.slice 5, 1, 24, some (fun _ => .slice none 0 0)⟩ := by rfl
theorem ty23 : tyOf Tryd.prog 23 = some ⟨.func, 1, 8, some (fun _ => .nilFunc)⟩ := by rfl
theorem ty24 : tyOf Tryd.prog 24 = some ⟨.func, 1, 8, some (fun _ => .nilFunc)⟩ := by rfl
theorem ty25 : tyOf Tryd.prog 25 = some ⟨.func, 1, 8, some (fun _ => .nilFunc)⟩ := by rfl
theorem ty26 : tyOf Tryd.prog 26 = some ⟨.func, 1, 8, some (fun _ => .nilFunc)⟩ := by rfl
theorem ty27 : tyOf Tryd.prog 27 = some ⟨.struct [(0, 22), (1, 22), (2, 22), (3, 22), (4, 22), (5, 22), (6, 22)], 7, 168, some (fun _ => .slice none 0 0)⟩ := by rfl
theorem ty28 : tyOf Tryd.prog 28 = some ⟨.struct [(0, 22), (1, 22), (2, 22), (3, 22), (4, 22), (5, 22), (6, 22)], 7, 168, some (fun _ => .slice none 0 0)⟩ := by rfl
theorem ty29 : tyOf Tryd.prog 29 = some ⟨.func, 1, 8, some (fun _ => .nilFunc)⟩ := by rfl
theorem ty30 : tyOf Tryd.prog 30 = some ⟨.func, 1, 8, some (fun _ => .nilFunc)⟩ := by rfl
theorem ty31 : tyOf Tryd.prog 31 = some ⟨.func, 1, 8, some (fun _ => .nilFunc)⟩ := by rfl
theorem ty32 : tyOf Tryd.prog 32 = some ⟨.func, 1, 8, some (fun _ => .nilFunc)⟩ := by rfl
theorem ty33 : tyOf Tryd.prog 33 = some ⟨.func, 1, 8, some (fun _ => .nilFunc)⟩ := by rfl
theorem ty34 : tyOf Tryd.prog 34 = some ⟨.func, 1, 8, some (fun _ => .nilFunc)⟩ := by rfl
theorem ty35 : tyOf Tryd.prog 35 = some ⟨.func, 1, 8, some (fun _ => .nilFunc)⟩ := by rfl
theorem ty36 : tyOf Tryd.prog 36 = some ⟨.func, 1, 8, some (fun _ => .nilFunc)⟩ := by rfl
theorem ty37 : tyOf Tryd.prog 37 = some ⟨.func, 1, 8, some (fun _ => .nilFunc)⟩ := by rfl
theorem ty38 : tyOf Tryd.prog 38 = some ⟨.func, 1, 8, some (fun _ => .nilFunc)⟩ := by rfl
theorem ty39 : tyOf Tryd.prog 39 = some ⟨.func, 1, 8, some (fun _ => .nilFunc)⟩ := by rfl
theorem ty40 : tyOf Tryd.prog 40 = some ⟨.pointer 22, 1, 8, some (fun _ => .pointer none)⟩ := by rfl
theorem ty41 : tyOf Tryd.prog 41 = some ⟨.struct [(0, 9), (1, 40)], 2, 24, some (fun j => ([.string ⟨#[]⟩, .pointer none] : List Value).getD j undef)⟩ := by rfl
theorem ty42 : tyOf Tryd.prog 42 = some ⟨.struct [(0, 9), (1, 40)], 2, 24, some (fun j => ([.string ⟨#[]⟩, .pointer none] : List Value).getD j undef)⟩ := by rfl
theorem ty43 : tyOf Tryd.prog 43 = some ⟨.func, 1, 8, some (fun _ => .nilFunc)⟩ := by rfl
theorem ty44 : tyOf Tryd.prog 44 = some ⟨.func, 1, 8, some (fun _ => .nilFunc)⟩ := by rfl
theorem ty45 : tyOf Tryd.prog 45 = some ⟨.int .u64, 1, 8, some (fun _ => .int .u64 0)⟩ := by rfl
theorem ty46 : tyOf Tryd.prog 46 = some ⟨.pointer 67, 1, 8, some (fun _ => .pointer none)⟩ := by rfl
theorem ty47 : tyOf Tryd.prog 47 = some ⟨.func, 1, 8, some (fun _ => .nilFunc)⟩ := by rfl
theorem ty48 : tyOf Tryd.prog 48 = some ⟨.func, 1, 8, some (fun _ => .nilFunc)⟩ := by rfl
theorem ty49 : tyOf Tryd.prog 49 = some ⟨.func, 1, 8, some (fun _ => .nilFunc)⟩ := by rfl
theorem ty50 : tyOf Tryd.prog 50 = some ⟨.func, 1, 8, some (fun _ => .nilFunc)⟩ := by rfl
theorem ty51 : tyOf Tryd.prog 51 = some ⟨.slice 42, 1, 24, some (fun _ => .slice none 0 0)⟩ := by rfl
theorem ty52 : tyOf Tryd.prog 52 = some ⟨.slice 22, 1, 24, some (fun _ => .slice none 0 0)⟩ := by rfl
theorem ty53 : tyOf Tryd.prog 53 = some ⟨.int .i64, 1, 8, some (fun _ => .int .i64 0)⟩ := by rfl
theorem ty55 : tyOf Tryd.prog 55 = some ⟨.func, 1, 8, some (fun _ => .nilFunc)⟩ := by rfl
theorem ty56 : tyOf Tryd.prog 56 = some ⟨.int .u64, 1, 8, some (fun _ => .int .u64 0)⟩ := by rfl
theorem ty57 : tyOf Tryd.prog 57 = some ⟨.int .u32, 1, 4, some (fun _ => .int .u32 0)⟩ := by rfl
theorem ty58 : tyOf Tryd.prog 58 = some ⟨.array 8 57, 8, 32, some (fun _ => .int .u32 0)⟩ := by rfl
theorem ty59 : tyOf Tryd.prog 59 = some ⟨.func, 1, 8, some (fun _ => .nilFunc)⟩ := by rfl
theorem ty60 : tyOf Tryd.prog 60 = some ⟨.func, 1, 8, some (fun _ => .nilFunc)⟩ := by rfl
theorem ty61 : tyOf Tryd.prog 61 = some ⟨.func, 1, 8, some (fun _ => .nilFunc)⟩ := by rfl
theorem ty62 : tyOf Tryd.prog 62 = some ⟨.func, 1, 8, some (fun _ => .nilFunc)⟩ := by rfl
theorem ty63 : tyOf Tryd.prog 63 = some ⟨.func, 1, 8, some (fun _ => .nilFunc)⟩ := by rfl
theorem ty64 : tyOf Tryd.prog 64 = some ⟨.array 8 57, 8, 32, some (fun _ => .int .u32 0)⟩ := by rfl
theorem ty65 : tyOf Tryd.prog 65 = some ⟨.func, 1, 8, some (fun _ => .nilFunc)⟩ := by rfl
theorem ty66 : tyOf Tryd.prog 66 = some ⟨.struct [(0, 64), (8, 22), (9, 56)], 10, 64, some (fun j => ([.int .u32 0, .int .u32 0, .int .u32 0, .int .u32 0, .int .u32 0, .int .u32 0, .int .u32 0, .int .u32 0, .slice none 0 0, .int .u64 0] : List Value).getD j undef)⟩ := by rfl
theorem ty67 : tyOf Tryd.prog 67 = some ⟨.struct [(0, 64), (8, 22), (9, 56)], 10, 64, some (fun j => ([.int .u32 0, .int .u32 0, .int .u32 0, .int .u32 0, .int .u32 0, .int .u32 0, .int .u32 0, .int .u32 0, .slice none 0 0, .int .u64 0] : List Value).getD j undef)⟩ := by rfl
theorem ty68 : tyOf Tryd.prog 68 = some ⟨.func, 1, 8, some (fun _ => .nilFunc)⟩ := by rfl
theorem ty69 : tyOf Tryd.prog 69 = some ⟨.func, 1, 8, some (fun _ => .nilFunc)⟩ := by rfl
theorem ty70 : tyOf Tryd.prog 70 = some ⟨.array 64 57, 64, 256, some (fun _ => .int .u32 0)⟩ := by kernel_rfl
theorem ty71 : tyOf Tryd.prog 71 = some ⟨.func, 1, 8, some (fun _ => .nilFunc)⟩ := by rfl
theorem ty72 : tyOf Tryd.prog 72 = some ⟨.func, 1, 8, some (fun _ => .nilFunc)⟩ := by rfl
theorem ty73 : tyOf Tryd.prog 73 = some ⟨.pointer 64, 1, 8, some (fun _ => .pointer none)⟩ := by rfl
theorem ty74 : tyOf Tryd.prog 74 = some ⟨.func, 1, 8, some (fun _ => .nilFunc)⟩ := by rfl
theorem ty75 : tyOf Tryd.prog 75 = some ⟨.array 3 3, 3, 24, some (fun _ => .int .i64 0)⟩ := by rfl
theorem ty76 : tyOf Tryd.prog 76 = some ⟨.func, 1, 8, some (fun _ => .nilFunc)⟩ := by rfl
theorem ty77 : tyOf Tryd.prog 77 = some ⟨.func, 1, 8, some (fun _ => .nilFunc)⟩ := by rfl
theorem ty78 : tyOf Tryd.prog 78 = some ⟨.func, 1, 8, some (fun _ => .nilFunc)⟩ := by rfl
theorem ty79 : tyOf Tryd.prog 79 = some ⟨.struct [(0, 17), (1, 17), (2, 17), (3, 9)], 4, 40, some (fun j => ([.pointer none, .pointer none, .pointer none, .string ⟨#[]⟩] : List Value).getD j undef)⟩ := by rfl
theorem ty80 : tyOf Tryd.prog 80 = some ⟨.struct [(0, 17), (1, 17), (2, 17), (3, 9)], 4, 40, some (fun j => ([.pointer none, .pointer none, .pointer none, .string ⟨#[]⟩] : List Value).getD j undef)⟩ := by rfl
theorem ty81 : tyOf Tryd.prog 81 = some ⟨.array 0 16, 0, 0, some (fun _ => undef)⟩ := by rfl
theorem ty82 : tyOf Tryd.prog 82 = some ⟨.struct [(0, 81)], 0, 0, some (fun _ => undef)⟩ := by rfl
theorem ty83 : tyOf Tryd.prog 83 = some ⟨.struct [(0, 81)], 0, 0, some (fun _ => undef)⟩ := by rfl
theorem ty84 : tyOf Tryd.prog 84 = some ⟨.func, 1, 8, some (fun _ => .nilFunc)⟩ := by rfl
theorem ty85 : tyOf Tryd.prog 85 = some ⟨.int .u8, 1, 1, some (fun _ => .int .u8 0)⟩ := by rfl
theorem ty86 : tyOf Tryd.prog 86 = some ⟨.int .u8, 1, 1, some (fun _ => .int .u8 0)⟩ := by rfl
theorem ty87 : tyOf Tryd.prog 87 = some ⟨.func, 1, 8, some (fun _ => .nilFunc)⟩ := by rfl
theorem ty88 : tyOf Tryd.prog 88 = some ⟨.pointer 5, 1, 8, some (fun _ => .pointer none)⟩ := by rfl
theorem ty89 : tyOf Tryd.prog 89 = some ⟨.int .i32, 1, 4, some (fun _ => .int .i32 0)⟩ := by rfl
theorem ty90 : tyOf Tryd.prog 90 = some ⟨.int .i32, 1, 4, some (fun _ => .int .i32 0)⟩ := by rfl
theorem ty91 : tyOf Tryd.prog 91 = some ⟨.struct [(0, 12), (1, 12), (2, 57), (3, 85), (4, 5), (5, 5), (6, 86), (7, 87), (8, 88), (9, 89), (10, 90)], 11, 48, some (fun j => ([.int .u64 0, .int .u64 0, .int .u32 0, .int .u8 0, .int .u8 0, .int .u8 0, .int .u8 0, .nilFunc, .pointer none, .int .i32 0, .int .i32 0] : List Value).getD j undef)⟩ := by rfl
theorem ty92 : tyOf Tryd.prog 92 = some ⟨.struct [(0, 12), (1, 12), (2, 57), (3, 85), (4, 5), (5, 5), (6, 86), (7, 87), (8, 88), (9, 89), (10, 90)], 11, 48, some (fun j => ([.int .u64 0, .int .u64 0, .int .u32 0, .int .u8 0, .int .u8 0, .int .u8 0, .int .u8 0, .nilFunc, .pointer none, .int .i32 0, .int .i32 0] : List Value).getD j undef)⟩ := by rfl
end Go.Vh

set_option linter.unusedVariables false
set_option linter.unusedSimpArgs false
namespace Go.Vh
open Go Go.Vc Go.Proofs Go.Vw

/-! ### math/bits.RotateLeft32 -/
def rotlSp : Sp := ⟨[], mkE (α := UInt32 × Int) (fun (x, n) => [.p (.u32 (x)), .p (.v (.int .i64 (-n)))]) (fun (x, n) => []) (fun (x, n) => 1 ≤ n ∧ n ≤ 31) (fun (x, n) => [.p (.u32 (rotr x n))]) (fun (x, n) => [])⟩
def S_rotl : FuncId → Option Sp := fun _ => none
theorem S_rotl_ok : ∀ f s, S_rotl f = some s → FOK Tryd.prog gl f s := fun f s h => by cases h
theorem S_rotl_det : ∀ f s, S_rotl f = some s → SpDet s.sp := fun f s h => by cases h
set_option maxHeartbeats 1000000 in
set_option maxRecDepth 1000 in
theorem rotl_ok : FOK Tryd.prog gl 59 rotlSp := by
  refine FOK.ofE (tyOf_ok Tryd.prog) (slots := [4]) (nt := 17) Tryd.func59 rfl rfl rfl rfl (by decide) 2 (fun ⟨_, _⟩ => rfl) (by decide) (fun ⟨_, _⟩ => ⟨trivial, trivial, trivial⟩) ?_
  rintro ⟨x, n⟩ kk hlen hpre h
  replace hpre : 1 ≤ n ∧ n ≤ 31 := hpre
  show HT (cx Tryd.prog 17 (tyOf Tryd.prog) gl []) _ [(0, .p (.u32 (x))), (1, .p (.v (.int .i64 (-n))))] [] _
  refine HT.seq ?_
  refine HT.region S_rotl_ok ?_
  refine So.q rfl rfl (V.as (v := .p (.u32 0)) rfl ?_)
  refine So.e ?_
  show HT _ _ _ _ _
  refine HT.seq ?_
  refine HT.region S_rotl_ok ?_
  refine So.q rfl rfl (V.mv (v := .p (.v (.int .i64 _))) rfl ?_)
  refine So.q rfl rfl (V.cvN ty45 ty3 (a := (.v (.int .i64 _))) (r := (.u64 _)) rfl rfl ?_)
  refine So.q rfl rfl (V.bin (a := (.u64 _)) (b := (.u64 31)) (r := .u64 _) rfl rfl rfl trivial ?_)
  refine So.q rfl rfl (V.as (v := .p (.u64 _)) rfl ?_)
  refine So.e ?_
  show HT _ _ _ _ _
  refine HT.seq ?_
  refine HT.region S_rotl_ok ?_
  refine So.q rfl rfl (V.mv (v := .p (.u32 _)) rfl ?_)
  refine So.q rfl rfl (V.mv (v := .p (.u64 _)) rfl ?_)
  refine So.q rfl rfl (V.bin (a := (.u32 _)) (b := (.u64 _)) (r := .u32 _) rfl rfl rfl (by first | rfl | omega | (simp; done) | (simp; omega)) ?_)
  refine So.q rfl rfl (V.mv (v := .p (.u32 _)) rfl ?_)
  refine So.q rfl rfl (V.mv (v := .p (.u64 _)) rfl ?_)
  refine So.q rfl rfl (V.bin (a := (.u64 32)) (b := (.u64 _)) (r := .u64 _) rfl rfl rfl trivial ?_)
  refine So.q rfl rfl (V.bin (a := (.u32 _)) (b := (.u64 _)) (r := .u32 _) rfl rfl rfl (by first | rfl | omega | (simp; done) | (simp; omega)) ?_)
  refine So.q rfl rfl (V.bin (a := (.u32 _)) (b := (.u32 _)) (r := .u32 _) rfl rfl rfl trivial ?_)
  refine So.q rfl rfl (V.as (v := .p (.u32 _)) rfl ?_)
  refine So.e ?_
  show HT _ _ _ _ _
  refine HT.ret ?_
  exact ret_ok (sg []) h rfl rfl rfl trivial ⟨trivial, trivial⟩ rfl ⟨⟨⟨le_u32 (by first | rfl | exact rot_left hpre), trivial⟩, trivial⟩, trivial⟩

/-! ### sodality/sha2.right -/
def rightSp : Sp := ⟨[], mkE (α := UInt32 × Int) (fun (x, n) => [.p (.u32 (x)), .p (.v (.int .i64 (n)))]) (fun (x, n) => []) (fun (x, n) => 1 ≤ n ∧ n ≤ 31) (fun (x, n) => [.p (.u32 (rotr x n))]) (fun (x, n) => [])⟩
def S_right : FuncId → Option Sp := fun f => if f = 59 then some rotlSp else none
theorem S_right_ok : ∀ f s, S_right f = some s → FOK Tryd.prog gl f s := fun f s h => by
  unfold S_right at h
  split at h
  · rename_i e; cases h; subst e; exact rotl_ok
  cases h
theorem S_right_det : ∀ f s, S_right f = some s → SpDet s.sp := fun f s h => by
  unfold S_right at h
  split at h
  · cases h; exact mkE_det _ _ _ _ _
  cases h
set_option maxHeartbeats 1000000 in
set_option maxRecDepth 1000 in
theorem right_ok : FOK Tryd.prog gl 57 rightSp := by
  refine FOK.ofE (tyOf_ok Tryd.prog) (slots := [4]) (nt := 9) Tryd.func57 rfl rfl rfl rfl (by decide) 2 (fun ⟨_, _⟩ => rfl) (by decide) (fun ⟨_, _⟩ => ⟨trivial, trivial, trivial⟩) ?_
  rintro ⟨x, n⟩ kk hlen hpre h
  replace hpre : 1 ≤ n ∧ n ≤ 31 := hpre
  show HT (cx Tryd.prog 9 (tyOf Tryd.prog) gl []) _ [(0, .p (.u32 (x))), (1, .p (.v (.int .i64 (n))))] [] _
  refine HT.seq ?_
  refine HT.region S_right_ok ?_
  refine So.q rfl rfl (V.as (v := .p (.u32 0)) rfl ?_)
  refine So.e ?_
  show HT _ _ _ _ _
  refine HT.seq ?_
  refine HT.region S_right_ok ?_
  refine So.q rfl rfl (V.mv (v := .p (.u32 _)) rfl ?_)
  refine So.q rfl rfl (V.mv (v := .p (.v (.int .i64 _))) rfl ?_)
  refine So.q rfl rfl (V.neg rfl (by omega) ?_)
  refine So.n (lk rfl) (A.call0 [.p (.u32 _), .p (.v (.int .i64 _))] 1 rfl rfl rfl rfl ⟨trivial, trivial, trivial⟩ trivial (_, _) ⟨.refl _, .refl _, trivial⟩ trivial (by first | omega | decide) (Φ := fun _ => True) (fun _ _ => trivial) (.inl rfl) (v := .p (.u32 _)) rfl (O' := _) rfl (fun h1 => ?_))
  refine So.q rfl rfl (V.as (v := .p (.u32 _)) rfl ?_)
  refine So.e ?_
  show HT _ _ _ _ _
  refine HT.ret ?_
  exact ret_ok (sg []) h rfl rfl rfl trivial ⟨trivial, trivial⟩ rfl ⟨⟨⟨le_u32 (by first | rfl), trivial⟩, trivial⟩, trivial⟩

/-! ### sodality/sodalityref02.turned -/
def turnedSp : Sp := ⟨[], mkE (α := UInt32 × Int) (fun (x, n) => [.p (.u32 (x)), .p (.v (.int .i64 (n)))]) (fun (x, n) => []) (fun (x, n) => 1 ≤ n ∧ n ≤ 31) (fun (x, n) => [.p (.u32 (rotr x n))]) (fun (x, n) => [])⟩
def S_turned : FuncId → Option Sp := fun _ => none
theorem S_turned_ok : ∀ f s, S_turned f = some s → FOK Tryd.prog gl f s := fun f s h => by cases h
theorem S_turned_det : ∀ f s, S_turned f = some s → SpDet s.sp := fun f s h => by cases h
set_option maxHeartbeats 1000000 in
set_option maxRecDepth 1000 in
theorem turned_ok : FOK Tryd.prog gl 54 turnedSp := by
  refine FOK.ofE (tyOf_ok Tryd.prog) (slots := [4]) (nt := 13) Tryd.func54 rfl rfl rfl rfl (by decide) 2 (fun ⟨_, _⟩ => rfl) (by decide) (fun ⟨_, _⟩ => ⟨trivial, trivial, trivial⟩) ?_
  rintro ⟨x, n⟩ kk hlen hpre h
  replace hpre : 1 ≤ n ∧ n ≤ 31 := hpre
  show HT (cx Tryd.prog 13 (tyOf Tryd.prog) gl []) _ [(0, .p (.u32 (x))), (1, .p (.v (.int .i64 (n))))] [] _
  refine HT.seq ?_
  refine HT.region S_turned_ok ?_
  refine So.q rfl rfl (V.as (v := .p (.u32 0)) rfl ?_)
  refine So.e ?_
  show HT _ _ _ _ _
  refine HT.seq ?_
  refine HT.drawn S_turned_ok S_turned_det mixed (by kernel_rfl) ?_
  refine Sd.n (lk rfl) (V.mv (v := .p (.u32 _)) rfl ?_)
  refine Sd.n (lk rfl) (V.mv (v := .p (.v (.int .i64 _))) rfl ?_)
  refine Sd.n (lk rfl) (V.bin (a := (.u32 _)) (b := (.v (.int .i64 _))) (r := .u32 _) rfl rfl rfl (by first | rfl | omega | (simp; done) | (simp; omega)) ?_)
  refine Sd.n (lk rfl) (V.mv (v := .p (.u32 _)) rfl ?_)
  refine Sd.n (lk rfl) (V.mv (v := .p (.v (.int .i64 _))) rfl ?_)
  refine Sd.n (lk rfl) (V.subI rfl rfl (by omega) ?_)
  refine Sd.n (lk rfl) (V.bin (a := (.u32 _)) (b := (.v (.int .i64 _))) (r := .u32 _) rfl rfl rfl (by first | rfl | omega | (simp; done) | (simp; omega)) ?_)
  refine Sd.n (lk rfl) (V.bin (a := (.u32 _)) (b := (.u32 _)) (r := .u32 _) rfl rfl rfl trivial ?_)
  refine Sd.n (lk rfl) (V.as (v := .p (.u32 _)) rfl ?_)
  refine Sd.e ?_
  show HT _ _ _ _ _
  refine HT.ret ?_
  exact ret_ok (sg []) h rfl rfl rfl trivial ⟨trivial, trivial⟩ rfl ⟨⟨⟨le_u32 (by first | rfl), trivial⟩, trivial⟩, trivial⟩

/-! ### sodality/sha2.begin -/
def beginSp : Sp := ⟨[], mkE (α := Unit) (fun _ => []) (fun _ => []) (fun _ => True) (fun _ => [.agg 8 (fun j => .u32 (h0 j))]) (fun _ => [])⟩
def S_begin : FuncId → Option Sp := fun _ => none
theorem S_begin_ok : ∀ f s, S_begin f = some s → FOK Tryd.prog gl f s := fun f s h => by cases h
theorem S_begin_det : ∀ f s, S_begin f = some s → SpDet s.sp := fun f s h => by cases h
set_option maxHeartbeats 1000000 in
set_option maxRecDepth 5000 in
theorem begin_ok : FOK Tryd.prog gl 47 beginSp := by
  refine FOK.ofEC (tyOf_ok Tryd.prog) (rvs := [.cell 0 64]) (nt := 2) Tryd.func47 rfl rfl rfl rfl (by decide) 0 (fun _ => rfl) (by decide) (fun _ => trivial) ?_
  rintro _ kk hlen hpre h
  replace hpre : True := hpre
  show HT (cx Tryd.prog 2 (tyOf Tryd.prog) gl []) _ [] [] _
  refine HT.seq ?_
  refine HT.region S_begin_ok ?_
  refine So.n (lk rfl) (A.alloc 1 1 ty64 rfl trivial (f := fun _ => .u32 0) (fun _ _ => rfl) ?_)
  refine So.e ?_
  show HT _ _ _ _ _
  refine HT.seq ?_
  refine HT.region S_begin_ok ?_
  refine So.n (lk rfl) (A.bldA ty64 rfl rfl ⟨by first | exact trivial | exact rfl | (intro j hj; first | trivial | rfl | (simp [BV.one]; done)), by first | exact trivial | exact rfl | (intro j hj; first | trivial | rfl | (simp [BV.one]; done)), by first | exact trivial | exact rfl | (intro j hj; first | trivial | rfl | (simp [BV.one]; done)), by first | exact trivial | exact rfl | (intro j hj; first | trivial | rfl | (simp [BV.one]; done)), by first | exact trivial | exact rfl | (intro j hj; first | trivial | rfl | (simp [BV.one]; done)), by first | exact trivial | exact rfl | (intro j hj; first | trivial | rfl | (simp [BV.one]; done)), by first | exact trivial | exact rfl | (intro j hj; first | trivial | rfl | (simp [BV.one]; done)), by first | exact trivial | exact rfl | (intro j hj; first | trivial | rfl | (simp [BV.one]; done)), trivial⟩ rfl (f := fun j => .u32 (h0 j)) (by exact allP_spec (P := fun j => _ = _) ⟨⟨⟨⟨⟨⟨⟨⟨trivial, rfl⟩, rfl⟩, rfl⟩, rfl⟩, rfl⟩, rfl⟩, rfl⟩, rfl⟩) ?_)
  refine So.s (A.stoAg ty64 rfl (n := 8) rfl (by decide) (by intro j hj; first | rfl | trivial | (match j, hj with | 0, _ => trivial | 1, _ => trivial | 2, _ => trivial | 3, _ => trivial | 4, _ => trivial | 5, _ => trivial | 6, _ => trivial | 7, _ => trivial)) rfl rfl rfl ?_)
  refine So.e ?_
  show HT _ _ _ _ _
  refine HT.ret ?_
  exact retC_ok (sg []) [(0, .ptr 1 0)] [(1, ⟨64, 1, 8, true, .rows (fun j => .u32 (h0 j))⟩)] h ⟨⟨⟨.refl _, rfl⟩, trivial⟩, ⟨⟨_, rfl, .inr (ob_rows rfl (by intro j hj; first | rfl | ((try dsimp only); (first | rfl | omega | (simp; done) | (simp; omega))))), trivial⟩, trivial⟩⟩ ⟨rvA_cell ty64 rfl rfl rfl rfl (Nat.le_refl _) (le_agg (fun j _ => by first | rfl | (dsimp only; rw [Nat.zero_add]))), trivial⟩ trivial rfl trivial ⟨trivial, trivial⟩ rfl

/-! ### sodality/sodalityref02.constants -/
def constantsSp : Sp := ⟨[], mkE (α := Unit) (fun _ => []) (fun _ => []) (fun _ => True) (fun _ => [.agg 64 (fun j => .u32 (K256.getD j 0))]) (fun _ => [])⟩
def S_constants : FuncId → Option Sp := fun _ => none
theorem S_constants_ok : ∀ f s, S_constants f = some s → FOK Tryd.prog gl f s := fun f s h => by cases h
theorem S_constants_det : ∀ f s, S_constants f = some s → SpDet s.sp := fun f s h => by cases h
set_option maxHeartbeats 1000000 in
set_option maxRecDepth 20000 in
theorem constants_ok : FOK Tryd.prog gl 53 constantsSp := by
  refine FOK.ofEC (tyOf_ok Tryd.prog) (rvs := [.cell 0 70]) (nt := 2) Tryd.func53 rfl rfl rfl rfl (by decide) 0 (fun _ => rfl) (by decide) (fun _ => trivial) ?_
  rintro _ kk hlen hpre h
  replace hpre : True := hpre
  show HT (cx Tryd.prog 2 (tyOf Tryd.prog) gl []) _ [] [] _
  refine HT.seq ?_
  refine HT.region S_constants_ok ?_
  refine So.n (lk rfl) (A.alloc 1 1 ty70 rfl trivial (f := fun _ => .u32 0) (fun _ _ => rfl) ?_)
  refine So.e ?_
  show HT _ _ _ _ _
  refine HT.seq ?_
  refine HT.region S_constants_ok ?_
  refine So.n (lk rfl) (A.bldA ty70 rfl rfl ⟨by first | exact trivial | exact rfl | (intro j hj; first | trivial | rfl | (simp [BV.one]; done)), by first | exact trivial | exact rfl | (intro j hj; first | trivial | rfl | (simp [BV.one]; done)), by first | exact trivial | exact rfl | (intro j hj; first | trivial | rfl | (simp [BV.one]; done)), by first | exact trivial | exact rfl | (intro j hj; first | trivial | rfl | (simp [BV.one]; done)), by first | exact trivial | exact rfl | (intro j hj; first | trivial | rfl | (simp [BV.one]; done)), by first | exact trivial | exact rfl | (intro j hj; first | trivial | rfl | (simp [BV.one]; done)), by first | exact trivial | exact rfl | (intro j hj; first | trivial | rfl | (simp [BV.one]; done)), by first | exact trivial | exact rfl | (intro j hj; first | trivial | rfl | (simp [BV.one]; done)), by first | exact trivial | exact rfl | (intro j hj; first | trivial | rfl | (simp [BV.one]; done)), by first | exact trivial | exact rfl | (intro j hj; first | trivial | rfl | (simp [BV.one]; done)), by first | exact trivial | exact rfl | (intro j hj; first | trivial | rfl | (simp [BV.one]; done)), by first | exact trivial | exact rfl | (intro j hj; first | trivial | rfl | (simp [BV.one]; done)), by first | exact trivial | exact rfl | (intro j hj; first | trivial | rfl | (simp [BV.one]; done)), by first | exact trivial | exact rfl | (intro j hj; first | trivial | rfl | (simp [BV.one]; done)), by first | exact trivial | exact rfl | (intro j hj; first | trivial | rfl | (simp [BV.one]; done)), by first | exact trivial | exact rfl | (intro j hj; first | trivial | rfl | (simp [BV.one]; done)), by first | exact trivial | exact rfl | (intro j hj; first | trivial | rfl | (simp [BV.one]; done)), by first | exact trivial | exact rfl | (intro j hj; first | trivial | rfl | (simp [BV.one]; done)), by first | exact trivial | exact rfl | (intro j hj; first | trivial | rfl | (simp [BV.one]; done)), by first | exact trivial | exact rfl | (intro j hj; first | trivial | rfl | (simp [BV.one]; done)), by first | exact trivial | exact rfl | (intro j hj; first | trivial | rfl | (simp [BV.one]; done)), by first | exact trivial | exact rfl | (intro j hj; first | trivial | rfl | (simp [BV.one]; done)), by first | exact trivial | exact rfl | (intro j hj; first | trivial | rfl | (simp [BV.one]; done)), by first | exact trivial | exact rfl | (intro j hj; first | trivial | rfl | (simp [BV.one]; done)), by first | exact trivial | exact rfl | (intro j hj; first | trivial | rfl | (simp [BV.one]; done)), by first | exact trivial | exact rfl | (intro j hj; first | trivial | rfl | (simp [BV.one]; done)), by first | exact trivial | exact rfl | (intro j hj; first | trivial | rfl | (simp [BV.one]; done)), by first | exact trivial | exact rfl | (intro j hj; first | trivial | rfl | (simp [BV.one]; done)), by first | exact trivial | exact rfl | (intro j hj; first | trivial | rfl | (simp [BV.one]; done)), by first | exact trivial | exact rfl | (intro j hj; first | trivial | rfl | (simp [BV.one]; done)), by first | exact trivial | exact rfl | (intro j hj; first | trivial | rfl | (simp [BV.one]; done)), by first | exact trivial | exact rfl | (intro j hj; first | trivial | rfl | (simp [BV.one]; done)), by first | exact trivial | exact rfl | (intro j hj; first | trivial | rfl | (simp [BV.one]; done)), by first | exact trivial | exact rfl | (intro j hj; first | trivial | rfl | (simp [BV.one]; done)), by first | exact trivial | exact rfl | (intro j hj; first | trivial | rfl | (simp [BV.one]; done)), by first | exact trivial | exact rfl | (intro j hj; first | trivial | rfl | (simp [BV.one]; done)), by first | exact trivial | exact rfl | (intro j hj; first | trivial | rfl | (simp [BV.one]; done)), by first | exact trivial | exact rfl | (intro j hj; first | trivial | rfl | (simp [BV.one]; done)), by first | exact trivial | exact rfl | (intro j hj; first | trivial | rfl | (simp [BV.one]; done)), by first | exact trivial | exact rfl | (intro j hj; first | trivial | rfl | (simp [BV.one]; done)), by first | exact trivial | exact rfl | (intro j hj; first | trivial | rfl | (simp [BV.one]; done)), by first | exact trivial | exact rfl | (intro j hj; first | trivial | rfl | (simp [BV.one]; done)), by first | exact trivial | exact rfl | (intro j hj; first | trivial | rfl | (simp [BV.one]; done)), by first | exact trivial | exact rfl | (intro j hj; first | trivial | rfl | (simp [BV.one]; done)), by first | exact trivial | exact rfl | (intro j hj; first | trivial | rfl | (simp [BV.one]; done)), by first | exact trivial | exact rfl | (intro j hj; first | trivial | rfl | (simp [BV.one]; done)), by first | exact trivial | exact rfl | (intro j hj; first | trivial | rfl | (simp [BV.one]; done)), by first | exact trivial | exact rfl | (intro j hj; first | trivial | rfl | (simp [BV.one]; done)), by first | exact trivial | exact rfl | (intro j hj; first | trivial | rfl | (simp [BV.one]; done)), by first | exact trivial | exact rfl | (intro j hj; first | trivial | rfl | (simp [BV.one]; done)), by first | exact trivial | exact rfl | (intro j hj; first | trivial | rfl | (simp [BV.one]; done)), by first | exact trivial | exact rfl | (intro j hj; first | trivial | rfl | (simp [BV.one]; done)), by first | exact trivial | exact rfl | (intro j hj; first | trivial | rfl | (simp [BV.one]; done)), by first | exact trivial | exact rfl | (intro j hj; first | trivial | rfl | (simp [BV.one]; done)), by first | exact trivial | exact rfl | (intro j hj; first | trivial | rfl | (simp [BV.one]; done)), by first | exact trivial | exact rfl | (intro j hj; first | trivial | rfl | (simp [BV.one]; done)), by first | exact trivial | exact rfl | (intro j hj; first | trivial | rfl | (simp [BV.one]; done)), by first | exact trivial | exact rfl | (intro j hj; first | trivial | rfl | (simp [BV.one]; done)), by first | exact trivial | exact rfl | (intro j hj; first | trivial | rfl | (simp [BV.one]; done)), by first | exact trivial | exact rfl | (intro j hj; first | trivial | rfl | (simp [BV.one]; done)), by first | exact trivial | exact rfl | (intro j hj; first | trivial | rfl | (simp [BV.one]; done)), by first | exact trivial | exact rfl | (intro j hj; first | trivial | rfl | (simp [BV.one]; done)), by first | exact trivial | exact rfl | (intro j hj; first | trivial | rfl | (simp [BV.one]; done)), by first | exact trivial | exact rfl | (intro j hj; first | trivial | rfl | (simp [BV.one]; done)), trivial⟩ rfl (f := fun j => .u32 (K256.getD j 0)) (by exact allP_spec (P := fun j => _ = _) ⟨⟨⟨⟨⟨⟨⟨⟨⟨⟨⟨⟨⟨⟨⟨⟨⟨⟨⟨⟨⟨⟨⟨⟨⟨⟨⟨⟨⟨⟨⟨⟨⟨⟨⟨⟨⟨⟨⟨⟨⟨⟨⟨⟨⟨⟨⟨⟨⟨⟨⟨⟨⟨⟨⟨⟨⟨⟨⟨⟨⟨⟨⟨⟨trivial, rfl⟩, rfl⟩, rfl⟩, rfl⟩, rfl⟩, rfl⟩, rfl⟩, rfl⟩, rfl⟩, rfl⟩, rfl⟩, rfl⟩, rfl⟩, rfl⟩, rfl⟩, rfl⟩, rfl⟩, rfl⟩, rfl⟩, rfl⟩, rfl⟩, rfl⟩, rfl⟩, rfl⟩, rfl⟩, rfl⟩, rfl⟩, rfl⟩, rfl⟩, rfl⟩, rfl⟩, rfl⟩, rfl⟩, rfl⟩, rfl⟩, rfl⟩, rfl⟩, rfl⟩, rfl⟩, rfl⟩, rfl⟩, rfl⟩, rfl⟩, rfl⟩, rfl⟩, rfl⟩, rfl⟩, rfl⟩, rfl⟩, rfl⟩, rfl⟩, rfl⟩, rfl⟩, rfl⟩, rfl⟩, rfl⟩, rfl⟩, rfl⟩, rfl⟩, rfl⟩, rfl⟩, rfl⟩, rfl⟩, rfl⟩) ?_)
  refine So.s (A.stoAg ty70 rfl (n := 64) rfl (by decide) (by intro j hj; first | rfl | trivial) rfl rfl rfl ?_)
  refine So.e ?_
  show HT _ _ _ _ _
  refine HT.ret ?_
  exact retC_ok (sg []) [(0, .ptr 1 0)] [(1, ⟨70, 1, 64, true, .rows (fun j => .u32 (K256.getD j 0))⟩)] h ⟨⟨⟨.refl _, rfl⟩, trivial⟩, ⟨⟨_, rfl, .inr (ob_rows rfl (by intro j hj; first | rfl | ((try dsimp only); (first | rfl | omega | (simp; done) | (simp; omega))))), trivial⟩, trivial⟩⟩ ⟨rvA_cell ty70 rfl rfl rfl rfl (Nat.le_refl _) (le_agg (fun j _ => by first | rfl | (dsimp only; rw [Nat.zero_add]))), trivial⟩ trivial rfl trivial ⟨trivial, trivial⟩ rfl

end Go.Vh

set_option linter.unusedVariables false
set_option linter.unusedSimpArgs false
namespace Go.Vh
open Go Go.Vc Go.Proofs Go.Vw

/-! ### sodality/sha2.words -/
def wordsSp : Sp := ⟨[], mkE (α := (List UInt8)) (fun b => [.p (.bs (b))]) (fun b => []) (fun b => 64 ≤ b.length) (fun b => [.agg 64 (fun j => .u32 (wd b j))]) (fun b => [])⟩
def S_words : FuncId → Option Sp := fun f => if f = 57 then some rightSp else none
theorem S_words_ok : ∀ f s, S_words f = some s → FOK Tryd.prog gl f s := fun f s h => by
  unfold S_words at h
  split at h
  · rename_i e; cases h; subst e; exact right_ok
  cases h
theorem S_words_det : ∀ f s, S_words f = some s → SpDet s.sp := fun f s h => by
  unfold S_words at h
  split at h
  · cases h; exact mkE_det _ _ _ _ _
  cases h
set_option maxHeartbeats 1000000 in
set_option maxRecDepth 20000 in
theorem words_ok : FOK Tryd.prog gl 56 wordsSp := by
  refine FOK.ofEC (tyOf_ok Tryd.prog) (rvs := [.cell 2 70]) (nt := 89) Tryd.func56 rfl rfl rfl rfl (by decide) 1 (fun _ => rfl) (by decide) (fun _ => ⟨trivial, trivial⟩) ?_
  rintro b kk hlen hpre h
  have hl0 : (b).length ≤ 9223372036854775807 := hlen.1
  replace hpre : 64 ≤ b.length := hpre
  show HT (cx Tryd.prog 89 (tyOf Tryd.prog) gl []) _ [(0, .p (.bs (b)))] [] _
  refine HT.seq ?_
  refine HT.region S_words_ok ?_
  refine So.n (lk rfl) (A.alloc 1 1 ty70 rfl trivial (f := fun _ => .u32 0) (fun _ _ => rfl) ?_)
  refine So.e ?_
  show HT _ _ _ _ _
  refine HT.seq ?_
  refine HT.region S_words_ok ?_
  refine So.n (lk rfl) (A.alloc 2 1 ty70 rfl trivial (f := fun _ => .u32 0) (fun _ _ => rfl) ?_)
  refine So.e ?_
  show HT _ _ _ _ _
  refine HT.seq ?_
  refine HT.seq ?_
  refine HT.region S_words_ok ?_
  refine So.q rfl rfl (V.mv (v := .p (.v (.int .i64 (0)))) rfl ?_)
  refine So.e ?_
  show HT _ _ _ _ _
  refine HT.block ?_
  refine R.loop (σ := Nat) (fun s => [(8, .p (.v (.int .i64 ((s : Int)))))]) (fun s => [(2, ⟨70, 1, 64, true, .rows (fun j => .u32 (if j < s then be b j else 0))⟩)]) [0, 2, 3] [1] (fun s => s ≤ 16) (fun s => 16 - s) (0) (fr0 := [(0, .p (.bs _)), (2, .ptr 1 0), (3, .ptr 2 0)]) (O0 := [(1, ⟨_, _, _, _, .rows _⟩)]) rfl rfl (by first | rfl | omega | (simp; done) | (simp; omega)) ⟨⟨⟨le_int (by first | rfl | omega | (simp; done)), trivial⟩, ⟨.refl _, trivial⟩, ⟨.refl _, rfl⟩, ⟨.refl _, rfl⟩, trivial⟩, ⟨⟨_, rfl, .inr (ob_rows (by first | rfl | ((try dsimp only); first | rfl | omega | (simp; done))) (by first | rfl | ((try dsimp only); first | rfl | omega | (simp; done)))), trivial⟩, ⟨_, rfl, .inl rfl, trivial⟩, trivial⟩⟩ (fun s hP0 => ?_)
  refine HT.seq ?_
  refine HT.region S_words_ok ?_
  refine So.q rfl rfl (V.bin (a := (.v (.int .i64 ((_ : Nat) : Int)))) (b := (.v (.int .i64 (16)))) (r := .v (.bool _)) rfl rfl rfl trivial ?_)
  refine So.e ?_
  show HT _ _ _ _ _
  refine HT.seq ?_
  refine R.cond rfl rfl (fun h1 => ?_) (fun h1 => ?_)
  · have h1 := of_decide_eq_true h1
    refine HT.skip ?_
    show HT _ _ _ _ _
    refine HT.seq ?_
    refine HT.block ?_
    refine HT.seq ?_
    refine HT.region S_words_ok ?_
    refine So.q rfl rfl (V.mv (v := .p (.v (.int .i64 ((_ : Nat) : Int)))) rfl ?_)
    refine So.q rfl rfl (V.as (v := .p (.v (.int .i64 ((_ : Nat) : Int)))) rfl ?_)
    refine So.e ?_
    show HT _ _ _ _ _
    refine HT.tail S_words_ok mixed 35 (by kernel_rfl) (by kernel_rfl) ?_
    refine So.q rfl rfl (V.mv (v := .p (.v (.int .i64 ((_ : Nat) : Int)))) rfl ?_)
    refine So.q rfl rfl (V.mv (v := .p (.bs _)) rfl ?_)
    refine So.q rfl rfl (V.mv (v := .p (.v (.int .i64 ((_ : Nat) : Int)))) rfl ?_)
    refine So.q rfl rfl (V.mulI rfl rfl (by omega) ?_)
    refine So.q rfl rfl (V.ixBs (mi := 4 * s) ty22 ty5 rfl rfl rfl (by omega) (by omega) ?_)
    refine So.q rfl rfl (V.ldRp ty5 rfl rfl (lk rfl) (v := (.u8 _)) rfl ?_)
    refine So.q rfl rfl (V.cvN ty57 ty5 (a := (.u8 _)) (r := (.u32 _)) rfl rfl ?_)
    refine So.q rfl rfl (V.shlC (n := 24) (a := (.u32 _)) (b := (.u64 24)) (r := .u32 (u32Shl _ 24)) rfl rfl rfl rfl ?_)
    refine So.q rfl rfl (V.mv (v := .p (.bs _)) rfl ?_)
    refine So.q rfl rfl (V.mv (v := .p (.v (.int .i64 ((_ : Nat) : Int)))) rfl ?_)
    refine So.q rfl rfl (V.mulI rfl rfl (by omega) ?_)
    refine So.q rfl rfl (V.addI rfl rfl (by omega) ?_)
    refine So.q rfl rfl (V.ixBs (mi := 4 * s + 1) ty22 ty5 rfl rfl rfl (by omega) (by omega) ?_)
    refine So.q rfl rfl (V.ldRp ty5 rfl rfl (lk rfl) (v := (.u8 _)) rfl ?_)
    refine So.q rfl rfl (V.cvN ty57 ty5 (a := (.u8 _)) (r := (.u32 _)) rfl rfl ?_)
    refine So.q rfl rfl (V.shlC (n := 16) (a := (.u32 _)) (b := (.u64 16)) (r := .u32 (u32Shl _ 16)) rfl rfl rfl rfl ?_)
    refine So.q rfl rfl (V.bin (a := (.u32 _)) (b := (.u32 _)) (r := .u32 _) rfl rfl rfl trivial ?_)
    refine So.q rfl rfl (V.mv (v := .p (.bs _)) rfl ?_)
    refine So.q rfl rfl (V.mv (v := .p (.v (.int .i64 ((_ : Nat) : Int)))) rfl ?_)
    refine So.q rfl rfl (V.mulI rfl rfl (by omega) ?_)
    refine So.q rfl rfl (V.addI rfl rfl (by omega) ?_)
    refine So.q rfl rfl (V.ixBs (mi := 4 * s + 2) ty22 ty5 rfl rfl rfl (by omega) (by omega) ?_)
    refine So.q rfl rfl (V.ldRp ty5 rfl rfl (lk rfl) (v := (.u8 _)) rfl ?_)
    refine So.q rfl rfl (V.cvN ty57 ty5 (a := (.u8 _)) (r := (.u32 _)) rfl rfl ?_)
    refine So.q rfl rfl (V.shlC (n := 8) (a := (.u32 _)) (b := (.u64 8)) (r := .u32 (u32Shl _ 8)) rfl rfl rfl rfl ?_)
    refine So.q rfl rfl (V.bin (a := (.u32 _)) (b := (.u32 _)) (r := .u32 _) rfl rfl rfl trivial ?_)
    refine So.q rfl rfl (V.mv (v := .p (.bs _)) rfl ?_)
    refine So.q rfl rfl (V.mv (v := .p (.v (.int .i64 ((_ : Nat) : Int)))) rfl ?_)
    refine So.q rfl rfl (V.mulI rfl rfl (by omega) ?_)
    refine So.q rfl rfl (V.addI rfl rfl (by omega) ?_)
    refine So.q rfl rfl (V.ixBs (mi := 4 * s + 3) ty22 ty5 rfl rfl rfl (by omega) (by omega) ?_)
    refine So.q rfl rfl (V.ldRp ty5 rfl rfl (lk rfl) (v := (.u8 _)) rfl ?_)
    refine So.q rfl rfl (V.cvN ty57 ty5 (a := (.u8 _)) (r := (.u32 _)) rfl rfl ?_)
    refine So.q rfl rfl (V.bin (a := (.u32 _)) (b := (.u32 _)) (r := .u32 _) rfl rfl rfl trivial ?_)
    refine So.q rfl rfl (V.ixArrP10 (mi := s) ty70 ty57 rfl rfl rfl (by first | rfl | omega | (simp; done) | (simp; omega)) rfl (by omega) (by omega) ?_)
    refine So.s (A.sto ty57 rfl rfl rfl (v := .p (.u32 _)) rfl trivial rfl (by first | rfl | omega | (simp; done) | (simp; omega)) (c' := .rows (fun j => .u32 (if j = s then be b s else if j < s then be b j else 0))) (congrArg (fun g => some (OC.rows g)) (funext fun j => by by_cases h9 : j = s <;> simp [h9, be])) rfl ?_)
    refine So.e ?_
    show HT _ _ _ _ _
    refine HT.region S_words_ok ?_
    refine So.q rfl rfl (V.addI rfl rfl (by omega) ?_)
    refine So.q rfl rfl (V.mv (v := .p (.v (.int .i64 _))) rfl ?_)
    refine So.e ?_
    refine ⟨s + 1, by first | rfl | omega | (simp; done) | (simp; omega), by omega, ⟨⟨⟨le_int (by first | rfl | omega | (simp; done) | (simp; omega)), trivial⟩, ⟨.refl _, trivial⟩, ⟨.refl _, rfl⟩, ⟨.refl _, rfl⟩, trivial⟩, ⟨⟨_, rfl, .inr (ob_rows (by first | rfl | ((try dsimp only); (intro j hj; by_cases h9 : j = s <;> simp [h9] <;> (try rw [if_pos (by omega)]) <;> (try (by_cases h8 : j < s <;> simp [h8] <;> omega))))) (by first | rfl | ((try dsimp only); (intro j hj; by_cases h9 : j = s <;> simp [h9] <;> (try rw [if_pos (by omega)]) <;> (try (by_cases h8 : j < s <;> simp [h8] <;> omega)))))), trivial⟩, ⟨_, rfl, .inl rfl, trivial⟩, trivial⟩⟩⟩
  · have h1 := of_decide_eq_false h1
    refine HT.exit ?_
    show HT _ _ _ _ _
    refine HT.seq ?_
    refine HT.seq ?_
    refine HT.region S_words_ok ?_
    refine So.q rfl rfl (V.as (v := .p (.v (.int .i64 (16)))) rfl ?_)
    refine So.e ?_
    show HT _ _ _ _ _
    refine HT.block ?_
    refine R.loop (σ := Nat) (fun s => [(5, .p (.v (.int .i64 (((16 + s : Nat) : Int)))))]) (fun s => [(2, ⟨70, 1, 64, true, .rows (fun j => .u32 (wdN b s j))⟩)]) [2, 3] [1] (fun s => s ≤ 48) (fun s => 48 - s) (0) (fr0 := [(2, .ptr 1 0), (3, .ptr 2 0)]) (O0 := [(1, ⟨_, _, _, _, .rows _⟩)]) rfl rfl (by first | rfl | omega | (simp; done) | (simp; omega)) ⟨⟨⟨le_int (by first | rfl | omega | (intro j _; rw [show s = 16 by omega]; rfl)), trivial⟩, ⟨.refl _, rfl⟩, ⟨.refl _, rfl⟩, trivial⟩, ⟨⟨_, rfl, .inr (ob_rows (by first | rfl | ((try dsimp only); first | rfl | omega | (intro j _; rw [show s = 16 by omega]; rfl))) (by first | rfl | ((try dsimp only); first | rfl | omega | (intro j _; rw [show s = 16 by omega]; rfl)))), trivial⟩, ⟨_, rfl, .inl rfl, trivial⟩, trivial⟩⟩ (fun s hP1 => ?_)
    refine HT.seq ?_
    refine HT.seq ?_
    refine HT.region S_words_ok ?_
    refine So.q rfl rfl (V.mv (v := .p (.v (.int .i64 _))) rfl ?_)
    refine So.q rfl rfl (V.bin (a := (.v (.int .i64 _))) (b := (.v (.int .i64 (64)))) (r := .v (.bool _)) rfl rfl rfl trivial ?_)
    refine So.e ?_
    show HT _ _ _ _ _
    refine R.cond rfl rfl (fun h2 => ?_) (fun h2 => ?_)
    · have h2 := of_decide_eq_true h2
      refine HT.skip ?_
      show HT _ _ _ _ _
      refine HT.seq ?_
      refine HT.block ?_
      refine HT.seq ?_
      refine HT.drawn S_words_ok S_words_det mixed (by kernel_rfl) ?_
      refine Sd.n (lk rfl) (V.mv (v := .p (.v (.int .i64 _))) rfl ?_)
      refine Sd.n (lk rfl) (V.subI rfl rfl (by omega) ?_)
      refine Sd.n (lk rfl) (V.ixArrP10 (mi := s + 1) ty70 ty57 rfl rfl rfl (by first | rfl | omega | (simp; done) | (simp; omega)) rfl (by omega) (by omega) ?_)
      refine Sd.n (lk rfl) (V.ldPtr ty57 rfl rfl rfl (by first | rfl | omega | (simp; done) | (simp; omega)) (v := .p (.u32 _)) rfl ?_)
      refine Sd.n (lk rfl) (V.mv (v := .p (.v (.int .i64 _))) rfl ?_)
      refine Sd.n (lk rfl) (V.subI rfl rfl (by omega) ?_)
      refine Sd.n (lk rfl) (V.ixArrP10 (mi := s + 14) ty70 ty57 rfl rfl rfl (by first | rfl | omega | (simp; done) | (simp; omega)) rfl (by omega) (by omega) ?_)
      refine Sd.n (lk rfl) (V.ldPtr ty57 rfl rfl rfl (by first | rfl | omega | (simp; done) | (simp; omega)) (v := .p (.u32 _)) rfl ?_)
      refine Sd.n (lk rfl) (V.as (v := .p (.u32 _)) rfl ?_)
      refine Sd.n (lk rfl) (V.as (v := .p (.u32 _)) rfl ?_)
      refine Sd.e ?_
      show HT _ _ _ _ _
      refine HT.planS S_words_ok S_words_det mixed [] [⟨[0, 1, 2, 3, 4, 5, 6, 7, 8, 9, 10, 11, 12, 13, 14, 15, 16, 17, 18, 19, 20, 21, 22, 23, 24, 25, 26, 27, 28], 29, []⟩] (by kernel_rfl) ?_
      refine Pl.l0 ?_
      refine Si.n rfl (lk rfl) (V.mv (v := .p (.v (.int .i64 _))) rfl ?_)
      refine Si.n rfl (lk rfl) (V.mv (v := .p (.v (.int .i64 _))) rfl ?_)
      refine Si.n rfl (lk rfl) (V.subI rfl rfl (by omega) ?_)
      refine Si.n rfl (lk rfl) (V.ixArrP10 (mi := s) ty70 ty57 rfl rfl rfl (by first | rfl | omega | (simp; done) | (simp; omega)) rfl (by omega) (by omega) ?_)
      refine Si.n rfl (lk rfl) (V.ldPtr ty57 rfl rfl rfl (by first | rfl | omega | (simp; done) | (simp; omega)) (v := .p (.u32 _)) rfl ?_)
      refine Si.n rfl (lk rfl) (V.mv (v := .p (.v (.int .i64 _))) rfl ?_)
      refine Si.n rfl (lk rfl) (V.subI rfl rfl (by omega) ?_)
      refine Si.n rfl (lk rfl) (V.ixArrP10 (mi := s + 9) ty70 ty57 rfl rfl rfl (by first | rfl | omega | (simp; done) | (simp; omega)) rfl (by omega) (by omega) ?_)
      refine Si.n rfl (lk rfl) (V.ldPtr ty57 rfl rfl rfl (by first | rfl | omega | (simp; done) | (simp; omega)) (v := .p (.u32 _)) rfl ?_)
      refine Si.n rfl (lk rfl) (V.bin (a := (.u32 _)) (b := (.u32 _)) (r := .u32 _) rfl rfl rfl trivial ?_)
      refine Si.n rfl (lk rfl) (V.mv (v := .p (.u32 _)) rfl ?_)
      refine Si.n rfl (lk rfl) (V.call [.p (.u32 _), .p (.v (.int .i64 _))] 3 rfl rfl rfl rfl ⟨trivial, trivial, trivial⟩ trivial (_, _) ⟨.refl _, .refl _, trivial⟩ trivial (by first | omega | decide) (Φ := fun _ => True) (fun _ _ => trivial) (.inl ⟨trivial, trivial, trivial⟩) (v := .p (.u32 _)) rfl (fun h3 => ?_))
      refine Si.n rfl (lk rfl) (V.mv (v := .p (.u32 _)) rfl ?_)
      refine Si.n rfl (lk rfl) (V.call [.p (.u32 _), .p (.v (.int .i64 _))] 3 rfl rfl rfl rfl ⟨trivial, trivial, trivial⟩ trivial (_, _) ⟨.refl _, .refl _, trivial⟩ trivial (by first | omega | decide) (Φ := fun _ => True) (fun _ _ => trivial) (.inl ⟨trivial, trivial, trivial⟩) (v := .p (.u32 _)) rfl (fun h4 => ?_))
      refine Si.n rfl (lk rfl) (V.bin (a := (.u32 _)) (b := (.u32 _)) (r := .u32 _) rfl rfl rfl trivial ?_)
      refine Si.n rfl (lk rfl) (V.mv (v := .p (.u32 _)) rfl ?_)
      refine Si.n rfl (lk rfl) (V.shrC (n := 3) (a := (.u32 _)) (b := (.u64 3)) (r := .u32 (u32Shr _ 3)) rfl rfl rfl rfl ?_)
      refine Si.n rfl (lk rfl) (V.bin (a := (.u32 _)) (b := (.u32 _)) (r := .u32 _) rfl rfl rfl trivial ?_)
      refine Si.n rfl (lk rfl) (V.bin (a := (.u32 _)) (b := (.u32 _)) (r := .u32 _) rfl rfl rfl trivial ?_)
      refine Si.n rfl (lk rfl) (V.mv (v := .p (.u32 _)) rfl ?_)
      refine Si.n rfl (lk rfl) (V.call [.p (.u32 _), .p (.v (.int .i64 _))] 3 rfl rfl rfl rfl ⟨trivial, trivial, trivial⟩ trivial (_, _) ⟨.refl _, .refl _, trivial⟩ trivial (by first | omega | decide) (Φ := fun _ => True) (fun _ _ => trivial) (.inl ⟨trivial, trivial, trivial⟩) (v := .p (.u32 _)) rfl (fun h5 => ?_))
      refine Si.n rfl (lk rfl) (V.mv (v := .p (.u32 _)) rfl ?_)
      refine Si.n rfl (lk rfl) (V.call [.p (.u32 _), .p (.v (.int .i64 _))] 3 rfl rfl rfl rfl ⟨trivial, trivial, trivial⟩ trivial (_, _) ⟨.refl _, .refl _, trivial⟩ trivial (by first | omega | decide) (Φ := fun _ => True) (fun _ _ => trivial) (.inl ⟨trivial, trivial, trivial⟩) (v := .p (.u32 _)) rfl (fun h6 => ?_))
      refine Si.n rfl (lk rfl) (V.bin (a := (.u32 _)) (b := (.u32 _)) (r := .u32 _) rfl rfl rfl trivial ?_)
      refine Si.n rfl (lk rfl) (V.mv (v := .p (.u32 _)) rfl ?_)
      refine Si.n rfl (lk rfl) (V.shrC (n := 10) (a := (.u32 _)) (b := (.u64 10)) (r := .u32 (u32Shr _ 10)) rfl rfl rfl rfl ?_)
      refine Si.n rfl (lk rfl) (V.bin (a := (.u32 _)) (b := (.u32 _)) (r := .u32 _) rfl rfl rfl trivial ?_)
      refine Si.n rfl (lk rfl) (V.bin (a := (.u32 _)) (b := (.u32 _)) (r := .u32 _) rfl rfl rfl trivial ?_)
      refine Si.n rfl (lk rfl) (V.ixArrP10 (mi := 16 + s) ty70 ty57 rfl rfl rfl (by first | rfl | omega | (simp; done) | (simp; omega)) rfl (by omega) (by omega) ?_)
      refine Si.e ?_
      refine ⟨flEq_nil, ?_⟩
      refine Lo.s rfl (A.sto ty57 rfl rfl rfl (v := .p (.u32 _)) rfl trivial rfl (by first | rfl | omega | (simp; done) | (simp; omega)) (c' := .rows (fun j => .u32 (wdN b (s + 1) j))) (congrArg (fun g => some (OC.rows g)) (funext fun j => by by_cases h9 : j = 16 + s <;> simp [h9, wdN, sg0, sg1])) rfl ?_)
      refine Pl.e ?_
      refine Si.e ?_
      refine ⟨flEq_nil, ?_⟩
      show HT _ _ _ _ _
      refine HT.region S_words_ok ?_
      refine So.q rfl rfl (V.mv (v := .p (.v (.int .i64 _))) rfl ?_)
      refine So.q rfl rfl (V.addI rfl rfl (by omega) ?_)
      refine So.q rfl rfl (V.as (v := .p (.v (.int .i64 _))) rfl ?_)
      refine So.e ?_
      refine ⟨s + 1, by first | rfl | omega | (simp; done) | (simp; omega), by omega, ⟨⟨⟨le_int (by first | rfl | omega | (simp; done) | (simp; omega)), trivial⟩, ⟨.refl _, rfl⟩, ⟨.refl _, rfl⟩, trivial⟩, ⟨⟨_, rfl, .inr (ob_rows (by first | rfl | ((try dsimp only); first | rfl | omega | (simp; done) | (simp; omega))) (by first | rfl | ((try dsimp only); first | rfl | omega | (simp; done) | (simp; omega)))), trivial⟩, ⟨_, rfl, .inl rfl, trivial⟩, trivial⟩⟩⟩
    · have h2 := of_decide_eq_false h2
      refine HT.exit ?_
      show HT _ _ _ _ _
      refine HT.seq ?_
      refine HT.region S_words_ok ?_
      refine So.q rfl rfl (V.ldPtrA ty70 rfl rfl rfl rfl (by first | rfl | omega | (simp; done) | (simp; omega)) ?_)
      refine So.s (A.stoAg ty70 rfl (n := 64) rfl (by decide) (by intro j hj; first | rfl | trivial) rfl rfl rfl ?_)
      refine So.e ?_
      show HT _ _ _ _ _
      refine HT.ret ?_
      exact retC_ok (sg []) [(2, .ptr 1 0)] [(1, ⟨70, 1, 64, true, .rows (fun j => .u32 (wd b j))⟩)] h ⟨⟨⟨.refl _, rfl⟩, trivial⟩, ⟨⟨_, rfl, .inr (ob_rows rfl (by intro j hj; first | rfl | ((try dsimp only); (first | rfl | (replace hP1 : s = 48 := (by omega); subst hP1; first | rfl | (rw [Nat.zero_add]; rfl)))))), trivial⟩, trivial⟩⟩ ⟨rvA_cell ty70 rfl rfl rfl rfl (Nat.le_refl _) (le_agg (fun j _ => by first | rfl | (dsimp only; rw [Nat.zero_add]))), trivial⟩ trivial rfl trivial ⟨trivial, trivial⟩ rfl

end Go.Vh

set_option linter.unusedVariables false
set_option linter.unusedSimpArgs false
namespace Go.Vh
open Go Go.Vc Go.Proofs Go.Vw

/-! ### block10 -/
def block10Sp : Sp := ⟨[1, 2], mkE (α := (Nat → UInt32) × (List UInt8) × Nat × Nat × UInt64) (fun (g, bb, o, n, m) => [.ptr 1 (0), .own 2 (o) (n)]) (fun (g, bb, o, n, m) => [(1, ⟨67, 1, 10, true, .cells [.p (.u32 (g 0)), .p (.u32 (g 1)), .p (.u32 (g 2)), .p (.u32 (g 3)), .p (.u32 (g 4)), .p (.u32 (g 5)), .p (.u32 (g 6)), .p (.u32 (g 7)), .own 2 (o) (n), .p (.u64 (m))]⟩), (2, ⟨5, 1, (bb).length, true, .bs (bb)⟩)]) (fun (g, bb, o, n, m) => 64 ≤ n ∧ o + n ≤ bb.length) (fun (g, bb, o, n, m) => []) (fun (g, bb, o, n, m) => [(1, ⟨67, 1, 10, true, .cells [.p (.u32 (comp g ((bb.drop o).take n) 0)), .p (.u32 (comp g ((bb.drop o).take n) 1)), .p (.u32 (comp g ((bb.drop o).take n) 2)), .p (.u32 (comp g ((bb.drop o).take n) 3)), .p (.u32 (comp g ((bb.drop o).take n) 4)), .p (.u32 (comp g ((bb.drop o).take n) 5)), .p (.u32 (comp g ((bb.drop o).take n) 6)), .p (.u32 (comp g ((bb.drop o).take n) 7)), .own 2 (o) (n), .p (.u64 (m))]⟩), (2, ⟨5, 1, (bb).length, true, .bs (bb)⟩)])⟩
def S_block10 : FuncId → Option Sp := fun f => if f = 56 then some wordsSp else if f = 57 then some rightSp else none
theorem S_block10_ok : ∀ f s, S_block10 f = some s → FOK Tryd.prog gl f s := fun f s h => by
  unfold S_block10 at h
  split at h
  · rename_i e; cases h; subst e; exact words_ok
  split at h
  · rename_i e; cases h; subst e; exact right_ok
  cases h
theorem S_block10_det : ∀ f s, S_block10 f = some s → SpDet s.sp := fun f s h => by
  unfold S_block10 at h
  split at h
  · cases h; exact mkE_det _ _ _ _ _
  split at h
  · cases h; exact mkE_det _ _ _ _ _
  cases h
set_option maxHeartbeats 1000000 in
set_option maxRecDepth 20000 in
theorem block10_ok : FOK Tryd.prog gl 48 block10Sp := by
  refine FOK.ofE (tyOf_ok Tryd.prog) (slots := []) (nt := 135) Tryd.func48 rfl rfl rfl rfl (by decide) 2 (fun ⟨_, _, _, _, _⟩ => rfl) (by decide) (fun ⟨_, _, _, _, _⟩ => ⟨rfl, rfl, trivial⟩) ?_
  rintro ⟨g, bb, o, n, m⟩ kk hlen hpre h
  have hl1 : _ ≤ 9223372036854775807 := hlen.2.1
  replace hpre : 64 ≤ n ∧ o + n ≤ bb.length := hpre
  show HT (cx Tryd.prog 135 (tyOf Tryd.prog) gl [1, 2]) _ [(0, .ptr 1 (0)), (1, .own 2 (o) (n))] [(1, ⟨67, 1, 10, true, .cells [.p (.u32 (g 0)), .p (.u32 (g 1)), .p (.u32 (g 2)), .p (.u32 (g 3)), .p (.u32 (g 4)), .p (.u32 (g 5)), .p (.u32 (g 6)), .p (.u32 (g 7)), .own 2 (o) (n), .p (.u64 (m))]⟩), (2, ⟨5, 1, (bb).length, true, .bs (bb)⟩)] _
  have hbl : ((bb.drop o).take n).length = n := by rw [List.length_take, List.length_drop]; omega
  refine R.jump (σ := Nat) 0 (fun s => [(4, .ptr 3 (0)), (5, .p (.u32 (rounds g (wd ((bb.drop o).take n)) s 0))), (6, .p (.u32 (rounds g (wd ((bb.drop o).take n)) s 1))), (7, .p (.u32 (rounds g (wd ((bb.drop o).take n)) s 2))), (8, .p (.u32 (rounds g (wd ((bb.drop o).take n)) s 3))), (9, .p (.u32 (rounds g (wd ((bb.drop o).take n)) s 4))), (10, .p (.u32 (rounds g (wd ((bb.drop o).take n)) s 5))), (11, .p (.u32 (rounds g (wd ((bb.drop o).take n)) s 6))), (12, .p (.u32 (rounds g (wd ((bb.drop o).take n)) s 7))), (13, .p (.v (.int .i64 ((s : Int)))))]) (fun s => [(3, ⟨70, 1, 64, true, .rows (fun j => .u32 (wd ((bb.drop o).take n) j))⟩)]) [0, 1] [1, 2] (fun s => s < 64) (fun s => 64 - s) rfl (fr0 := [(0, .ptr 1 0), (1, .own 2 _ _)]) (O0 := [(1, ⟨_, _, _, _, .cells _⟩), (2, ⟨_, _, _, _, .bs _⟩)]) rfl rfl ?_ (fun s hPj => ?_)
  · refine HT.seq ?_
    refine HT.region S_block10_ok ?_
    refine So.q rfl rfl (V.mv (v := .own 2 _ _) rfl ?_)
    refine So.n (lk rfl) (A.call0 [.p (.bs _)] 3 rfl rfl rfl rfl ⟨trivial, trivial⟩ ⟨lk rfl, lk rfl, trivial⟩ _ ⟨.refl _, trivial⟩ trivial (by first | omega | (simp; done) | (simp; omega)) (Φ := fun _ => True) (fun _ _ => trivial) (.inr ⟨(fun _ _ => trivial), by simp [Hp.scal, OC.scal, PV.scal, BV.scal]⟩) (v := .agg 64 _) rfl (O' := _) rfl (fun h1 => ?_))
    refine So.n (lk rfl) (A.alloc 3 1 ty70 rfl ⟨lk rfl, lk rfl, trivial⟩ (f := fun _ => .u32 0) (fun _ _ => rfl) ?_)
    refine So.s (A.stoAg ty70 rfl (n := 64) rfl (by decide) (by intro j hj; first | rfl | trivial) rfl rfl rfl ?_)
    refine So.e ?_
    show HT _ _ _ _ _
    refine HT.seq ?_
    refine HT.drawn S_block10_ok S_block10_det mixed (by kernel_rfl) ?_
    refine Sd.n (lk rfl) (V.mv (v := .ptr 1 0) rfl ?_)
    refine Sd.n (lk rfl) (V.ncPtr rfl ?_)
    refine Sd.n (lk rfl) (V.ixArrP10 ty64 ty57 rfl rfl rfl (by first | rfl | omega | (simp; done) | (simp; omega)) rfl (by omega) rfl ?_)
    refine Sd.n (lk rfl) (V.ldPtr ty57 rfl rfl rfl (lk rfl) (v := .p (.u32 _)) rfl ?_)
    refine Sd.n (lk rfl) (V.mv (v := .ptr 1 0) rfl ?_)
    refine Sd.n (lk rfl) (V.ncPtr rfl ?_)
    refine Sd.n (lk rfl) (V.ixArrP10 ty64 ty57 rfl rfl rfl (by first | rfl | omega | (simp; done) | (simp; omega)) rfl (by omega) rfl ?_)
    refine Sd.n (lk rfl) (V.ldPtr ty57 rfl rfl rfl (lk rfl) (v := .p (.u32 _)) rfl ?_)
    refine Sd.n (lk rfl) (V.mv (v := .ptr 1 0) rfl ?_)
    refine Sd.n (lk rfl) (V.ncPtr rfl ?_)
    refine Sd.n (lk rfl) (V.ixArrP10 ty64 ty57 rfl rfl rfl (by first | rfl | omega | (simp; done) | (simp; omega)) rfl (by omega) rfl ?_)
    refine Sd.n (lk rfl) (V.ldPtr ty57 rfl rfl rfl (lk rfl) (v := .p (.u32 _)) rfl ?_)
    refine Sd.n (lk rfl) (V.mv (v := .ptr 1 0) rfl ?_)
    refine Sd.n (lk rfl) (V.ncPtr rfl ?_)
    refine Sd.n (lk rfl) (V.ixArrP10 ty64 ty57 rfl rfl rfl (by first | rfl | omega | (simp; done) | (simp; omega)) rfl (by omega) rfl ?_)
    refine Sd.n (lk rfl) (V.ldPtr ty57 rfl rfl rfl (lk rfl) (v := .p (.u32 _)) rfl ?_)
    refine Sd.n (lk rfl) (V.mv (v := .ptr 1 0) rfl ?_)
    refine Sd.n (lk rfl) (V.ncPtr rfl ?_)
    refine Sd.n (lk rfl) (V.ixArrP10 ty64 ty57 rfl rfl rfl (by first | rfl | omega | (simp; done) | (simp; omega)) rfl (by omega) rfl ?_)
    refine Sd.n (lk rfl) (V.ldPtr ty57 rfl rfl rfl (lk rfl) (v := .p (.u32 _)) rfl ?_)
    refine Sd.n (lk rfl) (V.mv (v := .ptr 1 0) rfl ?_)
    refine Sd.n (lk rfl) (V.ncPtr rfl ?_)
    refine Sd.n (lk rfl) (V.ixArrP10 ty64 ty57 rfl rfl rfl (by first | rfl | omega | (simp; done) | (simp; omega)) rfl (by omega) rfl ?_)
    refine Sd.n (lk rfl) (V.ldPtr ty57 rfl rfl rfl (lk rfl) (v := .p (.u32 _)) rfl ?_)
    refine Sd.n (lk rfl) (V.mv (v := .ptr 1 0) rfl ?_)
    refine Sd.n (lk rfl) (V.ncPtr rfl ?_)
    refine Sd.n (lk rfl) (V.ixArrP10 ty64 ty57 rfl rfl rfl (by first | rfl | omega | (simp; done) | (simp; omega)) rfl (by omega) rfl ?_)
    refine Sd.n (lk rfl) (V.ldPtr ty57 rfl rfl rfl (lk rfl) (v := .p (.u32 _)) rfl ?_)
    refine Sd.n (lk rfl) (V.mv (v := .ptr 1 0) rfl ?_)
    refine Sd.n (lk rfl) (V.ncPtr rfl ?_)
    refine Sd.n (lk rfl) (V.ixArrP10 ty64 ty57 rfl rfl rfl (by first | rfl | omega | (simp; done) | (simp; omega)) rfl (by omega) rfl ?_)
    refine Sd.n (lk rfl) (V.ldPtr ty57 rfl rfl rfl (lk rfl) (v := .p (.u32 _)) rfl ?_)
    refine Sd.n (lk rfl) (V.as (v := .p (.u32 _)) rfl ?_)
    refine Sd.n (lk rfl) (V.as (v := .p (.u32 _)) rfl ?_)
    refine Sd.n (lk rfl) (V.as (v := .p (.u32 _)) rfl ?_)
    refine Sd.n (lk rfl) (V.as (v := .p (.u32 _)) rfl ?_)
    refine Sd.n (lk rfl) (V.as (v := .p (.u32 _)) rfl ?_)
    refine Sd.n (lk rfl) (V.as (v := .p (.u32 _)) rfl ?_)
    refine Sd.n (lk rfl) (V.as (v := .p (.u32 _)) rfl ?_)
    refine Sd.n (lk rfl) (V.as (v := .p (.u32 _)) rfl ?_)
    refine Sd.e ?_
    show HT _ _ _ _ _
    refine HT.seq ?_
    refine HT.region S_block10_ok ?_
    refine So.q rfl rfl (V.as (v := .p (.v (.int .i64 (0)))) rfl ?_)
    refine So.e ?_
    show HT _ _ _ _ _
    refine HT.seq ?_
    refine HT.label ?_
    show HT _ _ _ _ _
    refine HT.seq ?_
    refine HT.drawn S_block10_ok S_block10_det mixed (by kernel_rfl) ?_
    refine Sd.n (lk rfl) (V.mv (v := .p (.u32 _)) rfl ?_)
    refine Sd.n (lk rfl) (V.mv (v := .p (.u32 _)) rfl ?_)
    refine Sd.n (lk rfl) (V.call [.p (.u32 _), .p (.v (.int .i64 _))] 4 rfl rfl rfl rfl ⟨trivial, trivial, trivial⟩ ⟨lk rfl, lk rfl, trivial⟩ (_, _) ⟨.refl _, .refl _, trivial⟩ trivial (by first | omega | decide) (Φ := fun _ => True) (fun _ _ => trivial) (.inl ⟨trivial, trivial, trivial⟩) (v := .p (.u32 _)) rfl (fun h2 => ?_))
    refine Sd.n (lk rfl) (V.mv (v := .p (.u32 _)) rfl ?_)
    refine Sd.n (lk rfl) (V.call [.p (.u32 _), .p (.v (.int .i64 _))] 4 rfl rfl rfl rfl ⟨trivial, trivial, trivial⟩ ⟨lk rfl, lk rfl, trivial⟩ (_, _) ⟨.refl _, .refl _, trivial⟩ trivial (by first | omega | decide) (Φ := fun _ => True) (fun _ _ => trivial) (.inl ⟨trivial, trivial, trivial⟩) (v := .p (.u32 _)) rfl (fun h3 => ?_))
    refine Sd.n (lk rfl) (V.bin (a := (.u32 _)) (b := (.u32 _)) (r := .u32 _) rfl rfl rfl trivial ?_)
    refine Sd.n (lk rfl) (V.mv (v := .p (.u32 _)) rfl ?_)
    refine Sd.n (lk rfl) (V.call [.p (.u32 _), .p (.v (.int .i64 _))] 4 rfl rfl rfl rfl ⟨trivial, trivial, trivial⟩ ⟨lk rfl, lk rfl, trivial⟩ (_, _) ⟨.refl _, .refl _, trivial⟩ trivial (by first | omega | decide) (Φ := fun _ => True) (fun _ _ => trivial) (.inl ⟨trivial, trivial, trivial⟩) (v := .p (.u32 _)) rfl (fun h4 => ?_))
    refine Sd.n (lk rfl) (V.bin (a := (.u32 _)) (b := (.u32 _)) (r := .u32 _) rfl rfl rfl trivial ?_)
    refine Sd.n (lk rfl) (V.bin (a := (.u32 _)) (b := (.u32 _)) (r := .u32 _) rfl rfl rfl trivial ?_)
    refine Sd.n (lk rfl) (V.mv (v := .p (.u32 _)) rfl ?_)
    refine Sd.n (lk rfl) (V.mv (v := .p (.u32 _)) rfl ?_)
    refine Sd.n (lk rfl) (V.mv (v := .p (.u32 _)) rfl ?_)
    refine Sd.n (lk rfl) (V.mv (v := .p (.u32 _)) rfl ?_)
    refine Sd.n (lk rfl) (V.bin (a := (.u32 _)) (b := (.u32 _)) (r := .u32 _) rfl rfl rfl trivial ?_)
    refine Sd.n (lk rfl) (V.bin (a := (.u32 _)) (b := (.u32 _)) (r := .u32 _) rfl rfl rfl trivial ?_)
    refine Sd.n (lk rfl) (V.bin (a := (.u32 _)) (b := (.u32 _)) (r := .u32 _) rfl rfl rfl trivial ?_)
    refine Sd.n (lk rfl) (V.bin (a := (.u32 _)) (b := (.u32 _)) (r := .u32 _) rfl rfl rfl trivial ?_)
    refine Sd.n (lk rfl) (V.mv (v := .p (.v (.int .i64 _))) rfl ?_)
    refine Sd.n (lk rfl) (V.ixArr1 ty70 ty57 rfl rfl (lk rfl) rfl (by omega) rfl ?_)
    refine Sd.n (lk rfl) (V.ldRp ty57 rfl rfl (lk rfl) (v := (.u32 _)) rfl ?_)
    refine Sd.n (lk rfl) (V.bin (a := (.u32 _)) (b := (.u32 _)) (r := .u32 _) rfl rfl rfl trivial ?_)
    refine Sd.n (lk rfl) (V.mv (v := .p (.v (.int .i64 _))) rfl ?_)
    refine Sd.n (lk rfl) (V.ixArrP10 ty70 ty57 rfl rfl rfl (by first | rfl | omega | (simp; done) | (simp; omega)) rfl (by omega) rfl ?_)
    refine Sd.n (lk rfl) (V.ldPtr ty57 rfl rfl rfl (by first | rfl | omega | (simp; done) | (simp; omega)) (v := .p (.u32 _)) rfl ?_)
    refine Sd.n (lk rfl) (V.bin (a := (.u32 _)) (b := (.u32 _)) (r := .u32 _) rfl rfl rfl trivial ?_)
    refine Sd.n (lk rfl) (V.as (v := .p (.u32 _)) rfl ?_)
    refine Sd.e ?_
    show HT _ _ _ _ _
    refine HT.seq ?_
    refine HT.region S_block10_ok ?_
    refine So.q rfl rfl (V.mv (v := .p (.u32 _)) rfl ?_)
    refine So.n (lk rfl) (A.call0 [.p (.u32 _), .p (.v (.int .i64 _))] 4 rfl rfl rfl rfl ⟨trivial, trivial, trivial⟩ ⟨lk rfl, lk rfl, trivial⟩ (_, _) ⟨.refl _, .refl _, trivial⟩ trivial (by first | omega | decide) (Φ := fun _ => True) (fun _ _ => trivial) (.inl rfl) (v := .p (.u32 _)) rfl (O' := _) rfl (fun h5 => ?_))
    refine So.q rfl rfl (V.mv (v := .p (.u32 _)) rfl ?_)
    refine So.n (lk rfl) (A.call0 [.p (.u32 _), .p (.v (.int .i64 _))] 4 rfl rfl rfl rfl ⟨trivial, trivial, trivial⟩ ⟨lk rfl, lk rfl, trivial⟩ (_, _) ⟨.refl _, .refl _, trivial⟩ trivial (by first | omega | decide) (Φ := fun _ => True) (fun _ _ => trivial) (.inl rfl) (v := .p (.u32 _)) rfl (O' := _) rfl (fun h6 => ?_))
    refine So.q rfl rfl (V.bin (a := (.u32 _)) (b := (.u32 _)) (r := .u32 _) rfl rfl rfl trivial ?_)
    refine So.q rfl rfl (V.mv (v := .p (.u32 _)) rfl ?_)
    refine So.n (lk rfl) (A.call0 [.p (.u32 _), .p (.v (.int .i64 _))] 4 rfl rfl rfl rfl ⟨trivial, trivial, trivial⟩ ⟨lk rfl, lk rfl, trivial⟩ (_, _) ⟨.refl _, .refl _, trivial⟩ trivial (by first | omega | decide) (Φ := fun _ => True) (fun _ _ => trivial) (.inl rfl) (v := .p (.u32 _)) rfl (O' := _) rfl (fun h7 => ?_))
    refine So.q rfl rfl (V.bin (a := (.u32 _)) (b := (.u32 _)) (r := .u32 _) rfl rfl rfl trivial ?_)
    refine So.q rfl rfl (V.mv (v := .p (.u32 _)) rfl ?_)
    refine So.q rfl rfl (V.mv (v := .p (.u32 _)) rfl ?_)
    refine So.q rfl rfl (V.bin (a := (.u32 _)) (b := (.u32 _)) (r := .u32 _) rfl rfl rfl trivial ?_)
    refine So.q rfl rfl (V.mv (v := .p (.u32 _)) rfl ?_)
    refine So.q rfl rfl (V.mv (v := .p (.u32 _)) rfl ?_)
    refine So.q rfl rfl (V.mv (v := .p (.u32 _)) rfl ?_)
    refine So.q rfl rfl (V.bin (a := (.u32 _)) (b := (.u32 _)) (r := .u32 _) rfl rfl rfl trivial ?_)
    refine So.q rfl rfl (V.bin (a := (.u32 _)) (b := (.u32 _)) (r := .u32 _) rfl rfl rfl trivial ?_)
    refine So.q rfl rfl (V.bin (a := (.u32 _)) (b := (.u32 _)) (r := .u32 _) rfl rfl rfl trivial ?_)
    refine So.q rfl rfl (V.bin (a := (.u32 _)) (b := (.u32 _)) (r := .u32 _) rfl rfl rfl trivial ?_)
    refine So.q rfl rfl (V.as (v := .p (.u32 _)) rfl ?_)
    refine So.e ?_
    show HT _ _ _ _ _
    refine HT.seq ?_
    refine HT.region S_block10_ok ?_
    refine So.q rfl rfl (V.mv (v := .p (.u32 _)) rfl ?_)
    refine So.q rfl rfl (V.mv (v := .p (.u32 _)) rfl ?_)
    refine So.q rfl rfl (V.bin (a := (.u32 _)) (b := (.u32 _)) (r := .u32 _) rfl rfl rfl trivial ?_)
    refine So.q rfl rfl (V.mv (v := .p (.u32 _)) rfl ?_)
    refine So.q rfl rfl (V.mv (v := .p (.u32 _)) rfl ?_)
    refine So.q rfl rfl (V.mv (v := .p (.u32 _)) rfl ?_)
    refine So.q rfl rfl (V.mv (v := .p (.u32 _)) rfl ?_)
    refine So.q rfl rfl (V.mv (v := .p (.u32 _)) rfl ?_)
    refine So.q rfl rfl (V.bin (a := (.u32 _)) (b := (.u32 _)) (r := .u32 _) rfl rfl rfl trivial ?_)
    refine So.q rfl rfl (V.mv (v := .p (.u32 _)) rfl ?_)
    refine So.q rfl rfl (V.mv (v := .p (.u32 _)) rfl ?_)
    refine So.q rfl rfl (V.mv (v := .p (.u32 _)) rfl ?_)
    refine So.q rfl rfl (V.as (v := .p (.u32 _)) rfl ?_)
    refine So.q rfl rfl (V.as (v := .p (.u32 _)) rfl ?_)
    refine So.q rfl rfl (V.as (v := .p (.u32 _)) rfl ?_)
    refine So.q rfl rfl (V.as (v := .p (.u32 _)) rfl ?_)
    refine So.q rfl rfl (V.as (v := .p (.u32 _)) rfl ?_)
    refine So.q rfl rfl (V.as (v := .p (.u32 _)) rfl ?_)
    refine So.q rfl rfl (V.as (v := .p (.u32 _)) rfl ?_)
    refine So.q rfl rfl (V.as (v := .p (.u32 _)) rfl ?_)
    refine So.e ?_
    show HT _ _ _ _ _
    refine HT.seq ?_
    refine HT.seq ?_
    refine HT.region S_block10_ok ?_
    refine So.q rfl rfl (V.mv (v := .p (.v (.int .i64 _))) rfl ?_)
    refine So.q rfl rfl (V.addI rfl rfl (by omega) ?_)
    refine So.q rfl rfl (V.as (v := .p (.v (.int .i64 _))) rfl ?_)
    refine So.e ?_
    show HT _ _ _ _ _
    refine HT.seq ?_
    refine HT.region S_block10_ok ?_
    refine So.q rfl rfl (V.mv (v := .p (.v (.int .i64 _))) rfl ?_)
    refine So.q rfl rfl (V.bin (a := (.v (.int .i64 _))) (b := (.v (.int .i64 (64)))) (r := .v (.bool _)) rfl rfl rfl trivial ?_)
    refine So.e ?_
    show HT _ _ _ _ _
    refine R.cond rfl rfl (fun h8 => ?_) (fun h8 => ?_)
    · have h8 := of_decide_eq_true h8
      refine HT.goto ?_
      exact ⟨rfl, 1, by first | rfl | omega | (intro j hj; rfl), ⟨⟨⟨.refl _, rfl⟩, ⟨le_u32 (by first | rfl | omega | (intro j hj; rfl)), trivial⟩, ⟨le_u32 (by first | rfl | omega | (intro j hj; rfl)), trivial⟩, ⟨le_u32 (by first | rfl | omega | (intro j hj; rfl)), trivial⟩, ⟨le_u32 (by first | rfl | omega | (intro j hj; rfl)), trivial⟩, ⟨le_u32 (by first | rfl | omega | (intro j hj; rfl)), trivial⟩, ⟨le_u32 (by first | rfl | omega | (intro j hj; rfl)), trivial⟩, ⟨le_u32 (by first | rfl | omega | (intro j hj; rfl)), trivial⟩, ⟨le_u32 (by first | rfl | omega | (intro j hj; rfl)), trivial⟩, ⟨le_int (by first | rfl | omega | (intro j hj; rfl)), trivial⟩, ⟨.refl _, rfl⟩, ⟨.refl _, rfl⟩, trivial⟩, ⟨⟨_, rfl, .inr (ob_rows (by first | rfl | ((try dsimp only); first | rfl | omega | (intro j hj; rfl))) (by first | rfl | ((try dsimp only); first | rfl | omega | (intro j hj; rfl)))), trivial⟩, ⟨_, rfl, .inl rfl, ⟨trivial, trivial, trivial, trivial, trivial, trivial, trivial, trivial, rfl, trivial, trivial⟩⟩, ⟨_, rfl, .inl rfl, trivial⟩, trivial⟩⟩⟩
    · have h8 := of_decide_eq_false h8
      first | exact absurd (by omega) h8 | exact absurd h8 (by omega)
  · show HT _ _ _ _ _
    refine HT.seq ?_
    refine HT.skip ?_
    show HT _ _ _ _ _
    refine HT.seq ?_
    refine HT.drawn S_block10_ok S_block10_det mixed (by kernel_rfl) ?_
    refine Sd.n (lk rfl) (V.mv (v := .p (.u32 _)) rfl ?_)
    refine Sd.n (lk rfl) (V.mv (v := .p (.u32 _)) rfl ?_)
    refine Sd.n (lk rfl) (V.call [.p (.u32 _), .p (.v (.int .i64 _))] 4 rfl rfl rfl rfl ⟨trivial, trivial, trivial⟩ ⟨lk rfl, lk rfl, trivial⟩ (_, _) ⟨.refl _, .refl _, trivial⟩ trivial (by first | omega | decide) (Φ := fun _ => True) (fun _ _ => trivial) (.inl ⟨trivial, trivial, trivial⟩) (v := .p (.u32 _)) rfl (fun h9 => ?_))
    refine Sd.n (lk rfl) (V.mv (v := .p (.u32 _)) rfl ?_)
    refine Sd.n (lk rfl) (V.call [.p (.u32 _), .p (.v (.int .i64 _))] 4 rfl rfl rfl rfl ⟨trivial, trivial, trivial⟩ ⟨lk rfl, lk rfl, trivial⟩ (_, _) ⟨.refl _, .refl _, trivial⟩ trivial (by first | omega | decide) (Φ := fun _ => True) (fun _ _ => trivial) (.inl ⟨trivial, trivial, trivial⟩) (v := .p (.u32 _)) rfl (fun h10 => ?_))
    refine Sd.n (lk rfl) (V.bin (a := (.u32 _)) (b := (.u32 _)) (r := .u32 _) rfl rfl rfl trivial ?_)
    refine Sd.n (lk rfl) (V.mv (v := .p (.u32 _)) rfl ?_)
    refine Sd.n (lk rfl) (V.call [.p (.u32 _), .p (.v (.int .i64 _))] 4 rfl rfl rfl rfl ⟨trivial, trivial, trivial⟩ ⟨lk rfl, lk rfl, trivial⟩ (_, _) ⟨.refl _, .refl _, trivial⟩ trivial (by first | omega | decide) (Φ := fun _ => True) (fun _ _ => trivial) (.inl ⟨trivial, trivial, trivial⟩) (v := .p (.u32 _)) rfl (fun h11 => ?_))
    refine Sd.n (lk rfl) (V.bin (a := (.u32 _)) (b := (.u32 _)) (r := .u32 _) rfl rfl rfl trivial ?_)
    refine Sd.n (lk rfl) (V.bin (a := (.u32 _)) (b := (.u32 _)) (r := .u32 _) rfl rfl rfl trivial ?_)
    refine Sd.n (lk rfl) (V.mv (v := .p (.u32 _)) rfl ?_)
    refine Sd.n (lk rfl) (V.mv (v := .p (.u32 _)) rfl ?_)
    refine Sd.n (lk rfl) (V.mv (v := .p (.u32 _)) rfl ?_)
    refine Sd.n (lk rfl) (V.mv (v := .p (.u32 _)) rfl ?_)
    refine Sd.n (lk rfl) (V.bin (a := (.u32 _)) (b := (.u32 _)) (r := .u32 _) rfl rfl rfl trivial ?_)
    refine Sd.n (lk rfl) (V.bin (a := (.u32 _)) (b := (.u32 _)) (r := .u32 _) rfl rfl rfl trivial ?_)
    refine Sd.n (lk rfl) (V.bin (a := (.u32 _)) (b := (.u32 _)) (r := .u32 _) rfl rfl rfl trivial ?_)
    refine Sd.n (lk rfl) (V.bin (a := (.u32 _)) (b := (.u32 _)) (r := .u32 _) rfl rfl rfl trivial ?_)
    refine Sd.n (lk rfl) (V.mv (v := .p (.v (.int .i64 ((_ : Nat) : Int)))) rfl ?_)
    refine Sd.n (lk rfl) (V.ixArr1 ty70 ty57 rfl rfl (lk rfl) rfl (by omega) (Int.toNat_natCast _) ?_)
    refine Sd.n (lk rfl) (V.ldRp ty57 rfl rfl (lk rfl) (v := (.u32 _)) rfl ?_)
    refine Sd.n (lk rfl) (V.bin (a := (.u32 _)) (b := (.u32 _)) (r := .u32 _) rfl rfl rfl trivial ?_)
    refine Sd.n (lk rfl) (V.mv (v := .p (.v (.int .i64 ((_ : Nat) : Int)))) rfl ?_)
    refine Sd.n (lk rfl) (V.ixArrP10 ty70 ty57 rfl rfl rfl (by first | rfl | omega | (simp; done) | (simp; omega)) rfl (by omega) (Int.toNat_natCast _) ?_)
    refine Sd.n (lk rfl) (V.ldPtr ty57 rfl rfl rfl (by first | rfl | omega | (simp; done) | (simp; omega)) (v := .p (.u32 _)) rfl ?_)
    refine Sd.n (lk rfl) (V.bin (a := (.u32 _)) (b := (.u32 _)) (r := .u32 _) rfl rfl rfl trivial ?_)
    refine Sd.n (lk rfl) (V.as (v := .p (.u32 _)) rfl ?_)
    refine Sd.e ?_
    show HT _ _ _ _ _
    refine HT.seq ?_
    refine HT.region S_block10_ok ?_
    refine So.q rfl rfl (V.mv (v := .p (.u32 _)) rfl ?_)
    refine So.n (lk rfl) (A.call0 [.p (.u32 _), .p (.v (.int .i64 _))] 4 rfl rfl rfl rfl ⟨trivial, trivial, trivial⟩ ⟨lk rfl, lk rfl, trivial⟩ (_, _) ⟨.refl _, .refl _, trivial⟩ trivial (by first | omega | decide) (Φ := fun _ => True) (fun _ _ => trivial) (.inl rfl) (v := .p (.u32 _)) rfl (O' := _) rfl (fun h12 => ?_))
    refine So.q rfl rfl (V.mv (v := .p (.u32 _)) rfl ?_)
    refine So.n (lk rfl) (A.call0 [.p (.u32 _), .p (.v (.int .i64 _))] 4 rfl rfl rfl rfl ⟨trivial, trivial, trivial⟩ ⟨lk rfl, lk rfl, trivial⟩ (_, _) ⟨.refl _, .refl _, trivial⟩ trivial (by first | omega | decide) (Φ := fun _ => True) (fun _ _ => trivial) (.inl rfl) (v := .p (.u32 _)) rfl (O' := _) rfl (fun h13 => ?_))
    refine So.q rfl rfl (V.bin (a := (.u32 _)) (b := (.u32 _)) (r := .u32 _) rfl rfl rfl trivial ?_)
    refine So.q rfl rfl (V.mv (v := .p (.u32 _)) rfl ?_)
    refine So.n (lk rfl) (A.call0 [.p (.u32 _), .p (.v (.int .i64 _))] 4 rfl rfl rfl rfl ⟨trivial, trivial, trivial⟩ ⟨lk rfl, lk rfl, trivial⟩ (_, _) ⟨.refl _, .refl _, trivial⟩ trivial (by first | omega | decide) (Φ := fun _ => True) (fun _ _ => trivial) (.inl rfl) (v := .p (.u32 _)) rfl (O' := _) rfl (fun h14 => ?_))
    refine So.q rfl rfl (V.bin (a := (.u32 _)) (b := (.u32 _)) (r := .u32 _) rfl rfl rfl trivial ?_)
    refine So.q rfl rfl (V.mv (v := .p (.u32 _)) rfl ?_)
    refine So.q rfl rfl (V.mv (v := .p (.u32 _)) rfl ?_)
    refine So.q rfl rfl (V.bin (a := (.u32 _)) (b := (.u32 _)) (r := .u32 _) rfl rfl rfl trivial ?_)
    refine So.q rfl rfl (V.mv (v := .p (.u32 _)) rfl ?_)
    refine So.q rfl rfl (V.mv (v := .p (.u32 _)) rfl ?_)
    refine So.q rfl rfl (V.mv (v := .p (.u32 _)) rfl ?_)
    refine So.q rfl rfl (V.bin (a := (.u32 _)) (b := (.u32 _)) (r := .u32 _) rfl rfl rfl trivial ?_)
    refine So.q rfl rfl (V.bin (a := (.u32 _)) (b := (.u32 _)) (r := .u32 _) rfl rfl rfl trivial ?_)
    refine So.q rfl rfl (V.bin (a := (.u32 _)) (b := (.u32 _)) (r := .u32 _) rfl rfl rfl trivial ?_)
    refine So.q rfl rfl (V.bin (a := (.u32 _)) (b := (.u32 _)) (r := .u32 _) rfl rfl rfl trivial ?_)
    refine So.q rfl rfl (V.as (v := .p (.u32 _)) rfl ?_)
    refine So.e ?_
    show HT _ _ _ _ _
    refine HT.seq ?_
    refine HT.region S_block10_ok ?_
    refine So.q rfl rfl (V.mv (v := .p (.u32 _)) rfl ?_)
    refine So.q rfl rfl (V.mv (v := .p (.u32 _)) rfl ?_)
    refine So.q rfl rfl (V.bin (a := (.u32 _)) (b := (.u32 _)) (r := .u32 _) rfl rfl rfl trivial ?_)
    refine So.q rfl rfl (V.mv (v := .p (.u32 _)) rfl ?_)
    refine So.q rfl rfl (V.mv (v := .p (.u32 _)) rfl ?_)
    refine So.q rfl rfl (V.mv (v := .p (.u32 _)) rfl ?_)
    refine So.q rfl rfl (V.mv (v := .p (.u32 _)) rfl ?_)
    refine So.q rfl rfl (V.mv (v := .p (.u32 _)) rfl ?_)
    refine So.q rfl rfl (V.bin (a := (.u32 _)) (b := (.u32 _)) (r := .u32 _) rfl rfl rfl trivial ?_)
    refine So.q rfl rfl (V.mv (v := .p (.u32 _)) rfl ?_)
    refine So.q rfl rfl (V.mv (v := .p (.u32 _)) rfl ?_)
    refine So.q rfl rfl (V.mv (v := .p (.u32 _)) rfl ?_)
    refine So.q rfl rfl (V.as (v := .p (.u32 _)) rfl ?_)
    refine So.q rfl rfl (V.as (v := .p (.u32 _)) rfl ?_)
    refine So.q rfl rfl (V.as (v := .p (.u32 _)) rfl ?_)
    refine So.q rfl rfl (V.as (v := .p (.u32 _)) rfl ?_)
    refine So.q rfl rfl (V.as (v := .p (.u32 _)) rfl ?_)
    refine So.q rfl rfl (V.as (v := .p (.u32 _)) rfl ?_)
    refine So.q rfl rfl (V.as (v := .p (.u32 _)) rfl ?_)
    refine So.q rfl rfl (V.as (v := .p (.u32 _)) rfl ?_)
    refine So.e ?_
    show HT _ _ _ _ _
    refine HT.seq ?_
    refine HT.seq ?_
    refine HT.region S_block10_ok ?_
    refine So.q rfl rfl (V.mv (v := .p (.v (.int .i64 ((_ : Nat) : Int)))) rfl ?_)
    refine So.q rfl rfl (V.addI rfl rfl (by omega) ?_)
    refine So.q rfl rfl (V.as (v := .p (.v (.int .i64 _))) rfl ?_)
    refine So.e ?_
    show HT _ _ _ _ _
    refine HT.seq ?_
    refine HT.region S_block10_ok ?_
    refine So.q rfl rfl (V.mv (v := .p (.v (.int .i64 _))) rfl ?_)
    refine So.q rfl rfl (V.bin (a := (.v (.int .i64 _))) (b := (.v (.int .i64 (64)))) (r := .v (.bool _)) rfl rfl rfl trivial ?_)
    refine So.e ?_
    show HT _ _ _ _ _
    refine R.cond rfl rfl (fun h15 => ?_) (fun h15 => ?_)
    · have h15 := of_decide_eq_true h15
      refine HT.goto ?_
      exact ⟨rfl, s + 1, by first | rfl | omega | (intro j hj; rfl), by omega, ⟨⟨⟨.refl _, rfl⟩, ⟨le_u32 (by first | rfl | omega | (intro j hj; rfl)), trivial⟩, ⟨le_u32 (by first | rfl | omega | (intro j hj; rfl)), trivial⟩, ⟨le_u32 (by first | rfl | omega | (intro j hj; rfl)), trivial⟩, ⟨le_u32 (by first | rfl | omega | (intro j hj; rfl)), trivial⟩, ⟨le_u32 (by first | rfl | omega | (intro j hj; rfl)), trivial⟩, ⟨le_u32 (by first | rfl | omega | (intro j hj; rfl)), trivial⟩, ⟨le_u32 (by first | rfl | omega | (intro j hj; rfl)), trivial⟩, ⟨le_u32 (by first | rfl | omega | (intro j hj; rfl)), trivial⟩, ⟨le_int (by first | rfl | omega | (intro j hj; rfl)), trivial⟩, ⟨.refl _, rfl⟩, ⟨.refl _, rfl⟩, trivial⟩, ⟨⟨_, rfl, .inr (ob_rows (by first | rfl | ((try dsimp only); first | rfl | omega | (intro j hj; rfl))) (by first | rfl | ((try dsimp only); first | rfl | omega | (intro j hj; rfl)))), trivial⟩, ⟨_, rfl, .inl rfl, ⟨trivial, trivial, trivial, trivial, trivial, trivial, trivial, trivial, rfl, trivial, trivial⟩⟩, ⟨_, rfl, .inl rfl, trivial⟩, trivial⟩⟩⟩
    · have h15 := of_decide_eq_false h15
      refine HT.skip ?_
      show HT _ _ _ _ _
      refine HT.seq ?_
      refine HT.region S_block10_ok ?_
      have hs : s + 1 = 64 := by omega
      refine So.q rfl rfl (V.mv (v := .p (.u32 _)) rfl ?_)
      refine So.q rfl rfl (V.mv (v := .p (.u32 _)) rfl ?_)
      refine So.q rfl rfl (V.mv (v := .p (.u32 _)) rfl ?_)
      refine So.q rfl rfl (V.mv (v := .p (.u32 _)) rfl ?_)
      refine So.q rfl rfl (V.mv (v := .p (.u32 _)) rfl ?_)
      refine So.q rfl rfl (V.mv (v := .p (.u32 _)) rfl ?_)
      refine So.q rfl rfl (V.mv (v := .p (.u32 _)) rfl ?_)
      refine So.q rfl rfl (V.mv (v := .p (.u32 _)) rfl ?_)
      refine So.n (lk rfl) (A.bldA ty58 rfl rfl ⟨by first | exact trivial | exact rfl | (intro j hj; first | trivial | rfl | (simp [BV.one]; done)), by first | exact trivial | exact rfl | (intro j hj; first | trivial | rfl | (simp [BV.one]; done)), by first | exact trivial | exact rfl | (intro j hj; first | trivial | rfl | (simp [BV.one]; done)), by first | exact trivial | exact rfl | (intro j hj; first | trivial | rfl | (simp [BV.one]; done)), by first | exact trivial | exact rfl | (intro j hj; first | trivial | rfl | (simp [BV.one]; done)), by first | exact trivial | exact rfl | (intro j hj; first | trivial | rfl | (simp [BV.one]; done)), by first | exact trivial | exact rfl | (intro j hj; first | trivial | rfl | (simp [BV.one]; done)), by first | exact trivial | exact rfl | (intro j hj; first | trivial | rfl | (simp [BV.one]; done)), trivial⟩ rfl (f := fun j => .u32 (rounds g (wd ((bb.drop o).take n)) (s + 1) j)) (by exact allP_spec (P := fun j => _ = _) ⟨⟨⟨⟨⟨⟨⟨⟨trivial, rfl⟩, rfl⟩, rfl⟩, rfl⟩, rfl⟩, rfl⟩, rfl⟩, rfl⟩) ?_)
      refine So.q rfl rfl (V.mv (v := .p (.v (.int .i64 (0)))) rfl ?_)
      refine So.e ?_
      show HT _ _ _ _ _
      refine HT.block ?_
      refine R.loop (σ := Nat) (fun r => [(121, .p (.v (.int .i64 ((r : Int)))))]) (fun r => [(1, ⟨67, 1, 10, true, .cells [.p (.u32 (if 0 < r then comp g ((bb.drop o).take n) 0 else g 0)), .p (.u32 (if 1 < r then comp g ((bb.drop o).take n) 1 else g 1)), .p (.u32 (if 2 < r then comp g ((bb.drop o).take n) 2 else g 2)), .p (.u32 (if 3 < r then comp g ((bb.drop o).take n) 3 else g 3)), .p (.u32 (if 4 < r then comp g ((bb.drop o).take n) 4 else g 4)), .p (.u32 (if 5 < r then comp g ((bb.drop o).take n) 5 else g 5)), .p (.u32 (if 6 < r then comp g ((bb.drop o).take n) 6 else g 6)), .p (.u32 (if 7 < r then comp g ((bb.drop o).take n) 7 else g 7)), .own 2 (o) (n), .p (.u64 (m))]⟩)]) [0, 120] [2, 3] (fun r => r ≤ 8) (fun r => 8 - r) (0) (fr0 := [(0, .ptr 1 0), (120, .agg 8 _)]) (O0 := [(2, ⟨_, _, _, _, .bs _⟩), (3, ⟨_, _, _, _, .rows _⟩)]) rfl rfl (by first | rfl | omega | (simp; done) | (simp; omega)) ⟨⟨⟨le_int (by first | rfl | omega | (simp; done)), trivial⟩, ⟨.refl _, rfl⟩, ⟨.refl _, trivial⟩, trivial⟩, ⟨⟨_, rfl, .inl (by first | rfl | ((try dsimp only); first | rfl | omega | (simp; done))), ⟨trivial, trivial, trivial, trivial, trivial, trivial, trivial, trivial, rfl, trivial, trivial⟩⟩, ⟨_, rfl, .inl rfl, trivial⟩, ⟨_, rfl, .inl rfl, trivial⟩, trivial⟩⟩ (fun r hP0 => ?_)
      refine HT.seq ?_
      refine HT.region S_block10_ok ?_
      refine So.q rfl rfl (V.bin (a := (.v (.int .i64 ((_ : Nat) : Int)))) (b := (.v (.int .i64 (8)))) (r := .v (.bool _)) rfl rfl rfl trivial ?_)
      refine So.e ?_
      show HT _ _ _ _ _
      refine HT.seq ?_
      refine R.cond rfl rfl (fun h16 => ?_) (fun h16 => ?_)
      · have h16 := of_decide_eq_true h16
        refine HT.skip ?_
        show HT _ _ _ _ _
        refine HT.seq ?_
        refine HT.block ?_
        refine HT.seq ?_
        refine HT.region S_block10_ok ?_
        refine So.q rfl rfl (V.mv (v := .p (.v (.int .i64 ((_ : Nat) : Int)))) rfl ?_)
        refine So.q rfl rfl (V.ixV1 ty58 ty57 rfl rfl rfl rfl (by omega) (lk rfl) (Int.toNat_natCast _) (v := (.u32 _)) rfl ?_)
        refine So.q rfl rfl (V.as (v := .p (.v (.int .i64 ((_ : Nat) : Int)))) rfl ?_)
        refine So.q rfl rfl (V.as (v := .p (.u32 _)) rfl ?_)
        refine So.e ?_
        show HT _ _ _ _ _
        refine HT.tail S_block10_ok mixed 9 (by kernel_rfl) (by kernel_rfl) ?_
        refine So.q rfl rfl (V.mv (v := .ptr 1 0) rfl ?_)
        refine So.q rfl rfl (V.mv (v := .p (.v (.int .i64 ((_ : Nat) : Int)))) rfl ?_)
        refine So.q rfl rfl (V.ncPtr rfl ?_)
        refine So.q rfl rfl (V.ixArrP10 (mi := r) ty64 ty57 rfl rfl rfl (by first | rfl | omega | (simp; done) | (simp; omega)) rfl (by omega) (by omega) ?_)
        refine So.q rfl rfl (V.ldPtr ty57 rfl rfl rfl (by first | rfl | omega | (simp; done) | (simp; omega)) (v := .p (.u32 _)) (c8_get (g := fun j => .p (.u32 (if j < r then comp g ((bb.drop o).take n) j else g j))) (r := [.own 2 o n, .p (.u64 m)]) (by first | rfl | omega | (simp; done) | (simp; omega))) ?_)
        refine So.q rfl rfl (V.mv (v := .p (.u32 _)) rfl ?_)
        refine So.q rfl rfl (V.bin (a := (.u32 _)) (b := (.u32 _)) (r := .u32 _) rfl rfl rfl trivial ?_)
        refine So.q rfl rfl (V.ncPtr rfl ?_)
        refine So.q rfl rfl (V.ixArrP10 (mi := r) ty64 ty57 rfl rfl rfl (by first | rfl | omega | (simp; done) | (simp; omega)) rfl (by omega) (by omega) ?_)
        refine So.s (A.sto ty57 rfl rfl rfl (v := .p (.u32 _)) rfl trivial rfl (by first | rfl | omega | (simp; done) | (simp; omega)) (c8_put (g := fun j => .p (.u32 (if j < r then comp g ((bb.drop o).take n) j else g j))) (g' := fun j => .p (.u32 (if j < r + 1 then comp g ((bb.drop o).take n) j else g j))) (r := [.own 2 o n, .p (.u64 m)]) (by first | rfl | omega | (simp; done) | (simp; omega)) (by intro j hj; by_cases h9 : j = r <;> simp [h9, comp, hs] <;> (by_cases h8 : j < r <;> simp [h8] <;> omega))) rfl ?_)
        refine So.e ?_
        show HT _ _ _ _ _
        refine HT.region S_block10_ok ?_
        refine So.q rfl rfl (V.addI rfl rfl (by omega) ?_)
        refine So.q rfl rfl (V.mv (v := .p (.v (.int .i64 _))) rfl ?_)
        refine So.e ?_
        refine ⟨r + 1, by first | rfl | omega | (simp; done) | (simp; omega), by omega, ⟨⟨⟨le_int (by first | rfl | omega | (simp; done) | (simp; omega)), trivial⟩, ⟨.refl _, rfl⟩, ⟨.refl _, trivial⟩, trivial⟩, ⟨⟨_, rfl, .inl (by first | rfl | ((try dsimp only); first | rfl | omega | (simp; done) | (simp; omega))), ⟨trivial, trivial, trivial, trivial, trivial, trivial, trivial, trivial, rfl, trivial, trivial⟩⟩, ⟨_, rfl, .inl rfl, trivial⟩, ⟨_, rfl, .inl rfl, trivial⟩, trivial⟩⟩⟩
      · have h16 := of_decide_eq_false h16
        refine HT.exit ?_
        exact ret_ok (sg [(1, 1), (2, 2)]) h rfl rfl rfl ⟨⟨trivial, trivial, trivial, trivial, trivial, trivial, trivial, trivial, rfl, trivial, trivial⟩, trivial, trivial⟩ trivial rfl ⟨trivial, ⟨⟨_, rfl, .inl (by first | rfl | ((try dsimp only); (first | rfl | (replace hP0 : r = 8 := (by omega); subst hP0; rfl)))), ⟨trivial, trivial, trivial, trivial, trivial, trivial, trivial, trivial, rfl, trivial, trivial⟩⟩, ⟨_, rfl, .inl (ob_bs (by first | rfl | ((try dsimp only); (first | rfl | (replace hP0 : r = 8 := (by omega); subst hP0; rfl)))) (by first | rfl | ((try dsimp only); (first | rfl | (replace hP0 : r = 8 := (by omega); subst hP0; rfl))))), trivial⟩, trivial⟩⟩

end Go.Vh

set_option linter.unusedVariables false
set_option linter.unusedSimpArgs false
namespace Go.Vh
open Go Go.Vc Go.Proofs Go.Vw

/-! ### (*sodality/sha2.Hash).Write -/
def writeSp : Sp := ⟨[1], mkE (α := (List UInt8) × (List UInt8) × (List UInt8)) (fun (tx, p, j) => [.ptr 1 (0), .p (.bs (p))]) (fun (tx, p, j) => [(1, ⟨67, 1, 10, true, .cells [.p (.u32 (hst (tx) 0)), .p (.u32 (hst (tx) 1)), .p (.u32 (hst (tx) 2)), .p (.u32 (hst (tx) 3)), .p (.u32 (hst (tx) 4)), .p (.u32 (hst (tx) 5)), .p (.u32 (hst (tx) 6)), .p (.u32 (hst (tx) 7)), .own 2 ((j).length) ((rst (tx)).length), .p (.u64 (UInt64.ofNat (tx).length))]⟩), (2, ⟨5, 1, (j ++ rst tx).length, true, .bs (j ++ rst tx)⟩)]) (fun (tx, p, j) => p.length ≤ 1099511627776 ∧ tx.length ≤ 1099511627776 ∧ j.length ≤ 1099511627776) (fun (tx, p, j) => []) (fun (tx, p, j) => [(1, ⟨67, 1, 10, true, .cells [.p (.u32 (hst (tx ++ p) 0)), .p (.u32 (hst (tx ++ p) 1)), .p (.u32 (hst (tx ++ p) 2)), .p (.u32 (hst (tx ++ p) 3)), .p (.u32 (hst (tx ++ p) 4)), .p (.u32 (hst (tx ++ p) 5)), .p (.u32 (hst (tx ++ p) 6)), .p (.u32 (hst (tx ++ p) 7)), .own 2 ((jn tx p).length) ((rst (tx ++ p)).length), .p (.u64 (UInt64.ofNat (tx ++ p).length))]⟩), (2, ⟨5, 1, (jn tx p ++ rst (tx ++ p)).length, true, .bs (jn tx p ++ rst (tx ++ p))⟩)])⟩
def S_write : FuncId → Option Sp := fun f => if f = 48 then some block10Sp else none
theorem S_write_ok : ∀ f s, S_write f = some s → FOK Tryd.prog gl f s := fun f s h => by
  unfold S_write at h
  split at h
  · rename_i e; cases h; subst e; exact block10_ok
  cases h
theorem S_write_det : ∀ f s, S_write f = some s → SpDet s.sp := fun f s h => by
  unfold S_write at h
  split at h
  · cases h; exact mkE_det _ _ _ _ _
  cases h
set_option maxHeartbeats 1000000 in
set_option maxRecDepth 20000 in
theorem write_ok : FOK Tryd.prog gl 36 writeSp := by
  refine FOK.ofE (tyOf_ok Tryd.prog) (slots := []) (nt := 56) Tryd.func36 rfl rfl rfl rfl (by decide) 2 (fun ⟨_, _, _⟩ => rfl) (by decide) (fun ⟨_, _, _⟩ => ⟨rfl, trivial, trivial⟩) ?_
  rintro ⟨tx, p, j⟩ kk hlen hpre h
  have hl1 : (p).length ≤ 9223372036854775807 := hlen.2.1
  replace hpre : p.length ≤ 1099511627776 ∧ tx.length ≤ 1099511627776 ∧ j.length ≤ 1099511627776 := hpre
  show HT (cx Tryd.prog 56 (tyOf Tryd.prog) gl [1]) _ [(0, .ptr 1 (0)), (1, .p (.bs (p)))] [(1, ⟨67, 1, 10, true, .cells [.p (.u32 (hst (tx) 0)), .p (.u32 (hst (tx) 1)), .p (.u32 (hst (tx) 2)), .p (.u32 (hst (tx) 3)), .p (.u32 (hst (tx) 4)), .p (.u32 (hst (tx) 5)), .p (.u32 (hst (tx) 6)), .p (.u32 (hst (tx) 7)), .own 2 ((j).length) ((rst (tx)).length), .p (.u64 (UInt64.ofNat (tx).length))]⟩), (2, ⟨5, 1, (j ++ rst tx).length, true, .bs (j ++ rst tx)⟩)] _
  have hrl := rst_len tx
  have hXl : (rst tx ++ p).length = (rst tx).length + p.length := List.length_append
  refine HT.seq ?_
  refine HT.region S_write_ok ?_
  refine So.q rfl rfl (V.mv (v := .ptr 1 0) rfl ?_)
  refine So.q rfl rfl (V.ncPtr rfl ?_)
  refine So.q rfl rfl (V.faPtr ty67 rfl ty56 (lk rfl) rfl rfl (by first | exact lk rfl | first | rfl | omega | (simp; done) | (simp; omega)) ?_)
  refine So.q rfl rfl (V.ldPtr ty56 rfl rfl rfl (lk rfl) (v := .p (.u64 _)) rfl ?_)
  refine So.q rfl rfl (V.mv (v := .p (.bs _)) rfl ?_)
  refine So.q rfl rfl (V.len ty22 (v := .p (.bs _)) rfl rfl ?_)
  refine So.q rfl rfl (V.cvN ty56 ty3 (a := (.v (.int .i64 _))) (r := (.u64 _)) rfl rfl ?_)
  refine So.q rfl rfl (V.bin (a := (.u64 _)) (b := (.u64 _)) (r := .u64 _) rfl rfl rfl trivial ?_)
  refine So.q rfl rfl (V.ncPtr rfl ?_)
  refine So.q rfl rfl (V.faPtr ty67 rfl ty56 (lk rfl) rfl rfl (by first | exact lk rfl | first | rfl | omega | (simp; done) | (simp; omega)) ?_)
  refine So.s (A.sto ty56 rfl rfl rfl (v := .p (.u64 _)) rfl trivial rfl (lk rfl) rfl rfl ?_)
  refine So.e ?_
  show HT _ _ _ _ _
  refine HT.seq ?_
  refine HT.planS S_write_ok S_write_det mixed [] [⟨[0, 1, 2, 3, 4, 5, 6, 7, 8, 9, 10, 11, 12, 13, 14, 15, 16], 17, [0]⟩, ⟨[0, 18, 19], 20, []⟩] (by kernel_rfl) ?_
  refine Pl.lk ?_
  refine Si.n rfl (lk rfl) (V.mv (v := .ptr 1 0) rfl ?_)
  refine Si.n rfl (lk rfl) (V.mv (v := .ptr 1 0) rfl ?_)
  refine Si.n rfl (lk rfl) (V.ncPtr rfl ?_)
  refine Si.n rfl (lk rfl) (V.faPtr ty67 rfl ty22 (lk rfl) rfl rfl (by first | exact lk rfl | first | rfl | omega | (simp; done) | (simp; omega)) ?_)
  refine Si.n rfl (lk rfl) (V.ldPtr ty22 rfl rfl rfl (lk rfl) (v := .own 2 _ _) rfl ?_)
  refine Si.n rfl (lk rfl) (V.mv (v := .ptr 1 0) rfl ?_)
  refine Si.n rfl (lk rfl) (V.ncPtr rfl ?_)
  refine Si.n rfl (lk rfl) (V.faPtr ty67 rfl ty22 (lk rfl) rfl rfl (by first | exact lk rfl | first | rfl | omega | (simp; done) | (simp; omega)) ?_)
  refine Si.n rfl (lk rfl) (V.ldPtr ty22 rfl rfl rfl (lk rfl) (v := .own 2 _ _) rfl ?_)
  refine Si.n rfl (lk rfl) (V.len ty22 (v := .own 2 _ _) rfl rfl ?_)
  refine Si.n rfl (lk rfl) (V.mv (v := .ptr 1 0) rfl ?_)
  refine Si.n rfl (lk rfl) (V.ncPtr rfl ?_)
  refine Si.n rfl (lk rfl) (V.faPtr ty67 rfl ty22 (lk rfl) rfl rfl (by first | exact lk rfl | first | rfl | omega | (simp; done) | (simp; omega)) ?_)
  refine Si.n rfl (lk rfl) (V.ldPtr ty22 rfl rfl rfl (lk rfl) (v := .own 2 _ _) rfl ?_)
  refine Si.n rfl (lk rfl) (V.len ty22 (v := .own 2 _ _) rfl rfl ?_)
  refine Si.n rfl (lk rfl) (V.cutOwnH ty22 ty5 rfl rfl rfl rfl (by omega) (.inr ⟨_, _, rfl, rfl, rfl, by omega⟩) rfl ?_)
  refine Si.n rfl (lk rfl) (V.mv (v := .p (.bs _)) rfl ?_)
  refine Si.e ?_
  refine ⟨flEq_nil, fun ff => ?_⟩
  refine Lo.n rfl (lk rfl) (A.apOwn ty22 ty5 rfl rfl rfl rfl (u := .p (.bs _)) rfl rfl (l' := (rst tx ++ p)) (by simp) (mn := (rst tx ++ p).length) (by omega) (by omega) rfl rfl rfl ?_)
  refine ⟨_, fun ff => Fr.kill 2 (ff), ap1d, rfl, (FG.kill 2 (flP_cons rfl flP_nil)), ?_⟩
  show planA _ _ _ _ _ [(0, .ptr 1 0)] _ _ _
  refine Pl.l0 ?_
  refine Si.n rfl (lk rfl) (V.mv (v := .ptr 1 0) rfl ?_)
  refine Si.n rfl (lk rfl) (V.ncPtr rfl ?_)
  refine Si.n rfl (lk rfl) (V.faPtr ty67 rfl ty22 (lk rfl) rfl rfl (by first | exact lk rfl | first | rfl | omega | (simp; done) | (simp; omega)) ?_)
  refine Si.e ?_
  refine ⟨(flEq_cons rfl flEq_nil), ?_⟩
  refine Lo.s rfl (A.sto ty22 rfl rfl rfl (v := .own 2 0 _) rfl trivial rfl (lk rfl) rfl rfl ?_)
  refine Pl.e ?_
  refine Si.e ?_
  refine ⟨flEq_nil, ?_⟩
  show HT _ _ _ _ _
  refine HT.block ?_
  refine R.loop (σ := Nat) (fun s => []) (fun s => [(1, ⟨67, 1, 10, true, .cells [.p (.u32 (stN (tx ++ p) (tx.length / 64 + s) 0)), .p (.u32 (stN (tx ++ p) (tx.length / 64 + s) 1)), .p (.u32 (stN (tx ++ p) (tx.length / 64 + s) 2)), .p (.u32 (stN (tx ++ p) (tx.length / 64 + s) 3)), .p (.u32 (stN (tx ++ p) (tx.length / 64 + s) 4)), .p (.u32 (stN (tx ++ p) (tx.length / 64 + s) 5)), .p (.u32 (stN (tx ++ p) (tx.length / 64 + s) 6)), .p (.u32 (stN (tx ++ p) (tx.length / 64 + s) 7)), .own 2 (64 * s) ((rst tx ++ p).length - 64 * s), .p (.u64 (UInt64.ofNat (tx ++ p).length))]⟩)]) [0] [2] (fun s => 64 * s ≤ (rst tx ++ p).length) (fun s => (rst tx ++ p).length - 64 * s) (0) (fr0 := [(0, .ptr 1 0)]) (O0 := [(2, ⟨_, _, _, _, .bs _⟩)]) rfl rfl (by omega) ⟨⟨⟨.refl _, rfl⟩, trivial⟩, ⟨⟨_, rfl, .inl (by first | rfl | ((try dsimp only); first | rfl | (simp only [← wr_0, u64_app]; rfl))), ⟨trivial, trivial, trivial, trivial, trivial, trivial, trivial, trivial, rfl, trivial, trivial⟩⟩, ⟨_, rfl, .inl rfl, trivial⟩, trivial⟩⟩ (fun s hP0 => ?_)
  refine HT.seq ?_
  refine HT.seq ?_
  refine HT.region S_write_ok ?_
  refine So.q rfl rfl (V.mv (v := .ptr 1 0) rfl ?_)
  refine So.q rfl rfl (V.ncPtr rfl ?_)
  refine So.q rfl rfl (V.faPtr ty67 rfl ty22 (lk rfl) rfl rfl (by first | exact lk rfl | first | rfl | omega | (simp; done) | (simp; omega)) ?_)
  refine So.q rfl rfl (V.ldPtr ty22 rfl rfl rfl (lk rfl) (v := .own 2 _ _) rfl ?_)
  refine So.q rfl rfl (V.len ty22 (v := .own 2 _ _) rfl rfl ?_)
  refine So.q rfl rfl (V.bin (a := (.v (.int .i64 _))) (b := (.v (.int .i64 (64)))) (r := .v (.bool _)) rfl rfl rfl trivial ?_)
  refine So.e ?_
  show HT _ _ _ _ _
  refine R.cond rfl rfl (fun h1 => ?_) (fun h1 => ?_)
  · have h1 := of_decide_eq_true h1
    refine HT.skip ?_
    show HT _ _ _ _ _
    refine HT.seq ?_
    refine HT.block ?_
    refine HT.tail S_write_ok mixed 7 (by kernel_rfl) (by kernel_rfl) ?_
    refine So.q rfl rfl (V.mv (v := .ptr 1 0) rfl ?_)
    refine So.q rfl rfl (V.ncPtr rfl ?_)
    refine So.q rfl rfl (V.faPtr ty67 rfl ty64 (lk rfl) rfl rfl (by first | exact lk rfl | first | rfl | omega | (simp; done) | (simp; omega)) ?_)
    refine So.q rfl rfl (V.mv (v := .ptr 1 0) rfl ?_)
    refine So.q rfl rfl (V.ncPtr rfl ?_)
    refine So.q rfl rfl (V.faPtr ty67 rfl ty22 (lk rfl) rfl rfl (by first | exact lk rfl | first | rfl | omega | (simp; done) | (simp; omega)) ?_)
    refine So.q rfl rfl (V.ldPtr ty22 rfl rfl rfl (lk rfl) (v := .own 2 _ _) rfl ?_)
    refine So.n (lk rfl) (A.call [.ptr 1 _, .own 2 _ _] [(1, ⟨_, _, _, _, .cells [.p (.u32 _), .p (.u32 _), .p (.u32 _), .p (.u32 _), .p (.u32 _), .p (.u32 _), .p (.u32 _), .p (.u32 _), .own 2 _ _, .p (.u64 _)]⟩), (2, ⟨_, _, _, _, .bs _⟩)] (sg [(1, 1), (2, 2)]) 3 rfl rfl rfl rfl ⟨rfl, rfl, trivial⟩ rfl ⟨⟨trivial, trivial, trivial, trivial, trivial, trivial, trivial, trivial, rfl, trivial, trivial⟩, trivial, trivial⟩ ⟨rfl, rfl, trivial⟩ ⟨lk rfl, trivial⟩ rfl (stN (tx ++ p) (tx.length / 64 + s), rst tx ++ p, 64 * s, (rst tx ++ p).length - 64 * s, _) ⟨.refl _, .refl _, trivial⟩ ⟨⟨_, rfl, .inl rfl, ⟨trivial, trivial, trivial, trivial, trivial, trivial, trivial, trivial, rfl, trivial, trivial⟩⟩, ⟨_, rfl, .inl rfl, trivial⟩, trivial⟩ (by first | omega | (simp; done) | (simp; omega)) (Φ := fun _ => True) (fun _ _ => trivial) ⟨⟨_, _, rfl, rfl, rfl, Nat.le_refl _⟩, ⟨_, _, rfl, rfl, rfl, Nat.le_refl _⟩, trivial⟩ (.inl rfl) rfl (v := .tup 0 _) rfl (O' := (1, ⟨_, _, _, _, .cells _⟩) :: (2, ⟨_, _, _, _, .bs _⟩) :: _) rfl (fun h2 => ?_))
    refine So.e ?_
    show HT _ _ _ _ _
    refine HT.region S_write_ok ?_
    refine So.q rfl rfl (V.mv (v := .ptr 1 0) rfl ?_)
    refine So.q rfl rfl (V.mv (v := .ptr 1 0) rfl ?_)
    refine So.q rfl rfl (V.ncPtr rfl ?_)
    refine So.q rfl rfl (V.faPtr ty67 rfl ty22 (lk rfl) rfl rfl (by first | exact lk rfl | first | rfl | omega | (simp; done) | (simp; omega)) ?_)
    refine So.q rfl rfl (V.ldPtr ty22 rfl rfl rfl (lk rfl) (v := .own 2 _ _) rfl ?_)
    refine So.q rfl rfl (V.cutOwnL ty22 ty5 (s := 1) rfl rfl rfl rfl rfl (by omega) rfl ?_)
    refine So.q rfl rfl (V.ncPtr rfl ?_)
    refine So.q rfl rfl (V.faPtr ty67 rfl ty22 (lk rfl) rfl rfl (by first | exact lk rfl | first | rfl | omega | (simp; done) | (simp; omega)) ?_)
    refine So.s (A.sto ty22 rfl rfl rfl (v := .own 2 _ _) rfl trivial rfl (lk rfl) rfl rfl ?_)
    refine So.e ?_
    refine ⟨s + 1, by first | rfl | omega | (simp; done) | (simp; omega), by omega, ⟨⟨⟨.refl _, rfl⟩, trivial⟩, ⟨⟨_, rfl, .inl (by simp only [wr_1 (show 64 ≤ (rst tx ++ p).length - 64 * s by omega)]; rw [show 64 * (s + 1) = 64 * s + 64 by omega, show (rst tx ++ p).length - (64 * s + 64) = (rst tx ++ p).length - 64 * s - 64 by omega]; rfl), ⟨trivial, trivial, trivial, trivial, trivial, trivial, trivial, trivial, rfl, trivial, trivial⟩⟩, ⟨_, rfl, .inl rfl, trivial⟩, trivial⟩⟩⟩
  · have h1 := of_decide_eq_false h1
    refine HT.exit ?_
    exact ret_ok (sg [(1, 1), (2, 2)]) h rfl rfl rfl ⟨⟨trivial, trivial, trivial, trivial, trivial, trivial, trivial, trivial, rfl, trivial, trivial⟩, trivial, trivial⟩ trivial rfl ⟨trivial, ⟨⟨_, rfl, .inl (by first | (exact (jn_rst tx p).symm) | (rw [jn_rst]; done) | (simp only [wr_2 (l := tx) (p := p) hP0 (by omega), jn_len, rst_app, List.length_drop, show (rst tx ++ p).length / 64 = s by omega]; rfl)), ⟨trivial, trivial, trivial, trivial, trivial, trivial, trivial, trivial, rfl, trivial, trivial⟩⟩, ⟨_, rfl, .inl (ob_bs (by first | (exact (jn_rst tx p).symm) | (rw [jn_rst]; done) | (simp only [wr_2 (l := tx) (p := p) hP0 (by omega), jn_len, rst_app, List.length_drop, show (rst tx ++ p).length / 64 = s by omega]; rfl)) (by first | (exact (jn_rst tx p).symm) | (rw [jn_rst]; done) | (simp only [wr_2 (l := tx) (p := p) hP0 (by omega), jn_len, rst_app, List.length_drop, show (rst tx ++ p).length / 64 = s by omega]; rfl))), trivial⟩, trivial⟩⟩

end Go.Vh

set_option linter.unusedVariables false
set_option linter.unusedSimpArgs false
namespace Go.Vh
open Go Go.Vc Go.Proofs Go.Vw

/-! ### sodality/sha2.New -/
def newSp : Sp := ⟨[], mkE (α := Unit) (fun _ => []) (fun _ => []) (fun _ => True) (fun _ => [.ptr 1 (0)]) (fun _ => [(1, ⟨67, 1, 10, true, .cells [.p (.u32 (hst (nl) 0)), .p (.u32 (hst (nl) 1)), .p (.u32 (hst (nl) 2)), .p (.u32 (hst (nl) 3)), .p (.u32 (hst (nl) 4)), .p (.u32 (hst (nl) 5)), .p (.u32 (hst (nl) 6)), .p (.u32 (hst (nl) 7)), .own 2 ((nl).length) ((rst (nl)).length), .p (.u64 (UInt64.ofNat (nl).length))]⟩), (2, ⟨5, 1, (nl ++ rst nl).length, true, .bs (nl ++ rst nl)⟩)])⟩
def S_new : FuncId → Option Sp := fun f => if f = 47 then some beginSp else none
theorem S_new_ok : ∀ f s, S_new f = some s → FOK Tryd.prog gl f s := fun f s h => by
  unfold S_new at h
  split at h
  · rename_i e; cases h; subst e; exact begin_ok
  cases h
theorem S_new_det : ∀ f s, S_new f = some s → SpDet s.sp := fun f s h => by
  unfold S_new at h
  split at h
  · cases h; exact mkE_det _ _ _ _ _
  cases h
set_option maxHeartbeats 1000000 in
set_option maxRecDepth 20000 in
theorem new_ok : FOK Tryd.prog gl 35 newSp := by
  refine FOK.ofE (tyOf_ok Tryd.prog) (slots := [0]) (nt := 4) Tryd.func35 rfl rfl rfl rfl (by decide) 0 (fun _ => rfl) (by decide) (fun _ => trivial) ?_
  rintro _ kk hlen hpre h
  replace hpre : True := hpre
  show HT (cx Tryd.prog 4 (tyOf Tryd.prog) gl []) _ [] [] _
  refine HT.seq ?_
  refine HT.region S_new_ok ?_
  refine So.q rfl rfl (V.as (v := _) rfl ?_)
  refine So.e ?_
  show HT _ _ _ _ _
  refine HT.seq ?_
  refine HT.region S_new_ok ?_
  refine So.n (lk rfl) (A.call0 [] 1 rfl rfl rfl rfl trivial trivial () trivial trivial (by trivial) (Φ := fun _ => True) (fun _ _ => trivial) (.inl rfl) (v := .agg 8 _) rfl (O' := _) rfl (fun h1 => ?_))
  refine So.n (lk rfl) (A.bldS ty67 rfl rfl ⟨by first | exact trivial | exact rfl | (intro j hj; first | trivial | rfl | (simp [BV.one]; done)), trivial⟩ rfl (f := fun j => if j < 8 then .u32 (h0 j) else if j = 8 then .v (.slice none 0 0) else .u64 0) (by exact allP_spec (P := fun j => _ = _) ⟨⟨⟨⟨⟨⟨⟨⟨⟨⟨trivial, rfl⟩, rfl⟩, rfl⟩, rfl⟩, rfl⟩, rfl⟩, rfl⟩, rfl⟩, rfl⟩, rfl⟩) ?_)
  refine So.n (lk rfl) (A.boxAg 1 1 (n := 10) rfl (by intro j hj; first | rfl | trivial | (split <;> first | rfl | trivial | (split <;> first | rfl | trivial))) rfl trivial ?_)
  refine So.q rfl rfl (V.as (v := .ptr 1 0) rfl ?_)
  refine So.e ?_
  show HT _ _ _ _ _
  refine HT.phanC 1 2 5 1 (.bs []) (c' := .cells [.p (.u32 (h0 0)), .p (.u32 (h0 1)), .p (.u32 (h0 2)), .p (.u32 (h0 3)), .p (.u32 (h0 4)), .p (.u32 (h0 5)), .p (.u32 (h0 6)), .p (.u32 (h0 7)), .own 2 0 0, .p (.u64 0)]) rfl rfl rfl ⟨rfl, rfl⟩ rfl (allP_spec (P := fun j => _ ∨ _) ⟨⟨⟨⟨⟨⟨⟨⟨⟨⟨trivial, .inl rfl⟩, .inl rfl⟩, .inl rfl⟩, .inl rfl⟩, .inl rfl⟩, .inl rfl⟩, .inl rfl⟩, .inl rfl⟩, .inr ⟨rfl, rfl⟩⟩, .inl rfl⟩) rfl ?_
  refine HT.ret ?_
  exact ret_ok (sg [(1, 1), (2, 2)]) h rfl rfl rfl ⟨⟨trivial, trivial, trivial, trivial, trivial, trivial, trivial, trivial, rfl, trivial, trivial⟩, trivial, trivial⟩ ⟨rfl, trivial⟩ rfl ⟨⟨⟨.refl _, rfl⟩, trivial⟩, ⟨⟨_, rfl, .inl (by first | rfl | ((try dsimp only); (first | rfl))), ⟨trivial, trivial, trivial, trivial, trivial, trivial, trivial, trivial, rfl, trivial, trivial⟩⟩, ⟨_, rfl, .inl (ob_bs (by first | rfl | ((try dsimp only); (first | rfl))) (by first | rfl | ((try dsimp only); (first | rfl)))), trivial⟩, trivial⟩⟩

end Go.Vh

set_option linter.unusedVariables false
set_option linter.unusedSimpArgs false
namespace Go.Vh
open Go Go.Vc Go.Proofs Go.Vw

/-! ### (*sodality/sha2.state).block -/
def blockSp : Sp := ⟨[1], mkE (α := (Nat → UInt32) × (List UInt8)) (fun (g, b) => [.ptr 1 (0), .p (.bs (b))]) (fun (g, b) => [(1, ⟨64, 1, 8, true, .rows (fun j => .u32 (g j))⟩)]) (fun (g, b) => 64 ≤ b.length) (fun (g, b) => []) (fun (g, b) => [(1, ⟨64, 1, 8, true, .rows (fun j => .u32 (comp g b j))⟩)])⟩
def S_block : FuncId → Option Sp := fun f => if f = 56 then some wordsSp else if f = 57 then some rightSp else none
theorem S_block_ok : ∀ f s, S_block f = some s → FOK Tryd.prog gl f s := fun f s h => by
  unfold S_block at h
  split at h
  · rename_i e; cases h; subst e; exact words_ok
  split at h
  · rename_i e; cases h; subst e; exact right_ok
  cases h
theorem S_block_det : ∀ f s, S_block f = some s → SpDet s.sp := fun f s h => by
  unfold S_block at h
  split at h
  · cases h; exact mkE_det _ _ _ _ _
  split at h
  · cases h; exact mkE_det _ _ _ _ _
  cases h
set_option maxHeartbeats 1000000 in
set_option maxRecDepth 20000 in
theorem block_ok : FOK Tryd.prog gl 48 blockSp := by
  refine FOK.ofE (tyOf_ok Tryd.prog) (slots := []) (nt := 135) Tryd.func48 rfl rfl rfl rfl (by decide) 2 (fun ⟨_, _⟩ => rfl) (by decide) (fun ⟨_, _⟩ => ⟨rfl, trivial, trivial⟩) ?_
  rintro ⟨g, b⟩ kk hlen hpre h
  have hl1 : (b).length ≤ 9223372036854775807 := hlen.2.1
  replace hpre : 64 ≤ b.length := hpre
  show HT (cx Tryd.prog 135 (tyOf Tryd.prog) gl [1]) _ [(0, .ptr 1 (0)), (1, .p (.bs (b)))] [(1, ⟨64, 1, 8, true, .rows (fun j => .u32 (g j))⟩)] _
  refine R.jump (σ := Nat) 0 (fun s => [(4, .ptr 2 (0)), (5, .p (.u32 (rounds g (wd b) s 0))), (6, .p (.u32 (rounds g (wd b) s 1))), (7, .p (.u32 (rounds g (wd b) s 2))), (8, .p (.u32 (rounds g (wd b) s 3))), (9, .p (.u32 (rounds g (wd b) s 4))), (10, .p (.u32 (rounds g (wd b) s 5))), (11, .p (.u32 (rounds g (wd b) s 6))), (12, .p (.u32 (rounds g (wd b) s 7))), (13, .p (.v (.int .i64 ((s : Int)))))]) (fun s => [(2, ⟨70, 1, 64, true, .rows (fun j => .u32 (wd b j))⟩)]) [0, 1] [1] (fun s => s < 64) (fun s => 64 - s) rfl (fr0 := [(0, .ptr 1 0), (1, .p (.bs _))]) (O0 := [(1, ⟨_, _, _, _, .rows _⟩)]) rfl rfl ?_ (fun s hPj => ?_)
  · refine HT.seq ?_
    refine HT.region S_block_ok ?_
    refine So.q rfl rfl (V.mv (v := .p (.bs _)) rfl ?_)
    refine So.n (lk rfl) (A.call0 [.p (.bs _)] 2 rfl rfl rfl rfl ⟨trivial, trivial⟩ ⟨lk rfl, trivial⟩ _ ⟨.refl _, trivial⟩ trivial (by first | omega | (simp; done) | (simp; omega)) (Φ := fun _ => True) (fun _ _ => trivial) (.inl rfl) (v := .agg 64 _) rfl (O' := _) rfl (fun h1 => ?_))
    refine So.n (lk rfl) (A.alloc 2 1 ty70 rfl ⟨lk rfl, trivial⟩ (f := fun _ => .u32 0) (fun _ _ => rfl) ?_)
    refine So.s (A.stoAg ty70 rfl (n := 64) rfl (by decide) (by intro j hj; first | rfl | trivial) rfl rfl rfl ?_)
    refine So.e ?_
    show HT _ _ _ _ _
    refine HT.seq ?_
    refine HT.drawn S_block_ok S_block_det mixed (by kernel_rfl) ?_
    refine Sd.n (lk rfl) (V.mv (v := .ptr 1 0) rfl ?_)
    refine Sd.n (lk rfl) (V.ncPtr rfl ?_)
    refine Sd.n (lk rfl) (V.ixArrP10 ty64 ty57 rfl rfl rfl (by first | rfl | omega | (simp; done) | (simp; omega)) rfl (by omega) rfl ?_)
    refine Sd.n (lk rfl) (V.ldPtr ty57 rfl rfl rfl (by first | rfl | omega | (simp; done) | (simp; omega)) (v := .p (.u32 _)) rfl ?_)
    refine Sd.n (lk rfl) (V.mv (v := .ptr 1 0) rfl ?_)
    refine Sd.n (lk rfl) (V.ncPtr rfl ?_)
    refine Sd.n (lk rfl) (V.ixArrP10 ty64 ty57 rfl rfl rfl (by first | rfl | omega | (simp; done) | (simp; omega)) rfl (by omega) rfl ?_)
    refine Sd.n (lk rfl) (V.ldPtr ty57 rfl rfl rfl (by first | rfl | omega | (simp; done) | (simp; omega)) (v := .p (.u32 _)) rfl ?_)
    refine Sd.n (lk rfl) (V.mv (v := .ptr 1 0) rfl ?_)
    refine Sd.n (lk rfl) (V.ncPtr rfl ?_)
    refine Sd.n (lk rfl) (V.ixArrP10 ty64 ty57 rfl rfl rfl (by first | rfl | omega | (simp; done) | (simp; omega)) rfl (by omega) rfl ?_)
    refine Sd.n (lk rfl) (V.ldPtr ty57 rfl rfl rfl (by first | rfl | omega | (simp; done) | (simp; omega)) (v := .p (.u32 _)) rfl ?_)
    refine Sd.n (lk rfl) (V.mv (v := .ptr 1 0) rfl ?_)
    refine Sd.n (lk rfl) (V.ncPtr rfl ?_)
    refine Sd.n (lk rfl) (V.ixArrP10 ty64 ty57 rfl rfl rfl (by first | rfl | omega | (simp; done) | (simp; omega)) rfl (by omega) rfl ?_)
    refine Sd.n (lk rfl) (V.ldPtr ty57 rfl rfl rfl (by first | rfl | omega | (simp; done) | (simp; omega)) (v := .p (.u32 _)) rfl ?_)
    refine Sd.n (lk rfl) (V.mv (v := .ptr 1 0) rfl ?_)
    refine Sd.n (lk rfl) (V.ncPtr rfl ?_)
    refine Sd.n (lk rfl) (V.ixArrP10 ty64 ty57 rfl rfl rfl (by first | rfl | omega | (simp; done) | (simp; omega)) rfl (by omega) rfl ?_)
    refine Sd.n (lk rfl) (V.ldPtr ty57 rfl rfl rfl (by first | rfl | omega | (simp; done) | (simp; omega)) (v := .p (.u32 _)) rfl ?_)
    refine Sd.n (lk rfl) (V.mv (v := .ptr 1 0) rfl ?_)
    refine Sd.n (lk rfl) (V.ncPtr rfl ?_)
    refine Sd.n (lk rfl) (V.ixArrP10 ty64 ty57 rfl rfl rfl (by first | rfl | omega | (simp; done) | (simp; omega)) rfl (by omega) rfl ?_)
    refine Sd.n (lk rfl) (V.ldPtr ty57 rfl rfl rfl (by first | rfl | omega | (simp; done) | (simp; omega)) (v := .p (.u32 _)) rfl ?_)
    refine Sd.n (lk rfl) (V.mv (v := .ptr 1 0) rfl ?_)
    refine Sd.n (lk rfl) (V.ncPtr rfl ?_)
    refine Sd.n (lk rfl) (V.ixArrP10 ty64 ty57 rfl rfl rfl (by first | rfl | omega | (simp; done) | (simp; omega)) rfl (by omega) rfl ?_)
    refine Sd.n (lk rfl) (V.ldPtr ty57 rfl rfl rfl (by first | rfl | omega | (simp; done) | (simp; omega)) (v := .p (.u32 _)) rfl ?_)
    refine Sd.n (lk rfl) (V.mv (v := .ptr 1 0) rfl ?_)
    refine Sd.n (lk rfl) (V.ncPtr rfl ?_)
    refine Sd.n (lk rfl) (V.ixArrP10 ty64 ty57 rfl rfl rfl (by first | rfl | omega | (simp; done) | (simp; omega)) rfl (by omega) rfl ?_)
    refine Sd.n (lk rfl) (V.ldPtr ty57 rfl rfl rfl (by first | rfl | omega | (simp; done) | (simp; omega)) (v := .p (.u32 _)) rfl ?_)
    refine Sd.n (lk rfl) (V.as (v := .p (.u32 _)) rfl ?_)
    refine Sd.n (lk rfl) (V.as (v := .p (.u32 _)) rfl ?_)
    refine Sd.n (lk rfl) (V.as (v := .p (.u32 _)) rfl ?_)
    refine Sd.n (lk rfl) (V.as (v := .p (.u32 _)) rfl ?_)
    refine Sd.n (lk rfl) (V.as (v := .p (.u32 _)) rfl ?_)
    refine Sd.n (lk rfl) (V.as (v := .p (.u32 _)) rfl ?_)
    refine Sd.n (lk rfl) (V.as (v := .p (.u32 _)) rfl ?_)
    refine Sd.n (lk rfl) (V.as (v := .p (.u32 _)) rfl ?_)
    refine Sd.e ?_
    show HT _ _ _ _ _
    refine HT.seq ?_
    refine HT.region S_block_ok ?_
    refine So.q rfl rfl (V.as (v := .p (.v (.int .i64 (0)))) rfl ?_)
    refine So.e ?_
    show HT _ _ _ _ _
    refine HT.seq ?_
    refine HT.label ?_
    show HT _ _ _ _ _
    refine HT.seq ?_
    refine HT.drawn S_block_ok S_block_det mixed (by kernel_rfl) ?_
    refine Sd.n (lk rfl) (V.mv (v := .p (.u32 _)) rfl ?_)
    refine Sd.n (lk rfl) (V.mv (v := .p (.u32 _)) rfl ?_)
    refine Sd.n (lk rfl) (V.call [.p (.u32 _), .p (.v (.int .i64 _))] 3 rfl rfl rfl rfl ⟨trivial, trivial, trivial⟩ ⟨lk rfl, trivial⟩ (_, _) ⟨.refl _, .refl _, trivial⟩ trivial (by first | omega | decide) (Φ := fun _ => True) (fun _ _ => trivial) (.inl ⟨trivial, trivial, trivial⟩) (v := .p (.u32 _)) rfl (fun h2 => ?_))
    refine Sd.n (lk rfl) (V.mv (v := .p (.u32 _)) rfl ?_)
    refine Sd.n (lk rfl) (V.call [.p (.u32 _), .p (.v (.int .i64 _))] 3 rfl rfl rfl rfl ⟨trivial, trivial, trivial⟩ ⟨lk rfl, trivial⟩ (_, _) ⟨.refl _, .refl _, trivial⟩ trivial (by first | omega | decide) (Φ := fun _ => True) (fun _ _ => trivial) (.inl ⟨trivial, trivial, trivial⟩) (v := .p (.u32 _)) rfl (fun h3 => ?_))
    refine Sd.n (lk rfl) (V.bin (a := (.u32 _)) (b := (.u32 _)) (r := .u32 _) rfl rfl rfl trivial ?_)
    refine Sd.n (lk rfl) (V.mv (v := .p (.u32 _)) rfl ?_)
    refine Sd.n (lk rfl) (V.call [.p (.u32 _), .p (.v (.int .i64 _))] 3 rfl rfl rfl rfl ⟨trivial, trivial, trivial⟩ ⟨lk rfl, trivial⟩ (_, _) ⟨.refl _, .refl _, trivial⟩ trivial (by first | omega | decide) (Φ := fun _ => True) (fun _ _ => trivial) (.inl ⟨trivial, trivial, trivial⟩) (v := .p (.u32 _)) rfl (fun h4 => ?_))
    refine Sd.n (lk rfl) (V.bin (a := (.u32 _)) (b := (.u32 _)) (r := .u32 _) rfl rfl rfl trivial ?_)
    refine Sd.n (lk rfl) (V.bin (a := (.u32 _)) (b := (.u32 _)) (r := .u32 _) rfl rfl rfl trivial ?_)
    refine Sd.n (lk rfl) (V.mv (v := .p (.u32 _)) rfl ?_)
    refine Sd.n (lk rfl) (V.mv (v := .p (.u32 _)) rfl ?_)
    refine Sd.n (lk rfl) (V.mv (v := .p (.u32 _)) rfl ?_)
    refine Sd.n (lk rfl) (V.mv (v := .p (.u32 _)) rfl ?_)
    refine Sd.n (lk rfl) (V.bin (a := (.u32 _)) (b := (.u32 _)) (r := .u32 _) rfl rfl rfl trivial ?_)
    refine Sd.n (lk rfl) (V.bin (a := (.u32 _)) (b := (.u32 _)) (r := .u32 _) rfl rfl rfl trivial ?_)
    refine Sd.n (lk rfl) (V.bin (a := (.u32 _)) (b := (.u32 _)) (r := .u32 _) rfl rfl rfl trivial ?_)
    refine Sd.n (lk rfl) (V.bin (a := (.u32 _)) (b := (.u32 _)) (r := .u32 _) rfl rfl rfl trivial ?_)
    refine Sd.n (lk rfl) (V.mv (v := .p (.v (.int .i64 _))) rfl ?_)
    refine Sd.n (lk rfl) (V.ixArr1 ty70 ty57 rfl rfl (lk rfl) rfl (by omega) rfl ?_)
    refine Sd.n (lk rfl) (V.ldRp ty57 rfl rfl (lk rfl) (v := (.u32 _)) rfl ?_)
    refine Sd.n (lk rfl) (V.bin (a := (.u32 _)) (b := (.u32 _)) (r := .u32 _) rfl rfl rfl trivial ?_)
    refine Sd.n (lk rfl) (V.mv (v := .p (.v (.int .i64 _))) rfl ?_)
    refine Sd.n (lk rfl) (V.ixArrP10 ty70 ty57 rfl rfl rfl (by first | rfl | omega | (simp; done) | (simp; omega)) rfl (by omega) rfl ?_)
    refine Sd.n (lk rfl) (V.ldPtr ty57 rfl rfl rfl (by first | rfl | omega | (simp; done) | (simp; omega)) (v := .p (.u32 _)) rfl ?_)
    refine Sd.n (lk rfl) (V.bin (a := (.u32 _)) (b := (.u32 _)) (r := .u32 _) rfl rfl rfl trivial ?_)
    refine Sd.n (lk rfl) (V.as (v := .p (.u32 _)) rfl ?_)
    refine Sd.e ?_
    show HT _ _ _ _ _
    refine HT.seq ?_
    refine HT.region S_block_ok ?_
    refine So.q rfl rfl (V.mv (v := .p (.u32 _)) rfl ?_)
    refine So.n (lk rfl) (A.call0 [.p (.u32 _), .p (.v (.int .i64 _))] 3 rfl rfl rfl rfl ⟨trivial, trivial, trivial⟩ ⟨lk rfl, trivial⟩ (_, _) ⟨.refl _, .refl _, trivial⟩ trivial (by first | omega | decide) (Φ := fun _ => True) (fun _ _ => trivial) (.inl rfl) (v := .p (.u32 _)) rfl (O' := _) rfl (fun h5 => ?_))
    refine So.q rfl rfl (V.mv (v := .p (.u32 _)) rfl ?_)
    refine So.n (lk rfl) (A.call0 [.p (.u32 _), .p (.v (.int .i64 _))] 3 rfl rfl rfl rfl ⟨trivial, trivial, trivial⟩ ⟨lk rfl, trivial⟩ (_, _) ⟨.refl _, .refl _, trivial⟩ trivial (by first | omega | decide) (Φ := fun _ => True) (fun _ _ => trivial) (.inl rfl) (v := .p (.u32 _)) rfl (O' := _) rfl (fun h6 => ?_))
    refine So.q rfl rfl (V.bin (a := (.u32 _)) (b := (.u32 _)) (r := .u32 _) rfl rfl rfl trivial ?_)
    refine So.q rfl rfl (V.mv (v := .p (.u32 _)) rfl ?_)
    refine So.n (lk rfl) (A.call0 [.p (.u32 _), .p (.v (.int .i64 _))] 3 rfl rfl rfl rfl ⟨trivial, trivial, trivial⟩ ⟨lk rfl, trivial⟩ (_, _) ⟨.refl _, .refl _, trivial⟩ trivial (by first | omega | decide) (Φ := fun _ => True) (fun _ _ => trivial) (.inl rfl) (v := .p (.u32 _)) rfl (O' := _) rfl (fun h7 => ?_))
    refine So.q rfl rfl (V.bin (a := (.u32 _)) (b := (.u32 _)) (r := .u32 _) rfl rfl rfl trivial ?_)
    refine So.q rfl rfl (V.mv (v := .p (.u32 _)) rfl ?_)
    refine So.q rfl rfl (V.mv (v := .p (.u32 _)) rfl ?_)
    refine So.q rfl rfl (V.bin (a := (.u32 _)) (b := (.u32 _)) (r := .u32 _) rfl rfl rfl trivial ?_)
    refine So.q rfl rfl (V.mv (v := .p (.u32 _)) rfl ?_)
    refine So.q rfl rfl (V.mv (v := .p (.u32 _)) rfl ?_)
    refine So.q rfl rfl (V.mv (v := .p (.u32 _)) rfl ?_)
    refine So.q rfl rfl (V.bin (a := (.u32 _)) (b := (.u32 _)) (r := .u32 _) rfl rfl rfl trivial ?_)
    refine So.q rfl rfl (V.bin (a := (.u32 _)) (b := (.u32 _)) (r := .u32 _) rfl rfl rfl trivial ?_)
    refine So.q rfl rfl (V.bin (a := (.u32 _)) (b := (.u32 _)) (r := .u32 _) rfl rfl rfl trivial ?_)
    refine So.q rfl rfl (V.bin (a := (.u32 _)) (b := (.u32 _)) (r := .u32 _) rfl rfl rfl trivial ?_)
    refine So.q rfl rfl (V.as (v := .p (.u32 _)) rfl ?_)
    refine So.e ?_
    show HT _ _ _ _ _
    refine HT.seq ?_
    refine HT.region S_block_ok ?_
    refine So.q rfl rfl (V.mv (v := .p (.u32 _)) rfl ?_)
    refine So.q rfl rfl (V.mv (v := .p (.u32 _)) rfl ?_)
    refine So.q rfl rfl (V.bin (a := (.u32 _)) (b := (.u32 _)) (r := .u32 _) rfl rfl rfl trivial ?_)
    refine So.q rfl rfl (V.mv (v := .p (.u32 _)) rfl ?_)
    refine So.q rfl rfl (V.mv (v := .p (.u32 _)) rfl ?_)
    refine So.q rfl rfl (V.mv (v := .p (.u32 _)) rfl ?_)
    refine So.q rfl rfl (V.mv (v := .p (.u32 _)) rfl ?_)
    refine So.q rfl rfl (V.mv (v := .p (.u32 _)) rfl ?_)
    refine So.q rfl rfl (V.bin (a := (.u32 _)) (b := (.u32 _)) (r := .u32 _) rfl rfl rfl trivial ?_)
    refine So.q rfl rfl (V.mv (v := .p (.u32 _)) rfl ?_)
    refine So.q rfl rfl (V.mv (v := .p (.u32 _)) rfl ?_)
    refine So.q rfl rfl (V.mv (v := .p (.u32 _)) rfl ?_)
    refine So.q rfl rfl (V.as (v := .p (.u32 _)) rfl ?_)
    refine So.q rfl rfl (V.as (v := .p (.u32 _)) rfl ?_)
    refine So.q rfl rfl (V.as (v := .p (.u32 _)) rfl ?_)
    refine So.q rfl rfl (V.as (v := .p (.u32 _)) rfl ?_)
    refine So.q rfl rfl (V.as (v := .p (.u32 _)) rfl ?_)
    refine So.q rfl rfl (V.as (v := .p (.u32 _)) rfl ?_)
    refine So.q rfl rfl (V.as (v := .p (.u32 _)) rfl ?_)
    refine So.q rfl rfl (V.as (v := .p (.u32 _)) rfl ?_)
    refine So.e ?_
    show HT _ _ _ _ _
    refine HT.seq ?_
    refine HT.seq ?_
    refine HT.region S_block_ok ?_
    refine So.q rfl rfl (V.mv (v := .p (.v (.int .i64 _))) rfl ?_)
    refine So.q rfl rfl (V.addI rfl rfl (by omega) ?_)
    refine So.q rfl rfl (V.as (v := .p (.v (.int .i64 _))) rfl ?_)
    refine So.e ?_
    show HT _ _ _ _ _
    refine HT.seq ?_
    refine HT.region S_block_ok ?_
    refine So.q rfl rfl (V.mv (v := .p (.v (.int .i64 _))) rfl ?_)
    refine So.q rfl rfl (V.bin (a := (.v (.int .i64 _))) (b := (.v (.int .i64 (64)))) (r := .v (.bool _)) rfl rfl rfl trivial ?_)
    refine So.e ?_
    show HT _ _ _ _ _
    refine R.cond rfl rfl (fun h8 => ?_) (fun h8 => ?_)
    · have h8 := of_decide_eq_true h8
      refine HT.goto ?_
      exact ⟨rfl, 1, by first | rfl | omega | (intro j hj; rfl), ⟨⟨⟨.refl _, rfl⟩, ⟨le_u32 (by first | rfl | omega | (intro j hj; rfl)), trivial⟩, ⟨le_u32 (by first | rfl | omega | (intro j hj; rfl)), trivial⟩, ⟨le_u32 (by first | rfl | omega | (intro j hj; rfl)), trivial⟩, ⟨le_u32 (by first | rfl | omega | (intro j hj; rfl)), trivial⟩, ⟨le_u32 (by first | rfl | omega | (intro j hj; rfl)), trivial⟩, ⟨le_u32 (by first | rfl | omega | (intro j hj; rfl)), trivial⟩, ⟨le_u32 (by first | rfl | omega | (intro j hj; rfl)), trivial⟩, ⟨le_u32 (by first | rfl | omega | (intro j hj; rfl)), trivial⟩, ⟨le_int (by first | rfl | omega | (intro j hj; rfl)), trivial⟩, ⟨.refl _, rfl⟩, ⟨.refl _, trivial⟩, trivial⟩, ⟨⟨_, rfl, .inr (ob_rows (by first | rfl | ((try dsimp only); first | rfl | omega | (intro j hj; rfl))) (by first | rfl | ((try dsimp only); first | rfl | omega | (intro j hj; rfl)))), trivial⟩, ⟨_, rfl, .inl rfl, trivial⟩, trivial⟩⟩⟩
    · have h8 := of_decide_eq_false h8
      first | exact absurd (by omega) h8 | exact absurd h8 (by omega)
  · show HT _ _ _ _ _
    refine HT.seq ?_
    refine HT.skip ?_
    show HT _ _ _ _ _
    refine HT.seq ?_
    refine HT.drawn S_block_ok S_block_det mixed (by kernel_rfl) ?_
    refine Sd.n (lk rfl) (V.mv (v := .p (.u32 _)) rfl ?_)
    refine Sd.n (lk rfl) (V.mv (v := .p (.u32 _)) rfl ?_)
    refine Sd.n (lk rfl) (V.call [.p (.u32 _), .p (.v (.int .i64 _))] 3 rfl rfl rfl rfl ⟨trivial, trivial, trivial⟩ ⟨lk rfl, trivial⟩ (_, _) ⟨.refl _, .refl _, trivial⟩ trivial (by first | omega | decide) (Φ := fun _ => True) (fun _ _ => trivial) (.inl ⟨trivial, trivial, trivial⟩) (v := .p (.u32 _)) rfl (fun h9 => ?_))
    refine Sd.n (lk rfl) (V.mv (v := .p (.u32 _)) rfl ?_)
    refine Sd.n (lk rfl) (V.call [.p (.u32 _), .p (.v (.int .i64 _))] 3 rfl rfl rfl rfl ⟨trivial, trivial, trivial⟩ ⟨lk rfl, trivial⟩ (_, _) ⟨.refl _, .refl _, trivial⟩ trivial (by first | omega | decide) (Φ := fun _ => True) (fun _ _ => trivial) (.inl ⟨trivial, trivial, trivial⟩) (v := .p (.u32 _)) rfl (fun h10 => ?_))
    refine Sd.n (lk rfl) (V.bin (a := (.u32 _)) (b := (.u32 _)) (r := .u32 _) rfl rfl rfl trivial ?_)
    refine Sd.n (lk rfl) (V.mv (v := .p (.u32 _)) rfl ?_)
    refine Sd.n (lk rfl) (V.call [.p (.u32 _), .p (.v (.int .i64 _))] 3 rfl rfl rfl rfl ⟨trivial, trivial, trivial⟩ ⟨lk rfl, trivial⟩ (_, _) ⟨.refl _, .refl _, trivial⟩ trivial (by first | omega | decide) (Φ := fun _ => True) (fun _ _ => trivial) (.inl ⟨trivial, trivial, trivial⟩) (v := .p (.u32 _)) rfl (fun h11 => ?_))
    refine Sd.n (lk rfl) (V.bin (a := (.u32 _)) (b := (.u32 _)) (r := .u32 _) rfl rfl rfl trivial ?_)
    refine Sd.n (lk rfl) (V.bin (a := (.u32 _)) (b := (.u32 _)) (r := .u32 _) rfl rfl rfl trivial ?_)
    refine Sd.n (lk rfl) (V.mv (v := .p (.u32 _)) rfl ?_)
    refine Sd.n (lk rfl) (V.mv (v := .p (.u32 _)) rfl ?_)
    refine Sd.n (lk rfl) (V.mv (v := .p (.u32 _)) rfl ?_)
    refine Sd.n (lk rfl) (V.mv (v := .p (.u32 _)) rfl ?_)
    refine Sd.n (lk rfl) (V.bin (a := (.u32 _)) (b := (.u32 _)) (r := .u32 _) rfl rfl rfl trivial ?_)
    refine Sd.n (lk rfl) (V.bin (a := (.u32 _)) (b := (.u32 _)) (r := .u32 _) rfl rfl rfl trivial ?_)
    refine Sd.n (lk rfl) (V.bin (a := (.u32 _)) (b := (.u32 _)) (r := .u32 _) rfl rfl rfl trivial ?_)
    refine Sd.n (lk rfl) (V.bin (a := (.u32 _)) (b := (.u32 _)) (r := .u32 _) rfl rfl rfl trivial ?_)
    refine Sd.n (lk rfl) (V.mv (v := .p (.v (.int .i64 ((_ : Nat) : Int)))) rfl ?_)
    refine Sd.n (lk rfl) (V.ixArr1 ty70 ty57 rfl rfl (lk rfl) rfl (by omega) (Int.toNat_natCast _) ?_)
    refine Sd.n (lk rfl) (V.ldRp ty57 rfl rfl (lk rfl) (v := (.u32 _)) rfl ?_)
    refine Sd.n (lk rfl) (V.bin (a := (.u32 _)) (b := (.u32 _)) (r := .u32 _) rfl rfl rfl trivial ?_)
    refine Sd.n (lk rfl) (V.mv (v := .p (.v (.int .i64 ((_ : Nat) : Int)))) rfl ?_)
    refine Sd.n (lk rfl) (V.ixArrP10 ty70 ty57 rfl rfl rfl (by first | rfl | omega | (simp; done) | (simp; omega)) rfl (by omega) (Int.toNat_natCast _) ?_)
    refine Sd.n (lk rfl) (V.ldPtr ty57 rfl rfl rfl (by first | rfl | omega | (simp; done) | (simp; omega)) (v := .p (.u32 _)) rfl ?_)
    refine Sd.n (lk rfl) (V.bin (a := (.u32 _)) (b := (.u32 _)) (r := .u32 _) rfl rfl rfl trivial ?_)
    refine Sd.n (lk rfl) (V.as (v := .p (.u32 _)) rfl ?_)
    refine Sd.e ?_
    show HT _ _ _ _ _
    refine HT.seq ?_
    refine HT.region S_block_ok ?_
    refine So.q rfl rfl (V.mv (v := .p (.u32 _)) rfl ?_)
    refine So.n (lk rfl) (A.call0 [.p (.u32 _), .p (.v (.int .i64 _))] 3 rfl rfl rfl rfl ⟨trivial, trivial, trivial⟩ ⟨lk rfl, trivial⟩ (_, _) ⟨.refl _, .refl _, trivial⟩ trivial (by first | omega | decide) (Φ := fun _ => True) (fun _ _ => trivial) (.inl rfl) (v := .p (.u32 _)) rfl (O' := _) rfl (fun h12 => ?_))
    refine So.q rfl rfl (V.mv (v := .p (.u32 _)) rfl ?_)
    refine So.n (lk rfl) (A.call0 [.p (.u32 _), .p (.v (.int .i64 _))] 3 rfl rfl rfl rfl ⟨trivial, trivial, trivial⟩ ⟨lk rfl, trivial⟩ (_, _) ⟨.refl _, .refl _, trivial⟩ trivial (by first | omega | decide) (Φ := fun _ => True) (fun _ _ => trivial) (.inl rfl) (v := .p (.u32 _)) rfl (O' := _) rfl (fun h13 => ?_))
    refine So.q rfl rfl (V.bin (a := (.u32 _)) (b := (.u32 _)) (r := .u32 _) rfl rfl rfl trivial ?_)
    refine So.q rfl rfl (V.mv (v := .p (.u32 _)) rfl ?_)
    refine So.n (lk rfl) (A.call0 [.p (.u32 _), .p (.v (.int .i64 _))] 3 rfl rfl rfl rfl ⟨trivial, trivial, trivial⟩ ⟨lk rfl, trivial⟩ (_, _) ⟨.refl _, .refl _, trivial⟩ trivial (by first | omega | decide) (Φ := fun _ => True) (fun _ _ => trivial) (.inl rfl) (v := .p (.u32 _)) rfl (O' := _) rfl (fun h14 => ?_))
    refine So.q rfl rfl (V.bin (a := (.u32 _)) (b := (.u32 _)) (r := .u32 _) rfl rfl rfl trivial ?_)
    refine So.q rfl rfl (V.mv (v := .p (.u32 _)) rfl ?_)
    refine So.q rfl rfl (V.mv (v := .p (.u32 _)) rfl ?_)
    refine So.q rfl rfl (V.bin (a := (.u32 _)) (b := (.u32 _)) (r := .u32 _) rfl rfl rfl trivial ?_)
    refine So.q rfl rfl (V.mv (v := .p (.u32 _)) rfl ?_)
    refine So.q rfl rfl (V.mv (v := .p (.u32 _)) rfl ?_)
    refine So.q rfl rfl (V.mv (v := .p (.u32 _)) rfl ?_)
    refine So.q rfl rfl (V.bin (a := (.u32 _)) (b := (.u32 _)) (r := .u32 _) rfl rfl rfl trivial ?_)
    refine So.q rfl rfl (V.bin (a := (.u32 _)) (b := (.u32 _)) (r := .u32 _) rfl rfl rfl trivial ?_)
    refine So.q rfl rfl (V.bin (a := (.u32 _)) (b := (.u32 _)) (r := .u32 _) rfl rfl rfl trivial ?_)
    refine So.q rfl rfl (V.bin (a := (.u32 _)) (b := (.u32 _)) (r := .u32 _) rfl rfl rfl trivial ?_)
    refine So.q rfl rfl (V.as (v := .p (.u32 _)) rfl ?_)
    refine So.e ?_
    show HT _ _ _ _ _
    refine HT.seq ?_
    refine HT.region S_block_ok ?_
    refine So.q rfl rfl (V.mv (v := .p (.u32 _)) rfl ?_)
    refine So.q rfl rfl (V.mv (v := .p (.u32 _)) rfl ?_)
    refine So.q rfl rfl (V.bin (a := (.u32 _)) (b := (.u32 _)) (r := .u32 _) rfl rfl rfl trivial ?_)
    refine So.q rfl rfl (V.mv (v := .p (.u32 _)) rfl ?_)
    refine So.q rfl rfl (V.mv (v := .p (.u32 _)) rfl ?_)
    refine So.q rfl rfl (V.mv (v := .p (.u32 _)) rfl ?_)
    refine So.q rfl rfl (V.mv (v := .p (.u32 _)) rfl ?_)
    refine So.q rfl rfl (V.mv (v := .p (.u32 _)) rfl ?_)
    refine So.q rfl rfl (V.bin (a := (.u32 _)) (b := (.u32 _)) (r := .u32 _) rfl rfl rfl trivial ?_)
    refine So.q rfl rfl (V.mv (v := .p (.u32 _)) rfl ?_)
    refine So.q rfl rfl (V.mv (v := .p (.u32 _)) rfl ?_)
    refine So.q rfl rfl (V.mv (v := .p (.u32 _)) rfl ?_)
    refine So.q rfl rfl (V.as (v := .p (.u32 _)) rfl ?_)
    refine So.q rfl rfl (V.as (v := .p (.u32 _)) rfl ?_)
    refine So.q rfl rfl (V.as (v := .p (.u32 _)) rfl ?_)
    refine So.q rfl rfl (V.as (v := .p (.u32 _)) rfl ?_)
    refine So.q rfl rfl (V.as (v := .p (.u32 _)) rfl ?_)
    refine So.q rfl rfl (V.as (v := .p (.u32 _)) rfl ?_)
    refine So.q rfl rfl (V.as (v := .p (.u32 _)) rfl ?_)
    refine So.q rfl rfl (V.as (v := .p (.u32 _)) rfl ?_)
    refine So.e ?_
    show HT _ _ _ _ _
    refine HT.seq ?_
    refine HT.seq ?_
    refine HT.region S_block_ok ?_
    refine So.q rfl rfl (V.mv (v := .p (.v (.int .i64 ((_ : Nat) : Int)))) rfl ?_)
    refine So.q rfl rfl (V.addI rfl rfl (by omega) ?_)
    refine So.q rfl rfl (V.as (v := .p (.v (.int .i64 _))) rfl ?_)
    refine So.e ?_
    show HT _ _ _ _ _
    refine HT.seq ?_
    refine HT.region S_block_ok ?_
    refine So.q rfl rfl (V.mv (v := .p (.v (.int .i64 _))) rfl ?_)
    refine So.q rfl rfl (V.bin (a := (.v (.int .i64 _))) (b := (.v (.int .i64 (64)))) (r := .v (.bool _)) rfl rfl rfl trivial ?_)
    refine So.e ?_
    show HT _ _ _ _ _
    refine R.cond rfl rfl (fun h15 => ?_) (fun h15 => ?_)
    · have h15 := of_decide_eq_true h15
      refine HT.goto ?_
      exact ⟨rfl, s + 1, by first | rfl | omega | (intro j hj; rfl), by omega, ⟨⟨⟨.refl _, rfl⟩, ⟨le_u32 (by first | rfl | omega | (intro j hj; rfl)), trivial⟩, ⟨le_u32 (by first | rfl | omega | (intro j hj; rfl)), trivial⟩, ⟨le_u32 (by first | rfl | omega | (intro j hj; rfl)), trivial⟩, ⟨le_u32 (by first | rfl | omega | (intro j hj; rfl)), trivial⟩, ⟨le_u32 (by first | rfl | omega | (intro j hj; rfl)), trivial⟩, ⟨le_u32 (by first | rfl | omega | (intro j hj; rfl)), trivial⟩, ⟨le_u32 (by first | rfl | omega | (intro j hj; rfl)), trivial⟩, ⟨le_u32 (by first | rfl | omega | (intro j hj; rfl)), trivial⟩, ⟨le_int (by first | rfl | omega | (intro j hj; rfl)), trivial⟩, ⟨.refl _, rfl⟩, ⟨.refl _, trivial⟩, trivial⟩, ⟨⟨_, rfl, .inr (ob_rows (by first | rfl | ((try dsimp only); first | rfl | omega | (intro j hj; rfl))) (by first | rfl | ((try dsimp only); first | rfl | omega | (intro j hj; rfl)))), trivial⟩, ⟨_, rfl, .inl rfl, trivial⟩, trivial⟩⟩⟩
    · have h15 := of_decide_eq_false h15
      refine HT.skip ?_
      show HT _ _ _ _ _
      refine HT.seq ?_
      refine HT.region S_block_ok ?_
      have hs : s + 1 = 64 := by omega
      refine So.q rfl rfl (V.mv (v := .p (.u32 _)) rfl ?_)
      refine So.q rfl rfl (V.mv (v := .p (.u32 _)) rfl ?_)
      refine So.q rfl rfl (V.mv (v := .p (.u32 _)) rfl ?_)
      refine So.q rfl rfl (V.mv (v := .p (.u32 _)) rfl ?_)
      refine So.q rfl rfl (V.mv (v := .p (.u32 _)) rfl ?_)
      refine So.q rfl rfl (V.mv (v := .p (.u32 _)) rfl ?_)
      refine So.q rfl rfl (V.mv (v := .p (.u32 _)) rfl ?_)
      refine So.q rfl rfl (V.mv (v := .p (.u32 _)) rfl ?_)
      refine So.n (lk rfl) (A.bldA ty58 rfl rfl ⟨by first | exact trivial | exact rfl | (intro j hj; first | trivial | rfl | (simp [BV.one]; done)), by first | exact trivial | exact rfl | (intro j hj; first | trivial | rfl | (simp [BV.one]; done)), by first | exact trivial | exact rfl | (intro j hj; first | trivial | rfl | (simp [BV.one]; done)), by first | exact trivial | exact rfl | (intro j hj; first | trivial | rfl | (simp [BV.one]; done)), by first | exact trivial | exact rfl | (intro j hj; first | trivial | rfl | (simp [BV.one]; done)), by first | exact trivial | exact rfl | (intro j hj; first | trivial | rfl | (simp [BV.one]; done)), by first | exact trivial | exact rfl | (intro j hj; first | trivial | rfl | (simp [BV.one]; done)), by first | exact trivial | exact rfl | (intro j hj; first | trivial | rfl | (simp [BV.one]; done)), trivial⟩ rfl (f := fun j => .u32 (rounds g (wd b) (s + 1) j)) (by exact allP_spec (P := fun j => _ = _) ⟨⟨⟨⟨⟨⟨⟨⟨trivial, rfl⟩, rfl⟩, rfl⟩, rfl⟩, rfl⟩, rfl⟩, rfl⟩, rfl⟩) ?_)
      refine So.q rfl rfl (V.mv (v := .p (.v (.int .i64 (0)))) rfl ?_)
      refine So.e ?_
      show HT _ _ _ _ _
      refine HT.block ?_
      refine R.loop (σ := Nat) (fun r => [(121, .p (.v (.int .i64 ((r : Int)))))]) (fun r => [(1, ⟨64, 1, 8, true, .rows (fun j => .u32 (if j < r then comp g b j else g j))⟩)]) [0, 120] [2] (fun r => r ≤ 8) (fun r => 8 - r) (0) (fr0 := [(0, .ptr 1 0), (120, .agg 8 _)]) (O0 := [(2, ⟨_, _, _, _, .rows _⟩)]) rfl rfl (by first | rfl | omega | (simp; done) | (simp; omega)) ⟨⟨⟨le_int (by first | rfl | omega | (simp; done)), trivial⟩, ⟨.refl _, rfl⟩, ⟨.refl _, trivial⟩, trivial⟩, ⟨⟨_, rfl, .inr (ob_rows (by first | rfl | ((try dsimp only); first | rfl | omega | (simp; done))) (by first | rfl | ((try dsimp only); first | rfl | omega | (simp; done)))), trivial⟩, ⟨_, rfl, .inl rfl, trivial⟩, trivial⟩⟩ (fun r hP0 => ?_)
      refine HT.seq ?_
      refine HT.region S_block_ok ?_
      refine So.q rfl rfl (V.bin (a := (.v (.int .i64 ((_ : Nat) : Int)))) (b := (.v (.int .i64 (8)))) (r := .v (.bool _)) rfl rfl rfl trivial ?_)
      refine So.e ?_
      show HT _ _ _ _ _
      refine HT.seq ?_
      refine R.cond rfl rfl (fun h16 => ?_) (fun h16 => ?_)
      · have h16 := of_decide_eq_true h16
        refine HT.skip ?_
        show HT _ _ _ _ _
        refine HT.seq ?_
        refine HT.block ?_
        refine HT.seq ?_
        refine HT.region S_block_ok ?_
        refine So.q rfl rfl (V.mv (v := .p (.v (.int .i64 ((_ : Nat) : Int)))) rfl ?_)
        refine So.q rfl rfl (V.ixV1 ty58 ty57 rfl rfl rfl rfl (by omega) (lk rfl) (Int.toNat_natCast _) (v := (.u32 _)) rfl ?_)
        refine So.q rfl rfl (V.as (v := .p (.v (.int .i64 ((_ : Nat) : Int)))) rfl ?_)
        refine So.q rfl rfl (V.as (v := .p (.u32 _)) rfl ?_)
        refine So.e ?_
        show HT _ _ _ _ _
        refine HT.tail S_block_ok mixed 9 (by kernel_rfl) (by kernel_rfl) ?_
        refine So.q rfl rfl (V.mv (v := .ptr 1 0) rfl ?_)
        refine So.q rfl rfl (V.mv (v := .p (.v (.int .i64 ((_ : Nat) : Int)))) rfl ?_)
        refine So.q rfl rfl (V.ncPtr rfl ?_)
        refine So.q rfl rfl (V.ixArrP10 (mi := r) ty64 ty57 rfl rfl rfl (by first | rfl | omega | (simp; done) | (simp; omega)) rfl (by omega) (by omega) ?_)
        refine So.q rfl rfl (V.ldPtr ty57 rfl rfl rfl (by first | rfl | omega | (simp; done) | (simp; omega)) (v := .p (.u32 _)) rfl ?_)
        refine So.q rfl rfl (V.mv (v := .p (.u32 _)) rfl ?_)
        refine So.q rfl rfl (V.bin (a := (.u32 _)) (b := (.u32 _)) (r := .u32 _) rfl rfl rfl trivial ?_)
        refine So.q rfl rfl (V.ncPtr rfl ?_)
        refine So.q rfl rfl (V.ixArrP10 (mi := r) ty64 ty57 rfl rfl rfl (by first | rfl | omega | (simp; done) | (simp; omega)) rfl (by omega) (by omega) ?_)
        refine So.s (A.sto ty57 rfl rfl rfl (v := .p (.u32 _)) rfl trivial rfl (by first | rfl | omega | (simp; done) | (simp; omega)) (c' := .rows (fun j => .u32 (if j = r then comp g b r else if j < r then comp g b j else g j))) (congrArg (fun g => some (OC.rows g)) (funext fun j => by by_cases h9 : j = r <;> simp [h9, comp, hs])) rfl ?_)
        refine So.e ?_
        show HT _ _ _ _ _
        refine HT.region S_block_ok ?_
        refine So.q rfl rfl (V.addI rfl rfl (by omega) ?_)
        refine So.q rfl rfl (V.mv (v := .p (.v (.int .i64 _))) rfl ?_)
        refine So.e ?_
        refine ⟨r + 1, by first | rfl | omega | (simp; done) | (simp; omega), by omega, ⟨⟨⟨le_int (by first | rfl | omega | (simp; done) | (simp; omega)), trivial⟩, ⟨.refl _, rfl⟩, ⟨.refl _, trivial⟩, trivial⟩, ⟨⟨_, rfl, .inr (ob_rows (by first | rfl | ((try dsimp only); (intro j hj; by_cases h9 : j = r <;> simp [h9] <;> (by_cases h8 : j < r <;> simp [h8] <;> omega)))) (by first | rfl | ((try dsimp only); (intro j hj; by_cases h9 : j = r <;> simp [h9] <;> (by_cases h8 : j < r <;> simp [h8] <;> omega))))), trivial⟩, ⟨_, rfl, .inl rfl, trivial⟩, trivial⟩⟩⟩
      · have h16 := of_decide_eq_false h16
        refine HT.exit ?_
        exact ret_ok (sg [(1, 1)]) h rfl rfl rfl ⟨trivial, trivial⟩ trivial rfl ⟨trivial, ⟨⟨_, rfl, .inr (ob_rows (by first | rfl | ((try dsimp only); (first | rfl | (intro j hj; rw [if_pos (by omega)])))) (by first | rfl | ((try dsimp only); (first | rfl | (intro j hj; rw [if_pos (by omega)]))))), trivial⟩, trivial⟩⟩

end Go.Vh

set_option linter.unusedVariables false
set_option linter.unusedSimpArgs false
namespace Go.Vh
open Go Go.Vc Go.Proofs Go.Vw

/-! ### (*sodality/sha2.Hash).Sum -/
def hsumSp : Sp := ⟨[1, 2], mkE (α := (List UInt8) × (List UInt8)) (fun (tx, j) => [.ptr 1 (0)]) (fun (tx, j) => [(1, ⟨67, 1, 10, true, .cells [.p (.u32 (hst (tx) 0)), .p (.u32 (hst (tx) 1)), .p (.u32 (hst (tx) 2)), .p (.u32 (hst (tx) 3)), .p (.u32 (hst (tx) 4)), .p (.u32 (hst (tx) 5)), .p (.u32 (hst (tx) 6)), .p (.u32 (hst (tx) 7)), .own 2 ((j).length) ((rst (tx)).length), .p (.u64 (UInt64.ofNat (tx).length))]⟩), (2, ⟨5, 1, (j ++ rst tx).length, true, .bs (j ++ rst tx)⟩)]) (fun (tx, j) => tx.length ≤ 1099511627776 ∧ j.length ≤ 1099511627776) (fun (tx, j) => [.own 3 (0) (32)]) (fun (tx, j) => [(1, ⟨67, 1, 10, true, .cells [.p (.u32 (hst (tx) 0)), .p (.u32 (hst (tx) 1)), .p (.u32 (hst (tx) 2)), .p (.u32 (hst (tx) 3)), .p (.u32 (hst (tx) 4)), .p (.u32 (hst (tx) 5)), .p (.u32 (hst (tx) 6)), .p (.u32 (hst (tx) 7)), .own 2 ((j).length) ((rst (tx)).length), .p (.u64 (UInt64.ofNat (tx).length))]⟩), (2, ⟨5, 1, (j ++ rst tx).length, true, .bs (j ++ rst tx)⟩), (3, ⟨5, 1, 32, true, .bs (sha tx)⟩)])⟩
def S_hsum : FuncId → Option Sp := fun f => if f = 48 then some blockSp else none
theorem S_hsum_ok : ∀ f s, S_hsum f = some s → FOK Tryd.prog gl f s := fun f s h => by
  unfold S_hsum at h
  split at h
  · rename_i e; cases h; subst e; exact block_ok
  cases h
theorem S_hsum_det : ∀ f s, S_hsum f = some s → SpDet s.sp := fun f s h => by
  unfold S_hsum at h
  split at h
  · cases h; exact mkE_det _ _ _ _ _
  cases h
set_option maxHeartbeats 1000000 in
set_option maxRecDepth 20000 in
theorem hsum_ok : FOK Tryd.prog gl 37 hsumSp := by
  refine FOK.ofE (tyOf_ok Tryd.prog) (slots := [2]) (nt := 70) Tryd.func37 rfl rfl rfl rfl (by decide) 1 (fun ⟨_, _⟩ => rfl) (by decide) (fun ⟨_, _⟩ => ⟨rfl, trivial⟩) ?_
  rintro ⟨tx, j⟩ kk hlen hpre h
  replace hpre : tx.length ≤ 1099511627776 ∧ j.length ≤ 1099511627776 := hpre
  show HT (cx Tryd.prog 70 (tyOf Tryd.prog) gl [1, 2]) _ [(0, .ptr 1 (0))] [(1, ⟨67, 1, 10, true, .cells [.p (.u32 (hst (tx) 0)), .p (.u32 (hst (tx) 1)), .p (.u32 (hst (tx) 2)), .p (.u32 (hst (tx) 3)), .p (.u32 (hst (tx) 4)), .p (.u32 (hst (tx) 5)), .p (.u32 (hst (tx) 6)), .p (.u32 (hst (tx) 7)), .own 2 ((j).length) ((rst (tx)).length), .p (.u64 (UInt64.ofNat (tx).length))]⟩), (2, ⟨5, 1, (j ++ rst tx).length, true, .bs (j ++ rst tx)⟩)] _
  have hrl := rst_len tx
  have hzl : zlen tx.length < 64 := by unfold zlen; omega
  have hEl : (rst tx ++ pad tx).length = (rst tx).length + (9 + zlen tx.length) := by rw [List.length_append, pad_len]
  have hE64 : (rst tx ++ pad tx).length % 64 = 0 := by rw [hEl]; unfold zlen; omega
  refine HT.seq ?_
  refine HT.region S_hsum_ok ?_
  refine So.q rfl rfl (V.as (v := .p (.v (.slice none 0 0))) rfl ?_)
  refine So.e ?_
  show HT _ _ _ _ _
  refine HT.seq ?_
  refine HT.region S_hsum_ok ?_
  refine So.q rfl rfl (V.mv (v := .ptr 1 0) rfl ?_)
  refine So.q rfl rfl (V.ncPtr rfl ?_)
  refine So.q rfl rfl (V.faPtr ty67 rfl ty64 (lk rfl) rfl rfl (by first | exact lk rfl | first | rfl | omega | (simp; done) | (simp; omega)) ?_)
  refine So.q rfl rfl (V.ldPtrA ty64 rfl rfl rfl rfl (by first | rfl | omega | (simp; done) | (simp; omega)) ?_)
  refine So.n (lk rfl) (A.alloc 3 1 ty64 rfl ⟨lk rfl, lk rfl, trivial⟩ (f := fun _ => .u32 0) (fun _ _ => rfl) ?_)
  refine So.s (A.stoAg ty64 rfl (n := 8) rfl (by decide) (by intro j hj; first | rfl | trivial | (match j, hj with | 0, _ => trivial | 1, _ => trivial | 2, _ => trivial | 3, _ => trivial | 4, _ => trivial | 5, _ => trivial | 6, _ => trivial | 7, _ => trivial)) rfl rfl rfl ?_)
  refine So.e ?_
  show HT _ _ _ _ _
  refine HT.seq ?_
  refine HT.region S_hsum_ok ?_
  refine So.n (lk rfl) (A.bsl 4 ty22 ty5 rfl (lk rfl) (lk rfl) (fun _ => rfl) rfl rfl ⟨lk rfl, lk rfl, trivial⟩ trivial rfl (N := 0) rfl (c := .bs []) rfl ?_)
  refine So.q rfl rfl (V.mv (v := .ptr 1 0) rfl ?_)
  refine So.q rfl rfl (V.ncPtr rfl ?_)
  refine So.q rfl rfl (V.faPtr ty67 rfl ty22 (lk rfl) rfl rfl (by first | exact lk rfl | first | rfl | omega | (simp; done) | (simp; omega)) ?_)
  refine So.q rfl rfl (V.ldPtr ty22 rfl rfl rfl (lk rfl) (v := .own 2 _ _) rfl ?_)
  refine So.n (lk rfl) (A.apOwn ty22 ty5 rfl rfl rfl rfl (u := .own 2 _ _) rfl rfl (l' := rst tx) (by simp) (mn := (rst tx).length) (by simp) (by first | rfl | omega | (simp; done) | (simp; omega)) rfl rfl rfl ?_)
  refine So.n (lk rfl) (A.bsl 5 ty22 ty5 rfl (lk rfl) (lk rfl) (fun _ => rfl) rfl rfl ⟨lk rfl, lk rfl, trivial⟩ ⟨trivial, trivial⟩ rfl (N := 1) rfl (c := .bs [_]) rfl ?_)
  refine So.n (lk rfl) (A.apOwn ty22 ty5 rfl rfl rfl rfl (u := .own 5 0 _) rfl rfl (l' := rst tx ++ [128]) (by simp) (mn := (rst tx).length + 1) (by simp) (by first | rfl | omega | (simp; done) | (simp; omega)) rfl rfl rfl ?_)
  refine So.q rfl rfl (V.as (v := .own 4 0 _) rfl ?_)
  refine So.e ?_
  show HT _ _ _ _ _
  refine HT.seq ?_
  refine HT.block ?_
  refine R.loop (σ := Nat) (fun s => [(4, .own 4 (0) ((rst tx).length + 1 + s))]) (fun s => [(4, ⟨5, 1, (rst tx).length + 1 + s, true, .bs (rst tx ++ [128] ++ List.replicate s 0)⟩)]) [0, 2, 3] [1, 2, 3, 5] (fun s => s ≤ zlen tx.length) (fun s => zlen tx.length - s) (0) (fr0 := [(0, .ptr 1 0), (2, .p (.v (.slice none 0 0))), (3, .ptr 3 0)]) (O0 := [(1, ⟨_, _, _, _, .cells _⟩), (2, ⟨_, _, _, _, .bs _⟩), (3, ⟨_, _, _, _, .rows _⟩), (5, ⟨_, _, _, _, .bs _⟩)]) rfl rfl (by first | rfl | omega | (simp; done) | (simp; omega)) ⟨⟨⟨le_own2 (by first | rfl | omega) (by first | rfl | omega | (simp; done)), rfl⟩, ⟨.refl _, rfl⟩, ⟨.refl _, trivial⟩, ⟨.refl _, rfl⟩, trivial⟩, ⟨⟨_, rfl, .inl (ob_bs (by first | rfl | ((try dsimp only); first | rfl | omega | (simp; done))) (by first | rfl | ((try dsimp only); first | rfl | omega | (simp; done)))), trivial⟩, ⟨_, rfl, .inl rfl, ⟨trivial, trivial, trivial, trivial, trivial, trivial, trivial, trivial, rfl, trivial, trivial⟩⟩, ⟨_, rfl, .inl rfl, trivial⟩, ⟨_, rfl, .inl rfl, trivial⟩, ⟨_, rfl, .inl rfl, trivial⟩, trivial⟩⟩ (fun s hP0 => ?_)
  refine HT.seq ?_
  refine HT.seq ?_
  refine HT.region S_hsum_ok ?_
  refine So.q rfl rfl (V.mv (v := .own 4 0 _) rfl ?_)
  refine So.q rfl rfl (V.len ty22 (v := .own 4 0 _) rfl rfl ?_)
  refine So.q rfl rfl (V.remI rfl rfl (by omega) ?_)
  refine So.q rfl rfl (V.bin (a := (.v (.int .i64 _))) (b := (.v (.int .i64 (56)))) (r := .v (.bool _)) rfl rfl rfl trivial ?_)
  refine So.e ?_
  show HT _ _ _ _ _
  refine R.cond rfl rfl (fun h1 => ?_) (fun h1 => ?_)
  · have h1 := of_decide_eq_false (bnT h1)
    refine HT.skip ?_
    show HT _ _ _ _ _
    refine HT.block ?_
    refine HT.region S_hsum_ok ?_
    refine So.q rfl rfl (V.mv (v := .own 4 0 _) rfl ?_)
    refine So.n (lk rfl) (A.bsl 6 ty22 ty5 rfl (lk rfl) (lk rfl) (fun _ => rfl) rfl rfl ⟨lk rfl, lk rfl, trivial⟩ ⟨trivial, trivial⟩ rfl (N := 1) rfl (c := .bs [_]) rfl ?_)
    refine So.n (lk rfl) (A.apOwn ty22 ty5 rfl rfl rfl rfl (u := .own 6 0 _) rfl rfl (l' := rst tx ++ [128] ++ List.replicate (s + 1) 0) (by rw [ap_full (by simp; omega)]; simp [List.replicate_succ']) (mn := (rst tx).length + 1 + (s + 1)) (by first | omega | (simp; done) | (simp; omega)) (by first | rfl | omega | (simp; done) | (simp; omega)) rfl rfl rfl ?_)
    refine So.q rfl rfl (V.as (v := .own 4 0 _) rfl ?_)
    refine So.e ?_
    refine ⟨s + 1, by unfold zlen at *; omega, by unfold zlen at *; omega, ⟨⟨⟨le_own2 (by first | rfl | omega) (by first | rfl | omega | (simp; done) | (simp; omega)), rfl⟩, ⟨.refl _, rfl⟩, ⟨.refl _, trivial⟩, ⟨.refl _, rfl⟩, trivial⟩, ⟨⟨_, rfl, .inl (ob_bs (by first | rfl | ((try dsimp only); first | rfl | omega | (simp; done) | (simp; omega))) (by first | rfl | ((try dsimp only); first | rfl | omega | (simp; done) | (simp; omega)))), trivial⟩, ⟨_, rfl, .inl rfl, ⟨trivial, trivial, trivial, trivial, trivial, trivial, trivial, trivial, rfl, trivial, trivial⟩⟩, ⟨_, rfl, .inl rfl, trivial⟩, ⟨_, rfl, .inl rfl, trivial⟩, ⟨_, rfl, .inl rfl, trivial⟩, trivial⟩⟩⟩
  · have h1 := of_decide_eq_true (bnF h1)
    refine HT.exit ?_
    show HT _ _ _ _ _
    refine HT.seq ?_
    refine HT.seq ?_
    refine HT.region S_hsum_ok ?_
    have hs : s = zlen tx.length := by unfold zlen at *; omega
    refine So.q rfl rfl (V.as (v := .p (.v (.int .i64 (56)))) rfl ?_)
    refine So.e ?_
    show HT _ _ _ _ _
    refine HT.block ?_
    refine R.loop (σ := Nat) (fun r => [(4, .own 4 (0) ((rst tx).length + 1 + zlen tx.length + r)), (5, .p (.v (.int .i64 (56 - 8 * (r : Int)))))]) (fun r => [(4, ⟨5, 1, (rst tx).length + 1 + zlen tx.length + r, true, .bs (rst tx ++ [128] ++ List.replicate (zlen tx.length) 0 ++ len8 (UInt64.ofNat tx.length) r)⟩)]) [0, 2, 3] [1, 2, 3, 5] (fun r => r ≤ 8) (fun r => 8 - r) (0) (fr0 := [(0, .ptr 1 0), (2, .p (.v (.slice none 0 0))), (3, .ptr 3 0)]) (O0 := [(1, ⟨_, _, _, _, .cells _⟩), (2, ⟨_, _, _, _, .bs _⟩), (3, ⟨_, _, _, _, .rows _⟩), (5, ⟨_, _, _, _, .bs _⟩)]) rfl rfl (by first | rfl | omega | (simp; done) | (simp; omega)) ⟨⟨⟨le_own2 (by first | rfl | omega) (by first | rfl | omega | (rw [hs]; simp [len8]; done) | (rw [hs])), rfl⟩, ⟨le_int (by first | rfl | omega | (rw [hs]; simp [len8]; done) | (rw [hs])), trivial⟩, ⟨.refl _, rfl⟩, ⟨.refl _, trivial⟩, ⟨.refl _, rfl⟩, trivial⟩, ⟨⟨_, rfl, .inl (ob_bs (by first | rfl | ((try dsimp only); first | rfl | omega | (rw [hs]; simp [len8]; done) | (rw [hs]))) (by first | rfl | ((try dsimp only); first | rfl | omega | (rw [hs]; simp [len8]; done) | (rw [hs])))), trivial⟩, ⟨_, rfl, .inl rfl, ⟨trivial, trivial, trivial, trivial, trivial, trivial, trivial, trivial, rfl, trivial, trivial⟩⟩, ⟨_, rfl, .inl rfl, trivial⟩, ⟨_, rfl, .inl rfl, trivial⟩, ⟨_, rfl, .inl rfl, trivial⟩, trivial⟩⟩ (fun r hP1 => ?_)
    refine HT.seq ?_
    refine HT.seq ?_
    refine HT.region S_hsum_ok ?_
    refine So.q rfl rfl (V.mv (v := .p (.v (.int .i64 _))) rfl ?_)
    refine So.q rfl rfl (V.bin (a := (.v (.int .i64 _))) (b := (.v (.int .i64 (0)))) (r := .v (.bool _)) rfl rfl rfl trivial ?_)
    refine So.e ?_
    show HT _ _ _ _ _
    refine R.cond rfl rfl (fun h2 => ?_) (fun h2 => ?_)
    · have h2 := of_decide_eq_true h2
      refine HT.skip ?_
      show HT _ _ _ _ _
      refine HT.seq ?_
      refine HT.block ?_
      refine HT.region S_hsum_ok ?_
      refine So.q rfl rfl (V.mv (v := .own 4 0 _) rfl ?_)
      refine So.q rfl rfl (V.mv (v := .ptr 1 0) rfl ?_)
      refine So.q rfl rfl (V.ncPtr rfl ?_)
      refine So.q rfl rfl (V.faPtr ty67 rfl ty56 (lk rfl) rfl rfl (by first | exact lk rfl | first | rfl | omega | (simp; done) | (simp; omega)) ?_)
      refine So.q rfl rfl (V.ldPtr ty56 rfl rfl rfl (lk rfl) (v := .p (.u64 _)) rfl ?_)
      refine So.q rfl rfl (V.shlC (n := 3) (a := (.u64 _)) (b := (.u64 3)) (r := .u64 (u64Shl _ 3)) rfl rfl rfl rfl ?_)
      refine So.q rfl rfl (V.mv (v := .p (.v (.int .i64 _))) rfl ?_)
      refine So.q rfl rfl (V.bin (a := (.u64 _)) (b := (.v (.int .i64 _))) (r := .u64 _) rfl rfl rfl (by first | rfl | omega | (simp; done) | (simp; omega)) ?_)
      refine So.q rfl rfl (V.cvN ty5 ty56 (a := (.u64 _)) (r := (.u8 _)) rfl rfl ?_)
      refine So.n (lk rfl) (A.bsl 6 ty22 ty5 rfl (lk rfl) (lk rfl) (fun _ => rfl) rfl rfl ⟨lk rfl, lk rfl, trivial⟩ ⟨trivial, trivial⟩ rfl (N := 1) rfl (c := .bs [_]) rfl ?_)
      refine So.n (lk rfl) (A.apOwn ty22 ty5 rfl rfl rfl rfl (u := .own 6 0 _) rfl rfl (l' := rst tx ++ [128] ++ List.replicate (zlen tx.length) 0 ++ len8 (UInt64.ofNat tx.length) (r + 1)) (by rw [ap_full (by simp [len8_len]; omega)]; simp only [len8, show (56 - 8 * (r : Int)).toNat = 56 - 8 * r by omega]; simp) (mn := (rst tx).length + 1 + zlen tx.length + (r + 1)) (by first | omega | (simp; done) | (simp; omega)) (by first | rfl | omega | (simp; done) | (simp; omega)) rfl rfl rfl ?_)
      refine So.q rfl rfl (V.as (v := .own 4 0 _) rfl ?_)
      refine So.e ?_
      show HT _ _ _ _ _
      refine HT.region S_hsum_ok ?_
      refine So.q rfl rfl (V.mv (v := .p (.v (.int .i64 _))) rfl ?_)
      refine So.q rfl rfl (V.subI rfl rfl (by omega) ?_)
      refine So.q rfl rfl (V.as (v := .p (.v (.int .i64 _))) rfl ?_)
      refine So.e ?_
      refine ⟨r + 1, by first | rfl | omega | (simp; done) | (simp; omega), by omega, ⟨⟨⟨le_own2 (by first | rfl | omega) (by first | rfl | omega | (simp; done) | (simp; omega)), rfl⟩, ⟨le_int (by first | rfl | omega | (simp; done) | (simp; omega)), trivial⟩, ⟨.refl _, rfl⟩, ⟨.refl _, trivial⟩, ⟨.refl _, rfl⟩, trivial⟩, ⟨⟨_, rfl, .inl (ob_bs (by first | rfl | ((try dsimp only); first | rfl | omega | (simp; done) | (simp; omega))) (by first | rfl | ((try dsimp only); first | rfl | omega | (simp; done) | (simp; omega)))), trivial⟩, ⟨_, rfl, .inl rfl, ⟨trivial, trivial, trivial, trivial, trivial, trivial, trivial, trivial, rfl, trivial, trivial⟩⟩, ⟨_, rfl, .inl rfl, trivial⟩, ⟨_, rfl, .inl rfl, trivial⟩, ⟨_, rfl, .inl rfl, trivial⟩, trivial⟩⟩⟩
    · have h2 := of_decide_eq_false h2
      refine HT.exit ?_
      show HT _ _ _ _ _
      refine HT.seq ?_
      refine HT.block ?_
      refine R.loop (σ := Nat) (fun q => [(4, .own 4 (64 * q) ((rst tx ++ pad tx).length - 64 * q))]) (fun q => [(3, ⟨64, 1, 8, true, .rows (fun j => .u32 (stN (ptx tx) (tx.length / 64 + q) j))⟩), (4, ⟨5, 1, ((rst tx ++ pad tx)).length, true, .bs ((rst tx ++ pad tx))⟩)]) [2, 3] [1, 2, 5] (fun q => 64 * q ≤ (rst tx ++ pad tx).length) (fun q => (rst tx ++ pad tx).length - 64 * q) (0) (fr0 := [(2, .p (.v (.slice none 0 0))), (3, .ptr 3 0)]) (O0 := [(1, ⟨_, _, _, _, .cells _⟩), (2, ⟨_, _, _, _, .bs _⟩), (5, ⟨_, _, _, _, .bs _⟩)]) rfl rfl (by omega) ⟨⟨⟨le_own2 (by first | rfl | omega) (by first | rfl | omega | (intro j hj; have hj8 : j < 8 := hj; simp only [← su_0]; match j, hj8 with | 0, _ => rfl | 1, _ => rfl | 2, _ => rfl | 3, _ => rfl | 4, _ => rfl | 5, _ => rfl | 6, _ => rfl | 7, _ => rfl) | (replace hP1 : r = 8 := (by omega); subst hP1; simp [pad]; done)), rfl⟩, ⟨.refl _, trivial⟩, ⟨.refl _, rfl⟩, trivial⟩, ⟨⟨_, rfl, .inr (ob_rows (by first | rfl | ((try dsimp only); first | rfl | omega | (intro j hj; have hj8 : j < 8 := hj; simp only [← su_0]; match j, hj8 with | 0, _ => rfl | 1, _ => rfl | 2, _ => rfl | 3, _ => rfl | 4, _ => rfl | 5, _ => rfl | 6, _ => rfl | 7, _ => rfl) | (replace hP1 : r = 8 := (by omega); subst hP1; simp [pad]; done))) (by first | rfl | ((try dsimp only); first | rfl | omega | (intro j hj; have hj8 : j < 8 := hj; simp only [← su_0]; match j, hj8 with | 0, _ => rfl | 1, _ => rfl | 2, _ => rfl | 3, _ => rfl | 4, _ => rfl | 5, _ => rfl | 6, _ => rfl | 7, _ => rfl) | (replace hP1 : r = 8 := (by omega); subst hP1; simp [pad]; done)))), trivial⟩, ⟨_, rfl, .inl (ob_bs (by first | rfl | ((try dsimp only); first | rfl | omega | (intro j hj; have hj8 : j < 8 := hj; simp only [← su_0]; match j, hj8 with | 0, _ => rfl | 1, _ => rfl | 2, _ => rfl | 3, _ => rfl | 4, _ => rfl | 5, _ => rfl | 6, _ => rfl | 7, _ => rfl) | (replace hP1 : r = 8 := (by omega); subst hP1; simp [pad]; done))) (by first | rfl | ((try dsimp only); first | rfl | omega | (intro j hj; have hj8 : j < 8 := hj; simp only [← su_0]; match j, hj8 with | 0, _ => rfl | 1, _ => rfl | 2, _ => rfl | 3, _ => rfl | 4, _ => rfl | 5, _ => rfl | 6, _ => rfl | 7, _ => rfl) | (replace hP1 : r = 8 := (by omega); subst hP1; simp [pad]; done)))), trivial⟩, ⟨_, rfl, .inl rfl, ⟨trivial, trivial, trivial, trivial, trivial, trivial, trivial, trivial, rfl, trivial, trivial⟩⟩, ⟨_, rfl, .inl rfl, trivial⟩, ⟨_, rfl, .inl rfl, trivial⟩, trivial⟩⟩ (fun q hP2 => ?_)
      refine HT.seq ?_
      refine HT.seq ?_
      refine HT.region S_hsum_ok ?_
      refine So.q rfl rfl (V.mv (v := .own 4 _ _) rfl ?_)
      refine So.q rfl rfl (V.len ty22 (v := .own 4 _ _) rfl rfl ?_)
      refine So.q rfl rfl (V.bin (a := (.v (.int .i64 _))) (b := (.v (.int .i64 (0)))) (r := .v (.bool _)) rfl rfl rfl trivial ?_)
      refine So.e ?_
      show HT _ _ _ _ _
      refine R.cond rfl rfl (fun h3 => ?_) (fun h3 => ?_)
      · have h3 := of_decide_eq_true h3
        refine HT.skip ?_
        show HT _ _ _ _ _
        refine HT.seq ?_
        refine HT.block ?_
        refine HT.region S_hsum_ok ?_
        have hbl : (List.take ((rst tx ++ pad tx).length - 64 * q) (List.drop (64 * q) (rst tx ++ pad tx))).length = (rst tx ++ pad tx).length - 64 * q := by rw [List.length_take, List.length_drop]; omega
        refine So.q rfl rfl (V.mv (v := .own 4 _ _) rfl ?_)
        refine So.n (lk rfl) (A.call [.ptr 1 _, .p (.bs _)] [(1, ⟨_, _, _, _, .rows _⟩)] (sg [(1, 3)]) 6 rfl rfl rfl rfl ⟨rfl, trivial⟩ rfl ⟨trivial, trivial⟩ ⟨rfl, trivial, trivial⟩ ⟨lk rfl, lk rfl, trivial⟩ rfl (_, _) ⟨.refl _, .refl _, trivial⟩ ⟨⟨_, rfl, .inl rfl, trivial⟩, trivial⟩ (by first | omega | (simp; done) | (simp; omega)) (Φ := fun _ => True) (fun _ _ => trivial) ⟨⟨_, _, rfl, rfl, rfl, Nat.le_refl _⟩, trivial⟩ (.inr ⟨fun _ hj => absurd hj (Nat.not_lt_zero _), by simp [Hp.scal, OC.scal, PV.scal, BV.scal]⟩) rfl (v := .tup 0 _) rfl (O' := (3, ⟨_, _, _, _, .rows _⟩) :: _) rfl (fun h4 => ?_))
        refine So.e ?_
        show HT _ _ _ _ _
        refine HT.region S_hsum_ok ?_
        refine So.q rfl rfl (V.mv (v := .own 4 _ _) rfl ?_)
        refine So.q rfl rfl (V.cutOwnL ty22 ty5 (s := 1) rfl rfl rfl rfl rfl (by omega) rfl ?_)
        refine So.q rfl rfl (V.as (v := .own 4 _ _) rfl ?_)
        refine So.e ?_
        refine ⟨q + 1, by first | rfl | omega | (simp; done) | (simp; omega), by omega, ⟨⟨⟨le_own2 (by first | rfl | omega) (by first | rfl | omega | (simp; done) | (simp; omega)), rfl⟩, ⟨.refl _, trivial⟩, ⟨.refl _, rfl⟩, trivial⟩, ⟨⟨_, rfl, .inr (ob_rows (by first | (intro j hj; exact congrArg PV.u32 (su_1 (by omega) j)) | rfl) (by first | (intro j hj; exact congrArg PV.u32 (su_1 (by omega) j)) | rfl)), trivial⟩, ⟨_, rfl, .inl (ob_bs (by first | rfl | ((try dsimp only); first | rfl | omega | (simp; done) | (simp; omega))) (by first | rfl | ((try dsimp only); first | rfl | omega | (simp; done) | (simp; omega)))), trivial⟩, ⟨_, rfl, .inl rfl, ⟨trivial, trivial, trivial, trivial, trivial, trivial, trivial, trivial, rfl, trivial, trivial⟩⟩, ⟨_, rfl, .inl rfl, trivial⟩, ⟨_, rfl, .inl rfl, trivial⟩, trivial⟩⟩⟩
      · have h3 := of_decide_eq_false h3
        refine HT.exit ?_
        show HT _ _ _ _ _
        refine HT.seq ?_
        refine HT.region S_hsum_ok ?_
        refine So.q rfl rfl (V.as (v := .p (.v (.slice none 0 0))) rfl ?_)
        refine So.e ?_
        show HT _ _ _ _ _
        refine HT.seq ?_
        refine HT.seq ?_
        refine HT.region S_hsum_ok ?_
        refine So.q rfl rfl (V.ldPtrA ty64 rfl rfl rfl rfl (by first | rfl | omega | (simp; done) | (simp; omega)) ?_)
        refine So.q rfl rfl (V.mv (v := .p (.v (.int .i64 (0)))) rfl ?_)
        refine So.e ?_
        show HT _ _ _ _ _
        refine HT.block ?_
        refine R.phan 6 6 5 1 (.bs []) rfl rfl rfl ⟨rfl, rfl⟩ ?_
        refine R.loop (σ := Nat) (fun r => [(6, .own 6 (0) (4 * r)), (51, .p (.v (.int .i64 ((r : Int)))))]) (fun r => [(6, ⟨5, 1, 4 * r, true, .bs (outN (stN (ptx tx) (tx.length / 64 + q)) r)⟩)]) [2, 50] [1, 2, 3, 4, 5] (fun r => r ≤ 8) (fun r => 8 - r) (0) (fr0 := [(2, .p (.v (.slice none 0 0))), (50, .agg 8 _)]) (O0 := [(1, ⟨_, _, _, _, .cells _⟩), (2, ⟨_, _, _, _, .bs _⟩), (3, ⟨_, _, _, _, .rows _⟩), (4, ⟨_, _, _, _, .bs _⟩), (5, ⟨_, _, _, _, .bs _⟩)]) rfl rfl (by first | rfl | omega | (simp; done) | (simp; omega)) ⟨⟨⟨le_own2 (by first | rfl | omega) (by first | rfl | omega), rfl⟩, ⟨le_int (by first | rfl | omega), trivial⟩, ⟨.refl _, trivial⟩, ⟨.refl _, trivial⟩, trivial⟩, ⟨⟨_, rfl, .inl (ob_bs (by first | rfl | ((try dsimp only); first | rfl | omega)) (by first | rfl | ((try dsimp only); first | rfl | omega))), trivial⟩, ⟨_, rfl, .inl rfl, ⟨trivial, trivial, trivial, trivial, trivial, trivial, trivial, trivial, rfl, trivial, trivial⟩⟩, ⟨_, rfl, .inl rfl, trivial⟩, ⟨_, rfl, .inl rfl, trivial⟩, ⟨_, rfl, .inl rfl, trivial⟩, ⟨_, rfl, .inl rfl, trivial⟩, trivial⟩⟩ (fun r hP3 => ?_)
        refine HT.seq ?_
        refine HT.region S_hsum_ok ?_
        refine So.q rfl rfl (V.bin (a := (.v (.int .i64 ((_ : Nat) : Int)))) (b := (.v (.int .i64 (8)))) (r := .v (.bool _)) rfl rfl rfl trivial ?_)
        refine So.e ?_
        show HT _ _ _ _ _
        refine HT.seq ?_
        refine R.cond rfl rfl (fun h5 => ?_) (fun h5 => ?_)
        · have h5 := of_decide_eq_true h5
          refine HT.skip ?_
          show HT _ _ _ _ _
          refine HT.seq ?_
          refine HT.block ?_
          refine HT.seq ?_
          refine HT.region S_hsum_ok ?_
          refine So.q rfl rfl (V.ixV1 (mi := r) ty64 ty57 rfl rfl rfl rfl (by omega) (lk rfl) (by omega) (v := (.u32 _)) rfl ?_)
          refine So.q rfl rfl (V.as (v := .p (.u32 _)) rfl ?_)
          refine So.e ?_
          show HT _ _ _ _ _
          refine HT.region S_hsum_ok ?_
          refine So.q rfl rfl (V.mv (v := .own 6 0 _) rfl ?_)
          refine So.q rfl rfl (V.mv (v := .p (.u32 _)) rfl ?_)
          refine So.q rfl rfl (V.shrC (n := 24) (a := (.u32 _)) (b := (.u64 24)) (r := .u32 (u32Shr _ 24)) rfl rfl rfl rfl ?_)
          refine So.q rfl rfl (V.cvN ty5 ty57 (a := (.u32 _)) (r := (.u8 _)) rfl rfl ?_)
          refine So.q rfl rfl (V.mv (v := .p (.u32 _)) rfl ?_)
          refine So.q rfl rfl (V.shrC (n := 16) (a := (.u32 _)) (b := (.u64 16)) (r := .u32 (u32Shr _ 16)) rfl rfl rfl rfl ?_)
          refine So.q rfl rfl (V.cvN ty5 ty57 (a := (.u32 _)) (r := (.u8 _)) rfl rfl ?_)
          refine So.q rfl rfl (V.mv (v := .p (.u32 _)) rfl ?_)
          refine So.q rfl rfl (V.shrC (n := 8) (a := (.u32 _)) (b := (.u64 8)) (r := .u32 (u32Shr _ 8)) rfl rfl rfl rfl ?_)
          refine So.q rfl rfl (V.cvN ty5 ty57 (a := (.u32 _)) (r := (.u8 _)) rfl rfl ?_)
          refine So.q rfl rfl (V.mv (v := .p (.u32 _)) rfl ?_)
          refine So.q rfl rfl (V.cvN ty5 ty57 (a := (.u32 _)) (r := (.u8 _)) rfl rfl ?_)
          refine So.n (lk rfl) (A.bsl 7 ty22 ty5 rfl (lk rfl) (lk rfl) (fun _ => rfl) rfl rfl ⟨lk rfl, lk rfl, trivial⟩ ⟨trivial, trivial, trivial, trivial, trivial⟩ rfl (N := 4) rfl (c := .bs [_, _, _, _]) rfl ?_)
          refine So.n (lk rfl) (A.apOwn ty22 ty5 rfl rfl rfl rfl (u := .own 7 0 _) rfl rfl (l' := outN (stN (ptx tx) (tx.length / 64 + q)) (r + 1)) (by rw [ap_full (by rw [outN_len]; omega)]; simp [outN, w4]) (mn := 4 * (r + 1)) (by first | omega | (simp; done) | (simp; omega)) (by first | rfl | omega | (simp; done) | (simp; omega)) rfl rfl rfl ?_)
          refine So.q rfl rfl (V.as (v := .own 6 0 _) rfl ?_)
          refine So.e ?_
          show HT _ _ _ _ _
          refine HT.region S_hsum_ok ?_
          refine So.q rfl rfl (V.addI rfl rfl (by omega) ?_)
          refine So.q rfl rfl (V.mv (v := .p (.v (.int .i64 _))) rfl ?_)
          refine So.e ?_
          refine ⟨r + 1, by first | rfl | omega | (simp; done) | (simp; omega), by omega, ⟨⟨⟨le_own2 (by first | rfl | omega) (by first | rfl | omega | (simp; done) | (simp; omega)), rfl⟩, ⟨le_int (by first | rfl | omega | (simp; done) | (simp; omega)), trivial⟩, ⟨.refl _, trivial⟩, ⟨.refl _, trivial⟩, trivial⟩, ⟨⟨_, rfl, .inl (ob_bs (by first | rfl | ((try dsimp only); first | rfl | omega | (simp; done) | (simp; omega))) (by first | rfl | ((try dsimp only); first | rfl | omega | (simp; done) | (simp; omega)))), trivial⟩, ⟨_, rfl, .inl rfl, ⟨trivial, trivial, trivial, trivial, trivial, trivial, trivial, trivial, rfl, trivial, trivial⟩⟩, ⟨_, rfl, .inl rfl, trivial⟩, ⟨_, rfl, .inl rfl, trivial⟩, ⟨_, rfl, .inl rfl, trivial⟩, ⟨_, rfl, .inl rfl, trivial⟩, trivial⟩⟩⟩
        · have h5 := of_decide_eq_false h5
          refine HT.exit ?_
          show HT _ _ _ _ _
          refine HT.seq ?_
          refine HT.region S_hsum_ok ?_
          refine So.q rfl rfl (V.mv (v := .own 6 0 _) rfl ?_)
          refine So.q rfl rfl (V.as (v := .own 6 0 _) rfl ?_)
          refine So.e ?_
          show HT _ _ _ _ _
          refine HT.ret ?_
          exact ret_ok (sg [(1, 1), (2, 2), (3, 6)]) h rfl rfl rfl ⟨⟨trivial, trivial, trivial, trivial, trivial, trivial, trivial, trivial, rfl, trivial, trivial⟩, trivial, trivial, trivial⟩ ⟨rfl, trivial⟩ rfl ⟨⟨⟨le_own2 (by first | rfl | omega) (by first | rfl | (replace hP3 : r = 8 := (by omega); subst hP3; first | rfl | (unfold sha; rw [su_2 (s := q) (by omega)]))), rfl⟩, trivial⟩, ⟨⟨_, rfl, .inl (by first | rfl | ((try dsimp only); (first | rfl | (replace hP3 : r = 8 := (by omega); subst hP3; first | rfl | (unfold sha; rw [su_2 (s := q) (by omega)]))))), ⟨trivial, trivial, trivial, trivial, trivial, trivial, trivial, trivial, rfl, trivial, trivial⟩⟩, ⟨_, rfl, .inl (ob_bs (by first | rfl | ((try dsimp only); (first | rfl | (replace hP3 : r = 8 := (by omega); subst hP3; first | rfl | (unfold sha; rw [su_2 (s := q) (by omega)]))))) (by first | rfl | ((try dsimp only); (first | rfl | (replace hP3 : r = 8 := (by omega); subst hP3; first | rfl | (unfold sha; rw [su_2 (s := q) (by omega)])))))), trivial⟩, ⟨_, rfl, .inl (ob_bs (by first | rfl | ((try dsimp only); (first | rfl | (replace hP3 : r = 8 := (by omega); subst hP3; first | rfl | (unfold sha; rw [su_2 (s := q) (by omega)]))))) (by first | rfl | ((try dsimp only); (first | rfl | (replace hP3 : r = 8 := (by omega); subst hP3; first | rfl | (unfold sha; rw [su_2 (s := q) (by omega)])))))), trivial⟩, trivial⟩⟩

end Go.Vh

set_option linter.unusedVariables false
set_option linter.unusedSimpArgs false
namespace Go.Vh
open Go Go.Vc Go.Proofs Go.Vw

/-! ### sodality/sha2.Sum -/
def shasumSp : Sp := ⟨[], mkE (α := (List UInt8)) (fun b => [.p (.bs (b))]) (fun b => []) (fun b => b.length ≤ 1099511627776) (fun b => [.own 2 (0) (32)]) (fun b => [(2, ⟨5, 1, 32, true, .bs (sha b)⟩)])⟩
def S_shasum : FuncId → Option Sp := fun f => if f = 35 then some newSp else if f = 36 then some writeSp else if f = 37 then some hsumSp else none
theorem S_shasum_ok : ∀ f s, S_shasum f = some s → FOK Tryd.prog gl f s := fun f s h => by
  unfold S_shasum at h
  split at h
  · rename_i e; cases h; subst e; exact new_ok
  split at h
  · rename_i e; cases h; subst e; exact write_ok
  split at h
  · rename_i e; cases h; subst e; exact hsum_ok
  cases h
theorem S_shasum_det : ∀ f s, S_shasum f = some s → SpDet s.sp := fun f s h => by
  unfold S_shasum at h
  split at h
  · cases h; exact mkE_det _ _ _ _ _
  split at h
  · cases h; exact mkE_det _ _ _ _ _
  split at h
  · cases h; exact mkE_det _ _ _ _ _
  cases h
set_option maxHeartbeats 1000000 in
set_option maxRecDepth 20000 in
theorem shasum_ok : FOK Tryd.prog gl 22 shasumSp := by
  refine FOK.ofE (tyOf_ok Tryd.prog) (slots := [2]) (nt := 10) Tryd.func22 rfl rfl rfl rfl (by decide) 1 (fun _ => rfl) (by decide) (fun _ => ⟨trivial, trivial⟩) ?_
  rintro b kk hlen hpre h
  have hl0 : (b).length ≤ 9223372036854775807 := hlen.1
  replace hpre : b.length ≤ 1099511627776 := hpre
  show HT (cx Tryd.prog 10 (tyOf Tryd.prog) gl []) _ [(0, .p (.bs (b)))] [] _
  refine HT.seq ?_
  refine HT.region S_shasum_ok ?_
  refine So.q rfl rfl (V.as (v := .p (.v (.slice none 0 0))) rfl ?_)
  refine So.e ?_
  show HT _ _ _ _ _
  refine HT.seq ?_
  refine HT.region S_shasum_ok ?_
  refine So.n (lk rfl) (A.call0 [] 1 rfl rfl rfl rfl trivial trivial () trivial trivial (by trivial) (Φ := fun _ => True) (fun _ _ => trivial) (.inl rfl) (v := .ptr 2 0) rfl (O' := (2, ⟨67, 1, _, true, .cells _⟩) :: (3, ⟨5, 1, _, true, .bs _⟩) :: _) rfl (fun h1 => ?_))
  refine So.q rfl rfl (V.as (v := .ptr 2 0) rfl ?_)
  refine So.e ?_
  show HT _ _ _ _ _
  refine HT.seq ?_
  refine HT.region S_shasum_ok ?_
  refine So.q rfl rfl (V.mv (v := .ptr 2 0) rfl ?_)
  refine So.q rfl rfl (V.mv (v := .p (.bs _)) rfl ?_)
  refine So.n (lk rfl) (A.call [.ptr 1 _, .p (.bs _)] [(1, ⟨_, _, _, _, .cells [.p (.u32 _), .p (.u32 _), .p (.u32 _), .p (.u32 _), .p (.u32 _), .p (.u32 _), .p (.u32 _), .p (.u32 _), .own 2 _ _, .p (.u64 _)]⟩), (2, ⟨_, _, _, _, .bs _⟩)] (sg [(1, 2), (2, 3)]) 4 rfl rfl rfl rfl ⟨rfl, rfl, trivial⟩ rfl ⟨⟨trivial, trivial, trivial, trivial, trivial, trivial, trivial, trivial, rfl, trivial, trivial⟩, trivial, trivial⟩ ⟨rfl, trivial, trivial⟩ trivial rfl (nl, b, nl) ⟨.refl _, .refl _, trivial⟩ ⟨⟨_, rfl, .inl rfl, ⟨trivial, trivial, trivial, trivial, trivial, trivial, trivial, trivial, rfl, trivial, trivial⟩⟩, ⟨_, rfl, .inl rfl, trivial⟩, trivial⟩ (by first | omega | (simp; done) | (simp; omega)) (Φ := fun _ => True) (fun _ _ => trivial) ⟨⟨_, _, rfl, rfl, rfl, Nat.le_refl _⟩, trivial⟩ (.inl rfl) rfl (v := .tup 0 _) rfl (O' := (2, ⟨_, _, _, _, .cells _⟩) :: (6, ⟨_, _, _, _, .bs _⟩) :: _) rfl (fun h2 => ?_))
  refine So.e ?_
  show HT _ _ _ _ _
  refine HT.seq ?_
  refine HT.region S_shasum_ok ?_
  refine So.q rfl rfl (V.mv (v := .ptr 2 0) rfl ?_)
  refine So.n (lk rfl) (A.call [.ptr 1 _] [(1, ⟨_, _, _, _, .cells [.p (.u32 _), .p (.u32 _), .p (.u32 _), .p (.u32 _), .p (.u32 _), .p (.u32 _), .p (.u32 _), .p (.u32 _), .own 2 _ _, .p (.u64 _)]⟩), (2, ⟨_, _, _, _, .bs _⟩)] (sg [(1, 2), (2, 6)]) 7 rfl rfl rfl rfl ⟨rfl, rfl, trivial⟩ rfl ⟨⟨trivial, trivial, trivial, trivial, trivial, trivial, trivial, trivial, rfl, trivial, trivial⟩, trivial, trivial⟩ ⟨rfl, trivial⟩ trivial rfl (nl ++ b, jn nl b) ⟨.refl _, trivial⟩ ⟨⟨_, rfl, .inl rfl, ⟨trivial, trivial, trivial, trivial, trivial, trivial, trivial, trivial, rfl, trivial, trivial⟩⟩, ⟨_, rfl, .inl rfl, trivial⟩, trivial⟩ (by first | omega | (simp [jn_len, rst]; omega)) (Φ := fun _ => True) (fun _ _ => trivial) ⟨⟨_, _, rfl, rfl, rfl, Nat.le_refl _⟩, ⟨_, _, rfl, rfl, rfl, Nat.le_refl _⟩, trivial⟩ (.inl rfl) rfl (v := .own 10 0 _) rfl (O' := (2, ⟨_, _, _, _, .cells _⟩) :: (6, ⟨_, _, _, _, .bs _⟩) :: (10, ⟨_, _, _, _, .bs _⟩) :: _) rfl (fun h3 => ?_))
  refine So.q rfl rfl (V.as (v := .own 10 0 _) rfl ?_)
  refine So.e ?_
  show HT _ _ _ _ _
  refine HT.ret ?_
  exact ret_ok (sg [(2, 10)]) h rfl rfl rfl ⟨trivial, trivial⟩ ⟨rfl, trivial⟩ rfl ⟨⟨⟨le_own2 (by first | rfl | omega) (by first | rfl), rfl⟩, trivial⟩, ⟨⟨_, rfl, .inl (ob_bs (by first | rfl | ((try dsimp only); (first | rfl))) (by first | rfl | ((try dsimp only); (first | rfl)))), trivial⟩, trivial⟩⟩

end Go.Vh

set_option linter.unusedVariables false
set_option linter.unusedSimpArgs false
namespace Go.Vh
open Go Go.Vc Go.Proofs Go.Vw

/-! ### sodality/sodalityref02.block -/
def rblockSp : Sp := ⟨[], mkE (α := (Nat → UInt32) × (List UInt8)) (fun (g, b) => [.agg 8 (fun j => .u32 (g j)), .p (.bs (b))]) (fun (g, b) => []) (fun (g, b) => 64 ≤ b.length) (fun (g, b) => [.agg 8 (fun j => .u32 (comp g b j))]) (fun (g, b) => [])⟩
def S_rblock : FuncId → Option Sp := fun f => if f = 53 then some constantsSp else if f = 54 then some turnedSp else none
theorem S_rblock_ok : ∀ f s, S_rblock f = some s → FOK Tryd.prog gl f s := fun f s h => by
  unfold S_rblock at h
  split at h
  · rename_i e; cases h; subst e; exact constants_ok
  split at h
  · rename_i e; cases h; subst e; exact turned_ok
  cases h
theorem S_rblock_det : ∀ f s, S_rblock f = some s → SpDet s.sp := fun f s h => by
  unfold S_rblock at h
  split at h
  · cases h; exact mkE_det _ _ _ _ _
  split at h
  · cases h; exact mkE_det _ _ _ _ _
  cases h
set_option maxHeartbeats 1000000 in
set_option maxRecDepth 20000 in
theorem rblock_ok : FOK Tryd.prog gl 44 rblockSp := by
  refine FOK.ofEC (tyOf_ok Tryd.prog) (rvs := [.cell 4 58]) (nt := 196) Tryd.func44 rfl rfl rfl rfl (by decide) 2 (fun ⟨_, _⟩ => rfl) (by decide) (fun ⟨_, _⟩ => ⟨trivial, trivial, trivial⟩) ?_
  rintro ⟨g, b⟩ kk hlen hpre h
  have hl1 : (b).length ≤ 9223372036854775807 := hlen.2.1
  replace hpre : 64 ≤ b.length := hpre
  show HT (cx Tryd.prog 196 (tyOf Tryd.prog) gl []) _ [(0, .agg 8 (fun j => .u32 (g j))), (1, .p (.bs (b)))] [] _
  refine HT.seq ?_
  refine HT.region S_rblock_ok ?_
  refine So.n (lk rfl) (A.boxAg 1 1 (n := 8) rfl (by intro j hj; first | rfl | trivial | (split <;> first | rfl | trivial | (split <;> first | rfl | trivial))) rfl trivial ?_)
  refine So.n (lk rfl) (A.alloc 2 1 ty58 rfl trivial (f := fun _ => .u32 0) (fun _ _ => rfl) ?_)
  refine So.e ?_
  show HT _ _ _ _ _
  refine HT.seq ?_
  refine HT.region S_rblock_ok ?_
  refine So.n (lk rfl) (A.call0 [] 3 rfl rfl rfl rfl trivial trivial () trivial trivial (by trivial) (Φ := fun _ => True) (fun _ _ => trivial) (.inl rfl) (v := .agg 64 _) rfl (O' := _) rfl (fun h1 => ?_))
  refine So.n (lk rfl) (A.alloc 3 1 ty70 rfl trivial (f := fun _ => .u32 0) (fun _ _ => rfl) ?_)
  refine So.s (A.stoAg ty70 rfl (n := 64) rfl (by decide) (by intro j hj; first | rfl | trivial) rfl rfl rfl ?_)
  refine So.e ?_
  show HT _ _ _ _ _
  refine HT.seq ?_
  refine HT.region S_rblock_ok ?_
  refine So.n (lk rfl) (A.alloc 4 1 ty70 rfl trivial (f := fun _ => .u32 0) (fun _ _ => rfl) ?_)
  refine So.e ?_
  show HT _ _ _ _ _
  refine HT.seq ?_
  refine HT.seq ?_
  refine HT.region S_rblock_ok ?_
  refine So.q rfl rfl (V.as (v := .p (.v (.int .i64 (0)))) rfl ?_)
  refine So.e ?_
  show HT _ _ _ _ _
  refine HT.block ?_
  refine R.loop (σ := Nat) (fun s => [(7, .p (.v (.int .i64 ((s : Int)))))]) (fun s => [(4, ⟨70, 1, 64, true, .rows (fun j => .u32 (if j < s then be b j else 0))⟩)]) [1, 2, 4, 5, 6] [1, 2, 3] (fun s => s ≤ 16) (fun s => 16 - s) (0) (fr0 := [(1, .p (.bs _)), (2, .ptr 1 0), (4, .ptr 2 0), (5, .ptr 3 0), (6, .ptr 4 0)]) (O0 := [(1, ⟨_, _, _, _, .rows _⟩), (2, ⟨_, _, _, _, .rows _⟩), (3, ⟨_, _, _, _, .rows _⟩)]) rfl rfl (by first | rfl | omega | (simp; done) | (simp; omega)) ⟨⟨⟨le_int (by first | rfl | omega | (simp; done)), trivial⟩, ⟨.refl _, trivial⟩, ⟨.refl _, rfl⟩, ⟨.refl _, rfl⟩, ⟨.refl _, rfl⟩, ⟨.refl _, rfl⟩, trivial⟩, ⟨⟨_, rfl, .inr (ob_rows (by first | rfl | ((try dsimp only); first | rfl | omega | (simp; done))) (by first | rfl | ((try dsimp only); first | rfl | omega | (simp; done)))), trivial⟩, ⟨_, rfl, .inl rfl, trivial⟩, ⟨_, rfl, .inl rfl, trivial⟩, ⟨_, rfl, .inl rfl, trivial⟩, trivial⟩⟩ (fun s hP0 => ?_)
  refine HT.seq ?_
  refine HT.seq ?_
  refine HT.region S_rblock_ok ?_
  refine So.q rfl rfl (V.mv (v := .p (.v (.int .i64 ((_ : Nat) : Int)))) rfl ?_)
  refine So.q rfl rfl (V.bin (a := (.v (.int .i64 ((_ : Nat) : Int)))) (b := (.v (.int .i64 (16)))) (r := .v (.bool _)) rfl rfl rfl trivial ?_)
  refine So.e ?_
  show HT _ _ _ _ _
  refine R.cond rfl rfl (fun h2 => ?_) (fun h2 => ?_)
  · have h2 := of_decide_eq_true h2
    refine HT.skip ?_
    show HT _ _ _ _ _
    refine HT.seq ?_
    refine HT.block ?_
    refine HT.tail S_rblock_ok mixed 35 (by kernel_rfl) (by kernel_rfl) ?_
    refine So.q rfl rfl (V.mv (v := .p (.v (.int .i64 ((_ : Nat) : Int)))) rfl ?_)
    refine So.q rfl rfl (V.mv (v := .p (.bs _)) rfl ?_)
    refine So.q rfl rfl (V.mv (v := .p (.v (.int .i64 ((_ : Nat) : Int)))) rfl ?_)
    refine So.q rfl rfl (V.mulI rfl rfl (by omega) ?_)
    refine So.q rfl rfl (V.ixBs (mi := 4 * s) ty22 ty5 rfl rfl rfl (by omega) (by omega) ?_)
    refine So.q rfl rfl (V.ldRp ty5 rfl rfl (lk rfl) (v := (.u8 _)) rfl ?_)
    refine So.q rfl rfl (V.cvN ty57 ty5 (a := (.u8 _)) (r := (.u32 _)) rfl rfl ?_)
    refine So.q rfl rfl (V.shlC (n := 24) (a := (.u32 _)) (b := (.u64 24)) (r := .u32 (u32Shl _ 24)) rfl rfl rfl rfl ?_)
    refine So.q rfl rfl (V.mv (v := .p (.bs _)) rfl ?_)
    refine So.q rfl rfl (V.mv (v := .p (.v (.int .i64 ((_ : Nat) : Int)))) rfl ?_)
    refine So.q rfl rfl (V.mulI rfl rfl (by omega) ?_)
    refine So.q rfl rfl (V.addI rfl rfl (by omega) ?_)
    refine So.q rfl rfl (V.ixBs (mi := 4 * s + 1) ty22 ty5 rfl rfl rfl (by omega) (by omega) ?_)
    refine So.q rfl rfl (V.ldRp ty5 rfl rfl (lk rfl) (v := (.u8 _)) rfl ?_)
    refine So.q rfl rfl (V.cvN ty57 ty5 (a := (.u8 _)) (r := (.u32 _)) rfl rfl ?_)
    refine So.q rfl rfl (V.shlC (n := 16) (a := (.u32 _)) (b := (.u64 16)) (r := .u32 (u32Shl _ 16)) rfl rfl rfl rfl ?_)
    refine So.q rfl rfl (V.bin (a := (.u32 _)) (b := (.u32 _)) (r := .u32 _) rfl rfl rfl trivial ?_)
    refine So.q rfl rfl (V.mv (v := .p (.bs _)) rfl ?_)
    refine So.q rfl rfl (V.mv (v := .p (.v (.int .i64 ((_ : Nat) : Int)))) rfl ?_)
    refine So.q rfl rfl (V.mulI rfl rfl (by omega) ?_)
    refine So.q rfl rfl (V.addI rfl rfl (by omega) ?_)
    refine So.q rfl rfl (V.ixBs (mi := 4 * s + 2) ty22 ty5 rfl rfl rfl (by omega) (by omega) ?_)
    refine So.q rfl rfl (V.ldRp ty5 rfl rfl (lk rfl) (v := (.u8 _)) rfl ?_)
    refine So.q rfl rfl (V.cvN ty57 ty5 (a := (.u8 _)) (r := (.u32 _)) rfl rfl ?_)
    refine So.q rfl rfl (V.shlC (n := 8) (a := (.u32 _)) (b := (.u64 8)) (r := .u32 (u32Shl _ 8)) rfl rfl rfl rfl ?_)
    refine So.q rfl rfl (V.bin (a := (.u32 _)) (b := (.u32 _)) (r := .u32 _) rfl rfl rfl trivial ?_)
    refine So.q rfl rfl (V.mv (v := .p (.bs _)) rfl ?_)
    refine So.q rfl rfl (V.mv (v := .p (.v (.int .i64 ((_ : Nat) : Int)))) rfl ?_)
    refine So.q rfl rfl (V.mulI rfl rfl (by omega) ?_)
    refine So.q rfl rfl (V.addI rfl rfl (by omega) ?_)
    refine So.q rfl rfl (V.ixBs (mi := 4 * s + 3) ty22 ty5 rfl rfl rfl (by omega) (by omega) ?_)
    refine So.q rfl rfl (V.ldRp ty5 rfl rfl (lk rfl) (v := (.u8 _)) rfl ?_)
    refine So.q rfl rfl (V.cvN ty57 ty5 (a := (.u8 _)) (r := (.u32 _)) rfl rfl ?_)
    refine So.q rfl rfl (V.bin (a := (.u32 _)) (b := (.u32 _)) (r := .u32 _) rfl rfl rfl trivial ?_)
    refine So.q rfl rfl (V.ixArrP10 (mi := s) ty70 ty57 rfl rfl rfl (by first | rfl | omega | (simp; done) | (simp; omega)) rfl (by omega) (by omega) ?_)
    refine So.s (A.sto ty57 rfl rfl rfl (v := .p (.u32 _)) rfl trivial rfl (by first | rfl | omega | (simp; done) | (simp; omega)) (c' := .rows (fun j => .u32 (if j = s then be b s else if j < s then be b j else 0))) (congrArg (fun g => some (OC.rows g)) (funext fun j => by by_cases h9 : j = s <;> simp [h9, be])) rfl ?_)
    refine So.e ?_
    show HT _ _ _ _ _
    refine HT.region S_rblock_ok ?_
    refine So.q rfl rfl (V.mv (v := .p (.v (.int .i64 ((_ : Nat) : Int)))) rfl ?_)
    refine So.q rfl rfl (V.addI rfl rfl (by omega) ?_)
    refine So.q rfl rfl (V.as (v := .p (.v (.int .i64 _))) rfl ?_)
    refine So.e ?_
    refine ⟨s + 1, by first | rfl | omega | (simp; done) | (simp; omega), by omega, ⟨⟨⟨le_int (by first | rfl | omega | (simp; done) | (simp; omega)), trivial⟩, ⟨.refl _, trivial⟩, ⟨.refl _, rfl⟩, ⟨.refl _, rfl⟩, ⟨.refl _, rfl⟩, ⟨.refl _, rfl⟩, trivial⟩, ⟨⟨_, rfl, .inr (ob_rows (by first | rfl | ((try dsimp only); (intro j hj; by_cases h9 : j = s <;> simp [h9] <;> (try rw [if_pos (by omega)]) <;> (try (by_cases h8 : j < s <;> simp [h8] <;> omega))))) (by first | rfl | ((try dsimp only); (intro j hj; by_cases h9 : j = s <;> simp [h9] <;> (try rw [if_pos (by omega)]) <;> (try (by_cases h8 : j < s <;> simp [h8] <;> omega)))))), trivial⟩, ⟨_, rfl, .inl rfl, trivial⟩, ⟨_, rfl, .inl rfl, trivial⟩, ⟨_, rfl, .inl rfl, trivial⟩, trivial⟩⟩⟩
  · have h2 := of_decide_eq_false h2
    refine HT.exit ?_
    show HT _ _ _ _ _
    refine HT.seq ?_
    refine HT.seq ?_
    refine HT.region S_rblock_ok ?_
    refine So.q rfl rfl (V.as (v := .p (.v (.int .i64 (16)))) rfl ?_)
    refine So.e ?_
    show HT _ _ _ _ _
    refine HT.block ?_
    refine R.loop (σ := Nat) (fun s => [(8, .p (.v (.int .i64 (((16 + s : Nat) : Int)))))]) (fun s => [(4, ⟨70, 1, 64, true, .rows (fun j => .u32 (wdN b s j))⟩)]) [2, 4, 5, 6] [1, 2, 3] (fun s => s ≤ 48) (fun s => 48 - s) (0) (fr0 := [(2, .ptr 1 0), (4, .ptr 2 0), (5, .ptr 3 0), (6, .ptr 4 0)]) (O0 := [(1, ⟨_, _, _, _, .rows _⟩), (2, ⟨_, _, _, _, .rows _⟩), (3, ⟨_, _, _, _, .rows _⟩)]) rfl rfl (by first | rfl | omega | (simp; done) | (simp; omega)) ⟨⟨⟨le_int (by first | rfl | omega | (intro j _; rw [show s = 16 by omega]; rfl)), trivial⟩, ⟨.refl _, rfl⟩, ⟨.refl _, rfl⟩, ⟨.refl _, rfl⟩, ⟨.refl _, rfl⟩, trivial⟩, ⟨⟨_, rfl, .inr (ob_rows (by first | rfl | ((try dsimp only); first | rfl | omega | (intro j _; rw [show s = 16 by omega]; rfl))) (by first | rfl | ((try dsimp only); first | rfl | omega | (intro j _; rw [show s = 16 by omega]; rfl)))), trivial⟩, ⟨_, rfl, .inl rfl, trivial⟩, ⟨_, rfl, .inl rfl, trivial⟩, ⟨_, rfl, .inl rfl, trivial⟩, trivial⟩⟩ (fun s hP1 => ?_)
    refine HT.seq ?_
    refine HT.seq ?_
    refine HT.region S_rblock_ok ?_
    refine So.q rfl rfl (V.mv (v := .p (.v (.int .i64 _))) rfl ?_)
    refine So.q rfl rfl (V.bin (a := (.v (.int .i64 _))) (b := (.v (.int .i64 (64)))) (r := .v (.bool _)) rfl rfl rfl trivial ?_)
    refine So.e ?_
    show HT _ _ _ _ _
    refine R.cond rfl rfl (fun h3 => ?_) (fun h3 => ?_)
    · have h3 := of_decide_eq_true h3
      refine HT.skip ?_
      show HT _ _ _ _ _
      refine HT.seq ?_
      refine HT.block ?_
      refine HT.seq ?_
      refine HT.region S_rblock_ok ?_
      refine So.q rfl rfl (V.mv (v := .p (.v (.int .i64 _))) rfl ?_)
      refine So.q rfl rfl (V.subI rfl rfl (by omega) ?_)
      refine So.q rfl rfl (V.ixArrP10 (mi := s + 1) ty70 ty57 rfl rfl rfl (by first | rfl | omega | (simp; done) | (simp; omega)) rfl (by omega) (by omega) ?_)
      refine So.q rfl rfl (V.ldPtr ty57 rfl rfl rfl (by first | rfl | omega | (simp; done) | (simp; omega)) (v := .p (.u32 _)) rfl ?_)
      refine So.q rfl rfl (V.as (v := .p (.u32 _)) rfl ?_)
      refine So.e ?_
      show HT _ _ _ _ _
      refine HT.seq ?_
      refine HT.region S_rblock_ok ?_
      refine So.q rfl rfl (V.mv (v := .p (.v (.int .i64 _))) rfl ?_)
      refine So.q rfl rfl (V.subI rfl rfl (by omega) ?_)
      refine So.q rfl rfl (V.ixArrP10 (mi := s + 14) ty70 ty57 rfl rfl rfl (by first | rfl | omega | (simp; done) | (simp; omega)) rfl (by omega) (by omega) ?_)
      refine So.q rfl rfl (V.ldPtr ty57 rfl rfl rfl (by first | rfl | omega | (simp; done) | (simp; omega)) (v := .p (.u32 _)) rfl ?_)
      refine So.q rfl rfl (V.as (v := .p (.u32 _)) rfl ?_)
      refine So.e ?_
      show HT _ _ _ _ _
      refine HT.planS S_rblock_ok S_rblock_det mixed [] [⟨[0, 1, 2, 3, 4, 5, 6, 7, 8, 9, 10, 11, 12, 13, 14, 15, 16, 17, 18, 19, 20, 21, 22, 23, 24, 25, 26, 27, 28], 29, []⟩] (by kernel_rfl) ?_
      refine Pl.l0 ?_
      refine Si.n rfl (lk rfl) (V.mv (v := .p (.v (.int .i64 _))) rfl ?_)
      refine Si.n rfl (lk rfl) (V.mv (v := .p (.v (.int .i64 _))) rfl ?_)
      refine Si.n rfl (lk rfl) (V.subI rfl rfl (by omega) ?_)
      refine Si.n rfl (lk rfl) (V.ixArrP10 (mi := s) ty70 ty57 rfl rfl rfl (by first | rfl | omega | (simp; done) | (simp; omega)) rfl (by omega) (by omega) ?_)
      refine Si.n rfl (lk rfl) (V.ldPtr ty57 rfl rfl rfl (by first | rfl | omega | (simp; done) | (simp; omega)) (v := .p (.u32 _)) rfl ?_)
      refine Si.n rfl (lk rfl) (V.mv (v := .p (.u32 _)) rfl ?_)
      refine Si.n rfl (lk rfl) (V.call [.p (.u32 _), .p (.v (.int .i64 _))] 5 rfl rfl rfl rfl ⟨trivial, trivial, trivial⟩ trivial (_, _) ⟨.refl _, .refl _, trivial⟩ trivial (by first | omega | decide) (Φ := fun _ => True) (fun _ _ => trivial) (.inl ⟨trivial, trivial, trivial⟩) (v := .p (.u32 _)) rfl (fun h4 => ?_))
      refine Si.n rfl (lk rfl) (V.mv (v := .p (.u32 _)) rfl ?_)
      refine Si.n rfl (lk rfl) (V.call [.p (.u32 _), .p (.v (.int .i64 _))] 5 rfl rfl rfl rfl ⟨trivial, trivial, trivial⟩ trivial (_, _) ⟨.refl _, .refl _, trivial⟩ trivial (by first | omega | decide) (Φ := fun _ => True) (fun _ _ => trivial) (.inl ⟨trivial, trivial, trivial⟩) (v := .p (.u32 _)) rfl (fun h5 => ?_))
      refine Si.n rfl (lk rfl) (V.bin (a := (.u32 _)) (b := (.u32 _)) (r := .u32 _) rfl rfl rfl trivial ?_)
      refine Si.n rfl (lk rfl) (V.mv (v := .p (.u32 _)) rfl ?_)
      refine Si.n rfl (lk rfl) (V.shrC (n := 3) (a := (.u32 _)) (b := (.u64 3)) (r := .u32 (u32Shr _ 3)) rfl rfl rfl rfl ?_)
      refine Si.n rfl (lk rfl) (V.bin (a := (.u32 _)) (b := (.u32 _)) (r := .u32 _) rfl rfl rfl trivial ?_)
      refine Si.n rfl (lk rfl) (V.bin (a := (.u32 _)) (b := (.u32 _)) (r := .u32 _) rfl rfl rfl trivial ?_)
      refine Si.n rfl (lk rfl) (V.mv (v := .p (.v (.int .i64 _))) rfl ?_)
      refine Si.n rfl (lk rfl) (V.subI rfl rfl (by omega) ?_)
      refine Si.n rfl (lk rfl) (V.ixArrP10 (mi := s + 9) ty70 ty57 rfl rfl rfl (by first | rfl | omega | (simp; done) | (simp; omega)) rfl (by omega) (by omega) ?_)
      refine Si.n rfl (lk rfl) (V.ldPtr ty57 rfl rfl rfl (by first | rfl | omega | (simp; done) | (simp; omega)) (v := .p (.u32 _)) rfl ?_)
      refine Si.n rfl (lk rfl) (V.bin (a := (.u32 _)) (b := (.u32 _)) (r := .u32 _) rfl rfl rfl trivial ?_)
      refine Si.n rfl (lk rfl) (V.mv (v := .p (.u32 _)) rfl ?_)
      refine Si.n rfl (lk rfl) (V.call [.p (.u32 _), .p (.v (.int .i64 _))] 5 rfl rfl rfl rfl ⟨trivial, trivial, trivial⟩ trivial (_, _) ⟨.refl _, .refl _, trivial⟩ trivial (by first | omega | decide) (Φ := fun _ => True) (fun _ _ => trivial) (.inl ⟨trivial, trivial, trivial⟩) (v := .p (.u32 _)) rfl (fun h6 => ?_))
      refine Si.n rfl (lk rfl) (V.mv (v := .p (.u32 _)) rfl ?_)
      refine Si.n rfl (lk rfl) (V.call [.p (.u32 _), .p (.v (.int .i64 _))] 5 rfl rfl rfl rfl ⟨trivial, trivial, trivial⟩ trivial (_, _) ⟨.refl _, .refl _, trivial⟩ trivial (by first | omega | decide) (Φ := fun _ => True) (fun _ _ => trivial) (.inl ⟨trivial, trivial, trivial⟩) (v := .p (.u32 _)) rfl (fun h7 => ?_))
      refine Si.n rfl (lk rfl) (V.bin (a := (.u32 _)) (b := (.u32 _)) (r := .u32 _) rfl rfl rfl trivial ?_)
      refine Si.n rfl (lk rfl) (V.mv (v := .p (.u32 _)) rfl ?_)
      refine Si.n rfl (lk rfl) (V.shrC (n := 10) (a := (.u32 _)) (b := (.u64 10)) (r := .u32 (u32Shr _ 10)) rfl rfl rfl rfl ?_)
      refine Si.n rfl (lk rfl) (V.bin (a := (.u32 _)) (b := (.u32 _)) (r := .u32 _) rfl rfl rfl trivial ?_)
      refine Si.n rfl (lk rfl) (V.bin (a := (.u32 _)) (b := (.u32 _)) (r := .u32 _) rfl rfl rfl trivial ?_)
      refine Si.n rfl (lk rfl) (V.ixArrP10 (mi := 16 + s) ty70 ty57 rfl rfl rfl (by first | rfl | omega | (simp; done) | (simp; omega)) rfl (by omega) (by omega) ?_)
      refine Si.e ?_
      refine ⟨flEq_nil, ?_⟩
      refine Lo.s rfl (A.sto ty57 rfl rfl rfl (v := .p (.u32 _)) rfl trivial rfl (by first | rfl | omega | (simp; done) | (simp; omega)) (c' := .rows (fun j => .u32 (wdN b (s + 1) j))) (congrArg (fun g => some (OC.rows g)) (funext fun j => by by_cases h9 : j = 16 + s <;> simp [h9] <;> first | (rw [← wd_ref]; simp [sg0, sg1]; done) | (simp [wdN, h9]; done))) rfl ?_)
      refine Pl.e ?_
      refine Si.e ?_
      refine ⟨flEq_nil, ?_⟩
      show HT _ _ _ _ _
      refine HT.region S_rblock_ok ?_
      refine So.q rfl rfl (V.mv (v := .p (.v (.int .i64 _))) rfl ?_)
      refine So.q rfl rfl (V.addI rfl rfl (by omega) ?_)
      refine So.q rfl rfl (V.as (v := .p (.v (.int .i64 _))) rfl ?_)
      refine So.e ?_
      refine ⟨s + 1, by first | rfl | omega | (simp; done) | (simp; omega), by omega, ⟨⟨⟨le_int (by first | rfl | omega | (simp; done) | (simp; omega)), trivial⟩, ⟨.refl _, rfl⟩, ⟨.refl _, rfl⟩, ⟨.refl _, rfl⟩, ⟨.refl _, rfl⟩, trivial⟩, ⟨⟨_, rfl, .inr (ob_rows (by first | rfl | ((try dsimp only); first | rfl | omega | (simp; done) | (simp; omega))) (by first | rfl | ((try dsimp only); first | rfl | omega | (simp; done) | (simp; omega)))), trivial⟩, ⟨_, rfl, .inl rfl, trivial⟩, ⟨_, rfl, .inl rfl, trivial⟩, ⟨_, rfl, .inl rfl, trivial⟩, trivial⟩⟩⟩
    · have h3 := of_decide_eq_false h3
      refine HT.exit ?_
      show HT _ _ _ _ _
      refine HT.seq ?_
      refine HT.region S_rblock_ok ?_
      have hs : s = 48 := by omega
      subst hs
      refine So.q rfl rfl (V.ldPtrA ty58 rfl rfl rfl rfl (by first | rfl | omega | (simp; done) | (simp; omega)) ?_)
      refine So.n (lk rfl) (A.alloc 5 1 ty58 rfl trivial (f := fun _ => .u32 0) (fun _ _ => rfl) ?_)
      refine So.s (A.stoAg ty58 rfl (n := 8) rfl (by decide) (by intro j hj; first | rfl | trivial | (match j, hj with | 0, _ => trivial | 1, _ => trivial | 2, _ => trivial | 3, _ => trivial | 4, _ => trivial | 5, _ => trivial | 6, _ => trivial | 7, _ => trivial)) rfl rfl rfl ?_)
      refine So.e ?_
      show HT _ _ _ _ _
      refine HT.seq ?_
      refine HT.seq ?_
      refine HT.region S_rblock_ok ?_
      refine So.q rfl rfl (V.as (v := .p (.v (.int .i64 (0)))) rfl ?_)
      refine So.e ?_
      show HT _ _ _ _ _
      refine HT.block ?_
      refine R.loop (σ := Nat) (fun q => [(12, .p (.v (.int .i64 ((q : Int)))))]) (fun q => [(5, ⟨58, 1, 8, true, .rows (fun j => .u32 (rounds g (wd b) q j))⟩)]) [2, 4, 5, 6, 11] [1, 2, 3, 4] (fun q => q ≤ 64) (fun q => 64 - q) (0) (fr0 := [(2, .ptr 1 0), (4, .ptr 2 0), (5, .ptr 3 0), (6, .ptr 4 0), (11, .ptr 5 0)]) (O0 := [(1, ⟨_, _, _, _, .rows _⟩), (2, ⟨_, _, _, _, .rows _⟩), (3, ⟨_, _, _, _, .rows _⟩), (4, ⟨_, _, _, _, .rows _⟩)]) rfl rfl (by first | rfl | omega | (intro j hj; rfl)) ⟨⟨⟨le_int (by first | rfl | omega | (intro j hj; first | rfl | (rw [Nat.zero_add]; rfl))), trivial⟩, ⟨.refl _, rfl⟩, ⟨.refl _, rfl⟩, ⟨.refl _, rfl⟩, ⟨.refl _, rfl⟩, ⟨.refl _, rfl⟩, trivial⟩, ⟨⟨_, rfl, .inr (ob_rows (by first | rfl | ((try dsimp only); first | rfl | omega | (intro j hj; first | rfl | (rw [Nat.zero_add]; rfl)))) (by first | rfl | ((try dsimp only); first | rfl | omega | (intro j hj; first | rfl | (rw [Nat.zero_add]; rfl))))), trivial⟩, ⟨_, rfl, .inl rfl, trivial⟩, ⟨_, rfl, .inl rfl, trivial⟩, ⟨_, rfl, .inl rfl, trivial⟩, ⟨_, rfl, .inl rfl, trivial⟩, trivial⟩⟩ (fun q hP2 => ?_)
      refine HT.seq ?_
      refine HT.seq ?_
      refine HT.region S_rblock_ok ?_
      refine So.q rfl rfl (V.mv (v := .p (.v (.int .i64 ((_ : Nat) : Int)))) rfl ?_)
      refine So.q rfl rfl (V.bin (a := (.v (.int .i64 ((_ : Nat) : Int)))) (b := (.v (.int .i64 (64)))) (r := .v (.bool _)) rfl rfl rfl trivial ?_)
      refine So.e ?_
      show HT _ _ _ _ _
      refine R.cond rfl rfl (fun h8 => ?_) (fun h8 => ?_)
      · have h8 := of_decide_eq_true h8
        refine HT.skip ?_
        show HT _ _ _ _ _
        refine HT.seq ?_
        refine HT.block ?_
        refine HT.seq ?_
        refine HT.region S_rblock_ok ?_
        refine So.q rfl rfl (V.ixArrP10 ty58 ty57 rfl rfl rfl (by first | rfl | omega | (simp; done) | (simp; omega)) rfl (by omega) rfl ?_)
        refine So.q rfl rfl (V.ldPtr ty57 rfl rfl rfl (by first | rfl | omega | (simp; done) | (simp; omega)) (v := .p (.u32 _)) rfl ?_)
        refine So.q rfl rfl (V.as (v := .p (.u32 _)) rfl ?_)
        refine So.e ?_
        show HT _ _ _ _ _
        refine HT.seq ?_
        refine HT.region S_rblock_ok ?_
        refine So.q rfl rfl (V.ixArrP10 ty58 ty57 rfl rfl rfl (by first | rfl | omega | (simp; done) | (simp; omega)) rfl (by omega) rfl ?_)
        refine So.q rfl rfl (V.ldPtr ty57 rfl rfl rfl (by first | rfl | omega | (simp; done) | (simp; omega)) (v := .p (.u32 _)) rfl ?_)
        refine So.q rfl rfl (V.as (v := .p (.u32 _)) rfl ?_)
        refine So.e ?_
        show HT _ _ _ _ _
        refine HT.seq ?_
        refine HT.drawn S_rblock_ok S_rblock_det mixed (by kernel_rfl) ?_
        refine Sd.n (lk rfl) (V.ixArrP10 ty58 ty57 rfl rfl rfl (by first | rfl | omega | (simp; done) | (simp; omega)) rfl (by omega) rfl ?_)
        refine Sd.n (lk rfl) (V.ldPtr ty57 rfl rfl rfl (by first | rfl | omega | (simp; done) | (simp; omega)) (v := .p (.u32 _)) rfl ?_)
        refine Sd.n (lk rfl) (V.mv (v := .p (.u32 _)) rfl ?_)
        refine Sd.n (lk rfl) (V.call [.p (.u32 _), .p (.v (.int .i64 _))] 6 rfl rfl rfl rfl ⟨trivial, trivial, trivial⟩ trivial (_, _) ⟨.refl _, .refl _, trivial⟩ trivial (by first | omega | decide) (Φ := fun _ => True) (fun _ _ => trivial) (.inl ⟨trivial, trivial, trivial⟩) (v := .p (.u32 _)) rfl (fun h9 => ?_))
        refine Sd.n (lk rfl) (V.mv (v := .p (.u32 _)) rfl ?_)
        refine Sd.n (lk rfl) (V.call [.p (.u32 _), .p (.v (.int .i64 _))] 6 rfl rfl rfl rfl ⟨trivial, trivial, trivial⟩ trivial (_, _) ⟨.refl _, .refl _, trivial⟩ trivial (by first | omega | decide) (Φ := fun _ => True) (fun _ _ => trivial) (.inl ⟨trivial, trivial, trivial⟩) (v := .p (.u32 _)) rfl (fun h10 => ?_))
        refine Sd.n (lk rfl) (V.bin (a := (.u32 _)) (b := (.u32 _)) (r := .u32 _) rfl rfl rfl trivial ?_)
        refine Sd.n (lk rfl) (V.mv (v := .p (.u32 _)) rfl ?_)
        refine Sd.n (lk rfl) (V.call [.p (.u32 _), .p (.v (.int .i64 _))] 6 rfl rfl rfl rfl ⟨trivial, trivial, trivial⟩ trivial (_, _) ⟨.refl _, .refl _, trivial⟩ trivial (by first | omega | decide) (Φ := fun _ => True) (fun _ _ => trivial) (.inl ⟨trivial, trivial, trivial⟩) (v := .p (.u32 _)) rfl (fun h11 => ?_))
        refine Sd.n (lk rfl) (V.bin (a := (.u32 _)) (b := (.u32 _)) (r := .u32 _) rfl rfl rfl trivial ?_)
        refine Sd.n (lk rfl) (V.bin (a := (.u32 _)) (b := (.u32 _)) (r := .u32 _) rfl rfl rfl trivial ?_)
        refine Sd.n (lk rfl) (V.mv (v := .p (.u32 _)) rfl ?_)
        refine Sd.n (lk rfl) (V.ixArrP10 ty58 ty57 rfl rfl rfl (by first | rfl | omega | (simp; done) | (simp; omega)) rfl (by omega) rfl ?_)
        refine Sd.n (lk rfl) (V.ldPtr ty57 rfl rfl rfl (by first | rfl | omega | (simp; done) | (simp; omega)) (v := .p (.u32 _)) rfl ?_)
        refine Sd.n (lk rfl) (V.bin (a := (.u32 _)) (b := (.u32 _)) (r := .u32 _) rfl rfl rfl trivial ?_)
        refine Sd.n (lk rfl) (V.mv (v := .p (.u32 _)) rfl ?_)
        refine Sd.n (lk rfl) (V.xor32 rfl ?_)
        refine Sd.n (lk rfl) (V.ixArrP10 ty58 ty57 rfl rfl rfl (by first | rfl | omega | (simp; done) | (simp; omega)) rfl (by omega) rfl ?_)
        refine Sd.n (lk rfl) (V.ldPtr ty57 rfl rfl rfl (by first | rfl | omega | (simp; done) | (simp; omega)) (v := .p (.u32 _)) rfl ?_)
        refine Sd.n (lk rfl) (V.bin (a := (.u32 _)) (b := (.u32 _)) (r := .u32 _) rfl rfl rfl trivial ?_)
        refine Sd.n (lk rfl) (V.bin (a := (.u32 _)) (b := (.u32 _)) (r := .u32 _) rfl rfl rfl trivial ?_)
        refine Sd.n (lk rfl) (V.bin (a := (.u32 _)) (b := (.u32 _)) (r := .u32 _) rfl rfl rfl trivial ?_)
        refine Sd.n (lk rfl) (V.mv (v := .p (.v (.int .i64 ((_ : Nat) : Int)))) rfl ?_)
        refine Sd.n (lk rfl) (V.ixArrP10 (mi := q) ty70 ty57 rfl rfl rfl (by first | rfl | omega | (simp; done) | (simp; omega)) rfl (by omega) (by omega) ?_)
        refine Sd.n (lk rfl) (V.ldPtr ty57 rfl rfl rfl (by first | rfl | omega | (simp; done) | (simp; omega)) (v := .p (.u32 _)) rfl ?_)
        refine Sd.n (lk rfl) (V.bin (a := (.u32 _)) (b := (.u32 _)) (r := .u32 _) rfl rfl rfl trivial ?_)
        refine Sd.n (lk rfl) (V.mv (v := .p (.v (.int .i64 ((_ : Nat) : Int)))) rfl ?_)
        refine Sd.n (lk rfl) (V.ixArrP10 (mi := q) ty70 ty57 rfl rfl rfl (by first | rfl | omega | (simp; done) | (simp; omega)) rfl (by omega) (by omega) ?_)
        refine Sd.n (lk rfl) (V.ldPtr ty57 rfl rfl rfl (by first | rfl | omega | (simp; done) | (simp; omega)) (v := .p (.u32 _)) rfl ?_)
        refine Sd.n (lk rfl) (V.bin (a := (.u32 _)) (b := (.u32 _)) (r := .u32 _) rfl rfl rfl trivial ?_)
        refine Sd.n (lk rfl) (V.as (v := .p (.u32 _)) rfl ?_)
        refine Sd.e ?_
        show HT _ _ _ _ _
        refine HT.seq ?_
        refine HT.drawn S_rblock_ok S_rblock_det mixed (by kernel_rfl) ?_
        refine Sd.n (lk rfl) (V.mv (v := .p (.u32 _)) rfl ?_)
        refine Sd.n (lk rfl) (V.call [.p (.u32 _), .p (.v (.int .i64 _))] 6 rfl rfl rfl rfl ⟨trivial, trivial, trivial⟩ trivial (_, _) ⟨.refl _, .refl _, trivial⟩ trivial (by first | omega | decide) (Φ := fun _ => True) (fun _ _ => trivial) (.inl ⟨trivial, trivial, trivial⟩) (v := .p (.u32 _)) rfl (fun h12 => ?_))
        refine Sd.n (lk rfl) (V.mv (v := .p (.u32 _)) rfl ?_)
        refine Sd.n (lk rfl) (V.call [.p (.u32 _), .p (.v (.int .i64 _))] 6 rfl rfl rfl rfl ⟨trivial, trivial, trivial⟩ trivial (_, _) ⟨.refl _, .refl _, trivial⟩ trivial (by first | omega | decide) (Φ := fun _ => True) (fun _ _ => trivial) (.inl ⟨trivial, trivial, trivial⟩) (v := .p (.u32 _)) rfl (fun h13 => ?_))
        refine Sd.n (lk rfl) (V.bin (a := (.u32 _)) (b := (.u32 _)) (r := .u32 _) rfl rfl rfl trivial ?_)
        refine Sd.n (lk rfl) (V.mv (v := .p (.u32 _)) rfl ?_)
        refine Sd.n (lk rfl) (V.call [.p (.u32 _), .p (.v (.int .i64 _))] 6 rfl rfl rfl rfl ⟨trivial, trivial, trivial⟩ trivial (_, _) ⟨.refl _, .refl _, trivial⟩ trivial (by first | omega | decide) (Φ := fun _ => True) (fun _ _ => trivial) (.inl ⟨trivial, trivial, trivial⟩) (v := .p (.u32 _)) rfl (fun h14 => ?_))
        refine Sd.n (lk rfl) (V.bin (a := (.u32 _)) (b := (.u32 _)) (r := .u32 _) rfl rfl rfl trivial ?_)
        refine Sd.n (lk rfl) (V.mv (v := .p (.u32 _)) rfl ?_)
        refine Sd.n (lk rfl) (V.ixArrP10 ty58 ty57 rfl rfl rfl (by first | rfl | omega | (simp; done) | (simp; omega)) rfl (by omega) rfl ?_)
        refine Sd.n (lk rfl) (V.ldPtr ty57 rfl rfl rfl (by first | rfl | omega | (simp; done) | (simp; omega)) (v := .p (.u32 _)) rfl ?_)
        refine Sd.n (lk rfl) (V.bin (a := (.u32 _)) (b := (.u32 _)) (r := .u32 _) rfl rfl rfl trivial ?_)
        refine Sd.n (lk rfl) (V.mv (v := .p (.u32 _)) rfl ?_)
        refine Sd.n (lk rfl) (V.ixArrP10 ty58 ty57 rfl rfl rfl (by first | rfl | omega | (simp; done) | (simp; omega)) rfl (by omega) rfl ?_)
        refine Sd.n (lk rfl) (V.ldPtr ty57 rfl rfl rfl (by first | rfl | omega | (simp; done) | (simp; omega)) (v := .p (.u32 _)) rfl ?_)
        refine Sd.n (lk rfl) (V.bin (a := (.u32 _)) (b := (.u32 _)) (r := .u32 _) rfl rfl rfl trivial ?_)
        refine Sd.n (lk rfl) (V.bin (a := (.u32 _)) (b := (.u32 _)) (r := .u32 _) rfl rfl rfl trivial ?_)
        refine Sd.n (lk rfl) (V.ixArrP10 ty58 ty57 rfl rfl rfl (by first | rfl | omega | (simp; done) | (simp; omega)) rfl (by omega) rfl ?_)
        refine Sd.n (lk rfl) (V.ldPtr ty57 rfl rfl rfl (by first | rfl | omega | (simp; done) | (simp; omega)) (v := .p (.u32 _)) rfl ?_)
        refine Sd.n (lk rfl) (V.ixArrP10 ty58 ty57 rfl rfl rfl (by first | rfl | omega | (simp; done) | (simp; omega)) rfl (by omega) rfl ?_)
        refine Sd.n (lk rfl) (V.ldPtr ty57 rfl rfl rfl (by first | rfl | omega | (simp; done) | (simp; omega)) (v := .p (.u32 _)) rfl ?_)
        refine Sd.n (lk rfl) (V.bin (a := (.u32 _)) (b := (.u32 _)) (r := .u32 _) rfl rfl rfl trivial ?_)
        refine Sd.n (lk rfl) (V.bin (a := (.u32 _)) (b := (.u32 _)) (r := .u32 _) rfl rfl rfl trivial ?_)
        refine Sd.n (lk rfl) (V.bin (a := (.u32 _)) (b := (.u32 _)) (r := .u32 _) rfl rfl rfl trivial ?_)
        refine Sd.n (lk rfl) (V.as (v := .p (.u32 _)) rfl ?_)
        refine Sd.e ?_
        show HT _ _ _ _ _
        refine HT.region S_rblock_ok ?_
        refine So.q rfl rfl (V.mv (v := .p (.u32 _)) rfl ?_)
        refine So.q rfl rfl (V.mv (v := .p (.u32 _)) rfl ?_)
        refine So.q rfl rfl (V.bin (a := (.u32 _)) (b := (.u32 _)) (r := .u32 _) rfl rfl rfl trivial ?_)
        refine So.q rfl rfl (V.ixArrP10 ty58 ty57 rfl rfl rfl (by first | rfl | omega | (simp; done) | (simp; omega)) rfl (by omega) rfl ?_)
        refine So.q rfl rfl (V.ldPtr ty57 rfl rfl rfl (by first | rfl | omega | (simp; done) | (simp; omega)) (v := .p (.u32 _)) rfl ?_)
        refine So.q rfl rfl (V.ixArrP10 ty58 ty57 rfl rfl rfl (by first | rfl | omega | (simp; done) | (simp; omega)) rfl (by omega) rfl ?_)
        refine So.q rfl rfl (V.ldPtr ty57 rfl rfl rfl (by first | rfl | omega | (simp; done) | (simp; omega)) (v := .p (.u32 _)) rfl ?_)
        refine So.q rfl rfl (V.ixArrP10 ty58 ty57 rfl rfl rfl (by first | rfl | omega | (simp; done) | (simp; omega)) rfl (by omega) rfl ?_)
        refine So.q rfl rfl (V.ldPtr ty57 rfl rfl rfl (by first | rfl | omega | (simp; done) | (simp; omega)) (v := .p (.u32 _)) rfl ?_)
        refine So.q rfl rfl (V.ixArrP10 ty58 ty57 rfl rfl rfl (by first | rfl | omega | (simp; done) | (simp; omega)) rfl (by omega) rfl ?_)
        refine So.q rfl rfl (V.ldPtr ty57 rfl rfl rfl (by first | rfl | omega | (simp; done) | (simp; omega)) (v := .p (.u32 _)) rfl ?_)
        refine So.q rfl rfl (V.mv (v := .p (.u32 _)) rfl ?_)
        refine So.q rfl rfl (V.bin (a := (.u32 _)) (b := (.u32 _)) (r := .u32 _) rfl rfl rfl trivial ?_)
        refine So.q rfl rfl (V.ixArrP10 ty58 ty57 rfl rfl rfl (by first | rfl | omega | (simp; done) | (simp; omega)) rfl (by omega) rfl ?_)
        refine So.q rfl rfl (V.ldPtr ty57 rfl rfl rfl (by first | rfl | omega | (simp; done) | (simp; omega)) (v := .p (.u32 _)) rfl ?_)
        refine So.q rfl rfl (V.ixArrP10 ty58 ty57 rfl rfl rfl (by first | rfl | omega | (simp; done) | (simp; omega)) rfl (by omega) rfl ?_)
        refine So.q rfl rfl (V.ldPtr ty57 rfl rfl rfl (by first | rfl | omega | (simp; done) | (simp; omega)) (v := .p (.u32 _)) rfl ?_)
        refine So.q rfl rfl (V.ixArrP10 ty58 ty57 rfl rfl rfl (by first | rfl | omega | (simp; done) | (simp; omega)) rfl (by omega) rfl ?_)
        refine So.q rfl rfl (V.ldPtr ty57 rfl rfl rfl (by first | rfl | omega | (simp; done) | (simp; omega)) (v := .p (.u32 _)) rfl ?_)
        refine So.n (lk rfl) (A.bldA ty58 rfl rfl ⟨by first | exact trivial | exact rfl | (intro j hj; first | trivial | rfl | (simp [BV.one]; done)), by first | exact trivial | exact rfl | (intro j hj; first | trivial | rfl | (simp [BV.one]; done)), by first | exact trivial | exact rfl | (intro j hj; first | trivial | rfl | (simp [BV.one]; done)), by first | exact trivial | exact rfl | (intro j hj; first | trivial | rfl | (simp [BV.one]; done)), by first | exact trivial | exact rfl | (intro j hj; first | trivial | rfl | (simp [BV.one]; done)), by first | exact trivial | exact rfl | (intro j hj; first | trivial | rfl | (simp [BV.one]; done)), by first | exact trivial | exact rfl | (intro j hj; first | trivial | rfl | (simp [BV.one]; done)), by first | exact trivial | exact rfl | (intro j hj; first | trivial | rfl | (simp [BV.one]; done)), trivial⟩ rfl (f := fun j => .u32 (rounds g (wd b) (q + 1) j)) (by exact allP_spec (P := fun j => _ = _) ⟨⟨⟨⟨⟨⟨⟨⟨trivial, (congrArg (fun x => BV.p (PV.u32 x)) (ref0 (rounds g (wd b) q) (K256.getD q 0) (wd b q)))⟩, rfl⟩, rfl⟩, rfl⟩, (congrArg (fun x => BV.p (PV.u32 x)) (ref4 (rounds g (wd b) q) (K256.getD q 0) (wd b q)))⟩, rfl⟩, rfl⟩, rfl⟩) ?_)
        refine So.s (A.stoAg ty58 rfl (n := 8) rfl (by decide) (by intro j hj; first | rfl | trivial | (match j, hj with | 0, _ => trivial | 1, _ => trivial | 2, _ => trivial | 3, _ => trivial | 4, _ => trivial | 5, _ => trivial | 6, _ => trivial | 7, _ => trivial)) rfl rfl rfl ?_)
        refine So.e ?_
        show HT _ _ _ _ _
        refine HT.region S_rblock_ok ?_
        refine So.q rfl rfl (V.mv (v := .p (.v (.int .i64 ((_ : Nat) : Int)))) rfl ?_)
        refine So.q rfl rfl (V.addI rfl rfl (by omega) ?_)
        refine So.q rfl rfl (V.as (v := .p (.v (.int .i64 _))) rfl ?_)
        refine So.e ?_
        refine ⟨q + 1, by first | rfl | omega | (intro j hj; rfl), by omega, ⟨⟨⟨le_int (by first | rfl | omega | (intro j hj; rfl)), trivial⟩, ⟨.refl _, rfl⟩, ⟨.refl _, rfl⟩, ⟨.refl _, rfl⟩, ⟨.refl _, rfl⟩, ⟨.refl _, rfl⟩, trivial⟩, ⟨⟨_, rfl, .inr (ob_rows (by first | rfl | ((try dsimp only); first | rfl | omega | (intro j hj; rfl))) (by first | rfl | ((try dsimp only); first | rfl | omega | (intro j hj; rfl)))), trivial⟩, ⟨_, rfl, .inl rfl, trivial⟩, ⟨_, rfl, .inl rfl, trivial⟩, ⟨_, rfl, .inl rfl, trivial⟩, ⟨_, rfl, .inl rfl, trivial⟩, trivial⟩⟩⟩
      · have h8 := of_decide_eq_false h8
        refine HT.exit ?_
        show HT _ _ _ _ _
        refine HT.seq ?_
        refine HT.seq ?_
        refine HT.region S_rblock_ok ?_
        have hq : q = 64 := by omega
        subst hq
        refine So.q rfl rfl (V.as (v := .p (.v (.int .i64 (0)))) rfl ?_)
        refine So.e ?_
        show HT _ _ _ _ _
        refine HT.block ?_
        refine R.loop (σ := Nat) (fun r => [(17, .p (.v (.int .i64 ((r : Int)))))]) (fun r => [(1, ⟨58, 1, 8, true, .rows (fun j => .u32 (if j < r then comp g b j else g j))⟩)]) [2, 4, 11] [2, 3, 4, 5] (fun r => r ≤ 8) (fun r => 8 - r) (0) (fr0 := [(2, .ptr 1 0), (4, .ptr 2 0), (11, .ptr 5 0)]) (O0 := [(2, ⟨_, _, _, _, .rows _⟩), (3, ⟨_, _, _, _, .rows _⟩), (4, ⟨_, _, _, _, .rows _⟩), (5, ⟨_, _, _, _, .rows _⟩)]) rfl rfl (by first | rfl | omega | (simp; done) | (simp; omega)) ⟨⟨⟨le_int (by first | rfl | omega | (simp; done) | (intro j hj; simp; done)), trivial⟩, ⟨.refl _, rfl⟩, ⟨.refl _, rfl⟩, ⟨.refl _, rfl⟩, trivial⟩, ⟨⟨_, rfl, .inr (ob_rows (by first | rfl | ((try dsimp only); first | rfl | omega | (simp; done) | (intro j hj; simp; done))) (by first | rfl | ((try dsimp only); first | rfl | omega | (simp; done) | (intro j hj; simp; done)))), trivial⟩, ⟨_, rfl, .inl rfl, trivial⟩, ⟨_, rfl, .inl rfl, trivial⟩, ⟨_, rfl, .inl rfl, trivial⟩, ⟨_, rfl, .inl rfl, trivial⟩, trivial⟩⟩ (fun r hP3 => ?_)
        refine HT.seq ?_
        refine HT.seq ?_
        refine HT.region S_rblock_ok ?_
        refine So.q rfl rfl (V.mv (v := .p (.v (.int .i64 ((_ : Nat) : Int)))) rfl ?_)
        refine So.q rfl rfl (V.bin (a := (.v (.int .i64 ((_ : Nat) : Int)))) (b := (.v (.int .i64 (8)))) (r := .v (.bool _)) rfl rfl rfl trivial ?_)
        refine So.e ?_
        show HT _ _ _ _ _
        refine R.cond rfl rfl (fun h15 => ?_) (fun h15 => ?_)
        · have h15 := of_decide_eq_true h15
          refine HT.skip ?_
          show HT _ _ _ _ _
          refine HT.seq ?_
          refine HT.block ?_
          refine HT.tail S_rblock_ok mixed 9 (by kernel_rfl) (by kernel_rfl) ?_
          refine So.q rfl rfl (V.mv (v := .p (.v (.int .i64 ((_ : Nat) : Int)))) rfl ?_)
          refine So.q rfl rfl (V.mv (v := .p (.v (.int .i64 ((_ : Nat) : Int)))) rfl ?_)
          refine So.q rfl rfl (V.ixArrP10 (mi := r) ty58 ty57 rfl rfl rfl (by first | rfl | omega | (simp; done) | (simp; omega)) rfl (by omega) (by omega) ?_)
          refine So.q rfl rfl (V.ldPtr ty57 rfl rfl rfl (by first | rfl | omega | (simp; done) | (simp; omega)) (v := .p (.u32 _)) rfl ?_)
          refine So.q rfl rfl (V.mv (v := .p (.v (.int .i64 ((_ : Nat) : Int)))) rfl ?_)
          refine So.q rfl rfl (V.ixArrP10 (mi := r) ty58 ty57 rfl rfl rfl (by first | rfl | omega | (simp; done) | (simp; omega)) rfl (by omega) (by omega) ?_)
          refine So.q rfl rfl (V.ldPtr ty57 rfl rfl rfl (by first | rfl | omega | (simp; done) | (simp; omega)) (v := .p (.u32 _)) rfl ?_)
          refine So.q rfl rfl (V.bin (a := (.u32 _)) (b := (.u32 _)) (r := .u32 _) rfl rfl rfl trivial ?_)
          refine So.q rfl rfl (V.ixArrP10 (mi := r) ty58 ty57 rfl rfl rfl (by first | rfl | omega | (simp; done) | (simp; omega)) rfl (by omega) (by omega) ?_)
          refine So.s (A.sto ty57 rfl rfl rfl (v := .p (.u32 _)) rfl trivial rfl (by first | rfl | omega | (simp; done) | (simp; omega)) (c' := .rows (fun j => .u32 (if j = r then comp g b r else if j < r then comp g b j else g j))) (congrArg (fun g => some (OC.rows g)) (funext fun j => by by_cases h9 : j = r <;> simp [h9, comp])) rfl ?_)
          refine So.e ?_
          show HT _ _ _ _ _
          refine HT.region S_rblock_ok ?_
          refine So.q rfl rfl (V.mv (v := .p (.v (.int .i64 ((_ : Nat) : Int)))) rfl ?_)
          refine So.q rfl rfl (V.addI rfl rfl (by omega) ?_)
          refine So.q rfl rfl (V.as (v := .p (.v (.int .i64 _))) rfl ?_)
          refine So.e ?_
          refine ⟨r + 1, by first | rfl | omega | (simp; done) | (simp; omega), by omega, ⟨⟨⟨le_int (by first | rfl | omega | (simp; done) | (simp; omega)), trivial⟩, ⟨.refl _, rfl⟩, ⟨.refl _, rfl⟩, ⟨.refl _, rfl⟩, trivial⟩, ⟨⟨_, rfl, .inr (ob_rows (by first | rfl | ((try dsimp only); (intro j hj; by_cases h9 : j = r <;> simp [h9] <;> (by_cases h8 : j < r <;> simp [h8] <;> omega)))) (by first | rfl | ((try dsimp only); (intro j hj; by_cases h9 : j = r <;> simp [h9] <;> (by_cases h8 : j < r <;> simp [h8] <;> omega))))), trivial⟩, ⟨_, rfl, .inl rfl, trivial⟩, ⟨_, rfl, .inl rfl, trivial⟩, ⟨_, rfl, .inl rfl, trivial⟩, ⟨_, rfl, .inl rfl, trivial⟩, trivial⟩⟩⟩
        · have h15 := of_decide_eq_false h15
          refine HT.exit ?_
          show HT _ _ _ _ _
          refine HT.seq ?_
          refine HT.region S_rblock_ok ?_
          refine So.q rfl rfl (V.ldPtrA ty58 rfl rfl rfl rfl (by first | rfl | omega | (simp; done) | (simp; omega)) ?_)
          refine So.s (A.stoAg ty58 rfl (n := 8) rfl (by decide) (by intro j hj; first | rfl | trivial | (match j, hj with | 0, _ => trivial | 1, _ => trivial | 2, _ => trivial | 3, _ => trivial | 4, _ => trivial | 5, _ => trivial | 6, _ => trivial | 7, _ => trivial)) rfl rfl rfl ?_)
          refine So.e ?_
          show HT _ _ _ _ _
          refine HT.ret ?_
          exact retC_ok (sg []) [(4, .ptr 2 0)] [(2, ⟨58, 1, 8, true, .rows (fun j => .u32 (comp g b j))⟩)] h ⟨⟨⟨.refl _, rfl⟩, trivial⟩, ⟨⟨_, rfl, .inr (ob_rows rfl (by intro j hj; first | rfl | ((try dsimp only); (first | rfl | (intro j hj; rw [if_pos (by omega)]) | (rw [if_pos (by omega), Nat.zero_add]))))), trivial⟩, trivial⟩⟩ ⟨rvA_cell ty58 rfl rfl rfl rfl (Nat.le_refl _) (le_agg (fun j _ => by first | rfl | (dsimp only; rw [Nat.zero_add]))), trivial⟩ trivial rfl trivial ⟨trivial, trivial⟩ rfl

end Go.Vh

set_option linter.unusedVariables false
set_option linter.unusedSimpArgs false
namespace Go.Vh
open Go Go.Vc Go.Proofs Go.Vw

/-! ### sodality/sodalityref02.Sum -/
def rsumSp : Sp := ⟨[], mkE (α := (List UInt8)) (fun b => [.p (.bs (b))]) (fun b => []) (fun b => b.length ≤ 1099511627776) (fun b => [.own 2 (0) (32)]) (fun b => [(2, ⟨5, 1, 32, true, .bs (sha b)⟩)])⟩
def S_rsum : FuncId → Option Sp := fun f => if f = 44 then some rblockSp else none
theorem S_rsum_ok : ∀ f s, S_rsum f = some s → FOK Tryd.prog gl f s := fun f s h => by
  unfold S_rsum at h
  split at h
  · rename_i e; cases h; subst e; exact rblock_ok
  cases h
theorem S_rsum_det : ∀ f s, S_rsum f = some s → SpDet s.sp := fun f s h => by
  unfold S_rsum at h
  split at h
  · cases h; exact mkE_det _ _ _ _ _
  cases h
set_option maxHeartbeats 1000000 in
set_option maxRecDepth 20000 in
theorem rsum_ok : FOK Tryd.prog gl 31 rsumSp := by
  refine FOK.ofE (tyOf_ok Tryd.prog) (slots := [2]) (nt := 78) Tryd.func31 rfl rfl rfl rfl (by decide) 1 (fun _ => rfl) (by decide) (fun _ => ⟨trivial, trivial⟩) ?_
  rintro b kk hlen hpre h
  have hl0 : (b).length ≤ 9223372036854775807 := hlen.1
  replace hpre : b.length ≤ 1099511627776 := hpre
  show HT (cx Tryd.prog 78 (tyOf Tryd.prog) gl []) _ [(0, .p (.bs (b)))] [] _
  have hzl : zlen b.length < 64 := by unfold zlen; omega
  have hEl : (ptx b).length = b.length + (9 + zlen b.length) := by unfold ptx; rw [List.length_append, pad_len]
  have hE64 := ptx_64 b
  refine HT.seq ?_
  refine HT.region S_rsum_ok ?_
  refine So.q rfl rfl (V.as (v := .p (.v (.slice none 0 0))) rfl ?_)
  refine So.e ?_
  show HT _ _ _ _ _
  refine HT.seq ?_
  refine HT.region S_rsum_ok ?_
  refine So.n (lk rfl) (A.bsl 1 ty22 ty5 rfl (lk rfl) (lk rfl) (fun _ => rfl) rfl rfl trivial trivial rfl (N := 0) rfl (c := .bs []) rfl ?_)
  refine So.q rfl rfl (V.mv (v := .p (.bs _)) rfl ?_)
  refine So.n (lk rfl) (A.apOwn ty22 ty5 rfl rfl rfl rfl (u := .p (.bs _)) rfl rfl (l' := b) (by simp) (mn := b.length) (by simp) (by first | rfl | omega | (simp; done) | (simp; omega)) rfl rfl rfl ?_)
  refine So.n (lk rfl) (A.bsl 2 ty22 ty5 rfl (lk rfl) (lk rfl) (fun _ => rfl) rfl rfl trivial ⟨trivial, trivial⟩ rfl (N := 1) rfl (c := .bs [_]) rfl ?_)
  refine So.n (lk rfl) (A.apOwn ty22 ty5 rfl rfl rfl rfl (u := .own 2 0 _) rfl rfl (l' := b ++ [128]) (by simp) (mn := b.length + 1) (by simp) (by first | rfl | omega | (simp; done) | (simp; omega)) rfl rfl rfl ?_)
  refine So.q rfl rfl (V.as (v := .own 1 0 _) rfl ?_)
  refine So.e ?_
  show HT _ _ _ _ _
  refine HT.seq ?_
  refine HT.block ?_
  refine R.loop (σ := Nat) (fun s => [(3, .own 1 (0) (b.length + 1 + s))]) (fun s => [(1, ⟨5, 1, b.length + 1 + s, true, .bs (b ++ [128] ++ List.replicate s 0)⟩)]) [0, 2] [2] (fun s => s ≤ zlen b.length) (fun s => zlen b.length - s) (0) (fr0 := [(0, .p (.bs _)), (2, .p (.v (.slice none 0 0)))]) (O0 := [(2, ⟨_, _, _, _, .bs _⟩)]) rfl rfl (by first | rfl | omega | (simp; done) | (simp; omega)) ⟨⟨⟨le_own2 (by first | rfl | omega) (by first | rfl | omega | (simp; done)), rfl⟩, ⟨.refl _, trivial⟩, ⟨.refl _, trivial⟩, trivial⟩, ⟨⟨_, rfl, .inl (ob_bs (by first | rfl | ((try dsimp only); first | rfl | omega | (simp; done))) (by first | rfl | ((try dsimp only); first | rfl | omega | (simp; done)))), trivial⟩, ⟨_, rfl, .inl rfl, trivial⟩, trivial⟩⟩ (fun s hP0 => ?_)
  refine HT.seq ?_
  refine HT.seq ?_
  refine HT.region S_rsum_ok ?_
  refine So.q rfl rfl (V.mv (v := .own 1 0 _) rfl ?_)
  refine So.q rfl rfl (V.len ty22 (v := .own 1 0 _) rfl rfl ?_)
  refine So.q rfl rfl (V.remI rfl rfl (by omega) ?_)
  refine So.q rfl rfl (V.bin (a := (.v (.int .i64 _))) (b := (.v (.int .i64 (56)))) (r := .v (.bool _)) rfl rfl rfl trivial ?_)
  refine So.e ?_
  show HT _ _ _ _ _
  refine R.cond rfl rfl (fun h1 => ?_) (fun h1 => ?_)
  · have h1 := of_decide_eq_false (bnT h1)
    refine HT.skip ?_
    show HT _ _ _ _ _
    refine HT.block ?_
    refine HT.region S_rsum_ok ?_
    refine So.q rfl rfl (V.mv (v := .own 1 0 _) rfl ?_)
    refine So.n (lk rfl) (A.bsl 3 ty22 ty5 rfl (lk rfl) (lk rfl) (fun _ => rfl) rfl rfl trivial ⟨trivial, trivial⟩ rfl (N := 1) rfl (c := .bs [_]) rfl ?_)
    refine So.n (lk rfl) (A.apOwn ty22 ty5 rfl rfl rfl rfl (u := .own 3 0 _) rfl rfl (l' := b ++ [128] ++ List.replicate (s + 1) 0) (by rw [ap_full (by simp; omega)]; simp [List.replicate_succ']) (mn := b.length + 1 + (s + 1)) (by first | omega | (simp; done) | (simp; omega)) (by first | rfl | omega | (simp; done) | (simp; omega)) rfl rfl rfl ?_)
    refine So.q rfl rfl (V.as (v := .own 1 0 _) rfl ?_)
    refine So.e ?_
    refine ⟨s + 1, by unfold zlen at *; omega, by unfold zlen at *; omega, ⟨⟨⟨le_own2 (by first | rfl | omega) (by first | rfl | omega | (simp; done) | (simp; omega)), rfl⟩, ⟨.refl _, trivial⟩, ⟨.refl _, trivial⟩, trivial⟩, ⟨⟨_, rfl, .inl (ob_bs (by first | rfl | ((try dsimp only); first | rfl | omega | (simp; done) | (simp; omega))) (by first | rfl | ((try dsimp only); first | rfl | omega | (simp; done) | (simp; omega)))), trivial⟩, ⟨_, rfl, .inl rfl, trivial⟩, trivial⟩⟩⟩
  · have h1 := of_decide_eq_true (bnF h1)
    refine HT.exit ?_
    show HT _ _ _ _ _
    refine HT.seq ?_
    refine HT.region S_rsum_ok ?_
    have hs : s = zlen b.length := by unfold zlen at *; omega
    refine So.q rfl rfl (V.mv (v := .p (.bs _)) rfl ?_)
    refine So.q rfl rfl (V.len ty22 (v := .p (.bs _)) rfl rfl ?_)
    refine So.q rfl rfl (V.cvN ty56 ty3 (a := (.v (.int .i64 _))) (r := (.u64 _)) rfl rfl ?_)
    refine So.q rfl rfl (V.bin (a := (.u64 _)) (b := (.u64 8)) (r := .u64 _) rfl rfl rfl trivial ?_)
    refine So.q rfl rfl (V.as (v := .p (.u64 _)) rfl ?_)
    refine So.e ?_
    show HT _ _ _ _ _
    refine HT.seq ?_
    refine HT.seq ?_
    refine HT.region S_rsum_ok ?_
    refine So.q rfl rfl (V.as (v := .p (.v (.int .i64 (56)))) rfl ?_)
    refine So.e ?_
    show HT _ _ _ _ _
    refine HT.block ?_
    refine R.loop (σ := Nat) (fun r => [(3, .own 1 (0) (b.length + 1 + zlen b.length + r)), (5, .p (.v (.int .i64 (56 - 8 * (r : Int)))))]) (fun r => [(1, ⟨5, 1, b.length + 1 + zlen b.length + r, true, .bs (b ++ [128] ++ List.replicate (zlen b.length) 0 ++ len8 (UInt64.ofNat b.length) r)⟩)]) [2, 4] [2] (fun r => r ≤ 8) (fun r => 8 - r) (0) (fr0 := [(2, .p (.v (.slice none 0 0))), (4, .p (.u64 _))]) (O0 := [(2, ⟨_, _, _, _, .bs _⟩)]) rfl rfl (by first | rfl | omega | (simp; done) | (simp; omega)) ⟨⟨⟨le_own2 (by first | rfl | omega) (by first | rfl | omega | (rw [hs]; simp [len8]; done) | (rw [hs])), rfl⟩, ⟨le_int (by first | rfl | omega | (rw [hs]; simp [len8]; done) | (rw [hs])), trivial⟩, ⟨.refl _, trivial⟩, ⟨.refl _, trivial⟩, trivial⟩, ⟨⟨_, rfl, .inl (ob_bs (by first | rfl | ((try dsimp only); first | rfl | omega | (rw [hs]; simp [len8]; done) | (rw [hs]))) (by first | rfl | ((try dsimp only); first | rfl | omega | (rw [hs]; simp [len8]; done) | (rw [hs])))), trivial⟩, ⟨_, rfl, .inl rfl, trivial⟩, trivial⟩⟩ (fun r hP1 => ?_)
    refine HT.seq ?_
    refine HT.seq ?_
    refine HT.region S_rsum_ok ?_
    refine So.q rfl rfl (V.mv (v := .p (.v (.int .i64 _))) rfl ?_)
    refine So.q rfl rfl (V.bin (a := (.v (.int .i64 _))) (b := (.v (.int .i64 (0)))) (r := .v (.bool _)) rfl rfl rfl trivial ?_)
    refine So.e ?_
    show HT _ _ _ _ _
    refine R.cond rfl rfl (fun h2 => ?_) (fun h2 => ?_)
    · have h2 := of_decide_eq_true h2
      refine HT.skip ?_
      show HT _ _ _ _ _
      refine HT.seq ?_
      refine HT.block ?_
      refine HT.region S_rsum_ok ?_
      refine So.q rfl rfl (V.mv (v := .own 1 0 _) rfl ?_)
      refine So.q rfl rfl (V.mv (v := .p (.u64 _)) rfl ?_)
      refine So.q rfl rfl (V.mv (v := .p (.v (.int .i64 _))) rfl ?_)
      refine So.q rfl rfl (V.bin (a := (.u64 _)) (b := (.v (.int .i64 _))) (r := .u64 _) rfl rfl rfl (by first | rfl | omega | (simp; done) | (simp; omega)) ?_)
      refine So.q rfl rfl (V.cvN ty5 ty56 (a := (.u64 _)) (r := (.u8 _)) rfl rfl ?_)
      refine So.n (lk rfl) (A.bsl 3 ty22 ty5 rfl (lk rfl) (lk rfl) (fun _ => rfl) rfl rfl trivial ⟨trivial, trivial⟩ rfl (N := 1) rfl (c := .bs [_]) rfl ?_)
      refine So.n (lk rfl) (A.apOwn ty22 ty5 rfl rfl rfl rfl (u := .own 3 0 _) rfl rfl (l' := b ++ [128] ++ List.replicate (zlen b.length) 0 ++ len8 (UInt64.ofNat b.length) (r + 1)) (by rw [ap_full (by simp [len8_len]; omega)]; rw [mul_shl, u64_ofInt]; simp only [len8, show (56 - 8 * (r : Int)).toNat = 56 - 8 * r by omega]; simp) (mn := b.length + 1 + zlen b.length + (r + 1)) (by first | omega | (simp; done) | (simp; omega)) (by first | rfl | omega | (simp; done) | (simp; omega)) rfl rfl rfl ?_)
      refine So.q rfl rfl (V.as (v := .own 1 0 _) rfl ?_)
      refine So.e ?_
      show HT _ _ _ _ _
      refine HT.region S_rsum_ok ?_
      refine So.q rfl rfl (V.mv (v := .p (.v (.int .i64 _))) rfl ?_)
      refine So.q rfl rfl (V.subI rfl rfl (by omega) ?_)
      refine So.q rfl rfl (V.as (v := .p (.v (.int .i64 _))) rfl ?_)
      refine So.e ?_
      refine ⟨r + 1, by first | rfl | omega | (simp; done) | (simp; omega), by omega, ⟨⟨⟨le_own2 (by first | rfl | omega) (by first | rfl | omega | (simp; done) | (simp; omega)), rfl⟩, ⟨le_int (by first | rfl | omega | (simp; done) | (simp; omega)), trivial⟩, ⟨.refl _, trivial⟩, ⟨.refl _, trivial⟩, trivial⟩, ⟨⟨_, rfl, .inl (ob_bs (by first | rfl | ((try dsimp only); first | rfl | omega | (simp; done) | (simp; omega))) (by first | rfl | ((try dsimp only); first | rfl | omega | (simp; done) | (simp; omega)))), trivial⟩, ⟨_, rfl, .inl rfl, trivial⟩, trivial⟩⟩⟩
    · have h2 := of_decide_eq_false h2
      refine HT.exit ?_
      show HT _ _ _ _ _
      refine HT.seq ?_
      refine HT.region S_rsum_ok ?_
      refine So.n (lk rfl) (A.bldA ty58 rfl rfl ⟨by first | exact trivial | exact rfl | (intro j hj; first | trivial | rfl | (simp [BV.one]; done)), by first | exact trivial | exact rfl | (intro j hj; first | trivial | rfl | (simp [BV.one]; done)), by first | exact trivial | exact rfl | (intro j hj; first | trivial | rfl | (simp [BV.one]; done)), by first | exact trivial | exact rfl | (intro j hj; first | trivial | rfl | (simp [BV.one]; done)), by first | exact trivial | exact rfl | (intro j hj; first | trivial | rfl | (simp [BV.one]; done)), by first | exact trivial | exact rfl | (intro j hj; first | trivial | rfl | (simp [BV.one]; done)), by first | exact trivial | exact rfl | (intro j hj; first | trivial | rfl | (simp [BV.one]; done)), by first | exact trivial | exact rfl | (intro j hj; first | trivial | rfl | (simp [BV.one]; done)), trivial⟩ rfl (f := fun j => .u32 (h0 j)) (by exact allP_spec (P := fun j => _ = _) ⟨⟨⟨⟨⟨⟨⟨⟨trivial, rfl⟩, rfl⟩, rfl⟩, rfl⟩, rfl⟩, rfl⟩, rfl⟩, rfl⟩) ?_)
      refine So.n (lk rfl) (A.alloc 3 1 ty58 rfl trivial (f := fun _ => .u32 0) (fun _ _ => rfl) ?_)
      refine So.s (A.stoAg ty58 rfl (n := 8) rfl (by decide) (by intro j hj; first | rfl | trivial | (match j, hj with | 0, _ => trivial | 1, _ => trivial | 2, _ => trivial | 3, _ => trivial | 4, _ => trivial | 5, _ => trivial | 6, _ => trivial | 7, _ => trivial)) rfl rfl rfl ?_)
      refine So.e ?_
      show HT _ _ _ _ _
      refine HT.seq ?_
      refine HT.seq ?_
      refine HT.region S_rsum_ok ?_
      refine So.q rfl rfl (V.as (v := .p (.v (.int .i64 (0)))) rfl ?_)
      refine So.e ?_
      show HT _ _ _ _ _
      refine HT.block ?_
      refine R.loop (σ := Nat) (fun q => [(3, .own 1 (0) ((ptx b).length)), (7, .p (.v (.int .i64 (64 * (q : Int)))))]) (fun q => [(1, ⟨5, 1, (ptx b).length, true, .bs (ptx b)⟩), (3, ⟨58, 1, 8, true, .rows (fun j => .u32 (stN (ptx b) q j))⟩)]) [2, 6] [2] (fun q => 64 * q ≤ (ptx b).length) (fun q => (ptx b).length - 64 * q) (0) (fr0 := [(2, .p (.v (.slice none 0 0))), (6, .ptr 3 0)]) (O0 := [(2, ⟨_, _, _, _, .bs _⟩)]) rfl rfl (by omega) ⟨⟨⟨le_own2 (by first | rfl | omega) (by first | rfl | omega | (intro j hj; rfl) | (replace hP1 : r = 8 := (by omega); subst hP1; simp [ptx, pad]; done)), rfl⟩, ⟨le_int (by first | rfl | omega | (intro j hj; rfl) | (replace hP1 : r = 8 := (by omega); subst hP1; simp [ptx, pad]; done)), trivial⟩, ⟨.refl _, trivial⟩, ⟨.refl _, rfl⟩, trivial⟩, ⟨⟨_, rfl, .inl (ob_bs (by first | rfl | ((try dsimp only); first | rfl | omega | (intro j hj; rfl) | (replace hP1 : r = 8 := (by omega); subst hP1; simp [ptx, pad]; done))) (by first | rfl | ((try dsimp only); first | rfl | omega | (intro j hj; rfl) | (replace hP1 : r = 8 := (by omega); subst hP1; simp [ptx, pad]; done)))), trivial⟩, ⟨_, rfl, .inr (ob_rows (by first | rfl | ((try dsimp only); first | rfl | omega | (intro j hj; rfl) | (replace hP1 : r = 8 := (by omega); subst hP1; simp [ptx, pad]; done))) (by first | rfl | ((try dsimp only); first | rfl | omega | (intro j hj; rfl) | (replace hP1 : r = 8 := (by omega); subst hP1; simp [ptx, pad]; done)))), trivial⟩, ⟨_, rfl, .inl rfl, trivial⟩, trivial⟩⟩ (fun q hP2 => ?_)
      refine HT.seq ?_
      refine HT.seq ?_
      refine HT.region S_rsum_ok ?_
      refine So.q rfl rfl (V.mv (v := .p (.v (.int .i64 _))) rfl ?_)
      refine So.q rfl rfl (V.mv (v := .own 1 0 _) rfl ?_)
      refine So.q rfl rfl (V.len ty22 (v := .own 1 0 _) rfl rfl ?_)
      refine So.q rfl rfl (V.bin (a := (.v (.int .i64 _))) (b := (.v (.int .i64 _))) (r := .v (.bool _)) rfl rfl rfl trivial ?_)
      refine So.e ?_
      show HT _ _ _ _ _
      refine R.cond rfl rfl (fun h3 => ?_) (fun h3 => ?_)
      · have h3 := of_decide_eq_true h3
        refine HT.skip ?_
        show HT _ _ _ _ _
        refine HT.seq ?_
        refine HT.block ?_
        refine HT.tail S_rsum_ok mixed 6 (by kernel_rfl) (by kernel_rfl) ?_
        refine So.q rfl rfl (V.ldPtrA ty58 rfl rfl rfl rfl (by first | rfl | omega | (simp; done) | (simp; omega)) ?_)
        refine So.q rfl rfl (V.mv (v := .own 1 0 _) rfl ?_)
        refine So.q rfl rfl (V.mv (v := .p (.v (.int .i64 _))) rfl ?_)
        refine So.q rfl rfl (V.mv (v := .p (.v (.int .i64 _))) rfl ?_)
        refine So.q rfl rfl (V.addI rfl rfl (by omega) ?_)
        refine So.q rfl rfl (V.cutOwn ty22 ty5 rfl rfl rfl rfl rfl (by omega) (.inl rfl) ?_)
        refine So.n (lk rfl) (A.call0 [.agg 8 _, .p (.bs _)] 4 rfl rfl rfl rfl ⟨trivial, trivial, trivial⟩ trivial (_, _) ⟨.refl _, .refl _, trivial⟩ trivial (by first | omega | (simp; done) | (simp; omega)) (Φ := fun _ => True) (fun _ _ => trivial) (.inr ⟨(fun _ _ => trivial), by simp [Hp.scal, OC.scal, PV.scal, BV.scal]⟩) (v := .agg 8 _) rfl (O' := _) rfl (fun h4 => ?_))
        refine So.s (A.stoAg ty58 rfl (n := 8) rfl (by decide) (by intro j hj; first | rfl | trivial | (match j, hj with | 0, _ => trivial | 1, _ => trivial | 2, _ => trivial | 3, _ => trivial | 4, _ => trivial | 5, _ => trivial | 6, _ => trivial | 7, _ => trivial)) rfl rfl rfl ?_)
        refine So.e ?_
        show HT _ _ _ _ _
        refine HT.region S_rsum_ok ?_
        refine So.q rfl rfl (V.mv (v := .p (.v (.int .i64 _))) rfl ?_)
        refine So.q rfl rfl (V.addI rfl rfl (by omega) ?_)
        refine So.q rfl rfl (V.as (v := .p (.v (.int .i64 _))) rfl ?_)
        refine So.e ?_
        refine ⟨q + 1, by first | rfl | omega | (simp; done) | (simp; omega), by omega, ⟨⟨⟨le_own2 (by first | rfl | omega) (by first | rfl | omega | (simp; done) | (simp; omega)), rfl⟩, ⟨le_int (by first | rfl | omega | (simp; done) | (simp; omega)), trivial⟩, ⟨.refl _, trivial⟩, ⟨.refl _, rfl⟩, trivial⟩, ⟨⟨_, rfl, .inl (ob_bs (by first | rfl | ((try dsimp only); first | rfl | omega | (simp; done) | (simp; omega))) (by first | rfl | ((try dsimp only); first | rfl | omega | (simp; done) | (simp; omega)))), trivial⟩, ⟨_, rfl, .inr (ob_rows (by first | (intro j hj; simp only [Nat.zero_add, Nat.mul_one, show (64 * (q : Int) + 64).toNat - (64 * (q : Int)).toNat = 64 by omega, show (64 * (q : Int)).toNat = 64 * q by omega]; exact congrArg PV.u32 (rs_1 (by omega) j)) | rfl) (by first | (intro j hj; simp only [Nat.zero_add, Nat.mul_one, show (64 * (q : Int) + 64).toNat - (64 * (q : Int)).toNat = 64 by omega, show (64 * (q : Int)).toNat = 64 * q by omega]; exact congrArg PV.u32 (rs_1 (by omega) j)) | rfl)), trivial⟩, ⟨_, rfl, .inl rfl, trivial⟩, trivial⟩⟩⟩
      · have h3 := of_decide_eq_false h3
        refine HT.exit ?_
        show HT _ _ _ _ _
        refine HT.seq ?_
        refine HT.region S_rsum_ok ?_
        refine So.q rfl rfl (V.as (v := .p (.v (.slice none 0 0))) rfl ?_)
        refine So.e ?_
        show HT _ _ _ _ _
        refine HT.seq ?_
        refine HT.seq ?_
        refine HT.region S_rsum_ok ?_
        refine So.q rfl rfl (V.as (v := .p (.v (.int .i64 (0)))) rfl ?_)
        refine So.e ?_
        show HT _ _ _ _ _
        refine HT.block ?_
        refine R.phan 8 6 5 1 (.bs []) rfl rfl rfl ⟨rfl, rfl⟩ ?_
        refine R.loop (σ := Nat) (fun r => [(8, .own 6 (0) (4 * r)), (9, .p (.v (.int .i64 ((r : Int)))))]) (fun r => [(6, ⟨5, 1, 4 * r, true, .bs (outN (stN (ptx b) q) r)⟩)]) [2, 6] [1, 2, 3] (fun r => r ≤ 8) (fun r => 8 - r) (0) (fr0 := [(2, .p (.v (.slice none 0 0))), (6, .ptr 3 0)]) (O0 := [(1, ⟨_, _, _, _, .bs _⟩), (2, ⟨_, _, _, _, .bs _⟩), (3, ⟨_, _, _, _, .rows _⟩)]) rfl rfl (by first | rfl | omega | (simp; done) | (simp; omega)) ⟨⟨⟨le_own2 (by first | rfl | omega) (by first | rfl | omega), rfl⟩, ⟨le_int (by first | rfl | omega), trivial⟩, ⟨.refl _, trivial⟩, ⟨.refl _, rfl⟩, trivial⟩, ⟨⟨_, rfl, .inl (ob_bs (by first | rfl | ((try dsimp only); first | rfl | omega)) (by first | rfl | ((try dsimp only); first | rfl | omega))), trivial⟩, ⟨_, rfl, .inl rfl, trivial⟩, ⟨_, rfl, .inl rfl, trivial⟩, ⟨_, rfl, .inl rfl, trivial⟩, trivial⟩⟩ (fun r hP3 => ?_)
        refine HT.seq ?_
        refine HT.seq ?_
        refine HT.region S_rsum_ok ?_
        refine So.q rfl rfl (V.mv (v := .p (.v (.int .i64 ((_ : Nat) : Int)))) rfl ?_)
        refine So.q rfl rfl (V.bin (a := (.v (.int .i64 ((_ : Nat) : Int)))) (b := (.v (.int .i64 (8)))) (r := .v (.bool _)) rfl rfl rfl trivial ?_)
        refine So.e ?_
        show HT _ _ _ _ _
        refine R.cond rfl rfl (fun h5 => ?_) (fun h5 => ?_)
        · have h5 := of_decide_eq_true h5
          refine HT.skip ?_
          show HT _ _ _ _ _
          refine HT.seq ?_
          refine HT.block ?_
          refine HT.planS S_rsum_ok S_rsum_det mixed [22] [⟨[0, 1, 2, 3, 4, 5, 6, 7, 8, 9, 10, 11, 12, 13, 14, 15, 16, 17, 18, 19], 20, [0]⟩, ⟨[0], 21, []⟩] (by kernel_rfl) ?_
          refine Pl.lk ?_
          refine Si.n rfl (lk rfl) (V.mv (v := .own 6 0 _) rfl ?_)
          refine Si.n rfl (lk rfl) (V.mv (v := .p (.v (.int .i64 ((_ : Nat) : Int)))) rfl ?_)
          refine Si.n rfl (lk rfl) (V.ixArrP10 (mi := r) ty58 ty57 rfl rfl rfl (by first | rfl | omega | (simp; done) | (simp; omega)) rfl (by omega) (by omega) ?_)
          refine Si.n rfl (lk rfl) (V.ldPtr ty57 rfl rfl rfl (by first | rfl | omega | (simp; done) | (simp; omega)) (v := .p (.u32 _)) rfl ?_)
          refine Si.n rfl (lk rfl) (V.shrC (n := 24) (a := (.u32 _)) (b := (.u64 24)) (r := .u32 (u32Shr _ 24)) rfl rfl rfl rfl ?_)
          refine Si.n rfl (lk rfl) (V.cvN ty5 ty57 (a := (.u32 _)) (r := (.u8 _)) rfl rfl ?_)
          refine Si.n rfl (lk rfl) (V.mv (v := .p (.v (.int .i64 ((_ : Nat) : Int)))) rfl ?_)
          refine Si.n rfl (lk rfl) (V.ixArrP10 (mi := r) ty58 ty57 rfl rfl rfl (by first | rfl | omega | (simp; done) | (simp; omega)) rfl (by omega) (by omega) ?_)
          refine Si.n rfl (lk rfl) (V.ldPtr ty57 rfl rfl rfl (by first | rfl | omega | (simp; done) | (simp; omega)) (v := .p (.u32 _)) rfl ?_)
          refine Si.n rfl (lk rfl) (V.shrC (n := 16) (a := (.u32 _)) (b := (.u64 16)) (r := .u32 (u32Shr _ 16)) rfl rfl rfl rfl ?_)
          refine Si.n rfl (lk rfl) (V.cvN ty5 ty57 (a := (.u32 _)) (r := (.u8 _)) rfl rfl ?_)
          refine Si.n rfl (lk rfl) (V.mv (v := .p (.v (.int .i64 ((_ : Nat) : Int)))) rfl ?_)
          refine Si.n rfl (lk rfl) (V.ixArrP10 (mi := r) ty58 ty57 rfl rfl rfl (by first | rfl | omega | (simp; done) | (simp; omega)) rfl (by omega) (by omega) ?_)
          refine Si.n rfl (lk rfl) (V.ldPtr ty57 rfl rfl rfl (by first | rfl | omega | (simp; done) | (simp; omega)) (v := .p (.u32 _)) rfl ?_)
          refine Si.n rfl (lk rfl) (V.shrC (n := 8) (a := (.u32 _)) (b := (.u64 8)) (r := .u32 (u32Shr _ 8)) rfl rfl rfl rfl ?_)
          refine Si.n rfl (lk rfl) (V.cvN ty5 ty57 (a := (.u32 _)) (r := (.u8 _)) rfl rfl ?_)
          refine Si.n rfl (lk rfl) (V.mv (v := .p (.v (.int .i64 ((_ : Nat) : Int)))) rfl ?_)
          refine Si.n rfl (lk rfl) (V.ixArrP10 (mi := r) ty58 ty57 rfl rfl rfl (by first | rfl | omega | (simp; done) | (simp; omega)) rfl (by omega) (by omega) ?_)
          refine Si.n rfl (lk rfl) (V.ldPtr ty57 rfl rfl rfl (by first | rfl | omega | (simp; done) | (simp; omega)) (v := .p (.u32 _)) rfl ?_)
          refine Si.n rfl (lk rfl) (V.cvN ty5 ty57 (a := (.u32 _)) (r := (.u8 _)) rfl rfl ?_)
          refine Si.e ?_
          refine ⟨flEq_nil, fun ff => ?_⟩
          refine Lo.n rfl (lk rfl) (A.bsl 7 ty22 ty5 rfl (lk rfl) (lk rfl) (fun _ => rfl) rfl rfl trivial ⟨trivial, trivial, trivial, trivial, trivial⟩ rfl (N := 4) rfl (c := .bs [_, _, _, _]) rfl ?_)
          refine ⟨_, fun ff => ff, ap0d, rfl, FG.id, ?_⟩
          show planA _ _ _ _ _ [(0, .own 6 0 _)] _ _ _
          refine Pl.l0 ?_
          refine Si.n rfl (lk rfl) (V.mv (v := .own 6 0 _) rfl ?_)
          refine Si.e ?_
          refine ⟨(flEq_cons rfl flEq_nil), ?_⟩
          refine Lo.n rfl (lk rfl) (A.apOwn ty22 ty5 rfl rfl rfl rfl (u := .own 7 0 _) rfl rfl (l' := outN (stN (ptx b) q) (r + 1)) (by rw [ap_full (by rw [outN_len]; omega)]; simp [outN, w4]) (mn := 4 * (r + 1)) (by first | omega | (simp; done) | (simp; omega)) (by first | rfl | omega | (simp; done) | (simp; omega)) rfl rfl rfl ?_)
          refine Pl.e ?_
          refine Si.n rfl (lk rfl) (V.as (v := .own 6 0 _) rfl ?_)
          refine Si.e ?_
          refine ⟨flEq_nil, ?_⟩
          show HT _ _ _ _ _
          refine HT.region S_rsum_ok ?_
          refine So.q rfl rfl (V.mv (v := .p (.v (.int .i64 ((_ : Nat) : Int)))) rfl ?_)
          refine So.q rfl rfl (V.addI rfl rfl (by omega) ?_)
          refine So.q rfl rfl (V.as (v := .p (.v (.int .i64 _))) rfl ?_)
          refine So.e ?_
          refine ⟨r + 1, by first | rfl | omega | (simp; done) | (simp; omega), by omega, ⟨⟨⟨le_own2 (by first | rfl | omega) (by first | rfl | omega | (simp; done) | (simp; omega)), rfl⟩, ⟨le_int (by first | rfl | omega | (simp; done) | (simp; omega)), trivial⟩, ⟨.refl _, trivial⟩, ⟨.refl _, rfl⟩, trivial⟩, ⟨⟨_, rfl, .inl (ob_bs (by first | rfl | ((try dsimp only); first | rfl | omega | (simp; done) | (simp; omega))) (by first | rfl | ((try dsimp only); first | rfl | omega | (simp; done) | (simp; omega)))), trivial⟩, ⟨_, rfl, .inl rfl, trivial⟩, ⟨_, rfl, .inl rfl, trivial⟩, ⟨_, rfl, .inl rfl, trivial⟩, trivial⟩⟩⟩
        · have h5 := of_decide_eq_false h5
          refine HT.exit ?_
          show HT _ _ _ _ _
          refine HT.seq ?_
          refine HT.region S_rsum_ok ?_
          refine So.q rfl rfl (V.mv (v := .own 6 0 _) rfl ?_)
          refine So.q rfl rfl (V.as (v := .own 6 0 _) rfl ?_)
          refine So.e ?_
          show HT _ _ _ _ _
          refine HT.ret ?_
          exact ret_ok (sg [(2, 6)]) h rfl rfl rfl ⟨trivial, trivial⟩ ⟨rfl, trivial⟩ rfl ⟨⟨⟨le_own2 (by first | rfl | omega) (by first | rfl | (replace hP3 : r = 8 := (by omega); subst hP3; first | rfl | (unfold sha; rw [show (ptx b).length / 64 = q by omega]))), rfl⟩, trivial⟩, ⟨⟨_, rfl, .inl (ob_bs (by first | rfl | ((try dsimp only); (first | rfl | (replace hP3 : r = 8 := (by omega); subst hP3; first | rfl | (unfold sha; rw [show (ptx b).length / 64 = q by omega]))))) (by first | rfl | ((try dsimp only); (first | rfl | (replace hP3 : r = 8 := (by omega); subst hP3; first | rfl | (unfold sha; rw [show (ptx b).length / 64 = q by omega])))))), trivial⟩, trivial⟩⟩

end Go.Vh

set_option linter.unusedVariables false
set_option linter.unusedSimpArgs false
namespace Go.Vh
open Go Go.Vc Go.Proofs Go.Vw

/-! ### sodality/sched.short -/
def shortSp : Sp := ⟨[], mkE (α := (List UInt8)) (fun b => [.p (.bs (b))]) (fun b => []) (fun b => b.length ≤ 1099511627776) (fun b => [.p (.bs (shortF b))]) (fun b => [])⟩
def S_short : FuncId → Option Sp := fun f => if f = 22 then some shasumSp else none
theorem S_short_ok : ∀ f s, S_short f = some s → FOK Tryd.prog gl f s := fun f s h => by
  unfold S_short at h
  split at h
  · rename_i e; cases h; subst e; exact shasum_ok
  cases h
theorem S_short_det : ∀ f s, S_short f = some s → SpDet s.sp := fun f s h => by
  unfold S_short at h
  split at h
  · cases h; exact mkE_det _ _ _ _ _
  cases h
set_option maxHeartbeats 1000000 in
set_option maxRecDepth 1000 in
theorem short_ok : FOK Tryd.prog gl 24 shortSp := by
  refine FOK.ofE (tyOf_ok Tryd.prog) (slots := [2]) (nt := 9) Tryd.func24 rfl rfl rfl rfl (by decide) 1 (fun _ => rfl) (by decide) (fun _ => ⟨trivial, trivial⟩) ?_
  rintro b kk hlen hpre h
  have hl0 : (b).length ≤ 9223372036854775807 := hlen.1
  replace hpre : b.length ≤ 1099511627776 := hpre
  show HT (cx Tryd.prog 9 (tyOf Tryd.prog) gl []) _ [(0, .p (.bs (b)))] [] _
  refine HT.seq ?_
  refine HT.region S_short_ok ?_
  refine So.q rfl rfl (V.as (v := .p (.v (.slice none 0 0))) rfl ?_)
  refine So.e ?_
  show HT _ _ _ _ _
  refine HT.seq ?_
  refine HT.seq ?_
  refine HT.region S_short_ok ?_
  refine So.q rfl rfl (V.mv (v := .p (.bs _)) rfl ?_)
  refine So.q rfl rfl (V.len ty22 (v := .p (.bs _)) rfl rfl ?_)
  refine So.q rfl rfl (V.bin (a := (.v (.int .i64 _))) (b := (.v (.int .i64 (16000)))) (r := .v (.bool _)) rfl rfl rfl trivial ?_)
  refine So.e ?_
  show HT _ _ _ _ _
  refine R.cond rfl rfl (fun h1 => ?_) (fun h1 => ?_)
  · have h1 := of_decide_eq_true h1
    refine HT.seq ?_
    refine HT.region S_short_ok ?_
    refine So.q rfl rfl (V.mv (v := .p (.bs _)) rfl ?_)
    refine So.q rfl rfl (V.as (v := .p (.bs _)) rfl ?_)
    refine So.e ?_
    show HT _ _ _ _ _
    refine HT.ret ?_
    exact ret_ok (sg []) h rfl rfl rfl trivial ⟨trivial, trivial⟩ rfl ⟨⟨⟨le_bs (by first | exact shortF_1 (by omega) | exact shortF_2 (by omega)), trivial⟩, trivial⟩, trivial⟩
  · have h1 := of_decide_eq_false h1
    refine HT.skip ?_
    show HT _ _ _ _ _
    refine HT.seq ?_
    refine HT.region S_short_ok ?_
    refine So.q rfl rfl (V.mv (v := .p (.bs _)) rfl ?_)
    refine So.n (lk rfl) (A.call0F S_short_ok [.p (.bs _)] 1 rfl rfl rfl rfl ⟨trivial, trivial⟩ trivial _ ⟨.refl _, trivial⟩ trivial (by first | omega | (simp; done) | (simp; omega)) (Φ := fun _ => True) (fun _ _ => trivial) (.inl rfl) (t := 3) (off := 0) rfl (O' := (3, ⟨5, 1, _, true, .bs _⟩) :: _) rfl rfl rfl (y := .p (.bs _)) rfl rfl (fun h2 => ?_))
    refine So.q rfl rfl (V.as (v := .p (.bs _)) rfl ?_)
    refine So.e ?_
    show HT _ _ _ _ _
    refine HT.ret ?_
    exact ret_ok (sg []) h rfl rfl rfl trivial ⟨trivial, trivial⟩ rfl ⟨⟨⟨le_bs (by first | exact shortF_1 (by omega) | exact shortF_2 (by omega)), trivial⟩, trivial⟩, trivial⟩

/-! ### sodality/sodalityref16.short -/
def rshortSp : Sp := ⟨[], mkE (α := (List UInt8)) (fun b => [.p (.bs (b))]) (fun b => []) (fun b => b.length ≤ 1099511627776) (fun b => [.p (.bs (shortF b))]) (fun b => [])⟩
def S_rshort : FuncId → Option Sp := fun f => if f = 31 then some rsumSp else none
theorem S_rshort_ok : ∀ f s, S_rshort f = some s → FOK Tryd.prog gl f s := fun f s h => by
  unfold S_rshort at h
  split at h
  · rename_i e; cases h; subst e; exact rsum_ok
  cases h
theorem S_rshort_det : ∀ f s, S_rshort f = some s → SpDet s.sp := fun f s h => by
  unfold S_rshort at h
  split at h
  · cases h; exact mkE_det _ _ _ _ _
  cases h
set_option maxHeartbeats 1000000 in
set_option maxRecDepth 1000 in
theorem rshort_ok : FOK Tryd.prog gl 27 rshortSp := by
  refine FOK.ofE (tyOf_ok Tryd.prog) (slots := [2]) (nt := 9) Tryd.func27 rfl rfl rfl rfl (by decide) 1 (fun _ => rfl) (by decide) (fun _ => ⟨trivial, trivial⟩) ?_
  rintro b kk hlen hpre h
  have hl0 : (b).length ≤ 9223372036854775807 := hlen.1
  replace hpre : b.length ≤ 1099511627776 := hpre
  show HT (cx Tryd.prog 9 (tyOf Tryd.prog) gl []) _ [(0, .p (.bs (b)))] [] _
  refine HT.seq ?_
  refine HT.region S_rshort_ok ?_
  refine So.q rfl rfl (V.as (v := .p (.v (.slice none 0 0))) rfl ?_)
  refine So.e ?_
  show HT _ _ _ _ _
  refine HT.seq ?_
  refine HT.seq ?_
  refine HT.region S_rshort_ok ?_
  refine So.q rfl rfl (V.mv (v := .p (.bs _)) rfl ?_)
  refine So.q rfl rfl (V.len ty22 (v := .p (.bs _)) rfl rfl ?_)
  refine So.q rfl rfl (V.bin (a := (.v (.int .i64 _))) (b := (.v (.int .i64 (16000)))) (r := .v (.bool _)) rfl rfl rfl trivial ?_)
  refine So.e ?_
  show HT _ _ _ _ _
  refine R.cond rfl rfl (fun h1 => ?_) (fun h1 => ?_)
  · have h1 := of_decide_eq_true h1
    refine HT.seq ?_
    refine HT.region S_rshort_ok ?_
    refine So.q rfl rfl (V.mv (v := .p (.bs _)) rfl ?_)
    refine So.n (lk rfl) (A.call0F S_rshort_ok [.p (.bs _)] 1 rfl rfl rfl rfl ⟨trivial, trivial⟩ trivial _ ⟨.refl _, trivial⟩ trivial (by first | omega | (simp; done) | (simp; omega)) (Φ := fun _ => True) (fun _ _ => trivial) (.inl rfl) (t := 3) (off := 0) rfl (O' := (3, ⟨5, 1, _, true, .bs _⟩) :: _) rfl rfl rfl (y := .p (.bs _)) rfl rfl (fun h2 => ?_))
    refine So.q rfl rfl (V.as (v := .p (.bs _)) rfl ?_)
    refine So.e ?_
    show HT _ _ _ _ _
    refine HT.ret ?_
    exact ret_ok (sg []) h rfl rfl rfl trivial ⟨trivial, trivial⟩ rfl ⟨⟨⟨le_bs (by first | exact shortF_1 (by omega) | exact shortF_2 (by omega)), trivial⟩, trivial⟩, trivial⟩
  · have h1 := of_decide_eq_false h1
    refine HT.skip ?_
    show HT _ _ _ _ _
    refine HT.seq ?_
    refine HT.region S_rshort_ok ?_
    refine So.q rfl rfl (V.mv (v := .p (.bs _)) rfl ?_)
    refine So.q rfl rfl (V.as (v := .p (.bs _)) rfl ?_)
    refine So.e ?_
    show HT _ _ _ _ _
    refine HT.ret ?_
    exact ret_ok (sg []) h rfl rfl rfl trivial ⟨trivial, trivial⟩ rfl ⟨⟨⟨le_bs (by first | exact shortF_1 (by omega) | exact shortF_2 (by omega)), trivial⟩, trivial⟩, trivial⟩

end Go.Vh

set_option linter.unusedVariables false
set_option linter.unusedSimpArgs false
namespace Go.Vh
open Go Go.Vc Go.Proofs Go.Vw

/-! ### sodality/hkdf.Mac$1 -/
def padcSp : Sp := ⟨[1], mkE (α := UInt8 × (List UInt8)) (fun (c, k) => [.p (.u8 (c)), .ptr 1 (0)]) (fun (c, k) => [(1, ⟨22, 1, 1, true, .cells [.p (.bs (k))]⟩)]) (fun (c, k) => k.length ≤ 64) (fun (c, k) => [.own 2 (0) (64)]) (fun (c, k) => [(1, ⟨22, 1, 1, true, .cells [.p (.bs (k))]⟩), (2, ⟨5, 1, 64, true, .bs (padF k c)⟩)])⟩
def S_padc : FuncId → Option Sp := fun _ => none
theorem S_padc_ok : ∀ f s, S_padc f = some s → FOK Tryd.prog gl f s := fun f s h => by cases h
theorem S_padc_det : ∀ f s, S_padc f = some s → SpDet s.sp := fun f s h => by cases h
set_option maxHeartbeats 1000000 in
set_option maxRecDepth 1000 in
theorem padc_ok : FOK Tryd.prog gl 49 padcSp := by
  refine FOK.ofE (tyOf_ok Tryd.prog) (slots := [3]) (nt := 24) Tryd.func49 rfl rfl rfl rfl (by decide) 2 (fun ⟨_, _⟩ => rfl) (by decide) (fun ⟨_, _⟩ => ⟨trivial, rfl, trivial⟩) ?_
  rintro ⟨c, k⟩ kk hlen hpre h
  replace hpre : k.length ≤ 64 := hpre
  show HT (cx Tryd.prog 24 (tyOf Tryd.prog) gl [1]) _ [(0, .p (.u8 (c))), (1, .ptr 1 (0))] [(1, ⟨22, 1, 1, true, .cells [.p (.bs (k))]⟩)] _
  refine HT.seq ?_
  refine HT.region S_padc_ok ?_
  refine So.q rfl rfl (V.as (v := .p (.v (.slice none 0 0))) rfl ?_)
  refine So.e ?_
  show HT _ _ _ _ _
  refine HT.seq ?_
  refine HT.region S_padc_ok ?_
  refine So.n (lk rfl) (A.mkB 2 ty22 ty5 rfl rfl rfl (by omega) rfl rfl ⟨lk rfl, trivial⟩ ?_)
  refine So.q rfl rfl (V.as (v := .own 2 0 _) rfl ?_)
  refine So.e ?_
  show HT _ _ _ _ _
  refine HT.seq ?_
  refine HT.region S_padc_ok ?_
  refine So.q rfl rfl (V.mv (v := .own 2 0 _) rfl ?_)
  refine So.q rfl rfl (V.ldPtr ty22 rfl rfl rfl (lk rfl) (v := .p (.bs _)) rfl ?_)
  refine So.n (lk rfl) (A.cpy ty22 rfl rfl rfl rfl rfl (l' := padL k c 0) (by exact padL_0 hpre c) rfl ?_)
  refine So.e ?_
  show HT _ _ _ _ _
  refine HT.seq ?_
  refine HT.seq ?_
  refine HT.region S_padc_ok ?_
  refine So.q rfl rfl (V.mv (v := .own 2 0 _) rfl ?_)
  refine So.q rfl rfl (V.len ty22 (v := .own 2 0 _) rfl rfl ?_)
  refine So.q rfl rfl (V.mv (v := .p (.v (.int .i64 (0)))) rfl ?_)
  refine So.e ?_
  show HT _ _ _ _ _
  refine HT.block ?_
  refine R.loop (σ := Nat) (fun s => [(12, .p (.v (.int .i64 ((s : Int)))))]) (fun s => [(2, ⟨5, 1, 64, true, .bs (padL k c s)⟩)]) [0, 3, 4, 11] [1] (fun s => s ≤ 64) (fun s => 64 - s) (0) (fr0 := [(0, .p (.u8 _)), (3, .p (.v (.slice none 0 0))), (4, .own 2 0 _), (11, .p (.v (.int .i64 _)))]) (O0 := [(1, ⟨_, _, _, _, .cells _⟩)]) rfl rfl (by first | rfl | omega | (simp; done) | (simp; omega)) ⟨⟨⟨le_int (by first | rfl | omega), trivial⟩, ⟨.refl _, trivial⟩, ⟨.refl _, trivial⟩, ⟨.refl _, rfl⟩, ⟨.refl _, trivial⟩, trivial⟩, ⟨⟨_, rfl, .inl (ob_bs (by first | rfl | ((try dsimp only); first | rfl | omega)) (by first | rfl | ((try dsimp only); first | rfl | omega))), trivial⟩, ⟨_, rfl, .inl rfl, ⟨trivial, trivial⟩⟩, trivial⟩⟩ (fun s hP0 => ?_)
  refine HT.seq ?_
  refine HT.region S_padc_ok ?_
  refine So.q rfl rfl (V.bin (a := (.v (.int .i64 ((_ : Nat) : Int)))) (b := (.v (.int .i64 _))) (r := .v (.bool _)) rfl rfl rfl trivial ?_)
  refine So.e ?_
  show HT _ _ _ _ _
  refine HT.seq ?_
  refine R.cond rfl rfl (fun h1 => ?_) (fun h1 => ?_)
  · have h1 := of_decide_eq_true h1
    refine HT.skip ?_
    show HT _ _ _ _ _
    refine HT.seq ?_
    refine HT.block ?_
    refine HT.seq ?_
    refine HT.region S_padc_ok ?_
    refine So.q rfl rfl (V.mv (v := .p (.v (.int .i64 ((_ : Nat) : Int)))) rfl ?_)
    refine So.q rfl rfl (V.as (v := .p (.v (.int .i64 ((_ : Nat) : Int)))) rfl ?_)
    refine So.e ?_
    show HT _ _ _ _ _
    refine HT.region S_padc_ok ?_
    have hpl := padL_len hpre c (s := s) (by omega)
    have hpg := padL_get hpre c (s := s) (by omega)
    refine So.q rfl rfl (V.mv (v := .own 2 0 _) rfl ?_)
    refine So.q rfl rfl (V.mv (v := .p (.v (.int .i64 ((_ : Nat) : Int)))) rfl ?_)
    refine So.q rfl rfl (V.ixOwn10 (mi := s) ty22 ty5 rfl rfl rfl rfl rfl (by omega) (by omega) ?_)
    refine So.q rfl rfl (V.ldPtr ty5 rfl rfl rfl (by first | rfl | omega | (simp; done) | (simp; omega)) (v := .p (.u8 _)) rfl ?_)
    refine So.q rfl rfl (V.mv (v := .p (.u8 _)) rfl ?_)
    refine So.q rfl rfl (V.bin (a := (.u8 _)) (b := (.u8 _)) (r := .u8 _) rfl rfl rfl trivial ?_)
    refine So.q rfl rfl (V.ixOwn10 (mi := s) ty22 ty5 rfl rfl rfl rfl rfl (by omega) (by omega) ?_)
    refine So.s (A.sto ty5 rfl rfl rfl (v := .p (.u8 _)) rfl trivial rfl (by first | rfl | omega | (simp; done) | (simp; omega)) rfl rfl ?_)
    refine So.e ?_
    show HT _ _ _ _ _
    refine HT.region S_padc_ok ?_
    refine So.q rfl rfl (V.addI rfl rfl (by omega) ?_)
    refine So.q rfl rfl (V.mv (v := .p (.v (.int .i64 _))) rfl ?_)
    refine So.e ?_
    refine ⟨s + 1, by first | rfl | omega | (simp; done) | (simp; omega), by omega, ⟨⟨⟨le_int (by first | rfl | omega | (simp; done) | (simp; omega)), trivial⟩, ⟨.refl _, trivial⟩, ⟨.refl _, trivial⟩, ⟨.refl _, rfl⟩, ⟨.refl _, trivial⟩, trivial⟩, ⟨⟨_, rfl, .inl (ob_bs (by first | rfl | ((try dsimp only); first | rfl | omega | (rw [hpg]; exact padL_succ hpre c (by omega)))) (by first | rfl | ((try dsimp only); first | rfl | omega | (rw [hpg]; exact padL_succ hpre c (by omega))))), trivial⟩, ⟨_, rfl, .inl rfl, ⟨trivial, trivial⟩⟩, trivial⟩⟩⟩
  · have h1 := of_decide_eq_false h1
    refine HT.exit ?_
    show HT _ _ _ _ _
    refine HT.seq ?_
    refine HT.region S_padc_ok ?_
    refine So.q rfl rfl (V.mv (v := .own 2 0 _) rfl ?_)
    refine So.q rfl rfl (V.as (v := .own 2 0 _) rfl ?_)
    refine So.e ?_
    show HT _ _ _ _ _
    refine HT.ret ?_
    exact ret_ok (sg [(1, 1), (2, 2)]) h rfl rfl rfl ⟨⟨trivial, trivial⟩, trivial, trivial⟩ ⟨rfl, trivial⟩ rfl ⟨⟨⟨le_own2 (by first | rfl | omega) (by first | (show (_ : Nat) = _; rfl) | (show (_ : List UInt8) = _; replace hP0 : s = 64 := (by omega); subst hP0; exact padL_64 hpre c) | rfl), rfl⟩, trivial⟩, ⟨⟨_, rfl, .inl (by first | (show (_ : Nat) = _; rfl) | (show (_ : List UInt8) = _; replace hP0 : s = 64 := (by omega); subst hP0; exact padL_64 hpre c) | rfl), ⟨trivial, trivial⟩⟩, ⟨_, rfl, .inl (ob_bs (by first | (show (_ : Nat) = _; rfl) | (show (_ : List UInt8) = _; replace hP0 : s = 64 := (by omega); subst hP0; exact padL_64 hpre c) | rfl) (by first | (show (_ : Nat) = _; rfl) | (show (_ : List UInt8) = _; replace hP0 : s = 64 := (by omega); subst hP0; exact padL_64 hpre c) | rfl)), trivial⟩, trivial⟩⟩

end Go.Vh
