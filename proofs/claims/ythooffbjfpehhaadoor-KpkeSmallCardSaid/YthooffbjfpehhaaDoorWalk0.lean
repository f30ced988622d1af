/- What is proved: each function of the seat's program does what its contract says, wherever it is called; no condition. -/
import Derived.Test.YthooffbjfpehhaaDoorPure0
import Derived.Test.YthooffbjfpehhaaDoorFrame2
import Derived.Test.YthooffbjfpehhaaDoorProg
set_option linter.unusedVariables false
set_option linter.unusedSimpArgs false
set_option linter.unusedVariables false
set_option linter.unusedSimpArgs false
namespace Go.Vk
open Go Go.Vc Go.Proofs

def gl : Nat → Option (Nat × (Nat → GV)) := fun _ => none
theorem mixed : Tryd.prog.follows .mixedOrders = true := by kernel_rfl
theorem ty1 : tyOf Tryd.prog 1 = some ⟨.func, 1, 8, some (fun _ => .nilFunc)⟩ := by rfl
theorem ty2 : tyOf Tryd.prog 2 = some ⟨.int .i64, 1, 8, some (fun _ => .int .i64 0)⟩ := by rfl
theorem ty3 : tyOf Tryd.prog 3 = some ⟨.int .i64, 1, 8, some (fun _ => .int .i64 0)⟩ := by rfl
theorem ty4 : tyOf Tryd.prog 4 = some ⟨.bool, 1, 1, some (fun _ => .bool false)⟩ := by rfl
theorem ty5 : tyOf Tryd.prog 5 = some ⟨.int .u8, 1, 1, some (fun _ => .int .u8 0)⟩ := by rfl
theorem ty6 : tyOf Tryd.prog 6 = some ⟨.int .u8, 1, 1, some (fun _ => .int .u8 0)⟩ := by rfl
theorem ty7 : tyOf Tryd.prog 7 = some ⟨.struct [(0, 2), (1, 3), (2, 4), (3, 6)], 4, 24, some (fun j => ([.int .i64 0, .int .i64 0, .bool false, .int .u8 0] : List Value).getD j undef)⟩ := by rfl
theorem ty8 : tyOf Tryd.prog 8 = some ⟨.struct [(0, 2), (1, 3), (2, 4), (3, 6)], 4, 24, some (fun j => ([.int .i64 0, .int .i64 0, .bool false, .int .u8 0] : List Value).getD j undef)⟩ := by rfl
theorem ty9 : tyOf Tryd.prog 9 = some ⟨.string, 1, 16, some (fun _ => .string ⟨#[]⟩)⟩ := by rfl
theorem ty10 : tyOf Tryd.prog 10 = some ⟨.string, 1, 16, some (fun _ => .string ⟨#[]⟩)⟩ := by rfl
theorem ty11 : tyOf Tryd.prog 11 = some ⟨.string, 1, 16, some (fun _ => .string ⟨#[]⟩)⟩ := by rfl
theorem ty12 : tyOf Tryd.prog 12 = some ⟨.int .u64, 1, 8, some (fun _ => .int .u64 0)⟩ := by rfl
theorem ty13 : tyOf Tryd.prog 13 = some ⟨.struct [(0, 9), (1, 12)], 2, 24, some (fun j => ([.string ⟨#[]⟩, .int .u64 0] : List Value).getD j undef)⟩ := by rfl
theorem ty14 : tyOf Tryd.prog 14 = some ⟨.struct [(0, 9), (1, 12)], 2, 24, some (fun j => ([.string ⟨#[]⟩, .int .u64 0] : List Value).getD j undef)⟩ := by rfl
theorem ty15 : tyOf Tryd.prog 15 = some ⟨.pointer 76, 1, 8, some (fun _ => .pointer none)⟩ := by rfl
theorem ty16 : tyOf Tryd.prog 16 = some ⟨.pointer 79, 1, 8, some (fun _ => .pointer none)⟩ := by rfl
theorem ty17 : tyOf Tryd.prog 17 = some ⟨.pointer 89, 1, 8, some (fun _ => .pointer none)⟩ := by rfl
theorem ty18 : tyOf Tryd.prog 18 = some ⟨.struct [(0, 17)], 1, 8, some (fun _ => .pointer none)⟩ := by rfl
theorem ty19 : tyOf Tryd.prog 19 = some ⟨.struct [(0, 17)], 1, 8, some (fun _ => .pointer none)⟩ := by rfl
theorem ty21 : tyOf Tryd.prog 21 = some ⟨.int .i32, 1, 4, some (fun _ => .int .i32 0)⟩ := by rfl
theorem ty22 : tyOf Tryd.prog 22 = some ⟨.slice 5, 1, 24, some (fun _ => .slice none 0 0)⟩ := by rfl
theorem ty23 : tyOf Tryd.prog 23 = some ⟨.func, 1, 8, some (fun _ => .nilFunc)⟩ := by rfl
theorem ty24 : tyOf Tryd.prog 24 = some ⟨.array 256 3, 256, 2048, some (fun _ => .int .i64 0)⟩ := by kernel_rfl
theorem ty25 : tyOf Tryd.prog 25 = some ⟨.array 256 3, 256, 2048, some (fun _ => .int .i64 0)⟩ := by kernel_rfl
theorem ty26 : tyOf Tryd.prog 26 = some ⟨.int .i64, 1, 8, some (fun _ => .int .i64 0)⟩ := by rfl
theorem ty28 : tyOf Tryd.prog 28 = some ⟨.func, 1, 8, some (fun _ => .nilFunc)⟩ := by rfl
theorem ty29 : tyOf Tryd.prog 29 = some ⟨.int .u64, 1, 8, some (fun _ => .int .u64 0)⟩ := by rfl
theorem ty30 : tyOf Tryd.prog 30 = some ⟨.func, 1, 8, some (fun _ => .nilFunc)⟩ := by rfl
theorem ty31 : tyOf Tryd.prog 31 = some ⟨.func, 1, 8, some (fun _ => .nilFunc)⟩ := by rfl
theorem ty32 : tyOf Tryd.prog 32 = some ⟨.func, 1, 8, some (fun _ => .nilFunc)⟩ := by rfl
theorem ty33 : tyOf Tryd.prog 33 = some ⟨.func, 1, 8, some (fun _ => .nilFunc)⟩ := by rfl
theorem ty34 : tyOf Tryd.prog 34 = some ⟨.func, 1, 8, some (fun _ => .nilFunc)⟩ := by rfl
theorem ty35 : tyOf Tryd.prog 35 = some ⟨.func, 1, 8, some (fun _ => .nilFunc)⟩ := by rfl
theorem ty36 : tyOf Tryd.prog 36 = some ⟨.array 4 3, 4, 32, some (fun _ => .int .i64 0)⟩ := by rfl
theorem ty37 : tyOf Tryd.prog 37 = some ⟨.func, 1, 8, some (fun _ => .nilFunc)⟩ := by rfl
theorem ty38 : tyOf Tryd.prog 38 = some ⟨.func, 1, 8, some (fun _ => .nilFunc)⟩ := by rfl
theorem ty39 : tyOf Tryd.prog 39 = some ⟨.func, 1, 8, some (fun _ => .nilFunc)⟩ := by rfl
theorem ty40 : tyOf Tryd.prog 40 = some ⟨.func, 1, 8, some (fun _ => .nilFunc)⟩ := by rfl
theorem ty41 : tyOf Tryd.prog 41 = some ⟨.func, 1, 8, some (fun _ => .nilFunc)⟩ := by rfl
theorem ty42 : tyOf Tryd.prog 42 = some ⟨.func, 1, 8, some (fun _ => .nilFunc)⟩ := by rfl
theorem ty43 : tyOf Tryd.prog 43 = some ⟨.func, 1, 8, some (fun _ => .nilFunc)⟩ := by rfl
theorem ty44 : tyOf Tryd.prog 44 = some ⟨.func, 1, 8, some (fun _ => .nilFunc)⟩ := by rfl
theorem ty45 : tyOf Tryd.prog 45 = some ⟨.func, 1, 8, some (fun _ => .nilFunc)⟩ := by rfl
theorem ty46 : tyOf Tryd.prog 46 = some ⟨.func, 1, 8, some (fun _ => .nilFunc)⟩ := by rfl
theorem ty47 : tyOf Tryd.prog 47 = some ⟨.pointer 57, 1, 8, some (fun _ => .pointer none)⟩ := by rfl
theorem ty48 : tyOf Tryd.prog 48 = some ⟨.func, 1, 8, some (fun _ => .nilFunc)⟩ := by rfl
theorem ty49 : tyOf Tryd.prog 49 = some ⟨.func, 1, 8, some (fun _ => .nilFunc)⟩ := by rfl
theorem ty50 : tyOf Tryd.prog 50 = some ⟨.func, 1, 8, some (fun _ => .nilFunc)⟩ := by rfl
theorem ty51 : tyOf Tryd.prog 51 = some ⟨.pointer 63, 1, 8, some (fun _ => .pointer none)⟩ := by rfl
theorem ty52 : tyOf Tryd.prog 52 = some ⟨.func, 1, 8, some (fun _ => .nilFunc)⟩ := by rfl
theorem ty53 : tyOf Tryd.prog 53 = some ⟨.int .u64, 1, 8, some (fun _ => .int .u64 0)⟩ := by rfl
theorem ty54 : tyOf Tryd.prog 54 = some ⟨.array 25 53, 25, 200, some (fun _ => .int .u64 0)⟩ := by rfl
theorem ty55 : tyOf Tryd.prog 55 = some ⟨.array 25 53, 25, 200, some (fun _ => .int .u64 0)⟩ := by rfl
theorem ty56 : tyOf Tryd.prog 56 = some ⟨.struct [(0, 3), (1, 5), (2, 55), (27, 3), (28, 4)], 29, 232, some (fun j => ([.int .i64 0, .int .u8 0, .int .u64 0, .int .u64 0, .int .u64 0, .int .u64 0, .int .u64 0, .int .u64 0, .int .u64 0, .int .u64 0, .int .u64 0, .int .u64 0, .int .u64 0, .int .u64 0, .int .u64 0, .int .u64 0, .int .u64 0, .int .u64 0, .int .u64 0, .int .u64 0, .int .u64 0, .int .u64 0, .int .u64 0, .int .u64 0, .int .u64 0, .int .u64 0, .int .u64 0, .int .i64 0, .bool false] : List Value).getD j undef)⟩ := by rfl
theorem ty57 : tyOf Tryd.prog 57 = some ⟨.struct [(0, 3), (1, 5), (2, 55), (27, 3), (28, 4)], 29, 232, some (fun j => ([.int .i64 0, .int .u8 0, .int .u64 0, .int .u64 0, .int .u64 0, .int .u64 0, .int .u64 0, .int .u64 0, .int .u64 0, .int .u64 0, .int .u64 0, .int .u64 0, .int .u64 0, .int .u64 0, .int .u64 0, .int .u64 0, .int .u64 0, .int .u64 0, .int .u64 0, .int .u64 0, .int .u64 0, .int .u64 0, .int .u64 0, .int .u64 0, .int .u64 0, .int .u64 0, .int .u64 0, .int .i64 0, .bool false] : List Value).getD j undef)⟩ := by rfl
theorem ty58 : tyOf Tryd.prog 58 = some ⟨.func, 1, 8, some (fun _ => .nilFunc)⟩ := by rfl
theorem ty59 : tyOf Tryd.prog 59 = some ⟨.func, 1, 8, some (fun _ => .nilFunc)⟩ := by rfl
theorem ty60 : tyOf Tryd.prog 60 = some ⟨.array 5 53, 5, 40, some (fun _ => .int .u64 0)⟩ := by rfl
theorem ty61 : tyOf Tryd.prog 61 = some ⟨.array 5 60, 25, 200, some (fun _ => .int .u64 0)⟩ := by rfl
theorem ty62 : tyOf Tryd.prog 62 = some ⟨.struct [(0, 3), (1, 5), (2, 61), (27, 3), (28, 4)], 29, 232, some (fun j => ([.int .i64 0, .int .u8 0, .int .u64 0, .int .u64 0, .int .u64 0, .int .u64 0, .int .u64 0, .int .u64 0, .int .u64 0, .int .u64 0, .int .u64 0, .int .u64 0, .int .u64 0, .int .u64 0, .int .u64 0, .int .u64 0, .int .u64 0, .int .u64 0, .int .u64 0, .int .u64 0, .int .u64 0, .int .u64 0, .int .u64 0, .int .u64 0, .int .u64 0, .int .u64 0, .int .u64 0, .int .i64 0, .bool false] : List Value).getD j undef)⟩ := by rfl
theorem ty63 : tyOf Tryd.prog 63 = some ⟨.struct [(0, 3), (1, 5), (2, 61), (27, 3), (28, 4)], 29, 232, some (fun j => ([.int .i64 0, .int .u8 0, .int .u64 0, .int .u64 0, .int .u64 0, .int .u64 0, .int .u64 0, .int .u64 0, .int .u64 0, .int .u64 0, .int .u64 0, .int .u64 0, .int .u64 0, .int .u64 0, .int .u64 0, .int .u64 0, .int .u64 0, .int .u64 0, .int .u64 0, .int .u64 0, .int .u64 0, .int .u64 0, .int .u64 0, .int .u64 0, .int .u64 0, .int .u64 0, .int .u64 0, .int .i64 0, .bool false] : List Value).getD j undef)⟩ := by rfl
theorem ty64 : tyOf Tryd.prog 64 = some ⟨.func, 1, 8, some (fun _ => .nilFunc)⟩ := by rfl
theorem ty65 : tyOf Tryd.prog 65 = some ⟨.array 5 3, 5, 40, some (fun _ => .int .i64 0)⟩ := by rfl
theorem ty66 : tyOf Tryd.prog 66 = some ⟨.array 5 65, 25, 200, some (fun _ => .int .i64 0)⟩ := by rfl
theorem ty67 : tyOf Tryd.prog 67 = some ⟨.func, 1, 8, some (fun _ => .nilFunc)⟩ := by rfl
theorem ty68 : tyOf Tryd.prog 68 = some ⟨.array 24 53, 24, 192, some (fun _ => .int .u64 0)⟩ := by rfl
theorem ty69 : tyOf Tryd.prog 69 = some ⟨.func, 1, 8, some (fun _ => .nilFunc)⟩ := by rfl
theorem ty70 : tyOf Tryd.prog 70 = some ⟨.func, 1, 8, some (fun _ => .nilFunc)⟩ := by rfl
theorem ty71 : tyOf Tryd.prog 71 = some ⟨.pointer 55, 1, 8, some (fun _ => .pointer none)⟩ := by rfl
theorem ty72 : tyOf Tryd.prog 72 = some ⟨.array 24 3, 24, 192, some (fun _ => .int .i64 0)⟩ := by rfl
theorem ty73 : tyOf Tryd.prog 73 = some ⟨.slice 53, 1, 24, some (fun _ => .slice none 0 0)⟩ := by rfl
theorem ty74 : tyOf Tryd.prog 74 = some ⟨.func, 1, 8, some (fun _ => .nilFunc)⟩ := by rfl
theorem ty75 : tyOf Tryd.prog 75 = some ⟨.struct [(0, 17), (1, 17), (2, 17), (3, 9)], 4, 40, some (fun j => ([.pointer none, .pointer none, .pointer none, .string ⟨#[]⟩] : List Value).getD j undef)⟩ := by rfl
theorem ty76 : tyOf Tryd.prog 76 = some ⟨.struct [(0, 17), (1, 17), (2, 17), (3, 9)], 4, 40, some (fun j => ([.pointer none, .pointer none, .pointer none, .string ⟨#[]⟩] : List Value).getD j undef)⟩ := by rfl
theorem ty77 : tyOf Tryd.prog 77 = some ⟨.array 0 16, 0, 0, some (fun _ => undef)⟩ := by rfl
theorem ty78 : tyOf Tryd.prog 78 = some ⟨.struct [(0, 77)], 0, 0, some (fun _ => undef)⟩ := by rfl
theorem ty79 : tyOf Tryd.prog 79 = some ⟨.struct [(0, 77)], 0, 0, some (fun _ => undef)⟩ := by rfl
theorem ty80 : tyOf Tryd.prog 80 = some ⟨.func, 1, 8, some (fun _ => .nilFunc)⟩ := by rfl
theorem ty81 : tyOf Tryd.prog 81 = some ⟨.int .u32, 1, 4, some (fun _ => .int .u32 0)⟩ := by rfl
theorem ty82 : tyOf Tryd.prog 82 = some ⟨.int .u8, 1, 1, some (fun _ => .int .u8 0)⟩ := by rfl
theorem ty83 : tyOf Tryd.prog 83 = some ⟨.int .u8, 1, 1, some (fun _ => .int .u8 0)⟩ := by rfl
theorem ty84 : tyOf Tryd.prog 84 = some ⟨.func, 1, 8, some (fun _ => .nilFunc)⟩ := by rfl
theorem ty85 : tyOf Tryd.prog 85 = some ⟨.pointer 5, 1, 8, some (fun _ => .pointer none)⟩ := by rfl
theorem ty86 : tyOf Tryd.prog 86 = some ⟨.int .i32, 1, 4, some (fun _ => .int .i32 0)⟩ := by rfl
theorem ty87 : tyOf Tryd.prog 87 = some ⟨.int .i32, 1, 4, some (fun _ => .int .i32 0)⟩ := by rfl
theorem ty88 : tyOf Tryd.prog 88 = some ⟨.struct [(0, 12), (1, 12), (2, 81), (3, 82), (4, 5), (5, 5), (6, 83), (7, 84), (8, 85), (9, 86), (10, 87)], 11, 48, some (fun j => ([.int .u64 0, .int .u64 0, .int .u32 0, .int .u8 0, .int .u8 0, .int .u8 0, .int .u8 0, .nilFunc, .pointer none, .int .i32 0, .int .i32 0] : List Value).getD j undef)⟩ := by rfl
theorem ty89 : tyOf Tryd.prog 89 = some ⟨.struct [(0, 12), (1, 12), (2, 81), (3, 82), (4, 5), (5, 5), (6, 83), (7, 84), (8, 85), (9, 86), (10, 87)], 11, 48, some (fun j => ([.int .u64 0, .int .u64 0, .int .u32 0, .int .u8 0, .int .u8 0, .int .u8 0, .int .u8 0, .nilFunc, .pointer none, .int .i32 0, .int .i32 0] : List Value).getD j undef)⟩ := by rfl
end Go.Vk

set_option linter.unusedVariables false
set_option linter.unusedSimpArgs false
namespace Go.Vk
open Go Go.Vc Go.Proofs

/-! ### sodality/small.mod -/
def smodSp : Sp := ⟨[], mkE (α := Int) (fun n => [.p (.v (.int .i64 (n)))]) (fun n => []) (fun n => True) (fun n => [.p (.v (.int .i64 (n % 3329)))]) (fun n => [])⟩
def S_smod : FuncId → Option Sp := fun _ => none
theorem S_smod_ok : ∀ f s, S_smod f = some s → FOK Tryd.prog gl f s := fun f s h => by cases h
theorem S_smod_det : ∀ f s, S_smod f = some s → SpDet s.sp := fun f s h => by cases h
set_option maxHeartbeats 1000000 in
set_option maxRecDepth 1000 in
theorem smod_ok : FOK Tryd.prog gl 28 smodSp := by
  refine FOK.ofE (tyOf_ok Tryd.prog) (slots := [2]) (nt := 10) Tryd.func28 rfl rfl rfl rfl (by decide) 1 (fun _ => rfl) (by decide) (fun _ => ⟨trivial, trivial⟩) ?_
  rintro n kk hlen hpre h
  replace hpre : True := hpre
  show HT (cx Tryd.prog 10 (tyOf Tryd.prog) gl []) _ [(0, .p (.v (.int .i64 (n))))] [] _
  refine HT.seq ?_
  refine HT.region S_smod_ok ?_
  refine So.n (Nat.le_of_ble_eq_true rfl) (A.v rfl (V.as (v := .p (.v (.int .i64 (0)))) rfl ?_))
  refine So.e ?_
  show HT _ _ _ _ _
  refine HT.seq ?_
  refine HT.seq ?_
  refine HT.region S_smod_ok ?_
  refine So.n (Nat.le_of_ble_eq_true rfl) (A.v rfl (V.mv (v := .p (.v (.int .i64 _))) rfl ?_))
  refine So.n (Nat.le_of_ble_eq_true rfl) (A.v rfl (V.bin (a := (.v (.int .i64 _))) (b := (.v (.int .i64 (3329)))) (r := .v (.int .i64 _)) rfl rfl rfl (by omega) ?_))
  refine So.n (Nat.le_of_ble_eq_true rfl) (A.v rfl (V.as (v := .p (.v (.int .i64 _))) rfl ?_))
  refine So.e ?_
  show HT _ _ _ _ _
  refine HT.seq ?_
  refine HT.region S_smod_ok ?_
  have hb := tmod_lb (n := n) (m := 3329) (by omega)
  refine So.n (Nat.le_of_ble_eq_true rfl) (A.v rfl (V.mv (v := .p (.v (.int .i64 _))) rfl ?_))
  refine So.n (Nat.le_of_ble_eq_true rfl) (A.v rfl (V.bin (a := (.v (.int .i64 _))) (b := (.v (.int .i64 (0)))) (r := .v (.bool _)) rfl rfl rfl trivial ?_))
  refine So.e ?_
  show HT _ _ _ _ _
  refine R.cond rfl rfl (fun h1 => ?_) (fun h1 => ?_)
  · have h1 := of_decide_eq_true h1
    refine HT.region S_smod_ok ?_
    refine So.n (Nat.le_of_ble_eq_true rfl) (A.v rfl (V.mv (v := .p (.v (.int .i64 _))) rfl ?_))
    refine So.n (Nat.le_of_ble_eq_true rfl) (A.v rfl (V.addI rfl rfl (by omega) ?_))
    refine So.n (Nat.le_of_ble_eq_true rfl) (A.v rfl (V.as (v := .p (.v (.int .i64 _))) rfl ?_))
    refine So.e ?_
    show HT _ _ _ _ _
    refine HT.seq ?_
    refine HT.region S_smod_ok ?_
    refine So.n (Nat.le_of_ble_eq_true rfl) (A.v rfl (V.mv (v := .p (.v (.int .i64 _))) rfl ?_))
    refine So.n (Nat.le_of_ble_eq_true rfl) (A.v rfl (V.as (v := .p (.v (.int .i64 _))) rfl ?_))
    refine So.e ?_
    show HT _ _ _ _ _
    refine HT.ret ?_
    exact ret_ok (sg []) h rfl rfl rfl trivial ⟨trivial, trivial⟩ rfl ⟨⟨⟨le_int (by first | rfl | (exact mod_neg (by omega) (by omega)) | (exact mod_pos (by omega) (by omega))), trivial⟩, trivial⟩, trivial⟩
  · have h1 := of_decide_eq_false h1
    refine HT.skip ?_
    show HT _ _ _ _ _
    refine HT.seq ?_
    refine HT.region S_smod_ok ?_
    refine So.n (Nat.le_of_ble_eq_true rfl) (A.v rfl (V.mv (v := .p (.v (.int .i64 _))) rfl ?_))
    refine So.n (Nat.le_of_ble_eq_true rfl) (A.v rfl (V.as (v := .p (.v (.int .i64 _))) rfl ?_))
    refine So.e ?_
    show HT _ _ _ _ _
    refine HT.ret ?_
    exact ret_ok (sg []) h rfl rfl rfl trivial ⟨trivial, trivial⟩ rfl ⟨⟨⟨le_int (by first | rfl | (exact mod_neg (by omega) (by omega)) | (exact mod_pos (by omega) (by omega))), trivial⟩, trivial⟩, trivial⟩

/-! ### sodality/small.Mod$1 -/
def smod1Sp : Sp := ⟨[], mkE (α := Int × Int) (fun (x, y) => [.p (.v (.int .i64 (x))), .p (.v (.int .i64 (y)))]) (fun (x, y) => []) (fun (x, y) => True) (fun (x, y) => [.p (.v (.int .i64 (y)))]) (fun (x, y) => [])⟩
def S_smod1 : FuncId → Option Sp := fun _ => none
theorem S_smod1_ok : ∀ f s, S_smod1 f = some s → FOK Tryd.prog gl f s := fun f s h => by cases h
theorem S_smod1_det : ∀ f s, S_smod1 f = some s → SpDet s.sp := fun f s h => by cases h
set_option maxHeartbeats 1000000 in
set_option maxRecDepth 1000 in
theorem smod1_ok : FOK Tryd.prog gl 23 smod1Sp := by
  refine FOK.ofE (tyOf_ok Tryd.prog) (slots := [4]) (nt := 6) Tryd.func23 rfl rfl rfl rfl (by decide) 2 (fun ⟨_, _⟩ => rfl) (by decide) (fun ⟨_, _⟩ => ⟨trivial, trivial, trivial⟩) ?_
  rintro ⟨x, y⟩ kk hlen hpre h
  replace hpre : True := hpre
  show HT (cx Tryd.prog 6 (tyOf Tryd.prog) gl []) _ [(0, .p (.v (.int .i64 (x)))), (1, .p (.v (.int .i64 (y))))] [] _
  refine HT.seq ?_
  refine HT.region S_smod1_ok ?_
  refine So.n (Nat.le_of_ble_eq_true rfl) (A.v rfl (V.as (v := .p (.v (.int .i64 (0)))) rfl ?_))
  refine So.e ?_
  show HT _ _ _ _ _
  refine HT.seq ?_
  refine HT.region S_smod1_ok ?_
  refine So.n (Nat.le_of_ble_eq_true rfl) (A.v rfl (V.mv (v := .p (.v (.int .i64 _))) rfl ?_))
  refine So.n (Nat.le_of_ble_eq_true rfl) (A.v rfl (V.as (v := .p (.v (.int .i64 _))) rfl ?_))
  refine So.e ?_
  show HT _ _ _ _ _
  refine HT.ret ?_
  exact ret_ok (sg []) h rfl rfl rfl trivial ⟨trivial, trivial⟩ rfl ⟨⟨⟨le_int (by first | rfl | omega | (simp; done) | (simp; omega)), trivial⟩, trivial⟩, trivial⟩

end Go.Vk

set_option linter.unusedVariables false
set_option linter.unusedSimpArgs false
namespace Go.Vk
open Go Go.Vc Go.Proofs

/-! ### sodality/kpke.mod -/
def modSp : Sp := ⟨[], mkE (α := Int × Int) (fun (n, m) => [.p (.v (.int .i64 (n))), .p (.v (.int .i64 (m)))]) (fun (n, m) => []) (fun (n, m) => 0 < m ∧ m ≤ 4611686018427387904) (fun (n, m) => [.p (.v (.int .i64 (n % m)))]) (fun (n, m) => [])⟩
def S_mod : FuncId → Option Sp := fun _ => none
theorem S_mod_ok : ∀ f s, S_mod f = some s → FOK Tryd.prog gl f s := fun f s h => by cases h
theorem S_mod_det : ∀ f s, S_mod f = some s → SpDet s.sp := fun f s h => by cases h
set_option maxHeartbeats 1000000 in
set_option maxRecDepth 1000 in
theorem mod_ok : FOK Tryd.prog gl 21 modSp := by
  refine FOK.ofE (tyOf_ok Tryd.prog) (slots := [4]) (nt := 14) Tryd.func21 rfl rfl rfl rfl (by decide) 2 (fun ⟨_, _⟩ => rfl) (by decide) (fun ⟨_, _⟩ => ⟨trivial, trivial, trivial⟩) ?_
  rintro ⟨n, m⟩ kk hlen hpre h
  replace hpre : 0 < m ∧ m ≤ 4611686018427387904 := hpre
  show HT (cx Tryd.prog 14 (tyOf Tryd.prog) gl []) _ [(0, .p (.v (.int .i64 (n)))), (1, .p (.v (.int .i64 (m))))] [] _
  refine HT.seq ?_
  refine HT.region S_mod_ok ?_
  refine So.n (Nat.le_of_ble_eq_true rfl) (A.v rfl (V.as (v := .p (.v (.int .i64 (0)))) rfl ?_))
  refine So.e ?_
  show HT _ _ _ _ _
  refine HT.seq ?_
  refine HT.seq ?_
  refine HT.region S_mod_ok ?_
  refine So.n (Nat.le_of_ble_eq_true rfl) (A.v rfl (V.mv (v := .p (.v (.int .i64 _))) rfl ?_))
  refine So.n (Nat.le_of_ble_eq_true rfl) (A.v rfl (V.mv (v := .p (.v (.int .i64 _))) rfl ?_))
  refine So.n (Nat.le_of_ble_eq_true rfl) (A.v rfl (V.bin (a := (.v (.int .i64 _))) (b := (.v (.int .i64 _))) (r := .v (.int .i64 _)) rfl rfl rfl (by omega) ?_))
  refine So.n (Nat.le_of_ble_eq_true rfl) (A.v rfl (V.as (v := .p (.v (.int .i64 _))) rfl ?_))
  refine So.e ?_
  show HT _ _ _ _ _
  refine HT.seq ?_
  refine HT.region S_mod_ok ?_
  refine So.n (Nat.le_of_ble_eq_true rfl) (A.v rfl (V.mv (v := .p (.v (.int .i64 _))) rfl ?_))
  refine So.n (Nat.le_of_ble_eq_true rfl) (A.v rfl (V.bin (a := (.v (.int .i64 _))) (b := (.v (.int .i64 (0)))) (r := .v (.bool _)) rfl rfl rfl trivial ?_))
  refine So.e ?_
  show HT _ _ _ _ _
  refine R.cond rfl rfl (fun h1 => ?_) (fun h1 => ?_)
  · have h1 := of_decide_eq_true h1
    refine HT.region S_mod_ok ?_
    have hb := tmod_lb (n := n) hpre.1
    refine So.n (Nat.le_of_ble_eq_true rfl) (A.v rfl (V.mv (v := .p (.v (.int .i64 _))) rfl ?_))
    refine So.n (Nat.le_of_ble_eq_true rfl) (A.v rfl (V.mv (v := .p (.v (.int .i64 _))) rfl ?_))
    refine So.n (Nat.le_of_ble_eq_true rfl) (A.v rfl (V.addI rfl rfl (by omega) ?_))
    refine So.n (Nat.le_of_ble_eq_true rfl) (A.v rfl (V.as (v := .p (.v (.int .i64 _))) rfl ?_))
    refine So.e ?_
    show HT _ _ _ _ _
    refine HT.seq ?_
    refine HT.region S_mod_ok ?_
    refine So.n (Nat.le_of_ble_eq_true rfl) (A.v rfl (V.mv (v := .p (.v (.int .i64 _))) rfl ?_))
    refine So.n (Nat.le_of_ble_eq_true rfl) (A.v rfl (V.as (v := .p (.v (.int .i64 _))) rfl ?_))
    refine So.e ?_
    show HT _ _ _ _ _
    refine HT.ret ?_
    exact ret_ok (sg []) h rfl rfl rfl trivial ⟨trivial, trivial⟩ rfl ⟨⟨⟨le_int (by first | rfl | (exact mod_neg (by omega) (by omega)) | (exact mod_pos (by omega) (by omega))), trivial⟩, trivial⟩, trivial⟩
  · have h1 := of_decide_eq_false h1
    refine HT.skip ?_
    show HT _ _ _ _ _
    refine HT.seq ?_
    refine HT.region S_mod_ok ?_
    refine So.n (Nat.le_of_ble_eq_true rfl) (A.v rfl (V.mv (v := .p (.v (.int .i64 _))) rfl ?_))
    refine So.n (Nat.le_of_ble_eq_true rfl) (A.v rfl (V.as (v := .p (.v (.int .i64 _))) rfl ?_))
    refine So.e ?_
    show HT _ _ _ _ _
    refine HT.ret ?_
    exact ret_ok (sg []) h rfl rfl rfl trivial ⟨trivial, trivial⟩ rfl ⟨⟨⟨le_int (by first | rfl | (exact mod_neg (by omega) (by omega)) | (exact mod_pos (by omega) (by omega))), trivial⟩, trivial⟩, trivial⟩

/-! ### sodality/kpke.Uniform -/
def uniform0Sp : Sp := ⟨[], mkE (α := (List UInt8)) (fun b => [.p (.bs (b))]) (fun b => []) (fun b => b.length ≠ 34) (fun b => [.agg 256 (fun _ => .v (.int .i64 0)), .p (.v (.int .i64 (1)))]) (fun b => [])⟩
def S_uniform0 : FuncId → Option Sp := fun _ => none
theorem S_uniform0_ok : ∀ f s, S_uniform0 f = some s → FOK Tryd.prog gl f s := fun f s h => by cases h
theorem S_uniform0_det : ∀ f s, S_uniform0 f = some s → SpDet s.sp := fun f s h => by cases h
set_option maxHeartbeats 1000000 in
set_option maxRecDepth 20000 in
theorem uniform0_ok : FOK Tryd.prog gl 8 uniform0Sp := by
  refine FOK.ofEC (tyOf_ok Tryd.prog) (rvs := [.cell 2 25, .tmp 3]) (nt := 28) Tryd.func8 rfl rfl rfl rfl (by decide) 1 (fun _ => rfl) (by decide) (fun _ => ⟨trivial, trivial⟩) ?_
  rintro b kk hlen hpre h
  have hl0 : (b).length ≤ 9223372036854775807 := hlen.1
  replace hpre : b.length ≠ 34 := hpre
  show HT (cx Tryd.prog 28 (tyOf Tryd.prog) gl []) _ [(0, .p (.bs (b)))] [] _
  refine HT.seq ?_
  refine HT.region S_uniform0_ok ?_
  refine So.n (Nat.le_of_ble_eq_true rfl) (A.alloc 1 1 ty25 rfl trivial (f := fun _ => .v (.int .i64 0)) (fun _ _ => rfl) ?_)
  refine So.n (Nat.le_of_ble_eq_true rfl) (A.v rfl (V.as (v := .p (.v (.int .i64 (0)))) rfl ?_))
  refine So.e ?_
  show HT _ _ _ _ _
  refine HT.seq ?_
  refine HT.seq ?_
  refine HT.region S_uniform0_ok ?_
  refine So.n (Nat.le_of_ble_eq_true rfl) (A.v rfl (V.mv (v := .p (.bs _)) rfl ?_))
  refine So.n (Nat.le_of_ble_eq_true rfl) (A.v rfl (V.len ty22 (v := .p (.bs _)) rfl rfl ?_))
  refine So.n (Nat.le_of_ble_eq_true rfl) (A.v rfl (V.bin (a := (.v (.int .i64 _))) (b := (.v (.int .i64 (34)))) (r := .v (.bool _)) rfl rfl rfl trivial ?_))
  refine So.e ?_
  show HT _ _ _ _ _
  refine R.cond rfl rfl (fun h1 => ?_) (fun h1 => ?_)
  · have h1 := of_decide_eq_false (bnT h1)
    refine HT.seq ?_
    refine HT.region S_uniform0_ok ?_
    refine So.n (Nat.le_of_ble_eq_true rfl) (A.bld0 ty25 rfl rfl rfl (f := fun _ => .v (.int .i64 0)) (fun _ _ => rfl) ?_)
    refine So.s (A.stoAg ty25 rfl (n := 256) rfl (by decide) (by intro j hj; first | rfl | trivial) rfl rfl rfl ?_)
    refine So.n (Nat.le_of_ble_eq_true rfl) (A.v rfl (V.as (v := .p (.v (.int .i64 (1)))) rfl ?_))
    refine So.e ?_
    show HT _ _ _ _ _
    refine HT.ret ?_
    exact retC_ok (sg []) [(2, .ptr 1 0), (3, .p (.v (.int .i64 (1))))] [(1, ⟨25, 1, 256, true, .rows (fun _ => .v (.int .i64 0))⟩)] h ⟨⟨⟨.refl _, rfl⟩, ⟨le_int (by first | rfl | omega | (simp; done) | (simp; omega)), trivial⟩, trivial⟩, ⟨⟨_, rfl, .inr (ob_rows rfl (by intro j hj; first | rfl | ((try dsimp only); (first | rfl | omega | (simp; done) | (simp; omega))))), trivial⟩, trivial⟩⟩ ⟨rvA_cell ty25 rfl rfl rfl rfl (Nat.le_refl _) (le_agg (fun j _ => by first | rfl | (dsimp only; rw [Nat.zero_add]))), .refl _, trivial⟩ trivial rfl trivial ⟨trivial, trivial, trivial⟩ rfl
  · have h1 := of_decide_eq_true (bnF h1)
    refine HT.skip ?_
    show HT _ _ _ _ _
    refine HT.seq ?_
    exact absurd (by omega) hpre

/-! ### sodality/kpke.Squeeze -/
def squeezeSp : Sp := ⟨[], mkE (α := Int × Int) (fun (d, n) => [.p (.v (.int .i64 (d))), .p (.v (.int .i64 (n)))]) (fun (d, n) => []) (fun (d, n) => True) (fun (d, n) => [.p (.v (.int .i64 (sqF d n)))]) (fun (d, n) => [])⟩
def S_squeeze : FuncId → Option Sp := fun f => if f = 21 then some modSp else none
theorem S_squeeze_ok : ∀ f s, S_squeeze f = some s → FOK Tryd.prog gl f s := fun f s h => by
  unfold S_squeeze at h
  split at h
  · rename_i e; cases h; subst e; exact mod_ok
  cases h
theorem S_squeeze_det : ∀ f s, S_squeeze f = some s → SpDet s.sp := fun f s h => by
  unfold S_squeeze at h
  split at h
  · cases h; exact mkE_det _ _ _ _ _
  cases h
set_option maxHeartbeats 1000000 in
set_option maxRecDepth 1000 in
theorem squeeze_ok : FOK Tryd.prog gl 13 squeezeSp := by
  refine FOK.ofE (tyOf_ok Tryd.prog) (slots := [4]) (nt := 21) Tryd.func13 rfl rfl rfl rfl (by decide) 2 (fun ⟨_, _⟩ => rfl) (by decide) (fun ⟨_, _⟩ => ⟨trivial, trivial, trivial⟩) ?_
  rintro ⟨d, n⟩ kk hlen hpre h
  replace hpre : True := hpre
  show HT (cx Tryd.prog 21 (tyOf Tryd.prog) gl []) _ [(0, .p (.v (.int .i64 (d)))), (1, .p (.v (.int .i64 (n))))] [] _
  refine HT.seq ?_
  refine HT.region S_squeeze_ok ?_
  refine So.n (Nat.le_of_ble_eq_true rfl) (A.v rfl (V.as (v := .p (.v (.int .i64 (0)))) rfl ?_))
  refine So.e ?_
  show HT _ _ _ _ _
  refine HT.seq ?_
  refine HT.seq ?_
  refine HT.region S_squeeze_ok ?_
  refine So.n (Nat.le_of_ble_eq_true rfl) (A.v rfl (V.mv (v := .p (.v (.int .i64 _))) rfl ?_))
  refine So.n (Nat.le_of_ble_eq_true rfl) (A.v rfl (V.bin (a := (.v (.int .i64 _))) (b := (.v (.int .i64 (1)))) (r := .v (.bool _)) rfl rfl rfl trivial ?_))
  refine So.n (Nat.le_of_ble_eq_true rfl) (A.v rfl (V.mv (v := .p (.v (.bool _))) rfl ?_))
  refine So.gd rfl rfl (Nat.le_of_ble_eq_true rfl) (Nat.le_of_ble_eq_true rfl) (fun h1 => ?_) (fun h1 => ?_)
  · have h1 := of_decide_eq_false h1
    refine A.v rfl (V.mv (v := .p (.v (.int .i64 _))) rfl ?_)
    refine So.gy rfl rfl (Nat.le_of_ble_eq_true rfl) (Nat.le_of_ble_eq_true rfl) ?_
    refine A.v rfl (V.bin (a := (.v (.int .i64 _))) (b := (.v (.int .i64 (11)))) (r := .v (.bool _)) rfl rfl rfl trivial ?_)
    refine So.n (Nat.le_of_ble_eq_true rfl) (A.v rfl (V.pkFalse (u := .p (.v (.bool _))) rfl rfl ?_))
    refine So.e ?_
    show HT _ _ _ _ _
    refine R.cond rfl rfl (fun h2 => ?_) (fun h2 => ?_)
    · have h2 := of_decide_eq_true h2
      refine HT.seq ?_
      refine HT.region S_squeeze_ok ?_
      refine So.n (Nat.le_of_ble_eq_true rfl) (A.v rfl (V.as (v := .p (.v (.int .i64 (0)))) rfl ?_))
      refine So.e ?_
      show HT _ _ _ _ _
      refine HT.ret ?_
      exact ret_ok (sg []) h rfl rfl rfl trivial ⟨trivial, trivial⟩ rfl ⟨⟨⟨le_int (by first | rfl | (unfold sqF; rw [if_pos (by omega)]; done) | (exact sq_ret (by omega) (by omega)) | (exact sq_ret (by omega) (by omega))), trivial⟩, trivial⟩, trivial⟩
    · have h2 := of_decide_eq_false h2
      refine HT.skip ?_
      show HT _ _ _ _ _
      refine HT.seq ?_
      refine HT.drawn S_squeeze_ok S_squeeze_det mixed (by kernel_rfl) ?_
      have hsh := sq_shl n (by omega) (by omega)
      refine Sd.n (Nat.le_of_ble_eq_true rfl) (V.mv (v := .p (.v (.int .i64 _))) rfl ?_)
      refine Sd.n (Nat.le_of_ble_eq_true rfl) (V.call [.p (.v (.int .i64 _)), .p (.v (.int .i64 _))] 1 rfl rfl rfl rfl ⟨trivial, trivial, trivial⟩ trivial (_, _) ⟨.refl _, .refl _, trivial⟩ trivial (by first | omega | (simp; omega)) (Φ := fun _ => True) (fun _ _ => trivial) (.inl ⟨trivial, trivial, trivial⟩) (v := .p (.v (.int .i64 _))) rfl (fun h3 => ?_))
      refine Sd.n (Nat.le_of_ble_eq_true rfl) (V.mv (v := .p (.v (.int .i64 _))) rfl ?_)
      refine Sd.n (Nat.le_of_ble_eq_true rfl) (V.bin (a := (.v (.int .i64 _))) (b := (.v (.int .i64 _))) (r := .v (.int .i64 _)) rfl rfl rfl (by first | rfl | omega | (simp; done) | (simp; omega)) ?_)
      refine Sd.n (Nat.le_of_ble_eq_true rfl) (V.addI rfl rfl (by omega) ?_)
      refine Sd.n (Nat.le_of_ble_eq_true rfl) (V.quoI rfl rfl (by omega) ?_)
      refine Sd.n (Nat.le_of_ble_eq_true rfl) (V.mv (v := .p (.v (.int .i64 _))) rfl ?_)
      refine Sd.n (Nat.le_of_ble_eq_true rfl) (V.bin (a := (.v (.int .i64 (1)))) (b := (.v (.int .i64 _))) (r := .v (.int .i64 _)) rfl rfl rfl (by first | rfl | omega | (simp; done) | (simp; omega)) ?_)
      refine Sd.n (Nat.le_of_ble_eq_true rfl) (V.subI rfl rfl (by omega) ?_)
      refine Sd.n (Nat.le_of_ble_eq_true rfl) (V.bin (a := (.v (.int .i64 _))) (b := (.v (.int .i64 _))) (r := .v (.int .i64 _)) rfl rfl rfl trivial ?_)
      refine Sd.n (Nat.le_of_ble_eq_true rfl) (V.as (v := .p (.v (.int .i64 _))) rfl ?_)
      refine Sd.e ?_
      show HT _ _ _ _ _
      refine HT.ret ?_
      exact ret_ok (sg []) h rfl rfl rfl trivial ⟨trivial, trivial⟩ rfl ⟨⟨⟨le_int (by first | rfl | (unfold sqF; rw [if_pos (by omega)]; done) | (exact sq_ret (by omega) (by omega)) | (exact sq_ret (by omega) (by omega))), trivial⟩, trivial⟩, trivial⟩
  · have h1 := of_decide_eq_true h1
    refine So.gn (b := true) rfl rfl rfl (Nat.le_of_ble_eq_true rfl) (Nat.le_of_ble_eq_true rfl) ?_
    refine So.n (Nat.le_of_ble_eq_true rfl) (A.v rfl (V.pkTrue (u := .p (.v (.bool true))) rfl rfl ?_))
    refine So.e ?_
    show HT _ _ _ _ _
    refine R.condT rfl ?_
    refine HT.seq ?_
    refine HT.region S_squeeze_ok ?_
    refine So.n (Nat.le_of_ble_eq_true rfl) (A.v rfl (V.as (v := .p (.v (.int .i64 (0)))) rfl ?_))
    refine So.e ?_
    show HT _ _ _ _ _
    refine HT.ret ?_
    exact ret_ok (sg []) h rfl rfl rfl trivial ⟨trivial, trivial⟩ rfl ⟨⟨⟨le_int (by first | rfl | (unfold sqF; rw [if_pos (by omega)]; done) | (exact sq_ret (by omega) (by omega)) | (exact sq_ret (by omega) (by omega))), trivial⟩, trivial⟩, trivial⟩

/-! ### sodality/kpke.Stretch -/
def stretchSp : Sp := ⟨[], mkE (α := Int × Int) (fun (d, n) => [.p (.v (.int .i64 (d))), .p (.v (.int .i64 (n)))]) (fun (d, n) => []) (fun (d, n) => True) (fun (d, n) => [.p (.v (.int .i64 (stF d n)))]) (fun (d, n) => [])⟩
def S_stretch : FuncId → Option Sp := fun f => if f = 21 then some modSp else none
theorem S_stretch_ok : ∀ f s, S_stretch f = some s → FOK Tryd.prog gl f s := fun f s h => by
  unfold S_stretch at h
  split at h
  · rename_i e; cases h; subst e; exact mod_ok
  cases h
theorem S_stretch_det : ∀ f s, S_stretch f = some s → SpDet s.sp := fun f s h => by
  unfold S_stretch at h
  split at h
  · cases h; exact mkE_det _ _ _ _ _
  cases h
set_option maxHeartbeats 1000000 in
set_option maxRecDepth 1000 in
theorem stretch_ok : FOK Tryd.prog gl 14 stretchSp := by
  refine FOK.ofE (tyOf_ok Tryd.prog) (slots := [4]) (nt := 22) Tryd.func14 rfl rfl rfl rfl (by decide) 2 (fun ⟨_, _⟩ => rfl) (by decide) (fun ⟨_, _⟩ => ⟨trivial, trivial, trivial⟩) ?_
  rintro ⟨d, n⟩ kk hlen hpre h
  replace hpre : True := hpre
  show HT (cx Tryd.prog 22 (tyOf Tryd.prog) gl []) _ [(0, .p (.v (.int .i64 (d)))), (1, .p (.v (.int .i64 (n))))] [] _
  refine HT.seq ?_
  refine HT.region S_stretch_ok ?_
  refine So.n (Nat.le_of_ble_eq_true rfl) (A.v rfl (V.as (v := .p (.v (.int .i64 (0)))) rfl ?_))
  refine So.e ?_
  show HT _ _ _ _ _
  refine HT.seq ?_
  refine HT.seq ?_
  refine HT.region S_stretch_ok ?_
  refine So.n (Nat.le_of_ble_eq_true rfl) (A.v rfl (V.mv (v := .p (.v (.int .i64 _))) rfl ?_))
  refine So.n (Nat.le_of_ble_eq_true rfl) (A.v rfl (V.bin (a := (.v (.int .i64 _))) (b := (.v (.int .i64 (1)))) (r := .v (.bool _)) rfl rfl rfl trivial ?_))
  refine So.n (Nat.le_of_ble_eq_true rfl) (A.v rfl (V.mv (v := .p (.v (.bool _))) rfl ?_))
  refine So.gd rfl rfl (Nat.le_of_ble_eq_true rfl) (Nat.le_of_ble_eq_true rfl) (fun h1 => ?_) (fun h1 => ?_)
  · have h1 := of_decide_eq_false h1
    refine A.v rfl (V.mv (v := .p (.v (.int .i64 _))) rfl ?_)
    refine So.gy rfl rfl (Nat.le_of_ble_eq_true rfl) (Nat.le_of_ble_eq_true rfl) ?_
    refine A.v rfl (V.bin (a := (.v (.int .i64 _))) (b := (.v (.int .i64 (11)))) (r := .v (.bool _)) rfl rfl rfl trivial ?_)
    refine So.n (Nat.le_of_ble_eq_true rfl) (A.v rfl (V.pkFalse (u := .p (.v (.bool _))) rfl rfl ?_))
    refine So.e ?_
    show HT _ _ _ _ _
    refine R.cond rfl rfl (fun h2 => ?_) (fun h2 => ?_)
    · have h2 := of_decide_eq_true h2
      refine HT.seq ?_
      refine HT.region S_stretch_ok ?_
      refine So.n (Nat.le_of_ble_eq_true rfl) (A.v rfl (V.as (v := .p (.v (.int .i64 (0)))) rfl ?_))
      refine So.e ?_
      show HT _ _ _ _ _
      refine HT.ret ?_
      exact ret_ok (sg []) h rfl rfl rfl trivial ⟨trivial, trivial⟩ rfl ⟨⟨⟨le_int (by first | rfl | (unfold stF; rw [if_pos (by omega)]; done) | (exact st_ret (by omega) (by omega))), trivial⟩, trivial⟩, trivial⟩
    · have h2 := of_decide_eq_false h2
      refine HT.skip ?_
      show HT _ _ _ _ _
      refine HT.seq ?_
      refine HT.drawn S_stretch_ok S_stretch_det mixed (by kernel_rfl) ?_
      have hsh := st_shl n (by omega) (by omega)
      refine Sd.n (Nat.le_of_ble_eq_true rfl) (V.mv (v := .p (.v (.int .i64 _))) rfl ?_)
      refine Sd.n (Nat.le_of_ble_eq_true rfl) (V.mv (v := .p (.v (.int .i64 _))) rfl ?_)
      refine Sd.n (Nat.le_of_ble_eq_true rfl) (V.bin (a := (.v (.int .i64 (1)))) (b := (.v (.int .i64 _))) (r := .v (.int .i64 _)) rfl rfl rfl (by first | rfl | omega | (simp; done) | (simp; omega)) ?_)
      refine Sd.n (Nat.le_of_ble_eq_true rfl) (V.call [.p (.v (.int .i64 _)), .p (.v (.int .i64 _))] 1 rfl rfl rfl rfl ⟨trivial, trivial, trivial⟩ trivial (_, _) ⟨.refl _, .refl _, trivial⟩ trivial (by first | omega | (simp; omega)) (Φ := fun _ => True) (fun _ _ => trivial) (.inl ⟨trivial, trivial, trivial⟩) (v := .p (.v (.int .i64 _))) rfl (fun h3 => ?_))
      refine Sd.n (Nat.le_of_ble_eq_true rfl) (V.mulI rfl rfl (by omega) ?_)
      refine Sd.n (Nat.le_of_ble_eq_true rfl) (V.mv (v := .p (.v (.int .i64 _))) rfl ?_)
      refine Sd.n (Nat.le_of_ble_eq_true rfl) (V.subI rfl rfl (by omega) ?_)
      refine Sd.n (Nat.le_of_ble_eq_true rfl) (V.bin (a := (.v (.int .i64 (1)))) (b := (.v (.int .i64 _))) (r := .v (.int .i64 _)) rfl rfl rfl (by first | rfl | omega | (simp; done) | (simp; omega)) ?_)
      refine Sd.n (Nat.le_of_ble_eq_true rfl) (V.addI rfl rfl (by omega) ?_)
      refine Sd.n (Nat.le_of_ble_eq_true rfl) (V.mv (v := .p (.v (.int .i64 _))) rfl ?_)
      refine Sd.n (Nat.le_of_ble_eq_true rfl) (V.bin (a := (.v (.int .i64 _))) (b := (.v (.int .i64 _))) (r := .v (.int .i64 _)) rfl rfl rfl (by first | rfl | omega | (simp; done) | (simp; omega)) ?_)
      refine Sd.n (Nat.le_of_ble_eq_true rfl) (V.as (v := .p (.v (.int .i64 _))) rfl ?_)
      refine Sd.e ?_
      show HT _ _ _ _ _
      refine HT.ret ?_
      exact ret_ok (sg []) h rfl rfl rfl trivial ⟨trivial, trivial⟩ rfl ⟨⟨⟨le_int (by first | rfl | (unfold stF; rw [if_pos (by omega)]; done) | (exact st_ret (by omega) (by omega))), trivial⟩, trivial⟩, trivial⟩
  · have h1 := of_decide_eq_true h1
    refine So.gn (b := true) rfl rfl rfl (Nat.le_of_ble_eq_true rfl) (Nat.le_of_ble_eq_true rfl) ?_
    refine So.n (Nat.le_of_ble_eq_true rfl) (A.v rfl (V.pkTrue (u := .p (.v (.bool true))) rfl rfl ?_))
    refine So.e ?_
    show HT _ _ _ _ _
    refine R.condT rfl ?_
    refine HT.seq ?_
    refine HT.region S_stretch_ok ?_
    refine So.n (Nat.le_of_ble_eq_true rfl) (A.v rfl (V.as (v := .p (.v (.int .i64 (0)))) rfl ?_))
    refine So.e ?_
    show HT _ _ _ _ _
    refine HT.ret ?_
    exact ret_ok (sg []) h rfl rfl rfl trivial ⟨trivial, trivial⟩ rfl ⟨⟨⟨le_int (by first | rfl | (unfold stF; rw [if_pos (by omega)]; done) | (exact st_ret (by omega) (by omega))), trivial⟩, trivial⟩, trivial⟩

end Go.Vk

set_option linter.unusedVariables false
set_option linter.unusedSimpArgs false
namespace Go.Vk
open Go Go.Vc Go.Proofs

/-! ### sodality/kpke.Encode -/
def encodeSp : Sp := ⟨[], mkE (α := Int × (Nat → Int)) (fun (d, p) => [.p (.v (.int .i64 (d))), .agg 256 (fun j => .v (.int .i64 (p j)))]) (fun (d, p) => []) (fun (d, p) => True) (fun (d, p) => [.own 2 (0) ((encF d p).length)]) (fun (d, p) => [(2, ⟨5, 1, (encF d p).length, true, .bs (encF d p)⟩)])⟩
def S_encode : FuncId → Option Sp := fun f => if f = 21 then some modSp else none
theorem S_encode_ok : ∀ f s, S_encode f = some s → FOK Tryd.prog gl f s := fun f s h => by
  unfold S_encode at h
  split at h
  · rename_i e; cases h; subst e; exact mod_ok
  cases h
theorem S_encode_det : ∀ f s, S_encode f = some s → SpDet s.sp := fun f s h => by
  unfold S_encode at h
  split at h
  · cases h; exact mkE_det _ _ _ _ _
  cases h
set_option maxHeartbeats 1000000 in
set_option maxRecDepth 20000 in
theorem encode_ok : FOK Tryd.prog gl 11 encodeSp := by
  refine FOK.ofE (tyOf_ok Tryd.prog) (slots := [4]) (nt := 51) Tryd.func11 rfl rfl rfl rfl (by decide) 2 (fun ⟨_, _⟩ => rfl) (by decide) (fun ⟨_, _⟩ => ⟨trivial, trivial, trivial⟩) ?_
  rintro ⟨d, p⟩ kk hlen hpre h
  replace hpre : True := hpre
  show HT (cx Tryd.prog 51 (tyOf Tryd.prog) gl []) _ [(0, .p (.v (.int .i64 (d)))), (1, .agg 256 (fun j => .v (.int .i64 (p j))))] [] _
  refine HT.seq ?_
  refine HT.region S_encode_ok ?_
  refine So.n (Nat.le_of_ble_eq_true rfl) (A.boxAg 1 1 (n := 256) rfl (by intro j hj; first | rfl | trivial | (split <;> first | rfl | trivial | (split <;> first | rfl | trivial))) rfl trivial ?_)
  refine So.n (Nat.le_of_ble_eq_true rfl) (A.v rfl (V.as (v := .p (.v (.slice none 0 0))) rfl ?_))
  refine So.e ?_
  show HT _ _ _ _ _
  refine HT.seq ?_
  refine HT.seq ?_
  refine HT.region S_encode_ok ?_
  refine So.n (Nat.le_of_ble_eq_true rfl) (A.v rfl (V.mv (v := .p (.v (.int .i64 _))) rfl ?_))
  refine So.n (Nat.le_of_ble_eq_true rfl) (A.v rfl (V.bin (a := (.v (.int .i64 _))) (b := (.v (.int .i64 (1)))) (r := .v (.bool _)) rfl rfl rfl trivial ?_))
  refine So.n (Nat.le_of_ble_eq_true rfl) (A.v rfl (V.mv (v := .p (.v (.bool _))) rfl ?_))
  refine So.gd rfl rfl (Nat.le_of_ble_eq_true rfl) (Nat.le_of_ble_eq_true rfl) (fun h1 => ?_) (fun h1 => ?_)
  · have h1 := of_decide_eq_false h1
    refine A.v rfl (V.mv (v := .p (.v (.int .i64 _))) rfl ?_)
    refine So.gy rfl rfl (Nat.le_of_ble_eq_true rfl) (Nat.le_of_ble_eq_true rfl) ?_
    refine A.v rfl (V.bin (a := (.v (.int .i64 _))) (b := (.v (.int .i64 (12)))) (r := .v (.bool _)) rfl rfl rfl trivial ?_)
    refine So.n (Nat.le_of_ble_eq_true rfl) (A.v rfl (V.pkFalse (u := .p (.v (.bool _))) rfl rfl ?_))
    refine So.e ?_
    show HT _ _ _ _ _
    refine R.cond rfl rfl (fun h2 => ?_) (fun h2 => ?_)
    · have h2 := of_decide_eq_true h2
      refine HT.seq ?_
      refine HT.region S_encode_ok ?_
      refine So.n (Nat.le_of_ble_eq_true rfl) (A.v rfl (V.as (v := .p (.v (.slice none 0 0))) rfl ?_))
      refine So.e ?_
      show HT _ _ _ _ _
      refine R.phan 4 2 5 1 (.bs []) rfl rfl rfl ⟨rfl, rfl⟩ ?_
      refine HT.ret ?_
      exact ret_ok (sg [(2, 2)]) h rfl rfl rfl ⟨trivial, trivial⟩ ⟨rfl, trivial⟩ rfl ⟨⟨⟨le_own2 (by first | rfl | omega) (by first | rfl | (unfold encF; rw [if_pos (by omega)] <;> rfl) | (replace hP0 : s = 256 := (by omega); subst hP0; unfold encF; rw [if_neg (by omega), leB_len]) | (replace hP0 : s = 256 := (by omega); subst hP0; unfold encF; rw [if_neg (by omega)])), rfl⟩, trivial⟩, ⟨⟨_, rfl, .inl (ob_bs (by first | rfl | ((try dsimp only); (first | rfl | (unfold encF; rw [if_pos (by omega)] <;> rfl) | (replace hP0 : s = 256 := (by omega); subst hP0; unfold encF; rw [if_neg (by omega), leB_len]) | (replace hP0 : s = 256 := (by omega); subst hP0; unfold encF; rw [if_neg (by omega)])))) (by first | rfl | ((try dsimp only); (first | rfl | (unfold encF; rw [if_pos (by omega)] <;> rfl) | (replace hP0 : s = 256 := (by omega); subst hP0; unfold encF; rw [if_neg (by omega), leB_len]) | (replace hP0 : s = 256 := (by omega); subst hP0; unfold encF; rw [if_neg (by omega)]))))), trivial⟩, trivial⟩⟩
    · have h2 := of_decide_eq_false h2
      refine HT.skip ?_
      show HT _ _ _ _ _
      refine HT.seq ?_
      refine HT.region S_encode_ok ?_
      have hmo := mOf_b (d := d) (by omega) (by omega)
      refine So.n (Nat.le_of_ble_eq_true rfl) (A.v rfl (V.mv (v := .p (.v (.int .i64 _))) rfl ?_))
      refine So.n (Nat.le_of_ble_eq_true rfl) (A.v rfl (V.bin (a := (.v (.int .i64 (1)))) (b := (.v (.int .i64 _))) (r := .v (.int .i64 _)) rfl rfl rfl (by first | rfl | omega | (simp; done) | (simp; omega)) ?_))
      refine So.n (Nat.le_of_ble_eq_true rfl) (A.v rfl (V.as (v := .p (.v (.int .i64 _))) rfl ?_))
      refine So.e ?_
      show HT _ _ _ _ _
      refine R.cut (True) [(5, .p (.v (.int .i64 (mOf d))))] [] [0, 3, 4] [1] (fr0 := [(0, .p (.v (.int .i64 _))), (3, .ptr 1 0), (4, .p (.v (.slice none 0 0)))]) (O0 := [(1, ⟨_, _, _, _, .rows _⟩)]) rfl rfl ?_ (fun hphi => ?_)
      · refine HT.seq ?_
        refine HT.region S_encode_ok ?_
        refine So.n (Nat.le_of_ble_eq_true rfl) (A.v rfl (V.mv (v := .p (.v (.int .i64 _))) rfl ?_))
        refine So.n (Nat.le_of_ble_eq_true rfl) (A.v rfl (V.bin (a := (.v (.int .i64 _))) (b := (.v (.int .i64 (12)))) (r := .v (.bool _)) rfl rfl rfl trivial ?_))
        refine So.e ?_
        show HT _ _ _ _ _
        refine R.cond rfl rfl (fun h3 => ?_) (fun h3 => ?_)
        · have h3 := of_decide_eq_true h3
          refine HT.region S_encode_ok ?_
          refine So.n (Nat.le_of_ble_eq_true rfl) (A.v rfl (V.as (v := .p (.v (.int .i64 (3329)))) rfl ?_))
          refine So.e ?_
          exact ⟨by first | trivial | rfl | (unfold mOf; rw [if_pos (by omega)]; done) | (unfold mOf; rw [if_neg (by omega)]; exact hmo.2.2.2.1), ⟨⟨⟨le_int (by first | trivial | rfl | (unfold mOf; rw [if_pos (by omega)]; done) | (unfold mOf; rw [if_neg (by omega)]; exact hmo.2.2.2.1)), trivial⟩, ⟨.refl _, trivial⟩, ⟨.refl _, rfl⟩, ⟨.refl _, trivial⟩, trivial⟩, ⟨⟨_, rfl, .inl rfl, trivial⟩, trivial⟩⟩⟩
        · have h3 := of_decide_eq_false h3
          refine HT.skip ?_
          exact ⟨by first | trivial | rfl | (unfold mOf; rw [if_pos (by omega)]; done) | (unfold mOf; rw [if_neg (by omega)]; exact hmo.2.2.2.1), ⟨⟨⟨le_int (by first | trivial | rfl | (unfold mOf; rw [if_pos (by omega)]; done) | (unfold mOf; rw [if_neg (by omega)]; exact hmo.2.2.2.1)), trivial⟩, ⟨.refl _, trivial⟩, ⟨.refl _, rfl⟩, ⟨.refl _, trivial⟩, trivial⟩, ⟨⟨_, rfl, .inl rfl, trivial⟩, trivial⟩⟩⟩
      · refine HT.seq ?_
        refine HT.region S_encode_ok ?_
        refine So.n (Nat.le_of_ble_eq_true rfl) (A.v rfl (V.mv (v := .p (.v (.int .i64 _))) rfl ?_))
        refine So.n (Nat.le_of_ble_eq_true rfl) (A.v rfl (V.mulI rfl rfl (by omega) ?_))
        refine So.n (Nat.le_of_ble_eq_true rfl) (A.mkB 2 ty22 ty5 rfl rfl rfl (by omega) rfl rfl trivial ?_)
        refine So.n (Nat.le_of_ble_eq_true rfl) (A.v rfl (V.as (v := .own 2 0 _) rfl ?_))
        refine So.e ?_
        show HT _ _ _ _ _
        refine HT.seq ?_
        refine HT.region S_encode_ok ?_
        refine So.n (Nat.le_of_ble_eq_true rfl) (A.v rfl (V.as (v := .p (.v (.int .i64 (0)))) rfl ?_))
        refine So.n (Nat.le_of_ble_eq_true rfl) (A.v rfl (V.as (v := .p (.v (.int .i64 (0)))) rfl ?_))
        refine So.e ?_
        show HT _ _ _ _ _
        refine HT.seq ?_
        refine HT.seq ?_
        refine HT.region S_encode_ok ?_
        refine So.n (Nat.le_of_ble_eq_true rfl) (A.v rfl (V.ldPtrA ty25 rfl rfl rfl rfl (by first | rfl | omega | (simp; done) | (simp; omega)) ?_))
        refine So.n (Nat.le_of_ble_eq_true rfl) (A.v rfl (V.mv (v := .p (.v (.int .i64 (0)))) rfl ?_))
        refine So.e ?_
        show HT _ _ _ _ _
        refine HT.block ?_
        refine R.loop (σ := Nat) (fun s => [(6, .own 2 (0) (d.toNat * s / 8)), (7, .p (.v (.int .i64 ((((encV d.toNat (cof d p) s) / 2 ^ (8 * (d.toNat * s / 8)) : Nat) : Int))))), (8, .p (.v (.int .i64 (((d.toNat * s - 8 * (d.toNat * s / 8) : Nat) : Int))))), (25, .p (.v (.int .i64 ((s : Int)))))]) (fun s => [(2, ⟨5, 1, d.toNat * s / 8, true, .bs (leB (encV d.toNat (cof d p) s) (d.toNat * s / 8))⟩)]) [0, 4, 5, 24] [1] (fun s => s ≤ 256) (fun s => 256 - s) (0) (fr0 := [(0, .p (.v (.int .i64 _))), (4, .p (.v (.slice none 0 0))), (5, .p (.v (.int .i64 _))), (24, .agg 256 _)]) (O0 := [(1, ⟨_, _, _, _, .rows _⟩)]) rfl rfl (by first | rfl | omega | (simp; done) | (simp; omega)) ⟨⟨⟨le_own2 (by first | rfl | omega) (by first | rfl | (simp; done) | (simp [encV]; done) | (simp [encV, leB]; done)), rfl⟩, ⟨le_int (by first | rfl | (simp; done) | (simp [encV]; done) | (simp [encV, leB]; done)), trivial⟩, ⟨le_int (by first | rfl | (simp; done) | (simp [encV]; done) | (simp [encV, leB]; done)), trivial⟩, ⟨le_int (by first | rfl | (simp; done) | (simp [encV]; done) | (simp [encV, leB]; done)), trivial⟩, ⟨.refl _, trivial⟩, ⟨.refl _, trivial⟩, ⟨.refl _, trivial⟩, ⟨.refl _, trivial⟩, trivial⟩, ⟨⟨_, rfl, .inl (ob_bs (by first | rfl | ((try dsimp only); first | rfl | (simp; done) | (simp [encV]; done) | (simp [encV, leB]; done))) (by first | rfl | ((try dsimp only); first | rfl | (simp; done) | (simp [encV]; done) | (simp [encV, leB]; done)))), trivial⟩, ⟨_, rfl, .inl rfl, trivial⟩, trivial⟩⟩ (fun s hP0 => ?_)
        have hD : d.toNat * (s + 1) = d.toNat * s + d.toNat := Nat.mul_succ _ _
        have hDs : d.toNat * (s + 1) ≤ 12 * 257 := Nat.mul_le_mul (by omega) (by omega)
        refine HT.seq ?_
        refine HT.region S_encode_ok ?_
        refine So.n (Nat.le_of_ble_eq_true rfl) (A.v rfl (V.bin (a := (.v (.int .i64 ((_ : Nat) : Int)))) (b := (.v (.int .i64 (256)))) (r := .v (.bool _)) rfl rfl rfl trivial ?_))
        refine So.e ?_
        show HT _ _ _ _ _
        refine HT.seq ?_
        refine R.cond rfl rfl (fun h4 => ?_) (fun h4 => ?_)
        · have h4 := of_decide_eq_true h4
          refine HT.skip ?_
          show HT _ _ _ _ _
          refine HT.seq ?_
          refine HT.block ?_
          refine HT.seq ?_
          refine HT.region S_encode_ok ?_
          refine So.n (Nat.le_of_ble_eq_true rfl) (A.v rfl (V.ixV1 ty25 ty3 rfl rfl rfl rfl (by omega) (Nat.le_of_ble_eq_true rfl) (Int.toNat_natCast _) (v := (.v (.int .i64 _))) rfl ?_))
          refine So.n (Nat.le_of_ble_eq_true rfl) (A.v rfl (V.as (v := .p (.v (.int .i64 _))) rfl ?_))
          refine So.e ?_
          show HT _ _ _ _ _
          refine HT.seq ?_
          refine HT.region S_encode_ok ?_
          refine So.n (Nat.le_of_ble_eq_true rfl) (A.v rfl (V.mv (v := .p (.v (.int .i64 _))) rfl ?_))
          refine So.n (Nat.le_of_ble_eq_true rfl) (A.v rfl (V.mv (v := .p (.v (.int .i64 _))) rfl ?_))
          refine So.n (Nat.le_of_ble_eq_true rfl) (A.v rfl (V.mv (v := .p (.v (.int .i64 _))) rfl ?_))
          refine So.n (Nat.le_of_ble_eq_true rfl) (A.call0 [.p (.v (.int .i64 _)), .p (.v (.int .i64 _))] 3 rfl rfl rfl rfl ⟨trivial, trivial, trivial⟩ trivial (_, _) ⟨.refl _, .refl _, trivial⟩ trivial (by first | omega | (simp; omega)) (Φ := fun _ => True) (fun _ _ => trivial) (.inl rfl) (v := .p (.v (.int .i64 _))) rfl (O' := _) rfl (fun h5 => ?_))
          refine So.n (Nat.le_of_ble_eq_true rfl) (A.v rfl (V.mv (v := .p (.v (.int .i64 _))) rfl ?_))
          refine So.n (Nat.le_of_ble_eq_true rfl) (A.v rfl (V.bin (a := (.v (.int .i64 _))) (b := (.v (.int .i64 _))) (r := .v (.int .i64 _)) rfl rfl rfl (by first | rfl | omega | (simp; done) | (simp; omega)) ?_))
          refine So.n (Nat.le_of_ble_eq_true rfl) (A.v rfl (V.bin (a := (.v (.int .i64 _))) (b := (.v (.int .i64 _))) (r := .v (.int .i64 _)) rfl rfl rfl trivial ?_))
          refine So.n (Nat.le_of_ble_eq_true rfl) (A.v rfl (V.as (v := .p (.v (.int .i64 _))) rfl ?_))
          refine So.e ?_
          show HT _ _ _ _ _
          refine HT.seq ?_
          refine HT.region S_encode_ok ?_
          refine So.n (Nat.le_of_ble_eq_true rfl) (A.v rfl (V.mv (v := .p (.v (.int .i64 _))) rfl ?_))
          refine So.n (Nat.le_of_ble_eq_true rfl) (A.v rfl (V.mv (v := .p (.v (.int .i64 _))) rfl ?_))
          refine So.n (Nat.le_of_ble_eq_true rfl) (A.v rfl (V.addI rfl rfl (by omega) ?_))
          refine So.n (Nat.le_of_ble_eq_true rfl) (A.v rfl (V.as (v := .p (.v (.int .i64 _))) rfl ?_))
          refine So.e ?_
          show HT _ _ _ _ _
          refine HT.block ?_
          refine R.loop (σ := Nat) (fun r => [(6, .own 2 (0) (d.toNat * s / 8 + r)), (7, .p (.v (.int .i64 ((((encV d.toNat (cof d p) (s + 1)) / 2 ^ (8 * (d.toNat * s / 8 + r)) : Nat) : Int))))), (8, .p (.v (.int .i64 (((d.toNat * (s + 1) - 8 * (d.toNat * s / 8 + r) : Nat) : Int)))))]) (fun r => [(2, ⟨5, 1, d.toNat * s / 8 + r, true, .bs (leB (encV d.toNat (cof d p) (s + 1)) (d.toNat * s / 8 + r))⟩)]) [0, 4, 5, 10, 24, 25, 26, 27, 28, 29, 30, 31, 32, 33, 34, 35, 36, 37] [1] (fun r => 8 * (d.toNat * s / 8 + r) ≤ d.toNat * (s + 1)) (fun r => d.toNat * (s + 1) - 8 * (d.toNat * s / 8 + r)) (0) (fr0 := [(0, .p (.v (.int .i64 _))), (4, .p (.v (.slice none 0 0))), (5, .p (.v (.int .i64 _))), (10, .p (.v (.int .i64 _))), (24, .agg 256 _), (25, .p (.v (.int .i64 ((_ : Nat) : Int)))), (26, .p (.v (.bool true))), (27, .p (.v (.int .i64 _))), (28, .p (.v (.int .i64 _))), (29, .p (.v (.int .i64 _))), (30, .p (.v (.int .i64 _))), (31, .p (.v (.int .i64 _))), (32, .p (.v (.int .i64 _))), (33, .p (.v (.int .i64 _))), (34, .p (.v (.int .i64 _))), (35, .p (.v (.int .i64 _))), (36, .p (.v (.int .i64 _))), (37, .p (.v (.int .i64 _)))]) (O0 := [(1, ⟨_, _, _, _, .rows _⟩)]) rfl rfl (by first | rfl | omega | (simp; done) | (simp; omega)) ⟨⟨⟨le_own2 (by first | rfl | omega) (by first | rfl | omega | (rw [Nat.zero_add]; exact enc_or p (by omega) (by omega)) | (exact leB_low p s)), rfl⟩, ⟨le_int (by first | rfl | omega | (rw [Nat.zero_add]; exact enc_or p (by omega) (by omega)) | (exact leB_low p s)), trivial⟩, ⟨le_int (by first | rfl | omega | (rw [Nat.zero_add]; exact enc_or p (by omega) (by omega)) | (exact leB_low p s)), trivial⟩, ⟨.refl _, trivial⟩, ⟨.refl _, trivial⟩, ⟨.refl _, trivial⟩, ⟨.refl _, trivial⟩, ⟨.refl _, trivial⟩, ⟨.refl _, trivial⟩, ⟨.refl _, trivial⟩, ⟨.refl _, trivial⟩, ⟨.refl _, trivial⟩, ⟨.refl _, trivial⟩, ⟨.refl _, trivial⟩, ⟨.refl _, trivial⟩, ⟨.refl _, trivial⟩, ⟨.refl _, trivial⟩, ⟨.refl _, trivial⟩, ⟨.refl _, trivial⟩, ⟨.refl _, trivial⟩, ⟨.refl _, trivial⟩, trivial⟩, ⟨⟨_, rfl, .inl (ob_bs (by first | rfl | ((try dsimp only); first | rfl | omega | (rw [Nat.zero_add]; exact enc_or p (by omega) (by omega)) | (exact leB_low p s))) (by first | rfl | ((try dsimp only); first | rfl | omega | (rw [Nat.zero_add]; exact enc_or p (by omega) (by omega)) | (exact leB_low p s)))), trivial⟩, ⟨_, rfl, .inl rfl, trivial⟩, trivial⟩⟩ (fun r hP1 => ?_)
          refine HT.seq ?_
          refine HT.seq ?_
          refine HT.region S_encode_ok ?_
          refine So.n (Nat.le_of_ble_eq_true rfl) (A.v rfl (V.mv (v := .p (.v (.int .i64 _))) rfl ?_))
          refine So.n (Nat.le_of_ble_eq_true rfl) (A.v rfl (V.bin (a := (.v (.int .i64 _))) (b := (.v (.int .i64 (8)))) (r := .v (.bool _)) rfl rfl rfl trivial ?_))
          refine So.e ?_
          show HT _ _ _ _ _
          refine R.cond rfl rfl (fun h6 => ?_) (fun h6 => ?_)
          · have h6 := of_decide_eq_true h6
            refine HT.skip ?_
            show HT _ _ _ _ _
            refine HT.seq ?_
            refine HT.block ?_
            refine HT.seq ?_
            refine HT.region S_encode_ok ?_
            refine So.n (Nat.le_of_ble_eq_true rfl) (A.v rfl (V.mv (v := .own 2 0 _) rfl ?_))
            refine So.n (Nat.le_of_ble_eq_true rfl) (A.v rfl (V.mv (v := .p (.v (.int .i64 _))) rfl ?_))
            refine So.n (Nat.le_of_ble_eq_true rfl) (A.v rfl (V.cvN ty5 ty3 (a := (.v (.int .i64 _))) (r := (.u8 _)) rfl rfl ?_))
            refine So.n (Nat.le_of_ble_eq_true rfl) (A.bsl 3 ty22 ty5 rfl (Nat.le_of_ble_eq_true rfl) (Nat.le_of_ble_eq_true rfl) (fun _ => rfl) rfl rfl trivial ⟨trivial, trivial⟩ rfl (N := 1) rfl (c := .bs [_]) rfl ?_)
            refine So.n (Nat.le_of_ble_eq_true rfl) (A.apOwn ty22 ty5 rfl rfl rfl rfl (u := .own 3 0 _) rfl rfl rfl rfl (by first | rfl | omega | (simp; done) | (simp; omega)) rfl rfl rfl ?_)
            refine So.n (Nat.le_of_ble_eq_true rfl) (A.v rfl (V.as (v := .own 2 0 _) rfl ?_))
            refine So.e ?_
            show HT _ _ _ _ _
            refine HT.region S_encode_ok ?_
            refine So.n (Nat.le_of_ble_eq_true rfl) (A.v rfl (V.mv (v := .p (.v (.int .i64 _))) rfl ?_))
            refine So.n (Nat.le_of_ble_eq_true rfl) (A.v rfl (V.shrI (n := 8) (M := 256) rfl rfl rfl (by decide) ?_))
            refine So.n (Nat.le_of_ble_eq_true rfl) (A.v rfl (V.as (v := .p (.v (.int .i64 _))) rfl ?_))
            refine So.e ?_
            show HT _ _ _ _ _
            refine HT.region S_encode_ok ?_
            refine So.n (Nat.le_of_ble_eq_true rfl) (A.v rfl (V.mv (v := .p (.v (.int .i64 _))) rfl ?_))
            refine So.n (Nat.le_of_ble_eq_true rfl) (A.v rfl (V.subI rfl rfl (by omega) ?_))
            refine So.n (Nat.le_of_ble_eq_true rfl) (A.v rfl (V.as (v := .p (.v (.int .i64 _))) rfl ?_))
            refine So.e ?_
            refine ⟨r + 1, by first | rfl | omega | (simp; done) | (simp; omega), by omega, ⟨⟨⟨le_own2 (by first | rfl | omega) (by first | rfl | omega | (simp; done) | (simp; omega)), rfl⟩, ⟨le_int (by exact enc_shr), trivial⟩, ⟨le_int (by first | rfl | omega | (simp; done) | (simp; omega)), trivial⟩, ⟨.refl _, trivial⟩, ⟨.refl _, trivial⟩, ⟨.refl _, trivial⟩, ⟨.refl _, trivial⟩, ⟨.refl _, trivial⟩, ⟨.refl _, trivial⟩, ⟨.refl _, trivial⟩, ⟨.refl _, trivial⟩, ⟨.refl _, trivial⟩, ⟨.refl _, trivial⟩, ⟨.refl _, trivial⟩, ⟨.refl _, trivial⟩, ⟨.refl _, trivial⟩, ⟨.refl _, trivial⟩, ⟨.refl _, trivial⟩, ⟨.refl _, trivial⟩, ⟨.refl _, trivial⟩, ⟨.refl _, trivial⟩, trivial⟩, ⟨⟨_, rfl, .inl (ob_bs (by first | rfl | ((try dsimp only); first | rfl | omega | (rw [List.drop_zero, List.take_of_length_le (by rw [leB_len]; omega)]; exact leB_snoc))) (by first | rfl | ((try dsimp only); first | rfl | omega | (rw [List.drop_zero, List.take_of_length_le (by rw [leB_len]; omega)]; exact leB_snoc)))), trivial⟩, ⟨_, rfl, .inl rfl, trivial⟩, trivial⟩⟩⟩
          · have h6 := of_decide_eq_false h6
            refine HT.exit ?_
            show HT _ _ _ _ _
            refine HT.region S_encode_ok ?_
            refine So.n (Nat.le_of_ble_eq_true rfl) (A.v rfl (V.addI rfl rfl (by omega) ?_))
            refine So.n (Nat.le_of_ble_eq_true rfl) (A.v rfl (V.mv (v := .p (.v (.int .i64 _))) rfl ?_))
            refine So.e ?_
            have hk : d.toNat * (s + 1) / 8 = d.toNat * s / 8 + r := by omega
            refine ⟨s + 1, by first | rfl | omega | (simp; done) | (simp; omega), by omega, ⟨⟨⟨le_own2 (by first | rfl | omega) (by omega), rfl⟩, ⟨le_int (by rw [hk]), trivial⟩, ⟨le_int (by (first | omega | (rw [hk]))), trivial⟩, ⟨le_int (by first | rfl | omega | (simp; done) | (simp; omega)), trivial⟩, ⟨.refl _, trivial⟩, ⟨.refl _, trivial⟩, ⟨.refl _, trivial⟩, ⟨.refl _, trivial⟩, trivial⟩, ⟨⟨_, rfl, .inl (ob_bs (by first | rfl | ((try dsimp only); first | omega | (rw [hk]))) (by first | rfl | ((try dsimp only); first | omega | (rw [hk])))), trivial⟩, ⟨_, rfl, .inl rfl, trivial⟩, trivial⟩⟩⟩
        · have h4 := of_decide_eq_false h4
          refine HT.exit ?_
          show HT _ _ _ _ _
          refine HT.seq ?_
          refine HT.region S_encode_ok ?_
          refine So.n (Nat.le_of_ble_eq_true rfl) (A.v rfl (V.mv (v := .own 2 0 _) rfl ?_))
          refine So.n (Nat.le_of_ble_eq_true rfl) (A.v rfl (V.as (v := .own 2 0 _) rfl ?_))
          refine So.e ?_
          show HT _ _ _ _ _
          refine HT.ret ?_
          exact ret_ok (sg [(2, 2)]) h rfl rfl rfl ⟨trivial, trivial⟩ ⟨rfl, trivial⟩ rfl ⟨⟨⟨le_own2 (by first | rfl | omega) (by first | rfl | (unfold encF; rw [if_pos (by omega)] <;> rfl) | (replace hP0 : s = 256 := (by omega); subst hP0; unfold encF; rw [if_neg (by omega), leB_len]) | (replace hP0 : s = 256 := (by omega); subst hP0; unfold encF; rw [if_neg (by omega)])), rfl⟩, trivial⟩, ⟨⟨_, rfl, .inl (ob_bs (by first | rfl | ((try dsimp only); (first | rfl | (unfold encF; rw [if_pos (by omega)] <;> rfl) | (replace hP0 : s = 256 := (by omega); subst hP0; unfold encF; rw [if_neg (by omega), leB_len]) | (replace hP0 : s = 256 := (by omega); subst hP0; unfold encF; rw [if_neg (by omega)])))) (by first | rfl | ((try dsimp only); (first | rfl | (unfold encF; rw [if_pos (by omega)] <;> rfl) | (replace hP0 : s = 256 := (by omega); subst hP0; unfold encF; rw [if_neg (by omega), leB_len]) | (replace hP0 : s = 256 := (by omega); subst hP0; unfold encF; rw [if_neg (by omega)]))))), trivial⟩, trivial⟩⟩
  · have h1 := of_decide_eq_true h1
    refine So.gn (b := true) rfl rfl rfl (Nat.le_of_ble_eq_true rfl) (Nat.le_of_ble_eq_true rfl) ?_
    refine So.n (Nat.le_of_ble_eq_true rfl) (A.v rfl (V.pkTrue (u := .p (.v (.bool true))) rfl rfl ?_))
    refine So.e ?_
    show HT _ _ _ _ _
    refine R.condT rfl ?_
    refine HT.seq ?_
    refine HT.region S_encode_ok ?_
    refine So.n (Nat.le_of_ble_eq_true rfl) (A.v rfl (V.as (v := .p (.v (.slice none 0 0))) rfl ?_))
    refine So.e ?_
    show HT _ _ _ _ _
    refine R.phan 4 2 5 1 (.bs []) rfl rfl rfl ⟨rfl, rfl⟩ ?_
    refine HT.ret ?_
    exact ret_ok (sg [(2, 2)]) h rfl rfl rfl ⟨trivial, trivial⟩ ⟨rfl, trivial⟩ rfl ⟨⟨⟨le_own2 (by first | rfl | omega) (by first | rfl | (unfold encF; rw [if_pos (by omega)] <;> rfl) | (replace hP0 : s = 256 := (by omega); subst hP0; unfold encF; rw [if_neg (by omega), leB_len]) | (replace hP0 : s = 256 := (by omega); subst hP0; unfold encF; rw [if_neg (by omega)])), rfl⟩, trivial⟩, ⟨⟨_, rfl, .inl (ob_bs (by first | rfl | ((try dsimp only); (first | rfl | (unfold encF; rw [if_pos (by omega)] <;> rfl) | (replace hP0 : s = 256 := (by omega); subst hP0; unfold encF; rw [if_neg (by omega), leB_len]) | (replace hP0 : s = 256 := (by omega); subst hP0; unfold encF; rw [if_neg (by omega)])))) (by first | rfl | ((try dsimp only); (first | rfl | (unfold encF; rw [if_pos (by omega)] <;> rfl) | (replace hP0 : s = 256 := (by omega); subst hP0; unfold encF; rw [if_neg (by omega), leB_len]) | (replace hP0 : s = 256 := (by omega); subst hP0; unfold encF; rw [if_neg (by omega)]))))), trivial⟩, trivial⟩⟩

end Go.Vk

set_option linter.unusedVariables false
set_option linter.unusedSimpArgs false
namespace Go.Vk
open Go Go.Vc Go.Proofs

/-! ### sodality/kpke.Decode -/
def decodeSp : Sp := ⟨[], mkE (α := Int × (List UInt8)) (fun (d, b) => [.p (.v (.int .i64 (d))), .p (.bs (b))]) (fun (d, b) => []) (fun (d, b) => True) (fun (d, b) => [.agg 256 (fun j => .v (.int .i64 ((decF d b).1 j))), .p (.v (.int .i64 ((decF d b).2)))]) (fun (d, b) => [])⟩
def S_decode : FuncId → Option Sp := fun _ => none
theorem S_decode_ok : ∀ f s, S_decode f = some s → FOK Tryd.prog gl f s := fun f s h => by cases h
theorem S_decode_det : ∀ f s, S_decode f = some s → SpDet s.sp := fun f s h => by cases h
set_option maxHeartbeats 1000000 in
set_option maxRecDepth 20000 in
theorem decode_ok : FOK Tryd.prog gl 12 decodeSp := by
  refine FOK.ofEC (tyOf_ok Tryd.prog) (rvs := [.cell 4 25, .tmp 5]) (nt := 63) Tryd.func12 rfl rfl rfl rfl (by decide) 2 (fun ⟨_, _⟩ => rfl) (by decide) (fun ⟨_, _⟩ => ⟨trivial, trivial, trivial⟩) ?_
  rintro ⟨d, b⟩ kk hlen hpre h
  have hl1 : (b).length ≤ 9223372036854775807 := hlen.2.1
  replace hpre : True := hpre
  show HT (cx Tryd.prog 63 (tyOf Tryd.prog) gl []) _ [(0, .p (.v (.int .i64 (d)))), (1, .p (.bs (b)))] [] _
  refine HT.seq ?_
  refine HT.region S_decode_ok ?_
  refine So.n (Nat.le_of_ble_eq_true rfl) (A.alloc 1 1 ty25 rfl trivial (f := fun _ => .v (.int .i64 0)) (fun _ _ => rfl) ?_)
  refine So.n (Nat.le_of_ble_eq_true rfl) (A.v rfl (V.as (v := .p (.v (.int .i64 (0)))) rfl ?_))
  refine So.e ?_
  show HT _ _ _ _ _
  refine HT.seq ?_
  refine HT.block ?_
  refine HT.seq ?_
  refine HT.seq ?_
  refine HT.region S_decode_ok ?_
  refine So.n (Nat.le_of_ble_eq_true rfl) (A.v rfl (V.mv (v := .p (.v (.int .i64 _))) rfl ?_))
  refine So.n (Nat.le_of_ble_eq_true rfl) (A.v rfl (V.bin (a := (.v (.int .i64 _))) (b := (.v (.int .i64 (1)))) (r := .v (.bool _)) rfl rfl rfl trivial ?_))
  refine So.n (Nat.le_of_ble_eq_true rfl) (A.v rfl (V.as (v := .p (.v (.bool _))) rfl ?_))
  refine So.e ?_
  show HT _ _ _ _ _
  refine R.cond rfl rfl (fun h1 => ?_) (fun h1 => ?_)
  · have h1 := of_decide_eq_true h1
    refine HT.skip ?_
    show HT _ _ _ _ _
    refine R.condT rfl ?_
    refine HT.seq ?_
    refine HT.region S_decode_ok ?_
    refine So.n (Nat.le_of_ble_eq_true rfl) (A.bld0 ty25 rfl rfl rfl (f := fun _ => .v (.int .i64 0)) (fun _ _ => rfl) ?_)
    refine So.s (A.stoAg ty25 rfl (n := 256) rfl (by decide) (by intro j hj; first | rfl | trivial) rfl rfl rfl ?_)
    refine So.n (Nat.le_of_ble_eq_true rfl) (A.v rfl (V.as (v := .p (.v (.int .i64 (1)))) rfl ?_))
    refine So.e ?_
    show HT _ _ _ _ _
    refine HT.ret ?_
    exact retC_ok (sg []) [(4, .ptr 1 0), (5, .p (.v (.int .i64 ((decF d b).2))))] [(1, ⟨25, 1, 256, true, .rows (fun j => .v (.int .i64 ((decF d b).1 j)))⟩)] h ⟨⟨⟨.refl _, rfl⟩, ⟨le_int (by first | rfl | (unfold decF; rw [if_pos (by omega)] <;> rfl) | (unfold decF; rw [if_neg (by omega), if_pos (by omega)] <;> rfl) | (unfold decF; rw [if_neg (show ¬ (d < 1 ∨ 12 < d) by omega), if_neg (show ¬ ((b.length : Int) ≠ 32 * d) by omega)] <;> rfl) | (unfold decF; rw [if_neg (show ¬ (d < 1 ∨ 12 < d) by omega), if_neg (show ¬ ((b.length : Int) ≠ 32 * d) by omega), Nat.zero_add, if_pos (show j < s by omega)])), trivial⟩, trivial⟩, ⟨⟨_, rfl, .inr (ob_rows rfl (by intro j hj; first | rfl | ((try dsimp only); (first | rfl | (unfold decF; rw [if_pos (by omega)] <;> rfl) | (unfold decF; rw [if_neg (by omega), if_pos (by omega)] <;> rfl) | (unfold decF; rw [if_neg (show ¬ (d < 1 ∨ 12 < d) by omega), if_neg (show ¬ ((b.length : Int) ≠ 32 * d) by omega)] <;> rfl) | (unfold decF; rw [if_neg (show ¬ (d < 1 ∨ 12 < d) by omega), if_neg (show ¬ ((b.length : Int) ≠ 32 * d) by omega), Nat.zero_add, if_pos (show j < s by omega)]))))), trivial⟩, trivial⟩⟩ ⟨rvA_cell ty25 rfl rfl rfl rfl (Nat.le_refl _) (le_agg (fun j _ => by first | rfl | (dsimp only; rw [Nat.zero_add]))), .refl _, trivial⟩ trivial rfl trivial ⟨trivial, trivial, trivial⟩ rfl
  · have h1 := of_decide_eq_false h1
    refine HT.region S_decode_ok ?_
    refine So.n (Nat.le_of_ble_eq_true rfl) (A.v rfl (V.mv (v := .p (.v (.int .i64 _))) rfl ?_))
    refine So.n (Nat.le_of_ble_eq_true rfl) (A.v rfl (V.bin (a := (.v (.int .i64 _))) (b := (.v (.int .i64 (12)))) (r := .v (.bool _)) rfl rfl rfl trivial ?_))
    refine So.n (Nat.le_of_ble_eq_true rfl) (A.v rfl (V.as (v := .p (.v (.bool _))) rfl ?_))
    refine So.e ?_
    show HT _ _ _ _ _
    refine R.cond rfl rfl (fun h2 => ?_) (fun h2 => ?_)
    · have h2 := of_decide_eq_true h2
      refine HT.seq ?_
      refine HT.region S_decode_ok ?_
      refine So.n (Nat.le_of_ble_eq_true rfl) (A.bld0 ty25 rfl rfl rfl (f := fun _ => .v (.int .i64 0)) (fun _ _ => rfl) ?_)
      refine So.s (A.stoAg ty25 rfl (n := 256) rfl (by decide) (by intro j hj; first | rfl | trivial) rfl rfl rfl ?_)
      refine So.n (Nat.le_of_ble_eq_true rfl) (A.v rfl (V.as (v := .p (.v (.int .i64 (1)))) rfl ?_))
      refine So.e ?_
      show HT _ _ _ _ _
      refine HT.ret ?_
      exact retC_ok (sg []) [(4, .ptr 1 0), (5, .p (.v (.int .i64 ((decF d b).2))))] [(1, ⟨25, 1, 256, true, .rows (fun j => .v (.int .i64 ((decF d b).1 j)))⟩)] h ⟨⟨⟨.refl _, rfl⟩, ⟨le_int (by first | rfl | (unfold decF; rw [if_pos (by omega)] <;> rfl) | (unfold decF; rw [if_neg (by omega), if_pos (by omega)] <;> rfl) | (unfold decF; rw [if_neg (show ¬ (d < 1 ∨ 12 < d) by omega), if_neg (show ¬ ((b.length : Int) ≠ 32 * d) by omega)] <;> rfl) | (unfold decF; rw [if_neg (show ¬ (d < 1 ∨ 12 < d) by omega), if_neg (show ¬ ((b.length : Int) ≠ 32 * d) by omega), Nat.zero_add, if_pos (show j < s by omega)])), trivial⟩, trivial⟩, ⟨⟨_, rfl, .inr (ob_rows rfl (by intro j hj; first | rfl | ((try dsimp only); (first | rfl | (unfold decF; rw [if_pos (by omega)] <;> rfl) | (unfold decF; rw [if_neg (by omega), if_pos (by omega)] <;> rfl) | (unfold decF; rw [if_neg (show ¬ (d < 1 ∨ 12 < d) by omega), if_neg (show ¬ ((b.length : Int) ≠ 32 * d) by omega)] <;> rfl) | (unfold decF; rw [if_neg (show ¬ (d < 1 ∨ 12 < d) by omega), if_neg (show ¬ ((b.length : Int) ≠ 32 * d) by omega), Nat.zero_add, if_pos (show j < s by omega)]))))), trivial⟩, trivial⟩⟩ ⟨rvA_cell ty25 rfl rfl rfl rfl (Nat.le_refl _) (le_agg (fun j _ => by first | rfl | (dsimp only; rw [Nat.zero_add]))), .refl _, trivial⟩ trivial rfl trivial ⟨trivial, trivial, trivial⟩ rfl
    · have h2 := of_decide_eq_false h2
      refine HT.seq ?_
      refine HT.region S_decode_ok ?_
      refine So.n (Nat.le_of_ble_eq_true rfl) (A.v rfl (V.mv (v := .p (.bs _)) rfl ?_))
      refine So.n (Nat.le_of_ble_eq_true rfl) (A.v rfl (V.len ty22 (v := .p (.bs _)) rfl rfl ?_))
      refine So.n (Nat.le_of_ble_eq_true rfl) (A.v rfl (V.mv (v := .p (.v (.int .i64 _))) rfl ?_))
      refine So.n (Nat.le_of_ble_eq_true rfl) (A.v rfl (V.mulI rfl rfl (by omega) ?_))
      refine So.n (Nat.le_of_ble_eq_true rfl) (A.v rfl (V.bin (a := (.v (.int .i64 _))) (b := (.v (.int .i64 _))) (r := .v (.bool _)) rfl rfl rfl trivial ?_))
      refine So.n (Nat.le_of_ble_eq_true rfl) (A.v rfl (V.as (v := .p (.v (.bool _))) rfl ?_))
      refine So.e ?_
      show HT _ _ _ _ _
      refine R.cond rfl rfl (fun h3 => ?_) (fun h3 => ?_)
      · have h3 := of_decide_eq_false (bnT h3)
        refine HT.seq ?_
        refine HT.region S_decode_ok ?_
        refine So.n (Nat.le_of_ble_eq_true rfl) (A.bld0 ty25 rfl rfl rfl (f := fun _ => .v (.int .i64 0)) (fun _ _ => rfl) ?_)
        refine So.s (A.stoAg ty25 rfl (n := 256) rfl (by decide) (by intro j hj; first | rfl | trivial) rfl rfl rfl ?_)
        refine So.n (Nat.le_of_ble_eq_true rfl) (A.v rfl (V.as (v := .p (.v (.int .i64 (52)))) rfl ?_))
        refine So.e ?_
        show HT _ _ _ _ _
        refine HT.ret ?_
        exact retC_ok (sg []) [(4, .ptr 1 0), (5, .p (.v (.int .i64 ((decF d b).2))))] [(1, ⟨25, 1, 256, true, .rows (fun j => .v (.int .i64 ((decF d b).1 j)))⟩)] h ⟨⟨⟨.refl _, rfl⟩, ⟨le_int (by first | rfl | (unfold decF; rw [if_pos (by omega)] <;> rfl) | (unfold decF; rw [if_neg (by omega), if_pos (by omega)] <;> rfl) | (unfold decF; rw [if_neg (show ¬ (d < 1 ∨ 12 < d) by omega), if_neg (show ¬ ((b.length : Int) ≠ 32 * d) by omega)] <;> rfl) | (unfold decF; rw [if_neg (show ¬ (d < 1 ∨ 12 < d) by omega), if_neg (show ¬ ((b.length : Int) ≠ 32 * d) by omega), Nat.zero_add, if_pos (show j < s by omega)])), trivial⟩, trivial⟩, ⟨⟨_, rfl, .inr (ob_rows rfl (by intro j hj; first | rfl | ((try dsimp only); (first | rfl | (unfold decF; rw [if_pos (by omega)] <;> rfl) | (unfold decF; rw [if_neg (by omega), if_pos (by omega)] <;> rfl) | (unfold decF; rw [if_neg (show ¬ (d < 1 ∨ 12 < d) by omega), if_neg (show ¬ ((b.length : Int) ≠ 32 * d) by omega)] <;> rfl) | (unfold decF; rw [if_neg (show ¬ (d < 1 ∨ 12 < d) by omega), if_neg (show ¬ ((b.length : Int) ≠ 32 * d) by omega), Nat.zero_add, if_pos (show j < s by omega)]))))), trivial⟩, trivial⟩⟩ ⟨rvA_cell ty25 rfl rfl rfl rfl (Nat.le_refl _) (le_agg (fun j _ => by first | rfl | (dsimp only; rw [Nat.zero_add]))), .refl _, trivial⟩ trivial rfl trivial ⟨trivial, trivial, trivial⟩ rfl
      · have h3 := of_decide_eq_true (bnF h3)
        refine HT.skip ?_
        show HT _ _ _ _ _
        refine HT.seq ?_
        refine HT.region S_decode_ok ?_
        have hmo := mOf_b (d := d) (by omega) (by omega)
        have hlb : (b.length : Int) = 32 * d := by omega
        refine So.n (Nat.le_of_ble_eq_true rfl) (A.alloc 2 1 ty25 rfl trivial (f := fun _ => .v (.int .i64 0)) (fun _ _ => rfl) ?_)
        refine So.e ?_
        show HT _ _ _ _ _
        refine HT.seq ?_
        refine HT.region S_decode_ok ?_
        refine So.n (Nat.le_of_ble_eq_true rfl) (A.v rfl (V.as (v := .p (.v (.int .i64 (0)))) rfl ?_))
        refine So.n (Nat.le_of_ble_eq_true rfl) (A.v rfl (V.as (v := .p (.v (.int .i64 (0)))) rfl ?_))
        refine So.e ?_
        show HT _ _ _ _ _
        refine HT.seq ?_
        refine HT.seq ?_
        refine HT.region S_decode_ok ?_
        refine So.n (Nat.le_of_ble_eq_true rfl) (A.v rfl (V.mv (v := .p (.v (.int .i64 (0)))) rfl ?_))
        refine So.e ?_
        show HT _ _ _ _ _
        refine HT.block ?_
        refine R.loop (σ := Nat) (fun s => [(1, .p (.bs (b.drop ((d.toNat * s + 7) / 8)))), (7, .p (.v (.int .i64 (((leN (b.take ((d.toNat * s + 7) / 8)) / 2 ^ (d.toNat * s) : Nat) : Int))))), (8, .p (.v (.int .i64 (((8 * ((d.toNat * s + 7) / 8) - d.toNat * s : Nat) : Int))))), (23, .p (.v (.int .i64 ((s : Int)))))]) (fun s => [(2, ⟨25, 1, 256, true, .rows (fun j => .v (.int .i64 (if j < s then decP d b j else 0)))⟩)]) [0, 4, 5, 6] [1] (fun s => s ≤ 256) (fun s => 256 - s) (0) (fr0 := [(0, .p (.v (.int .i64 _))), (4, .ptr 1 0), (5, .p (.v (.int .i64 _))), (6, .ptr 2 0)]) (O0 := [(1, ⟨_, _, _, _, .rows _⟩)]) rfl rfl (by first | rfl | omega | (simp; done) | (simp; omega)) ⟨⟨⟨le_bs (by first | rfl | (simp [leN]; done)), trivial⟩, ⟨le_int (by first | rfl | (simp [leN]; done)), trivial⟩, ⟨le_int (by first | rfl | (simp [leN]; done)), trivial⟩, ⟨le_int (by first | rfl | (simp [leN]; done)), trivial⟩, ⟨.refl _, trivial⟩, ⟨.refl _, rfl⟩, ⟨.refl _, trivial⟩, ⟨.refl _, rfl⟩, trivial⟩, ⟨⟨_, rfl, .inr (ob_rows (by first | rfl | ((try dsimp only); first | rfl | (simp [leN]; done))) (by first | rfl | ((try dsimp only); first | rfl | (simp [leN]; done)))), trivial⟩, ⟨_, rfl, .inl rfl, trivial⟩, trivial⟩⟩ (fun s hP0 => ?_)
        have hD : d.toNat * (s + 1) = d.toNat * s + d.toNat := Nat.mul_succ _ _
        have hDb : s < 256 → d.toNat * (s + 1) ≤ 8 * b.length := fun h => by have := Nat.mul_le_mul_left d.toNat (show s + 1 ≤ 256 by omega); omega
        refine HT.seq ?_
        refine HT.region S_decode_ok ?_
        refine So.n (Nat.le_of_ble_eq_true rfl) (A.v rfl (V.bin (a := (.v (.int .i64 ((_ : Nat) : Int)))) (b := (.v (.int .i64 (256)))) (r := .v (.bool _)) rfl rfl rfl trivial ?_))
        refine So.e ?_
        show HT _ _ _ _ _
        refine HT.seq ?_
        refine R.cond rfl rfl (fun h4 => ?_) (fun h4 => ?_)
        · have h4 := of_decide_eq_true h4
          refine HT.skip ?_
          show HT _ _ _ _ _
          refine HT.seq ?_
          refine HT.block ?_
          refine HT.seq ?_
          refine HT.region S_decode_ok ?_
          refine So.n (Nat.le_of_ble_eq_true rfl) (A.v rfl (V.mv (v := .p (.v (.int .i64 ((_ : Nat) : Int)))) rfl ?_))
          refine So.n (Nat.le_of_ble_eq_true rfl) (A.v rfl (V.as (v := .p (.v (.int .i64 ((_ : Nat) : Int)))) rfl ?_))
          refine So.e ?_
          show HT _ _ _ _ _
          refine HT.seq ?_
          refine HT.block ?_
          refine R.loop (σ := Nat) (fun r => [(1, .p (.bs (b.drop ((d.toNat * s + 7) / 8 + r)))), (7, .p (.v (.int .i64 (((leN (b.take ((d.toNat * s + 7) / 8 + r)) / 2 ^ (d.toNat * s) : Nat) : Int))))), (8, .p (.v (.int .i64 (((8 * ((d.toNat * s + 7) / 8 + r) - d.toNat * s : Nat) : Int)))))]) (fun r => []) [0, 4, 5, 6, 9, 23, 24, 25] [1, 2] (fun r => r = 0 ∨ 8 * ((d.toNat * s + 7) / 8 + r) < d.toNat * (s + 1) + 8) (fun r => d.toNat * (s + 1) + 8 - 8 * ((d.toNat * s + 7) / 8 + r)) (0) (fr0 := [(0, .p (.v (.int .i64 _))), (4, .ptr 1 0), (5, .p (.v (.int .i64 _))), (6, .ptr 2 0), (9, .p (.v (.int .i64 ((_ : Nat) : Int)))), (23, .p (.v (.int .i64 ((_ : Nat) : Int)))), (24, .p (.v (.bool true))), (25, .p (.v (.int .i64 ((_ : Nat) : Int))))]) (O0 := [(1, ⟨_, _, _, _, .rows _⟩), (2, ⟨_, _, _, _, .rows _⟩)]) rfl rfl (by exact .inl rfl) ⟨⟨⟨le_bs (by first | rfl | omega), trivial⟩, ⟨le_int (by first | rfl | omega), trivial⟩, ⟨le_int (by first | rfl | omega), trivial⟩, ⟨.refl _, trivial⟩, ⟨.refl _, rfl⟩, ⟨.refl _, trivial⟩, ⟨.refl _, rfl⟩, ⟨.refl _, trivial⟩, ⟨.refl _, trivial⟩, ⟨.refl _, trivial⟩, ⟨.refl _, trivial⟩, trivial⟩, ⟨⟨_, rfl, .inl rfl, trivial⟩, ⟨_, rfl, .inl rfl, trivial⟩, trivial⟩⟩ (fun r hP1 => ?_)
          refine HT.seq ?_
          refine HT.seq ?_
          refine HT.region S_decode_ok ?_
          refine So.n (Nat.le_of_ble_eq_true rfl) (A.v rfl (V.mv (v := .p (.v (.int .i64 _))) rfl ?_))
          refine So.n (Nat.le_of_ble_eq_true rfl) (A.v rfl (V.mv (v := .p (.v (.int .i64 _))) rfl ?_))
          refine So.n (Nat.le_of_ble_eq_true rfl) (A.v rfl (V.bin (a := (.v (.int .i64 _))) (b := (.v (.int .i64 _))) (r := .v (.bool _)) rfl rfl rfl trivial ?_))
          refine So.e ?_
          show HT _ _ _ _ _
          refine R.cond rfl rfl (fun h5 => ?_) (fun h5 => ?_)
          · have h5 := of_decide_eq_true h5
            refine HT.skip ?_
            show HT _ _ _ _ _
            refine HT.seq ?_
            refine HT.block ?_
            refine HT.seq ?_
            refine HT.region S_decode_ok ?_
            have h97 := hDb (by omega)
            have hdl : (b.drop ((d.toNat * s + 7) / 8 + r)).length = b.length - ((d.toNat * s + 7) / 8 + r) := List.length_drop
            refine So.n (Nat.le_of_ble_eq_true rfl) (A.v rfl (V.mv (v := .p (.v (.int .i64 _))) rfl ?_))
            refine So.n (Nat.le_of_ble_eq_true rfl) (A.v rfl (V.mv (v := .p (.bs _)) rfl ?_))
            refine So.n (Nat.le_of_ble_eq_true rfl) (A.v rfl (V.ixBs ty22 ty5 rfl rfl rfl (by omega) rfl ?_))
            refine So.n (Nat.le_of_ble_eq_true rfl) (A.v rfl (V.ldRp ty5 rfl rfl (Nat.le_of_ble_eq_true rfl) (v := (.u8 _)) rfl ?_))
            refine So.n (Nat.le_of_ble_eq_true rfl) (A.v rfl (V.cvN ty3 ty5 (a := (.u8 _)) (r := (.v (.int .i64 _))) rfl rfl ?_))
            refine So.n (Nat.le_of_ble_eq_true rfl) (A.v rfl (V.mv (v := .p (.v (.int .i64 _))) rfl ?_))
            refine So.n (Nat.le_of_ble_eq_true rfl) (A.v rfl (V.bin (a := (.v (.int .i64 _))) (b := (.v (.int .i64 _))) (r := .v (.int .i64 _)) rfl rfl rfl (by first | rfl | omega | (simp; done) | (simp; omega)) ?_))
            refine So.n (Nat.le_of_ble_eq_true rfl) (A.v rfl (V.bin (a := (.v (.int .i64 _))) (b := (.v (.int .i64 _))) (r := .v (.int .i64 _)) rfl rfl rfl trivial ?_))
            refine So.n (Nat.le_of_ble_eq_true rfl) (A.v rfl (V.as (v := .p (.v (.int .i64 _))) rfl ?_))
            refine So.e ?_
            show HT _ _ _ _ _
            refine HT.region S_decode_ok ?_
            refine So.n (Nat.le_of_ble_eq_true rfl) (A.v rfl (V.mv (v := .p (.bs _)) rfl ?_))
            refine So.n (Nat.le_of_ble_eq_true rfl) (A.v rfl (V.cutBsL (mx := none) ty22 ty5 rfl rfl rfl (by omega) rfl ?_))
            refine So.n (Nat.le_of_ble_eq_true rfl) (A.v rfl (V.as (v := .p (.bs _)) rfl ?_))
            refine So.e ?_
            show HT _ _ _ _ _
            refine HT.region S_decode_ok ?_
            refine So.n (Nat.le_of_ble_eq_true rfl) (A.v rfl (V.mv (v := .p (.v (.int .i64 _))) rfl ?_))
            refine So.n (Nat.le_of_ble_eq_true rfl) (A.v rfl (V.addI rfl rfl (by omega) ?_))
            refine So.n (Nat.le_of_ble_eq_true rfl) (A.v rfl (V.as (v := .p (.v (.int .i64 _))) rfl ?_))
            refine So.e ?_
            refine ⟨r + 1, by exact .inr (by omega), by omega, ⟨⟨⟨le_bs (by first | rfl | (rw [List.drop_drop]; rfl) | (simp [List.drop_drop]; omega)), trivial⟩, ⟨le_int (by exact dec_or (by omega) (by omega) (by omega)), trivial⟩, ⟨le_int (by first | rfl | omega | (simp; done) | (simp; omega)), trivial⟩, ⟨.refl _, trivial⟩, ⟨.refl _, rfl⟩, ⟨.refl _, trivial⟩, ⟨.refl _, rfl⟩, ⟨.refl _, trivial⟩, ⟨.refl _, trivial⟩, ⟨.refl _, trivial⟩, ⟨.refl _, trivial⟩, trivial⟩, ⟨⟨_, rfl, .inl rfl, trivial⟩, ⟨_, rfl, .inl rfl, trivial⟩, trivial⟩⟩⟩
          · have h5 := of_decide_eq_false h5
            refine HT.exit ?_
            show HT _ _ _ _ _
            refine HT.seq ?_
            refine HT.region S_decode_ok ?_
            have h97 := hDb (by omega)
            have hdn := dec_and (b := b) (k := (d.toNat * s + 7) / 8 + r) (s := s) (d := d) (by omega) (by omega) (by omega) (by omega) (by omega)
            refine So.n (Nat.le_of_ble_eq_true rfl) (A.v rfl (V.mv (v := .p (.v (.int .i64 ((_ : Nat) : Int)))) rfl ?_))
            refine So.n (Nat.le_of_ble_eq_true rfl) (A.v rfl (V.mv (v := .p (.v (.int .i64 _))) rfl ?_))
            refine So.n (Nat.le_of_ble_eq_true rfl) (A.v rfl (V.mv (v := .p (.v (.int .i64 _))) rfl ?_))
            refine So.n (Nat.le_of_ble_eq_true rfl) (A.v rfl (V.bin (a := (.v (.int .i64 (1)))) (b := (.v (.int .i64 _))) (r := .v (.int .i64 _)) rfl rfl rfl (by first | rfl | omega | (simp; done) | (simp; omega)) ?_))
            refine So.n (Nat.le_of_ble_eq_true rfl) (A.v rfl (V.subI rfl rfl (by omega) ?_))
            refine So.n (Nat.le_of_ble_eq_true rfl) (A.v rfl (V.bin (a := (.v (.int .i64 _))) (b := (.v (.int .i64 _))) (r := .v (.int .i64 _)) rfl rfl rfl trivial ?_))
            refine So.n (Nat.le_of_ble_eq_true rfl) (A.v rfl (V.ixArrP10 ty25 ty3 rfl rfl rfl (by first | rfl | omega | (simp; done) | (simp; omega)) rfl (by omega) (Int.toNat_natCast _) ?_))
            refine So.s (A.sto ty3 rfl rfl rfl (v := .p (.v (.int .i64 _))) rfl rfl rfl (by first | rfl | omega | (simp; done) | (simp; omega)) (c' := .rows (fun j => .v (.int .i64 (if j = s then iAnd .i64 ((leN (b.take ((d.toNat * s + 7) / 8 + r)) / 2 ^ (d.toNat * s) : Nat) : Int) (iShl .i64 1 d.toNat - 1) else if j < s then decP d b j else 0)))) (congrArg (fun g => some (OC.rows g)) (funext fun j => by by_cases h9 : j = s <;> simp [h9])) rfl ?_)
            refine So.e ?_
            show HT _ _ _ _ _
            refine HT.seq ?_
            refine HT.region S_decode_ok ?_
            refine So.n (Nat.le_of_ble_eq_true rfl) (A.v rfl (V.mv (v := .p (.v (.int .i64 _))) rfl ?_))
            refine So.n (Nat.le_of_ble_eq_true rfl) (A.v rfl (V.mv (v := .p (.v (.int .i64 _))) rfl ?_))
            refine So.n (Nat.le_of_ble_eq_true rfl) (A.v rfl (V.bin (a := (.v (.int .i64 _))) (b := (.v (.int .i64 _))) (r := .v (.int .i64 _)) rfl rfl rfl (by first | rfl | omega | (simp; done) | (simp; omega)) ?_))
            refine So.n (Nat.le_of_ble_eq_true rfl) (A.v rfl (V.as (v := .p (.v (.int .i64 _))) rfl ?_))
            refine So.e ?_
            show HT _ _ _ _ _
            refine HT.seq ?_
            refine HT.region S_decode_ok ?_
            refine So.n (Nat.le_of_ble_eq_true rfl) (A.v rfl (V.mv (v := .p (.v (.int .i64 _))) rfl ?_))
            refine So.n (Nat.le_of_ble_eq_true rfl) (A.v rfl (V.mv (v := .p (.v (.int .i64 _))) rfl ?_))
            refine So.n (Nat.le_of_ble_eq_true rfl) (A.v rfl (V.subI rfl rfl (by omega) ?_))
            refine So.n (Nat.le_of_ble_eq_true rfl) (A.v rfl (V.as (v := .p (.v (.int .i64 _))) rfl ?_))
            refine So.e ?_
            show HT _ _ _ _ _
            refine HT.seq ?_
            refine HT.region S_decode_ok ?_
            refine So.n (Nat.le_of_ble_eq_true rfl) (A.v rfl (V.mv (v := .p (.v (.int .i64 _))) rfl ?_))
            refine So.n (Nat.le_of_ble_eq_true rfl) (A.v rfl (V.bin (a := (.v (.int .i64 _))) (b := (.v (.int .i64 (12)))) (r := .v (.bool _)) rfl rfl rfl trivial ?_))
            refine So.e ?_
            show HT _ _ _ _ _
            refine R.cond rfl rfl (fun h6 => ?_) (fun h6 => ?_)
            · have h6 := of_decide_eq_true h6
              refine HT.region S_decode_ok ?_
              refine So.n (Nat.le_of_ble_eq_true rfl) (A.v rfl (V.mv (v := .p (.v (.int .i64 ((_ : Nat) : Int)))) rfl ?_))
              refine So.n (Nat.le_of_ble_eq_true rfl) (A.v rfl (V.ixArrP10 ty25 ty3 rfl rfl rfl (by first | rfl | omega | (simp; done) | (simp; omega)) rfl (by omega) (Int.toNat_natCast _) ?_))
              refine So.n (Nat.le_of_ble_eq_true rfl) (A.v rfl (V.ldPtr ty3 rfl rfl rfl (by first | rfl | omega | (simp; done) | (simp; omega)) (v := .p (.v (.int .i64 _))) rfl ?_))
              refine So.n (Nat.le_of_ble_eq_true rfl) (A.v rfl (V.remI rfl rfl (by omega) ?_))
              refine So.n (Nat.le_of_ble_eq_true rfl) (A.v rfl (V.ixArrP10 ty25 ty3 rfl rfl rfl (by first | rfl | omega | (simp; done) | (simp; omega)) rfl (by omega) (Int.toNat_natCast _) ?_))
              refine So.s (A.sto ty3 rfl rfl rfl (v := .p (.v (.int .i64 _))) rfl rfl rfl (by first | rfl | omega | (simp; done) | (simp; omega)) (c' := .rows (fun j => .v (.int .i64 (if j = s then (iAnd .i64 ((leN (b.take ((d.toNat * s + 7) / 8 + r)) / 2 ^ (d.toNat * s) : Nat) : Int) (iShl .i64 1 d.toNat - 1)) % 3329 else if j < s then decP d b j else 0)))) (congrArg (fun g => some (OC.rows g)) (funext fun j => by by_cases h9 : j = s <;> simp [h9])) rfl ?_)
              refine So.e ?_
              show HT _ _ _ _ _
              refine HT.region S_decode_ok ?_
              refine So.n (Nat.le_of_ble_eq_true rfl) (A.v rfl (V.addI rfl rfl (by omega) ?_))
              refine So.n (Nat.le_of_ble_eq_true rfl) (A.v rfl (V.mv (v := .p (.v (.int .i64 _))) rfl ?_))
              refine So.e ?_
              have hk : (d.toNat * (s + 1) + 7) / 8 = (d.toNat * s + 7) / 8 + r := by omega
              refine ⟨s + 1, by first | rfl | omega | (simp; done) | (simp; omega), by omega, ⟨⟨⟨le_bs (by rw [hk]), trivial⟩, ⟨le_int (by rw [hk]; exact dec_shr (by omega)), trivial⟩, ⟨le_int (by rw [hk]; omega), trivial⟩, ⟨le_int (by first | rfl | omega | (simp; done) | (simp; omega)), trivial⟩, ⟨.refl _, trivial⟩, ⟨.refl _, rfl⟩, ⟨.refl _, trivial⟩, ⟨.refl _, rfl⟩, trivial⟩, ⟨⟨_, rfl, .inr (ob_rows (by first | rfl | ((try dsimp only); first | rfl | omega | (intro j hj; first | exact dec_put (by unfold decP; rw [if_neg (by omega)]; exact hdn) j | exact dec_put (by unfold decP; rw [if_pos (by omega), hdn]) j))) (by first | rfl | ((try dsimp only); first | rfl | omega | (intro j hj; first | exact dec_put (by unfold decP; rw [if_neg (by omega)]; exact hdn) j | exact dec_put (by unfold decP; rw [if_pos (by omega), hdn]) j)))), trivial⟩, ⟨_, rfl, .inl rfl, trivial⟩, trivial⟩⟩⟩
            · have h6 := of_decide_eq_false h6
              refine HT.skip ?_
              show HT _ _ _ _ _
              refine HT.region S_decode_ok ?_
              refine So.n (Nat.le_of_ble_eq_true rfl) (A.v rfl (V.addI rfl rfl (by omega) ?_))
              refine So.n (Nat.le_of_ble_eq_true rfl) (A.v rfl (V.mv (v := .p (.v (.int .i64 _))) rfl ?_))
              refine So.e ?_
              have hk : (d.toNat * (s + 1) + 7) / 8 = (d.toNat * s + 7) / 8 + r := by omega
              refine ⟨s + 1, by first | rfl | omega | (simp; done) | (simp; omega), by omega, ⟨⟨⟨le_bs (by rw [hk]), trivial⟩, ⟨le_int (by rw [hk]; exact dec_shr (by omega)), trivial⟩, ⟨le_int (by rw [hk]; omega), trivial⟩, ⟨le_int (by first | rfl | omega | (simp; done) | (simp; omega)), trivial⟩, ⟨.refl _, trivial⟩, ⟨.refl _, rfl⟩, ⟨.refl _, trivial⟩, ⟨.refl _, rfl⟩, trivial⟩, ⟨⟨_, rfl, .inr (ob_rows (by first | rfl | ((try dsimp only); first | rfl | omega | (intro j hj; first | exact dec_put (by unfold decP; rw [if_neg (by omega)]; exact hdn) j | exact dec_put (by unfold decP; rw [if_pos (by omega), hdn]) j))) (by first | rfl | ((try dsimp only); first | rfl | omega | (intro j hj; first | exact dec_put (by unfold decP; rw [if_neg (by omega)]; exact hdn) j | exact dec_put (by unfold decP; rw [if_pos (by omega), hdn]) j)))), trivial⟩, ⟨_, rfl, .inl rfl, trivial⟩, trivial⟩⟩⟩
        · have h4 := of_decide_eq_false h4
          refine HT.exit ?_
          show HT _ _ _ _ _
          refine HT.seq ?_
          refine HT.region S_decode_ok ?_
          refine So.n (Nat.le_of_ble_eq_true rfl) (A.v rfl (V.ldPtrA ty25 rfl rfl rfl rfl (by first | rfl | omega | (simp; done) | (simp; omega)) ?_))
          refine So.s (A.stoAg ty25 rfl (n := 256) rfl (by decide) (by intro j hj; first | rfl | trivial) rfl rfl rfl ?_)
          refine So.n (Nat.le_of_ble_eq_true rfl) (A.v rfl (V.as (v := .p (.v (.int .i64 (0)))) rfl ?_))
          refine So.e ?_
          show HT _ _ _ _ _
          refine HT.ret ?_
          exact retC_ok (sg []) [(4, .ptr 1 0), (5, .p (.v (.int .i64 ((decF d b).2))))] [(1, ⟨25, 1, 256, true, .rows (fun j => .v (.int .i64 ((decF d b).1 j)))⟩)] h ⟨⟨⟨.refl _, rfl⟩, ⟨le_int (by first | rfl | (unfold decF; rw [if_pos (by omega)] <;> rfl) | (unfold decF; rw [if_neg (by omega), if_pos (by omega)] <;> rfl) | (unfold decF; rw [if_neg (show ¬ (d < 1 ∨ 12 < d) by omega), if_neg (show ¬ ((b.length : Int) ≠ 32 * d) by omega)] <;> rfl) | (unfold decF; rw [if_neg (show ¬ (d < 1 ∨ 12 < d) by omega), if_neg (show ¬ ((b.length : Int) ≠ 32 * d) by omega), Nat.zero_add, if_pos (show j < s by omega)])), trivial⟩, trivial⟩, ⟨⟨_, rfl, .inr (ob_rows rfl (by intro j hj; first | rfl | ((try dsimp only); (first | rfl | (unfold decF; rw [if_pos (by omega)] <;> rfl) | (unfold decF; rw [if_neg (by omega), if_pos (by omega)] <;> rfl) | (unfold decF; rw [if_neg (show ¬ (d < 1 ∨ 12 < d) by omega), if_neg (show ¬ ((b.length : Int) ≠ 32 * d) by omega)] <;> rfl) | (unfold decF; rw [if_neg (show ¬ (d < 1 ∨ 12 < d) by omega), if_neg (show ¬ ((b.length : Int) ≠ 32 * d) by omega), Nat.zero_add, if_pos (show j < s by omega)]))))), trivial⟩, trivial⟩⟩ ⟨rvA_cell ty25 rfl rfl rfl rfl (Nat.le_refl _) (le_agg (fun j _ => by first | rfl | (dsimp only; rw [Nat.zero_add]))), .refl _, trivial⟩ trivial rfl trivial ⟨trivial, trivial, trivial⟩ rfl

end Go.Vk

set_option linter.unusedVariables false
set_option linter.unusedSimpArgs false
namespace Go.Vk
open Go Go.Vc Go.Proofs

/-! ### sodality/sodalitylaw05.head -/
def headSp : Sp := ⟨[], mkE (α := Unit) (fun _ => []) (fun _ => []) (fun _ => True) (fun _ => [.p (.v (.bool true))]) (fun _ => [])⟩
def S_head : FuncId → Option Sp := fun f => if f = 11 then some encodeSp else if f = 12 then some decodeSp else if f = 8 then some uniform0Sp else if f = 13 then some squeezeSp else if f = 14 then some stretchSp else none
theorem S_head_ok : ∀ f s, S_head f = some s → FOK Tryd.prog gl f s := fun f s h => by
  unfold S_head at h
  split at h
  · rename_i e; cases h; subst e; exact encode_ok
  split at h
  · rename_i e; cases h; subst e; exact decode_ok
  split at h
  · rename_i e; cases h; subst e; exact uniform0_ok
  split at h
  · rename_i e; cases h; subst e; exact squeeze_ok
  split at h
  · rename_i e; cases h; subst e; exact stretch_ok
  cases h
theorem S_head_det : ∀ f s, S_head f = some s → SpDet s.sp := fun f s h => by
  unfold S_head at h
  split at h
  · cases h; exact mkE_det _ _ _ _ _
  split at h
  · cases h; exact mkE_det _ _ _ _ _
  split at h
  · cases h; exact mkE_det _ _ _ _ _
  split at h
  · cases h; exact mkE_det _ _ _ _ _
  split at h
  · cases h; exact mkE_det _ _ _ _ _
  cases h
set_option maxHeartbeats 1000000 in
set_option maxRecDepth 20000 in
theorem head_ok : FOK Tryd.prog gl 5 headSp := by
  refine FOK.ofE (tyOf_ok Tryd.prog) (slots := [0]) (nt := 53) Tryd.func5 rfl rfl rfl rfl (by decide) 0 (fun _ => rfl) (by decide) (fun _ => trivial) ?_
  rintro _ kk hlen hpre h
  replace hpre : True := hpre
  show HT (cx Tryd.prog 53 (tyOf Tryd.prog) gl []) _ [] [] _
  refine HT.seq ?_
  refine HT.region S_head_ok ?_
  refine So.n (Nat.le_of_ble_eq_true rfl) (A.v rfl (V.as (v := .p (.v (.bool false))) rfl ?_))
  refine So.e ?_
  show HT _ _ _ _ _
  refine HT.seq ?_
  refine HT.region S_head_ok ?_
  refine So.n (Nat.le_of_ble_eq_true rfl) (A.alloc 1 1 ty25 rfl trivial (f := fun _ => .v (.int .i64 0)) (fun _ _ => rfl) ?_)
  refine So.e ?_
  show HT _ _ _ _ _
  refine HT.seq ?_
  refine HT.region S_head_ok ?_
  refine So.n (Nat.le_of_ble_eq_true rfl) (A.v rfl (V.ixArrP10 ty25 ty3 rfl rfl rfl (by first | rfl | omega | decide | (simp; done)) rfl (by omega) rfl ?_))
  refine So.s (A.sto ty3 rfl rfl rfl (v := .p (.v (.int .i64 _))) rfl rfl rfl (by first | rfl | omega | decide | (simp; done)) (c' := .rows (fun j => .v (.int .i64 (if j = 0 then 5 else 0)))) (congrArg (fun g => some (OC.rows g)) (funext fun j => by by_cases h9 : j = 0 <;> simp [h9])) rfl ?_)
  refine So.e ?_
  show HT _ _ _ _ _
  refine HT.seq ?_
  refine HT.region S_head_ok ?_
  refine So.n (Nat.le_of_ble_eq_true rfl) (A.v rfl (V.ldPtrA ty25 rfl rfl rfl rfl (by first | rfl | omega | decide | (simp; done)) ?_))
  refine So.n (Nat.le_of_ble_eq_true rfl) (A.call0 [.p (.v (.int .i64 _)), .agg 256 _] 2 rfl rfl rfl rfl ⟨trivial, trivial, trivial⟩ trivial (4, P0) ⟨.refl _, le_agg (fun j _ => by simp [P0]), trivial⟩ trivial (by trivial) (Φ := fun (d, p) => (encF d p).length ≤ 384) (fun (d, p) _ => encF_le d p) (.inl rfl) (v := .own 4 0 _) rfl (O' := (4, ⟨5, 1, _, true, .bs _⟩) :: _) rfl (fun h1 => ?_))
  try dsimp only at h1
  refine So.n (Nat.le_of_ble_eq_true rfl) (A.v rfl (V.as (v := .own 4 0 _) rfl ?_))
  refine So.e ?_
  show HT _ _ _ _ _
  refine HT.seq ?_
  refine HT.region S_head_ok ?_
  refine So.n (Nat.le_of_ble_eq_true rfl) (A.v rfl (V.mv (v := .own 4 0 _) rfl ?_))
  refine So.n (Nat.le_of_ble_eq_true rfl) (A.call0 [.p (.v (.int .i64 _)), .p (.bs _)] 5 rfl rfl rfl rfl ⟨trivial, trivial, trivial⟩ trivial (_, _) ⟨.refl _, le_full, trivial⟩ trivial (by trivial) (Φ := fun _ => True) (fun _ _ => trivial) (.inr ⟨fun j hj => by match j, hj with | 0, _ => exact (fun _ _ => trivial) | 1, _ => exact trivial, by simp [Hp.scal, OC.scal, PV.scal, BV.scal]⟩) (v := .tup 2 _) rfl (O' := _) rfl (fun h2 => ?_))
  refine So.n (Nat.le_of_ble_eq_true rfl) (A.v rfl (V.mv (v := .tup 2 _) rfl ?_))
  refine So.n (Nat.le_of_ble_eq_true rfl) (A.v rfl (V.ext rfl (Nat.le_of_ble_eq_true rfl) (v := .agg 256 _) rfl ?_))
  refine So.n (Nat.le_of_ble_eq_true rfl) (A.v rfl (V.ext rfl (Nat.le_of_ble_eq_true rfl) (v := .p (.v (.int .i64 _))) rfl ?_))
  refine So.n (Nat.le_of_ble_eq_true rfl) (A.alloc 5 1 ty25 rfl trivial (f := fun _ => .v (.int .i64 0)) (fun _ _ => rfl) ?_)
  refine So.s (A.stoAg ty25 rfl (n := 256) rfl (by decide) (by intro j hj; first | rfl | trivial) rfl rfl rfl ?_)
  refine So.n (Nat.le_of_ble_eq_true rfl) (A.v rfl (V.as (v := .p (.v (.int .i64 _))) rfl ?_))
  refine So.e ?_
  show HT _ _ _ _ _
  refine HT.seq ?_
  refine HT.region S_head_ok ?_
  refine So.n (Nat.le_of_ble_eq_true rfl) (A.call0 [.p (.v (.slice none 0 0))] 6 rfl rfl rfl rfl ⟨trivial, trivial⟩ trivial _ ⟨le_nil rfl, trivial⟩ trivial (by first | omega | (simp; done)) (Φ := fun _ => True) (fun _ _ => trivial) (.inl rfl) (v := .tup 2 _) rfl (O' := _) rfl (fun h3 => ?_))
  refine So.n (Nat.le_of_ble_eq_true rfl) (A.v rfl (V.mv (v := .tup 2 _) rfl ?_))
  refine So.n (Nat.le_of_ble_eq_true rfl) (A.v rfl (V.ext rfl (Nat.le_of_ble_eq_true rfl) (v := .agg 256 _) rfl ?_))
  refine So.n (Nat.le_of_ble_eq_true rfl) (A.v rfl (V.ext rfl (Nat.le_of_ble_eq_true rfl) (v := .p (.v (.int .i64 _))) rfl ?_))
  refine So.n (Nat.le_of_ble_eq_true rfl) (A.alloc 6 1 ty25 rfl trivial (f := fun _ => .v (.int .i64 0)) (fun _ _ => rfl) ?_)
  refine So.s (A.stoAg ty25 rfl (n := 256) rfl (by decide) (by intro j hj; first | rfl | trivial) rfl rfl rfl ?_)
  refine So.n (Nat.le_of_ble_eq_true rfl) (A.v rfl (V.as (v := .p (.v (.int .i64 _))) rfl ?_))
  refine So.e ?_
  show HT _ _ _ _ _
  refine HT.seq ?_
  refine HT.region S_head_ok ?_
  obtain ⟨e1, e2, e3, e4⟩ := head_enc
  refine So.n (Nat.le_of_ble_eq_true rfl) (A.call0 [.p (.v (.int .i64 _)), .p (.v (.int .i64 _))] 7 rfl rfl rfl rfl ⟨trivial, trivial, trivial⟩ trivial (_, _) ⟨.refl _, .refl _, trivial⟩ trivial (by trivial) (Φ := fun _ => True) (fun _ _ => trivial) (.inl rfl) (v := .p (.v (.int .i64 _))) rfl (O' := _) rfl (fun h4 => ?_))
  refine So.n (Nat.le_of_ble_eq_true rfl) (A.v rfl (V.bin (a := (.v (.int .i64 _))) (b := (.v (.int .i64 (0)))) (r := .v (.bool _)) rfl rfl rfl trivial ?_))
  refine So.n (Nat.le_of_ble_eq_true rfl) (A.v rfl (V.mv (v := .p (.v (.bool _))) rfl ?_))
  refine So.gd rfl rfl (Nat.le_of_ble_eq_true rfl) (Nat.le_of_ble_eq_true rfl) (fun h5 => ?_) (fun h5 => ?_)
  · have h5 := of_decide_eq_true h5
    refine A.call0 [.p (.v (.int .i64 _)), .p (.v (.int .i64 _))] 7 rfl rfl rfl rfl ⟨trivial, trivial, trivial⟩ trivial (_, _) ⟨.refl _, .refl _, trivial⟩ trivial (by trivial) (Φ := fun _ => True) (fun _ _ => trivial) (.inl rfl) (v := .p (.v (.int .i64 _))) rfl (O' := _) rfl (fun h6 => ?_)
    refine So.gy rfl rfl (Nat.le_of_ble_eq_true rfl) (Nat.le_of_ble_eq_true rfl) ?_
    refine A.v rfl (V.bin (a := (.v (.int .i64 _))) (b := (.v (.int .i64 (1)))) (r := .v (.bool _)) rfl rfl rfl trivial ?_)
    refine So.n (Nat.le_of_ble_eq_true rfl) (A.v rfl (V.pkTrue (u := .p (.v (.bool _))) rfl rfl ?_))
    refine So.n (Nat.le_of_ble_eq_true rfl) (A.v rfl (V.mv (v := .p (.v (.bool _))) rfl ?_))
    refine So.gd rfl rfl (Nat.le_of_ble_eq_true rfl) (Nat.le_of_ble_eq_true rfl) (fun h7 => ?_) (fun h7 => ?_)
    · have h7 := of_decide_eq_true h7
      refine A.call0 [.p (.v (.int .i64 _)), .p (.v (.int .i64 _))] 7 rfl rfl rfl rfl ⟨trivial, trivial, trivial⟩ trivial (_, _) ⟨.refl _, .refl _, trivial⟩ trivial (by trivial) (Φ := fun _ => True) (fun _ _ => trivial) (.inl rfl) (v := .p (.v (.int .i64 _))) rfl (O' := _) rfl (fun h8 => ?_)
      refine So.gy rfl rfl (Nat.le_of_ble_eq_true rfl) (Nat.le_of_ble_eq_true rfl) ?_
      refine A.v rfl (V.bin (a := (.v (.int .i64 _))) (b := (.v (.int .i64 (1665)))) (r := .v (.bool _)) rfl rfl rfl trivial ?_)
      refine So.n (Nat.le_of_ble_eq_true rfl) (A.v rfl (V.pkTrue (u := .p (.v (.bool _))) rfl rfl ?_))
      refine So.n (Nat.le_of_ble_eq_true rfl) (A.v rfl (V.mv (v := .p (.v (.bool _))) rfl ?_))
      refine So.gd rfl rfl (Nat.le_of_ble_eq_true rfl) (Nat.le_of_ble_eq_true rfl) (fun h9 => ?_) (fun h9 => ?_)
      · have h9 := of_decide_eq_true h9
        refine A.v rfl (V.mv (v := .own 4 0 _) rfl ?_)
        refine So.gy rfl rfl (Nat.le_of_ble_eq_true rfl) (Nat.le_of_ble_eq_true rfl) ?_
        refine A.v rfl (V.len ty22 (v := .own 4 0 _) rfl rfl ?_)
        refine So.gy rfl rfl (Nat.le_of_ble_eq_true rfl) (Nat.le_of_ble_eq_true rfl) ?_
        refine A.v rfl (V.bin (a := (.v (.int .i64 _))) (b := (.v (.int .i64 (128)))) (r := .v (.bool _)) rfl rfl rfl trivial ?_)
        refine So.n (Nat.le_of_ble_eq_true rfl) (A.v rfl (V.pkTrue (u := .p (.v (.bool _))) rfl rfl ?_))
        refine So.n (Nat.le_of_ble_eq_true rfl) (A.v rfl (V.mv (v := .p (.v (.bool _))) rfl ?_))
        refine So.gd rfl rfl (Nat.le_of_ble_eq_true rfl) (Nat.le_of_ble_eq_true rfl) (fun h10 => ?_) (fun h10 => ?_)
        · have h10 := of_decide_eq_true h10
          refine A.v rfl (V.mv (v := .own 4 0 _) rfl ?_)
          refine So.gy rfl rfl (Nat.le_of_ble_eq_true rfl) (Nat.le_of_ble_eq_true rfl) ?_
          refine A.v rfl (V.ixOwn10 ty22 ty5 rfl rfl rfl rfl rfl (by omega) rfl ?_)
          refine So.gy rfl rfl (Nat.le_of_ble_eq_true rfl) (Nat.le_of_ble_eq_true rfl) ?_
          refine A.v rfl (V.ldPtr ty5 rfl rfl rfl (by first | rfl | omega | decide | (simp; done)) (v := .p (.u8 _)) rfl ?_)
          refine So.gy rfl rfl (Nat.le_of_ble_eq_true rfl) (Nat.le_of_ble_eq_true rfl) ?_
          refine A.v rfl (V.bin (a := (.u8 _)) (b := (.u8 5)) (r := .v (.bool _)) rfl rfl rfl trivial ?_)
          refine So.n (Nat.le_of_ble_eq_true rfl) (A.v rfl (V.pkTrue (u := .p (.v (.bool _))) rfl rfl ?_))
          refine So.n (Nat.le_of_ble_eq_true rfl) (A.v rfl (V.mv (v := .p (.v (.bool _))) rfl ?_))
          refine So.gd rfl rfl (Nat.le_of_ble_eq_true rfl) (Nat.le_of_ble_eq_true rfl) (fun h11 => ?_) (fun h11 => ?_)
          · have h11 := of_decide_eq_true h11
            refine A.v rfl (V.mv (v := .p (.v (.int .i64 _))) rfl ?_)
            refine So.gy rfl rfl (Nat.le_of_ble_eq_true rfl) (Nat.le_of_ble_eq_true rfl) ?_
            refine A.v rfl (V.bin (a := (.v (.int .i64 _))) (b := (.v (.int .i64 (0)))) (r := .v (.bool _)) rfl rfl rfl trivial ?_)
            refine So.n (Nat.le_of_ble_eq_true rfl) (A.v rfl (V.pkTrue (u := .p (.v (.bool _))) rfl rfl ?_))
            refine So.n (Nat.le_of_ble_eq_true rfl) (A.v rfl (V.mv (v := .p (.v (.bool _))) rfl ?_))
            refine So.gd rfl rfl (Nat.le_of_ble_eq_true rfl) (Nat.le_of_ble_eq_true rfl) (fun h12 => ?_) (fun h12 => ?_)
            · have h12 := of_decide_eq_true h12
              refine A.v rfl (V.ldPtrA ty25 rfl rfl rfl rfl (by first | rfl | omega | decide | (simp; done)) ?_)
              refine So.gy rfl rfl (Nat.le_of_ble_eq_true rfl) (Nat.le_of_ble_eq_true rfl) ?_
              refine A.v rfl (V.ldPtrA ty25 rfl rfl rfl rfl (by first | rfl | omega | decide | (simp; done)) ?_)
              refine So.gy rfl rfl (Nat.le_of_ble_eq_true rfl) (Nat.le_of_ble_eq_true rfl) ?_
              refine A.v rfl (V.eqArr ty25 ty3 rfl rfl rfl rfl (by first | exact Tryd.eqGuardType25 | kernel_rfl) (fun _ _ => ⟨rfl, rfl⟩) rfl ?_)
              refine So.n (Nat.le_of_ble_eq_true rfl) (A.v rfl (V.pkTrue (u := .p (.v (.bool _))) rfl rfl ?_))
              refine So.n (Nat.le_of_ble_eq_true rfl) (A.v rfl (V.mv (v := .p (.v (.bool _))) rfl ?_))
              refine So.gd rfl rfl (Nat.le_of_ble_eq_true rfl) (Nat.le_of_ble_eq_true rfl) (fun h13 => ?_) (fun h13 => ?_)
              · have h13 := of_decide_eq_true h13
                refine A.v rfl (V.mv (v := .p (.v (.int .i64 _))) rfl ?_)
                refine So.gy rfl rfl (Nat.le_of_ble_eq_true rfl) (Nat.le_of_ble_eq_true rfl) ?_
                refine A.v rfl (V.bin (a := (.v (.int .i64 _))) (b := (.v (.int .i64 (1)))) (r := .v (.bool _)) rfl rfl rfl trivial ?_)
                refine So.n (Nat.le_of_ble_eq_true rfl) (A.v rfl (V.pkTrue (u := .p (.v (.bool _))) rfl rfl ?_))
                refine So.n (Nat.le_of_ble_eq_true rfl) (A.v rfl (V.as (v := .p (.v (.bool _))) rfl ?_))
                refine So.e ?_
                show HT _ _ _ _ _
                refine HT.ret ?_
                exact ret_ok (sg []) h rfl rfl rfl trivial ⟨trivial, trivial⟩ rfl ⟨⟨⟨le_bool (by first | rfl | decide), trivial⟩, trivial⟩, trivial⟩
              · have h13 := of_decide_eq_false h13
                first | exact absurd (by first | omega | exact e2 | (intro j hj; simp only [PV.toI, Option.getD_some, Nat.zero_add]; rw [e4 j hj]; simp [P0]; done) | decide) h13 | exact absurd h13 (by first | omega | exact e2 | (intro j hj; simp only [PV.toI, Option.getD_some, Nat.zero_add]; rw [e4 j hj]; simp [P0]; done) | decide)
            · have h12 := of_decide_eq_false h12
              first | exact absurd (by first | omega | exact e2 | (intro j hj; simp only [PV.toI, Option.getD_some, Nat.zero_add]; rw [e4 j hj]; simp [P0]; done) | decide) h12 | exact absurd h12 (by first | omega | exact e2 | (intro j hj; simp only [PV.toI, Option.getD_some, Nat.zero_add]; rw [e4 j hj]; simp [P0]; done) | decide)
          · have h11 := of_decide_eq_false h11
            first | exact absurd (by first | omega | exact e2 | (intro j hj; simp only [PV.toI, Option.getD_some, Nat.zero_add]; rw [e4 j hj]; simp [P0]; done) | decide) h11 | exact absurd h11 (by first | omega | exact e2 | (intro j hj; simp only [PV.toI, Option.getD_some, Nat.zero_add]; rw [e4 j hj]; simp [P0]; done) | decide)
        · have h10 := of_decide_eq_false h10
          first | exact absurd (by first | omega | exact e2 | (intro j hj; simp only [PV.toI, Option.getD_some, Nat.zero_add]; rw [e4 j hj]; simp [P0]; done) | decide) h10 | exact absurd h10 (by first | omega | exact e2 | (intro j hj; simp only [PV.toI, Option.getD_some, Nat.zero_add]; rw [e4 j hj]; simp [P0]; done) | decide)
      · have h9 := of_decide_eq_false h9
        first | exact absurd (by first | omega | exact e2 | (intro j hj; simp only [PV.toI, Option.getD_some, Nat.zero_add]; rw [e4 j hj]; simp [P0]; done) | decide) h9 | exact absurd h9 (by first | omega | exact e2 | (intro j hj; simp only [PV.toI, Option.getD_some, Nat.zero_add]; rw [e4 j hj]; simp [P0]; done) | decide)
    · have h7 := of_decide_eq_false h7
      first | exact absurd (by first | omega | exact e2 | (intro j hj; simp only [PV.toI, Option.getD_some, Nat.zero_add]; rw [e4 j hj]; simp [P0]; done) | decide) h7 | exact absurd h7 (by first | omega | exact e2 | (intro j hj; simp only [PV.toI, Option.getD_some, Nat.zero_add]; rw [e4 j hj]; simp [P0]; done) | decide)
  · have h5 := of_decide_eq_false h5
    first | exact absurd (by first | omega | exact e2 | (intro j hj; simp only [PV.toI, Option.getD_some, Nat.zero_add]; rw [e4 j hj]; simp [P0]; done) | decide) h5 | exact absurd h5 (by first | omega | exact e2 | (intro j hj; simp only [PV.toI, Option.getD_some, Nat.zero_add]; rw [e4 j hj]; simp [P0]; done) | decide)

/-! ### sodality/sodalitylaw05.great -/
def greatSp : Sp := ⟨[], mkE (α := (List UInt8)) (fun b => [.p (.bs (b))]) (fun b => []) (fun b => True) (fun b => [.p (.v (.bool (decide (3000 < (b.length : Int)))))]) (fun b => [])⟩
def S_great : FuncId → Option Sp := fun _ => none
theorem S_great_ok : ∀ f s, S_great f = some s → FOK Tryd.prog gl f s := fun f s h => by cases h
theorem S_great_det : ∀ f s, S_great f = some s → SpDet s.sp := fun f s h => by cases h
set_option maxHeartbeats 1000000 in
set_option maxRecDepth 1000 in
theorem great_ok : FOK Tryd.prog gl 7 greatSp := by
  refine FOK.ofE (tyOf_ok Tryd.prog) (slots := [2]) (nt := 6) Tryd.func7 rfl rfl rfl rfl (by decide) 1 (fun _ => rfl) (by decide) (fun _ => ⟨trivial, trivial⟩) ?_
  rintro b kk hlen hpre h
  have hl0 : (b).length ≤ 9223372036854775807 := hlen.1
  replace hpre : True := hpre
  show HT (cx Tryd.prog 6 (tyOf Tryd.prog) gl []) _ [(0, .p (.bs (b)))] [] _
  refine HT.seq ?_
  refine HT.region S_great_ok ?_
  refine So.n (Nat.le_of_ble_eq_true rfl) (A.v rfl (V.as (v := .p (.v (.bool false))) rfl ?_))
  refine So.e ?_
  show HT _ _ _ _ _
  refine HT.seq ?_
  refine HT.region S_great_ok ?_
  refine So.n (Nat.le_of_ble_eq_true rfl) (A.v rfl (V.mv (v := .p (.bs _)) rfl ?_))
  refine So.n (Nat.le_of_ble_eq_true rfl) (A.v rfl (V.len ty22 (v := .p (.bs _)) rfl rfl ?_))
  refine So.n (Nat.le_of_ble_eq_true rfl) (A.v rfl (V.bin (a := (.v (.int .i64 _))) (b := (.v (.int .i64 (3000)))) (r := .v (.bool _)) rfl rfl rfl trivial ?_))
  refine So.n (Nat.le_of_ble_eq_true rfl) (A.v rfl (V.as (v := .p (.v (.bool _))) rfl ?_))
  refine So.e ?_
  show HT _ _ _ _ _
  refine HT.ret ?_
  exact ret_ok (sg []) h rfl rfl rfl trivial ⟨trivial, trivial⟩ rfl ⟨⟨⟨le_bool (by first | rfl | omega | (simp; done) | (simp; omega)), trivial⟩, trivial⟩, trivial⟩

end Go.Vk

set_option linter.unusedVariables false
set_option linter.unusedSimpArgs false
namespace Go.Vk
open Go Go.Vc Go.Proofs

/-! ### sodality/small.each -/
def seachSp : Sp := ⟨[], mkE (α := (Nat → Int) × (Nat → Int)) (fun (a, b) => [.agg 256 (fun j => .v (.int .i64 (a j))), .agg 256 (fun j => .v (.int .i64 (b j))), .clo 23 []]) (fun (a, b) => []) (fun (a, b) => True) (fun (a, b) => [.agg 256 (fun j => .v (.int .i64 (b j % 3329)))]) (fun (a, b) => [])⟩
def S_seach : FuncId → Option Sp := fun f => if f = 28 then some smodSp else if f = 23 then some smod1Sp else none
theorem S_seach_ok : ∀ f s, S_seach f = some s → FOK Tryd.prog gl f s := fun f s h => by
  unfold S_seach at h
  split at h
  · rename_i e; cases h; subst e; exact smod_ok
  split at h
  · rename_i e; cases h; subst e; exact smod1_ok
  cases h
theorem S_seach_det : ∀ f s, S_seach f = some s → SpDet s.sp := fun f s h => by
  unfold S_seach at h
  split at h
  · cases h; exact mkE_det _ _ _ _ _
  split at h
  · cases h; exact mkE_det _ _ _ _ _
  cases h
set_option maxHeartbeats 1000000 in
set_option maxRecDepth 20000 in
theorem seach_ok : FOK Tryd.prog gl 22 seachSp := by
  refine FOK.ofEC (tyOf_ok Tryd.prog) (rvs := [.cell 6 25]) (nt := 26) Tryd.func22 rfl rfl rfl rfl (by decide) 3 (fun ⟨_, _⟩ => rfl) (by decide) (fun ⟨_, _⟩ => ⟨trivial, trivial, trivial, trivial⟩) ?_
  rintro ⟨a, b⟩ kk hlen hpre h
  replace hpre : True := hpre
  show HT (cx Tryd.prog 26 (tyOf Tryd.prog) gl []) _ [(0, .agg 256 (fun j => .v (.int .i64 (a j)))), (1, .agg 256 (fun j => .v (.int .i64 (b j)))), (2, .clo 23 [])] [] _
  refine HT.seq ?_
  refine HT.region S_seach_ok ?_
  refine So.n (Nat.le_of_ble_eq_true rfl) (A.boxAg 1 1 (n := 256) rfl (by intro j hj; first | rfl | trivial | (split <;> first | rfl | trivial | (split <;> first | rfl | trivial))) rfl trivial ?_)
  refine So.n (Nat.le_of_ble_eq_true rfl) (A.boxAg 2 1 (n := 256) rfl (by intro j hj; first | rfl | trivial | (split <;> first | rfl | trivial | (split <;> first | rfl | trivial))) rfl trivial ?_)
  refine So.n (Nat.le_of_ble_eq_true rfl) (A.alloc 3 1 ty25 rfl trivial (f := fun _ => .v (.int .i64 0)) (fun _ _ => rfl) ?_)
  refine So.e ?_
  show HT _ _ _ _ _
  refine HT.seq ?_
  refine HT.seq ?_
  refine HT.region S_seach_ok ?_
  refine So.n (Nat.le_of_ble_eq_true rfl) (A.v rfl (V.mv (v := .p (.v (.int .i64 (0)))) rfl ?_))
  refine So.e ?_
  show HT _ _ _ _ _
  refine HT.block ?_
  refine R.loop (σ := Nat) (fun s => [(8, .p (.v (.int .i64 ((s : Int)))))]) (fun s => [(1, ⟨25, 1, 256, true, .rows (fun j => .v (.int .i64 (if j < s then b j % 3329 else a j)))⟩)]) [2, 3, 4, 6] [2, 3] (fun s => s ≤ 256) (fun s => 256 - s) (0) (fr0 := [(2, .clo 23 []), (3, .ptr 1 0), (4, .ptr 2 0), (6, .ptr 3 0)]) (O0 := [(2, ⟨_, _, _, _, .rows _⟩), (3, ⟨_, _, _, _, .rows _⟩)]) rfl rfl (by first | rfl | omega | (simp; done) | (simp; omega)) ⟨⟨⟨le_int (by first | rfl | omega | (simp; done)), trivial⟩, ⟨.refl _, trivial⟩, ⟨.refl _, rfl⟩, ⟨.refl _, rfl⟩, ⟨.refl _, rfl⟩, trivial⟩, ⟨⟨_, rfl, .inr (ob_rows (by first | rfl | ((try dsimp only); first | rfl | omega | (simp; done))) (by first | rfl | ((try dsimp only); first | rfl | omega | (simp; done)))), trivial⟩, ⟨_, rfl, .inl rfl, trivial⟩, ⟨_, rfl, .inl rfl, trivial⟩, trivial⟩⟩ (fun s hP0 => ?_)
  refine HT.seq ?_
  refine HT.region S_seach_ok ?_
  refine So.n (Nat.le_of_ble_eq_true rfl) (A.v rfl (V.bin (a := (.v (.int .i64 ((_ : Nat) : Int)))) (b := (.v (.int .i64 (256)))) (r := .v (.bool _)) rfl rfl rfl trivial ?_))
  refine So.e ?_
  show HT _ _ _ _ _
  refine HT.seq ?_
  refine R.cond rfl rfl (fun h1 => ?_) (fun h1 => ?_)
  · have h1 := of_decide_eq_true h1
    refine HT.skip ?_
    show HT _ _ _ _ _
    refine HT.seq ?_
    refine HT.block ?_
    refine HT.seq ?_
    refine HT.region S_seach_ok ?_
    refine So.n (Nat.le_of_ble_eq_true rfl) (A.v rfl (V.mv (v := .p (.v (.int .i64 ((_ : Nat) : Int)))) rfl ?_))
    refine So.n (Nat.le_of_ble_eq_true rfl) (A.v rfl (V.as (v := .p (.v (.int .i64 ((_ : Nat) : Int)))) rfl ?_))
    refine So.e ?_
    show HT _ _ _ _ _
    refine HT.planS S_seach_ok S_seach_det mixed [] [⟨[0, 1, 2, 3, 4, 5, 6, 7, 8, 9], 10, [0]⟩, ⟨[0, 11, 12], 13, []⟩] (by kernel_rfl) ?_
    refine Pl.lk ?_
    refine Si.n rfl (Nat.le_of_ble_eq_true rfl) (V.mv (v := .p (.v (.int .i64 ((_ : Nat) : Int)))) rfl ?_)
    refine Si.n rfl (Nat.le_of_ble_eq_true rfl) (V.mv (v := .clo 23 []) rfl ?_)
    refine Si.n rfl (Nat.le_of_ble_eq_true rfl) (V.mv (v := .p (.v (.int .i64 ((_ : Nat) : Int)))) rfl ?_)
    refine Si.n rfl (Nat.le_of_ble_eq_true rfl) (V.ixArrP10 ty25 ty3 rfl rfl rfl (by first | rfl | omega | (simp; done) | (simp; omega)) rfl (by omega) (Int.toNat_natCast _) ?_)
    refine Si.n rfl (Nat.le_of_ble_eq_true rfl) (V.ldPtr ty3 rfl rfl rfl (by first | rfl | omega | (simp; done) | (simp; omega)) (v := .p (.v (.int .i64 _))) rfl ?_)
    refine Si.n rfl (Nat.le_of_ble_eq_true rfl) (V.call [.p (.v (.int .i64 _))] 4 rfl rfl rfl rfl ⟨trivial, trivial⟩ trivial _ ⟨.refl _, trivial⟩ trivial (by trivial) (Φ := fun _ => True) (fun _ _ => trivial) (.inl ⟨trivial, trivial⟩) (v := .p (.v (.int .i64 _))) rfl (fun h2 => ?_))
    refine Si.n rfl (Nat.le_of_ble_eq_true rfl) (V.mv (v := .p (.v (.int .i64 ((_ : Nat) : Int)))) rfl ?_)
    refine Si.n rfl (Nat.le_of_ble_eq_true rfl) (V.ixArrP10 ty25 ty3 rfl rfl rfl (by first | rfl | omega | (simp; done) | (simp; omega)) rfl (by omega) (Int.toNat_natCast _) ?_)
    refine Si.n rfl (Nat.le_of_ble_eq_true rfl) (V.ldPtr ty3 rfl rfl rfl (by first | rfl | omega | (simp; done) | (simp; omega)) (v := .p (.v (.int .i64 _))) rfl ?_)
    refine Si.n rfl (Nat.le_of_ble_eq_true rfl) (V.call [.p (.v (.int .i64 _))] 4 rfl rfl rfl rfl ⟨trivial, trivial⟩ trivial _ ⟨.refl _, trivial⟩ trivial (by trivial) (Φ := fun _ => True) (fun _ _ => trivial) (.inl ⟨trivial, trivial⟩) (v := .p (.v (.int .i64 _))) rfl (fun h3 => ?_))
    refine Si.e ?_
    refine ⟨flEq_nil, fun ff => ?_⟩
    refine Lo.n rfl (Nat.le_of_ble_eq_true rfl) (A.call0 [.p (.v (.int .i64 _)), .p (.v (.int .i64 _))] 4 rfl rfl rfl rfl ⟨trivial, trivial, trivial⟩ trivial (_, _) ⟨.refl _, .refl _, trivial⟩ trivial (by trivial) (Φ := fun _ => True) (fun _ _ => trivial) (.inl rfl) (v := .p (.v (.int .i64 _))) rfl (O' := _) rfl (fun h4 => ?_))
    refine ⟨_, fun ff => ff, ap0d, rfl, FG.id, ?_⟩
    show planA _ _ _ _ _ [(0, .p (.v (.int .i64 ((_ : Nat) : Int))))] _ _ _
    refine Pl.l0 ?_
    refine Si.n rfl (Nat.le_of_ble_eq_true rfl) (V.mv (v := .p (.v (.int .i64 ((_ : Nat) : Int)))) rfl ?_)
    refine Si.n rfl (Nat.le_of_ble_eq_true rfl) (V.call [.p (.v (.int .i64 _))] 4 rfl rfl rfl rfl ⟨trivial, trivial⟩ trivial _ ⟨.refl _, trivial⟩ trivial (by trivial) (Φ := fun _ => True) (fun _ _ => trivial) (.inl ⟨trivial, trivial⟩) (v := .p (.v (.int .i64 _))) rfl (fun h5 => ?_))
    refine Si.n rfl (Nat.le_of_ble_eq_true rfl) (V.ixArrP10 ty25 ty3 rfl rfl rfl (by first | rfl | omega | (simp; done) | (simp; omega)) rfl (by omega) (Int.toNat_natCast _) ?_)
    refine Si.e ?_
    refine ⟨(flEq_cons rfl flEq_nil), ?_⟩
    refine Lo.s rfl (A.sto ty3 rfl rfl rfl (v := .p (.v (.int .i64 _))) rfl rfl rfl (by first | rfl | omega | (simp; done) | (simp; omega)) (c' := .rows (fun j => .v (.int .i64 (if j = s then (b s % 3329) % 3329 else if j < s then b j % 3329 else a j)))) (congrArg (fun g => some (OC.rows g)) (funext fun j => by by_cases h9 : j = s <;> simp [h9])) rfl ?_)
    refine Pl.e ?_
    refine Si.e ?_
    refine ⟨flEq_nil, ?_⟩
    show HT _ _ _ _ _
    refine HT.region S_seach_ok ?_
    refine So.n (Nat.le_of_ble_eq_true rfl) (A.v rfl (V.addI rfl rfl (by omega) ?_))
    refine So.n (Nat.le_of_ble_eq_true rfl) (A.v rfl (V.mv (v := .p (.v (.int .i64 _))) rfl ?_))
    refine So.e ?_
    refine ⟨s + 1, by first | rfl | omega | (simp; done) | (simp; omega), by omega, ⟨⟨⟨le_int (by first | rfl | omega | (simp; done) | (simp; omega)), trivial⟩, ⟨.refl _, trivial⟩, ⟨.refl _, rfl⟩, ⟨.refl _, rfl⟩, ⟨.refl _, rfl⟩, trivial⟩, ⟨⟨_, rfl, .inr (ob_rows (by first | rfl | ((try dsimp only); first | rfl | omega | (intro j hj; exact each_put j))) (by first | rfl | ((try dsimp only); first | rfl | omega | (intro j hj; exact each_put j)))), trivial⟩, ⟨_, rfl, .inl rfl, trivial⟩, ⟨_, rfl, .inl rfl, trivial⟩, trivial⟩⟩⟩
  · have h1 := of_decide_eq_false h1
    refine HT.exit ?_
    show HT _ _ _ _ _
    refine HT.seq ?_
    refine HT.region S_seach_ok ?_
    refine So.n (Nat.le_of_ble_eq_true rfl) (A.v rfl (V.ldPtrA ty25 rfl rfl rfl rfl (by first | rfl | omega | (simp; done) | (simp; omega)) ?_))
    refine So.s (A.stoAg ty25 rfl (n := 256) rfl (by decide) (by intro j hj; first | rfl | trivial) rfl rfl rfl ?_)
    refine So.e ?_
    show HT _ _ _ _ _
    refine HT.ret ?_
    exact retC_ok (sg []) [(6, .ptr 3 0)] [(3, ⟨25, 1, 256, true, .rows (fun j => .v (.int .i64 (b j % 3329)))⟩)] h ⟨⟨⟨.refl _, rfl⟩, trivial⟩, ⟨⟨_, rfl, .inr (ob_rows rfl (by intro j hj; first | rfl | ((try dsimp only); (first | rfl | (replace hP0 : s = 256 := (by omega); subst hP0; simp [hj]; done))))), trivial⟩, trivial⟩⟩ ⟨rvA_cell ty25 rfl rfl rfl rfl (Nat.le_refl _) (le_agg (fun j _ => by first | rfl | (dsimp only; rw [Nat.zero_add]))), trivial⟩ trivial rfl trivial ⟨trivial, trivial⟩ rfl

/-! ### sodality/small.Mod -/
def sModSp : Sp := ⟨[], mkE (α := (Nat → Int)) (fun p => [.agg 256 (fun j => .v (.int .i64 (p j)))]) (fun p => []) (fun p => True) (fun p => [.agg 256 (fun j => .v (.int .i64 (p j % 3329)))]) (fun p => [])⟩
def S_sMod : FuncId → Option Sp := fun f => if f = 22 then some seachSp else none
theorem S_sMod_ok : ∀ f s, S_sMod f = some s → FOK Tryd.prog gl f s := fun f s h => by
  unfold S_sMod at h
  split at h
  · rename_i e; cases h; subst e; exact seach_ok
  cases h
theorem S_sMod_det : ∀ f s, S_sMod f = some s → SpDet s.sp := fun f s h => by
  unfold S_sMod at h
  split at h
  · cases h; exact mkE_det _ _ _ _ _
  cases h
set_option maxHeartbeats 1000000 in
set_option maxRecDepth 20000 in
theorem sMod_ok : FOK Tryd.prog gl 15 sModSp := by
  refine FOK.ofEC (tyOf_ok Tryd.prog) (rvs := [.cell 2 25]) (nt := 6) Tryd.func15 rfl rfl rfl rfl (by decide) 1 (fun _ => rfl) (by decide) (fun _ => ⟨trivial, trivial⟩) ?_
  rintro p kk hlen hpre h
  replace hpre : True := hpre
  show HT (cx Tryd.prog 6 (tyOf Tryd.prog) gl []) _ [(0, .agg 256 (fun j => .v (.int .i64 (p j))))] [] _
  refine HT.seq ?_
  refine HT.region S_sMod_ok ?_
  refine So.n (Nat.le_of_ble_eq_true rfl) (A.boxAg 1 1 (n := 256) rfl (by intro j hj; first | rfl | trivial | (split <;> first | rfl | trivial | (split <;> first | rfl | trivial))) rfl trivial ?_)
  refine So.n (Nat.le_of_ble_eq_true rfl) (A.alloc 2 1 ty25 rfl trivial (f := fun _ => .v (.int .i64 0)) (fun _ _ => rfl) ?_)
  refine So.e ?_
  show HT _ _ _ _ _
  refine HT.seq ?_
  refine HT.region S_sMod_ok ?_
  refine So.n (Nat.le_of_ble_eq_true rfl) (A.v rfl (V.ldPtrA ty25 rfl rfl rfl rfl (by first | rfl | omega | (simp; done) | (simp; omega)) ?_))
  refine So.n (Nat.le_of_ble_eq_true rfl) (A.v rfl (V.ldPtrA ty25 rfl rfl rfl rfl (by first | rfl | omega | (simp; done) | (simp; omega)) ?_))
  refine So.n (Nat.le_of_ble_eq_true rfl) (A.call0 [.agg 256 _, .agg 256 _, .clo 23 []] 3 rfl rfl rfl rfl ⟨trivial, trivial, (fun _ hc => by cases hc), trivial⟩ trivial (_, _) ⟨.refl _, .refl _, .refl _, trivial⟩ trivial (by trivial) (Φ := fun _ => True) (fun _ _ => trivial) (.inl rfl) (v := .agg 256 _) rfl (O' := _) rfl (fun h1 => ?_))
  refine So.s (A.stoAg ty25 rfl (n := 256) rfl (by decide) (by intro j hj; first | rfl | trivial) rfl rfl rfl ?_)
  refine So.e ?_
  show HT _ _ _ _ _
  refine HT.ret ?_
  exact retC_ok (sg []) [(2, .ptr 2 0)] [(2, ⟨25, 1, 256, true, .rows (fun j => .v (.int .i64 (p j % 3329)))⟩)] h ⟨⟨⟨.refl _, rfl⟩, trivial⟩, ⟨⟨_, rfl, .inr (ob_rows rfl (by intro j hj; first | rfl | ((try dsimp only); (first | rfl | (rw [Nat.zero_add]))))), trivial⟩, trivial⟩⟩ ⟨rvA_cell ty25 rfl rfl rfl rfl (Nat.le_refl _) (le_agg (fun j _ => by first | rfl | (dsimp only; rw [Nat.zero_add]))), trivial⟩ trivial rfl trivial ⟨trivial, trivial⟩ rfl

end Go.Vk

set_option linter.unusedVariables false
set_option linter.unusedSimpArgs false
namespace Go.Vk
open Go Go.Vc Go.Proofs

/-! ### sodality/kpke.Centred -/
def centredSp : Sp := ⟨[], mkE (α := (List UInt8)) (fun b => [.p (.bs (b))]) (fun b => []) (fun b => True) (fun b => [.agg 256 (fun j => .v (.int .i64 ((cenF b).1 j))), .p (.v (.int .i64 ((cenF b).2)))]) (fun b => [])⟩
def S_centred : FuncId → Option Sp := fun f => if f = 15 then some sModSp else none
theorem S_centred_ok : ∀ f s, S_centred f = some s → FOK Tryd.prog gl f s := fun f s h => by
  unfold S_centred at h
  split at h
  · rename_i e; cases h; subst e; exact sMod_ok
  cases h
theorem S_centred_det : ∀ f s, S_centred f = some s → SpDet s.sp := fun f s h => by
  unfold S_centred at h
  split at h
  · cases h; exact mkE_det _ _ _ _ _
  cases h
set_option maxHeartbeats 1000000 in
set_option maxRecDepth 20000 in
theorem centred_ok : FOK Tryd.prog gl 6 centredSp := by
  refine FOK.ofEC (tyOf_ok Tryd.prog) (rvs := [.cell 2 25, .tmp 3]) (nt := 40) Tryd.func6 rfl rfl rfl rfl (by decide) 1 (fun _ => rfl) (by decide) (fun _ => ⟨trivial, trivial⟩) ?_
  rintro b kk hlen hpre h
  have hl0 : (b).length ≤ 9223372036854775807 := hlen.1
  replace hpre : True := hpre
  show HT (cx Tryd.prog 40 (tyOf Tryd.prog) gl []) _ [(0, .p (.bs (b)))] [] _
  refine HT.seq ?_
  refine HT.region S_centred_ok ?_
  refine So.n (Nat.le_of_ble_eq_true rfl) (A.alloc 1 1 ty25 rfl trivial (f := fun _ => .v (.int .i64 0)) (fun _ _ => rfl) ?_)
  refine So.n (Nat.le_of_ble_eq_true rfl) (A.v rfl (V.as (v := .p (.v (.int .i64 (0)))) rfl ?_))
  refine So.e ?_
  show HT _ _ _ _ _
  refine HT.seq ?_
  refine HT.seq ?_
  refine HT.region S_centred_ok ?_
  refine So.n (Nat.le_of_ble_eq_true rfl) (A.v rfl (V.mv (v := .p (.bs _)) rfl ?_))
  refine So.n (Nat.le_of_ble_eq_true rfl) (A.v rfl (V.len ty22 (v := .p (.bs _)) rfl rfl ?_))
  refine So.n (Nat.le_of_ble_eq_true rfl) (A.v rfl (V.bin (a := (.v (.int .i64 _))) (b := (.v (.int .i64 (128)))) (r := .v (.bool _)) rfl rfl rfl trivial ?_))
  refine So.e ?_
  show HT _ _ _ _ _
  refine R.cond rfl rfl (fun h1 => ?_) (fun h1 => ?_)
  · have h1 := of_decide_eq_false (bnT h1)
    refine HT.seq ?_
    refine HT.region S_centred_ok ?_
    refine So.n (Nat.le_of_ble_eq_true rfl) (A.bld0 ty25 rfl rfl rfl (f := fun _ => .v (.int .i64 0)) (fun _ _ => rfl) ?_)
    refine So.s (A.stoAg ty25 rfl (n := 256) rfl (by decide) (by intro j hj; first | rfl | trivial) rfl rfl rfl ?_)
    refine So.n (Nat.le_of_ble_eq_true rfl) (A.v rfl (V.as (v := .p (.v (.int .i64 (1)))) rfl ?_))
    refine So.e ?_
    show HT _ _ _ _ _
    refine HT.ret ?_
    exact retC_ok (sg []) [(2, .ptr 1 0), (3, .p (.v (.int .i64 ((cenF b).2))))] [(1, ⟨25, 1, 256, true, .rows (fun j => .v (.int .i64 ((cenF b).1 j)))⟩)] h ⟨⟨⟨.refl _, rfl⟩, ⟨le_int (by first | rfl | (unfold cenF; rw [if_neg (show ¬ b.length ≠ 128 by omega)]; first | done | rfl) | (unfold cenF; rw [if_pos (show b.length ≠ 128 by omega)]; first | done | rfl) | (unfold cenF; rw [if_neg (show ¬ b.length ≠ 128 by omega)]; replace hP0 : s = 256 := (by omega); subst hP0; simp [hj]; done)), trivial⟩, trivial⟩, ⟨⟨_, rfl, .inr (ob_rows rfl (by intro j hj; first | rfl | ((try dsimp only); (first | rfl | (unfold cenF; rw [if_neg (show ¬ b.length ≠ 128 by omega)]; first | done | rfl) | (unfold cenF; rw [if_pos (show b.length ≠ 128 by omega)]; first | done | rfl) | (unfold cenF; rw [if_neg (show ¬ b.length ≠ 128 by omega)]; replace hP0 : s = 256 := (by omega); subst hP0; simp [hj]; done))))), trivial⟩, trivial⟩⟩ ⟨rvA_cell ty25 rfl rfl rfl rfl (Nat.le_refl _) (le_agg (fun j _ => by first | rfl | (dsimp only; rw [Nat.zero_add]))), .refl _, trivial⟩ trivial rfl trivial ⟨trivial, trivial, trivial⟩ rfl
  · have h1 := of_decide_eq_true (bnF h1)
    refine HT.skip ?_
    show HT _ _ _ _ _
    refine HT.seq ?_
    refine HT.region S_centred_ok ?_
    refine So.n (Nat.le_of_ble_eq_true rfl) (A.bldA ty36 rfl rfl ⟨by first | exact trivial | exact rfl | (intro j hj; first | trivial | rfl | (simp [BV.one]; done)), by first | exact trivial | exact rfl | (intro j hj; first | trivial | rfl | (simp [BV.one]; done)), by first | exact trivial | exact rfl | (intro j hj; first | trivial | rfl | (simp [BV.one]; done)), by first | exact trivial | exact rfl | (intro j hj; first | trivial | rfl | (simp [BV.one]; done)), trivial⟩ rfl (f := fun j => .v (.int .i64 (mN j))) (by exact allP_spec (P := fun j => _ = _) ⟨⟨⟨⟨trivial, rfl⟩, rfl⟩, rfl⟩, rfl⟩) ?_)
    refine So.n (Nat.le_of_ble_eq_true rfl) (A.alloc 2 1 ty36 rfl trivial (f := fun _ => .v (.int .i64 0)) (fun _ _ => rfl) ?_)
    refine So.s (A.stoAg ty36 rfl (n := 4) rfl (by decide) (by intro j hj; first | rfl | trivial | (match j, hj with | 0, _ => trivial | 1, _ => trivial | 2, _ => trivial | 3, _ => trivial)) rfl rfl rfl ?_)
    refine So.e ?_
    show HT _ _ _ _ _
    refine HT.seq ?_
    refine HT.region S_centred_ok ?_
    refine So.n (Nat.le_of_ble_eq_true rfl) (A.alloc 3 1 ty25 rfl trivial (f := fun _ => .v (.int .i64 0)) (fun _ _ => rfl) ?_)
    refine So.e ?_
    show HT _ _ _ _ _
    refine HT.seq ?_
    refine HT.seq ?_
    refine HT.region S_centred_ok ?_
    refine So.n (Nat.le_of_ble_eq_true rfl) (A.v rfl (V.mv (v := .p (.v (.int .i64 (0)))) rfl ?_))
    refine So.e ?_
    show HT _ _ _ _ _
    refine HT.block ?_
    refine R.loop (σ := Nat) (fun s => [(13, .p (.v (.int .i64 ((s : Int)))))]) (fun s => [(3, ⟨25, 1, 256, true, .rows (fun j => .v (.int .i64 (if j < s then cnP b j else 0)))⟩)]) [0, 2, 3, 4, 5] [1, 2] (fun s => s ≤ 256) (fun s => 256 - s) (0) (fr0 := [(0, .p (.bs _)), (2, .ptr 1 0), (3, .p (.v (.int .i64 _))), (4, .ptr 2 0), (5, .ptr 3 0)]) (O0 := [(1, ⟨_, _, _, _, .rows _⟩), (2, ⟨_, _, _, _, .rows _⟩)]) rfl rfl (by first | rfl | omega | (simp; done) | (simp; omega)) ⟨⟨⟨le_int (by first | rfl | (simp; done)), trivial⟩, ⟨.refl _, trivial⟩, ⟨.refl _, rfl⟩, ⟨.refl _, trivial⟩, ⟨.refl _, rfl⟩, ⟨.refl _, rfl⟩, trivial⟩, ⟨⟨_, rfl, .inr (ob_rows (by first | rfl | ((try dsimp only); first | rfl | (simp; done))) (by first | rfl | ((try dsimp only); first | rfl | (simp; done)))), trivial⟩, ⟨_, rfl, .inl rfl, trivial⟩, ⟨_, rfl, .inl rfl, trivial⟩, trivial⟩⟩ (fun s hP0 => ?_)
    refine HT.seq ?_
    refine HT.region S_centred_ok ?_
    refine So.n (Nat.le_of_ble_eq_true rfl) (A.v rfl (V.bin (a := (.v (.int .i64 ((_ : Nat) : Int)))) (b := (.v (.int .i64 (256)))) (r := .v (.bool _)) rfl rfl rfl trivial ?_))
    refine So.e ?_
    show HT _ _ _ _ _
    refine HT.seq ?_
    refine R.cond rfl rfl (fun h2 => ?_) (fun h2 => ?_)
    · have h2 := of_decide_eq_true h2
      refine HT.skip ?_
      show HT _ _ _ _ _
      refine HT.seq ?_
      refine HT.block ?_
      refine HT.seq ?_
      refine HT.region S_centred_ok ?_
      refine So.n (Nat.le_of_ble_eq_true rfl) (A.v rfl (V.mv (v := .p (.v (.int .i64 ((_ : Nat) : Int)))) rfl ?_))
      refine So.n (Nat.le_of_ble_eq_true rfl) (A.v rfl (V.as (v := .p (.v (.int .i64 ((_ : Nat) : Int)))) rfl ?_))
      refine So.e ?_
      show HT _ _ _ _ _
      refine HT.seq ?_
      refine HT.region S_centred_ok ?_
      have hbl : b.length = 128 := by omega
      refine So.n (Nat.le_of_ble_eq_true rfl) (A.v rfl (V.mv (v := .p (.bs _)) rfl ?_))
      refine So.n (Nat.le_of_ble_eq_true rfl) (A.v rfl (V.mv (v := .p (.v (.int .i64 ((_ : Nat) : Int)))) rfl ?_))
      refine So.n (Nat.le_of_ble_eq_true rfl) (A.v rfl (V.quoI rfl rfl (by omega) ?_))
      refine So.n (Nat.le_of_ble_eq_true rfl) (A.v rfl (V.ixBs (mi := s / 2) ty22 ty5 rfl rfl rfl (by omega) (by omega) ?_))
      refine So.n (Nat.le_of_ble_eq_true rfl) (A.v rfl (V.ldRp ty5 rfl rfl (Nat.le_of_ble_eq_true rfl) (v := (.u8 _)) rfl ?_))
      refine So.n (Nat.le_of_ble_eq_true rfl) (A.v rfl (V.mv (v := .p (.v (.int .i64 ((_ : Nat) : Int)))) rfl ?_))
      refine So.n (Nat.le_of_ble_eq_true rfl) (A.v rfl (V.remI rfl rfl (by omega) ?_))
      refine So.n (Nat.le_of_ble_eq_true rfl) (A.v rfl (V.mulI rfl rfl (by omega) ?_))
      refine So.n (Nat.le_of_ble_eq_true rfl) (A.v rfl (V.bin (a := (.u8 _)) (b := (.v (.int .i64 _))) (r := .u8 _) rfl rfl rfl (by first | rfl | omega | (simp; done) | (simp; omega)) ?_))
      refine So.n (Nat.le_of_ble_eq_true rfl) (A.v rfl (V.as (v := .p (.u8 _)) rfl ?_))
      refine So.e ?_
      show HT _ _ _ _ _
      refine R.tell [(7, .p (.u8 (fourF b s)))] [] [0, 2, 3, 4, 5, 6, 13, 14, 15, 16, 17, 18, 19, 20, 21, 22, 23, 24] [1, 2, 3] (fr0 := [(0, .p (.bs _)), (2, .ptr 1 0), (3, .p (.v (.int .i64 _))), (4, .ptr 2 0), (5, .ptr 3 0), (6, .p (.v (.int .i64 ((_ : Nat) : Int)))), (13, .p (.v (.int .i64 ((_ : Nat) : Int)))), (14, .p (.v (.bool true))), (15, .p (.v (.int .i64 ((_ : Nat) : Int)))), (16, .p (.bs _)), (17, .p (.v (.int .i64 ((_ : Nat) : Int)))), (18, .p (.v (.int .i64 _))), (19, .rp _ _), (20, .p (.u8 _)), (21, .p (.v (.int .i64 ((_ : Nat) : Int)))), (22, .p (.v (.int .i64 _))), (23, .p (.v (.int .i64 _))), (24, .p (.u8 _))]) (O0 := [(1, ⟨_, _, _, _, .rows _⟩), (2, ⟨_, _, _, _, .rows _⟩), (3, ⟨_, _, _, _, .rows _⟩)]) rfl rfl ⟨⟨⟨le_u8 (by first | rfl | exact four_eq b s), trivial⟩, ⟨.refl _, trivial⟩, ⟨.refl _, rfl⟩, ⟨.refl _, trivial⟩, ⟨.refl _, rfl⟩, ⟨.refl _, rfl⟩, ⟨.refl _, trivial⟩, ⟨.refl _, trivial⟩, ⟨.refl _, trivial⟩, ⟨.refl _, trivial⟩, ⟨.refl _, trivial⟩, ⟨.refl _, trivial⟩, ⟨.refl _, trivial⟩, ⟨.refl _, trivial⟩, ⟨.refl _, trivial⟩, ⟨.refl _, trivial⟩, ⟨.refl _, trivial⟩, ⟨.refl _, trivial⟩, ⟨.refl _, trivial⟩, trivial⟩, ⟨⟨_, rfl, .inl rfl, trivial⟩, ⟨_, rfl, .inl rfl, trivial⟩, ⟨_, rfl, .inl rfl, trivial⟩, trivial⟩⟩ ?_
      show HT _ _ _ _ _
      refine HT.tail S_centred_ok mixed 12 (by kernel_rfl) (by kernel_rfl) ?_
      have ha1 := and3 (fourF b s)
      have ha2 := and3 (u8Shr (fourF b s) 2)
      have hm1 := mN_b (fourF b s &&& 3).toNat
      have hm2 := mN_b (u8Shr (fourF b s) 2 &&& 3).toNat
      refine So.n (Nat.le_of_ble_eq_true rfl) (A.v rfl (V.mv (v := .p (.v (.int .i64 ((_ : Nat) : Int)))) rfl ?_))
      refine So.n (Nat.le_of_ble_eq_true rfl) (A.v rfl (V.mv (v := .p (.u8 _)) rfl ?_))
      refine So.n (Nat.le_of_ble_eq_true rfl) (A.v rfl (V.bin (a := (.u8 _)) (b := (.u8 3)) (r := .u8 _) rfl rfl rfl trivial ?_))
      refine So.n (Nat.le_of_ble_eq_true rfl) (A.v rfl (V.ixArrP10T (mi := (fourF b s &&& 3).toNat) ty36 ty3 rfl rfl rfl (by first | rfl | omega | (simp; done) | (simp; omega)) rfl (by omega) (by omega) ?_))
      refine So.n (Nat.le_of_ble_eq_true rfl) (A.v rfl (V.ldPtr ty3 rfl rfl rfl (by first | rfl | omega | (simp; done) | (simp; omega)) (v := .p (.v (.int .i64 _))) rfl ?_))
      refine So.n (Nat.le_of_ble_eq_true rfl) (A.v rfl (V.mv (v := .p (.u8 _)) rfl ?_))
      refine So.n (Nat.le_of_ble_eq_true rfl) (A.v rfl (V.shrC (n := 2) (a := (.u8 _)) (b := (.u64 2)) (r := .u8 (u8Shr _ 2)) rfl rfl rfl rfl ?_))
      refine So.n (Nat.le_of_ble_eq_true rfl) (A.v rfl (V.bin (a := (.u8 _)) (b := (.u8 3)) (r := .u8 _) rfl rfl rfl trivial ?_))
      refine So.n (Nat.le_of_ble_eq_true rfl) (A.v rfl (V.ixArrP10T (mi := (u8Shr (fourF b s) 2 &&& 3).toNat) ty36 ty3 rfl rfl rfl (by first | rfl | omega | (simp; done) | (simp; omega)) rfl (by omega) (by omega) ?_))
      refine So.n (Nat.le_of_ble_eq_true rfl) (A.v rfl (V.ldPtr ty3 rfl rfl rfl (by first | rfl | omega | (simp; done) | (simp; omega)) (v := .p (.v (.int .i64 _))) rfl ?_))
      refine So.n (Nat.le_of_ble_eq_true rfl) (A.v rfl (V.subI rfl rfl (by omega) ?_))
      refine So.n (Nat.le_of_ble_eq_true rfl) (A.v rfl (V.ixArrP10 ty25 ty3 rfl rfl rfl (by first | rfl | omega | (simp; done) | (simp; omega)) rfl (by omega) (Int.toNat_natCast _) ?_))
      refine So.s (A.sto ty3 rfl rfl rfl (v := .p (.v (.int .i64 _))) rfl rfl rfl (by first | rfl | omega | (simp; done) | (simp; omega)) (c' := .rows (fun j => .v (.int .i64 (if j = s then cnP b s else if j < s then cnP b j else 0)))) (congrArg (fun g => some (OC.rows g)) (funext fun j => by by_cases h9 : j = s <;> simp [h9, cnP])) rfl ?_)
      refine So.e ?_
      show HT _ _ _ _ _
      refine HT.region S_centred_ok ?_
      refine So.n (Nat.le_of_ble_eq_true rfl) (A.v rfl (V.addI rfl rfl (by omega) ?_))
      refine So.n (Nat.le_of_ble_eq_true rfl) (A.v rfl (V.mv (v := .p (.v (.int .i64 _))) rfl ?_))
      refine So.e ?_
      refine ⟨s + 1, by first | rfl | omega | (simp; done) | (simp; omega), by omega, ⟨⟨⟨le_int (by first | rfl | omega | (simp; done) | (simp; omega)), trivial⟩, ⟨.refl _, trivial⟩, ⟨.refl _, rfl⟩, ⟨.refl _, trivial⟩, ⟨.refl _, rfl⟩, ⟨.refl _, rfl⟩, trivial⟩, ⟨⟨_, rfl, .inr (ob_rows (by first | rfl | ((try dsimp only); first | rfl | omega | (intro j hj; exact cn_put j))) (by first | rfl | ((try dsimp only); first | rfl | omega | (intro j hj; exact cn_put j)))), trivial⟩, ⟨_, rfl, .inl rfl, trivial⟩, ⟨_, rfl, .inl rfl, trivial⟩, trivial⟩⟩⟩
    · have h2 := of_decide_eq_false h2
      refine HT.exit ?_
      show HT _ _ _ _ _
      refine HT.seq ?_
      refine HT.region S_centred_ok ?_
      refine So.n (Nat.le_of_ble_eq_true rfl) (A.v rfl (V.ldPtrA ty25 rfl rfl rfl rfl (by first | rfl | omega | (simp; done) | (simp; omega)) ?_))
      refine So.n (Nat.le_of_ble_eq_true rfl) (A.call0 [.agg 256 _] 4 rfl rfl rfl rfl ⟨trivial, trivial⟩ trivial _ ⟨.refl _, trivial⟩ trivial (by trivial) (Φ := fun _ => True) (fun _ _ => trivial) (.inl rfl) (v := .agg 256 _) rfl (O' := _) rfl (fun h3 => ?_))
      refine So.s (A.stoAg ty25 rfl (n := 256) rfl (by decide) (by intro j hj; first | rfl | trivial) rfl rfl rfl ?_)
      refine So.n (Nat.le_of_ble_eq_true rfl) (A.v rfl (V.as (v := .p (.v (.int .i64 (0)))) rfl ?_))
      refine So.e ?_
      show HT _ _ _ _ _
      refine HT.ret ?_
      exact retC_ok (sg []) [(2, .ptr 1 0), (3, .p (.v (.int .i64 ((cenF b).2))))] [(1, ⟨25, 1, 256, true, .rows (fun j => .v (.int .i64 ((cenF b).1 j)))⟩)] h ⟨⟨⟨.refl _, rfl⟩, ⟨le_int (by first | rfl | (unfold cenF; rw [if_neg (show ¬ b.length ≠ 128 by omega)]; first | done | rfl) | (unfold cenF; rw [if_pos (show b.length ≠ 128 by omega)]; first | done | rfl) | (unfold cenF; rw [if_neg (show ¬ b.length ≠ 128 by omega)]; replace hP0 : s = 256 := (by omega); subst hP0; simp [hj]; done)), trivial⟩, trivial⟩, ⟨⟨_, rfl, .inr (ob_rows rfl (by intro j hj; first | rfl | ((try dsimp only); (first | rfl | (unfold cenF; rw [if_neg (show ¬ b.length ≠ 128 by omega)]; first | done | rfl) | (unfold cenF; rw [if_pos (show b.length ≠ 128 by omega)]; first | done | rfl) | (unfold cenF; rw [if_neg (show ¬ b.length ≠ 128 by omega)]; replace hP0 : s = 256 := (by omega); subst hP0; simp [hj]; done))))), trivial⟩, trivial⟩⟩ ⟨rvA_cell ty25 rfl rfl rfl rfl (Nat.le_refl _) (le_agg (fun j _ => by first | rfl | (dsimp only; rw [Nat.zero_add]))), .refl _, trivial⟩ trivial rfl trivial ⟨trivial, trivial, trivial⟩ rfl

end Go.Vk

set_option linter.unusedVariables false
set_option linter.unusedSimpArgs false
namespace Go.Vk
open Go Go.Vc Go.Proofs

/-! ### sodality/sodalitylaw05.KpkeSmall -/
def lawSmallSp : Sp := ⟨[], mkE (α := (List UInt8) × UInt8) (fun (b, c) => [.p (.bs (b)), .p (.u8 (c))]) (fun (b, c) => []) (fun (b, c) => True) (fun (b, c) => [.p (.v (.bool true))]) (fun (b, c) => [])⟩
def S_lawSmall : FuncId → Option Sp := fun f => if f = 5 then some headSp else if f = 6 then some centredSp else none
theorem S_lawSmall_ok : ∀ f s, S_lawSmall f = some s → FOK Tryd.prog gl f s := fun f s h => by
  unfold S_lawSmall at h
  split at h
  · rename_i e; cases h; subst e; exact head_ok
  split at h
  · rename_i e; cases h; subst e; exact centred_ok
  cases h
theorem S_lawSmall_det : ∀ f s, S_lawSmall f = some s → SpDet s.sp := fun f s h => by
  unfold S_lawSmall at h
  split at h
  · cases h; exact mkE_det _ _ _ _ _
  split at h
  · cases h; exact mkE_det _ _ _ _ _
  cases h
set_option maxHeartbeats 1000000 in
set_option maxRecDepth 20000 in
theorem lawSmall_ok : FOK Tryd.prog gl 3 lawSmallSp := by
  refine FOK.ofE (tyOf_ok Tryd.prog) (slots := [4]) (nt := 89) Tryd.func3 rfl rfl rfl rfl (by decide) 2 (fun ⟨_, _⟩ => rfl) (by decide) (fun ⟨_, _⟩ => ⟨trivial, trivial, trivial⟩) ?_
  rintro ⟨b, c⟩ kk hlen hpre h
  have hl0 : (b).length ≤ 9223372036854775807 := hlen.1
  replace hpre : True := hpre
  show HT (cx Tryd.prog 89 (tyOf Tryd.prog) gl []) _ [(0, .p (.bs (b))), (1, .p (.u8 (c)))] [] _
  refine HT.seq ?_
  refine HT.region S_lawSmall_ok ?_
  refine So.n (Nat.le_of_ble_eq_true rfl) (A.v rfl (V.as (v := .p (.v (.bool false))) rfl ?_))
  refine So.e ?_
  show HT _ _ _ _ _
  refine HT.seq ?_
  refine HT.region S_lawSmall_ok ?_
  refine So.n (Nat.le_of_ble_eq_true rfl) (A.call0 [] 1 rfl rfl rfl rfl trivial trivial () trivial trivial (by trivial) (Φ := fun _ => True) (fun _ _ => trivial) (.inl rfl) (v := .p (.v (.bool true))) rfl (O' := _) rfl (fun h1 => ?_))
  refine So.n (Nat.le_of_ble_eq_true rfl) (A.v rfl (V.as (v := .p (.v (.bool true))) rfl ?_))
  refine So.e ?_
  show HT _ _ _ _ _
  refine HT.seq ?_
  refine HT.region S_lawSmall_ok ?_
  refine So.n (Nat.le_of_ble_eq_true rfl) (A.v rfl (V.mv (v := .p (.bs _)) rfl ?_))
  refine So.n (Nat.le_of_ble_eq_true rfl) (A.call0 [.p (.bs _)] 1 rfl rfl rfl rfl ⟨trivial, trivial⟩ trivial _ ⟨.refl _, trivial⟩ trivial (by trivial) (Φ := fun _ => True) (fun _ _ => trivial) (.inl rfl) (v := .tup 2 _) rfl (O' := _) rfl (fun h2 => ?_))
  refine So.n (Nat.le_of_ble_eq_true rfl) (A.v rfl (V.mv (v := .tup 2 _) rfl ?_))
  refine So.n (Nat.le_of_ble_eq_true rfl) (A.v rfl (V.ext rfl (Nat.le_of_ble_eq_true rfl) (v := .agg 256 _) rfl ?_))
  refine So.n (Nat.le_of_ble_eq_true rfl) (A.v rfl (V.ext rfl (Nat.le_of_ble_eq_true rfl) (v := .p (.v (.int .i64 _))) rfl ?_))
  refine So.n (Nat.le_of_ble_eq_true rfl) (A.alloc 1 1 ty25 rfl trivial (f := fun _ => .v (.int .i64 0)) (fun _ _ => rfl) ?_)
  refine So.s (A.stoAg ty25 rfl (n := 256) rfl (by decide) (by intro j hj; first | rfl | trivial) rfl rfl rfl ?_)
  refine So.n (Nat.le_of_ble_eq_true rfl) (A.v rfl (V.as (v := .p (.v (.int .i64 _))) rfl ?_))
  refine So.e ?_
  show HT _ _ _ _ _
  refine HT.seq ?_
  refine HT.seq ?_
  refine HT.region S_lawSmall_ok ?_
  have hc := cen_2 b
  refine So.n (Nat.le_of_ble_eq_true rfl) (A.v rfl (V.mv (v := .p (.v (.int .i64 _))) rfl ?_))
  refine So.n (Nat.le_of_ble_eq_true rfl) (A.v rfl (V.bin (a := (.v (.int .i64 _))) (b := (.v (.int .i64 (0)))) (r := .v (.bool _)) rfl rfl rfl trivial ?_))
  refine So.n (Nat.le_of_ble_eq_true rfl) (A.v rfl (V.mv (v := .p (.bs _)) rfl ?_))
  refine So.n (Nat.le_of_ble_eq_true rfl) (A.v rfl (V.len ty22 (v := .p (.bs _)) rfl rfl ?_))
  refine So.n (Nat.le_of_ble_eq_true rfl) (A.v rfl (V.bin (a := (.v (.int .i64 _))) (b := (.v (.int .i64 (128)))) (r := .v (.bool _)) rfl rfl rfl trivial ?_))
  refine So.n (Nat.le_of_ble_eq_true rfl) (A.v rfl (V.neBool ty4 rfl rfl ?_))
  refine So.e ?_
  show HT _ _ _ _ _
  refine R.cond rfl rfl (fun h3 => ?_) (fun h3 => ?_)
  · refine HT.seq ?_
    exfalso; have h9 : ((cenF b).2 = 0) ↔ ((b.length : Int) = 128) := hc.trans (by omega); simp [h9] at *
  · have h3 := eq_of_beq (bnF h3)
    refine HT.skip ?_
    show HT _ _ _ _ _
    refine HT.seq ?_
    refine HT.seq ?_
    refine HT.region S_lawSmall_ok ?_
    refine So.n (Nat.le_of_ble_eq_true rfl) (A.v rfl (V.as (v := .p (.v (.int .i64 (0)))) rfl ?_))
    refine So.e ?_
    show HT _ _ _ _ _
    refine HT.block ?_
    refine R.loop (σ := Nat) (fun s => [(8, .p (.v (.int .i64 ((s : Int)))))]) (fun s => []) [1, 5, 6] [1] (fun s => s ≤ 256) (fun s => 256 - s) (0) (fr0 := [(1, .p (.u8 _)), (5, .p (.v (.bool true))), (6, .ptr 1 0)]) (O0 := [(1, ⟨_, _, _, _, .rows _⟩)]) rfl rfl (by first | rfl | omega | (simp; done) | (simp; omega)) ⟨⟨⟨le_int (by first | rfl | omega), trivial⟩, ⟨.refl _, trivial⟩, ⟨.refl _, trivial⟩, ⟨.refl _, rfl⟩, trivial⟩, ⟨⟨_, rfl, .inl rfl, trivial⟩, trivial⟩⟩ (fun s hP0 => ?_)
    refine HT.seq ?_
    refine HT.seq ?_
    refine HT.region S_lawSmall_ok ?_
    refine So.n (Nat.le_of_ble_eq_true rfl) (A.v rfl (V.mv (v := .p (.v (.int .i64 ((_ : Nat) : Int)))) rfl ?_))
    refine So.n (Nat.le_of_ble_eq_true rfl) (A.v rfl (V.bin (a := (.v (.int .i64 ((_ : Nat) : Int)))) (b := (.v (.int .i64 (256)))) (r := .v (.bool _)) rfl rfl rfl trivial ?_))
    refine So.e ?_
    show HT _ _ _ _ _
    refine R.cond rfl rfl (fun h4 => ?_) (fun h4 => ?_)
    · have h4 := of_decide_eq_true h4
      refine HT.skip ?_
      show HT _ _ _ _ _
      refine HT.seq ?_
      refine HT.block ?_
      refine HT.seq ?_
      refine HT.region S_lawSmall_ok ?_
      have hv := cen_b b s
      refine So.n (Nat.le_of_ble_eq_true rfl) (A.v rfl (V.mv (v := .p (.v (.int .i64 ((_ : Nat) : Int)))) rfl ?_))
      refine So.n (Nat.le_of_ble_eq_true rfl) (A.v rfl (V.ixArrP10 ty25 ty3 rfl rfl rfl (by first | rfl | omega | (simp; done) | (simp; omega)) rfl (by omega) (Int.toNat_natCast _) ?_))
      refine So.n (Nat.le_of_ble_eq_true rfl) (A.v rfl (V.ldPtr ty3 rfl rfl rfl (by first | rfl | omega | (simp; done) | (simp; omega)) (v := .p (.v (.int .i64 _))) rfl ?_))
      refine So.n (Nat.le_of_ble_eq_true rfl) (A.v rfl (V.bin (a := (.v (.int .i64 _))) (b := (.v (.int .i64 (2)))) (r := .v (.bool _)) rfl rfl rfl trivial ?_))
      refine So.n (Nat.le_of_ble_eq_true rfl) (A.v rfl (V.mv (v := .p (.v (.bool _))) rfl ?_))
      refine So.gd rfl rfl (Nat.le_of_ble_eq_true rfl) (Nat.le_of_ble_eq_true rfl) (fun h5 => ?_) (fun h5 => ?_)
      · have h5 := of_decide_eq_true h5
        refine A.v rfl (V.mv (v := .p (.v (.int .i64 ((_ : Nat) : Int)))) rfl ?_)
        refine So.gy rfl rfl (Nat.le_of_ble_eq_true rfl) (Nat.le_of_ble_eq_true rfl) ?_
        refine A.v rfl (V.ixArrP10 ty25 ty3 rfl rfl rfl (by first | rfl | omega | (simp; done) | (simp; omega)) rfl (by omega) (Int.toNat_natCast _) ?_)
        refine So.gy rfl rfl (Nat.le_of_ble_eq_true rfl) (Nat.le_of_ble_eq_true rfl) ?_
        refine A.v rfl (V.ldPtr ty3 rfl rfl rfl (by first | rfl | omega | (simp; done) | (simp; omega)) (v := .p (.v (.int .i64 _))) rfl ?_)
        refine So.gy rfl rfl (Nat.le_of_ble_eq_true rfl) (Nat.le_of_ble_eq_true rfl) ?_
        refine A.v rfl (V.bin (a := (.v (.int .i64 _))) (b := (.v (.int .i64 (3327)))) (r := .v (.bool _)) rfl rfl rfl trivial ?_)
        refine So.n (Nat.le_of_ble_eq_true rfl) (A.v rfl (V.pkTrue (u := .p (.v (.bool _))) rfl rfl ?_))
        refine So.n (Nat.le_of_ble_eq_true rfl) (A.v rfl (V.mv (v := .p (.v (.bool _))) rfl ?_))
        refine So.gd rfl rfl (Nat.le_of_ble_eq_true rfl) (Nat.le_of_ble_eq_true rfl) (fun h6 => ?_) (fun h6 => ?_)
        · have h6 := of_decide_eq_false h6
          refine A.v rfl (V.mv (v := .p (.v (.int .i64 ((_ : Nat) : Int)))) rfl ?_)
          refine So.gy rfl rfl (Nat.le_of_ble_eq_true rfl) (Nat.le_of_ble_eq_true rfl) ?_
          refine A.v rfl (V.ixArrP10 ty25 ty3 rfl rfl rfl (by first | rfl | omega | (simp; done) | (simp; omega)) rfl (by omega) (Int.toNat_natCast _) ?_)
          refine So.gy rfl rfl (Nat.le_of_ble_eq_true rfl) (Nat.le_of_ble_eq_true rfl) ?_
          refine A.v rfl (V.ldPtr ty3 rfl rfl rfl (by first | rfl | omega | (simp; done) | (simp; omega)) (v := .p (.v (.int .i64 _))) rfl ?_)
          refine So.gy rfl rfl (Nat.le_of_ble_eq_true rfl) (Nat.le_of_ble_eq_true rfl) ?_
          refine A.v rfl (V.bin (a := (.v (.int .i64 _))) (b := (.v (.int .i64 (0)))) (r := .v (.bool _)) rfl rfl rfl trivial ?_)
          refine So.n (Nat.le_of_ble_eq_true rfl) (A.v rfl (V.pkFalse (u := .p (.v (.bool _))) rfl rfl ?_))
          refine So.n (Nat.le_of_ble_eq_true rfl) (A.v rfl (V.mv (v := .p (.v (.bool _))) rfl ?_))
          refine So.gd rfl rfl (Nat.le_of_ble_eq_true rfl) (Nat.le_of_ble_eq_true rfl) (fun h7 => ?_) (fun h7 => ?_)
          · have h7 := of_decide_eq_false h7
            refine A.v rfl (V.mv (v := .p (.v (.int .i64 ((_ : Nat) : Int)))) rfl ?_)
            refine So.gy rfl rfl (Nat.le_of_ble_eq_true rfl) (Nat.le_of_ble_eq_true rfl) ?_
            refine A.v rfl (V.ixArrP10 ty25 ty3 rfl rfl rfl (by first | rfl | omega | (simp; done) | (simp; omega)) rfl (by omega) (Int.toNat_natCast _) ?_)
            refine So.gy rfl rfl (Nat.le_of_ble_eq_true rfl) (Nat.le_of_ble_eq_true rfl) ?_
            refine A.v rfl (V.ldPtr ty3 rfl rfl rfl (by first | rfl | omega | (simp; done) | (simp; omega)) (v := .p (.v (.int .i64 _))) rfl ?_)
            refine So.gy rfl rfl (Nat.le_of_ble_eq_true rfl) (Nat.le_of_ble_eq_true rfl) ?_
            refine A.v rfl (V.bin (a := (.v (.int .i64 _))) (b := (.v (.int .i64 (3329)))) (r := .v (.bool _)) rfl rfl rfl trivial ?_)
            refine So.n (Nat.le_of_ble_eq_true rfl) (A.v rfl (V.pkFalse (u := .p (.v (.bool _))) rfl rfl ?_))
            refine So.e ?_
            show HT _ _ _ _ _
            refine R.cond rfl rfl (fun h8 => ?_) (fun h8 => ?_)
            · have h8 := of_decide_eq_true h8
              refine HT.seq ?_
              exfalso; omega
            · have h8 := of_decide_eq_false h8
              refine HT.skip ?_
              show HT _ _ _ _ _
              refine HT.region S_lawSmall_ok ?_
              refine So.n (Nat.le_of_ble_eq_true rfl) (A.v rfl (V.mv (v := .p (.v (.int .i64 ((_ : Nat) : Int)))) rfl ?_))
              refine So.n (Nat.le_of_ble_eq_true rfl) (A.v rfl (V.addI rfl rfl (by omega) ?_))
              refine So.n (Nat.le_of_ble_eq_true rfl) (A.v rfl (V.as (v := .p (.v (.int .i64 _))) rfl ?_))
              refine So.e ?_
              refine ⟨s + 1, by first | rfl | omega | (simp; done) | (simp; omega), by omega, ⟨⟨⟨le_int (by first | rfl | omega | (simp; done) | (simp; omega)), trivial⟩, ⟨.refl _, trivial⟩, ⟨.refl _, trivial⟩, ⟨.refl _, rfl⟩, trivial⟩, ⟨⟨_, rfl, .inl rfl, trivial⟩, trivial⟩⟩⟩
          · have h7 := of_decide_eq_true h7
            refine So.gn (b := true) rfl rfl rfl (Nat.le_of_ble_eq_true rfl) (Nat.le_of_ble_eq_true rfl) ?_
            refine So.gn (b := true) rfl rfl rfl (Nat.le_of_ble_eq_true rfl) (Nat.le_of_ble_eq_true rfl) ?_
            refine So.gn (b := true) rfl rfl rfl (Nat.le_of_ble_eq_true rfl) (Nat.le_of_ble_eq_true rfl) ?_
            refine So.n (Nat.le_of_ble_eq_true rfl) (A.v rfl (V.pkTrue (u := .p (.v (.bool true))) rfl rfl ?_))
            refine So.e ?_
            show HT _ _ _ _ _
            refine R.condT rfl ?_
            refine HT.seq ?_
            exfalso; omega
        · have h6 := of_decide_eq_true h6
          refine So.gn (b := true) rfl rfl rfl (Nat.le_of_ble_eq_true rfl) (Nat.le_of_ble_eq_true rfl) ?_
          refine So.gn (b := true) rfl rfl rfl (Nat.le_of_ble_eq_true rfl) (Nat.le_of_ble_eq_true rfl) ?_
          refine So.gn (b := true) rfl rfl rfl (Nat.le_of_ble_eq_true rfl) (Nat.le_of_ble_eq_true rfl) ?_
          refine So.n (Nat.le_of_ble_eq_true rfl) (A.v rfl (V.pkTrue (u := .p (.v (.bool true))) rfl rfl ?_))
          refine So.n (Nat.le_of_ble_eq_true rfl) (A.v rfl (V.mv (v := .p (.v (.bool true))) rfl ?_))
          refine So.gn (b := true) rfl rfl rfl (Nat.le_of_ble_eq_true rfl) (Nat.le_of_ble_eq_true rfl) ?_
          refine So.gn (b := true) rfl rfl rfl (Nat.le_of_ble_eq_true rfl) (Nat.le_of_ble_eq_true rfl) ?_
          refine So.gn (b := true) rfl rfl rfl (Nat.le_of_ble_eq_true rfl) (Nat.le_of_ble_eq_true rfl) ?_
          refine So.gn (b := true) rfl rfl rfl (Nat.le_of_ble_eq_true rfl) (Nat.le_of_ble_eq_true rfl) ?_
          refine So.n (Nat.le_of_ble_eq_true rfl) (A.v rfl (V.pkTrue (u := .p (.v (.bool true))) rfl rfl ?_))
          refine So.e ?_
          show HT _ _ _ _ _
          refine R.condT rfl ?_
          refine HT.seq ?_
          exfalso; omega
      · have h5 := of_decide_eq_false h5
        refine So.gn (b := false) rfl rfl rfl (Nat.le_of_ble_eq_true rfl) (Nat.le_of_ble_eq_true rfl) ?_
        refine So.gn (b := false) rfl rfl rfl (Nat.le_of_ble_eq_true rfl) (Nat.le_of_ble_eq_true rfl) ?_
        refine So.gn (b := false) rfl rfl rfl (Nat.le_of_ble_eq_true rfl) (Nat.le_of_ble_eq_true rfl) ?_
        refine So.n (Nat.le_of_ble_eq_true rfl) (A.v rfl (V.pkFalse (u := .p (.v (.bool false))) rfl rfl ?_))
        refine So.n (Nat.le_of_ble_eq_true rfl) (A.v rfl (V.mv (v := .p (.v (.bool false))) rfl ?_))
        refine So.gy rfl rfl (Nat.le_of_ble_eq_true rfl) (Nat.le_of_ble_eq_true rfl) ?_
        refine A.v rfl (V.mv (v := .p (.v (.int .i64 ((_ : Nat) : Int)))) rfl ?_)
        refine So.gy rfl rfl (Nat.le_of_ble_eq_true rfl) (Nat.le_of_ble_eq_true rfl) ?_
        refine A.v rfl (V.ixArrP10 ty25 ty3 rfl rfl rfl (by first | rfl | omega | (simp; done) | (simp; omega)) rfl (by omega) (Int.toNat_natCast _) ?_)
        refine So.gy rfl rfl (Nat.le_of_ble_eq_true rfl) (Nat.le_of_ble_eq_true rfl) ?_
        refine A.v rfl (V.ldPtr ty3 rfl rfl rfl (by first | rfl | omega | (simp; done) | (simp; omega)) (v := .p (.v (.int .i64 _))) rfl ?_)
        refine So.gy rfl rfl (Nat.le_of_ble_eq_true rfl) (Nat.le_of_ble_eq_true rfl) ?_
        refine A.v rfl (V.bin (a := (.v (.int .i64 _))) (b := (.v (.int .i64 (0)))) (r := .v (.bool _)) rfl rfl rfl trivial ?_)
        refine So.n (Nat.le_of_ble_eq_true rfl) (A.v rfl (V.pkFalse (u := .p (.v (.bool _))) rfl rfl ?_))
        refine So.n (Nat.le_of_ble_eq_true rfl) (A.v rfl (V.mv (v := .p (.v (.bool _))) rfl ?_))
        refine So.gd rfl rfl (Nat.le_of_ble_eq_true rfl) (Nat.le_of_ble_eq_true rfl) (fun h9 => ?_) (fun h9 => ?_)
        · have h9 := of_decide_eq_false h9
          refine A.v rfl (V.mv (v := .p (.v (.int .i64 ((_ : Nat) : Int)))) rfl ?_)
          refine So.gy rfl rfl (Nat.le_of_ble_eq_true rfl) (Nat.le_of_ble_eq_true rfl) ?_
          refine A.v rfl (V.ixArrP10 ty25 ty3 rfl rfl rfl (by first | rfl | omega | (simp; done) | (simp; omega)) rfl (by omega) (Int.toNat_natCast _) ?_)
          refine So.gy rfl rfl (Nat.le_of_ble_eq_true rfl) (Nat.le_of_ble_eq_true rfl) ?_
          refine A.v rfl (V.ldPtr ty3 rfl rfl rfl (by first | rfl | omega | (simp; done) | (simp; omega)) (v := .p (.v (.int .i64 _))) rfl ?_)
          refine So.gy rfl rfl (Nat.le_of_ble_eq_true rfl) (Nat.le_of_ble_eq_true rfl) ?_
          refine A.v rfl (V.bin (a := (.v (.int .i64 _))) (b := (.v (.int .i64 (3329)))) (r := .v (.bool _)) rfl rfl rfl trivial ?_)
          refine So.n (Nat.le_of_ble_eq_true rfl) (A.v rfl (V.pkFalse (u := .p (.v (.bool _))) rfl rfl ?_))
          refine So.e ?_
          show HT _ _ _ _ _
          refine R.cond rfl rfl (fun h10 => ?_) (fun h10 => ?_)
          · have h10 := of_decide_eq_true h10
            refine HT.seq ?_
            exfalso; omega
          · have h10 := of_decide_eq_false h10
            refine HT.skip ?_
            show HT _ _ _ _ _
            refine HT.region S_lawSmall_ok ?_
            refine So.n (Nat.le_of_ble_eq_true rfl) (A.v rfl (V.mv (v := .p (.v (.int .i64 ((_ : Nat) : Int)))) rfl ?_))
            refine So.n (Nat.le_of_ble_eq_true rfl) (A.v rfl (V.addI rfl rfl (by omega) ?_))
            refine So.n (Nat.le_of_ble_eq_true rfl) (A.v rfl (V.as (v := .p (.v (.int .i64 _))) rfl ?_))
            refine So.e ?_
            refine ⟨s + 1, by first | rfl | omega | (simp; done) | (simp; omega), by omega, ⟨⟨⟨le_int (by first | rfl | omega | (simp; done) | (simp; omega)), trivial⟩, ⟨.refl _, trivial⟩, ⟨.refl _, trivial⟩, ⟨.refl _, rfl⟩, trivial⟩, ⟨⟨_, rfl, .inl rfl, trivial⟩, trivial⟩⟩⟩
        · have h9 := of_decide_eq_true h9
          refine So.gn (b := true) rfl rfl rfl (Nat.le_of_ble_eq_true rfl) (Nat.le_of_ble_eq_true rfl) ?_
          refine So.gn (b := true) rfl rfl rfl (Nat.le_of_ble_eq_true rfl) (Nat.le_of_ble_eq_true rfl) ?_
          refine So.gn (b := true) rfl rfl rfl (Nat.le_of_ble_eq_true rfl) (Nat.le_of_ble_eq_true rfl) ?_
          refine So.n (Nat.le_of_ble_eq_true rfl) (A.v rfl (V.pkTrue (u := .p (.v (.bool true))) rfl rfl ?_))
          refine So.e ?_
          show HT _ _ _ _ _
          refine R.condT rfl ?_
          refine HT.seq ?_
          exfalso; omega
    · have h4 := of_decide_eq_false h4
      refine HT.exit ?_
      show HT _ _ _ _ _
      refine HT.seq ?_
      refine HT.region S_lawSmall_ok ?_
      refine So.n (Nat.le_of_ble_eq_true rfl) (A.v rfl (V.mv (v := .p (.u8 _)) rfl ?_))
      refine So.n (Nat.le_of_ble_eq_true rfl) (A.v rfl (V.bin (a := (.u8 _)) (b := (.u8 3)) (r := .u8 _) rfl rfl rfl trivial ?_))
      refine So.n (Nat.le_of_ble_eq_true rfl) (A.v rfl (V.as (v := .p (.u8 _)) rfl ?_))
      refine So.e ?_
      show HT _ _ _ _ _
      refine HT.seq ?_
      refine HT.region S_lawSmall_ok ?_
      refine So.n (Nat.le_of_ble_eq_true rfl) (A.mkB 2 ty22 ty5 rfl rfl rfl (by omega) rfl rfl trivial ?_)
      refine So.n (Nat.le_of_ble_eq_true rfl) (A.v rfl (V.as (v := .own 2 0 _) rfl ?_))
      refine So.e ?_
      show HT _ _ _ _ _
      refine HT.seq ?_
      refine HT.seq ?_
      refine HT.region S_lawSmall_ok ?_
      refine So.n (Nat.le_of_ble_eq_true rfl) (A.v rfl (V.as (v := .p (.v (.int .i64 (0)))) rfl ?_))
      refine So.e ?_
      show HT _ _ _ _ _
      refine HT.block ?_
      refine R.loop (σ := Nat) (fun r => [(11, .p (.v (.int .i64 ((r : Int)))))]) (fun r => [(2, ⟨5, 1, 128, true, .bs (smL c r)⟩)]) [5, 9, 10] [1] (fun r => r ≤ 128) (fun r => 128 - r) (0) (fr0 := [(5, .p (.v (.bool true))), (9, .p (.u8 _)), (10, .own 2 0 _)]) (O0 := [(1, ⟨_, _, _, _, .rows _⟩)]) rfl rfl (by first | rfl | omega | (simp; done) | (simp; omega)) ⟨⟨⟨le_int (by first | rfl | omega | exact smL_0 c), trivial⟩, ⟨.refl _, trivial⟩, ⟨.refl _, trivial⟩, ⟨.refl _, rfl⟩, trivial⟩, ⟨⟨_, rfl, .inl (ob_bs (by first | rfl | ((try dsimp only); first | rfl | omega | exact smL_0 c)) (by first | rfl | ((try dsimp only); first | rfl | omega | exact smL_0 c))), trivial⟩, ⟨_, rfl, .inl rfl, trivial⟩, trivial⟩⟩ (fun r hP1 => ?_)
      refine HT.seq ?_
      refine HT.seq ?_
      refine HT.region S_lawSmall_ok ?_
      refine So.n (Nat.le_of_ble_eq_true rfl) (A.v rfl (V.mv (v := .p (.v (.int .i64 ((_ : Nat) : Int)))) rfl ?_))
      refine So.n (Nat.le_of_ble_eq_true rfl) (A.v rfl (V.mv (v := .own 2 0 _) rfl ?_))
      refine So.n (Nat.le_of_ble_eq_true rfl) (A.v rfl (V.len ty22 (v := .own 2 0 _) rfl rfl ?_))
      refine So.n (Nat.le_of_ble_eq_true rfl) (A.v rfl (V.bin (a := (.v (.int .i64 ((_ : Nat) : Int)))) (b := (.v (.int .i64 _))) (r := .v (.bool _)) rfl rfl rfl trivial ?_))
      refine So.e ?_
      show HT _ _ _ _ _
      refine R.cond rfl rfl (fun h11 => ?_) (fun h11 => ?_)
      · have h11 := of_decide_eq_true h11
        refine HT.skip ?_
        show HT _ _ _ _ _
        refine HT.seq ?_
        refine HT.block ?_
        refine HT.region S_lawSmall_ok ?_
        refine So.n (Nat.le_of_ble_eq_true rfl) (A.v rfl (V.mv (v := .own 2 0 _) rfl ?_))
        refine So.n (Nat.le_of_ble_eq_true rfl) (A.v rfl (V.mv (v := .p (.v (.int .i64 ((_ : Nat) : Int)))) rfl ?_))
        refine So.n (Nat.le_of_ble_eq_true rfl) (A.v rfl (V.mv (v := .p (.u8 _)) rfl ?_))
        refine So.n (Nat.le_of_ble_eq_true rfl) (A.v rfl (V.mv (v := .p (.u8 _)) rfl ?_))
        refine So.n (Nat.le_of_ble_eq_true rfl) (A.v rfl (V.shlC (n := 2) (a := (.u8 _)) (b := (.u64 2)) (r := .u8 (u8Shl _ 2)) rfl rfl rfl rfl ?_))
        refine So.n (Nat.le_of_ble_eq_true rfl) (A.v rfl (V.bin (a := (.u8 _)) (b := (.u8 _)) (r := .u8 _) rfl rfl rfl trivial ?_))
        refine So.n (Nat.le_of_ble_eq_true rfl) (A.v rfl (V.mv (v := .p (.u8 _)) rfl ?_))
        refine So.n (Nat.le_of_ble_eq_true rfl) (A.v rfl (V.shlC (n := 4) (a := (.u8 _)) (b := (.u64 4)) (r := .u8 (u8Shl _ 4)) rfl rfl rfl rfl ?_))
        refine So.n (Nat.le_of_ble_eq_true rfl) (A.v rfl (V.bin (a := (.u8 _)) (b := (.u8 _)) (r := .u8 _) rfl rfl rfl trivial ?_))
        refine So.n (Nat.le_of_ble_eq_true rfl) (A.v rfl (V.mv (v := .p (.u8 _)) rfl ?_))
        refine So.n (Nat.le_of_ble_eq_true rfl) (A.v rfl (V.shlC (n := 6) (a := (.u8 _)) (b := (.u64 6)) (r := .u8 (u8Shl _ 6)) rfl rfl rfl rfl ?_))
        refine So.n (Nat.le_of_ble_eq_true rfl) (A.v rfl (V.bin (a := (.u8 _)) (b := (.u8 _)) (r := .u8 _) rfl rfl rfl trivial ?_))
        refine So.n (Nat.le_of_ble_eq_true rfl) (A.v rfl (V.ixOwn10 ty22 ty5 rfl rfl rfl rfl rfl (by omega) (Int.toNat_natCast _) ?_))
        refine So.s (A.sto ty5 rfl rfl rfl (v := .p (.u8 _)) rfl trivial rfl (by first | rfl | omega | (simp; done) | (simp; omega)) rfl rfl ?_)
        refine So.e ?_
        show HT _ _ _ _ _
        refine HT.region S_lawSmall_ok ?_
        refine So.n (Nat.le_of_ble_eq_true rfl) (A.v rfl (V.mv (v := .p (.v (.int .i64 ((_ : Nat) : Int)))) rfl ?_))
        refine So.n (Nat.le_of_ble_eq_true rfl) (A.v rfl (V.addI rfl rfl (by omega) ?_))
        refine So.n (Nat.le_of_ble_eq_true rfl) (A.v rfl (V.as (v := .p (.v (.int .i64 _))) rfl ?_))
        refine So.e ?_
        refine ⟨r + 1, by first | rfl | omega | (simp; done) | (simp; omega), by omega, ⟨⟨⟨le_int (by first | rfl | omega | (simp; done) | (simp; omega)), trivial⟩, ⟨.refl _, trivial⟩, ⟨.refl _, trivial⟩, ⟨.refl _, rfl⟩, trivial⟩, ⟨⟨_, rfl, .inl (ob_bs (by rfl) (by first | exact smL_set c (by omega) | exact smL_0 c)), trivial⟩, ⟨_, rfl, .inl rfl, trivial⟩, trivial⟩⟩⟩
      · have h11 := of_decide_eq_false h11
        refine HT.exit ?_
        show HT _ _ _ _ _
        refine HT.seq ?_
        replace hP1 : r = 128 := by omega
        subst hP1
        refine R.norm [5, 10] [2] (fr0 := [(5, .p (.v (.bool true))), (10, .own 2 0 _)]) (O0 := [(2, ⟨_, _, _, _, .bs _⟩)]) rfl rfl ⟨⟨⟨.refl _, trivial⟩, ⟨.refl _, rfl⟩, trivial⟩, ⟨⟨_, rfl, .inl rfl, trivial⟩, trivial⟩⟩ ?_
        refine HT.region S_lawSmall_ok ?_
        refine So.n (Nat.le_of_ble_eq_true rfl) (A.v rfl (V.mv (v := .own 2 0 _) rfl ?_))
        refine So.n (Nat.le_of_ble_eq_true rfl) (A.call0 [.p (.bs _)] 3 rfl rfl rfl rfl ⟨trivial, trivial⟩ trivial (List.replicate 128 (sm c)) ⟨le_bs (by rw [List.drop_zero, List.take_of_length_le (by rw [smL_len c (by omega)]; omega)]; exact smL_128 c), trivial⟩ trivial (by trivial) (Φ := fun _ => True) (fun _ _ => trivial) (.inr ⟨fun j hj => by match j, hj with | 0, _ => exact (fun _ _ => trivial) | 1, _ => exact trivial, by simp [Hp.scal, OC.scal, PV.scal, BV.scal]⟩) (v := .tup 2 _) rfl (O' := _) rfl (fun h12 => ?_))
        refine So.n (Nat.le_of_ble_eq_true rfl) (A.v rfl (V.mv (v := .tup 2 _) rfl ?_))
        refine So.n (Nat.le_of_ble_eq_true rfl) (A.v rfl (V.ext rfl (Nat.le_of_ble_eq_true rfl) (v := .agg 256 _) rfl ?_))
        refine So.n (Nat.le_of_ble_eq_true rfl) (A.v rfl (V.ext rfl (Nat.le_of_ble_eq_true rfl) (v := .p (.v (.int .i64 _))) rfl ?_))
        refine So.n (Nat.le_of_ble_eq_true rfl) (A.alloc 3 1 ty25 rfl trivial (f := fun _ => .v (.int .i64 0)) (fun _ _ => rfl) ?_)
        refine So.s (A.stoAg ty25 rfl (n := 256) rfl (by decide) (by intro j hj; first | rfl | trivial) rfl rfl rfl ?_)
        refine So.n (Nat.le_of_ble_eq_true rfl) (A.v rfl (V.as (v := .p (.v (.int .i64 _))) rfl ?_))
        refine So.e ?_
        show HT _ _ _ _ _
        refine HT.seq ?_
        refine HT.region S_lawSmall_ok ?_
        refine So.n (Nat.le_of_ble_eq_true rfl) (A.v rfl (V.mv (v := .p (.v (.bool true))) rfl ?_))
        refine So.n (Nat.le_of_ble_eq_true rfl) (A.v rfl (V.mv (v := .p (.v (.bool true))) rfl ?_))
        refine So.gy rfl rfl (Nat.le_of_ble_eq_true rfl) (Nat.le_of_ble_eq_true rfl) ?_
        refine A.v rfl (V.mv (v := .p (.v (.int .i64 _))) rfl ?_)
        refine So.gy rfl rfl (Nat.le_of_ble_eq_true rfl) (Nat.le_of_ble_eq_true rfl) ?_
        refine A.v rfl (V.bin (a := (.v (.int .i64 _))) (b := (.v (.int .i64 (0)))) (r := .v (.bool _)) rfl rfl rfl trivial ?_)
        refine So.n (Nat.le_of_ble_eq_true rfl) (A.v rfl (V.pkTrue (u := .p (.v (.bool _))) rfl rfl ?_))
        refine So.n (Nat.le_of_ble_eq_true rfl) (A.v rfl (V.mv (v := .p (.v (.bool _))) rfl ?_))
        refine So.gd rfl rfl (Nat.le_of_ble_eq_true rfl) (Nat.le_of_ble_eq_true rfl) (fun h13 => ?_) (fun h13 => ?_)
        · have h13 := of_decide_eq_true h13
          refine A.v rfl (V.ldPtrA ty25 rfl rfl rfl rfl (by first | rfl | omega | (simp; done) | (simp; omega)) ?_)
          refine So.gy rfl rfl (Nat.le_of_ble_eq_true rfl) (Nat.le_of_ble_eq_true rfl) ?_
          refine A.bld0 ty25 rfl rfl rfl (f := fun _ => .v (.int .i64 0)) (fun _ _ => rfl) ?_
          refine So.gy rfl rfl (Nat.le_of_ble_eq_true rfl) (Nat.le_of_ble_eq_true rfl) ?_
          refine A.v rfl (V.eqArr ty25 ty3 rfl rfl rfl rfl (by first | exact Tryd.eqGuardType25 | kernel_rfl) (fun _ _ => ⟨rfl, rfl⟩) rfl ?_)
          refine So.n (Nat.le_of_ble_eq_true rfl) (A.v rfl (V.pkTrue (u := .p (.v (.bool _))) rfl rfl ?_))
          refine So.n (Nat.le_of_ble_eq_true rfl) (A.v rfl (V.as (v := .p (.v (.bool _))) rfl ?_))
          refine So.e ?_
          show HT _ _ _ _ _
          refine HT.ret ?_
          exact ret_ok (sg []) h rfl rfl rfl trivial ⟨trivial, trivial⟩ rfl ⟨⟨⟨le_bool (by first | rfl | (refine decide_eq_true fun j hj => ?_; simp only [PV.toI, Option.getD_some, Nat.zero_add]; rw [sm_nought c j hj])), trivial⟩, trivial⟩, trivial⟩
        · have h13 := of_decide_eq_false h13
          first | exact absurd (by first | exact (cen_2 _).2 (by simp) | (intro j hj; simp only [PV.toI, Option.getD_some, Nat.zero_add]; rw [sm_nought c j hj])) h13 | exact absurd h13 (by first | exact (cen_2 _).2 (by simp) | (intro j hj; simp only [PV.toI, Option.getD_some, Nat.zero_add]; rw [sm_nought c j hj]))

end Go.Vk
