/- What is proved: each function of the seat's program does what its contract says, wherever it is called; no condition. -/
import Derived.Test.YtafjehcdldgngaaDoorPure0
import Derived.Test.YtafjehcdldgngaaDoorProg
set_option linter.unusedVariables false
set_option linter.unusedSimpArgs false
set_option linter.unusedVariables false
set_option linter.unusedSimpArgs false
namespace Go.Vw
open Go Go.Vc Go.Proofs

def gl : Nat → Option (Nat × (Nat → GV)) := fun g => if g = 0 then some (3, fun j => .v (.int .i64 (([6, 14, 30] : List Int).getD j 0))) else none
theorem mixed : Tryd.prog.follows .mixedOrders = true := by kernel_rfl
theorem ty1 : tyOf Tryd.prog 1 = some ⟨.func, 1, 8, some (fun _ => .nilFunc)⟩ := by rfl
theorem ty2 : tyOf Tryd.prog 2 = some ⟨.int .i64, 1, 8, some (fun _ => .int .i64 0)⟩ := by rfl
theorem ty3 : tyOf Tryd.prog 3 = some ⟨.int .i64, 1, 8, some (fun _ => .int .i64 0)⟩ := by rfl
theorem ty4 : tyOf Tryd.prog 4 = some ⟨.bool, 1, 1, some (fun _ => .bool false)⟩ := by rfl
theorem ty5 : tyOf Tryd.prog 5 = some ⟨.int .u8, 1, 1, some (fun _ => .int .u8 0)⟩ := by rfl
theorem ty6 : tyOf Tryd.prog 6 = some ⟨.int .u8, 1, 1, some (fun _ => .int .u8 0)⟩ := by rfl
theorem ty7 : tyOf Tryd.prog 7 = some ⟨.struct [(0, 2), (1, 3), (2, 4), (3, 6)], 4, 24, some (fun j => ([.int .i64 0, .int .i64 0, .bool false, .int .u8 0] : List Value).getD j undef)⟩ := by rfl
theorem ty8 : tyOf Tryd.prog 8 = some ⟨.struct [(0, 2), (1, 3), (2, 4), (3, 6)], 4, 24, some (fun j => ([.int .i64 0, .int .i64 0, .bool false, .int .u8 0] : List Value).getD j undef)⟩ := by rfl
theorem ty9 : tyOf Tryd.prog 9 = some ⟨.string, 1, 16, some (fun _ => .string ⟨#[]⟩)⟩ := by rfl
theorem ty10 : tyOf Tryd.prog 10 = some ⟨.string, 1, 16, some (fun _ => .string ⟨#[]⟩)⟩ := by rfl
theorem ty11 : tyOf Tryd.prog 11 = some ⟨.string, 1, 16, some (fun _ => .string ⟨#[]⟩)⟩ := by rfl
theorem ty12 : tyOf Tryd.prog 12 = some ⟨.int .u64, 1, 8, some (fun _ => .int .u64 0)⟩ := by rfl
theorem ty13 : tyOf Tryd.prog 13 = some ⟨.struct [(0, 9), (1, 12)], 2, 24, some (fun j => ([.string ⟨#[]⟩, .int .u64 0] : List Value).getD j undef)⟩ := by rfl
theorem ty14 : tyOf Tryd.prog 14 = some ⟨.struct [(0, 9), (1, 12)], 2, 24, some (fun j => ([.string ⟨#[]⟩, .int .u64 0] : List Value).getD j undef)⟩ := by rfl
theorem ty15 : tyOf Tryd.prog 15 = some ⟨.pointer 56, 1, 8, some (fun _ => .pointer none)⟩ := by rfl
theorem ty16 : tyOf Tryd.prog 16 = some ⟨.pointer 59, 1, 8, some (fun _ => .pointer none)⟩ := by rfl
theorem ty17 : tyOf Tryd.prog 17 = some ⟨.pointer 68, 1, 8, some (fun _ => .pointer none)⟩ := by rfl
theorem ty18 : tyOf Tryd.prog 18 = some ⟨.struct [(0, 17)], 1, 8, some (fun _ => .pointer none)⟩ := by rfl
theorem ty19 : tyOf Tryd.prog 19 = some ⟨.struct [(0, 17)], 1, 8, some (fun _ => .pointer none)⟩ := by rfl
theorem ty21 : tyOf Tryd.prog 21 = some ⟨.int .i32, 1, 4, some (fun _ => .int .i32 0)⟩ := by rfl
theorem ty22 : tyOf Tryd.prog 22 = some ⟨.slice 5, 1, 24, some (fun _ => .slice none 0 0)⟩ := by rfl
theorem ty23 : tyOf Tryd.prog 23 = some ⟨.func, 1, 8, some (fun _ => .nilFunc)⟩ := by rfl
theorem ty24 : tyOf Tryd.prog 24 = some ⟨.func, 1, 8, some (fun _ => .nilFunc)⟩ := by rfl
theorem ty25 : tyOf Tryd.prog 25 = some ⟨.int .i64, 1, 8, some (fun _ => .int .i64 0)⟩ := by rfl
theorem ty27 : tyOf Tryd.prog 27 = some ⟨.func, 1, 8, some (fun _ => .nilFunc)⟩ := by rfl
theorem ty28 : tyOf Tryd.prog 28 = some ⟨.func, 1, 8, some (fun _ => .nilFunc)⟩ := by rfl
theorem ty29 : tyOf Tryd.prog 29 = some ⟨.func, 1, 8, some (fun _ => .nilFunc)⟩ := by rfl
theorem ty30 : tyOf Tryd.prog 30 = some ⟨.int .u32, 1, 4, some (fun _ => .int .u32 0)⟩ := by rfl
theorem ty32 : tyOf Tryd.prog 32 = some ⟨.func, 1, 8, some (fun _ => .nilFunc)⟩ := by rfl
theorem ty33 : tyOf Tryd.prog 33 = some ⟨.func, 1, 8, some (fun _ => .nilFunc)⟩ := by rfl
theorem ty34 : tyOf Tryd.prog 34 = some ⟨.slice 22, 1, 24, some (fun _ => .slice none 0 0)⟩ := by rfl
theorem ty35 : tyOf Tryd.prog 35 = some ⟨.func, 1, 8, some (fun _ => .nilFunc)⟩ := by rfl
theorem ty36 : tyOf Tryd.prog 36 = some ⟨.func, 1, 8, some (fun _ => .nilFunc)⟩ := by rfl
theorem ty38 : tyOf Tryd.prog 38 = some ⟨.func, 1, 8, some (fun _ => .nilFunc)⟩ := by rfl
theorem ty40 : tyOf Tryd.prog 40 = some ⟨.func, 1, 8, some (fun _ => .nilFunc)⟩ := by rfl
theorem ty41 : tyOf Tryd.prog 41 = some ⟨.func, 1, 8, some (fun _ => .nilFunc)⟩ := by rfl
theorem ty42 : tyOf Tryd.prog 42 = some ⟨.func, 1, 8, some (fun _ => .nilFunc)⟩ := by rfl
theorem ty43 : tyOf Tryd.prog 43 = some ⟨.func, 1, 8, some (fun _ => .nilFunc)⟩ := by rfl
theorem ty44 : tyOf Tryd.prog 44 = some ⟨.func, 1, 8, some (fun _ => .nilFunc)⟩ := by rfl
theorem ty45 : tyOf Tryd.prog 45 = some ⟨.func, 1, 8, some (fun _ => .nilFunc)⟩ := by rfl
theorem ty46 : tyOf Tryd.prog 46 = some ⟨.func, 1, 8, some (fun _ => .nilFunc)⟩ := by rfl
theorem ty47 : tyOf Tryd.prog 47 = some ⟨.int .u64, 1, 8, some (fun _ => .int .u64 0)⟩ := by rfl
theorem ty48 : tyOf Tryd.prog 48 = some ⟨.int .u64, 1, 8, some (fun _ => .int .u64 0)⟩ := by rfl
theorem ty49 : tyOf Tryd.prog 49 = some ⟨.func, 1, 8, some (fun _ => .nilFunc)⟩ := by rfl
theorem ty51 : tyOf Tryd.prog 51 = some ⟨.func, 1, 8, some (fun _ => .nilFunc)⟩ := by rfl
theorem ty52 : tyOf Tryd.prog 52 = some ⟨.func, 1, 8, some (fun _ => .nilFunc)⟩ := by rfl
theorem ty53 : tyOf Tryd.prog 53 = some ⟨.array 3 3, 3, 24, some (fun _ => .int .i64 0)⟩ := by rfl
theorem ty54 : tyOf Tryd.prog 54 = some ⟨.func, 1, 8, some (fun _ => .nilFunc)⟩ := by rfl
theorem ty55 : tyOf Tryd.prog 55 = some ⟨.struct [(0, 17), (1, 17), (2, 17), (3, 9)], 4, 40, some (fun j => ([.pointer none, .pointer none, .pointer none, .string ⟨#[]⟩] : List Value).getD j undef)⟩ := by rfl
theorem ty56 : tyOf Tryd.prog 56 = some ⟨.struct [(0, 17), (1, 17), (2, 17), (3, 9)], 4, 40, some (fun j => ([.pointer none, .pointer none, .pointer none, .string ⟨#[]⟩] : List Value).getD j undef)⟩ := by rfl
theorem ty57 : tyOf Tryd.prog 57 = some ⟨.array 0 16, 0, 0, some (fun _ => undef)⟩ := by rfl
theorem ty58 : tyOf Tryd.prog 58 = some ⟨.struct [(0, 57)], 0, 0, some (fun _ => undef)⟩ := by rfl
theorem ty59 : tyOf Tryd.prog 59 = some ⟨.struct [(0, 57)], 0, 0, some (fun _ => undef)⟩ := by rfl
theorem ty60 : tyOf Tryd.prog 60 = some ⟨.func, 1, 8, some (fun _ => .nilFunc)⟩ := by rfl
theorem ty61 : tyOf Tryd.prog 61 = some ⟨.int .u8, 1, 1, some (fun _ => .int .u8 0)⟩ := by rfl
theorem ty62 : tyOf Tryd.prog 62 = some ⟨.int .u8, 1, 1, some (fun _ => .int .u8 0)⟩ := by rfl
theorem ty63 : tyOf Tryd.prog 63 = some ⟨.func, 1, 8, some (fun _ => .nilFunc)⟩ := by rfl
theorem ty64 : tyOf Tryd.prog 64 = some ⟨.pointer 5, 1, 8, some (fun _ => .pointer none)⟩ := by rfl
theorem ty65 : tyOf Tryd.prog 65 = some ⟨.int .i32, 1, 4, some (fun _ => .int .i32 0)⟩ := by rfl
theorem ty66 : tyOf Tryd.prog 66 = some ⟨.int .i32, 1, 4, some (fun _ => .int .i32 0)⟩ := by rfl
theorem ty67 : tyOf Tryd.prog 67 = some ⟨.struct [(0, 12), (1, 12), (2, 30), (3, 61), (4, 5), (5, 5), (6, 62), (7, 63), (8, 64), (9, 65), (10, 66)], 11, 48, some (fun j => ([.int .u64 0, .int .u64 0, .int .u32 0, .int .u8 0, .int .u8 0, .int .u8 0, .int .u8 0, .nilFunc, .pointer none, .int .i32 0, .int .i32 0] : List Value).getD j undef)⟩ := by rfl
theorem ty68 : tyOf Tryd.prog 68 = some ⟨.struct [(0, 12), (1, 12), (2, 30), (3, 61), (4, 5), (5, 5), (6, 62), (7, 63), (8, 64), (9, 65), (10, 66)], 11, 48, some (fun j => ([.int .u64 0, .int .u64 0, .int .u32 0, .int .u8 0, .int .u8 0, .int .u8 0, .int .u8 0, .nilFunc, .pointer none, .int .i32 0, .int .i32 0] : List Value).getD j undef)⟩ := by rfl
end Go.Vw

set_option linter.unusedVariables false
set_option linter.unusedSimpArgs false
namespace Go.Vw
open Go Go.Vc Go.Proofs

/-! ### sodality/wire.fits -/
def fitsSp : Sp := ⟨[], mkE (α := Int) (fun n => [.p (.v (.int .i64 (n)))]) (fun n => []) (fun n => True) (fun n => [.p (.v (.bool (fitsF n)))]) (fun n => [])⟩
def S_fits : FuncId → Option Sp := fun _ => none
theorem S_fits_ok : ∀ f s, S_fits f = some s → FOK Tryd.prog gl f s := fun f s h => by cases h
theorem S_fits_det : ∀ f s, S_fits f = some s → SpDet s.sp := fun f s h => by cases h
set_option maxHeartbeats 1000000 in
theorem fits_ok : FOK Tryd.prog gl 26 fitsSp := by
  refine FOK.ofE (tyOf_ok Tryd.prog) (slots := [2]) (nt := 9) Tryd.func26 rfl rfl rfl rfl (by decide) 1 (fun _ => rfl) (by decide) (fun _ => ⟨trivial, trivial⟩) ?_
  rintro n kk hlen hpre h
  replace hpre : True := hpre
  show HT ⟨Tryd.prog, 9, tyOf Tryd.prog, gl, []⟩ _ [(0, .p (.v (.int .i64 (n))))] [] _
  refine HT.seq ?_
  refine HT.region S_fits_ok ?_
  refine So.n (Nat.le_of_ble_eq_true rfl) (A.v rfl (V.as (v := .p (.v (.bool false))) rfl ?_))
  refine So.e ?_
  show HT _ _ _ _ _
  refine HT.seq ?_
  refine HT.seq ?_
  refine HT.region S_fits_ok ?_
  refine So.n (Nat.le_of_ble_eq_true rfl) (A.v rfl (V.mv (v := .p (.v (.int .i64 _))) rfl ?_))
  refine So.e ?_
  show HT _ _ _ _ _
  refine HT.block ?_
  refine HT.seq ?_
  refine HT.seq ?_
  refine HT.region S_fits_ok ?_
  refine So.n (Nat.le_of_ble_eq_true rfl) (A.v rfl (V.bin (a := (.v (.int .i64 _))) (b := (.v (.int .i64 (1)))) (r := .v (.bool _)) rfl rfl rfl trivial ?_))
  refine So.n (Nat.le_of_ble_eq_true rfl) (A.v rfl (V.as (v := .p (.v (.bool _))) rfl ?_))
  refine So.e ?_
  show HT _ _ _ _ _
  refine R.cond rfl rfl (fun h1 => ?_) (fun h1 => ?_)
  · have h1 := of_decide_eq_true h1
    refine HT.skip ?_
    show HT _ _ _ _ _
    refine R.condT rfl ?_
    refine HT.seq ?_
    refine HT.region S_fits_ok ?_
    refine So.n (Nat.le_of_ble_eq_true rfl) (A.v rfl (V.as (v := .p (.v (.bool true))) rfl ?_))
    refine So.e ?_
    show HT _ _ _ _ _
    refine HT.ret ?_
    exact ret_ok (sg []) h rfl rfl rfl trivial ⟨trivial, trivial⟩ rfl ⟨⟨⟨le_bool (by first | exact fits_t (by omega) | exact fits_f (by omega) | omega), trivial⟩, trivial⟩, trivial⟩
  · have h1 := of_decide_eq_false h1
    refine HT.seq ?_
    refine HT.region S_fits_ok ?_
    refine So.n (Nat.le_of_ble_eq_true rfl) (A.v rfl (V.bin (a := (.v (.int .i64 _))) (b := (.v (.int .i64 (2)))) (r := .v (.bool _)) rfl rfl rfl trivial ?_))
    refine So.n (Nat.le_of_ble_eq_true rfl) (A.v rfl (V.as (v := .p (.v (.bool _))) rfl ?_))
    refine So.e ?_
    show HT _ _ _ _ _
    refine R.cond rfl rfl (fun h2 => ?_) (fun h2 => ?_)
    · have h2 := of_decide_eq_true h2
      refine HT.skip ?_
      show HT _ _ _ _ _
      refine R.condT rfl ?_
      refine HT.seq ?_
      refine HT.region S_fits_ok ?_
      refine So.n (Nat.le_of_ble_eq_true rfl) (A.v rfl (V.as (v := .p (.v (.bool true))) rfl ?_))
      refine So.e ?_
      show HT _ _ _ _ _
      refine HT.ret ?_
      exact ret_ok (sg []) h rfl rfl rfl trivial ⟨trivial, trivial⟩ rfl ⟨⟨⟨le_bool (by first | exact fits_t (by omega) | exact fits_f (by omega) | omega), trivial⟩, trivial⟩, trivial⟩
    · have h2 := of_decide_eq_false h2
      refine HT.seq ?_
      refine HT.region S_fits_ok ?_
      refine So.n (Nat.le_of_ble_eq_true rfl) (A.v rfl (V.bin (a := (.v (.int .i64 _))) (b := (.v (.int .i64 (4)))) (r := .v (.bool _)) rfl rfl rfl trivial ?_))
      refine So.n (Nat.le_of_ble_eq_true rfl) (A.v rfl (V.as (v := .p (.v (.bool _))) rfl ?_))
      refine So.e ?_
      show HT _ _ _ _ _
      refine R.cond rfl rfl (fun h3 => ?_) (fun h3 => ?_)
      · have h3 := of_decide_eq_true h3
        refine HT.skip ?_
        show HT _ _ _ _ _
        refine R.condT rfl ?_
        refine HT.seq ?_
        refine HT.region S_fits_ok ?_
        refine So.n (Nat.le_of_ble_eq_true rfl) (A.v rfl (V.as (v := .p (.v (.bool true))) rfl ?_))
        refine So.e ?_
        show HT _ _ _ _ _
        refine HT.ret ?_
        exact ret_ok (sg []) h rfl rfl rfl trivial ⟨trivial, trivial⟩ rfl ⟨⟨⟨le_bool (by first | exact fits_t (by omega) | exact fits_f (by omega) | omega), trivial⟩, trivial⟩, trivial⟩
      · have h3 := of_decide_eq_false h3
        refine HT.region S_fits_ok ?_
        refine So.n (Nat.le_of_ble_eq_true rfl) (A.v rfl (V.bin (a := (.v (.int .i64 _))) (b := (.v (.int .i64 (8)))) (r := .v (.bool _)) rfl rfl rfl trivial ?_))
        refine So.n (Nat.le_of_ble_eq_true rfl) (A.v rfl (V.as (v := .p (.v (.bool _))) rfl ?_))
        refine So.e ?_
        show HT _ _ _ _ _
        refine R.cond rfl rfl (fun h4 => ?_) (fun h4 => ?_)
        · have h4 := of_decide_eq_true h4
          refine HT.seq ?_
          refine HT.region S_fits_ok ?_
          refine So.n (Nat.le_of_ble_eq_true rfl) (A.v rfl (V.as (v := .p (.v (.bool true))) rfl ?_))
          refine So.e ?_
          show HT _ _ _ _ _
          refine HT.ret ?_
          exact ret_ok (sg []) h rfl rfl rfl trivial ⟨trivial, trivial⟩ rfl ⟨⟨⟨le_bool (by first | exact fits_t (by omega) | exact fits_f (by omega) | omega), trivial⟩, trivial⟩, trivial⟩
        · have h4 := of_decide_eq_false h4
          refine HT.skip ?_
          show HT _ _ _ _ _
          refine HT.seq ?_
          refine HT.region S_fits_ok ?_
          refine So.n (Nat.le_of_ble_eq_true rfl) (A.v rfl (V.as (v := .p (.v (.bool false))) rfl ?_))
          refine So.e ?_
          show HT _ _ _ _ _
          refine HT.ret ?_
          exact ret_ok (sg []) h rfl rfl rfl trivial ⟨trivial, trivial⟩ rfl ⟨⟨⟨le_bool (by first | exact fits_t (by omega) | exact fits_f (by omega) | omega), trivial⟩, trivial⟩, trivial⟩

/-! ### sodality/wire.GetNumber -/
def getSp : Sp := ⟨[], mkE (α := (List UInt8) × Int × Int) (fun (b, i, n) => [.p (.bs (b)), .p (.v (.int .i64 (i))), .p (.v (.int .i64 (n)))]) (fun (b, i, n) => []) (fun (b, i, n) => True) (fun (b, i, n) => [.p (.v (.int .i64 ((getF b i n).1))), .p (.v (.int .i64 ((getF b i n).2.1))), .p (.v (.int .i64 ((getF b i n).2.2)))]) (fun (b, i, n) => [])⟩
def S_get : FuncId → Option Sp := fun f => if f = 26 then some fitsSp else none
theorem S_get_ok : ∀ f s, S_get f = some s → FOK Tryd.prog gl f s := fun f s h => by
  unfold S_get at h
  split at h
  · rename_i e; cases h; subst e; exact fits_ok
  cases h
theorem S_get_det : ∀ f s, S_get f = some s → SpDet s.sp := fun f s h => by
  unfold S_get at h
  split at h
  · cases h; exact mkE_det _ _ _ _ _
  cases h
set_option maxHeartbeats 1000000 in
theorem get_ok : FOK Tryd.prog gl 12 getSp := by
  refine FOK.ofE (tyOf_ok Tryd.prog) (slots := [6, 7, 8]) (nt := 52) Tryd.func12 rfl rfl rfl rfl (by decide) 3 (fun ⟨_, _, _⟩ => rfl) (by decide) (fun ⟨_, _, _⟩ => ⟨trivial, trivial, trivial, trivial⟩) ?_
  rintro ⟨b, i, n⟩ kk hlen hpre h
  have hl0 : (b).length ≤ 9223372036854775807 := hlen.1
  replace hpre : True := hpre
  show HT ⟨Tryd.prog, 52, tyOf Tryd.prog, gl, []⟩ _ [(0, .p (.bs (b))), (1, .p (.v (.int .i64 (i)))), (2, .p (.v (.int .i64 (n))))] [] _
  refine HT.seq ?_
  refine HT.region S_get_ok ?_
  refine So.n (Nat.le_of_ble_eq_true rfl) (A.v rfl (V.as (v := .p (.v (.int .i64 (0)))) rfl ?_))
  refine So.n (Nat.le_of_ble_eq_true rfl) (A.v rfl (V.as (v := .p (.v (.int .i64 (0)))) rfl ?_))
  refine So.n (Nat.le_of_ble_eq_true rfl) (A.v rfl (V.as (v := .p (.v (.int .i64 (0)))) rfl ?_))
  refine So.e ?_
  show HT _ _ _ _ _
  refine HT.seq ?_
  refine HT.block ?_
  refine HT.seq ?_
  refine HT.seq ?_
  refine HT.region S_get_ok ?_
  refine So.n (Nat.le_of_ble_eq_true rfl) (A.v rfl (V.mv (v := .p (.v (.int .i64 _))) rfl ?_))
  refine So.n (Nat.le_of_ble_eq_true rfl) (A.v rfl (V.bin (a := (.v (.int .i64 _))) (b := (.v (.int .i64 (0)))) (r := .v (.bool _)) rfl rfl rfl trivial ?_))
  refine So.n (Nat.le_of_ble_eq_true rfl) (A.v rfl (V.as (v := .p (.v (.bool _))) rfl ?_))
  refine So.e ?_
  show HT _ _ _ _ _
  refine R.cond rfl rfl (fun h1 => ?_) (fun h1 => ?_)
  · have h1 := of_decide_eq_true h1
    refine HT.skip ?_
    show HT _ _ _ _ _
    refine R.condT rfl ?_
    refine HT.seq ?_
    refine HT.region S_get_ok ?_
    refine So.n (Nat.le_of_ble_eq_true rfl) (A.v rfl (V.as (v := .p (.v (.int .i64 (0)))) rfl ?_))
    refine So.n (Nat.le_of_ble_eq_true rfl) (A.v rfl (V.as (v := .p (.v (.int .i64 (0)))) rfl ?_))
    refine So.n (Nat.le_of_ble_eq_true rfl) (A.v rfl (V.as (v := .p (.v (.int .i64 (1)))) rfl ?_))
    refine So.e ?_
    show HT _ _ _ _ _
    refine HT.ret ?_
    exact ret_ok (sg []) h rfl rfl rfl trivial ⟨trivial, trivial, trivial, trivial⟩ rfl ⟨⟨⟨le_int (by first | (rw [getF_arg (by omega)]; done) | (rw [getF_end (by omega) (by omega) (by omega) (by omega)]; done) | (simp only [show ((b.take (i + n).toNat).drop i.toNat).take s = ((b.take (i + n).toNat).drop i.toNat) from List.take_of_length_le (by omega)] at *; first | (rw [getF_long (by omega) (by omega) (by omega) (by omega) (by assumption)]; done) | (rw [getF_ok (by omega) (by omega) (by omega) (by omega) (by assumption)]; done))), trivial⟩, ⟨le_int (by first | (rw [getF_arg (by omega)]; done) | (rw [getF_end (by omega) (by omega) (by omega) (by omega)]; done) | (simp only [show ((b.take (i + n).toNat).drop i.toNat).take s = ((b.take (i + n).toNat).drop i.toNat) from List.take_of_length_le (by omega)] at *; first | (rw [getF_long (by omega) (by omega) (by omega) (by omega) (by assumption)]; done) | (rw [getF_ok (by omega) (by omega) (by omega) (by omega) (by assumption)]; done))), trivial⟩, ⟨le_int (by first | (rw [getF_arg (by omega)]; done) | (rw [getF_end (by omega) (by omega) (by omega) (by omega)]; done) | (simp only [show ((b.take (i + n).toNat).drop i.toNat).take s = ((b.take (i + n).toNat).drop i.toNat) from List.take_of_length_le (by omega)] at *; first | (rw [getF_long (by omega) (by omega) (by omega) (by omega) (by assumption)]; done) | (rw [getF_ok (by omega) (by omega) (by omega) (by omega) (by assumption)]; done))), trivial⟩, trivial⟩, trivial⟩
  · have h1 := of_decide_eq_false h1
    refine HT.seq ?_
    refine HT.region S_get_ok ?_
    refine So.n (Nat.le_of_ble_eq_true rfl) (A.v rfl (V.mv (v := .p (.v (.int .i64 _))) rfl ?_))
    refine So.n (Nat.le_of_ble_eq_true rfl) (A.v rfl (V.mv (v := .p (.bs _)) rfl ?_))
    refine So.n (Nat.le_of_ble_eq_true rfl) (A.v rfl (V.len ty22 (v := .p (.bs _)) rfl rfl ?_))
    refine So.n (Nat.le_of_ble_eq_true rfl) (A.v rfl (V.bin (a := (.v (.int .i64 _))) (b := (.v (.int .i64 _))) (r := .v (.bool _)) rfl rfl rfl trivial ?_))
    refine So.n (Nat.le_of_ble_eq_true rfl) (A.v rfl (V.as (v := .p (.v (.bool _))) rfl ?_))
    refine So.e ?_
    show HT _ _ _ _ _
    refine R.cond rfl rfl (fun h2 => ?_) (fun h2 => ?_)
    · have h2 := of_decide_eq_true h2
      refine HT.skip ?_
      show HT _ _ _ _ _
      refine R.condT rfl ?_
      refine HT.seq ?_
      refine HT.region S_get_ok ?_
      refine So.n (Nat.le_of_ble_eq_true rfl) (A.v rfl (V.as (v := .p (.v (.int .i64 (0)))) rfl ?_))
      refine So.n (Nat.le_of_ble_eq_true rfl) (A.v rfl (V.as (v := .p (.v (.int .i64 (0)))) rfl ?_))
      refine So.n (Nat.le_of_ble_eq_true rfl) (A.v rfl (V.as (v := .p (.v (.int .i64 (1)))) rfl ?_))
      refine So.e ?_
      show HT _ _ _ _ _
      refine HT.ret ?_
      exact ret_ok (sg []) h rfl rfl rfl trivial ⟨trivial, trivial, trivial, trivial⟩ rfl ⟨⟨⟨le_int (by first | (rw [getF_arg (by omega)]; done) | (rw [getF_end (by omega) (by omega) (by omega) (by omega)]; done) | (simp only [show ((b.take (i + n).toNat).drop i.toNat).take s = ((b.take (i + n).toNat).drop i.toNat) from List.take_of_length_le (by omega)] at *; first | (rw [getF_long (by omega) (by omega) (by omega) (by omega) (by assumption)]; done) | (rw [getF_ok (by omega) (by omega) (by omega) (by omega) (by assumption)]; done))), trivial⟩, ⟨le_int (by first | (rw [getF_arg (by omega)]; done) | (rw [getF_end (by omega) (by omega) (by omega) (by omega)]; done) | (simp only [show ((b.take (i + n).toNat).drop i.toNat).take s = ((b.take (i + n).toNat).drop i.toNat) from List.take_of_length_le (by omega)] at *; first | (rw [getF_long (by omega) (by omega) (by omega) (by omega) (by assumption)]; done) | (rw [getF_ok (by omega) (by omega) (by omega) (by omega) (by assumption)]; done))), trivial⟩, ⟨le_int (by first | (rw [getF_arg (by omega)]; done) | (rw [getF_end (by omega) (by omega) (by omega) (by omega)]; done) | (simp only [show ((b.take (i + n).toNat).drop i.toNat).take s = ((b.take (i + n).toNat).drop i.toNat) from List.take_of_length_le (by omega)] at *; first | (rw [getF_long (by omega) (by omega) (by omega) (by omega) (by assumption)]; done) | (rw [getF_ok (by omega) (by omega) (by omega) (by omega) (by assumption)]; done))), trivial⟩, trivial⟩, trivial⟩
    · have h2 := of_decide_eq_false h2
      refine HT.region S_get_ok ?_
      refine So.n (Nat.le_of_ble_eq_true rfl) (A.v rfl (V.mv (v := .p (.v (.int .i64 _))) rfl ?_))
      refine So.n (Nat.le_of_ble_eq_true rfl) (A.call0 [.p (.v (.int .i64 _))] 1 rfl rfl rfl rfl ⟨trivial, trivial⟩ trivial _ ⟨.refl _, trivial⟩ trivial (by trivial) (Φ := fun _ => True) (fun _ _ => trivial) (.inl rfl) (v := .p (.v (.bool _))) rfl (O' := _) rfl (fun h3 => ?_))
      refine So.n (Nat.le_of_ble_eq_true rfl) (A.v rfl (V.not rfl ?_))
      refine So.n (Nat.le_of_ble_eq_true rfl) (A.v rfl (V.as (v := .p (.v (.bool _))) rfl ?_))
      refine So.e ?_
      show HT _ _ _ _ _
      refine R.cond rfl rfl (fun h4 => ?_) (fun h4 => ?_)
      · have h4 := fitsN (bnT h4)
        refine HT.seq ?_
        refine HT.region S_get_ok ?_
        refine So.n (Nat.le_of_ble_eq_true rfl) (A.v rfl (V.as (v := .p (.v (.int .i64 (0)))) rfl ?_))
        refine So.n (Nat.le_of_ble_eq_true rfl) (A.v rfl (V.as (v := .p (.v (.int .i64 (0)))) rfl ?_))
        refine So.n (Nat.le_of_ble_eq_true rfl) (A.v rfl (V.as (v := .p (.v (.int .i64 (1)))) rfl ?_))
        refine So.e ?_
        show HT _ _ _ _ _
        refine HT.ret ?_
        exact ret_ok (sg []) h rfl rfl rfl trivial ⟨trivial, trivial, trivial, trivial⟩ rfl ⟨⟨⟨le_int (by first | (rw [getF_arg (by omega)]; done) | (rw [getF_end (by omega) (by omega) (by omega) (by omega)]; done) | (simp only [show ((b.take (i + n).toNat).drop i.toNat).take s = ((b.take (i + n).toNat).drop i.toNat) from List.take_of_length_le (by omega)] at *; first | (rw [getF_long (by omega) (by omega) (by omega) (by omega) (by assumption)]; done) | (rw [getF_ok (by omega) (by omega) (by omega) (by omega) (by assumption)]; done))), trivial⟩, ⟨le_int (by first | (rw [getF_arg (by omega)]; done) | (rw [getF_end (by omega) (by omega) (by omega) (by omega)]; done) | (simp only [show ((b.take (i + n).toNat).drop i.toNat).take s = ((b.take (i + n).toNat).drop i.toNat) from List.take_of_length_le (by omega)] at *; first | (rw [getF_long (by omega) (by omega) (by omega) (by omega) (by assumption)]; done) | (rw [getF_ok (by omega) (by omega) (by omega) (by omega) (by assumption)]; done))), trivial⟩, ⟨le_int (by first | (rw [getF_arg (by omega)]; done) | (rw [getF_end (by omega) (by omega) (by omega) (by omega)]; done) | (simp only [show ((b.take (i + n).toNat).drop i.toNat).take s = ((b.take (i + n).toNat).drop i.toNat) from List.take_of_length_le (by omega)] at *; first | (rw [getF_long (by omega) (by omega) (by omega) (by omega) (by assumption)]; done) | (rw [getF_ok (by omega) (by omega) (by omega) (by omega) (by assumption)]; done))), trivial⟩, trivial⟩, trivial⟩
      · have h4 := fitsT (bnF h4)
        refine HT.seq ?_
        refine HT.region S_get_ok ?_
        refine So.n (Nat.le_of_ble_eq_true rfl) (A.v rfl (V.mv (v := .p (.v (.int .i64 _))) rfl ?_))
        refine So.n (Nat.le_of_ble_eq_true rfl) (A.v rfl (V.mv (v := .p (.bs _)) rfl ?_))
        refine So.n (Nat.le_of_ble_eq_true rfl) (A.v rfl (V.len ty22 (v := .p (.bs _)) rfl rfl ?_))
        refine So.n (Nat.le_of_ble_eq_true rfl) (A.v rfl (V.mv (v := .p (.v (.int .i64 _))) rfl ?_))
        refine So.n (Nat.le_of_ble_eq_true rfl) (A.v rfl (V.subI rfl rfl (by omega) ?_))
        refine So.n (Nat.le_of_ble_eq_true rfl) (A.v rfl (V.bin (a := (.v (.int .i64 _))) (b := (.v (.int .i64 _))) (r := .v (.bool _)) rfl rfl rfl trivial ?_))
        refine So.n (Nat.le_of_ble_eq_true rfl) (A.v rfl (V.as (v := .p (.v (.bool _))) rfl ?_))
        refine So.e ?_
        show HT _ _ _ _ _
        refine R.cond rfl rfl (fun h5 => ?_) (fun h5 => ?_)
        · have h5 := of_decide_eq_true h5
          refine HT.seq ?_
          refine HT.region S_get_ok ?_
          refine So.n (Nat.le_of_ble_eq_true rfl) (A.v rfl (V.as (v := .p (.v (.int .i64 (0)))) rfl ?_))
          refine So.n (Nat.le_of_ble_eq_true rfl) (A.v rfl (V.as (v := .p (.v (.int .i64 (0)))) rfl ?_))
          refine So.n (Nat.le_of_ble_eq_true rfl) (A.v rfl (V.as (v := .p (.v (.int .i64 (111)))) rfl ?_))
          refine So.e ?_
          show HT _ _ _ _ _
          refine HT.ret ?_
          exact ret_ok (sg []) h rfl rfl rfl trivial ⟨trivial, trivial, trivial, trivial⟩ rfl ⟨⟨⟨le_int (by first | (rw [getF_arg (by omega)]; done) | (rw [getF_end (by omega) (by omega) (by omega) (by omega)]; done) | (simp only [show ((b.take (i + n).toNat).drop i.toNat).take s = ((b.take (i + n).toNat).drop i.toNat) from List.take_of_length_le (by omega)] at *; first | (rw [getF_long (by omega) (by omega) (by omega) (by omega) (by assumption)]; done) | (rw [getF_ok (by omega) (by omega) (by omega) (by omega) (by assumption)]; done))), trivial⟩, ⟨le_int (by first | (rw [getF_arg (by omega)]; done) | (rw [getF_end (by omega) (by omega) (by omega) (by omega)]; done) | (simp only [show ((b.take (i + n).toNat).drop i.toNat).take s = ((b.take (i + n).toNat).drop i.toNat) from List.take_of_length_le (by omega)] at *; first | (rw [getF_long (by omega) (by omega) (by omega) (by omega) (by assumption)]; done) | (rw [getF_ok (by omega) (by omega) (by omega) (by omega) (by assumption)]; done))), trivial⟩, ⟨le_int (by first | (rw [getF_arg (by omega)]; done) | (rw [getF_end (by omega) (by omega) (by omega) (by omega)]; done) | (simp only [show ((b.take (i + n).toNat).drop i.toNat).take s = ((b.take (i + n).toNat).drop i.toNat) from List.take_of_length_le (by omega)] at *; first | (rw [getF_long (by omega) (by omega) (by omega) (by omega) (by assumption)]; done) | (rw [getF_ok (by omega) (by omega) (by omega) (by omega) (by assumption)]; done))), trivial⟩, trivial⟩, trivial⟩
        · have h5 := of_decide_eq_false h5
          refine HT.skip ?_
          show HT _ _ _ _ _
          refine HT.seq ?_
          refine HT.region S_get_ok ?_
          refine So.n (Nat.le_of_ble_eq_true rfl) (A.v rfl (V.as (v := .p (.v (.int .i64 (0)))) rfl ?_))
          refine So.e ?_
          show HT _ _ _ _ _
          refine HT.seq ?_
          refine HT.seq ?_
          refine HT.region S_get_ok ?_
          refine So.n (Nat.le_of_ble_eq_true rfl) (A.v rfl (V.mv (v := .p (.bs _)) rfl ?_))
          refine So.n (Nat.le_of_ble_eq_true rfl) (A.v rfl (V.mv (v := .p (.v (.int .i64 _))) rfl ?_))
          refine So.n (Nat.le_of_ble_eq_true rfl) (A.v rfl (V.mv (v := .p (.v (.int .i64 _))) rfl ?_))
          refine So.n (Nat.le_of_ble_eq_true rfl) (A.v rfl (V.mv (v := .p (.v (.int .i64 _))) rfl ?_))
          refine So.n (Nat.le_of_ble_eq_true rfl) (A.v rfl (V.addI rfl rfl (by omega) ?_))
          refine So.n (Nat.le_of_ble_eq_true rfl) (A.v rfl (V.cutBs ty22 ty5 rfl rfl rfl rfl (by omega) (.inl rfl) rfl ?_))
          refine So.n (Nat.le_of_ble_eq_true rfl) (A.v rfl (V.len ty22 (v := .p (.bs _)) rfl rfl ?_))
          refine So.n (Nat.le_of_ble_eq_true rfl) (A.v rfl (V.mv (v := .p (.v (.int .i64 (0)))) rfl ?_))
          refine So.e ?_
          show HT _ _ _ _ _
          refine HT.block ?_
          refine R.loop (σ := Nat) (fun s => [(9, .p (.v (.int .i64 (IntKind.i64.wrap (beN (((b.take (i + n).toNat).drop i.toNat).take s) : Int))))), (36, .p (.v (.int .i64 ((s : Int)))))]) (fun s => []) [1, 2, 6, 7, 8, 34, 35] [] (fun s => s ≤ n.toNat) (fun s => n.toNat - s) (0) (fr0 := [(1, .p (.v (.int .i64 _))), (2, .p (.v (.int .i64 _))), (6, .p (.v (.int .i64 _))), (7, .p (.v (.int .i64 _))), (8, .p (.v (.int .i64 _))), (34, .p (.bs _)), (35, .p (.v (.int .i64 _)))]) (O0 := []) rfl rfl (by first | rfl | omega | (simp; done) | (simp; omega)) ⟨⟨⟨le_int (by first | rfl | omega | (simp; done) | (simp; omega)), trivial⟩, ⟨le_int (by first | rfl | omega | (simp; done) | (simp; omega)), trivial⟩, ⟨.refl _, trivial⟩, ⟨.refl _, trivial⟩, ⟨.refl _, trivial⟩, ⟨.refl _, trivial⟩, ⟨.refl _, trivial⟩, ⟨.refl _, trivial⟩, ⟨.refl _, trivial⟩, trivial⟩, trivial⟩ (fun s hP0 => ?_)
          have hcl := @cut_len b i n (by omega) (by omega) (by omega)
          refine HT.seq ?_
          refine HT.region S_get_ok ?_
          refine So.n (Nat.le_of_ble_eq_true rfl) (A.v rfl (V.bin (a := (.v (.int .i64 ((_ : Nat) : Int)))) (b := (.v (.int .i64 _))) (r := .v (.bool _)) rfl rfl rfl trivial ?_))
          refine So.e ?_
          show HT _ _ _ _ _
          refine HT.seq ?_
          refine R.cond rfl rfl (fun h6 => ?_) (fun h6 => ?_)
          · have h6 := of_decide_eq_true h6
            refine HT.skip ?_
            show HT _ _ _ _ _
            refine HT.seq ?_
            refine HT.block ?_
            refine HT.seq ?_
            refine HT.region S_get_ok ?_
            refine So.n (Nat.le_of_ble_eq_true rfl) (A.v rfl (V.ixBs ty22 ty5 rfl rfl rfl (by omega) (Int.toNat_natCast _) ?_))
            refine So.n (Nat.le_of_ble_eq_true rfl) (A.v rfl (V.ldRp ty5 rfl rfl (Nat.le_of_ble_eq_true rfl) (v := (.u8 _)) rfl ?_))
            refine So.n (Nat.le_of_ble_eq_true rfl) (A.v rfl (V.as (v := .p (.u8 _)) rfl ?_))
            refine So.e ?_
            show HT _ _ _ _ _
            refine HT.region S_get_ok ?_
            refine So.n (Nat.le_of_ble_eq_true rfl) (A.v rfl (V.mv (v := .p (.v (.int .i64 _))) rfl ?_))
            refine So.n (Nat.le_of_ble_eq_true rfl) (A.v rfl (V.shlC (n := 8) (a := (.v (.int .i64 _))) (b := (.u64 8)) (r := .v (.int .i64 (iShl .i64 _ 8))) rfl rfl rfl rfl ?_))
            refine So.n (Nat.le_of_ble_eq_true rfl) (A.v rfl (V.mv (v := .p (.u8 _)) rfl ?_))
            refine So.n (Nat.le_of_ble_eq_true rfl) (A.v rfl (V.cvN ty2 ty5 (a := (.u8 _)) (r := (.v (.int .i64 _))) rfl rfl ?_))
            refine So.n (Nat.le_of_ble_eq_true rfl) (A.v rfl (V.bin (a := (.v (.int .i64 _))) (b := (.v (.int .i64 _))) (r := .v (.int .i64 _)) rfl rfl rfl trivial ?_))
            refine So.n (Nat.le_of_ble_eq_true rfl) (A.v rfl (V.as (v := .p (.v (.int .i64 _))) rfl ?_))
            refine So.e ?_
            show HT _ _ _ _ _
            refine HT.region S_get_ok ?_
            refine So.n (Nat.le_of_ble_eq_true rfl) (A.v rfl (V.addI rfl rfl (by omega) ?_))
            refine So.n (Nat.le_of_ble_eq_true rfl) (A.v rfl (V.mv (v := .p (.v (.int .i64 _))) rfl ?_))
            refine So.e ?_
            refine ⟨s + 1, by first | rfl | omega | (simp; done) | (simp; omega), by omega, ⟨⟨⟨le_int (by first | rfl | (rw [beN_take (by omega), ← i64_step] <;> rfl)), trivial⟩, ⟨le_int (by first | rfl | omega | (simp; done) | (simp; omega)), trivial⟩, ⟨.refl _, trivial⟩, ⟨.refl _, trivial⟩, ⟨.refl _, trivial⟩, ⟨.refl _, trivial⟩, ⟨.refl _, trivial⟩, ⟨.refl _, trivial⟩, ⟨.refl _, trivial⟩, trivial⟩, trivial⟩⟩
          · have h6 := of_decide_eq_false h6
            refine HT.exit ?_
            show HT _ _ _ _ _
            refine HT.seq ?_
            refine HT.seq ?_
            refine HT.region S_get_ok ?_
            refine So.n (Nat.le_of_ble_eq_true rfl) (A.v rfl (V.mv (v := .p (.v (.int .i64 _))) rfl ?_))
            refine So.n (Nat.le_of_ble_eq_true rfl) (A.v rfl (V.bin (a := (.v (.int .i64 _))) (b := (.v (.int .i64 (0)))) (r := .v (.bool _)) rfl rfl rfl trivial ?_))
            refine So.e ?_
            show HT _ _ _ _ _
            refine R.cond rfl rfl (fun h7 => ?_) (fun h7 => ?_)
            · have h7 := of_decide_eq_true h7
              refine HT.seq ?_
              refine HT.region S_get_ok ?_
              refine So.n (Nat.le_of_ble_eq_true rfl) (A.v rfl (V.as (v := .p (.v (.int .i64 (0)))) rfl ?_))
              refine So.n (Nat.le_of_ble_eq_true rfl) (A.v rfl (V.as (v := .p (.v (.int .i64 (0)))) rfl ?_))
              refine So.n (Nat.le_of_ble_eq_true rfl) (A.v rfl (V.as (v := .p (.v (.int .i64 (112)))) rfl ?_))
              refine So.e ?_
              show HT _ _ _ _ _
              refine HT.ret ?_
              exact ret_ok (sg []) h rfl rfl rfl trivial ⟨trivial, trivial, trivial, trivial⟩ rfl ⟨⟨⟨le_int (by first | (rw [getF_arg (by omega)]; done) | (rw [getF_end (by omega) (by omega) (by omega) (by omega)]; done) | (simp only [show ((b.take (i + n).toNat).drop i.toNat).take s = ((b.take (i + n).toNat).drop i.toNat) from List.take_of_length_le (by omega)] at *; first | (rw [getF_long (by omega) (by omega) (by omega) (by omega) (by assumption)]; done) | (rw [getF_ok (by omega) (by omega) (by omega) (by omega) (by assumption)]; done))), trivial⟩, ⟨le_int (by first | (rw [getF_arg (by omega)]; done) | (rw [getF_end (by omega) (by omega) (by omega) (by omega)]; done) | (simp only [show ((b.take (i + n).toNat).drop i.toNat).take s = ((b.take (i + n).toNat).drop i.toNat) from List.take_of_length_le (by omega)] at *; first | (rw [getF_long (by omega) (by omega) (by omega) (by omega) (by assumption)]; done) | (rw [getF_ok (by omega) (by omega) (by omega) (by omega) (by assumption)]; done))), trivial⟩, ⟨le_int (by first | (rw [getF_arg (by omega)]; done) | (rw [getF_end (by omega) (by omega) (by omega) (by omega)]; done) | (simp only [show ((b.take (i + n).toNat).drop i.toNat).take s = ((b.take (i + n).toNat).drop i.toNat) from List.take_of_length_le (by omega)] at *; first | (rw [getF_long (by omega) (by omega) (by omega) (by omega) (by assumption)]; done) | (rw [getF_ok (by omega) (by omega) (by omega) (by omega) (by assumption)]; done))), trivial⟩, trivial⟩, trivial⟩
            · have h7 := of_decide_eq_false h7
              refine HT.skip ?_
              show HT _ _ _ _ _
              refine HT.seq ?_
              refine HT.region S_get_ok ?_
              refine So.n (Nat.le_of_ble_eq_true rfl) (A.v rfl (V.mv (v := .p (.v (.int .i64 _))) rfl ?_))
              refine So.n (Nat.le_of_ble_eq_true rfl) (A.v rfl (V.mv (v := .p (.v (.int .i64 _))) rfl ?_))
              refine So.n (Nat.le_of_ble_eq_true rfl) (A.v rfl (V.mv (v := .p (.v (.int .i64 _))) rfl ?_))
              refine So.n (Nat.le_of_ble_eq_true rfl) (A.v rfl (V.addI rfl rfl (by omega) ?_))
              refine So.n (Nat.le_of_ble_eq_true rfl) (A.v rfl (V.as (v := .p (.v (.int .i64 _))) rfl ?_))
              refine So.n (Nat.le_of_ble_eq_true rfl) (A.v rfl (V.as (v := .p (.v (.int .i64 _))) rfl ?_))
              refine So.n (Nat.le_of_ble_eq_true rfl) (A.v rfl (V.as (v := .p (.v (.int .i64 (0)))) rfl ?_))
              refine So.e ?_
              show HT _ _ _ _ _
              refine HT.ret ?_
              exact ret_ok (sg []) h rfl rfl rfl trivial ⟨trivial, trivial, trivial, trivial⟩ rfl ⟨⟨⟨le_int (by first | (rw [getF_arg (by omega)]; done) | (rw [getF_end (by omega) (by omega) (by omega) (by omega)]; done) | (simp only [show ((b.take (i + n).toNat).drop i.toNat).take s = ((b.take (i + n).toNat).drop i.toNat) from List.take_of_length_le (by omega)] at *; first | (rw [getF_long (by omega) (by omega) (by omega) (by omega) (by assumption)]; done) | (rw [getF_ok (by omega) (by omega) (by omega) (by omega) (by assumption)]; done))), trivial⟩, ⟨le_int (by first | (rw [getF_arg (by omega)]; done) | (rw [getF_end (by omega) (by omega) (by omega) (by omega)]; done) | (simp only [show ((b.take (i + n).toNat).drop i.toNat).take s = ((b.take (i + n).toNat).drop i.toNat) from List.take_of_length_le (by omega)] at *; first | (rw [getF_long (by omega) (by omega) (by omega) (by omega) (by assumption)]; done) | (rw [getF_ok (by omega) (by omega) (by omega) (by omega) (by assumption)]; done))), trivial⟩, ⟨le_int (by first | (rw [getF_arg (by omega)]; done) | (rw [getF_end (by omega) (by omega) (by omega) (by omega)]; done) | (simp only [show ((b.take (i + n).toNat).drop i.toNat).take s = ((b.take (i + n).toNat).drop i.toNat) from List.take_of_length_le (by omega)] at *; first | (rw [getF_long (by omega) (by omega) (by omega) (by omega) (by assumption)]; done) | (rw [getF_ok (by omega) (by omega) (by omega) (by omega) (by assumption)]; done))), trivial⟩, trivial⟩, trivial⟩

/-! ### sodality/wire.Number -/
def numSp : Sp := ⟨[], mkE (α := Int × Int) (fun (n, k) => [.p (.v (.int .i64 (n))), .p (.v (.int .i64 (k)))]) (fun (n, k) => []) (fun (n, k) => True) (fun (n, k) => [.own 1 (0) ((numF n k).length)]) (fun (n, k) => [(1, ⟨5, 1, (numF n k).length, true, .bs (numF n k)⟩)])⟩
def S_num : FuncId → Option Sp := fun f => if f = 26 then some fitsSp else none
theorem S_num_ok : ∀ f s, S_num f = some s → FOK Tryd.prog gl f s := fun f s h => by
  unfold S_num at h
  split at h
  · rename_i e; cases h; subst e; exact fits_ok
  cases h
theorem S_num_det : ∀ f s, S_num f = some s → SpDet s.sp := fun f s h => by
  unfold S_num at h
  split at h
  · cases h; exact mkE_det _ _ _ _ _
  cases h
set_option maxHeartbeats 1000000 in
theorem num_ok : FOK Tryd.prog gl 14 numSp := by
  refine FOK.ofE (tyOf_ok Tryd.prog) (slots := [4]) (nt := 45) Tryd.func14 rfl rfl rfl rfl (by decide) 2 (fun ⟨_, _⟩ => rfl) (by decide) (fun ⟨_, _⟩ => ⟨trivial, trivial, trivial⟩) ?_
  rintro ⟨n, k⟩ kk hlen hpre h
  replace hpre : True := hpre
  show HT ⟨Tryd.prog, 45, tyOf Tryd.prog, gl, []⟩ _ [(0, .p (.v (.int .i64 (n)))), (1, .p (.v (.int .i64 (k))))] [] _
  refine HT.seq ?_
  refine HT.region S_num_ok ?_
  refine So.n (Nat.le_of_ble_eq_true rfl) (A.v rfl (V.as (v := .p (.v (.slice none 0 0))) rfl ?_))
  refine So.e ?_
  show HT _ _ _ _ _
  refine HT.seq ?_
  refine HT.seq ?_
  refine HT.region S_num_ok ?_
  refine So.n (Nat.le_of_ble_eq_true rfl) (A.v rfl (V.mv (v := .p (.v (.int .i64 _))) rfl ?_))
  refine So.n (Nat.le_of_ble_eq_true rfl) (A.call0 [.p (.v (.int .i64 _))] 1 rfl rfl rfl rfl ⟨trivial, trivial⟩ trivial _ ⟨.refl _, trivial⟩ trivial (by trivial) (Φ := fun _ => True) (fun _ _ => trivial) (.inl rfl) (v := .p (.v (.bool _))) rfl (O' := _) rfl (fun h1 => ?_))
  refine So.n (Nat.le_of_ble_eq_true rfl) (A.v rfl (V.not rfl ?_))
  refine So.n (Nat.le_of_ble_eq_true rfl) (A.v rfl (V.mv (v := .p (.v (.bool _))) rfl ?_))
  refine So.gd rfl rfl (Nat.le_of_ble_eq_true rfl) (Nat.le_of_ble_eq_true rfl) (fun h2 => ?_) (fun h2 => ?_)
  · have h2 := fitsT (bnF h2)
    refine A.v rfl (V.mv (v := .p (.v (.int .i64 _))) rfl ?_)
    refine So.gy rfl rfl (Nat.le_of_ble_eq_true rfl) (Nat.le_of_ble_eq_true rfl) ?_
    refine A.v rfl (V.bin (a := (.v (.int .i64 _))) (b := (.v (.int .i64 (0)))) (r := .v (.bool _)) rfl rfl rfl trivial ?_)
    refine So.n (Nat.le_of_ble_eq_true rfl) (A.v rfl (V.pkFalse (u := .p (.v (.bool _))) rfl rfl ?_))
    refine So.n (Nat.le_of_ble_eq_true rfl) (A.v rfl (V.mv (v := .p (.v (.bool _))) rfl ?_))
    refine So.gd rfl rfl (Nat.le_of_ble_eq_true rfl) (Nat.le_of_ble_eq_true rfl) (fun h3 => ?_) (fun h3 => ?_)
    · have h3 := of_decide_eq_false h3
      refine A.v rfl (V.mv (v := .p (.v (.int .i64 _))) rfl ?_)
      refine So.gy rfl rfl (Nat.le_of_ble_eq_true rfl) (Nat.le_of_ble_eq_true rfl) ?_
      refine A.v rfl (V.bin (a := (.v (.int .i64 _))) (b := (.v (.int .i64 (8)))) (r := .v (.bool _)) rfl rfl rfl trivial ?_)
      refine So.gy rfl rfl (Nat.le_of_ble_eq_true rfl) (Nat.le_of_ble_eq_true rfl) ?_
      refine A.v rfl (V.mv (v := .p (.v (.bool _))) rfl ?_)
      refine So.gd rfl rfl (Nat.le_of_ble_eq_true rfl) (Nat.le_of_ble_eq_true rfl) (fun h4 => ?_) (fun h4 => ?_)
      · have h4 := of_decide_eq_true h4
        refine A.v rfl (V.mv (v := .p (.v (.int .i64 _))) rfl ?_)
        refine So.gy rfl rfl (Nat.le_of_ble_eq_true rfl) (Nat.le_of_ble_eq_true rfl) ?_
        refine A.v rfl (V.mv (v := .p (.v (.int .i64 _))) rfl ?_)
        refine So.gy rfl rfl (Nat.le_of_ble_eq_true rfl) (Nat.le_of_ble_eq_true rfl) ?_
        refine A.v rfl (V.mulI rfl rfl (by omega) ?_)
        refine So.gy rfl rfl (Nat.le_of_ble_eq_true rfl) (Nat.le_of_ble_eq_true rfl) ?_
        refine A.v rfl (V.bin (a := (.v (.int .i64 (1)))) (b := (.v (.int .i64 _))) (r := .v (.int .i64 _)) rfl rfl rfl (by first | rfl | omega | (simp; done) | (simp; omega)) ?_)
        refine So.gy rfl rfl (Nat.le_of_ble_eq_true rfl) (Nat.le_of_ble_eq_true rfl) ?_
        refine A.v rfl (V.bin (a := (.v (.int .i64 _))) (b := (.v (.int .i64 _))) (r := .v (.bool _)) rfl rfl rfl trivial ?_)
        refine So.gy rfl rfl (Nat.le_of_ble_eq_true rfl) (Nat.le_of_ble_eq_true rfl) ?_
        refine A.v rfl (V.pkTrue (u := .p (.v (.bool _))) rfl rfl ?_)
        refine So.n (Nat.le_of_ble_eq_true rfl) (A.v rfl (V.pkFalse (u := .p (.v (.bool _))) rfl rfl ?_))
        refine So.e ?_
        show HT _ _ _ _ _
        refine R.cond rfl rfl (fun h5 => ?_) (fun h5 => ?_)
        · have h5 := of_decide_eq_true h5
          refine HT.seq ?_
          refine HT.region S_num_ok ?_
          refine So.n (Nat.le_of_ble_eq_true rfl) (A.v rfl (V.as (v := .p (.v (.slice none 0 0))) rfl ?_))
          refine So.e ?_
          show HT _ _ _ _ _
          refine R.phan 4 1 5 1 (.bs []) rfl rfl rfl ⟨rfl, rfl⟩ ?_
          refine HT.ret ?_
          exact ret_ok (sg [(1, 1)]) h rfl rfl rfl ⟨trivial, trivial⟩ ⟨rfl, trivial⟩ rfl ⟨⟨⟨le_own2 (by first | rfl | omega) (by first | rfl | (rw [numF_bad (by omega)] <;> rfl) | (rw [numF_big (by omega) (by omega)] <;> rfl) | (rw [numF_ok (by omega) (by omega) (by omega), numB_len]) | (rw [numF_ok (by omega) (by omega) (by omega)]; exact num_fin (by omega))), rfl⟩, trivial⟩, ⟨⟨_, rfl, .inl (ob_bs (by first | rfl | ((try dsimp only); (first | rfl | (rw [numF_bad (by omega)] <;> rfl) | (rw [numF_big (by omega) (by omega)] <;> rfl) | (rw [numF_ok (by omega) (by omega) (by omega), numB_len]) | (rw [numF_ok (by omega) (by omega) (by omega)]; exact num_fin (by omega))))) (by first | rfl | ((try dsimp only); (first | rfl | (rw [numF_bad (by omega)] <;> rfl) | (rw [numF_big (by omega) (by omega)] <;> rfl) | (rw [numF_ok (by omega) (by omega) (by omega), numB_len]) | (rw [numF_ok (by omega) (by omega) (by omega)]; exact num_fin (by omega)))))), trivial⟩, trivial⟩⟩
        · have h5 := of_decide_eq_false h5
          refine HT.skip ?_
          show HT _ _ _ _ _
          refine HT.seq ?_
          refine HT.region S_num_ok ?_
          refine So.n (Nat.le_of_ble_eq_true rfl) (A.v rfl (V.mv (v := .p (.v (.int .i64 _))) rfl ?_))
          refine So.n (Nat.le_of_ble_eq_true rfl) (A.mkB 1 ty22 ty5 rfl rfl rfl (by omega) rfl rfl trivial ?_)
          refine So.n (Nat.le_of_ble_eq_true rfl) (A.v rfl (V.as (v := .own 1 0 _) rfl ?_))
          refine So.e ?_
          show HT _ _ _ _ _
          refine HT.seq ?_
          refine HT.seq ?_
          refine HT.region S_num_ok ?_
          refine So.n (Nat.le_of_ble_eq_true rfl) (A.v rfl (V.mv (v := .own 1 0 _) rfl ?_))
          refine So.n (Nat.le_of_ble_eq_true rfl) (A.v rfl (V.len ty22 (v := .own 1 0 _) rfl rfl ?_))
          refine So.n (Nat.le_of_ble_eq_true rfl) (A.v rfl (V.mv (v := .p (.v (.int .i64 (0)))) rfl ?_))
          refine So.e ?_
          show HT _ _ _ _ _
          refine HT.block ?_
          refine R.loop (σ := Nat) (fun s => [(29, .p (.v (.int .i64 ((s : Int)))))]) (fun s => [(1, ⟨5, 1, k.toNat, true, .bs (List.replicate (k.toNat - s) 0 ++ (numB n k.toNat).drop (k.toNat - s))⟩)]) [0, 1, 4, 5, 28] [] (fun s => s ≤ k.toNat) (fun s => k.toNat - s) (0) (fr0 := [(0, .p (.v (.int .i64 _))), (1, .p (.v (.int .i64 _))), (4, .p (.v (.slice none 0 0))), (5, .own 1 0 _), (28, .p (.v (.int .i64 _)))]) (O0 := []) rfl rfl (by first | rfl | omega | (simp; done) | (simp; omega)) ⟨⟨⟨le_int (by first | rfl | omega | (simp [numB]; done)), trivial⟩, ⟨.refl _, trivial⟩, ⟨.refl _, trivial⟩, ⟨.refl _, trivial⟩, ⟨.refl _, rfl⟩, ⟨.refl _, trivial⟩, trivial⟩, ⟨⟨_, rfl, .inl (ob_bs (by first | rfl | ((try dsimp only); first | rfl | omega | (simp [numB]; done))) (by first | rfl | ((try dsimp only); first | rfl | omega | (simp [numB]; done)))), trivial⟩, trivial⟩⟩ (fun s hP0 => ?_)
          refine HT.seq ?_
          refine HT.region S_num_ok ?_
          refine So.n (Nat.le_of_ble_eq_true rfl) (A.v rfl (V.bin (a := (.v (.int .i64 ((_ : Nat) : Int)))) (b := (.v (.int .i64 _))) (r := .v (.bool _)) rfl rfl rfl trivial ?_))
          refine So.e ?_
          show HT _ _ _ _ _
          refine HT.seq ?_
          refine R.cond rfl rfl (fun h6 => ?_) (fun h6 => ?_)
          · have h6 := of_decide_eq_true h6
            refine HT.skip ?_
            show HT _ _ _ _ _
            refine HT.seq ?_
            refine HT.block ?_
            refine HT.seq ?_
            refine HT.region S_num_ok ?_
            refine So.n (Nat.le_of_ble_eq_true rfl) (A.v rfl (V.mv (v := .p (.v (.int .i64 ((_ : Nat) : Int)))) rfl ?_))
            refine So.n (Nat.le_of_ble_eq_true rfl) (A.v rfl (V.as (v := .p (.v (.int .i64 ((_ : Nat) : Int)))) rfl ?_))
            refine So.e ?_
            show HT _ _ _ _ _
            refine HT.region S_num_ok ?_
            refine So.n (Nat.le_of_ble_eq_true rfl) (A.v rfl (V.mv (v := .own 1 0 _) rfl ?_))
            refine So.n (Nat.le_of_ble_eq_true rfl) (A.v rfl (V.mv (v := .p (.v (.int .i64 _))) rfl ?_))
            refine So.n (Nat.le_of_ble_eq_true rfl) (A.v rfl (V.subI rfl rfl (by omega) ?_))
            refine So.n (Nat.le_of_ble_eq_true rfl) (A.v rfl (V.mv (v := .p (.v (.int .i64 ((_ : Nat) : Int)))) rfl ?_))
            refine So.n (Nat.le_of_ble_eq_true rfl) (A.v rfl (V.subI rfl rfl (by omega) ?_))
            refine So.n (Nat.le_of_ble_eq_true rfl) (A.v rfl (V.mv (v := .p (.v (.int .i64 _))) rfl ?_))
            refine So.n (Nat.le_of_ble_eq_true rfl) (A.v rfl (V.mv (v := .p (.v (.int .i64 ((_ : Nat) : Int)))) rfl ?_))
            refine So.n (Nat.le_of_ble_eq_true rfl) (A.v rfl (V.mulI rfl rfl (by omega) ?_))
            refine So.n (Nat.le_of_ble_eq_true rfl) (A.v rfl (V.bin (a := (.v (.int .i64 _))) (b := (.v (.int .i64 _))) (r := .v (.int .i64 _)) rfl rfl rfl (by first | rfl | omega | (simp; done) | (simp; omega)) ?_))
            refine So.n (Nat.le_of_ble_eq_true rfl) (A.v rfl (V.cvN ty5 ty2 (a := (.v (.int .i64 _))) (r := (.u8 _)) rfl rfl ?_))
            refine So.n (Nat.le_of_ble_eq_true rfl) (A.v rfl (V.ixOwn10 ty22 ty5 rfl rfl rfl rfl rfl (by omega) rfl ?_))
            refine So.s (A.sto ty5 rfl rfl rfl (v := .p (.u8 _)) rfl trivial rfl (by first | rfl | omega | (simp; done) | (simp; omega)) rfl rfl ?_)
            refine So.e ?_
            show HT _ _ _ _ _
            refine HT.region S_num_ok ?_
            refine So.n (Nat.le_of_ble_eq_true rfl) (A.v rfl (V.addI rfl rfl (by omega) ?_))
            refine So.n (Nat.le_of_ble_eq_true rfl) (A.v rfl (V.mv (v := .p (.v (.int .i64 _))) rfl ?_))
            refine So.e ?_
            refine ⟨s + 1, by first | rfl | omega | (simp; done) | (simp; omega), by omega, ⟨⟨⟨le_int (by first | rfl | omega | (simp; done) | (simp; omega)), trivial⟩, ⟨.refl _, trivial⟩, ⟨.refl _, trivial⟩, ⟨.refl _, trivial⟩, ⟨.refl _, rfl⟩, ⟨.refl _, trivial⟩, trivial⟩, ⟨⟨_, rfl, .inl (ob_bs (by first | rfl | ((try dsimp only); first | rfl | exact num_step (by omega) (by omega))) (by first | rfl | ((try dsimp only); first | rfl | exact num_step (by omega) (by omega)))), trivial⟩, trivial⟩⟩⟩
          · have h6 := of_decide_eq_false h6
            refine HT.exit ?_
            show HT _ _ _ _ _
            refine HT.seq ?_
            refine HT.region S_num_ok ?_
            refine So.n (Nat.le_of_ble_eq_true rfl) (A.v rfl (V.mv (v := .own 1 0 _) rfl ?_))
            refine So.n (Nat.le_of_ble_eq_true rfl) (A.v rfl (V.as (v := .own 1 0 _) rfl ?_))
            refine So.e ?_
            show HT _ _ _ _ _
            refine HT.ret ?_
            exact ret_ok (sg [(1, 1)]) h rfl rfl rfl ⟨trivial, trivial⟩ ⟨rfl, trivial⟩ rfl ⟨⟨⟨le_own2 (by first | rfl | omega) (by first | rfl | (rw [numF_bad (by omega)] <;> rfl) | (rw [numF_big (by omega) (by omega)] <;> rfl) | (rw [numF_ok (by omega) (by omega) (by omega), numB_len]) | (rw [numF_ok (by omega) (by omega) (by omega)]; exact num_fin (by omega))), rfl⟩, trivial⟩, ⟨⟨_, rfl, .inl (ob_bs (by first | rfl | ((try dsimp only); (first | rfl | (rw [numF_bad (by omega)] <;> rfl) | (rw [numF_big (by omega) (by omega)] <;> rfl) | (rw [numF_ok (by omega) (by omega) (by omega), numB_len]) | (rw [numF_ok (by omega) (by omega) (by omega)]; exact num_fin (by omega))))) (by first | rfl | ((try dsimp only); (first | rfl | (rw [numF_bad (by omega)] <;> rfl) | (rw [numF_big (by omega) (by omega)] <;> rfl) | (rw [numF_ok (by omega) (by omega) (by omega), numB_len]) | (rw [numF_ok (by omega) (by omega) (by omega)]; exact num_fin (by omega)))))), trivial⟩, trivial⟩⟩
      · have h4 := of_decide_eq_false h4
        refine So.gn (b := false) rfl rfl rfl (Nat.le_of_ble_eq_true rfl) (Nat.le_of_ble_eq_true rfl) ?_
        refine So.gn (b := false) rfl rfl rfl (Nat.le_of_ble_eq_true rfl) (Nat.le_of_ble_eq_true rfl) ?_
        refine So.gn (b := false) rfl rfl rfl (Nat.le_of_ble_eq_true rfl) (Nat.le_of_ble_eq_true rfl) ?_
        refine So.gn (b := false) rfl rfl rfl (Nat.le_of_ble_eq_true rfl) (Nat.le_of_ble_eq_true rfl) ?_
        refine So.gy rfl rfl (Nat.le_of_ble_eq_true rfl) (Nat.le_of_ble_eq_true rfl) ?_
        refine A.v rfl (V.pkFalse (u := .p (.v (.bool false))) rfl rfl ?_)
        refine So.n (Nat.le_of_ble_eq_true rfl) (A.v rfl (V.pkFalse (u := .p (.v (.bool false))) rfl rfl ?_))
        refine So.e ?_
        show HT _ _ _ _ _
        refine R.condF rfl ?_
        refine HT.skip ?_
        show HT _ _ _ _ _
        refine HT.seq ?_
        refine HT.region S_num_ok ?_
        refine So.n (Nat.le_of_ble_eq_true rfl) (A.v rfl (V.mv (v := .p (.v (.int .i64 _))) rfl ?_))
        refine So.n (Nat.le_of_ble_eq_true rfl) (A.mkB 1 ty22 ty5 rfl rfl rfl (by omega) rfl rfl trivial ?_)
        refine So.n (Nat.le_of_ble_eq_true rfl) (A.v rfl (V.as (v := .own 1 0 _) rfl ?_))
        refine So.e ?_
        show HT _ _ _ _ _
        refine HT.seq ?_
        refine HT.seq ?_
        refine HT.region S_num_ok ?_
        refine So.n (Nat.le_of_ble_eq_true rfl) (A.v rfl (V.mv (v := .own 1 0 _) rfl ?_))
        refine So.n (Nat.le_of_ble_eq_true rfl) (A.v rfl (V.len ty22 (v := .own 1 0 _) rfl rfl ?_))
        refine So.n (Nat.le_of_ble_eq_true rfl) (A.v rfl (V.mv (v := .p (.v (.int .i64 (0)))) rfl ?_))
        refine So.e ?_
        show HT _ _ _ _ _
        refine HT.block ?_
        refine R.loop (σ := Nat) (fun s => [(29, .p (.v (.int .i64 ((s : Int)))))]) (fun s => [(1, ⟨5, 1, k.toNat, true, .bs (List.replicate (k.toNat - s) 0 ++ (numB n k.toNat).drop (k.toNat - s))⟩)]) [0, 1, 4, 5, 28] [] (fun s => s ≤ k.toNat) (fun s => k.toNat - s) (0) (fr0 := [(0, .p (.v (.int .i64 _))), (1, .p (.v (.int .i64 _))), (4, .p (.v (.slice none 0 0))), (5, .own 1 0 _), (28, .p (.v (.int .i64 _)))]) (O0 := []) rfl rfl (by first | rfl | omega | (simp; done) | (simp; omega)) ⟨⟨⟨le_int (by first | rfl | omega | (simp [numB]; done)), trivial⟩, ⟨.refl _, trivial⟩, ⟨.refl _, trivial⟩, ⟨.refl _, trivial⟩, ⟨.refl _, rfl⟩, ⟨.refl _, trivial⟩, trivial⟩, ⟨⟨_, rfl, .inl (ob_bs (by first | rfl | ((try dsimp only); first | rfl | omega | (simp [numB]; done))) (by first | rfl | ((try dsimp only); first | rfl | omega | (simp [numB]; done)))), trivial⟩, trivial⟩⟩ (fun s hP0 => ?_)
        refine HT.seq ?_
        refine HT.region S_num_ok ?_
        refine So.n (Nat.le_of_ble_eq_true rfl) (A.v rfl (V.bin (a := (.v (.int .i64 ((_ : Nat) : Int)))) (b := (.v (.int .i64 _))) (r := .v (.bool _)) rfl rfl rfl trivial ?_))
        refine So.e ?_
        show HT _ _ _ _ _
        refine HT.seq ?_
        refine R.cond rfl rfl (fun h7 => ?_) (fun h7 => ?_)
        · have h7 := of_decide_eq_true h7
          refine HT.skip ?_
          show HT _ _ _ _ _
          refine HT.seq ?_
          refine HT.block ?_
          refine HT.seq ?_
          refine HT.region S_num_ok ?_
          refine So.n (Nat.le_of_ble_eq_true rfl) (A.v rfl (V.mv (v := .p (.v (.int .i64 ((_ : Nat) : Int)))) rfl ?_))
          refine So.n (Nat.le_of_ble_eq_true rfl) (A.v rfl (V.as (v := .p (.v (.int .i64 ((_ : Nat) : Int)))) rfl ?_))
          refine So.e ?_
          show HT _ _ _ _ _
          refine HT.region S_num_ok ?_
          refine So.n (Nat.le_of_ble_eq_true rfl) (A.v rfl (V.mv (v := .own 1 0 _) rfl ?_))
          refine So.n (Nat.le_of_ble_eq_true rfl) (A.v rfl (V.mv (v := .p (.v (.int .i64 _))) rfl ?_))
          refine So.n (Nat.le_of_ble_eq_true rfl) (A.v rfl (V.subI rfl rfl (by omega) ?_))
          refine So.n (Nat.le_of_ble_eq_true rfl) (A.v rfl (V.mv (v := .p (.v (.int .i64 ((_ : Nat) : Int)))) rfl ?_))
          refine So.n (Nat.le_of_ble_eq_true rfl) (A.v rfl (V.subI rfl rfl (by omega) ?_))
          refine So.n (Nat.le_of_ble_eq_true rfl) (A.v rfl (V.mv (v := .p (.v (.int .i64 _))) rfl ?_))
          refine So.n (Nat.le_of_ble_eq_true rfl) (A.v rfl (V.mv (v := .p (.v (.int .i64 ((_ : Nat) : Int)))) rfl ?_))
          refine So.n (Nat.le_of_ble_eq_true rfl) (A.v rfl (V.mulI rfl rfl (by omega) ?_))
          refine So.n (Nat.le_of_ble_eq_true rfl) (A.v rfl (V.bin (a := (.v (.int .i64 _))) (b := (.v (.int .i64 _))) (r := .v (.int .i64 _)) rfl rfl rfl (by first | rfl | omega | (simp; done) | (simp; omega)) ?_))
          refine So.n (Nat.le_of_ble_eq_true rfl) (A.v rfl (V.cvN ty5 ty2 (a := (.v (.int .i64 _))) (r := (.u8 _)) rfl rfl ?_))
          refine So.n (Nat.le_of_ble_eq_true rfl) (A.v rfl (V.ixOwn10 ty22 ty5 rfl rfl rfl rfl rfl (by omega) rfl ?_))
          refine So.s (A.sto ty5 rfl rfl rfl (v := .p (.u8 _)) rfl trivial rfl (by first | rfl | omega | (simp; done) | (simp; omega)) rfl rfl ?_)
          refine So.e ?_
          show HT _ _ _ _ _
          refine HT.region S_num_ok ?_
          refine So.n (Nat.le_of_ble_eq_true rfl) (A.v rfl (V.addI rfl rfl (by omega) ?_))
          refine So.n (Nat.le_of_ble_eq_true rfl) (A.v rfl (V.mv (v := .p (.v (.int .i64 _))) rfl ?_))
          refine So.e ?_
          refine ⟨s + 1, by first | rfl | omega | (simp; done) | (simp; omega), by omega, ⟨⟨⟨le_int (by first | rfl | omega | (simp; done) | (simp; omega)), trivial⟩, ⟨.refl _, trivial⟩, ⟨.refl _, trivial⟩, ⟨.refl _, trivial⟩, ⟨.refl _, rfl⟩, ⟨.refl _, trivial⟩, trivial⟩, ⟨⟨_, rfl, .inl (ob_bs (by first | rfl | ((try dsimp only); first | rfl | exact num_step (by omega) (by omega))) (by first | rfl | ((try dsimp only); first | rfl | exact num_step (by omega) (by omega)))), trivial⟩, trivial⟩⟩⟩
        · have h7 := of_decide_eq_false h7
          refine HT.exit ?_
          show HT _ _ _ _ _
          refine HT.seq ?_
          refine HT.region S_num_ok ?_
          refine So.n (Nat.le_of_ble_eq_true rfl) (A.v rfl (V.mv (v := .own 1 0 _) rfl ?_))
          refine So.n (Nat.le_of_ble_eq_true rfl) (A.v rfl (V.as (v := .own 1 0 _) rfl ?_))
          refine So.e ?_
          show HT _ _ _ _ _
          refine HT.ret ?_
          exact ret_ok (sg [(1, 1)]) h rfl rfl rfl ⟨trivial, trivial⟩ ⟨rfl, trivial⟩ rfl ⟨⟨⟨le_own2 (by first | rfl | omega) (by first | rfl | (rw [numF_bad (by omega)] <;> rfl) | (rw [numF_big (by omega) (by omega)] <;> rfl) | (rw [numF_ok (by omega) (by omega) (by omega), numB_len]) | (rw [numF_ok (by omega) (by omega) (by omega)]; exact num_fin (by omega))), rfl⟩, trivial⟩, ⟨⟨_, rfl, .inl (ob_bs (by first | rfl | ((try dsimp only); (first | rfl | (rw [numF_bad (by omega)] <;> rfl) | (rw [numF_big (by omega) (by omega)] <;> rfl) | (rw [numF_ok (by omega) (by omega) (by omega), numB_len]) | (rw [numF_ok (by omega) (by omega) (by omega)]; exact num_fin (by omega))))) (by first | rfl | ((try dsimp only); (first | rfl | (rw [numF_bad (by omega)] <;> rfl) | (rw [numF_big (by omega) (by omega)] <;> rfl) | (rw [numF_ok (by omega) (by omega) (by omega), numB_len]) | (rw [numF_ok (by omega) (by omega) (by omega)]; exact num_fin (by omega)))))), trivial⟩, trivial⟩⟩
    · have h3 := of_decide_eq_true h3
      refine So.gn (b := true) rfl rfl rfl (Nat.le_of_ble_eq_true rfl) (Nat.le_of_ble_eq_true rfl) ?_
      refine So.gn (b := true) rfl rfl rfl (Nat.le_of_ble_eq_true rfl) (Nat.le_of_ble_eq_true rfl) ?_
      refine So.gu rfl rfl (Nat.le_of_ble_eq_true rfl) ?_
      refine So.gu rfl rfl (Nat.le_of_ble_eq_true rfl) ?_
      refine So.gu rfl rfl (Nat.le_of_ble_eq_true rfl) ?_
      refine So.gu rfl rfl (Nat.le_of_ble_eq_true rfl) ?_
      refine So.gu rfl rfl (Nat.le_of_ble_eq_true rfl) ?_
      refine So.gn (b := true) rfl rfl rfl (Nat.le_of_ble_eq_true rfl) (Nat.le_of_ble_eq_true rfl) ?_
      refine So.n (Nat.le_of_ble_eq_true rfl) (A.v rfl (V.pkTrue (u := .p (.v (.bool true))) rfl rfl ?_))
      refine So.e ?_
      show HT _ _ _ _ _
      refine R.condT rfl ?_
      refine HT.seq ?_
      refine HT.region S_num_ok ?_
      refine So.n (Nat.le_of_ble_eq_true rfl) (A.v rfl (V.as (v := .p (.v (.slice none 0 0))) rfl ?_))
      refine So.e ?_
      show HT _ _ _ _ _
      refine R.phan 4 1 5 1 (.bs []) rfl rfl rfl ⟨rfl, rfl⟩ ?_
      refine HT.ret ?_
      exact ret_ok (sg [(1, 1)]) h rfl rfl rfl ⟨trivial, trivial⟩ ⟨rfl, trivial⟩ rfl ⟨⟨⟨le_own2 (by first | rfl | omega) (by first | rfl | (rw [numF_bad (by omega)] <;> rfl) | (rw [numF_big (by omega) (by omega)] <;> rfl) | (rw [numF_ok (by omega) (by omega) (by omega), numB_len]) | (rw [numF_ok (by omega) (by omega) (by omega)]; exact num_fin (by omega))), rfl⟩, trivial⟩, ⟨⟨_, rfl, .inl (ob_bs (by first | rfl | ((try dsimp only); (first | rfl | (rw [numF_bad (by omega)] <;> rfl) | (rw [numF_big (by omega) (by omega)] <;> rfl) | (rw [numF_ok (by omega) (by omega) (by omega), numB_len]) | (rw [numF_ok (by omega) (by omega) (by omega)]; exact num_fin (by omega))))) (by first | rfl | ((try dsimp only); (first | rfl | (rw [numF_bad (by omega)] <;> rfl) | (rw [numF_big (by omega) (by omega)] <;> rfl) | (rw [numF_ok (by omega) (by omega) (by omega), numB_len]) | (rw [numF_ok (by omega) (by omega) (by omega)]; exact num_fin (by omega)))))), trivial⟩, trivial⟩⟩
  · have h2 := fitsN (bnT h2)
    refine So.gn (b := true) rfl rfl rfl (Nat.le_of_ble_eq_true rfl) (Nat.le_of_ble_eq_true rfl) ?_
    refine So.n (Nat.le_of_ble_eq_true rfl) (A.v rfl (V.pkTrue (u := .p (.v (.bool true))) rfl rfl ?_))
    refine So.n (Nat.le_of_ble_eq_true rfl) (A.v rfl (V.mv (v := .p (.v (.bool true))) rfl ?_))
    refine So.gn (b := true) rfl rfl rfl (Nat.le_of_ble_eq_true rfl) (Nat.le_of_ble_eq_true rfl) ?_
    refine So.gn (b := true) rfl rfl rfl (Nat.le_of_ble_eq_true rfl) (Nat.le_of_ble_eq_true rfl) ?_
    refine So.gn (b := true) rfl rfl rfl (Nat.le_of_ble_eq_true rfl) (Nat.le_of_ble_eq_true rfl) ?_
    refine So.gu rfl rfl (Nat.le_of_ble_eq_true rfl) ?_
    refine So.gu rfl rfl (Nat.le_of_ble_eq_true rfl) ?_
    refine So.gu rfl rfl (Nat.le_of_ble_eq_true rfl) ?_
    refine So.gu rfl rfl (Nat.le_of_ble_eq_true rfl) ?_
    refine So.gu rfl rfl (Nat.le_of_ble_eq_true rfl) ?_
    refine So.gn (b := true) rfl rfl rfl (Nat.le_of_ble_eq_true rfl) (Nat.le_of_ble_eq_true rfl) ?_
    refine So.n (Nat.le_of_ble_eq_true rfl) (A.v rfl (V.pkTrue (u := .p (.v (.bool true))) rfl rfl ?_))
    refine So.e ?_
    show HT _ _ _ _ _
    refine R.condT rfl ?_
    refine HT.seq ?_
    refine HT.region S_num_ok ?_
    refine So.n (Nat.le_of_ble_eq_true rfl) (A.v rfl (V.as (v := .p (.v (.slice none 0 0))) rfl ?_))
    refine So.e ?_
    show HT _ _ _ _ _
    refine R.phan 4 1 5 1 (.bs []) rfl rfl rfl ⟨rfl, rfl⟩ ?_
    refine HT.ret ?_
    exact ret_ok (sg [(1, 1)]) h rfl rfl rfl ⟨trivial, trivial⟩ ⟨rfl, trivial⟩ rfl ⟨⟨⟨le_own2 (by first | rfl | omega) (by first | rfl | (rw [numF_bad (by omega)] <;> rfl) | (rw [numF_big (by omega) (by omega)] <;> rfl) | (rw [numF_ok (by omega) (by omega) (by omega), numB_len]) | (rw [numF_ok (by omega) (by omega) (by omega)]; exact num_fin (by omega))), rfl⟩, trivial⟩, ⟨⟨_, rfl, .inl (ob_bs (by first | rfl | ((try dsimp only); (first | rfl | (rw [numF_bad (by omega)] <;> rfl) | (rw [numF_big (by omega) (by omega)] <;> rfl) | (rw [numF_ok (by omega) (by omega) (by omega), numB_len]) | (rw [numF_ok (by omega) (by omega) (by omega)]; exact num_fin (by omega))))) (by first | rfl | ((try dsimp only); (first | rfl | (rw [numF_bad (by omega)] <;> rfl) | (rw [numF_big (by omega) (by omega)] <;> rfl) | (rw [numF_ok (by omega) (by omega) (by omega), numB_len]) | (rw [numF_ok (by omega) (by omega) (by omega)]; exact num_fin (by omega)))))), trivial⟩, trivial⟩⟩

/-! ### sodality/wire.length -/
def lenSp : Sp := ⟨[], mkE (α := Int) (fun n => [.p (.v (.int .i64 (n)))]) (fun n => []) (fun n => 0 ≤ n ∧ n < 1073741824) (fun n => [.own 1 (0) ((lenF n).length)]) (fun n => [(1, ⟨5, 1, (lenF n).length, true, .bs (lenF n)⟩)])⟩
def S_len : FuncId → Option Sp := fun f => if f = 14 then some numSp else none
theorem S_len_ok : ∀ f s, S_len f = some s → FOK Tryd.prog gl f s := fun f s h => by
  unfold S_len at h
  split at h
  · rename_i e; cases h; subst e; exact num_ok
  cases h
theorem S_len_det : ∀ f s, S_len f = some s → SpDet s.sp := fun f s h => by
  unfold S_len at h
  split at h
  · cases h; exact mkE_det _ _ _ _ _
  cases h
set_option maxHeartbeats 1000000 in
theorem len_ok : FOK Tryd.prog gl 27 lenSp := by
  refine FOK.ofE (tyOf_ok Tryd.prog) (slots := [2]) (nt := 22) Tryd.func27 rfl rfl rfl rfl (by decide) 1 (fun _ => rfl) (by decide) (fun _ => ⟨trivial, trivial⟩) ?_
  rintro n kk hlen hpre h
  replace hpre : 0 ≤ n ∧ n < 1073741824 := hpre
  show HT ⟨Tryd.prog, 22, tyOf Tryd.prog, gl, []⟩ _ [(0, .p (.v (.int .i64 (n))))] [] _
  refine HT.seq ?_
  refine HT.region S_len_ok ?_
  refine So.n (Nat.le_of_ble_eq_true rfl) (A.v rfl (V.as (v := .p (.v (.slice none 0 0))) rfl ?_))
  refine So.e ?_
  show HT _ _ _ _ _
  refine HT.scopeS ?_
  refine HT.seq ?_
  refine HT.region S_len_ok ?_
  refine So.n (Nat.le_of_ble_eq_true rfl) (A.v rfl (V.as (v := .p (.v (.int .i64 (0)))) rfl ?_))
  refine So.e ?_
  show HT _ _ _ _ _
  refine HT.seq ?_
  refine HT.label ?_
  show HT _ _ _ _ _
  refine HT.seq ?_
  refine HT.block ?_
  refine R.loop (σ := Int) (fun s => [(3, .p (.v (.int .i64 (s))))]) (fun s => []) [0, 2] [] (fun s => 0 ≤ s ∧ s ≤ 2 ∧ (0 < s → 64 ≤ n) ∧ (1 < s → 16384 ≤ n)) (fun s => (3 - s).toNat) (0) (fr0 := [(0, .p (.v (.int .i64 _))), (2, .p (.v (.slice none 0 0)))]) (O0 := []) rfl rfl (by first | rfl | omega | (simp; done) | (simp; omega)) ⟨⟨⟨le_int (by first | rfl | omega | (simp; done) | (simp; omega)), trivial⟩, ⟨.refl _, trivial⟩, ⟨.refl _, trivial⟩, trivial⟩, trivial⟩ (fun s hP0 => ?_)
  have hsv := shl_v s
  have htb := tbl_nn s
  refine HT.block ?_
  refine HT.seq ?_
  refine HT.seq ?_
  refine HT.region S_len_ok ?_
  refine So.n (Nat.le_of_ble_eq_true rfl) (A.v rfl (V.mv (v := .p (.v (.int .i64 _))) rfl ?_))
  refine So.n (Nat.le_of_ble_eq_true rfl) (A.v rfl (V.mv (v := .p (.v (.int .i64 _))) rfl ?_))
  refine So.n (Nat.le_of_ble_eq_true rfl) (A.v rfl (V.ixArr1 ty53 ty3 rfl rfl (Nat.le_of_ble_eq_true rfl) rfl (by omega) rfl ?_))
  refine So.n (Nat.le_of_ble_eq_true rfl) (A.v rfl (V.ldRp ty3 rfl rfl (Nat.le_of_ble_eq_true rfl) (v := (.v (.int .i64 _))) rfl ?_))
  refine So.n (Nat.le_of_ble_eq_true rfl) (A.v rfl (V.bin (a := (.v (.int .i64 (1)))) (b := (.v (.int .i64 _))) (r := .v (.int .i64 _)) rfl rfl rfl (by first | rfl | omega | (simp; done) | (simp; omega)) ?_))
  refine So.n (Nat.le_of_ble_eq_true rfl) (A.v rfl (V.bin (a := (.v (.int .i64 _))) (b := (.v (.int .i64 _))) (r := .v (.bool _)) rfl rfl rfl trivial ?_))
  refine So.e ?_
  show HT _ _ _ _ _
  refine R.cond rfl rfl (fun h1 => ?_) (fun h1 => ?_)
  · have h1 := of_decide_eq_true h1
    refine HT.exit ?_
    show HT _ _ _ _ _
    refine HT.seq ?_
    refine HT.tail S_len_ok mixed 9 (by kernel_rfl) (by kernel_rfl) ?_
    refine So.n (Nat.le_of_ble_eq_true rfl) (A.v rfl (V.mv (v := .p (.v (.int .i64 _))) rfl ?_))
    refine So.n (Nat.le_of_ble_eq_true rfl) (A.v rfl (V.mv (v := .p (.v (.int .i64 _))) rfl ?_))
    refine So.n (Nat.le_of_ble_eq_true rfl) (A.v rfl (V.mv (v := .p (.v (.int .i64 _))) rfl ?_))
    refine So.n (Nat.le_of_ble_eq_true rfl) (A.v rfl (V.ixArr1 ty53 ty3 rfl rfl (Nat.le_of_ble_eq_true rfl) rfl (by omega) rfl ?_))
    refine So.n (Nat.le_of_ble_eq_true rfl) (A.v rfl (V.ldRp ty3 rfl rfl (Nat.le_of_ble_eq_true rfl) (v := (.v (.int .i64 _))) rfl ?_))
    refine So.n (Nat.le_of_ble_eq_true rfl) (A.v rfl (V.bin (a := (.v (.int .i64 _))) (b := (.v (.int .i64 _))) (r := .v (.int .i64 _)) rfl rfl rfl (by first | rfl | omega | (simp; done) | (simp; omega)) ?_))
    refine So.n (Nat.le_of_ble_eq_true rfl) (A.v rfl (V.bin (a := (.v (.int .i64 _))) (b := (.v (.int .i64 _))) (r := .v (.int .i64 _)) rfl rfl rfl trivial ?_))
    refine So.n (Nat.le_of_ble_eq_true rfl) (A.v rfl (V.mv (v := .p (.v (.int .i64 _))) rfl ?_))
    refine So.n (Nat.le_of_ble_eq_true rfl) (A.v rfl (V.bin (a := (.v (.int .i64 (1)))) (b := (.v (.int .i64 _))) (r := .v (.int .i64 _)) rfl rfl rfl (by first | rfl | omega | (simp; done) | (simp; omega)) ?_))
    refine So.n (Nat.le_of_ble_eq_true rfl) (A.call0 [.p (.v (.int .i64 _)), .p (.v (.int .i64 _))] 1 rfl rfl rfl rfl ⟨trivial, trivial, trivial⟩ trivial (_, _) ⟨.refl _, .refl _, trivial⟩ trivial (by trivial) (Φ := fun (n, k) => (numF n k).length ≤ 8) (fun _ _ => numF_len _ _) (.inl rfl) (v := .own 2 0 _) rfl (O' := (2, ⟨5, 1, _, true, .bs _⟩) :: _) rfl (fun h2 => ?_))
    try dsimp only at h2
    refine So.n (Nat.le_of_ble_eq_true rfl) (A.v rfl (V.as (v := .own 2 0 _) rfl ?_))
    refine So.e ?_
    show HT _ _ _ _ _
    refine HT.ret ?_
    exact ret_ok (sg [(1, 2)]) h rfl rfl rfl ⟨trivial, trivial⟩ ⟨rfl, trivial⟩ rfl ⟨⟨⟨le_own2 (by first | rfl | omega) (by first | rfl | (rw [lenP (by omega) (by omega) (by omega) (by omega) (by omega) (by omega) (by omega)])), rfl⟩, trivial⟩, ⟨⟨_, rfl, .inl (ob_bs (by first | rfl | ((try dsimp only); (first | rfl | (rw [lenP (by omega) (by omega) (by omega) (by omega) (by omega) (by omega) (by omega)])))) (by first | rfl | ((try dsimp only); (first | rfl | (rw [lenP (by omega) (by omega) (by omega) (by omega) (by omega) (by omega) (by omega)]))))), trivial⟩, trivial⟩⟩
  · have h1 := of_decide_eq_false h1
    refine HT.skip ?_
    show HT _ _ _ _ _
    refine HT.region S_len_ok ?_
    refine So.n (Nat.le_of_ble_eq_true rfl) (A.v rfl (V.mv (v := .p (.v (.int .i64 _))) rfl ?_))
    refine So.n (Nat.le_of_ble_eq_true rfl) (A.v rfl (V.addI rfl rfl (by omega) ?_))
    refine So.n (Nat.le_of_ble_eq_true rfl) (A.v rfl (V.as (v := .p (.v (.int .i64 _))) rfl ?_))
    refine So.e ?_
    refine ⟨s + 1, by omega, by omega, ⟨⟨⟨le_int (by first | rfl | omega | (simp; done) | (simp; omega)), trivial⟩, ⟨.refl _, trivial⟩, ⟨.refl _, trivial⟩, trivial⟩, trivial⟩⟩

/-! ### sodality/wire.span -/
def spanSp : Sp := ⟨[], mkE (α := (List UInt8) × Int) (fun (b, i) => [.p (.bs (b)), .p (.v (.int .i64 (i)))]) (fun (b, i) => []) (fun (b, i) => True) (fun (b, i) => [.p (.v (.int .i64 ((spanF b i).1))), .p (.v (.int .i64 ((spanF b i).2.1))), .p (.v (.int .i64 ((spanF b i).2.2)))]) (fun (b, i) => [])⟩
def S_span : FuncId → Option Sp := fun f => if f = 12 then some getSp else none
theorem S_span_ok : ∀ f s, S_span f = some s → FOK Tryd.prog gl f s := fun f s h => by
  unfold S_span at h
  split at h
  · rename_i e; cases h; subst e; exact get_ok
  cases h
theorem S_span_det : ∀ f s, S_span f = some s → SpDet s.sp := fun f s h => by
  unfold S_span at h
  split at h
  · cases h; exact mkE_det _ _ _ _ _
  cases h
set_option maxHeartbeats 1000000 in
theorem span_ok : FOK Tryd.prog gl 29 spanSp := by
  refine FOK.ofE (tyOf_ok Tryd.prog) (slots := [4, 5, 6]) (nt := 77) Tryd.func29 rfl rfl rfl rfl (by decide) 2 (fun ⟨_, _⟩ => rfl) (by decide) (fun ⟨_, _⟩ => ⟨trivial, trivial, trivial⟩) ?_
  rintro ⟨b, i⟩ kk hlen hpre h
  have hl0 : (b).length ≤ 9223372036854775807 := hlen.1
  replace hpre : True := hpre
  show HT ⟨Tryd.prog, 77, tyOf Tryd.prog, gl, []⟩ _ [(0, .p (.bs (b))), (1, .p (.v (.int .i64 (i))))] [] _
  refine HT.seq ?_
  refine HT.region S_span_ok ?_
  refine So.n (Nat.le_of_ble_eq_true rfl) (A.v rfl (V.as (v := .p (.v (.int .i64 (0)))) rfl ?_))
  refine So.n (Nat.le_of_ble_eq_true rfl) (A.v rfl (V.as (v := .p (.v (.int .i64 (0)))) rfl ?_))
  refine So.n (Nat.le_of_ble_eq_true rfl) (A.v rfl (V.as (v := .p (.v (.int .i64 (0)))) rfl ?_))
  refine So.e ?_
  show HT _ _ _ _ _
  refine HT.seq ?_
  refine HT.block ?_
  refine HT.seq ?_
  refine HT.seq ?_
  refine HT.region S_span_ok ?_
  refine So.n (Nat.le_of_ble_eq_true rfl) (A.v rfl (V.mv (v := .p (.v (.int .i64 _))) rfl ?_))
  refine So.n (Nat.le_of_ble_eq_true rfl) (A.v rfl (V.bin (a := (.v (.int .i64 _))) (b := (.v (.int .i64 (0)))) (r := .v (.bool _)) rfl rfl rfl trivial ?_))
  refine So.n (Nat.le_of_ble_eq_true rfl) (A.v rfl (V.as (v := .p (.v (.bool _))) rfl ?_))
  refine So.e ?_
  show HT _ _ _ _ _
  refine R.cond rfl rfl (fun h1 => ?_) (fun h1 => ?_)
  · have h1 := of_decide_eq_true h1
    refine HT.skip ?_
    show HT _ _ _ _ _
    refine R.condT rfl ?_
    refine HT.seq ?_
    refine HT.region S_span_ok ?_
    refine So.n (Nat.le_of_ble_eq_true rfl) (A.v rfl (V.as (v := .p (.v (.int .i64 (0)))) rfl ?_))
    refine So.n (Nat.le_of_ble_eq_true rfl) (A.v rfl (V.as (v := .p (.v (.int .i64 (0)))) rfl ?_))
    refine So.n (Nat.le_of_ble_eq_true rfl) (A.v rfl (V.as (v := .p (.v (.int .i64 (1)))) rfl ?_))
    refine So.e ?_
    show HT _ _ _ _ _
    refine HT.ret ?_
    exact ret_ok (sg []) h rfl rfl rfl trivial ⟨trivial, trivial, trivial, trivial⟩ rfl ⟨⟨⟨le_int (by (unfold spanF; simp (disch := omega) only [if_pos, if_neg]; try (unfold spanK; simp (disch := omega) only [if_pos, if_neg]; try (unfold spanN; simp (disch := omega) only [if_pos, if_neg])))), trivial⟩, ⟨le_int (by (unfold spanF; simp (disch := omega) only [if_pos, if_neg]; try (unfold spanK; simp (disch := omega) only [if_pos, if_neg]; try (unfold spanN; simp (disch := omega) only [if_pos, if_neg])))), trivial⟩, ⟨le_int (by (unfold spanF; simp (disch := omega) only [if_pos, if_neg]; try (unfold spanK; simp (disch := omega) only [if_pos, if_neg]; try (unfold spanN; simp (disch := omega) only [if_pos, if_neg])))), trivial⟩, trivial⟩, trivial⟩
  · have h1 := of_decide_eq_false h1
    refine HT.region S_span_ok ?_
    refine So.n (Nat.le_of_ble_eq_true rfl) (A.v rfl (V.mv (v := .p (.v (.int .i64 _))) rfl ?_))
    refine So.n (Nat.le_of_ble_eq_true rfl) (A.v rfl (V.mv (v := .p (.bs _)) rfl ?_))
    refine So.n (Nat.le_of_ble_eq_true rfl) (A.v rfl (V.len ty22 (v := .p (.bs _)) rfl rfl ?_))
    refine So.n (Nat.le_of_ble_eq_true rfl) (A.v rfl (V.bin (a := (.v (.int .i64 _))) (b := (.v (.int .i64 _))) (r := .v (.bool _)) rfl rfl rfl trivial ?_))
    refine So.n (Nat.le_of_ble_eq_true rfl) (A.v rfl (V.as (v := .p (.v (.bool _))) rfl ?_))
    refine So.e ?_
    show HT _ _ _ _ _
    refine R.cond rfl rfl (fun h2 => ?_) (fun h2 => ?_)
    · have h2 := of_decide_eq_true h2
      refine HT.seq ?_
      refine HT.region S_span_ok ?_
      refine So.n (Nat.le_of_ble_eq_true rfl) (A.v rfl (V.as (v := .p (.v (.int .i64 (0)))) rfl ?_))
      refine So.n (Nat.le_of_ble_eq_true rfl) (A.v rfl (V.as (v := .p (.v (.int .i64 (0)))) rfl ?_))
      refine So.n (Nat.le_of_ble_eq_true rfl) (A.v rfl (V.as (v := .p (.v (.int .i64 (1)))) rfl ?_))
      refine So.e ?_
      show HT _ _ _ _ _
      refine HT.ret ?_
      exact ret_ok (sg []) h rfl rfl rfl trivial ⟨trivial, trivial, trivial, trivial⟩ rfl ⟨⟨⟨le_int (by (unfold spanF; simp (disch := omega) only [if_pos, if_neg]; try (unfold spanK; simp (disch := omega) only [if_pos, if_neg]; try (unfold spanN; simp (disch := omega) only [if_pos, if_neg])))), trivial⟩, ⟨le_int (by (unfold spanF; simp (disch := omega) only [if_pos, if_neg]; try (unfold spanK; simp (disch := omega) only [if_pos, if_neg]; try (unfold spanN; simp (disch := omega) only [if_pos, if_neg])))), trivial⟩, ⟨le_int (by (unfold spanF; simp (disch := omega) only [if_pos, if_neg]; try (unfold spanK; simp (disch := omega) only [if_pos, if_neg]; try (unfold spanN; simp (disch := omega) only [if_pos, if_neg])))), trivial⟩, trivial⟩, trivial⟩
    · have h2 := of_decide_eq_false h2
      refine HT.seq ?_
      refine HT.region S_span_ok ?_
      refine So.n (Nat.le_of_ble_eq_true rfl) (A.v rfl (V.mv (v := .p (.v (.int .i64 _))) rfl ?_))
      refine So.n (Nat.le_of_ble_eq_true rfl) (A.v rfl (V.mv (v := .p (.bs _)) rfl ?_))
      refine So.n (Nat.le_of_ble_eq_true rfl) (A.v rfl (V.len ty22 (v := .p (.bs _)) rfl rfl ?_))
      refine So.n (Nat.le_of_ble_eq_true rfl) (A.v rfl (V.bin (a := (.v (.int .i64 _))) (b := (.v (.int .i64 _))) (r := .v (.bool _)) rfl rfl rfl trivial ?_))
      refine So.n (Nat.le_of_ble_eq_true rfl) (A.v rfl (V.as (v := .p (.v (.bool _))) rfl ?_))
      refine So.e ?_
      show HT _ _ _ _ _
      refine R.cond rfl rfl (fun h3 => ?_) (fun h3 => ?_)
      · have h3 := of_decide_eq_true h3
        refine HT.seq ?_
        refine HT.region S_span_ok ?_
        refine So.n (Nat.le_of_ble_eq_true rfl) (A.v rfl (V.as (v := .p (.v (.int .i64 (0)))) rfl ?_))
        refine So.n (Nat.le_of_ble_eq_true rfl) (A.v rfl (V.as (v := .p (.v (.int .i64 (0)))) rfl ?_))
        refine So.n (Nat.le_of_ble_eq_true rfl) (A.v rfl (V.as (v := .p (.v (.int .i64 (111)))) rfl ?_))
        refine So.e ?_
        show HT _ _ _ _ _
        refine HT.ret ?_
        exact ret_ok (sg []) h rfl rfl rfl trivial ⟨trivial, trivial, trivial, trivial⟩ rfl ⟨⟨⟨le_int (by (unfold spanF; simp (disch := omega) only [if_pos, if_neg]; try (unfold spanK; simp (disch := omega) only [if_pos, if_neg]; try (unfold spanN; simp (disch := omega) only [if_pos, if_neg])))), trivial⟩, ⟨le_int (by (unfold spanF; simp (disch := omega) only [if_pos, if_neg]; try (unfold spanK; simp (disch := omega) only [if_pos, if_neg]; try (unfold spanN; simp (disch := omega) only [if_pos, if_neg])))), trivial⟩, ⟨le_int (by (unfold spanF; simp (disch := omega) only [if_pos, if_neg]; try (unfold spanK; simp (disch := omega) only [if_pos, if_neg]; try (unfold spanN; simp (disch := omega) only [if_pos, if_neg])))), trivial⟩, trivial⟩, trivial⟩
      · have h3 := of_decide_eq_false h3
        refine HT.skip ?_
        show HT _ _ _ _ _
        refine HT.seq ?_
        refine HT.region S_span_ok ?_
        refine So.n (Nat.le_of_ble_eq_true rfl) (A.v rfl (V.mv (v := .p (.bs _)) rfl ?_))
        refine So.n (Nat.le_of_ble_eq_true rfl) (A.v rfl (V.mv (v := .p (.v (.int .i64 _))) rfl ?_))
        refine So.n (Nat.le_of_ble_eq_true rfl) (A.v rfl (V.ixBs ty22 ty5 rfl rfl rfl (by omega) rfl ?_))
        refine So.n (Nat.le_of_ble_eq_true rfl) (A.v rfl (V.ldRp ty5 rfl rfl (Nat.le_of_ble_eq_true rfl) (v := (.u8 _)) rfl ?_))
        refine So.n (Nat.le_of_ble_eq_true rfl) (A.v rfl (V.shrC (n := 6) (a := (.u8 _)) (b := (.u64 6)) (r := .u8 (u8Shr _ 6)) rfl rfl rfl rfl ?_))
        refine So.n (Nat.le_of_ble_eq_true rfl) (A.v rfl (V.cvN ty3 ty5 (a := (.u8 _)) (r := (.v (.int .i64 _))) rfl rfl ?_))
        refine So.n (Nat.le_of_ble_eq_true rfl) (A.v rfl (V.as (v := .p (.v (.int .i64 _))) rfl ?_))
        refine So.e ?_
        show HT _ _ _ _ _
        refine HT.seq ?_
        refine HT.seq ?_
        refine HT.region S_span_ok ?_
        have hk := shr6_le (b.getD i.toNat 0)
        refine So.n (Nat.le_of_ble_eq_true rfl) (A.v rfl (V.mv (v := .p (.v (.int .i64 _))) rfl ?_))
        refine So.n (Nat.le_of_ble_eq_true rfl) (A.v rfl (V.bin (a := (.v (.int .i64 _))) (b := (.v (.int .i64 (3)))) (r := .v (.bool _)) rfl rfl rfl trivial ?_))
        refine So.e ?_
        show HT _ _ _ _ _
        refine R.cond rfl rfl (fun h4 => ?_) (fun h4 => ?_)
        · have h4 := of_decide_eq_true h4
          refine HT.seq ?_
          refine HT.region S_span_ok ?_
          refine So.n (Nat.le_of_ble_eq_true rfl) (A.v rfl (V.as (v := .p (.v (.int .i64 (0)))) rfl ?_))
          refine So.n (Nat.le_of_ble_eq_true rfl) (A.v rfl (V.as (v := .p (.v (.int .i64 (0)))) rfl ?_))
          refine So.n (Nat.le_of_ble_eq_true rfl) (A.v rfl (V.as (v := .p (.v (.int .i64 (112)))) rfl ?_))
          refine So.e ?_
          show HT _ _ _ _ _
          refine HT.ret ?_
          exact ret_ok (sg []) h rfl rfl rfl trivial ⟨trivial, trivial, trivial, trivial⟩ rfl ⟨⟨⟨le_int (by (unfold spanF; simp (disch := omega) only [if_pos, if_neg]; try (unfold spanK; simp (disch := omega) only [if_pos, if_neg]; try (unfold spanN; simp (disch := omega) only [if_pos, if_neg])))), trivial⟩, ⟨le_int (by (unfold spanF; simp (disch := omega) only [if_pos, if_neg]; try (unfold spanK; simp (disch := omega) only [if_pos, if_neg]; try (unfold spanN; simp (disch := omega) only [if_pos, if_neg])))), trivial⟩, ⟨le_int (by (unfold spanF; simp (disch := omega) only [if_pos, if_neg]; try (unfold spanK; simp (disch := omega) only [if_pos, if_neg]; try (unfold spanN; simp (disch := omega) only [if_pos, if_neg])))), trivial⟩, trivial⟩, trivial⟩
        · have h4 := of_decide_eq_false h4
          refine HT.skip ?_
          show HT _ _ _ _ _
          refine HT.seq ?_
          refine HT.region S_span_ok ?_
          have hc := shl_cls (k := ((u8Shr (b.getD i.toNat 0) 6).toNat : Int)) (by omega) (by omega)
          refine So.n (Nat.le_of_ble_eq_true rfl) (A.v rfl (V.mv (v := .p (.bs _)) rfl ?_))
          refine So.n (Nat.le_of_ble_eq_true rfl) (A.v rfl (V.mv (v := .p (.v (.int .i64 _))) rfl ?_))
          refine So.n (Nat.le_of_ble_eq_true rfl) (A.v rfl (V.mv (v := .p (.v (.int .i64 _))) rfl ?_))
          refine So.n (Nat.le_of_ble_eq_true rfl) (A.v rfl (V.bin (a := (.v (.int .i64 (1)))) (b := (.v (.int .i64 _))) (r := .v (.int .i64 _)) rfl rfl rfl (by first | rfl | omega | (simp; done) | (simp; omega)) ?_))
          refine So.n (Nat.le_of_ble_eq_true rfl) (A.call0 [.p (.bs _), .p (.v (.int .i64 _)), .p (.v (.int .i64 _))] 1 rfl rfl rfl rfl ⟨trivial, trivial, trivial, trivial⟩ trivial (_, _, _) ⟨.refl _, .refl _, .refl _, trivial⟩ trivial (by trivial) (Φ := fun (b, i, n) => 0 ≤ (getF b i n).2.1 ∧ (getF b i n).2.1 ≤ b.length) (fun (b, i, n) _ => ⟨(getF_from b i n).1, (getF_from b i n).2.1⟩) (.inl rfl) (v := .tup 3 _) rfl (O' := _) rfl (fun h5 => ?_))
          try dsimp only at h5
          refine So.n (Nat.le_of_ble_eq_true rfl) (A.v rfl (V.mv (v := .tup 3 _) rfl ?_))
          refine So.n (Nat.le_of_ble_eq_true rfl) (A.v rfl (V.ext rfl (Nat.le_of_ble_eq_true rfl) (v := .p (.v (.int .i64 _))) rfl ?_))
          refine So.n (Nat.le_of_ble_eq_true rfl) (A.v rfl (V.ext rfl (Nat.le_of_ble_eq_true rfl) (v := .p (.v (.int .i64 _))) rfl ?_))
          refine So.n (Nat.le_of_ble_eq_true rfl) (A.v rfl (V.ext rfl (Nat.le_of_ble_eq_true rfl) (v := .p (.v (.int .i64 _))) rfl ?_))
          refine So.n (Nat.le_of_ble_eq_true rfl) (A.v rfl (V.as (v := .p (.v (.int .i64 _))) rfl ?_))
          refine So.n (Nat.le_of_ble_eq_true rfl) (A.v rfl (V.as (v := .p (.v (.int .i64 _))) rfl ?_))
          refine So.n (Nat.le_of_ble_eq_true rfl) (A.v rfl (V.as (v := .p (.v (.int .i64 _))) rfl ?_))
          refine So.e ?_
          show HT _ _ _ _ _
          refine HT.seq ?_
          refine HT.region S_span_ok ?_
          have htb := tbl_nn ((u8Shr (b.getD i.toNat 0) 6).toNat : Int)
          have h14 := shl_tbl (k := ((u8Shr (b.getD i.toNat 0) 6).toNat : Int)) (by omega) (by omega)
          refine So.n (Nat.le_of_ble_eq_true rfl) (A.v rfl (V.mv (v := .p (.v (.int .i64 _))) rfl ?_))
          refine So.n (Nat.le_of_ble_eq_true rfl) (A.v rfl (V.mv (v := .p (.v (.int .i64 _))) rfl ?_))
          refine So.n (Nat.le_of_ble_eq_true rfl) (A.v rfl (V.ixArr1 ty53 ty3 rfl rfl (Nat.le_of_ble_eq_true rfl) rfl (by omega) rfl ?_))
          refine So.n (Nat.le_of_ble_eq_true rfl) (A.v rfl (V.ldRp ty3 rfl rfl (Nat.le_of_ble_eq_true rfl) (v := (.v (.int .i64 _))) rfl ?_))
          refine So.n (Nat.le_of_ble_eq_true rfl) (A.v rfl (V.bin (a := (.v (.int .i64 (1)))) (b := (.v (.int .i64 _))) (r := .v (.int .i64 _)) rfl rfl rfl (by first | rfl | omega | (simp; done) | (simp; omega)) ?_))
          refine So.n (Nat.le_of_ble_eq_true rfl) (A.v rfl (V.subI rfl rfl (by omega) ?_))
          refine So.n (Nat.le_of_ble_eq_true rfl) (A.v rfl (V.bin (a := (.v (.int .i64 _))) (b := (.v (.int .i64 _))) (r := .v (.int .i64 _)) rfl rfl rfl trivial ?_))
          refine So.n (Nat.le_of_ble_eq_true rfl) (A.v rfl (V.as (v := .p (.v (.int .i64 _))) rfl ?_))
          refine So.e ?_
          show HT _ _ _ _ _
          refine HT.seq ?_
          refine HT.block ?_
          refine HT.seq ?_
          refine HT.region S_span_ok ?_
          refine So.n (Nat.le_of_ble_eq_true rfl) (A.v rfl (V.mv (v := .p (.v (.int .i64 _))) rfl ?_))
          refine So.n (Nat.le_of_ble_eq_true rfl) (A.v rfl (V.bin (a := (.v (.int .i64 _))) (b := (.v (.int .i64 (0)))) (r := .v (.bool _)) rfl rfl rfl trivial ?_))
          refine So.n (Nat.le_of_ble_eq_true rfl) (A.v rfl (V.as (v := .p (.v (.bool _))) rfl ?_))
          refine So.e ?_
          show HT _ _ _ _ _
          refine R.cond rfl rfl (fun h6 => ?_) (fun h6 => ?_)
          · have h6 := of_decide_eq_false (bnT h6)
            refine HT.seq ?_
            refine HT.region S_span_ok ?_
            refine So.n (Nat.le_of_ble_eq_true rfl) (A.v rfl (V.mv (v := .p (.v (.int .i64 _))) rfl ?_))
            refine So.n (Nat.le_of_ble_eq_true rfl) (A.v rfl (V.as (v := .p (.v (.int .i64 (0)))) rfl ?_))
            refine So.n (Nat.le_of_ble_eq_true rfl) (A.v rfl (V.as (v := .p (.v (.int .i64 (0)))) rfl ?_))
            refine So.n (Nat.le_of_ble_eq_true rfl) (A.v rfl (V.as (v := .p (.v (.int .i64 _))) rfl ?_))
            refine So.e ?_
            show HT _ _ _ _ _
            refine HT.ret ?_
            exact ret_ok (sg []) h rfl rfl rfl trivial ⟨trivial, trivial, trivial, trivial⟩ rfl ⟨⟨⟨le_int (by (unfold spanF; simp (disch := omega) only [if_pos, if_neg]; try (unfold spanK; simp (disch := omega) only [if_pos, if_neg]; try (unfold spanN; simp (disch := omega) only [if_pos, if_neg])))), trivial⟩, ⟨le_int (by (unfold spanF; simp (disch := omega) only [if_pos, if_neg]; try (unfold spanK; simp (disch := omega) only [if_pos, if_neg]; try (unfold spanN; simp (disch := omega) only [if_pos, if_neg])))), trivial⟩, ⟨le_int (by (unfold spanF; simp (disch := omega) only [if_pos, if_neg]; try (unfold spanK; simp (disch := omega) only [if_pos, if_neg]; try (unfold spanN; simp (disch := omega) only [if_pos, if_neg])))), trivial⟩, trivial⟩, trivial⟩
          · have h6 := of_decide_eq_true (bnF h6)
            refine HT.seq ?_
            refine HT.region S_span_ok ?_
            have htb2 := tbl_nn (((u8Shr (b.getD i.toNat 0) 6).toNat : Int) - 1)
            refine So.n (Nat.le_of_ble_eq_true rfl) (A.v rfl (V.mv (v := .p (.v (.int .i64 _))) rfl ?_))
            refine So.n (Nat.le_of_ble_eq_true rfl) (A.v rfl (V.bin (a := (.v (.int .i64 _))) (b := (.v (.int .i64 (0)))) (r := .v (.bool _)) rfl rfl rfl trivial ?_))
            refine So.n (Nat.le_of_ble_eq_true rfl) (A.v rfl (V.mv (v := .p (.v (.bool _))) rfl ?_))
            refine So.gd rfl rfl (Nat.le_of_ble_eq_true rfl) (Nat.le_of_ble_eq_true rfl) (fun h7 => ?_) (fun h7 => ?_)
            · have h7 := of_decide_eq_true h7
              refine A.v rfl (V.mv (v := .p (.v (.int .i64 _))) rfl ?_)
              refine So.gy rfl rfl (Nat.le_of_ble_eq_true rfl) (Nat.le_of_ble_eq_true rfl) ?_
              refine A.v rfl (V.mv (v := .p (.v (.int .i64 _))) rfl ?_)
              refine So.gy rfl rfl (Nat.le_of_ble_eq_true rfl) (Nat.le_of_ble_eq_true rfl) ?_
              refine A.v rfl (V.subI rfl rfl (by omega) ?_)
              refine So.gy rfl rfl (Nat.le_of_ble_eq_true rfl) (Nat.le_of_ble_eq_true rfl) ?_
              refine A.v rfl (V.ixArr1 ty53 ty3 rfl rfl (Nat.le_of_ble_eq_true rfl) rfl (by omega) rfl ?_)
              refine So.gy rfl rfl (Nat.le_of_ble_eq_true rfl) (Nat.le_of_ble_eq_true rfl) ?_
              refine A.v rfl (V.ldRp ty3 rfl rfl (Nat.le_of_ble_eq_true rfl) (v := (.v (.int .i64 _))) rfl ?_)
              refine So.gy rfl rfl (Nat.le_of_ble_eq_true rfl) (Nat.le_of_ble_eq_true rfl) ?_
              refine A.v rfl (V.bin (a := (.v (.int .i64 (1)))) (b := (.v (.int .i64 _))) (r := .v (.int .i64 _)) rfl rfl rfl (by first | rfl | omega | (simp; done) | (simp; omega)) ?_)
              refine So.gy rfl rfl (Nat.le_of_ble_eq_true rfl) (Nat.le_of_ble_eq_true rfl) ?_
              refine A.v rfl (V.bin (a := (.v (.int .i64 _))) (b := (.v (.int .i64 _))) (r := .v (.bool _)) rfl rfl rfl trivial ?_)
              refine So.n (Nat.le_of_ble_eq_true rfl) (A.v rfl (V.pkTrue (u := .p (.v (.bool _))) rfl rfl ?_))
              refine So.n (Nat.le_of_ble_eq_true rfl) (A.v rfl (V.as (v := .p (.v (.bool _))) rfl ?_))
              refine So.e ?_
              show HT _ _ _ _ _
              refine R.cond rfl rfl (fun h8 => ?_) (fun h8 => ?_)
              · have h8 := of_decide_eq_true h8
                refine HT.seq ?_
                refine HT.region S_span_ok ?_
                refine So.n (Nat.le_of_ble_eq_true rfl) (A.v rfl (V.as (v := .p (.v (.int .i64 (0)))) rfl ?_))
                refine So.n (Nat.le_of_ble_eq_true rfl) (A.v rfl (V.as (v := .p (.v (.int .i64 (0)))) rfl ?_))
                refine So.n (Nat.le_of_ble_eq_true rfl) (A.v rfl (V.as (v := .p (.v (.int .i64 (112)))) rfl ?_))
                refine So.e ?_
                show HT _ _ _ _ _
                refine HT.ret ?_
                exact ret_ok (sg []) h rfl rfl rfl trivial ⟨trivial, trivial, trivial, trivial⟩ rfl ⟨⟨⟨le_int (by (unfold spanF; simp (disch := omega) only [if_pos, if_neg]; try (unfold spanK; simp (disch := omega) only [if_pos, if_neg]; try (unfold spanN; simp (disch := omega) only [if_pos, if_neg])))), trivial⟩, ⟨le_int (by (unfold spanF; simp (disch := omega) only [if_pos, if_neg]; try (unfold spanK; simp (disch := omega) only [if_pos, if_neg]; try (unfold spanN; simp (disch := omega) only [if_pos, if_neg])))), trivial⟩, ⟨le_int (by (unfold spanF; simp (disch := omega) only [if_pos, if_neg]; try (unfold spanK; simp (disch := omega) only [if_pos, if_neg]; try (unfold spanN; simp (disch := omega) only [if_pos, if_neg])))), trivial⟩, trivial⟩, trivial⟩
              · have h8 := of_decide_eq_false h8
                refine HT.seq ?_
                refine HT.region S_span_ok ?_
                refine So.n (Nat.le_of_ble_eq_true rfl) (A.v rfl (V.mv (v := .p (.v (.int .i64 _))) rfl ?_))
                refine So.n (Nat.le_of_ble_eq_true rfl) (A.v rfl (V.bin (a := (.v (.int .i64 _))) (b := (.v (.int .i64 (1048576)))) (r := .v (.bool _)) rfl rfl rfl trivial ?_))
                refine So.n (Nat.le_of_ble_eq_true rfl) (A.v rfl (V.as (v := .p (.v (.bool _))) rfl ?_))
                refine So.e ?_
                show HT _ _ _ _ _
                refine R.cond rfl rfl (fun h9 => ?_) (fun h9 => ?_)
                · have h9 := of_decide_eq_true h9
                  refine HT.seq ?_
                  refine HT.region S_span_ok ?_
                  refine So.n (Nat.le_of_ble_eq_true rfl) (A.v rfl (V.as (v := .p (.v (.int .i64 (0)))) rfl ?_))
                  refine So.n (Nat.le_of_ble_eq_true rfl) (A.v rfl (V.as (v := .p (.v (.int .i64 (0)))) rfl ?_))
                  refine So.n (Nat.le_of_ble_eq_true rfl) (A.v rfl (V.as (v := .p (.v (.int .i64 (2)))) rfl ?_))
                  refine So.e ?_
                  show HT _ _ _ _ _
                  refine HT.ret ?_
                  exact ret_ok (sg []) h rfl rfl rfl trivial ⟨trivial, trivial, trivial, trivial⟩ rfl ⟨⟨⟨le_int (by (unfold spanF; simp (disch := omega) only [if_pos, if_neg]; try (unfold spanK; simp (disch := omega) only [if_pos, if_neg]; try (unfold spanN; simp (disch := omega) only [if_pos, if_neg])))), trivial⟩, ⟨le_int (by (unfold spanF; simp (disch := omega) only [if_pos, if_neg]; try (unfold spanK; simp (disch := omega) only [if_pos, if_neg]; try (unfold spanN; simp (disch := omega) only [if_pos, if_neg])))), trivial⟩, ⟨le_int (by (unfold spanF; simp (disch := omega) only [if_pos, if_neg]; try (unfold spanK; simp (disch := omega) only [if_pos, if_neg]; try (unfold spanN; simp (disch := omega) only [if_pos, if_neg])))), trivial⟩, trivial⟩, trivial⟩
                · have h9 := of_decide_eq_false h9
                  refine HT.seq ?_
                  refine HT.region S_span_ok ?_
                  have hn := iAnd_bound (getF b i (iShl .i64 1 ((u8Shr (b.getD i.toNat 0) 6).toNat : Int).toNat)).1 (m := iShl .i64 1 (([6, 14, 30] : List Int).getD ((u8Shr (b.getD i.toNat 0) 6).toNat : Int).toNat 0).toNat - 1) (by omega) (by omega)
                  refine So.n (Nat.le_of_ble_eq_true rfl) (A.v rfl (V.mv (v := .p (.v (.int .i64 _))) rfl ?_))
                  refine So.n (Nat.le_of_ble_eq_true rfl) (A.v rfl (V.mv (v := .p (.bs _)) rfl ?_))
                  refine So.n (Nat.le_of_ble_eq_true rfl) (A.v rfl (V.len ty22 (v := .p (.bs _)) rfl rfl ?_))
                  refine So.n (Nat.le_of_ble_eq_true rfl) (A.v rfl (V.mv (v := .p (.v (.int .i64 _))) rfl ?_))
                  refine So.n (Nat.le_of_ble_eq_true rfl) (A.v rfl (V.subI rfl rfl (by omega) ?_))
                  refine So.n (Nat.le_of_ble_eq_true rfl) (A.v rfl (V.bin (a := (.v (.int .i64 _))) (b := (.v (.int .i64 _))) (r := .v (.bool _)) rfl rfl rfl trivial ?_))
                  refine So.n (Nat.le_of_ble_eq_true rfl) (A.v rfl (V.as (v := .p (.v (.bool _))) rfl ?_))
                  refine So.e ?_
                  show HT _ _ _ _ _
                  refine R.cond rfl rfl (fun h10 => ?_) (fun h10 => ?_)
                  · have h10 := of_decide_eq_true h10
                    refine HT.seq ?_
                    refine HT.region S_span_ok ?_
                    refine So.n (Nat.le_of_ble_eq_true rfl) (A.v rfl (V.as (v := .p (.v (.int .i64 (0)))) rfl ?_))
                    refine So.n (Nat.le_of_ble_eq_true rfl) (A.v rfl (V.as (v := .p (.v (.int .i64 (0)))) rfl ?_))
                    refine So.n (Nat.le_of_ble_eq_true rfl) (A.v rfl (V.as (v := .p (.v (.int .i64 (111)))) rfl ?_))
                    refine So.e ?_
                    show HT _ _ _ _ _
                    refine HT.ret ?_
                    exact ret_ok (sg []) h rfl rfl rfl trivial ⟨trivial, trivial, trivial, trivial⟩ rfl ⟨⟨⟨le_int (by (unfold spanF; simp (disch := omega) only [if_pos, if_neg]; try (unfold spanK; simp (disch := omega) only [if_pos, if_neg]; try (unfold spanN; simp (disch := omega) only [if_pos, if_neg])))), trivial⟩, ⟨le_int (by (unfold spanF; simp (disch := omega) only [if_pos, if_neg]; try (unfold spanK; simp (disch := omega) only [if_pos, if_neg]; try (unfold spanN; simp (disch := omega) only [if_pos, if_neg])))), trivial⟩, ⟨le_int (by (unfold spanF; simp (disch := omega) only [if_pos, if_neg]; try (unfold spanK; simp (disch := omega) only [if_pos, if_neg]; try (unfold spanN; simp (disch := omega) only [if_pos, if_neg])))), trivial⟩, trivial⟩, trivial⟩
                  · have h10 := of_decide_eq_false h10
                    refine HT.skip ?_
                    show HT _ _ _ _ _
                    refine HT.seq ?_
                    refine HT.region S_span_ok ?_
                    refine So.n (Nat.le_of_ble_eq_true rfl) (A.v rfl (V.mv (v := .p (.v (.int .i64 _))) rfl ?_))
                    refine So.n (Nat.le_of_ble_eq_true rfl) (A.v rfl (V.mv (v := .p (.v (.int .i64 _))) rfl ?_))
                    refine So.n (Nat.le_of_ble_eq_true rfl) (A.v rfl (V.mv (v := .p (.v (.int .i64 _))) rfl ?_))
                    refine So.n (Nat.le_of_ble_eq_true rfl) (A.v rfl (V.addI rfl rfl (by omega) ?_))
                    refine So.n (Nat.le_of_ble_eq_true rfl) (A.v rfl (V.as (v := .p (.v (.int .i64 _))) rfl ?_))
                    refine So.n (Nat.le_of_ble_eq_true rfl) (A.v rfl (V.as (v := .p (.v (.int .i64 _))) rfl ?_))
                    refine So.n (Nat.le_of_ble_eq_true rfl) (A.v rfl (V.as (v := .p (.v (.int .i64 (0)))) rfl ?_))
                    refine So.e ?_
                    show HT _ _ _ _ _
                    refine HT.ret ?_
                    exact ret_ok (sg []) h rfl rfl rfl trivial ⟨trivial, trivial, trivial, trivial⟩ rfl ⟨⟨⟨le_int (by (unfold spanF; simp (disch := omega) only [if_pos, if_neg]; try (unfold spanK; simp (disch := omega) only [if_pos, if_neg]; try (unfold spanN; simp (disch := omega) only [if_pos, if_neg])))), trivial⟩, ⟨le_int (by (unfold spanF; simp (disch := omega) only [if_pos, if_neg]; try (unfold spanK; simp (disch := omega) only [if_pos, if_neg]; try (unfold spanN; simp (disch := omega) only [if_pos, if_neg])))), trivial⟩, ⟨le_int (by (unfold spanF; simp (disch := omega) only [if_pos, if_neg]; try (unfold spanK; simp (disch := omega) only [if_pos, if_neg]; try (unfold spanN; simp (disch := omega) only [if_pos, if_neg])))), trivial⟩, trivial⟩, trivial⟩
            · have h7 := of_decide_eq_false h7
              refine So.gn (b := false) rfl rfl rfl (Nat.le_of_ble_eq_true rfl) (Nat.le_of_ble_eq_true rfl) ?_
              refine So.gn (b := false) rfl rfl rfl (Nat.le_of_ble_eq_true rfl) (Nat.le_of_ble_eq_true rfl) ?_
              refine So.gn (b := false) rfl rfl rfl (Nat.le_of_ble_eq_true rfl) (Nat.le_of_ble_eq_true rfl) ?_
              refine So.gn (b := false) rfl rfl rfl (Nat.le_of_ble_eq_true rfl) (Nat.le_of_ble_eq_true rfl) ?_
              refine So.gn (b := false) rfl rfl rfl (Nat.le_of_ble_eq_true rfl) (Nat.le_of_ble_eq_true rfl) ?_
              refine So.gn (b := false) rfl rfl rfl (Nat.le_of_ble_eq_true rfl) (Nat.le_of_ble_eq_true rfl) ?_
              refine So.n (Nat.le_of_ble_eq_true rfl) (A.v rfl (V.pkFalse (u := .p (.v (.bool false))) rfl rfl ?_))
              refine So.n (Nat.le_of_ble_eq_true rfl) (A.v rfl (V.as (v := .p (.v (.bool false))) rfl ?_))
              refine So.e ?_
              show HT _ _ _ _ _
              refine R.condF rfl ?_
              refine HT.seq ?_
              refine HT.region S_span_ok ?_
              refine So.n (Nat.le_of_ble_eq_true rfl) (A.v rfl (V.mv (v := .p (.v (.int .i64 _))) rfl ?_))
              refine So.n (Nat.le_of_ble_eq_true rfl) (A.v rfl (V.bin (a := (.v (.int .i64 _))) (b := (.v (.int .i64 (1048576)))) (r := .v (.bool _)) rfl rfl rfl trivial ?_))
              refine So.n (Nat.le_of_ble_eq_true rfl) (A.v rfl (V.as (v := .p (.v (.bool _))) rfl ?_))
              refine So.e ?_
              show HT _ _ _ _ _
              refine R.cond rfl rfl (fun h11 => ?_) (fun h11 => ?_)
              · have h11 := of_decide_eq_true h11
                refine HT.seq ?_
                refine HT.region S_span_ok ?_
                refine So.n (Nat.le_of_ble_eq_true rfl) (A.v rfl (V.as (v := .p (.v (.int .i64 (0)))) rfl ?_))
                refine So.n (Nat.le_of_ble_eq_true rfl) (A.v rfl (V.as (v := .p (.v (.int .i64 (0)))) rfl ?_))
                refine So.n (Nat.le_of_ble_eq_true rfl) (A.v rfl (V.as (v := .p (.v (.int .i64 (2)))) rfl ?_))
                refine So.e ?_
                show HT _ _ _ _ _
                refine HT.ret ?_
                exact ret_ok (sg []) h rfl rfl rfl trivial ⟨trivial, trivial, trivial, trivial⟩ rfl ⟨⟨⟨le_int (by (unfold spanF; simp (disch := omega) only [if_pos, if_neg]; try (unfold spanK; simp (disch := omega) only [if_pos, if_neg]; try (unfold spanN; simp (disch := omega) only [if_pos, if_neg])))), trivial⟩, ⟨le_int (by (unfold spanF; simp (disch := omega) only [if_pos, if_neg]; try (unfold spanK; simp (disch := omega) only [if_pos, if_neg]; try (unfold spanN; simp (disch := omega) only [if_pos, if_neg])))), trivial⟩, ⟨le_int (by (unfold spanF; simp (disch := omega) only [if_pos, if_neg]; try (unfold spanK; simp (disch := omega) only [if_pos, if_neg]; try (unfold spanN; simp (disch := omega) only [if_pos, if_neg])))), trivial⟩, trivial⟩, trivial⟩
              · have h11 := of_decide_eq_false h11
                refine HT.seq ?_
                refine HT.region S_span_ok ?_
                have hn := iAnd_bound (getF b i (iShl .i64 1 ((u8Shr (b.getD i.toNat 0) 6).toNat : Int).toNat)).1 (m := iShl .i64 1 (([6, 14, 30] : List Int).getD ((u8Shr (b.getD i.toNat 0) 6).toNat : Int).toNat 0).toNat - 1) (by omega) (by omega)
                refine So.n (Nat.le_of_ble_eq_true rfl) (A.v rfl (V.mv (v := .p (.v (.int .i64 _))) rfl ?_))
                refine So.n (Nat.le_of_ble_eq_true rfl) (A.v rfl (V.mv (v := .p (.bs _)) rfl ?_))
                refine So.n (Nat.le_of_ble_eq_true rfl) (A.v rfl (V.len ty22 (v := .p (.bs _)) rfl rfl ?_))
                refine So.n (Nat.le_of_ble_eq_true rfl) (A.v rfl (V.mv (v := .p (.v (.int .i64 _))) rfl ?_))
                refine So.n (Nat.le_of_ble_eq_true rfl) (A.v rfl (V.subI rfl rfl (by omega) ?_))
                refine So.n (Nat.le_of_ble_eq_true rfl) (A.v rfl (V.bin (a := (.v (.int .i64 _))) (b := (.v (.int .i64 _))) (r := .v (.bool _)) rfl rfl rfl trivial ?_))
                refine So.n (Nat.le_of_ble_eq_true rfl) (A.v rfl (V.as (v := .p (.v (.bool _))) rfl ?_))
                refine So.e ?_
                show HT _ _ _ _ _
                refine R.cond rfl rfl (fun h12 => ?_) (fun h12 => ?_)
                · have h12 := of_decide_eq_true h12
                  refine HT.seq ?_
                  refine HT.region S_span_ok ?_
                  refine So.n (Nat.le_of_ble_eq_true rfl) (A.v rfl (V.as (v := .p (.v (.int .i64 (0)))) rfl ?_))
                  refine So.n (Nat.le_of_ble_eq_true rfl) (A.v rfl (V.as (v := .p (.v (.int .i64 (0)))) rfl ?_))
                  refine So.n (Nat.le_of_ble_eq_true rfl) (A.v rfl (V.as (v := .p (.v (.int .i64 (111)))) rfl ?_))
                  refine So.e ?_
                  show HT _ _ _ _ _
                  refine HT.ret ?_
                  exact ret_ok (sg []) h rfl rfl rfl trivial ⟨trivial, trivial, trivial, trivial⟩ rfl ⟨⟨⟨le_int (by (unfold spanF; simp (disch := omega) only [if_pos, if_neg]; try (unfold spanK; simp (disch := omega) only [if_pos, if_neg]; try (unfold spanN; simp (disch := omega) only [if_pos, if_neg])))), trivial⟩, ⟨le_int (by (unfold spanF; simp (disch := omega) only [if_pos, if_neg]; try (unfold spanK; simp (disch := omega) only [if_pos, if_neg]; try (unfold spanN; simp (disch := omega) only [if_pos, if_neg])))), trivial⟩, ⟨le_int (by (unfold spanF; simp (disch := omega) only [if_pos, if_neg]; try (unfold spanK; simp (disch := omega) only [if_pos, if_neg]; try (unfold spanN; simp (disch := omega) only [if_pos, if_neg])))), trivial⟩, trivial⟩, trivial⟩
                · have h12 := of_decide_eq_false h12
                  refine HT.skip ?_
                  show HT _ _ _ _ _
                  refine HT.seq ?_
                  refine HT.region S_span_ok ?_
                  refine So.n (Nat.le_of_ble_eq_true rfl) (A.v rfl (V.mv (v := .p (.v (.int .i64 _))) rfl ?_))
                  refine So.n (Nat.le_of_ble_eq_true rfl) (A.v rfl (V.mv (v := .p (.v (.int .i64 _))) rfl ?_))
                  refine So.n (Nat.le_of_ble_eq_true rfl) (A.v rfl (V.mv (v := .p (.v (.int .i64 _))) rfl ?_))
                  refine So.n (Nat.le_of_ble_eq_true rfl) (A.v rfl (V.addI rfl rfl (by omega) ?_))
                  refine So.n (Nat.le_of_ble_eq_true rfl) (A.v rfl (V.as (v := .p (.v (.int .i64 _))) rfl ?_))
                  refine So.n (Nat.le_of_ble_eq_true rfl) (A.v rfl (V.as (v := .p (.v (.int .i64 _))) rfl ?_))
                  refine So.n (Nat.le_of_ble_eq_true rfl) (A.v rfl (V.as (v := .p (.v (.int .i64 (0)))) rfl ?_))
                  refine So.e ?_
                  show HT _ _ _ _ _
                  refine HT.ret ?_
                  exact ret_ok (sg []) h rfl rfl rfl trivial ⟨trivial, trivial, trivial, trivial⟩ rfl ⟨⟨⟨le_int (by (unfold spanF; simp (disch := omega) only [if_pos, if_neg]; try (unfold spanK; simp (disch := omega) only [if_pos, if_neg]; try (unfold spanN; simp (disch := omega) only [if_pos, if_neg])))), trivial⟩, ⟨le_int (by (unfold spanF; simp (disch := omega) only [if_pos, if_neg]; try (unfold spanK; simp (disch := omega) only [if_pos, if_neg]; try (unfold spanN; simp (disch := omega) only [if_pos, if_neg])))), trivial⟩, ⟨le_int (by (unfold spanF; simp (disch := omega) only [if_pos, if_neg]; try (unfold spanK; simp (disch := omega) only [if_pos, if_neg]; try (unfold spanN; simp (disch := omega) only [if_pos, if_neg])))), trivial⟩, trivial⟩, trivial⟩

/-! ### sodality/wire.Text -/
def textSp : Sp := ⟨[], mkE (α := (List UInt8)) (fun s => [.p (.bs (s))]) (fun s => []) (fun s => True) (fun s => [.own 1 (0) ((textF s).length), .p (.v (.int .i64 (textE s)))]) (fun s => [(1, ⟨5, 1, (textF s).length, true, .bs (textF s)⟩)])⟩
def S_text : FuncId → Option Sp := fun f => if f = 27 then some lenSp else none
theorem S_text_ok : ∀ f s, S_text f = some s → FOK Tryd.prog gl f s := fun f s h => by
  unfold S_text at h
  split at h
  · rename_i e; cases h; subst e; exact len_ok
  cases h
theorem S_text_det : ∀ f s, S_text f = some s → SpDet s.sp := fun f s h => by
  unfold S_text at h
  split at h
  · cases h; exact mkE_det _ _ _ _ _
  cases h
set_option maxHeartbeats 1000000 in
theorem text_ok : FOK Tryd.prog gl 16 textSp := by
  refine FOK.ofE (tyOf_ok Tryd.prog) (slots := [2, 3]) (nt := 12) Tryd.func16 rfl rfl rfl rfl (by decide) 1 (fun _ => rfl) (by decide) (fun _ => ⟨trivial, trivial⟩) ?_
  rintro s kk hlen hpre h
  have hl0 : (s).length ≤ 9223372036854775807 := hlen.1
  replace hpre : True := hpre
  show HT ⟨Tryd.prog, 12, tyOf Tryd.prog, gl, []⟩ _ [(0, .p (.bs (s)))] [] _
  refine HT.seq ?_
  refine HT.region S_text_ok ?_
  refine So.n (Nat.le_of_ble_eq_true rfl) (A.v rfl (V.as (v := .p (.v (.slice none 0 0))) rfl ?_))
  refine So.n (Nat.le_of_ble_eq_true rfl) (A.v rfl (V.as (v := .p (.v (.int .i64 (0)))) rfl ?_))
  refine So.e ?_
  show HT _ _ _ _ _
  refine HT.seq ?_
  refine HT.seq ?_
  refine HT.region S_text_ok ?_
  refine So.n (Nat.le_of_ble_eq_true rfl) (A.v rfl (V.mv (v := .p (.bs _)) rfl ?_))
  refine So.n (Nat.le_of_ble_eq_true rfl) (A.v rfl (V.len ty22 (v := .p (.bs _)) rfl rfl ?_))
  refine So.n (Nat.le_of_ble_eq_true rfl) (A.v rfl (V.bin (a := (.v (.int .i64 _))) (b := (.v (.int .i64 (1048576)))) (r := .v (.bool _)) rfl rfl rfl trivial ?_))
  refine So.e ?_
  show HT _ _ _ _ _
  refine R.cond rfl rfl (fun h1 => ?_) (fun h1 => ?_)
  · have h1 := of_decide_eq_true h1
    refine HT.seq ?_
    refine HT.region S_text_ok ?_
    refine So.n (Nat.le_of_ble_eq_true rfl) (A.v rfl (V.as (v := .p (.v (.slice none 0 0))) rfl ?_))
    refine So.n (Nat.le_of_ble_eq_true rfl) (A.v rfl (V.as (v := .p (.v (.int .i64 (2)))) rfl ?_))
    refine So.e ?_
    show HT _ _ _ _ _
    refine R.phan 2 1 5 1 (.bs []) rfl rfl rfl ⟨rfl, rfl⟩ ?_
    refine HT.ret ?_
    exact ret_ok (sg [(1, 1)]) h rfl rfl rfl ⟨trivial, trivial⟩ ⟨rfl, trivial, trivial⟩ rfl ⟨⟨⟨le_own2 (by first | rfl | omega) (by first | rfl | (unfold textF; simp (disch := omega) only [if_pos, if_neg] <;> first | rfl | (simp; done)) | (unfold textE; simp (disch := omega) only [if_pos, if_neg])), rfl⟩, ⟨le_int (by first | rfl | (unfold textF; simp (disch := omega) only [if_pos, if_neg] <;> first | rfl | (simp; done)) | (unfold textE; simp (disch := omega) only [if_pos, if_neg])), trivial⟩, trivial⟩, ⟨⟨_, rfl, .inl (ob_bs (by first | rfl | ((try dsimp only); (first | rfl | (unfold textF; simp (disch := omega) only [if_pos, if_neg] <;> first | rfl | (simp; done)) | (unfold textE; simp (disch := omega) only [if_pos, if_neg])))) (by first | rfl | ((try dsimp only); (first | rfl | (unfold textF; simp (disch := omega) only [if_pos, if_neg] <;> first | rfl | (simp; done)) | (unfold textE; simp (disch := omega) only [if_pos, if_neg]))))), trivial⟩, trivial⟩⟩
  · have h1 := of_decide_eq_false h1
    refine HT.skip ?_
    show HT _ _ _ _ _
    refine HT.seq ?_
    refine HT.region S_text_ok ?_
    refine So.n (Nat.le_of_ble_eq_true rfl) (A.v rfl (V.mv (v := .p (.bs _)) rfl ?_))
    refine So.n (Nat.le_of_ble_eq_true rfl) (A.v rfl (V.len ty22 (v := .p (.bs _)) rfl rfl ?_))
    refine So.n (Nat.le_of_ble_eq_true rfl) (A.call0 [.p (.v (.int .i64 _))] 1 rfl rfl rfl rfl ⟨trivial, trivial⟩ trivial _ ⟨.refl _, trivial⟩ trivial (by omega) (Φ := fun n => (lenF n).length ≤ 4) (fun n _ => lenF_le n) (.inl rfl) (v := .own 2 0 _) rfl (O' := (2, ⟨5, 1, _, true, .bs _⟩) :: _) rfl (fun h2 => ?_))
    try dsimp only at h2
    refine So.n (Nat.le_of_ble_eq_true rfl) (A.v rfl (V.mv (v := .p (.bs _)) rfl ?_))
    refine So.n (Nat.le_of_ble_eq_true rfl) (A.apOwn ty22 ty5 rfl rfl rfl rfl (u := .p (.bs _)) rfl rfl rfl rfl (by first | rfl | omega | (simp; done) | (simp; omega)) rfl rfl rfl ?_)
    refine So.n (Nat.le_of_ble_eq_true rfl) (A.v rfl (V.as (v := .own 2 0 _) rfl ?_))
    refine So.n (Nat.le_of_ble_eq_true rfl) (A.v rfl (V.as (v := .p (.v (.int .i64 (0)))) rfl ?_))
    refine So.e ?_
    show HT _ _ _ _ _
    refine HT.ret ?_
    exact ret_ok (sg [(1, 2)]) h rfl rfl rfl ⟨trivial, trivial⟩ ⟨rfl, trivial, trivial⟩ rfl ⟨⟨⟨le_own2 (by first | rfl | omega) (by first | rfl | (unfold textF; simp (disch := omega) only [if_pos, if_neg] <;> first | rfl | (simp; done)) | (unfold textE; simp (disch := omega) only [if_pos, if_neg])), rfl⟩, ⟨le_int (by first | rfl | (unfold textF; simp (disch := omega) only [if_pos, if_neg] <;> first | rfl | (simp; done)) | (unfold textE; simp (disch := omega) only [if_pos, if_neg])), trivial⟩, trivial⟩, ⟨⟨_, rfl, .inl (ob_bs (by first | rfl | ((try dsimp only); (first | rfl | (unfold textF; simp (disch := omega) only [if_pos, if_neg] <;> first | rfl | (simp; done)) | (unfold textE; simp (disch := omega) only [if_pos, if_neg])))) (by first | rfl | ((try dsimp only); (first | rfl | (unfold textF; simp (disch := omega) only [if_pos, if_neg] <;> first | rfl | (simp; done)) | (unfold textE; simp (disch := omega) only [if_pos, if_neg]))))), trivial⟩, trivial⟩⟩

/-! ### bytes.Clone -/
def cloneSp : Sp := ⟨[], mkE (α := (List UInt8)) (fun l => [.p (.bs (l))]) (fun l => []) (fun l => l.length ≤ 140737488355328) (fun l => [.own 1 (0) (l.length)]) (fun l => [(1, ⟨5, 1, (l).length, true, .bs (l)⟩)])⟩
def S_clone : FuncId → Option Sp := fun _ => none
theorem S_clone_ok : ∀ f s, S_clone f = some s → FOK Tryd.prog gl f s := fun f s h => by cases h
theorem S_clone_det : ∀ f s, S_clone f = some s → SpDet s.sp := fun f s h => by cases h
set_option maxHeartbeats 1000000 in
theorem clone_ok : FOK Tryd.prog gl 30 cloneSp := by
  refine FOK.ofE (tyOf_ok Tryd.prog) (slots := [2]) (nt := 8) Tryd.func30 rfl rfl rfl rfl (by decide) 1 (fun _ => rfl) (by decide) (fun _ => ⟨trivial, trivial⟩) ?_
  rintro l kk hlen hpre h
  have hl0 : (l).length ≤ 9223372036854775807 := hlen.1
  replace hpre : l.length ≤ 140737488355328 := hpre
  show HT ⟨Tryd.prog, 8, tyOf Tryd.prog, gl, []⟩ _ [(0, .p (.bs (l)))] [] _
  refine HT.seq ?_
  refine HT.region S_clone_ok ?_
  refine So.n (Nat.le_of_ble_eq_true rfl) (A.v rfl (V.as (v := .p (.v (.slice none 0 0))) rfl ?_))
  refine So.e ?_
  show HT _ _ _ _ _
  refine HT.seq ?_
  refine HT.seq ?_
  refine HT.region S_clone_ok ?_
  refine So.n (Nat.le_of_ble_eq_true rfl) (A.v rfl (V.mv (v := .p (.bs _)) rfl ?_))
  refine So.n (Nat.le_of_ble_eq_true rfl) (A.eqNilBs ty22 rfl rfl (fun h1 => ?_) ?_)
  · refine So.e ?_
    show HT _ _ _ _ _
    refine R.condT rfl ?_
    refine HT.seq ?_
    refine HT.region S_clone_ok ?_
    refine So.n (Nat.le_of_ble_eq_true rfl) (A.v rfl (V.as (v := .p (.v (.slice none 0 0))) rfl ?_))
    refine So.e ?_
    show HT _ _ _ _ _
    refine R.phan 2 1 5 1 (.bs []) rfl rfl rfl ⟨rfl, rfl⟩ ?_
    refine HT.ret ?_
    exact ret_ok (sg [(1, 1)]) h rfl rfl rfl ⟨trivial, trivial⟩ ⟨rfl, trivial⟩ rfl ⟨⟨⟨le_own2 (by first | rfl | omega) (by first | rfl | omega | (exact (List.eq_nil_of_length_eq_zero (by omega)).symm) | (simp; done)), rfl⟩, trivial⟩, ⟨⟨_, rfl, .inl (ob_bs (by first | rfl | ((try dsimp only); (first | rfl | omega | (exact (List.eq_nil_of_length_eq_zero (by omega)).symm) | (simp; done)))) (by first | rfl | ((try dsimp only); (first | rfl | omega | (exact (List.eq_nil_of_length_eq_zero (by omega)).symm) | (simp; done))))), trivial⟩, trivial⟩⟩
  · refine So.e ?_
    show HT _ _ _ _ _
    refine R.condF rfl ?_
    refine HT.skip ?_
    show HT _ _ _ _ _
    refine HT.seq ?_
    refine HT.region S_clone_ok ?_
    refine So.n (Nat.le_of_ble_eq_true rfl) (A.bsl 1 ty22 ty5 rfl (Nat.le_of_ble_eq_true rfl) (Nat.le_of_ble_eq_true rfl) (fun _ => rfl) rfl rfl trivial trivial rfl (N := 0) rfl (c := .bs []) rfl ?_)
    refine So.n (Nat.le_of_ble_eq_true rfl) (A.v rfl (V.mv (v := .p (.bs _)) rfl ?_))
    refine So.n (Nat.le_of_ble_eq_true rfl) (A.apOwn ty22 ty5 rfl rfl rfl rfl (u := .p (.bs _)) rfl rfl rfl rfl (by first | rfl | omega | (simp; done) | (simp; omega)) rfl rfl rfl ?_)
    refine So.n (Nat.le_of_ble_eq_true rfl) (A.v rfl (V.as (v := .own 1 0 _) rfl ?_))
    refine So.e ?_
    show HT _ _ _ _ _
    refine HT.ret ?_
    exact ret_ok (sg [(1, 1)]) h rfl rfl rfl ⟨trivial, trivial⟩ ⟨rfl, trivial⟩ rfl ⟨⟨⟨le_own2 (by first | rfl | omega) (by first | rfl | omega | (exact (List.eq_nil_of_length_eq_zero (by omega)).symm) | (simp; done)), rfl⟩, trivial⟩, ⟨⟨_, rfl, .inl (ob_bs (by first | rfl | ((try dsimp only); (first | rfl | omega | (exact (List.eq_nil_of_length_eq_zero (by omega)).symm) | (simp; done)))) (by first | rfl | ((try dsimp only); (first | rfl | omega | (exact (List.eq_nil_of_length_eq_zero (by omega)).symm) | (simp; done))))), trivial⟩, trivial⟩⟩

/-! ### sodality/wire.GetText -/
def getTextSp : Sp := ⟨[], mkE (α := (List UInt8) × Int) (fun (b, i) => [.p (.bs (b)), .p (.v (.int .i64 (i)))]) (fun (b, i) => []) (fun (b, i) => True) (fun (b, i) => [.own 1 (0) ((getTextF b i).1.length), .p (.v (.int .i64 ((getTextF b i).2.1))), .p (.v (.int .i64 ((getTextF b i).2.2)))]) (fun (b, i) => [(1, ⟨5, 1, ((getTextF b i).1).length, true, .bs ((getTextF b i).1)⟩)])⟩
def S_getText : FuncId → Option Sp := fun f => if f = 29 then some spanSp else if f = 30 then some cloneSp else none
theorem S_getText_ok : ∀ f s, S_getText f = some s → FOK Tryd.prog gl f s := fun f s h => by
  unfold S_getText at h
  split at h
  · rename_i e; cases h; subst e; exact span_ok
  split at h
  · rename_i e; cases h; subst e; exact clone_ok
  cases h
theorem S_getText_det : ∀ f s, S_getText f = some s → SpDet s.sp := fun f s h => by
  unfold S_getText at h
  split at h
  · cases h; exact mkE_det _ _ _ _ _
  split at h
  · cases h; exact mkE_det _ _ _ _ _
  cases h
set_option maxHeartbeats 1000000 in
theorem getText_ok : FOK Tryd.prog gl 20 getTextSp := by
  refine FOK.ofE (tyOf_ok Tryd.prog) (slots := [4, 5, 6]) (nt := 26) Tryd.func20 rfl rfl rfl rfl (by decide) 2 (fun ⟨_, _⟩ => rfl) (by decide) (fun ⟨_, _⟩ => ⟨trivial, trivial, trivial⟩) ?_
  rintro ⟨b, i⟩ kk hlen hpre h
  have hl0 : (b).length ≤ 9223372036854775807 := hlen.1
  replace hpre : True := hpre
  show HT ⟨Tryd.prog, 26, tyOf Tryd.prog, gl, []⟩ _ [(0, .p (.bs (b))), (1, .p (.v (.int .i64 (i))))] [] _
  refine HT.seq ?_
  refine HT.region S_getText_ok ?_
  refine So.n (Nat.le_of_ble_eq_true rfl) (A.v rfl (V.as (v := .p (.v (.slice none 0 0))) rfl ?_))
  refine So.n (Nat.le_of_ble_eq_true rfl) (A.v rfl (V.as (v := .p (.v (.int .i64 (0)))) rfl ?_))
  refine So.n (Nat.le_of_ble_eq_true rfl) (A.v rfl (V.as (v := .p (.v (.int .i64 (0)))) rfl ?_))
  refine So.e ?_
  show HT _ _ _ _ _
  refine HT.seq ?_
  refine HT.region S_getText_ok ?_
  refine So.n (Nat.le_of_ble_eq_true rfl) (A.v rfl (V.mv (v := .p (.bs _)) rfl ?_))
  refine So.n (Nat.le_of_ble_eq_true rfl) (A.v rfl (V.mv (v := .p (.v (.int .i64 _))) rfl ?_))
  refine So.n (Nat.le_of_ble_eq_true rfl) (A.call0 [.p (.bs _), .p (.v (.int .i64 _))] 1 rfl rfl rfl rfl ⟨trivial, trivial, trivial⟩ trivial (_, _) ⟨.refl _, .refl _, trivial⟩ trivial (by trivial) (Φ := fun (b, i) => (spanF b i).2.2 = 0 → 0 ≤ i ∧ i < (spanF b i).1 ∧ (spanF b i).1 ≤ (spanF b i).2.1 ∧ (spanF b i).2.1 ≤ b.length ∧ (spanF b i).2.1 - (spanF b i).1 ≤ 1048576) (fun (b, i) _ => spanF_ok b i) (.inl rfl) (v := .tup 3 _) rfl (O' := _) rfl (fun h1 => ?_))
  try dsimp only at h1
  refine So.n (Nat.le_of_ble_eq_true rfl) (A.v rfl (V.mv (v := .tup 3 _) rfl ?_))
  refine So.n (Nat.le_of_ble_eq_true rfl) (A.v rfl (V.ext rfl (Nat.le_of_ble_eq_true rfl) (v := .p (.v (.int .i64 _))) rfl ?_))
  refine So.n (Nat.le_of_ble_eq_true rfl) (A.v rfl (V.ext rfl (Nat.le_of_ble_eq_true rfl) (v := .p (.v (.int .i64 _))) rfl ?_))
  refine So.n (Nat.le_of_ble_eq_true rfl) (A.v rfl (V.ext rfl (Nat.le_of_ble_eq_true rfl) (v := .p (.v (.int .i64 _))) rfl ?_))
  refine So.n (Nat.le_of_ble_eq_true rfl) (A.v rfl (V.as (v := .p (.v (.int .i64 _))) rfl ?_))
  refine So.n (Nat.le_of_ble_eq_true rfl) (A.v rfl (V.as (v := .p (.v (.int .i64 _))) rfl ?_))
  refine So.n (Nat.le_of_ble_eq_true rfl) (A.v rfl (V.as (v := .p (.v (.int .i64 _))) rfl ?_))
  refine So.e ?_
  show HT _ _ _ _ _
  refine HT.seq ?_
  refine HT.seq ?_
  refine HT.region S_getText_ok ?_
  refine So.n (Nat.le_of_ble_eq_true rfl) (A.v rfl (V.mv (v := .p (.v (.int .i64 _))) rfl ?_))
  refine So.n (Nat.le_of_ble_eq_true rfl) (A.v rfl (V.bin (a := (.v (.int .i64 _))) (b := (.v (.int .i64 (0)))) (r := .v (.bool _)) rfl rfl rfl trivial ?_))
  refine So.e ?_
  show HT _ _ _ _ _
  refine R.cond rfl rfl (fun h2 => ?_) (fun h2 => ?_)
  · have h2 := of_decide_eq_false (bnT h2)
    refine HT.seq ?_
    refine HT.region S_getText_ok ?_
    refine So.n (Nat.le_of_ble_eq_true rfl) (A.v rfl (V.mv (v := .p (.v (.int .i64 _))) rfl ?_))
    refine So.n (Nat.le_of_ble_eq_true rfl) (A.v rfl (V.as (v := .p (.v (.slice none 0 0))) rfl ?_))
    refine So.n (Nat.le_of_ble_eq_true rfl) (A.v rfl (V.as (v := .p (.v (.int .i64 (0)))) rfl ?_))
    refine So.n (Nat.le_of_ble_eq_true rfl) (A.v rfl (V.as (v := .p (.v (.int .i64 _))) rfl ?_))
    refine So.e ?_
    show HT _ _ _ _ _
    refine R.phan 4 1 5 1 (.bs []) rfl rfl rfl ⟨rfl, rfl⟩ ?_
    refine HT.ret ?_
    exact ret_ok (sg [(1, 1)]) h rfl rfl rfl ⟨trivial, trivial⟩ ⟨rfl, trivial, trivial, trivial⟩ rfl ⟨⟨⟨le_own2 (by first | rfl | omega) (by first | rfl | (unfold getTextF; simp (disch := omega) only [if_pos, if_neg, ne_eq] <;> first | rfl | (simp; done))), rfl⟩, ⟨le_int (by first | rfl | (unfold getTextF; simp (disch := omega) only [if_pos, if_neg, ne_eq] <;> first | rfl | (simp; done))), trivial⟩, ⟨le_int (by first | rfl | (unfold getTextF; simp (disch := omega) only [if_pos, if_neg, ne_eq] <;> first | rfl | (simp; done))), trivial⟩, trivial⟩, ⟨⟨_, rfl, .inl (ob_bs (by first | rfl | ((try dsimp only); (first | rfl | (unfold getTextF; simp (disch := omega) only [if_pos, if_neg, ne_eq] <;> first | rfl | (simp; done))))) (by first | rfl | ((try dsimp only); (first | rfl | (unfold getTextF; simp (disch := omega) only [if_pos, if_neg, ne_eq] <;> first | rfl | (simp; done)))))), trivial⟩, trivial⟩⟩
  · have h2 := of_decide_eq_true (bnF h2)
    refine HT.skip ?_
    show HT _ _ _ _ _
    refine HT.seq ?_
    refine HT.region S_getText_ok ?_
    refine So.n (Nat.le_of_ble_eq_true rfl) (A.v rfl (V.mv (v := .p (.bs _)) rfl ?_))
    refine So.n (Nat.le_of_ble_eq_true rfl) (A.v rfl (V.mv (v := .p (.v (.int .i64 _))) rfl ?_))
    refine So.n (Nat.le_of_ble_eq_true rfl) (A.v rfl (V.mv (v := .p (.v (.int .i64 _))) rfl ?_))
    refine So.n (Nat.le_of_ble_eq_true rfl) (A.v rfl (V.cutBs ty22 ty5 rfl rfl rfl rfl (by omega) (.inl rfl) rfl ?_))
    refine So.n (Nat.le_of_ble_eq_true rfl) (A.call0 [.p (.bs _)] 1 rfl rfl rfl rfl ⟨trivial, trivial⟩ trivial _ ⟨.refl _, trivial⟩ trivial (by first | omega | (simp; omega)) (Φ := fun _ => True) (fun _ _ => trivial) (.inl rfl) (v := .own 2 0 _) rfl (O' := (2, ⟨5, 1, _, true, .bs _⟩) :: _) rfl (fun h3 => ?_))
    refine So.n (Nat.le_of_ble_eq_true rfl) (A.v rfl (V.mv (v := .p (.v (.int .i64 _))) rfl ?_))
    refine So.n (Nat.le_of_ble_eq_true rfl) (A.v rfl (V.as (v := .own 2 0 _) rfl ?_))
    refine So.n (Nat.le_of_ble_eq_true rfl) (A.v rfl (V.as (v := .p (.v (.int .i64 _))) rfl ?_))
    refine So.n (Nat.le_of_ble_eq_true rfl) (A.v rfl (V.as (v := .p (.v (.int .i64 (0)))) rfl ?_))
    refine So.e ?_
    show HT _ _ _ _ _
    refine HT.ret ?_
    exact ret_ok (sg [(1, 2)]) h rfl rfl rfl ⟨trivial, trivial⟩ ⟨rfl, trivial, trivial, trivial⟩ rfl ⟨⟨⟨le_own2 (by first | rfl | omega) (by first | rfl | (unfold getTextF; simp (disch := omega) only [if_pos, if_neg, ne_eq] <;> first | rfl | (simp; done))), rfl⟩, ⟨le_int (by first | rfl | (unfold getTextF; simp (disch := omega) only [if_pos, if_neg, ne_eq] <;> first | rfl | (simp; done))), trivial⟩, ⟨le_int (by first | rfl | (unfold getTextF; simp (disch := omega) only [if_pos, if_neg, ne_eq] <;> first | rfl | (simp; done))), trivial⟩, trivial⟩, ⟨⟨_, rfl, .inl (ob_bs (by first | rfl | ((try dsimp only); (first | rfl | (unfold getTextF; simp (disch := omega) only [if_pos, if_neg, ne_eq] <;> first | rfl | (simp; done))))) (by first | rfl | ((try dsimp only); (first | rfl | (unfold getTextF; simp (disch := omega) only [if_pos, if_neg, ne_eq] <;> first | rfl | (simp; done)))))), trivial⟩, trivial⟩⟩

/-! ### sodality/wire.List -/
def listSp : Sp := ⟨[], mkE (α := (List (List UInt8))) (fun l => [.p (.sl (l).length 1 (fun j => .bs ((l).getD j [])))]) (fun l => []) (fun l => True) (fun l => [.own 1 (0) ((listF l).length), .p (.v (.int .i64 (listE l)))]) (fun l => [(1, ⟨5, 1, (listF l).length, true, .bs (listF l)⟩)])⟩
def S_list : FuncId → Option Sp := fun f => if f = 16 then some textSp else none
theorem S_list_ok : ∀ f s, S_list f = some s → FOK Tryd.prog gl f s := fun f s h => by
  unfold S_list at h
  split at h
  · rename_i e; cases h; subst e; exact text_ok
  cases h
theorem S_list_det : ∀ f s, S_list f = some s → SpDet s.sp := fun f s h => by
  unfold S_list at h
  split at h
  · cases h; exact mkE_det _ _ _ _ _
  cases h
set_option maxHeartbeats 1000000 in
theorem list_ok : FOK Tryd.prog gl 17 listSp := by
  refine FOK.ofE (tyOf_ok Tryd.prog) (slots := [2, 3]) (nt := 38) Tryd.func17 rfl rfl rfl rfl (by decide) 1 (fun _ => rfl) (by decide) (fun _ => ⟨trivial, trivial⟩) ?_
  rintro l kk hlen hpre h
  have hl0 : (l).length ≤ 9223372036854775807 := hlen.1
  replace hpre : True := hpre
  show HT ⟨Tryd.prog, 38, tyOf Tryd.prog, gl, []⟩ _ [(0, .p (.sl (l).length 1 (fun j => .bs ((l).getD j []))))] [] _
  refine HT.seq ?_
  refine HT.region S_list_ok ?_
  refine So.n (Nat.le_of_ble_eq_true rfl) (A.v rfl (V.as (v := .p (.v (.slice none 0 0))) rfl ?_))
  refine So.n (Nat.le_of_ble_eq_true rfl) (A.v rfl (V.as (v := .p (.v (.int .i64 (0)))) rfl ?_))
  refine So.e ?_
  show HT _ _ _ _ _
  refine HT.seq ?_
  refine HT.region S_list_ok ?_
  refine So.n (Nat.le_of_ble_eq_true rfl) (A.v rfl (V.as (v := .p (.v (.slice none 0 0))) rfl ?_))
  refine So.e ?_
  show HT _ _ _ _ _
  refine HT.seq ?_
  refine HT.seq ?_
  refine HT.region S_list_ok ?_
  refine So.n (Nat.le_of_ble_eq_true rfl) (A.v rfl (V.mv (v := .p (.sl _ 1 _)) rfl ?_))
  refine So.n (Nat.le_of_ble_eq_true rfl) (A.v rfl (V.len ty34 (v := .p (.sl _ 1 _)) rfl rfl ?_))
  refine So.n (Nat.le_of_ble_eq_true rfl) (A.v rfl (V.mv (v := .p (.v (.int .i64 (0)))) rfl ?_))
  refine So.e ?_
  show HT _ _ _ _ _
  refine HT.block ?_
  refine R.phan 4 1 5 1 (.bs []) rfl rfl rfl ⟨rfl, rfl⟩ ?_
  refine R.loop (σ := Nat) (fun s => [(4, .own 1 (0) ((catT (l.take s)).length)), (11, .p (.v (.int .i64 ((s : Int)))))]) (fun s => [(1, ⟨5, 1, (catT (l.take s)).length, true, .bs (catT (l.take s))⟩)]) [9, 10] [] (fun s => s ≤ l.length ∧ okT (l.take s)) (fun s => l.length - s) (0) (fr0 := [(9, .p (.sl _ 1 _)), (10, .p (.v (.int .i64 _)))]) (O0 := []) rfl rfl (by exact ⟨Nat.zero_le _, okT_nil⟩) ⟨⟨⟨le_own2 (by first | rfl | omega) (by first | rfl | omega | (simp; done) | (simp; omega)), rfl⟩, ⟨le_int (by first | rfl | omega | (simp; done) | (simp; omega)), trivial⟩, ⟨.refl _, trivial⟩, ⟨.refl _, trivial⟩, trivial⟩, ⟨⟨_, rfl, .inl (ob_bs (by first | rfl | ((try dsimp only); first | rfl | omega | (simp; done) | (simp; omega))) (by first | rfl | ((try dsimp only); first | rfl | omega | (simp; done) | (simp; omega)))), trivial⟩, trivial⟩⟩ (fun s hP0 => ?_)
  have hok := hP0.2.2
  have hE := @textE_eq (l.getD s [])
  have hsl := hP0.1
  refine HT.seq ?_
  refine HT.region S_list_ok ?_
  refine So.n (Nat.le_of_ble_eq_true rfl) (A.v rfl (V.bin (a := (.v (.int .i64 ((_ : Nat) : Int)))) (b := (.v (.int .i64 _))) (r := .v (.bool _)) rfl rfl rfl trivial ?_))
  refine So.e ?_
  show HT _ _ _ _ _
  refine HT.seq ?_
  refine R.cond rfl rfl (fun h1 => ?_) (fun h1 => ?_)
  · have h1 := of_decide_eq_true h1
    refine HT.skip ?_
    show HT _ _ _ _ _
    refine HT.seq ?_
    refine HT.block ?_
    refine HT.seq ?_
    refine HT.region S_list_ok ?_
    refine So.n (Nat.le_of_ble_eq_true rfl) (A.v rfl (V.ixSl1 ty34 ty22 rfl rfl rfl (by omega) (Int.toNat_natCast _) ?_))
    refine So.n (Nat.le_of_ble_eq_true rfl) (A.v rfl (V.ldRp ty22 rfl rfl (Nat.le_of_ble_eq_true rfl) (v := (.bs _)) rfl ?_))
    refine So.n (Nat.le_of_ble_eq_true rfl) (A.v rfl (V.as (v := .p (.bs _)) rfl ?_))
    refine So.e ?_
    show HT _ _ _ _ _
    refine HT.seq ?_
    refine HT.region S_list_ok ?_
    refine So.n (Nat.le_of_ble_eq_true rfl) (A.v rfl (V.mv (v := .p (.bs _)) rfl ?_))
    refine So.n (Nat.le_of_ble_eq_true rfl) (A.call0 [.p (.bs _)] 2 rfl rfl rfl rfl ⟨trivial, trivial⟩ trivial _ ⟨.refl _, trivial⟩ trivial (by trivial) (Φ := fun s => (textF s).length ≤ 1048580) (fun s _ => textF_len s) (.inl rfl) (v := .tup 2 _) rfl (O' := (3, ⟨5, 1, _, true, .bs _⟩) :: _) rfl (fun h2 => ?_))
    try dsimp only at h2
    refine So.n (Nat.le_of_ble_eq_true rfl) (A.v rfl (V.mv (v := .tup 2 _) rfl ?_))
    refine So.n (Nat.le_of_ble_eq_true rfl) (A.v rfl (V.ext rfl (Nat.le_of_ble_eq_true rfl) (v := .own 3 0 _) rfl ?_))
    refine So.n (Nat.le_of_ble_eq_true rfl) (A.v rfl (V.ext rfl (Nat.le_of_ble_eq_true rfl) (v := .p (.v (.int .i64 _))) rfl ?_))
    refine So.n (Nat.le_of_ble_eq_true rfl) (A.v rfl (V.as (v := .own 3 0 _) rfl ?_))
    refine So.n (Nat.le_of_ble_eq_true rfl) (A.v rfl (V.as (v := .p (.v (.int .i64 _))) rfl ?_))
    refine So.e ?_
    show HT _ _ _ _ _
    refine HT.seq ?_
    refine HT.seq ?_
    refine HT.region S_list_ok ?_
    refine So.n (Nat.le_of_ble_eq_true rfl) (A.v rfl (V.mv (v := .p (.v (.int .i64 _))) rfl ?_))
    refine So.n (Nat.le_of_ble_eq_true rfl) (A.v rfl (V.bin (a := (.v (.int .i64 _))) (b := (.v (.int .i64 (0)))) (r := .v (.bool _)) rfl rfl rfl trivial ?_))
    refine So.n (Nat.le_of_ble_eq_true rfl) (A.v rfl (V.mv (v := .p (.v (.bool _))) rfl ?_))
    refine So.gd rfl rfl (Nat.le_of_ble_eq_true rfl) (Nat.le_of_ble_eq_true rfl) (fun h3 => ?_) (fun h3 => ?_)
    · have h3 := of_decide_eq_true (bnF h3)
      refine A.v rfl (V.mv (v := .own 3 0 _) rfl ?_)
      refine So.gy rfl rfl (Nat.le_of_ble_eq_true rfl) (Nat.le_of_ble_eq_true rfl) ?_
      refine A.v rfl (V.len ty22 (v := .own 3 0 _) rfl rfl ?_)
      refine So.gy rfl rfl (Nat.le_of_ble_eq_true rfl) (Nat.le_of_ble_eq_true rfl) ?_
      refine A.v rfl (V.mv (v := .own 1 0 _) rfl ?_)
      refine So.gy rfl rfl (Nat.le_of_ble_eq_true rfl) (Nat.le_of_ble_eq_true rfl) ?_
      refine A.v rfl (V.len ty22 (v := .own 1 0 _) rfl rfl ?_)
      refine So.gy rfl rfl (Nat.le_of_ble_eq_true rfl) (Nat.le_of_ble_eq_true rfl) ?_
      refine A.v rfl (V.subI rfl rfl (by omega) ?_)
      refine So.gy rfl rfl (Nat.le_of_ble_eq_true rfl) (Nat.le_of_ble_eq_true rfl) ?_
      refine A.v rfl (V.bin (a := (.v (.int .i64 _))) (b := (.v (.int .i64 _))) (r := .v (.bool _)) rfl rfl rfl trivial ?_)
      refine So.n (Nat.le_of_ble_eq_true rfl) (A.v rfl (V.pkFalse (u := .p (.v (.bool _))) rfl rfl ?_))
      refine So.e ?_
      show HT _ _ _ _ _
      refine R.cond rfl rfl (fun h4 => ?_) (fun h4 => ?_)
      · have h4 := of_decide_eq_true h4
        refine HT.seq ?_
        refine HT.region S_list_ok ?_
        refine So.n (Nat.le_of_ble_eq_true rfl) (A.v rfl (V.as (v := .p (.v (.slice none 0 0))) rfl ?_))
        refine So.n (Nat.le_of_ble_eq_true rfl) (A.v rfl (V.as (v := .p (.v (.int .i64 (2)))) rfl ?_))
        refine So.e ?_
        show HT _ _ _ _ _
        refine R.phan 2 4 5 1 (.bs []) rfl rfl rfl ⟨rfl, rfl⟩ ?_
        refine HT.ret ?_
        exact ret_ok (sg [(1, 4)]) h rfl rfl rfl ⟨trivial, trivial⟩ ⟨rfl, trivial, trivial⟩ rfl ⟨⟨⟨le_own2 (by first | rfl | omega) (by first | rfl | (rw [listF_no (okT_not1 (s := s) (by omega) (textE_ne (by assumption)))] <;> rfl) | (rw [listE_no (okT_not1 (s := s) (by omega) (textE_ne (by assumption)))]) | (rw [listF_no (okT_not2 (s := s) (by omega) (by omega))] <;> rfl) | (rw [listE_no (okT_not2 (s := s) (by omega) (by omega))]) | (rw [← listF_yes hP0.2 (by omega)] <;> first | rfl | (simp; done)) | (rw [← listE_yes hP0.2 (by omega)] <;> first | rfl | (simp; done))), rfl⟩, ⟨le_int (by first | rfl | (rw [listF_no (okT_not1 (s := s) (by omega) (textE_ne (by assumption)))] <;> rfl) | (rw [listE_no (okT_not1 (s := s) (by omega) (textE_ne (by assumption)))]) | (rw [listF_no (okT_not2 (s := s) (by omega) (by omega))] <;> rfl) | (rw [listE_no (okT_not2 (s := s) (by omega) (by omega))]) | (rw [← listF_yes hP0.2 (by omega)] <;> first | rfl | (simp; done)) | (rw [← listE_yes hP0.2 (by omega)] <;> first | rfl | (simp; done))), trivial⟩, trivial⟩, ⟨⟨_, rfl, .inl (ob_bs (by first | rfl | ((try dsimp only); (first | rfl | (rw [listF_no (okT_not1 (s := s) (by omega) (textE_ne (by assumption)))] <;> rfl) | (rw [listE_no (okT_not1 (s := s) (by omega) (textE_ne (by assumption)))]) | (rw [listF_no (okT_not2 (s := s) (by omega) (by omega))] <;> rfl) | (rw [listE_no (okT_not2 (s := s) (by omega) (by omega))]) | (rw [← listF_yes hP0.2 (by omega)] <;> first | rfl | (simp; done)) | (rw [← listE_yes hP0.2 (by omega)] <;> first | rfl | (simp; done))))) (by first | rfl | ((try dsimp only); (first | rfl | (rw [listF_no (okT_not1 (s := s) (by omega) (textE_ne (by assumption)))] <;> rfl) | (rw [listE_no (okT_not1 (s := s) (by omega) (textE_ne (by assumption)))]) | (rw [listF_no (okT_not2 (s := s) (by omega) (by omega))] <;> rfl) | (rw [listE_no (okT_not2 (s := s) (by omega) (by omega))]) | (rw [← listF_yes hP0.2 (by omega)] <;> first | rfl | (simp; done)) | (rw [← listE_yes hP0.2 (by omega)] <;> first | rfl | (simp; done)))))), trivial⟩, trivial⟩⟩
      · have h4 := of_decide_eq_false h4
        refine HT.skip ?_
        show HT _ _ _ _ _
        refine HT.region S_list_ok ?_
        refine So.n (Nat.le_of_ble_eq_true rfl) (A.v rfl (V.mv (v := .own 1 0 _) rfl ?_))
        refine So.n (Nat.le_of_ble_eq_true rfl) (A.v rfl (V.mv (v := .own 3 0 _) rfl ?_))
        refine So.n (Nat.le_of_ble_eq_true rfl) (A.apOwn ty22 ty5 rfl rfl rfl rfl (u := .own 3 0 _) rfl rfl rfl rfl (by first | rfl | omega | (simp; done) | (simp; omega)) rfl rfl rfl ?_)
        refine So.n (Nat.le_of_ble_eq_true rfl) (A.v rfl (V.as (v := .own 1 0 _) rfl ?_))
        refine So.e ?_
        show HT _ _ _ _ _
        refine HT.region S_list_ok ?_
        refine So.n (Nat.le_of_ble_eq_true rfl) (A.v rfl (V.addI rfl rfl (by omega) ?_))
        refine So.n (Nat.le_of_ble_eq_true rfl) (A.v rfl (V.mv (v := .p (.v (.int .i64 _))) rfl ?_))
        refine So.e ?_
        refine ⟨s + 1, by exact ⟨by omega, okT_take (by omega) hP0.2 (hE (by omega)) (by omega)⟩, by omega, ⟨⟨⟨le_own2 (by first | rfl | omega) (by rw [catT_take (by omega)]; simp), rfl⟩, ⟨le_int (by first | rfl | omega | (simp; done) | (simp; omega)), trivial⟩, ⟨.refl _, trivial⟩, ⟨.refl _, trivial⟩, trivial⟩, ⟨⟨_, rfl, .inl (ob_bs (by first | rfl | ((try dsimp only); first | (rw [catT_take (by omega)]; exact take_full _ _ _ _ (Nat.le_refl _) (Nat.le_refl _)) | (rw [catT_take (by omega)]; simp))) (by first | rfl | ((try dsimp only); first | (rw [catT_take (by omega)]; exact take_full _ _ _ _ (Nat.le_refl _) (Nat.le_refl _)) | (rw [catT_take (by omega)]; simp)))), trivial⟩, trivial⟩⟩⟩
    · have h3 := of_decide_eq_false (bnT h3)
      refine So.gn (b := true) rfl rfl rfl (Nat.le_of_ble_eq_true rfl) (Nat.le_of_ble_eq_true rfl) ?_
      refine So.gn (b := true) rfl rfl rfl (Nat.le_of_ble_eq_true rfl) (Nat.le_of_ble_eq_true rfl) ?_
      refine So.gn (b := true) rfl rfl rfl (Nat.le_of_ble_eq_true rfl) (Nat.le_of_ble_eq_true rfl) ?_
      refine So.gn (b := true) rfl rfl rfl (Nat.le_of_ble_eq_true rfl) (Nat.le_of_ble_eq_true rfl) ?_
      refine So.gn (b := true) rfl rfl rfl (Nat.le_of_ble_eq_true rfl) (Nat.le_of_ble_eq_true rfl) ?_
      refine So.n (Nat.le_of_ble_eq_true rfl) (A.v rfl (V.pkTrue (u := .p (.v (.bool true))) rfl rfl ?_))
      refine So.e ?_
      show HT _ _ _ _ _
      refine R.condT rfl ?_
      refine HT.seq ?_
      refine HT.region S_list_ok ?_
      refine So.n (Nat.le_of_ble_eq_true rfl) (A.v rfl (V.as (v := .p (.v (.slice none 0 0))) rfl ?_))
      refine So.n (Nat.le_of_ble_eq_true rfl) (A.v rfl (V.as (v := .p (.v (.int .i64 (2)))) rfl ?_))
      refine So.e ?_
      show HT _ _ _ _ _
      refine R.phan 2 4 5 1 (.bs []) rfl rfl rfl ⟨rfl, rfl⟩ ?_
      refine HT.ret ?_
      exact ret_ok (sg [(1, 4)]) h rfl rfl rfl ⟨trivial, trivial⟩ ⟨rfl, trivial, trivial⟩ rfl ⟨⟨⟨le_own2 (by first | rfl | omega) (by first | rfl | (rw [listF_no (okT_not1 (s := s) (by omega) (textE_ne (by assumption)))] <;> rfl) | (rw [listE_no (okT_not1 (s := s) (by omega) (textE_ne (by assumption)))]) | (rw [listF_no (okT_not2 (s := s) (by omega) (by omega))] <;> rfl) | (rw [listE_no (okT_not2 (s := s) (by omega) (by omega))]) | (rw [← listF_yes hP0.2 (by omega)] <;> first | rfl | (simp; done)) | (rw [← listE_yes hP0.2 (by omega)] <;> first | rfl | (simp; done))), rfl⟩, ⟨le_int (by first | rfl | (rw [listF_no (okT_not1 (s := s) (by omega) (textE_ne (by assumption)))] <;> rfl) | (rw [listE_no (okT_not1 (s := s) (by omega) (textE_ne (by assumption)))]) | (rw [listF_no (okT_not2 (s := s) (by omega) (by omega))] <;> rfl) | (rw [listE_no (okT_not2 (s := s) (by omega) (by omega))]) | (rw [← listF_yes hP0.2 (by omega)] <;> first | rfl | (simp; done)) | (rw [← listE_yes hP0.2 (by omega)] <;> first | rfl | (simp; done))), trivial⟩, trivial⟩, ⟨⟨_, rfl, .inl (ob_bs (by first | rfl | ((try dsimp only); (first | rfl | (rw [listF_no (okT_not1 (s := s) (by omega) (textE_ne (by assumption)))] <;> rfl) | (rw [listE_no (okT_not1 (s := s) (by omega) (textE_ne (by assumption)))]) | (rw [listF_no (okT_not2 (s := s) (by omega) (by omega))] <;> rfl) | (rw [listE_no (okT_not2 (s := s) (by omega) (by omega))]) | (rw [← listF_yes hP0.2 (by omega)] <;> first | rfl | (simp; done)) | (rw [← listE_yes hP0.2 (by omega)] <;> first | rfl | (simp; done))))) (by first | rfl | ((try dsimp only); (first | rfl | (rw [listF_no (okT_not1 (s := s) (by omega) (textE_ne (by assumption)))] <;> rfl) | (rw [listE_no (okT_not1 (s := s) (by omega) (textE_ne (by assumption)))]) | (rw [listF_no (okT_not2 (s := s) (by omega) (by omega))] <;> rfl) | (rw [listE_no (okT_not2 (s := s) (by omega) (by omega))]) | (rw [← listF_yes hP0.2 (by omega)] <;> first | rfl | (simp; done)) | (rw [← listE_yes hP0.2 (by omega)] <;> first | rfl | (simp; done)))))), trivial⟩, trivial⟩⟩
  · have h1 := of_decide_eq_false h1
    refine HT.exit ?_
    show HT _ _ _ _ _
    refine HT.seq ?_
    refine HT.region S_list_ok ?_
    refine So.n (Nat.le_of_ble_eq_true rfl) (A.v rfl (V.mv (v := .own 1 0 _) rfl ?_))
    refine So.n (Nat.le_of_ble_eq_true rfl) (A.call0 [.p (.bs _)] 2 rfl rfl rfl rfl ⟨trivial, trivial⟩ trivial _ ⟨le_full, trivial⟩ trivial (by trivial) (Φ := fun s => (textF s).length ≤ 1048580) (fun s _ => textF_len s) (.inr ⟨fun j hj => by match j, hj with | 0, _ => trivial | 1, _ => trivial, by simp [Hp.scal, OC.scal]⟩) (v := .tup 2 _) rfl (O' := (3, ⟨5, 1, _, true, .bs _⟩) :: _) rfl (fun h5 => ?_))
    try dsimp only at h5
    refine So.n (Nat.le_of_ble_eq_true rfl) (A.v rfl (V.ext rfl (Nat.le_of_ble_eq_true rfl) (v := .own 3 0 _) rfl ?_))
    refine So.n (Nat.le_of_ble_eq_true rfl) (A.v rfl (V.ext rfl (Nat.le_of_ble_eq_true rfl) (v := .p (.v (.int .i64 _))) rfl ?_))
    refine So.n (Nat.le_of_ble_eq_true rfl) (A.v rfl (V.as (v := .own 3 0 _) rfl ?_))
    refine So.n (Nat.le_of_ble_eq_true rfl) (A.v rfl (V.as (v := .p (.v (.int .i64 _))) rfl ?_))
    refine So.e ?_
    show HT _ _ _ _ _
    refine HT.ret ?_
    exact ret_ok (sg [(1, 3)]) h rfl rfl rfl ⟨trivial, trivial⟩ ⟨rfl, trivial, trivial⟩ rfl ⟨⟨⟨le_own2 (by first | rfl | omega) (by first | rfl | (rw [listF_no (okT_not1 (s := s) (by omega) (textE_ne (by assumption)))] <;> rfl) | (rw [listE_no (okT_not1 (s := s) (by omega) (textE_ne (by assumption)))]) | (rw [listF_no (okT_not2 (s := s) (by omega) (by omega))] <;> rfl) | (rw [listE_no (okT_not2 (s := s) (by omega) (by omega))]) | (rw [← listF_yes hP0.2 (by omega)] <;> first | rfl | (simp; done)) | (rw [← listE_yes hP0.2 (by omega)] <;> first | rfl | (simp; done))), rfl⟩, ⟨le_int (by first | rfl | (rw [listF_no (okT_not1 (s := s) (by omega) (textE_ne (by assumption)))] <;> rfl) | (rw [listE_no (okT_not1 (s := s) (by omega) (textE_ne (by assumption)))]) | (rw [listF_no (okT_not2 (s := s) (by omega) (by omega))] <;> rfl) | (rw [listE_no (okT_not2 (s := s) (by omega) (by omega))]) | (rw [← listF_yes hP0.2 (by omega)] <;> first | rfl | (simp; done)) | (rw [← listE_yes hP0.2 (by omega)] <;> first | rfl | (simp; done))), trivial⟩, trivial⟩, ⟨⟨_, rfl, .inl (ob_bs (by first | rfl | ((try dsimp only); (first | rfl | (rw [listF_no (okT_not1 (s := s) (by omega) (textE_ne (by assumption)))] <;> rfl) | (rw [listE_no (okT_not1 (s := s) (by omega) (textE_ne (by assumption)))]) | (rw [listF_no (okT_not2 (s := s) (by omega) (by omega))] <;> rfl) | (rw [listE_no (okT_not2 (s := s) (by omega) (by omega))]) | (rw [← listF_yes hP0.2 (by omega)] <;> first | rfl | (simp; done)) | (rw [← listE_yes hP0.2 (by omega)] <;> first | rfl | (simp; done))))) (by first | rfl | ((try dsimp only); (first | rfl | (rw [listF_no (okT_not1 (s := s) (by omega) (textE_ne (by assumption)))] <;> rfl) | (rw [listE_no (okT_not1 (s := s) (by omega) (textE_ne (by assumption)))]) | (rw [listF_no (okT_not2 (s := s) (by omega) (by omega))] <;> rfl) | (rw [listE_no (okT_not2 (s := s) (by omega) (by omega))]) | (rw [← listF_yes hP0.2 (by omega)] <;> first | rfl | (simp; done)) | (rw [← listE_yes hP0.2 (by omega)] <;> first | rfl | (simp; done)))))), trivial⟩, trivial⟩⟩

/-! ### sodality/wire.GetList -/
def getListSp : Sp := ⟨[], mkE (α := (List UInt8) × Int) (fun (b, i) => [.p (.bs (b)), .p (.v (.int .i64 (i)))]) (fun (b, i) => []) (fun (b, i) => True) (fun (b, i) => [.own 1 (0) ((getListF b i).1.length), .p (.v (.int .i64 ((getListF b i).2.1))), .p (.v (.int .i64 ((getListF b i).2.2)))]) (fun (b, i) => [(1, ⟨22, 1, ((getListF b i).1).length, true, .rows (fun j => .bs (((getListF b i).1).getD j []))⟩)])⟩
def S_getList : FuncId → Option Sp := fun f => if f = 29 then some spanSp else if f = 20 then some getTextSp else none
theorem S_getList_ok : ∀ f s, S_getList f = some s → FOK Tryd.prog gl f s := fun f s h => by
  unfold S_getList at h
  split at h
  · rename_i e; cases h; subst e; exact span_ok
  split at h
  · rename_i e; cases h; subst e; exact getText_ok
  cases h
theorem S_getList_det : ∀ f s, S_getList f = some s → SpDet s.sp := fun f s h => by
  unfold S_getList at h
  split at h
  · cases h; exact mkE_det _ _ _ _ _
  split at h
  · cases h; exact mkE_det _ _ _ _ _
  cases h
set_option maxHeartbeats 1000000 in
theorem getList_ok : FOK Tryd.prog gl 22 getListSp := by
  refine FOK.ofE (tyOf_ok Tryd.prog) (slots := [4, 5, 6]) (nt := 48) Tryd.func22 rfl rfl rfl rfl (by decide) 2 (fun ⟨_, _⟩ => rfl) (by decide) (fun ⟨_, _⟩ => ⟨trivial, trivial, trivial⟩) ?_
  rintro ⟨b, i⟩ kk hlen hpre h
  have hl0 : (b).length ≤ 9223372036854775807 := hlen.1
  replace hpre : True := hpre
  show HT ⟨Tryd.prog, 48, tyOf Tryd.prog, gl, []⟩ _ [(0, .p (.bs (b))), (1, .p (.v (.int .i64 (i))))] [] _
  refine HT.seq ?_
  refine HT.region S_getList_ok ?_
  refine So.n (Nat.le_of_ble_eq_true rfl) (A.v rfl (V.as (v := .p (.v (.slice none 0 0))) rfl ?_))
  refine So.n (Nat.le_of_ble_eq_true rfl) (A.v rfl (V.as (v := .p (.v (.int .i64 (0)))) rfl ?_))
  refine So.n (Nat.le_of_ble_eq_true rfl) (A.v rfl (V.as (v := .p (.v (.int .i64 (0)))) rfl ?_))
  refine So.e ?_
  show HT _ _ _ _ _
  refine HT.seq ?_
  refine HT.region S_getList_ok ?_
  refine So.n (Nat.le_of_ble_eq_true rfl) (A.v rfl (V.mv (v := .p (.bs _)) rfl ?_))
  refine So.n (Nat.le_of_ble_eq_true rfl) (A.v rfl (V.mv (v := .p (.v (.int .i64 _))) rfl ?_))
  refine So.n (Nat.le_of_ble_eq_true rfl) (A.call0 [.p (.bs _), .p (.v (.int .i64 _))] 1 rfl rfl rfl rfl ⟨trivial, trivial, trivial⟩ trivial (_, _) ⟨.refl _, .refl _, trivial⟩ trivial (by trivial) (Φ := fun (b, i) => (spanF b i).2.2 = 0 → 0 ≤ i ∧ i < (spanF b i).1 ∧ (spanF b i).1 ≤ (spanF b i).2.1 ∧ (spanF b i).2.1 ≤ b.length ∧ (spanF b i).2.1 - (spanF b i).1 ≤ 1048576) (fun (b, i) _ => spanF_ok b i) (.inl rfl) (v := .tup 3 _) rfl (O' := _) rfl (fun h1 => ?_))
  try dsimp only at h1
  refine So.n (Nat.le_of_ble_eq_true rfl) (A.v rfl (V.mv (v := .tup 3 _) rfl ?_))
  refine So.n (Nat.le_of_ble_eq_true rfl) (A.v rfl (V.ext rfl (Nat.le_of_ble_eq_true rfl) (v := .p (.v (.int .i64 _))) rfl ?_))
  refine So.n (Nat.le_of_ble_eq_true rfl) (A.v rfl (V.ext rfl (Nat.le_of_ble_eq_true rfl) (v := .p (.v (.int .i64 _))) rfl ?_))
  refine So.n (Nat.le_of_ble_eq_true rfl) (A.v rfl (V.ext rfl (Nat.le_of_ble_eq_true rfl) (v := .p (.v (.int .i64 _))) rfl ?_))
  refine So.n (Nat.le_of_ble_eq_true rfl) (A.v rfl (V.as (v := .p (.v (.int .i64 _))) rfl ?_))
  refine So.n (Nat.le_of_ble_eq_true rfl) (A.v rfl (V.as (v := .p (.v (.int .i64 _))) rfl ?_))
  refine So.n (Nat.le_of_ble_eq_true rfl) (A.v rfl (V.as (v := .p (.v (.int .i64 _))) rfl ?_))
  refine So.e ?_
  show HT _ _ _ _ _
  refine HT.seq ?_
  refine HT.seq ?_
  refine HT.region S_getList_ok ?_
  have hsp := h1
  refine So.n (Nat.le_of_ble_eq_true rfl) (A.v rfl (V.mv (v := .p (.v (.int .i64 _))) rfl ?_))
  refine So.n (Nat.le_of_ble_eq_true rfl) (A.v rfl (V.bin (a := (.v (.int .i64 _))) (b := (.v (.int .i64 (0)))) (r := .v (.bool _)) rfl rfl rfl trivial ?_))
  refine So.e ?_
  show HT _ _ _ _ _
  refine R.cond rfl rfl (fun h2 => ?_) (fun h2 => ?_)
  · have h2 := of_decide_eq_false (bnT h2)
    refine HT.seq ?_
    refine HT.region S_getList_ok ?_
    refine So.n (Nat.le_of_ble_eq_true rfl) (A.v rfl (V.mv (v := .p (.v (.int .i64 _))) rfl ?_))
    refine So.n (Nat.le_of_ble_eq_true rfl) (A.v rfl (V.as (v := .p (.v (.slice none 0 0))) rfl ?_))
    refine So.n (Nat.le_of_ble_eq_true rfl) (A.v rfl (V.as (v := .p (.v (.int .i64 (0)))) rfl ?_))
    refine So.n (Nat.le_of_ble_eq_true rfl) (A.v rfl (V.as (v := .p (.v (.int .i64 _))) rfl ?_))
    refine So.e ?_
    show HT _ _ _ _ _
    refine R.phan 4 1 22 1 (.rows (fun j => .bs (([] : List (List UInt8)).getD j []))) rfl rfl rfl trivial ?_
    refine HT.ret ?_
    exact ret_ok (sg [(1, 1)]) h rfl rfl rfl ⟨trivial, trivial⟩ ⟨rfl, trivial, trivial, trivial⟩ rfl ⟨⟨⟨le_own2 (by first | rfl | omega) (by first | rfl | (intro j hj; (try dsimp only at hj); omega) | (rw [gl_e0 (by omega)] <;> rfl) | (rw [gl_e1 (by omega) hP0 (by assumption) (by assumption)] <;> rfl) | (rw [gl_fin (by omega) hP0 (by assumption)] <;> rfl) | (intro j hj; rw [gl_fin (by omega) hP0 (by assumption)])), rfl⟩, ⟨le_int (by first | rfl | (intro j hj; (try dsimp only at hj); omega) | (rw [gl_e0 (by omega)] <;> rfl) | (rw [gl_e1 (by omega) hP0 (by assumption) (by assumption)] <;> rfl) | (rw [gl_fin (by omega) hP0 (by assumption)] <;> rfl) | (intro j hj; rw [gl_fin (by omega) hP0 (by assumption)])), trivial⟩, ⟨le_int (by first | rfl | (intro j hj; (try dsimp only at hj); omega) | (rw [gl_e0 (by omega)] <;> rfl) | (rw [gl_e1 (by omega) hP0 (by assumption) (by assumption)] <;> rfl) | (rw [gl_fin (by omega) hP0 (by assumption)] <;> rfl) | (intro j hj; rw [gl_fin (by omega) hP0 (by assumption)])), trivial⟩, trivial⟩, ⟨⟨_, rfl, .inr (ob_rows (by first | rfl | ((try dsimp only); (first | rfl | (intro j hj; (try dsimp only at hj); omega) | (rw [gl_e0 (by omega)] <;> rfl) | (rw [gl_e1 (by omega) hP0 (by assumption) (by assumption)] <;> rfl) | (rw [gl_fin (by omega) hP0 (by assumption)] <;> rfl) | (intro j hj; rw [gl_fin (by omega) hP0 (by assumption)])))) (by first | rfl | ((try dsimp only); (first | rfl | (intro j hj; (try dsimp only at hj); omega) | (rw [gl_e0 (by omega)] <;> rfl) | (rw [gl_e1 (by omega) hP0 (by assumption) (by assumption)] <;> rfl) | (rw [gl_fin (by omega) hP0 (by assumption)] <;> rfl) | (intro j hj; rw [gl_fin (by omega) hP0 (by assumption)]))))), trivial⟩, trivial⟩⟩
  · have h2 := of_decide_eq_true (bnF h2)
    refine HT.skip ?_
    show HT _ _ _ _ _
    refine HT.seq ?_
    refine HT.region S_getList_ok ?_
    refine So.n (Nat.le_of_ble_eq_true rfl) (A.v rfl (V.as (v := .p (.v (.slice none 0 0))) rfl ?_))
    refine So.e ?_
    show HT _ _ _ _ _
    refine HT.seq ?_
    refine HT.region S_getList_ok ?_
    refine So.n (Nat.le_of_ble_eq_true rfl) (A.v rfl (V.mv (v := .p (.bs _)) rfl ?_))
    refine So.n (Nat.le_of_ble_eq_true rfl) (A.v rfl (V.mv (v := .p (.v (.int .i64 _))) rfl ?_))
    refine So.n (Nat.le_of_ble_eq_true rfl) (A.v rfl (V.mv (v := .p (.v (.int .i64 _))) rfl ?_))
    refine So.n (Nat.le_of_ble_eq_true rfl) (A.v rfl (V.cutBs ty22 ty5 rfl rfl rfl rfl (by omega) (.inl rfl) rfl ?_))
    refine So.n (Nat.le_of_ble_eq_true rfl) (A.v rfl (V.as (v := .p (.bs _)) rfl ?_))
    refine So.e ?_
    show HT _ _ _ _ _
    refine HT.seq ?_
    refine HT.seq ?_
    refine HT.region S_getList_ok ?_
    refine So.n (Nat.le_of_ble_eq_true rfl) (A.v rfl (V.as (v := .p (.v (.int .i64 (0)))) rfl ?_))
    refine So.e ?_
    show HT _ _ _ _ _
    refine HT.block ?_
    refine R.phan 10 1 22 1 (.rows (fun j => .bs (([] : List (List UInt8)).getD j []))) rfl rfl rfl trivial ?_
    refine R.loop (σ := List (List UInt8) × Int) (fun s => [(9, .p (.v (.int .i64 (0)))), (10, .own 1 (0) (s.1.length)), (12, .p (.v (.int .i64 (s.2))))]) (fun s => [(1, ⟨22, 1, (s.1).length, true, .rows (fun j => .bs ((s.1).getD j []))⟩)]) [8, 11] [] (fun s => PL (((b.take (spanF b i).2.1.toNat).drop (spanF b i).1.toNat)) s) (fun s => ((((b.take (spanF b i).2.1.toNat).drop (spanF b i).1.toNat)).length - s.2).toNat) (([], 0)) (fr0 := [(8, .p (.v (.int .i64 _))), (11, .p (.bs _))]) (O0 := []) rfl rfl (by exact PL_0 _) ⟨⟨⟨le_int (by first | rfl | omega | (simp; done) | (simp; omega)), trivial⟩, ⟨le_own2 (by first | rfl | omega) (by first | rfl | omega | (simp; done) | (simp; omega)), rfl⟩, ⟨le_int (by first | rfl | omega | (simp; done) | (simp; omega)), trivial⟩, ⟨.refl _, trivial⟩, ⟨.refl _, trivial⟩, trivial⟩, ⟨⟨_, rfl, .inr (ob_rows (by first | rfl | ((try dsimp only); first | rfl | omega | (simp; done) | (simp; omega))) (by first | rfl | ((try dsimp only); first | rfl | omega | (simp; done) | (simp; omega)))), trivial⟩, trivial⟩⟩ (fun s hP0 => ?_)
    obtain ⟨hq1, hq2, hq3, hq4⟩ := hP0
    have hP0 : PL (((b.take (spanF b i).2.1.toNat).drop (spanF b i).1.toNat)) s := ⟨hq1, hq2, hq3, hq4⟩
    have hal : (((b.take (spanF b i).2.1.toNat).drop (spanF b i).1.toNat)).length ≤ 1048576 := by have := hsp (by omega); simp only [List.length_drop, List.length_take]; omega
    refine HT.seq ?_
    refine HT.seq ?_
    refine HT.region S_getList_ok ?_
    refine So.n (Nat.le_of_ble_eq_true rfl) (A.v rfl (V.mv (v := .p (.v (.int .i64 _))) rfl ?_))
    refine So.n (Nat.le_of_ble_eq_true rfl) (A.v rfl (V.mv (v := .p (.bs _)) rfl ?_))
    refine So.n (Nat.le_of_ble_eq_true rfl) (A.v rfl (V.len ty22 (v := .p (.bs _)) rfl rfl ?_))
    refine So.n (Nat.le_of_ble_eq_true rfl) (A.v rfl (V.bin (a := (.v (.int .i64 _))) (b := (.v (.int .i64 _))) (r := .v (.bool _)) rfl rfl rfl trivial ?_))
    refine So.e ?_
    show HT _ _ _ _ _
    refine R.cond rfl rfl (fun h3 => ?_) (fun h3 => ?_)
    · have h3 := of_decide_eq_true h3
      refine HT.skip ?_
      show HT _ _ _ _ _
      refine HT.block ?_
      refine HT.seq ?_
      refine HT.region S_getList_ok ?_
      refine So.n (Nat.le_of_ble_eq_true rfl) (A.v rfl (V.as (v := .p (.v (.slice none 0 0))) rfl ?_))
      refine So.e ?_
      show HT _ _ _ _ _
      refine HT.seq ?_
      refine HT.seq ?_
      refine HT.region S_getList_ok ?_
      refine So.n (Nat.le_of_ble_eq_true rfl) (A.v rfl (V.mv (v := .p (.bs _)) rfl ?_))
      refine So.n (Nat.le_of_ble_eq_true rfl) (A.v rfl (V.mv (v := .p (.v (.int .i64 _))) rfl ?_))
      refine So.n (Nat.le_of_ble_eq_true rfl) (A.call0 [.p (.bs _), .p (.v (.int .i64 _))] 2 rfl rfl rfl rfl ⟨trivial, trivial, trivial⟩ trivial (_, _) ⟨.refl _, .refl _, trivial⟩ trivial (by trivial) (Φ := fun (b, i) => ((getTextF b i).2.2 = 0 → 0 ≤ i ∧ i < (getTextF b i).2.1 ∧ (getTextF b i).2.1 ≤ b.length) ∧ (getTextF b i).1.length ≤ 1048576) (fun (b, i) _ => ⟨getTextF_ok b i, getTextF_len b i⟩) (.inl rfl) (v := .tup 3 _) rfl (O' := (3, ⟨5, 1, _, true, .bs _⟩) :: _) rfl (fun h4 => ?_))
      try dsimp only at h4
      refine So.n (Nat.le_of_ble_eq_true rfl) (A.v rfl (V.mv (v := .tup 3 _) rfl ?_))
      refine So.n (Nat.le_of_ble_eq_true rfl) (A.v rfl (V.ext rfl (Nat.le_of_ble_eq_true rfl) (v := .own 3 0 _) rfl ?_))
      refine So.n (Nat.le_of_ble_eq_true rfl) (A.v rfl (V.ext rfl (Nat.le_of_ble_eq_true rfl) (v := .p (.v (.int .i64 _))) rfl ?_))
      refine So.n (Nat.le_of_ble_eq_true rfl) (A.v rfl (V.ext rfl (Nat.le_of_ble_eq_true rfl) (v := .p (.v (.int .i64 _))) rfl ?_))
      refine So.n (Nat.le_of_ble_eq_true rfl) (A.v rfl (V.as (v := .own 3 0 _) rfl ?_))
      refine So.n (Nat.le_of_ble_eq_true rfl) (A.v rfl (V.as (v := .p (.v (.int .i64 _))) rfl ?_))
      refine So.n (Nat.le_of_ble_eq_true rfl) (A.v rfl (V.as (v := .p (.v (.int .i64 _))) rfl ?_))
      refine So.e ?_
      show HT _ _ _ _ _
      refine HT.seq ?_
      refine HT.region S_getList_ok ?_
      refine So.n (Nat.le_of_ble_eq_true rfl) (A.v rfl (V.mv (v := .p (.v (.int .i64 _))) rfl ?_))
      refine So.n (Nat.le_of_ble_eq_true rfl) (A.v rfl (V.bin (a := (.v (.int .i64 _))) (b := (.v (.int .i64 (0)))) (r := .v (.bool _)) rfl rfl rfl trivial ?_))
      refine So.e ?_
      show HT _ _ _ _ _
      refine R.cond rfl rfl (fun h5 => ?_) (fun h5 => ?_)
      · have h5 := of_decide_eq_false (bnT h5)
        refine HT.seq ?_
        refine HT.region S_getList_ok ?_
        refine So.n (Nat.le_of_ble_eq_true rfl) (A.v rfl (V.mv (v := .p (.v (.int .i64 _))) rfl ?_))
        refine So.n (Nat.le_of_ble_eq_true rfl) (A.v rfl (V.as (v := .p (.v (.slice none 0 0))) rfl ?_))
        refine So.n (Nat.le_of_ble_eq_true rfl) (A.v rfl (V.as (v := .p (.v (.int .i64 (0)))) rfl ?_))
        refine So.n (Nat.le_of_ble_eq_true rfl) (A.v rfl (V.as (v := .p (.v (.int .i64 _))) rfl ?_))
        refine So.e ?_
        show HT _ _ _ _ _
        refine R.phan 4 4 22 1 (.rows (fun j => .bs (([] : List (List UInt8)).getD j []))) rfl rfl rfl trivial ?_
        refine HT.ret ?_
        exact ret_ok (sg [(1, 4)]) h rfl rfl rfl ⟨trivial, trivial⟩ ⟨rfl, trivial, trivial, trivial⟩ rfl ⟨⟨⟨le_own2 (by first | rfl | omega) (by first | rfl | (intro j hj; (try dsimp only at hj); omega) | (rw [gl_e0 (by omega)] <;> rfl) | (rw [gl_e1 (by omega) hP0 (by assumption) (by assumption)] <;> rfl) | (rw [gl_fin (by omega) hP0 (by assumption)] <;> rfl) | (intro j hj; rw [gl_fin (by omega) hP0 (by assumption)])), rfl⟩, ⟨le_int (by first | rfl | (intro j hj; (try dsimp only at hj); omega) | (rw [gl_e0 (by omega)] <;> rfl) | (rw [gl_e1 (by omega) hP0 (by assumption) (by assumption)] <;> rfl) | (rw [gl_fin (by omega) hP0 (by assumption)] <;> rfl) | (intro j hj; rw [gl_fin (by omega) hP0 (by assumption)])), trivial⟩, ⟨le_int (by first | rfl | (intro j hj; (try dsimp only at hj); omega) | (rw [gl_e0 (by omega)] <;> rfl) | (rw [gl_e1 (by omega) hP0 (by assumption) (by assumption)] <;> rfl) | (rw [gl_fin (by omega) hP0 (by assumption)] <;> rfl) | (intro j hj; rw [gl_fin (by omega) hP0 (by assumption)])), trivial⟩, trivial⟩, ⟨⟨_, rfl, .inr (ob_rows (by first | rfl | ((try dsimp only); (first | rfl | (intro j hj; (try dsimp only at hj); omega) | (rw [gl_e0 (by omega)] <;> rfl) | (rw [gl_e1 (by omega) hP0 (by assumption) (by assumption)] <;> rfl) | (rw [gl_fin (by omega) hP0 (by assumption)] <;> rfl) | (intro j hj; rw [gl_fin (by omega) hP0 (by assumption)])))) (by first | rfl | ((try dsimp only); (first | rfl | (intro j hj; (try dsimp only at hj); omega) | (rw [gl_e0 (by omega)] <;> rfl) | (rw [gl_e1 (by omega) hP0 (by assumption) (by assumption)] <;> rfl) | (rw [gl_fin (by omega) hP0 (by assumption)] <;> rfl) | (intro j hj; rw [gl_fin (by omega) hP0 (by assumption)]))))), trivial⟩, trivial⟩⟩
      · have h5 := of_decide_eq_true (bnF h5)
        refine HT.skip ?_
        show HT _ _ _ _ _
        refine HT.region S_getList_ok ?_
        refine So.n (Nat.le_of_ble_eq_true rfl) (A.v rfl (V.mv (v := .own 1 0 _) rfl ?_))
        refine So.n (Nat.le_of_ble_eq_true rfl) (A.v rfl (V.mv (v := .own 3 0 _) rfl ?_))
        refine So.n (Nat.le_of_ble_eq_true rfl) (A.bsl 2 ty34 ty22 rfl (Nat.le_of_ble_eq_true rfl) (Nat.le_of_ble_eq_true rfl) (fun _ => rfl) rfl rfl trivial ⟨trivial, trivial⟩ rfl (N := 1) rfl (c := .rows _) rfl ?_)
        refine So.n (Nat.le_of_ble_eq_true rfl) (A.apRows1 ty34 ty22 rfl rfl rfl rfl (Nat.le_of_ble_eq_true rfl) rfl rfl (u := .own 2 0 _) rfl rfl (by intro j hj; match j, hj with | 0, _ => trivial) rfl (by first | rfl | omega | (simp; done) | (simp; omega)) rfl rfl rfl ?_)
        refine So.n (Nat.le_of_ble_eq_true rfl) (A.v rfl (V.as (v := .own 1 0 _) rfl ?_))
        refine So.e ?_
        refine ⟨(s.1 ++ [(getTextF (((b.take (spanF b i).2.1.toNat).drop (spanF b i).1.toNat)) s.2).1], (getTextF (((b.take (spanF b i).2.1.toNat).drop (spanF b i).1.toNat)) s.2).2.1), by exact PL_step hP0 (by assumption) (by omega), by (dsimp only; omega), ⟨⟨⟨le_int (by omega), trivial⟩, ⟨le_own2 (by first | rfl | omega) (by simp), rfl⟩, ⟨le_int (by rfl), trivial⟩, ⟨.refl _, trivial⟩, ⟨.refl _, trivial⟩, trivial⟩, ⟨⟨_, rfl, .inr (ob_rows (by first | rfl | ((try dsimp only); first | (simp; done) | (intro j hj; simp only [List.drop_zero, List.take_length]; exact rows_snoc (emb := PV.bs) (d0 := []) (g := fun k => [PV.bs (getTextF (((b.take (spanF b i).2.1.toNat).drop (spanF b i).1.toNat)) s.2).1].getD (0 + k) (.v undef)) rfl rfl j hj))) (by first | rfl | ((try dsimp only); first | (simp; done) | (intro j hj; simp only [List.drop_zero, List.take_length]; exact rows_snoc (emb := PV.bs) (d0 := []) (g := fun k => [PV.bs (getTextF (((b.take (spanF b i).2.1.toNat).drop (spanF b i).1.toNat)) s.2).1].getD (0 + k) (.v undef)) rfl rfl j hj)))), trivial⟩, trivial⟩⟩⟩
    · have h3 := of_decide_eq_false h3
      refine HT.exit ?_
      show HT _ _ _ _ _
      refine HT.seq ?_
      refine HT.region S_getList_ok ?_
      refine So.n (Nat.le_of_ble_eq_true rfl) (A.v rfl (V.mv (v := .own 1 0 _) rfl ?_))
      refine So.n (Nat.le_of_ble_eq_true rfl) (A.v rfl (V.mv (v := .p (.v (.int .i64 _))) rfl ?_))
      refine So.n (Nat.le_of_ble_eq_true rfl) (A.v rfl (V.as (v := .own 1 0 _) rfl ?_))
      refine So.n (Nat.le_of_ble_eq_true rfl) (A.v rfl (V.as (v := .p (.v (.int .i64 _))) rfl ?_))
      refine So.n (Nat.le_of_ble_eq_true rfl) (A.v rfl (V.as (v := .p (.v (.int .i64 (0)))) rfl ?_))
      refine So.e ?_
      show HT _ _ _ _ _
      refine HT.ret ?_
      exact ret_ok (sg [(1, 1)]) h rfl rfl rfl ⟨trivial, trivial⟩ ⟨rfl, trivial, trivial, trivial⟩ rfl ⟨⟨⟨le_own2 (by first | rfl | omega) (by first | rfl | (intro j hj; (try dsimp only at hj); omega) | (rw [gl_e0 (by omega)] <;> rfl) | (rw [gl_e1 (by omega) hP0 (by assumption) (by assumption)] <;> rfl) | (rw [gl_fin (by omega) hP0 (by assumption)] <;> rfl) | (intro j hj; rw [gl_fin (by omega) hP0 (by assumption)])), rfl⟩, ⟨le_int (by first | rfl | (intro j hj; (try dsimp only at hj); omega) | (rw [gl_e0 (by omega)] <;> rfl) | (rw [gl_e1 (by omega) hP0 (by assumption) (by assumption)] <;> rfl) | (rw [gl_fin (by omega) hP0 (by assumption)] <;> rfl) | (intro j hj; rw [gl_fin (by omega) hP0 (by assumption)])), trivial⟩, ⟨le_int (by first | rfl | (intro j hj; (try dsimp only at hj); omega) | (rw [gl_e0 (by omega)] <;> rfl) | (rw [gl_e1 (by omega) hP0 (by assumption) (by assumption)] <;> rfl) | (rw [gl_fin (by omega) hP0 (by assumption)] <;> rfl) | (intro j hj; rw [gl_fin (by omega) hP0 (by assumption)])), trivial⟩, trivial⟩, ⟨⟨_, rfl, .inr (ob_rows (by first | rfl | ((try dsimp only); (first | rfl | (intro j hj; (try dsimp only at hj); omega) | (rw [gl_e0 (by omega)] <;> rfl) | (rw [gl_e1 (by omega) hP0 (by assumption) (by assumption)] <;> rfl) | (rw [gl_fin (by omega) hP0 (by assumption)] <;> rfl) | (intro j hj; rw [gl_fin (by omega) hP0 (by assumption)])))) (by first | rfl | ((try dsimp only); (first | rfl | (intro j hj; (try dsimp only at hj); omega) | (rw [gl_e0 (by omega)] <;> rfl) | (rw [gl_e1 (by omega) hP0 (by assumption) (by assumption)] <;> rfl) | (rw [gl_fin (by omega) hP0 (by assumption)] <;> rfl) | (intro j hj; rw [gl_fin (by omega) hP0 (by assumption)]))))), trivial⟩, trivial⟩⟩

end Go.Vw
