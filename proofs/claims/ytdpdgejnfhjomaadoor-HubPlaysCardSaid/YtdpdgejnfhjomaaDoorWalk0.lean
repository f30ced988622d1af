/- What is proved: each function of the seat's program does what its contract says, wherever it is called; no condition. -/
import Derived.Test.YtdpdgejnfhjomaaDoorPure0
import Derived.Test.YtdpdgejnfhjomaaDoorFrame2
import Derived.Test.YtdpdgejnfhjomaaDoorProg
set_option linter.unusedVariables false
set_option linter.unusedSimpArgs false
set_option maxHeartbeats 4000000
set_option maxRecDepth 40000
namespace Go.Vh
open Go Go.Vc Go.Proofs Go.Vw
def gl : Nat -> Option (Nat × (Nat -> GV)) := fun g => if g = 0 then some (3, fun j => .v (.int .i64 (([6, 14, 30] : List Int).getD j 0))) else none
theorem mixed : Tryd.prog.follows .mixedOrders = true := by kernel_rfl
theorem ty2 : tyOf Tryd.prog 2 = some ⟨.int .i64, 1, 8, some (fun _ => .int .i64 0)⟩ := by kernel_rfl
theorem ty3 : tyOf Tryd.prog 3 = some ⟨.int .i64, 1, 8, some (fun _ => .int .i64 0)⟩ := by kernel_rfl
theorem ty4 : tyOf Tryd.prog 4 = some ⟨.bool, 1, 1, some (fun _ => .bool false)⟩ := by kernel_rfl
theorem ty5 : tyOf Tryd.prog 5 = some ⟨.int .u8, 1, 1, some (fun _ => .int .u8 0)⟩ := by kernel_rfl
theorem ty9 : tyOf Tryd.prog 9 = some ⟨.string, 1, 16, some (fun _ => .string ⟨#[]⟩)⟩ := by kernel_rfl
theorem ty22 : tyOf Tryd.prog 22 = some ⟨.slice 23, 1, 24, some (fun _ => .slice none 0 0)⟩ := by kernel_rfl
theorem ty23 : tyOf Tryd.prog 23 = some ⟨.slice 5, 1, 24, some (fun _ => .slice none 0 0)⟩ := by kernel_rfl
theorem ty25 : tyOf Tryd.prog 25 = some ⟨.pointer 63, 1, 8, some (fun _ => .pointer none)⟩ := by kernel_rfl
theorem ty27 : tyOf Tryd.prog 27 = some ⟨.int .i64, 1, 8, some (fun _ => .int .i64 0)⟩ := by kernel_rfl
theorem ty30 : tyOf Tryd.prog 30 = some ⟨.slice 4, 1, 24, some (fun _ => .slice none 0 0)⟩ := by kernel_rfl
theorem ty36 : tyOf Tryd.prog 36 = some ⟨.struct [(0, 23), (1, 2), (2, 3), (3, 3), (4, 23)], 5, 72, some (fun j => ([.slice none 0 0, .int .i64 0, .int .i64 0, .int .i64 0, .slice none 0 0] : List Value).getD j undef)⟩ := by kernel_rfl
theorem ty39 : tyOf Tryd.prog 39 = some ⟨.slice 42, 1, 24, some (fun _ => .slice none 0 0)⟩ := by kernel_rfl
theorem ty42 : tyOf Tryd.prog 42 = some ⟨.struct [(0, 3), (1, 36), (6, 23), (7, 3)], 8, 112, some (fun j => ([.int .i64 0, .slice none 0 0, .int .i64 0, .int .i64 0, .int .i64 0, .slice none 0 0, .slice none 0 0, .int .i64 0] : List Value).getD j undef)⟩ := by kernel_rfl
theorem ty45 : tyOf Tryd.prog 45 = some ⟨.struct [(0, 3), (1, 2), (2, 23)], 3, 40, some (fun j => ([.int .i64 0, .int .i64 0, .slice none 0 0] : List Value).getD j undef)⟩ := by kernel_rfl
theorem ty49 : tyOf Tryd.prog 49 = some ⟨.struct [(0, 36), (5, 23), (6, 23), (7, 23)], 8, 144, some (fun j => ([.slice none 0 0, .int .i64 0, .int .i64 0, .int .i64 0, .slice none 0 0, .slice none 0 0, .slice none 0 0, .slice none 0 0] : List Value).getD j undef)⟩ := by kernel_rfl
theorem ty53 : tyOf Tryd.prog 53 = some ⟨.pointer 58, 1, 8, some (fun _ => .pointer none)⟩ := by kernel_rfl
theorem ty56 : tyOf Tryd.prog 56 = some ⟨.slice 45, 1, 24, some (fun _ => .slice none 0 0)⟩ := by kernel_rfl
theorem ty58 : tyOf Tryd.prog 58 = some ⟨.struct [(0, 23), (1, 2), (2, 56), (3, 22), (4, 30)], 5, 104, some (fun j => ([.slice none 0 0, .int .i64 0, .slice none 0 0, .slice none 0 0, .slice none 0 0] : List Value).getD j undef)⟩ := by kernel_rfl
theorem ty61 : tyOf Tryd.prog 61 = some ⟨.slice 64, 1, 24, some (fun _ => .slice none 0 0)⟩ := by kernel_rfl
theorem ty63 : tyOf Tryd.prog 63 = some ⟨.struct [(0, 23), (1, 2), (2, 56), (3, 61)], 4, 80, some (fun j => ([.slice none 0 0, .int .i64 0, .slice none 0 0, .slice none 0 0] : List Value).getD j undef)⟩ := by kernel_rfl
theorem ty64 : tyOf Tryd.prog 64 = some ⟨.pointer 23, 1, 8, some (fun _ => .pointer none)⟩ := by kernel_rfl
theorem ty69 : tyOf Tryd.prog 69 = some ⟨.struct [(0, 23), (1, 2), (2, 3), (3, 2), (4, 23)], 5, 72, some (fun j => ([.slice none 0 0, .int .i64 0, .int .i64 0, .int .i64 0, .slice none 0 0] : List Value).getD j undef)⟩ := by kernel_rfl
theorem ty72 : tyOf Tryd.prog 72 = some ⟨.struct [(0, 23), (1, 3), (2, 27)], 3, 40, some (fun j => ([.slice none 0 0, .int .i64 0, .int .i64 0] : List Value).getD j undef)⟩ := by kernel_rfl
theorem ty75 : tyOf Tryd.prog 75 = some ⟨.struct [(0, 23), (1, 2), (2, 3)], 3, 40, some (fun j => ([.slice none 0 0, .int .i64 0, .int .i64 0] : List Value).getD j undef)⟩ := by kernel_rfl
theorem ty86 : tyOf Tryd.prog 86 = some ⟨.struct [(0, 23)], 1, 24, some (fun _ => .slice none 0 0)⟩ := by kernel_rfl
theorem ty101 : tyOf Tryd.prog 101 = some ⟨.struct [(0, 23), (1, 3), (2, 27)], 3, 40, some (fun j => ([.slice none 0 0, .int .i64 0, .int .i64 0] : List Value).getD j undef)⟩ := by kernel_rfl
theorem ty116 : tyOf Tryd.prog 116 = some ⟨.array 3 3, 3, 24, some (fun _ => .int .i64 0)⟩ := by kernel_rfl
theorem ty117 : tyOf Tryd.prog 117 = some ⟨.int .u64, 1, 8, some (fun _ => .int .u64 0)⟩ := by kernel_rfl
def fitsSp : Sp := ⟨[], mkE (α := Int) (fun n => [.p (.v (.int .i64 n))]) (fun n => []) (fun n => True) (fun n => [.p (.v (.bool (fitsF n)))]) (fun n => [])⟩
def S_fits : FuncId -> Option Sp := fun _ => none
theorem S_fits_ok : ∀ f s, S_fits f = some s -> FOK Tryd.prog gl f s := fun f s h => by cases h
theorem fits_ok : FOK Tryd.prog gl 66 fitsSp := by
 refine FOK.ofE (tyOf_ok Tryd.prog) (slots := [2]) (nt := 9) Tryd.func66 rfl rfl rfl rfl (by decide) 1 (fun _ => rfl) (by decide) (fun _ => ⟨trivial, trivial⟩) ?_
 rintro n kk hlen hpre h
 replace hpre : True := hpre
 show HT (cx Tryd.prog 9 (tyOf Tryd.prog) gl []) _ [(0, .p (.v (.int .i64 n)))] [] _
 refine HT.seq (HT.region S_fits_ok (Sq (V.as (v := .p (.v (.bool false))) rfl (So.e (HT.seq (HT.seq (HT.region S_fits_ok (Sq (V.mi rfl (So.e (HT.block (HT.seq (HT.seq (HT.region S_fits_ok (Sq (V.bin (a := .v (.int .i64 _)) (b := .v (.int .i64 1)) (r := .v (.bool _)) rfl rfl rfl trivial (Sq (V.as (v := .p (.v (.bool _))) rfl (So.e ?_)))))))))))))))))))
 refine R.cd rfl rfl (fun h1 => ?_) (fun h1 => ?_)
 ·refine HT.skip ?_
  refine R.condT rfl ?_
  refine HT.seq (HT.region S_fits_ok (Sq (V.as (v := .p (.v (.bool true))) rfl (So.e ?_))))
  refine HT.ret ?_
  exact rt1 h (le_bool (by exact fits_t (by omega)))
 ·refine HT.seq (HT.region S_fits_ok (Sq (V.bin (a := .v (.int .i64 _)) (b := .v (.int .i64 2)) (r := .v (.bool _)) rfl rfl rfl trivial (Sq (V.as (v := .p (.v (.bool _))) rfl (So.e ?_))))))
  refine R.cd rfl rfl (fun h2 => ?_) (fun h2 => ?_)
  ·refine HT.skip ?_
   refine R.condT rfl ?_
   refine HT.seq (HT.region S_fits_ok (Sq (V.as (v := .p (.v (.bool true))) rfl (So.e ?_))))
   refine HT.ret ?_
   exact rt1 h (le_bool (by exact fits_t (by omega)))
  ·refine HT.seq (HT.region S_fits_ok (Sq (V.bin (a := .v (.int .i64 _)) (b := .v (.int .i64 4)) (r := .v (.bool _)) rfl rfl rfl trivial (Sq (V.as (v := .p (.v (.bool _))) rfl (So.e ?_))))))
   refine R.cd rfl rfl (fun h3 => ?_) (fun h3 => ?_)
   ·refine HT.skip ?_
    refine R.condT rfl ?_
    refine HT.seq (HT.region S_fits_ok (Sq (V.as (v := .p (.v (.bool true))) rfl (So.e ?_))))
    refine HT.ret ?_
    exact rt1 h (le_bool (by exact fits_t (by omega)))
   ·refine HT.region S_fits_ok (Sq (V.bin (a := .v (.int .i64 _)) (b := .v (.int .i64 8)) (r := .v (.bool _)) rfl rfl rfl trivial (Sq (V.as (v := .p (.v (.bool _))) rfl (So.e ?_)))))
    refine R.cd rfl rfl (fun h4 => ?_) (fun h4 => ?_)
    ·refine HT.seq (HT.region S_fits_ok (Sq (V.as (v := .p (.v (.bool true))) rfl (So.e ?_))))
     refine HT.ret ?_
     exact rt1 h (le_bool (by exact fits_t (by omega)))
    ·refine HT.skip (HT.seq (HT.region S_fits_ok (Sq (V.as (v := .p (.v (.bool false))) rfl (So.e ?_)))))
     refine HT.ret ?_
     exact rt1 h (le_bool (by exact fits_f (by omega)))
def numSp : Sp := ⟨[], mkE (α := Int × Int) (fun (n, k) => [.p (.v (.int .i64 n)), .p (.v (.int .i64 k))]) (fun (n, k) => []) (fun (n, k) => True) (fun (n, k) => [.own 1 0 ((numF n k).length)]) (fun (n, k) => [(1, ⟨5, 1, (numF n k).length, true, .bs (numF n k)⟩)])⟩
def S_num : FuncId -> Option Sp := fun f => if f = 66 then some fitsSp else none
theorem S_num_ok : ∀ f s, S_num f = some s -> FOK Tryd.prog gl f s := sI fits_ok sN
theorem num_ok : FOK Tryd.prog gl 71 numSp := by
 refine FOK.ofE (tyOf_ok Tryd.prog) (slots := [4]) (nt := 45) Tryd.func71 rfl rfl rfl rfl (by decide) 2 (fun ⟨_, _⟩ => rfl) (by decide) (fun ⟨_, _⟩ => ⟨trivial, trivial, trivial⟩) ?_
 rintro ⟨n, k⟩ kk hlen hpre h
 replace hpre : True := hpre
 show HT (cx Tryd.prog 45 (tyOf Tryd.prog) gl []) _ [(0, .p (.v (.int .i64 n))), (1, .p (.v (.int .i64 k)))] [] _
 refine HT.seq (HT.region S_num_ok (Sq (V.as (v := .p (.v (.slice none 0 0))) rfl (So.e (HT.seq (HT.seq (HT.region S_num_ok (Sq (V.mv (v := .p (.v (.int .i64 _))) rfl ?_)))))))))
 refine So.n (lk rfl) (A.call0 [.p (.v (.int .i64 _))] 1 rfl rfl rfl rfl ⟨trivial, trivial⟩ trivial _ ⟨.refl _, trivial⟩ trivial (by trivial) tT (.inl rfl) (v := .p (.v (.bool _))) rfl (O' := _) rfl (fun h1 => ?_))
 refine Sq (V.not rfl (Sq (V.mv (v := .p (.v (.bool _))) rfl ?_)))
 refine So.gd rfl rfl (lk rfl) (lk rfl) (fun h2 => ?_) (fun h2 => ?_)
 ·have h2 := fitsT (bnF h2)
  refine A.v rfl (V.mi rfl (So.gy rfl rfl (lk rfl) (lk rfl) (A.v rfl (V.bin (a := .v (.int .i64 _)) (b := .v (.int .i64 0)) (r := .v (.bool _)) rfl rfl rfl trivial (Sq (V.pkFalse (u := .p (.v (.bool _))) rfl rfl (Sq (V.mv (v := .p (.v (.bool _))) rfl ?_))))))))
  refine So.gd rfl rfl (lk rfl) (lk rfl) (fun h3 => ?_) (fun h3 => ?_)
  ·have h3 := of_decide_eq_false h3
   refine A.v rfl (V.mi rfl (So.gy rfl rfl (lk rfl) (lk rfl) (A.v rfl (V.bin (a := .v (.int .i64 _)) (b := .v (.int .i64 8)) (r := .v (.bool _)) rfl rfl rfl trivial (So.gy rfl rfl (lk rfl) (lk rfl) (A.v rfl (V.mv (v := .p (.v (.bool _))) rfl ?_)))))))
   refine So.gd rfl rfl (lk rfl) (lk rfl) (fun h4 => ?_) (fun h4 => ?_)
   ·have h4 := of_decide_eq_true h4
    refine A.v rfl (V.mi rfl (So.gy rfl rfl (lk rfl) (lk rfl) (A.v rfl (V.mi rfl (So.gy rfl rfl (lk rfl) (lk rfl) (A.v rfl (V.mulI rfl rfl (by omega) (So.gy rfl rfl (lk rfl) (lk rfl) (A.v rfl (V.bin (a := .v (.int .i64 1)) (b := .v (.int .i64 _)) (r := .v (.int .i64 _)) rfl rfl rfl (by omega) (So.gy rfl rfl (lk rfl) (lk rfl) (A.v rfl (V.bin (a := .v (.int .i64 _)) (b := .v (.int .i64 _)) (r := .v (.bool _)) rfl rfl rfl trivial (So.gy rfl rfl (lk rfl) (lk rfl) (A.v rfl (V.pkTrue (u := .p (.v (.bool _))) rfl rfl (Sq (V.pkFalse (u := .p (.v (.bool _))) rfl rfl (So.e ?_)))))))))))))))))))
    refine R.cd rfl rfl (fun h5 => ?_) (fun h5 => ?_)
    ·refine HT.seq (HT.region S_num_ok (Sq (V.as (v := .p (.v (.slice none 0 0))) rfl (So.e ?_))))
     refine R.phan 4 1 5 1 (.bs []) rfl rfl rfl ⟨rfl, rfl⟩ ?_
     refine HT.ret ?_
     exact ret_ok (sg [(1, 1)]) h rfl rfl rfl ⟨trivial, trivial⟩ ⟨rfl, trivial⟩ rfl ⟨⟨⟨le_own2 (by rfl) (by (rw [numF_big (by omega) (by omega)] <;> rfl)), rfl⟩, trivial⟩, ⟨⟨_, rfl, .inl (ob_bs (by ((try dsimp only); ((rw [numF_big (by omega) (by omega)] <;> rfl)))) (by ((try dsimp only); ((rw [numF_big (by omega) (by omega)] <;> rfl))))), trivial⟩, trivial⟩⟩
    ·refine HT.skip (HT.seq (HT.region S_num_ok (Sq (V.mi rfl (So.n (lk rfl) (A.mkB 1 ty23 ty5 rfl rfl rfl (by omega) rfl rfl trivial (Sq (V.as (v := .own 1 0 _) rfl (So.e (HT.seq (HT.seq (HT.region S_num_ok (Sq (V.mv (v := .own 1 0 _) rfl (Sq (V.len ty23 (v := .own 1 0 _) rfl rfl (Sq (V.mv (v := .p (.v (.int .i64 0))) rfl (So.e (HT.block ?_))))))))))))))))))))
     refine R.loop (σ := Nat) (fun s => [(29, .p (.v (.int .i64 ((s : Int)))))]) (fun s => [(1, ⟨5, 1, k.toNat, true, .bs (List.replicate (k.toNat - s) 0 ++ (numB n k.toNat).drop (k.toNat - s))⟩)]) [0, 1, 4, 5, 28] [] (fun s => s <= k.toNat) (fun s => k.toNat - s) (0) (fr0 := [(0, .p (.v (.int .i64 _))), (1, .p (.v (.int .i64 _))), (4, .p (.v (.slice none 0 0))), (5, .own 1 0 _), (28, .p (.v (.int .i64 _)))]) (O0 := []) rfl rfl (by omega) ⟨⟨⟨le_int (by rfl), trivial⟩, ⟨.refl _, trivial⟩, ⟨.refl _, trivial⟩, ⟨.refl _, trivial⟩, ⟨.refl _, rfl⟩, ⟨.refl _, trivial⟩, trivial⟩, ⟨⟨_, rfl, .inl (ob_bs (by rfl) (by ((try dsimp only); (simp [numB]; done)))), trivial⟩, trivial⟩⟩ (fun s hP0 => ?_)
     refine HT.seq (HT.region S_num_ok (Sq (V.bin (a := (.v (.int .i64 ((_ : Nat) : Int)))) (b := .v (.int .i64 _)) (r := .v (.bool _)) rfl rfl rfl trivial (So.e (HT.seq ?_)))))
     refine R.cd rfl rfl (fun h6 => ?_) (fun h6 => ?_)
     ·refine HT.skip (HT.seq (HT.block (HT.seq (HT.region S_num_ok (Sq (V.mv (v := .p (.v (.int .i64 ((_ : Nat) : Int)))) rfl (Sq (V.as (v := .p (.v (.int .i64 ((_ : Nat) : Int)))) rfl (So.e (HT.region S_num_ok (Sq (V.mv (v := .own 1 0 _) rfl (Sq (V.mi rfl (Sq (V.subI rfl rfl (by omega) (Sq (V.mv (v := .p (.v (.int .i64 ((_ : Nat) : Int)))) rfl (Sq (V.subI rfl rfl (by omega) (Sq (V.mi rfl (Sq (V.mv (v := .p (.v (.int .i64 ((_ : Nat) : Int)))) rfl (Sq (V.mulI rfl rfl (by omega) (Sq (V.bin (a := .v (.int .i64 _)) (b := .v (.int .i64 _)) (r := .v (.int .i64 _)) rfl rfl rfl (by omega) (Sq (V.cvN ty5 ty2 (a := .v (.int .i64 _)) (r := .u8 _) rfl rfl (Sq (V.ixOwn10 ty23 ty5 rfl rfl rfl rfl rfl (by omega) rfl (So.s (A.sto ty5 rfl rfl rfl (v := .p (.u8 _)) rfl trivial rfl (by omega) rfl rfl (So.e (HT.region S_num_ok (Sq (V.addI rfl rfl (by omega) ?_))))))))))))))))))))))))))))))))))))))
      refine Sq (V.mi rfl (So.e ?_))
      refine ⟨s + 1, by omega, by omega, ⟨⟨⟨le_int (by rfl), trivial⟩, ⟨.refl _, trivial⟩, ⟨.refl _, trivial⟩, ⟨.refl _, trivial⟩, ⟨.refl _, rfl⟩, ⟨.refl _, trivial⟩, trivial⟩, ⟨⟨_, rfl, .inl (ob_bs (by rfl) (by ((try dsimp only); exact num_step (by omega) (by omega)))), trivial⟩, trivial⟩⟩⟩
     ·refine HT.exit ?_
      refine HT.seq (HT.region S_num_ok (Sq (V.mv (v := .own 1 0 _) rfl (Sq (V.as (v := .own 1 0 _) rfl (So.e ?_))))))
      refine HT.ret ?_
      exact ret_ok (sg [(1, 1)]) h rfl rfl rfl ⟨trivial, trivial⟩ ⟨rfl, trivial⟩ rfl ⟨⟨⟨le_own2 (by rfl) (by (rw [numF_ok (by omega) (by omega) (by omega), numB_len])), rfl⟩, trivial⟩, ⟨⟨_, rfl, .inl (ob_bs (by ((try dsimp only); ((rw [numF_ok (by omega) (by omega) (by omega), numB_len])))) (by ((try dsimp only); ((rw [numF_ok (by omega) (by omega) (by omega)]; exact num_fin (by omega)))))), trivial⟩, trivial⟩⟩
   ·have h4 := of_decide_eq_false h4
    refine So.gn (b := false) rfl rfl rfl (lk rfl) (lk rfl) (So.gn (b := false) rfl rfl rfl (lk rfl) (lk rfl) (So.gn (b := false) rfl rfl rfl (lk rfl) (lk rfl) (So.gn (b := false) rfl rfl rfl (lk rfl) (lk rfl) (So.gy rfl rfl (lk rfl) (lk rfl) (A.v rfl (V.pkFalse (u := .p (.v (.bool false))) rfl rfl (Sq (V.pkFalse (u := .p (.v (.bool false))) rfl rfl (So.e ?_)))))))))
    refine R.condF rfl ?_
    refine HT.skip (HT.seq (HT.region S_num_ok (Sq (V.mi rfl (So.n (lk rfl) (A.mkB 1 ty23 ty5 rfl rfl rfl (by omega) rfl rfl trivial (Sq (V.as (v := .own 1 0 _) rfl (So.e (HT.seq (HT.seq (HT.region S_num_ok (Sq (V.mv (v := .own 1 0 _) rfl (Sq (V.len ty23 (v := .own 1 0 _) rfl rfl (Sq (V.mv (v := .p (.v (.int .i64 0))) rfl (So.e (HT.block ?_))))))))))))))))))))
    refine R.loop (σ := Nat) (fun s => [(29, .p (.v (.int .i64 ((s : Int)))))]) (fun s => [(1, ⟨5, 1, k.toNat, true, .bs (List.replicate (k.toNat - s) 0 ++ (numB n k.toNat).drop (k.toNat - s))⟩)]) [0, 1, 4, 5, 28] [] (fun s => s <= k.toNat) (fun s => k.toNat - s) (0) (fr0 := [(0, .p (.v (.int .i64 _))), (1, .p (.v (.int .i64 _))), (4, .p (.v (.slice none 0 0))), (5, .own 1 0 _), (28, .p (.v (.int .i64 _)))]) (O0 := []) rfl rfl (by omega) ⟨⟨⟨le_int (by rfl), trivial⟩, ⟨.refl _, trivial⟩, ⟨.refl _, trivial⟩, ⟨.refl _, trivial⟩, ⟨.refl _, rfl⟩, ⟨.refl _, trivial⟩, trivial⟩, ⟨⟨_, rfl, .inl (ob_bs (by rfl) (by ((try dsimp only); (simp [numB]; done)))), trivial⟩, trivial⟩⟩ (fun s hP0 => ?_)
    refine HT.seq (HT.region S_num_ok (Sq (V.bin (a := (.v (.int .i64 ((_ : Nat) : Int)))) (b := .v (.int .i64 _)) (r := .v (.bool _)) rfl rfl rfl trivial (So.e (HT.seq ?_)))))
    refine R.cd rfl rfl (fun h7 => ?_) (fun h7 => ?_)
    ·refine HT.skip (HT.seq (HT.block (HT.seq (HT.region S_num_ok (Sq (V.mv (v := .p (.v (.int .i64 ((_ : Nat) : Int)))) rfl (Sq (V.as (v := .p (.v (.int .i64 ((_ : Nat) : Int)))) rfl (So.e (HT.region S_num_ok (Sq (V.mv (v := .own 1 0 _) rfl (Sq (V.mi rfl (Sq (V.subI rfl rfl (by omega) (Sq (V.mv (v := .p (.v (.int .i64 ((_ : Nat) : Int)))) rfl (Sq (V.subI rfl rfl (by omega) (Sq (V.mi rfl (Sq (V.mv (v := .p (.v (.int .i64 ((_ : Nat) : Int)))) rfl (Sq (V.mulI rfl rfl (by omega) (Sq (V.bin (a := .v (.int .i64 _)) (b := .v (.int .i64 _)) (r := .v (.int .i64 _)) rfl rfl rfl (by omega) (Sq (V.cvN ty5 ty2 (a := .v (.int .i64 _)) (r := .u8 _) rfl rfl (Sq (V.ixOwn10 ty23 ty5 rfl rfl rfl rfl rfl (by omega) rfl (So.s (A.sto ty5 rfl rfl rfl (v := .p (.u8 _)) rfl trivial rfl (by omega) rfl rfl (So.e (HT.region S_num_ok (Sq (V.addI rfl rfl (by omega) ?_))))))))))))))))))))))))))))))))))))))
     refine Sq (V.mi rfl (So.e ?_))
     refine ⟨s + 1, by omega, by omega, ⟨⟨⟨le_int (by rfl), trivial⟩, ⟨.refl _, trivial⟩, ⟨.refl _, trivial⟩, ⟨.refl _, trivial⟩, ⟨.refl _, rfl⟩, ⟨.refl _, trivial⟩, trivial⟩, ⟨⟨_, rfl, .inl (ob_bs (by rfl) (by ((try dsimp only); exact num_step (by omega) (by omega)))), trivial⟩, trivial⟩⟩⟩
    ·refine HT.exit ?_
     refine HT.seq (HT.region S_num_ok (Sq (V.mv (v := .own 1 0 _) rfl (Sq (V.as (v := .own 1 0 _) rfl (So.e ?_))))))
     refine HT.ret ?_
     exact ret_ok (sg [(1, 1)]) h rfl rfl rfl ⟨trivial, trivial⟩ ⟨rfl, trivial⟩ rfl ⟨⟨⟨le_own2 (by rfl) (by (rw [numF_ok (by omega) (by omega) (by omega), numB_len])), rfl⟩, trivial⟩, ⟨⟨_, rfl, .inl (ob_bs (by ((try dsimp only); ((rw [numF_ok (by omega) (by omega) (by omega), numB_len])))) (by ((try dsimp only); ((rw [numF_ok (by omega) (by omega) (by omega)]; exact num_fin (by omega)))))), trivial⟩, trivial⟩⟩
  ·have h3 := of_decide_eq_true h3
   refine So.gn (b := true) rfl rfl rfl (lk rfl) (lk rfl) (So.gn (b := true) rfl rfl rfl (lk rfl) (lk rfl) ?_)
   refine So.gu rfl rfl (lk rfl) ?_
   refine So.gu rfl rfl (lk rfl) ?_
   refine So.gu rfl rfl (lk rfl) ?_
   refine So.gu rfl rfl (lk rfl) ?_
   refine So.gu rfl rfl (lk rfl) ?_
   refine So.gn (b := true) rfl rfl rfl (lk rfl) (lk rfl) (Sq (V.pkTrue (u := .p (.v (.bool true))) rfl rfl (So.e ?_)))
   refine R.condT rfl ?_
   refine HT.seq (HT.region S_num_ok (Sq (V.as (v := .p (.v (.slice none 0 0))) rfl (So.e ?_))))
   refine R.phan 4 1 5 1 (.bs []) rfl rfl rfl ⟨rfl, rfl⟩ ?_
   refine HT.ret ?_
   exact ret_ok (sg [(1, 1)]) h rfl rfl rfl ⟨trivial, trivial⟩ ⟨rfl, trivial⟩ rfl ⟨⟨⟨le_own2 (by rfl) (by (rw [numF_bad (by omega)] <;> rfl)), rfl⟩, trivial⟩, ⟨⟨_, rfl, .inl (ob_bs (by ((try dsimp only); ((rw [numF_bad (by omega)] <;> rfl)))) (by ((try dsimp only); ((rw [numF_bad (by omega)] <;> rfl))))), trivial⟩, trivial⟩⟩
 ·have h2 := fitsN (bnT h2)
  refine So.gn (b := true) rfl rfl rfl (lk rfl) (lk rfl) (Sq (V.pkTrue (u := .p (.v (.bool true))) rfl rfl (Sq (V.mv (v := .p (.v (.bool true))) rfl (So.gn (b := true) rfl rfl rfl (lk rfl) (lk rfl) (So.gn (b := true) rfl rfl rfl (lk rfl) (lk rfl) (So.gn (b := true) rfl rfl rfl (lk rfl) (lk rfl) ?_)))))))
  refine So.gu rfl rfl (lk rfl) ?_
  refine So.gu rfl rfl (lk rfl) ?_
  refine So.gu rfl rfl (lk rfl) ?_
  refine So.gu rfl rfl (lk rfl) ?_
  refine So.gu rfl rfl (lk rfl) ?_
  refine So.gn (b := true) rfl rfl rfl (lk rfl) (lk rfl) (Sq (V.pkTrue (u := .p (.v (.bool true))) rfl rfl (So.e ?_)))
  refine R.condT rfl ?_
  refine HT.seq (HT.region S_num_ok (Sq (V.as (v := .p (.v (.slice none 0 0))) rfl (So.e ?_))))
  refine R.phan 4 1 5 1 (.bs []) rfl rfl rfl ⟨rfl, rfl⟩ ?_
  refine HT.ret ?_
  exact ret_ok (sg [(1, 1)]) h rfl rfl rfl ⟨trivial, trivial⟩ ⟨rfl, trivial⟩ rfl ⟨⟨⟨le_own2 (by rfl) (by (rw [numF_bad (by omega)] <;> rfl)), rfl⟩, trivial⟩, ⟨⟨_, rfl, .inl (ob_bs (by ((try dsimp only); ((rw [numF_bad (by omega)] <;> rfl)))) (by ((try dsimp only); ((rw [numF_bad (by omega)] <;> rfl))))), trivial⟩, trivial⟩⟩
def lenSp : Sp := ⟨[], mkE (α := Int) (fun n => [.p (.v (.int .i64 n))]) (fun n => []) (fun n => 0 <= n /\ n < 1073741824) (fun n => [.own 1 0 ((lenF n).length)]) (fun n => [(1, ⟨5, 1, (lenF n).length, true, .bs (lenF n)⟩)])⟩
def S_len : FuncId -> Option Sp := fun f => if f = 71 then some numSp else none
theorem S_len_ok : ∀ f s, S_len f = some s -> FOK Tryd.prog gl f s := sI num_ok sN
theorem len_ok : FOK Tryd.prog gl 72 lenSp := by
 refine FOK.ofE (tyOf_ok Tryd.prog) (slots := [2]) (nt := 22) Tryd.func72 rfl rfl rfl rfl (by decide) 1 (fun _ => rfl) (by decide) (fun _ => ⟨trivial, trivial⟩) ?_
 rintro n kk hlen hpre h
 replace hpre : 0 <= n /\ n < 1073741824 := hpre
 show HT (cx Tryd.prog 22 (tyOf Tryd.prog) gl []) _ [(0, .p (.v (.int .i64 n)))] [] _
 refine HT.seq (HT.region S_len_ok (Sq (V.as (v := .p (.v (.slice none 0 0))) rfl (So.e ?_))))
 refine HT.scopeS ?_
 refine HT.seq (HT.region S_len_ok (Sq (V.as (v := .p (.v (.int .i64 0))) rfl (So.e (HT.seq (HT.label (HT.seq (HT.block ?_))))))))
 refine R.loop (σ := Int) (fun s => [(3, .p (.v (.int .i64 s)))]) (fun s => []) [0, 2] [] (fun s => 0 <= s /\ s <= 2 /\ (0 < s -> 64 <= n) /\ (1 < s -> 16384 <= n)) (fun s => (3 - s).toNat) (0) (fr0 := [(0, .p (.v (.int .i64 _))), (2, .p (.v (.slice none 0 0)))]) (O0 := []) rfl rfl (by omega) ⟨⟨⟨le_int (by rfl), trivial⟩, ⟨.refl _, trivial⟩, ⟨.refl _, trivial⟩, trivial⟩, trivial⟩ (fun s hP0 => ?_)
 have hsv := shl_v s
 have htb := tbl_nn s
 refine HT.block (HT.seq (HT.seq (HT.region S_len_ok (Sq (V.mi rfl (Sq (V.mi rfl (Sq (V.ixArr1 ty116 ty3 rfl rfl (lk rfl) rfl (by omega) rfl (Sq (V.ldRp ty3 rfl rfl (lk rfl) (v := .v (.int .i64 _)) rfl (Sq (V.bin (a := .v (.int .i64 1)) (b := .v (.int .i64 _)) (r := .v (.int .i64 _)) rfl rfl rfl (by omega) (Sq (V.bin (a := .v (.int .i64 _)) (b := .v (.int .i64 _)) (r := .v (.bool _)) rfl rfl rfl trivial (So.e ?_))))))))))))))))
 refine R.cd rfl rfl (fun h1 => ?_) (fun h1 => ?_)
 ·refine HT.exit ?_
  refine HT.seq ?_
  refine HT.tail S_len_ok mixed 9 (by kernel_rfl) (by kernel_rfl) ?_
  refine Sq (V.mi rfl (Sq (V.mi rfl (Sq (V.mi rfl (Sq (V.ixArr1 ty116 ty3 rfl rfl (lk rfl) rfl (by omega) rfl (Sq (V.ldRp ty3 rfl rfl (lk rfl) (v := .v (.int .i64 _)) rfl (Sq (V.bin (a := .v (.int .i64 _)) (b := .v (.int .i64 _)) (r := .v (.int .i64 _)) rfl rfl rfl (by omega) (Sq (V.bin (a := .v (.int .i64 _)) (b := .v (.int .i64 _)) (r := .v (.int .i64 _)) rfl rfl rfl trivial (Sq (V.mi rfl (Sq (V.bin (a := .v (.int .i64 1)) (b := .v (.int .i64 _)) (r := .v (.int .i64 _)) rfl rfl rfl (by omega) ?_)))))))))))))))))
  refine So.n (lk rfl) (A.call0 [.p (.v (.int .i64 _)), .p (.v (.int .i64 _))] 1 rfl rfl rfl rfl ⟨trivial, trivial, trivial⟩ trivial (_, _) ⟨.refl _, .refl _, trivial⟩ trivial (by trivial) (Φ := fun (n, k) => (numF n k).length <= 8) (fun _ _ => numF_len _ _) (.inl rfl) (v := .own 2 0 _) rfl (O' := (2, ⟨5, 1, _, true, .bs _⟩) :: _) rfl (fun h2 => ?_))
  try dsimp only at h2
  refine Sq (V.as (v := .own 2 0 _) rfl (So.e ?_))
  refine HT.ret ?_
  exact ret_ok (sg [(1, 2)]) h rfl rfl rfl ⟨trivial, trivial⟩ ⟨rfl, trivial⟩ rfl ⟨⟨⟨le_own2 (by rfl) (by (rw [lenP (by omega) (by omega) (by omega) (by omega) (by omega) (by omega) (by omega)])), rfl⟩, trivial⟩, ⟨⟨_, rfl, .inl (ob_bs (by ((try dsimp only); ((rw [lenP (by omega) (by omega) (by omega) (by omega) (by omega) (by omega) (by omega)])))) (by ((try dsimp only); ((rw [lenP (by omega) (by omega) (by omega) (by omega) (by omega) (by omega) (by omega)]))))), trivial⟩, trivial⟩⟩
 ·refine HT.skip (HT.region S_len_ok (Sq (V.mi rfl (Sq (V.addI rfl rfl (by omega) (Sq (V.ai rfl (So.e ?_))))))))
  refine ⟨s + 1, by omega, by omega, ⟨⟨⟨le_int (by rfl), trivial⟩, ⟨.refl _, trivial⟩, ⟨.refl _, trivial⟩, trivial⟩, trivial⟩⟩
def textSp : Sp := ⟨[], mkE (α := (List UInt8)) (fun s => [.p (.bs s)]) (fun s => []) (fun s => True) (fun s => [.own 1 0 ((textF s).length), .p (.v (.int .i64 (textE s)))]) (fun s => [(1, ⟨5, 1, (textF s).length, true, .bs (textF s)⟩)])⟩
def S_text : FuncId -> Option Sp := fun f => if f = 72 then some lenSp else none
theorem S_text_ok : ∀ f s, S_text f = some s -> FOK Tryd.prog gl f s := sI len_ok sN
theorem text_ok : FOK Tryd.prog gl 61 textSp := by
 refine FOK.ofE (tyOf_ok Tryd.prog) (slots := [2, 3]) (nt := 12) Tryd.func61 rfl rfl rfl rfl (by decide) 1 (fun _ => rfl) (by decide) (fun _ => ⟨trivial, trivial⟩) ?_
 rintro s kk hlen hpre h
 have hl0 : (s).length <= 9223372036854775807 := hlen.1
 replace hpre : True := hpre
 show HT (cx Tryd.prog 12 (tyOf Tryd.prog) gl []) _ [(0, .p (.bs s))] [] _
 refine HT.seq (HT.region S_text_ok (Sq (V.as (v := .p (.v (.slice none 0 0))) rfl (Sq (V.as (v := .p (.v (.int .i64 0))) rfl (So.e (HT.seq (HT.seq (HT.region S_text_ok (Sq (V.mv (v := .p (.bs _)) rfl (Sq (V.len ty23 (v := .p (.bs _)) rfl rfl (Sq (V.bin (a := .v (.int .i64 _)) (b := .v (.int .i64 1048576)) (r := .v (.bool _)) rfl rfl rfl trivial (So.e ?_))))))))))))))))
 refine R.cd rfl rfl (fun h1 => ?_) (fun h1 => ?_)
 ·refine HT.seq (HT.region S_text_ok (Sq (V.as (v := .p (.v (.slice none 0 0))) rfl (Sq (V.as (v := .p (.v (.int .i64 2))) rfl (So.e ?_))))))
  refine R.phan 2 1 5 1 (.bs []) rfl rfl rfl ⟨rfl, rfl⟩ ?_
  refine HT.ret ?_
  exact ret_ok (sg [(1, 1)]) h rfl rfl rfl ⟨trivial, trivial⟩ ⟨rfl, trivial, trivial⟩ rfl ⟨⟨⟨le_own2 (by rfl) (by (unfold textF; simp (disch := omega) only [if_pos, if_neg] <;> rfl)), rfl⟩, ⟨le_int (by (unfold textE; simp (disch := omega) only [if_pos, if_neg])), trivial⟩, trivial⟩, ⟨⟨_, rfl, .inl (ob_bs (by ((try dsimp only); ((unfold textF; simp (disch := omega) only [if_pos, if_neg] <;> rfl)))) (by ((try dsimp only); ((unfold textF; simp (disch := omega) only [if_pos, if_neg] <;> first | rfl | (simp; done)))))), trivial⟩, trivial⟩⟩
 ·refine HT.skip (HT.seq (HT.region S_text_ok (Sq (V.mv (v := .p (.bs _)) rfl (Sq (V.len ty23 (v := .p (.bs _)) rfl rfl ?_))))))
  refine So.n (lk rfl) (A.call0 [.p (.v (.int .i64 _))] 1 rfl rfl rfl rfl ⟨trivial, trivial⟩ trivial _ ⟨.refl _, trivial⟩ trivial (by omega) (Φ := fun n => (lenF n).length <= 4) (fun n _ => lenF_le n) (.inl rfl) (v := .own 2 0 _) rfl (O' := (2, ⟨5, 1, _, true, .bs _⟩) :: _) rfl (fun h2 => ?_))
  try dsimp only at h2
  refine Sq (V.mv (v := .p (.bs _)) rfl (So.n (lk rfl) (A.apOwn ty23 ty5 rfl rfl rfl rfl (u := .p (.bs _)) rfl rfl rfl rfl (by omega) rfl rfl rfl (Sq (V.as (v := .own 2 0 _) rfl (Sq (V.as (v := .p (.v (.int .i64 0))) rfl (So.e ?_))))))))
  refine HT.ret ?_
  exact ret_ok (sg [(1, 2)]) h rfl rfl rfl ⟨trivial, trivial⟩ ⟨rfl, trivial, trivial⟩ rfl ⟨⟨⟨le_own2 (by rfl) (by (unfold textF; simp (disch := omega) only [if_pos, if_neg] <;> (simp; done))), rfl⟩, ⟨le_int (by (unfold textE; simp (disch := omega) only [if_pos, if_neg])), trivial⟩, trivial⟩, ⟨⟨_, rfl, .inl (ob_bs (by ((try dsimp only); ((unfold textF; simp (disch := omega) only [if_pos, if_neg] <;> (simp; done))))) (by ((try dsimp only); ((unfold textF; simp (disch := omega) only [if_pos, if_neg] <;> (simp; done)))))), trivial⟩, trivial⟩⟩
def cloneSp : Sp := ⟨[], mkE (α := (List UInt8)) (fun l => [.p (.bs l)]) (fun l => []) (fun l => l.length <= 140737488355328) (fun l => [.own 1 0 (l.length)]) (fun l => [(1, ⟨5, 1, (l).length, true, .bs (l)⟩)])⟩
def S_clone : FuncId -> Option Sp := fun _ => none
theorem S_clone_ok : ∀ f s, S_clone f = some s -> FOK Tryd.prog gl f s := fun f s h => by cases h
theorem clone_ok : FOK Tryd.prog gl 30 cloneSp := by
 refine FOK.ofE (tyOf_ok Tryd.prog) (slots := [2]) (nt := 8) Tryd.func30 rfl rfl rfl rfl (by decide) 1 (fun _ => rfl) (by decide) (fun _ => ⟨trivial, trivial⟩) ?_
 rintro l kk hlen hpre h
 have hl0 : (l).length <= 9223372036854775807 := hlen.1
 replace hpre : l.length <= 140737488355328 := hpre
 show HT (cx Tryd.prog 8 (tyOf Tryd.prog) gl []) _ [(0, .p (.bs l))] [] _
 refine HT.seq (HT.region S_clone_ok (Sq (V.as (v := .p (.v (.slice none 0 0))) rfl (So.e (HT.seq (HT.seq (HT.region S_clone_ok (Sq (V.mv (v := .p (.bs _)) rfl (So.n (lk rfl) (A.eqNilBs ty23 rfl rfl (fun h1 => ?_) ?_)))))))))))
 ·refine So.e ?_
  refine R.condT rfl ?_
  refine HT.seq (HT.region S_clone_ok (Sq (V.as (v := .p (.v (.slice none 0 0))) rfl (So.e ?_))))
  refine R.phan 2 1 5 1 (.bs []) rfl rfl rfl ⟨rfl, rfl⟩ ?_
  refine HT.ret ?_
  exact ret_ok (sg [(1, 1)]) h rfl rfl rfl ⟨trivial, trivial⟩ ⟨rfl, trivial⟩ rfl ⟨⟨⟨le_own2 (by rfl) (by omega), rfl⟩, trivial⟩, ⟨⟨_, rfl, .inl (ob_bs (by ((try dsimp only); (omega))) (by ((try dsimp only); ((exact (List.eq_nil_of_length_eq_zero (by omega)).symm))))), trivial⟩, trivial⟩⟩
 ·refine So.e ?_
  refine R.condF rfl ?_
  refine HT.skip (HT.seq (HT.region S_clone_ok (So.n (lk rfl) (A.bsl 1 ty23 ty5 rfl (lk rfl) (lk rfl) (fun _ => rfl) rfl rfl trivial trivial rfl (N := 0) rfl (c := .bs []) rfl (Sq (V.mv (v := .p (.bs _)) rfl (So.n (lk rfl) (A.apOwn ty23 ty5 rfl rfl rfl rfl (u := .p (.bs _)) rfl rfl rfl rfl (by omega) rfl rfl rfl (Sq (V.as (v := .own 1 0 _) rfl (So.e ?_)))))))))))
  refine HT.ret ?_
  exact ret_ok (sg [(1, 1)]) h rfl rfl rfl ⟨trivial, trivial⟩ ⟨rfl, trivial⟩ rfl ⟨⟨⟨le_own2 (by rfl) (by omega), rfl⟩, trivial⟩, ⟨⟨_, rfl, .inl (ob_bs (by ((try dsimp only); (omega))) (by rfl)), trivial⟩, trivial⟩⟩
def getSp : Sp := ⟨[], mkE (α := (List UInt8) × Int × Int) (fun (b, i, n) => [.p (.bs b), .p (.v (.int .i64 i)), .p (.v (.int .i64 n))]) (fun (b, i, n) => []) (fun (b, i, n) => True) (fun (b, i, n) => [.p (.v (.int .i64 ((getF b i n).1))), .p (.v (.int .i64 ((getF b i n).2.1))), .p (.v (.int .i64 ((getF b i n).2.2)))]) (fun (b, i, n) => [])⟩
def S_get : FuncId -> Option Sp := fun f => if f = 66 then some fitsSp else none
theorem S_get_ok : ∀ f s, S_get f = some s -> FOK Tryd.prog gl f s := sI fits_ok sN
theorem get_ok : FOK Tryd.prog gl 51 getSp := by
 refine FOK.ofE (tyOf_ok Tryd.prog) (slots := [6, 7, 8]) (nt := 52) Tryd.func51 rfl rfl rfl rfl (by decide) 3 (fun ⟨_, _, _⟩ => rfl) (by decide) (fun ⟨_, _, _⟩ => ⟨trivial, trivial, trivial, trivial⟩) ?_
 rintro ⟨b, i, n⟩ kk hlen hpre h
 have hl0 : (b).length <= 9223372036854775807 := hlen.1
 replace hpre : True := hpre
 show HT (cx Tryd.prog 52 (tyOf Tryd.prog) gl []) _ [(0, .p (.bs b)), (1, .p (.v (.int .i64 i))), (2, .p (.v (.int .i64 n)))] [] _
 refine HT.seq (HT.region S_get_ok (Sq (V.as (v := .p (.v (.int .i64 0))) rfl (Sq (V.as (v := .p (.v (.int .i64 0))) rfl (Sq (V.as (v := .p (.v (.int .i64 0))) rfl (So.e (HT.seq (HT.block (HT.seq (HT.seq (HT.region S_get_ok (Sq (V.mi rfl (Sq (V.bin (a := .v (.int .i64 _)) (b := .v (.int .i64 0)) (r := .v (.bool _)) rfl rfl rfl trivial (Sq (V.as (v := .p (.v (.bool _))) rfl (So.e ?_))))))))))))))))))))
 refine R.cd rfl rfl (fun h1 => ?_) (fun h1 => ?_)
 ·refine HT.skip ?_
  refine R.condT rfl ?_
  refine HT.seq (HT.region S_get_ok (Sq (V.as (v := .p (.v (.int .i64 0))) rfl (Sq (V.as (v := .p (.v (.int .i64 0))) rfl (Sq (V.as (v := .p (.v (.int .i64 1))) rfl (So.e ?_))))))))
  refine HT.ret ?_
  exact rt3 h (le_int (by (rw [getF_arg (by omega)]; done))) (le_int (by (rw [getF_arg (by omega)]; done))) (le_int (by (rw [getF_arg (by omega)]; done)))
 ·refine HT.seq (HT.region S_get_ok (Sq (V.mi rfl (Sq (V.mv (v := .p (.bs _)) rfl (Sq (V.len ty23 (v := .p (.bs _)) rfl rfl (Sq (V.bin (a := .v (.int .i64 _)) (b := .v (.int .i64 _)) (r := .v (.bool _)) rfl rfl rfl trivial (Sq (V.as (v := .p (.v (.bool _))) rfl (So.e ?_))))))))))))
  refine R.cd rfl rfl (fun h2 => ?_) (fun h2 => ?_)
  ·refine HT.skip ?_
   refine R.condT rfl ?_
   refine HT.seq (HT.region S_get_ok (Sq (V.as (v := .p (.v (.int .i64 0))) rfl (Sq (V.as (v := .p (.v (.int .i64 0))) rfl (Sq (V.as (v := .p (.v (.int .i64 1))) rfl (So.e ?_))))))))
   refine HT.ret ?_
   exact rt3 h (le_int (by (rw [getF_arg (by omega)]; done))) (le_int (by (rw [getF_arg (by omega)]; done))) (le_int (by (rw [getF_arg (by omega)]; done)))
  ·refine HT.region S_get_ok (Sq (V.mv (v := .p (.v (.int .i64 _))) rfl ?_))
   refine So.n (lk rfl) (A.call0 [.p (.v (.int .i64 _))] 1 rfl rfl rfl rfl ⟨trivial, trivial⟩ trivial _ ⟨.refl _, trivial⟩ trivial (by trivial) tT (.inl rfl) (v := .p (.v (.bool _))) rfl (O' := _) rfl (fun h3 => ?_))
   refine Sq (V.not rfl (Sq (V.as (v := .p (.v (.bool _))) rfl (So.e ?_))))
   refine R.cond rfl rfl (fun h4 => ?_) (fun h4 => ?_)
   ·have h4 := fitsN (bnT h4)
    refine HT.seq (HT.region S_get_ok (Sq (V.as (v := .p (.v (.int .i64 0))) rfl (Sq (V.as (v := .p (.v (.int .i64 0))) rfl (Sq (V.as (v := .p (.v (.int .i64 1))) rfl (So.e ?_))))))))
    refine HT.ret ?_
    exact rt3 h (le_int (by (rw [getF_arg (by omega)]; done))) (le_int (by (rw [getF_arg (by omega)]; done))) (le_int (by (rw [getF_arg (by omega)]; done)))
   ·have h4 := fitsT (bnF h4)
    refine HT.seq (HT.region S_get_ok (Sq (V.mi rfl (Sq (V.mv (v := .p (.bs _)) rfl (Sq (V.len ty23 (v := .p (.bs _)) rfl rfl (Sq (V.mi rfl (Sq (V.subI rfl rfl (by omega) (Sq (V.bin (a := .v (.int .i64 _)) (b := .v (.int .i64 _)) (r := .v (.bool _)) rfl rfl rfl trivial (Sq (V.as (v := .p (.v (.bool _))) rfl (So.e ?_))))))))))))))))
    refine R.cd rfl rfl (fun h5 => ?_) (fun h5 => ?_)
    ·refine HT.seq (HT.region S_get_ok (Sq (V.as (v := .p (.v (.int .i64 0))) rfl (Sq (V.as (v := .p (.v (.int .i64 0))) rfl (Sq (V.as (v := .p (.v (.int .i64 111))) rfl (So.e ?_))))))))
     refine HT.ret ?_
     exact rt3 h (le_int (by (rw [getF_end (by omega) (by omega) (by omega) (by omega)]; done))) (le_int (by (rw [getF_end (by omega) (by omega) (by omega) (by omega)]; done))) (le_int (by (rw [getF_end (by omega) (by omega) (by omega) (by omega)]; done)))
    ·refine HT.skip (HT.seq (HT.region S_get_ok (Sq (V.as (v := .p (.v (.int .i64 0))) rfl (So.e (HT.seq (HT.seq (HT.region S_get_ok (Sq (V.mv (v := .p (.bs _)) rfl (Sq (V.mi rfl (Sq (V.mi rfl (Sq (V.mi rfl (Sq (V.addI rfl rfl (by omega) (Sq (V.cutBs ty23 ty5 rfl rfl rfl rfl (by omega) (.inl rfl) rfl (Sq (V.len ty23 (v := .p (.bs _)) rfl rfl (Sq (V.mv (v := .p (.v (.int .i64 0))) rfl (So.e (HT.block ?_))))))))))))))))))))))))))
     refine R.loop (σ := Nat) (fun s => [(9, .p (.v (.int .i64 (IntKind.i64.wrap (beN (((b.take (i + n).toNat).drop i.toNat).take s) : Int))))), (36, .p (.v (.int .i64 ((s : Int)))))]) (fun s => []) [1, 2, 6, 7, 8, 34, 35] [] (fun s => s <= n.toNat) (fun s => n.toNat - s) (0) (fr0 := [(1, .p (.v (.int .i64 _))), (2, .p (.v (.int .i64 _))), (6, .p (.v (.int .i64 _))), (7, .p (.v (.int .i64 _))), (8, .p (.v (.int .i64 _))), (34, .p (.bs _)), (35, .p (.v (.int .i64 _)))]) (O0 := []) rfl rfl (by omega) ⟨⟨⟨le_int (by rfl), trivial⟩, ⟨le_int (by rfl), trivial⟩, ⟨.refl _, trivial⟩, ⟨.refl _, trivial⟩, ⟨.refl _, trivial⟩, ⟨.refl _, trivial⟩, ⟨.refl _, trivial⟩, ⟨.refl _, trivial⟩, ⟨.refl _, trivial⟩, trivial⟩, trivial⟩ (fun s hP0 => ?_)
     have hcl := @cut_len b i n (by omega) (by omega) (by omega)
     refine HT.seq (HT.region S_get_ok (Sq (V.bin (a := (.v (.int .i64 ((_ : Nat) : Int)))) (b := .v (.int .i64 _)) (r := .v (.bool _)) rfl rfl rfl trivial (So.e (HT.seq ?_)))))
     refine R.cd rfl rfl (fun h6 => ?_) (fun h6 => ?_)
     ·refine HT.skip (HT.seq (HT.block (HT.seq (HT.region S_get_ok (Sq (V.ixBs ty23 ty5 rfl rfl rfl (by omega) (Int.toNat_natCast _) (Sq (V.ldRp ty5 rfl rfl (lk rfl) (v := .u8 _) rfl (Sq (V.as (v := .p (.u8 _)) rfl (So.e (HT.region S_get_ok (Sq (V.mi rfl (Sq (V.shlC (n := 8) (a := .v (.int .i64 _)) (b := .u64 8) (r := .v (.int .i64 (iShl .i64 _ 8))) rfl rfl rfl rfl (Sq (V.mv (v := .p (.u8 _)) rfl (Sq (V.cvN ty2 ty5 (a := .u8 _) (r := .v (.int .i64 _)) rfl rfl (Sq (V.bin (a := .v (.int .i64 _)) (b := .v (.int .i64 _)) (r := .v (.int .i64 _)) rfl rfl rfl trivial (Sq (V.ai rfl (So.e (HT.region S_get_ok (Sq (V.addI rfl rfl (by omega) (Sq (V.mi rfl (So.e ?_)))))))))))))))))))))))))))))))
      refine ⟨s + 1, by omega, by omega, ⟨⟨⟨le_int (by (rw [beN_take (by omega), <- i64_step] <;> rfl)), trivial⟩, ⟨le_int (by rfl), trivial⟩, ⟨.refl _, trivial⟩, ⟨.refl _, trivial⟩, ⟨.refl _, trivial⟩, ⟨.refl _, trivial⟩, ⟨.refl _, trivial⟩, ⟨.refl _, trivial⟩, ⟨.refl _, trivial⟩, trivial⟩, trivial⟩⟩
     ·refine HT.exit ?_
      refine HT.seq (HT.seq (HT.region S_get_ok (Sq (V.mi rfl (Sq (V.bin (a := .v (.int .i64 _)) (b := .v (.int .i64 0)) (r := .v (.bool _)) rfl rfl rfl trivial (So.e ?_)))))))
      refine R.cd rfl rfl (fun h7 => ?_) (fun h7 => ?_)
      ·refine HT.seq (HT.region S_get_ok (Sq (V.as (v := .p (.v (.int .i64 0))) rfl (Sq (V.as (v := .p (.v (.int .i64 0))) rfl (Sq (V.as (v := .p (.v (.int .i64 112))) rfl (So.e ?_))))))))
       refine HT.ret ?_
       exact rt3 h (le_int (by (simp only [show ((b.take (i + n).toNat).drop i.toNat).take s = ((b.take (i + n).toNat).drop i.toNat) from List.take_of_length_le (by omega)] at *; (rw [getF_long (by omega) (by omega) (by omega) (by omega) (by assumption)]; done)))) (le_int (by (simp only [show ((b.take (i + n).toNat).drop i.toNat).take s = ((b.take (i + n).toNat).drop i.toNat) from List.take_of_length_le (by omega)] at *; (rw [getF_long (by omega) (by omega) (by omega) (by omega) (by assumption)]; done)))) (le_int (by (simp only [show ((b.take (i + n).toNat).drop i.toNat).take s = ((b.take (i + n).toNat).drop i.toNat) from List.take_of_length_le (by omega)] at *; (rw [getF_long (by omega) (by omega) (by omega) (by omega) (by assumption)]; done))))
      ·refine HT.skip (HT.seq (HT.region S_get_ok (Sq (V.mi rfl (Sq (V.mi rfl (Sq (V.mi rfl (Sq (V.addI rfl rfl (by omega) (Sq (V.ai rfl (Sq (V.ai rfl (Sq (V.as (v := .p (.v (.int .i64 0))) rfl (So.e ?_)))))))))))))))))
       refine HT.ret ?_
       exact rt3 h (le_int (by (simp only [show ((b.take (i + n).toNat).drop i.toNat).take s = ((b.take (i + n).toNat).drop i.toNat) from List.take_of_length_le (by omega)] at *; (rw [getF_ok (by omega) (by omega) (by omega) (by omega) (by assumption)]; done)))) (le_int (by (simp only [show ((b.take (i + n).toNat).drop i.toNat).take s = ((b.take (i + n).toNat).drop i.toNat) from List.take_of_length_le (by omega)] at *; (rw [getF_ok (by omega) (by omega) (by omega) (by omega) (by assumption)]; done)))) (le_int (by (simp only [show ((b.take (i + n).toNat).drop i.toNat).take s = ((b.take (i + n).toNat).drop i.toNat) from List.take_of_length_le (by omega)] at *; (rw [getF_ok (by omega) (by omega) (by omega) (by omega) (by assumption)]; done))))
def spanSp : Sp := ⟨[], mkE (α := (List UInt8) × Int) (fun (b, i) => [.p (.bs b), .p (.v (.int .i64 i))]) (fun (b, i) => []) (fun (b, i) => True) (fun (b, i) => [.p (.v (.int .i64 ((spanF b i).1))), .p (.v (.int .i64 ((spanF b i).2.1))), .p (.v (.int .i64 ((spanF b i).2.2)))]) (fun (b, i) => [])⟩
def S_span : FuncId -> Option Sp := fun f => if f = 51 then some getSp else none
theorem S_span_ok : ∀ f s, S_span f = some s -> FOK Tryd.prog gl f s := sI get_ok sN
theorem span_ok : FOK Tryd.prog gl 65 spanSp := by
 refine FOK.ofE (tyOf_ok Tryd.prog) (slots := [4, 5, 6]) (nt := 77) Tryd.func65 rfl rfl rfl rfl (by decide) 2 (fun ⟨_, _⟩ => rfl) (by decide) (fun ⟨_, _⟩ => ⟨trivial, trivial, trivial⟩) ?_
 rintro ⟨b, i⟩ kk hlen hpre h
 have hl0 : (b).length <= 9223372036854775807 := hlen.1
 replace hpre : True := hpre
 show HT (cx Tryd.prog 77 (tyOf Tryd.prog) gl []) _ [(0, .p (.bs b)), (1, .p (.v (.int .i64 i)))] [] _
 refine HT.seq (HT.region S_span_ok (Sq (V.as (v := .p (.v (.int .i64 0))) rfl (Sq (V.as (v := .p (.v (.int .i64 0))) rfl (Sq (V.as (v := .p (.v (.int .i64 0))) rfl (So.e (HT.seq (HT.block (HT.seq (HT.seq (HT.region S_span_ok (Sq (V.mi rfl (Sq (V.bin (a := .v (.int .i64 _)) (b := .v (.int .i64 0)) (r := .v (.bool _)) rfl rfl rfl trivial (Sq (V.as (v := .p (.v (.bool _))) rfl (So.e ?_))))))))))))))))))))
 refine R.cd rfl rfl (fun h1 => ?_) (fun h1 => ?_)
 ·refine HT.skip ?_
  refine R.condT rfl ?_
  refine HT.seq (HT.region S_span_ok (Sq (V.as (v := .p (.v (.int .i64 0))) rfl (Sq (V.as (v := .p (.v (.int .i64 0))) rfl (Sq (V.as (v := .p (.v (.int .i64 1))) rfl (So.e ?_))))))))
  refine HT.ret ?_
  exact rt3 h (le_int (by (unfold spanF; simp (disch := omega) only [if_pos, if_neg]; try (unfold spanK; simp (disch := omega) only [if_pos, if_neg]; try (unfold spanN; simp (disch := omega) only [if_pos, if_neg]))))) (le_int (by (unfold spanF; simp (disch := omega) only [if_pos, if_neg]; try (unfold spanK; simp (disch := omega) only [if_pos, if_neg]; try (unfold spanN; simp (disch := omega) only [if_pos, if_neg]))))) (le_int (by (unfold spanF; simp (disch := omega) only [if_pos, if_neg]; try (unfold spanK; simp (disch := omega) only [if_pos, if_neg]; try (unfold spanN; simp (disch := omega) only [if_pos, if_neg])))))
 ·refine HT.region S_span_ok (Sq (V.mi rfl (Sq (V.mv (v := .p (.bs _)) rfl (Sq (V.len ty23 (v := .p (.bs _)) rfl rfl (Sq (V.bin (a := .v (.int .i64 _)) (b := .v (.int .i64 _)) (r := .v (.bool _)) rfl rfl rfl trivial (Sq (V.as (v := .p (.v (.bool _))) rfl (So.e ?_)))))))))))
  refine R.cd rfl rfl (fun h2 => ?_) (fun h2 => ?_)
  ·refine HT.seq (HT.region S_span_ok (Sq (V.as (v := .p (.v (.int .i64 0))) rfl (Sq (V.as (v := .p (.v (.int .i64 0))) rfl (Sq (V.as (v := .p (.v (.int .i64 1))) rfl (So.e ?_))))))))
   refine HT.ret ?_
   exact rt3 h (le_int (by (unfold spanF; simp (disch := omega) only [if_pos, if_neg]; try (unfold spanK; simp (disch := omega) only [if_pos, if_neg]; try (unfold spanN; simp (disch := omega) only [if_pos, if_neg]))))) (le_int (by (unfold spanF; simp (disch := omega) only [if_pos, if_neg]; try (unfold spanK; simp (disch := omega) only [if_pos, if_neg]; try (unfold spanN; simp (disch := omega) only [if_pos, if_neg]))))) (le_int (by (unfold spanF; simp (disch := omega) only [if_pos, if_neg]; try (unfold spanK; simp (disch := omega) only [if_pos, if_neg]; try (unfold spanN; simp (disch := omega) only [if_pos, if_neg])))))
  ·refine HT.seq (HT.region S_span_ok (Sq (V.mi rfl (Sq (V.mv (v := .p (.bs _)) rfl (Sq (V.len ty23 (v := .p (.bs _)) rfl rfl (Sq (V.bin (a := .v (.int .i64 _)) (b := .v (.int .i64 _)) (r := .v (.bool _)) rfl rfl rfl trivial (Sq (V.as (v := .p (.v (.bool _))) rfl (So.e ?_))))))))))))
   refine R.cd rfl rfl (fun h3 => ?_) (fun h3 => ?_)
   ·refine HT.seq (HT.region S_span_ok (Sq (V.as (v := .p (.v (.int .i64 0))) rfl (Sq (V.as (v := .p (.v (.int .i64 0))) rfl (Sq (V.as (v := .p (.v (.int .i64 111))) rfl (So.e ?_))))))))
    refine HT.ret ?_
    exact rt3 h (le_int (by (unfold spanF; simp (disch := omega) only [if_pos, if_neg]; try (unfold spanK; simp (disch := omega) only [if_pos, if_neg]; try (unfold spanN; simp (disch := omega) only [if_pos, if_neg]))))) (le_int (by (unfold spanF; simp (disch := omega) only [if_pos, if_neg]; try (unfold spanK; simp (disch := omega) only [if_pos, if_neg]; try (unfold spanN; simp (disch := omega) only [if_pos, if_neg]))))) (le_int (by (unfold spanF; simp (disch := omega) only [if_pos, if_neg]; try (unfold spanK; simp (disch := omega) only [if_pos, if_neg]; try (unfold spanN; simp (disch := omega) only [if_pos, if_neg])))))
   ·refine HT.skip (HT.seq (HT.region S_span_ok (Sq (V.mv (v := .p (.bs _)) rfl (Sq (V.mi rfl (Sq (V.ixBs ty23 ty5 rfl rfl rfl (by omega) rfl (Sq (V.ldRp ty5 rfl rfl (lk rfl) (v := .u8 _) rfl (Sq (V.shrC (n := 6) (a := .u8 _) (b := .u64 6) (r := .u8 (u8Shr _ 6)) rfl rfl rfl rfl (Sq (V.cvN ty3 ty5 (a := .u8 _) (r := .v (.int .i64 _)) rfl rfl (Sq (V.ai rfl (So.e (HT.seq (HT.seq (HT.region S_span_ok ?_))))))))))))))))))))
    have hk := shr6_le (b.getD i.toNat 0)
    refine Sq (V.mi rfl (Sq (V.bin (a := .v (.int .i64 _)) (b := .v (.int .i64 3)) (r := .v (.bool _)) rfl rfl rfl trivial (So.e ?_))))
    refine R.cd rfl rfl (fun h4 => ?_) (fun h4 => ?_)
    ·refine HT.seq (HT.region S_span_ok (Sq (V.as (v := .p (.v (.int .i64 0))) rfl (Sq (V.as (v := .p (.v (.int .i64 0))) rfl (Sq (V.as (v := .p (.v (.int .i64 112))) rfl (So.e ?_))))))))
     refine HT.ret ?_
     exact rt3 h (le_int (by (unfold spanF; simp (disch := omega) only [if_pos, if_neg]; try (unfold spanK; simp (disch := omega) only [if_pos, if_neg]; try (unfold spanN; simp (disch := omega) only [if_pos, if_neg]))))) (le_int (by (unfold spanF; simp (disch := omega) only [if_pos, if_neg]; try (unfold spanK; simp (disch := omega) only [if_pos, if_neg]; try (unfold spanN; simp (disch := omega) only [if_pos, if_neg]))))) (le_int (by (unfold spanF; simp (disch := omega) only [if_pos, if_neg]; try (unfold spanK; simp (disch := omega) only [if_pos, if_neg]; try (unfold spanN; simp (disch := omega) only [if_pos, if_neg])))))
    ·refine HT.skip (HT.seq (HT.region S_span_ok ?_))
     have hc := shl_cls (k := ((u8Shr (b.getD i.toNat 0) 6).toNat : Int)) (by omega) (by omega)
     refine Sq (V.mv (v := .p (.bs _)) rfl (Sq (V.mi rfl (Sq (V.mi rfl (Sq (V.bin (a := .v (.int .i64 1)) (b := .v (.int .i64 _)) (r := .v (.int .i64 _)) rfl rfl rfl (by omega) ?_)))))))
     refine So.n (lk rfl) (A.call0 [.p (.bs _), .p (.v (.int .i64 _)), .p (.v (.int .i64 _))] 1 rfl rfl rfl rfl ⟨trivial, trivial, trivial, trivial⟩ trivial (_, _, _) ⟨.refl _, .refl _, .refl _, trivial⟩ trivial (by trivial) (Φ := fun (b, i, n) => 0 <= (getF b i n).2.1 /\ (getF b i n).2.1 <= b.length) (fun (b, i, n) _ => ⟨(getF_from b i n).1, (getF_from b i n).2.1⟩) (.inl rfl) (v := .tup 3 _) rfl (O' := _) rfl (fun h5 => ?_))
     try dsimp only at h5
     refine Sq (V.mv (v := .tup 3 _) rfl (Sq (V.ei rfl rfl (Sq (V.ei rfl rfl (Sq (V.ei rfl rfl (Sq (V.ai rfl (Sq (V.ai rfl (Sq (V.ai rfl (So.e (HT.seq (HT.region S_span_ok ?_))))))))))))))))
     have htb := tbl_nn ((u8Shr (b.getD i.toNat 0) 6).toNat : Int)
     have h14 := shl_tbl (k := ((u8Shr (b.getD i.toNat 0) 6).toNat : Int)) (by omega) (by omega)
     refine Sq (V.mi rfl (Sq (V.mi rfl (Sq (V.ixArr1 ty116 ty3 rfl rfl (lk rfl) rfl (by omega) rfl (Sq (V.ldRp ty3 rfl rfl (lk rfl) (v := .v (.int .i64 _)) rfl (Sq (V.bin (a := .v (.int .i64 1)) (b := .v (.int .i64 _)) (r := .v (.int .i64 _)) rfl rfl rfl (by omega) (Sq (V.subI rfl rfl (by omega) (Sq (V.bin (a := .v (.int .i64 _)) (b := .v (.int .i64 _)) (r := .v (.int .i64 _)) rfl rfl rfl trivial (Sq (V.ai rfl (So.e (HT.seq (HT.block (HT.seq (HT.region S_span_ok (Sq (V.mi rfl (Sq (V.bin (a := .v (.int .i64 _)) (b := .v (.int .i64 0)) (r := .v (.bool _)) rfl rfl rfl trivial (Sq (V.as (v := .p (.v (.bool _))) rfl (So.e ?_)))))))))))))))))))))))))))
     refine R.cond rfl rfl (fun h6 => ?_) (fun h6 => ?_)
     ·have h6 := of_decide_eq_false (bnT h6)
      refine HT.seq (HT.region S_span_ok (Sq (V.mi rfl (Sq (V.as (v := .p (.v (.int .i64 0))) rfl (Sq (V.as (v := .p (.v (.int .i64 0))) rfl (Sq (V.ai rfl (So.e ?_))))))))))
      refine HT.ret ?_
      exact rt3 h (le_int (by (unfold spanF; simp (disch := omega) only [if_pos, if_neg]; try (unfold spanK; simp (disch := omega) only [if_pos, if_neg]; try (unfold spanN; simp (disch := omega) only [if_pos, if_neg]))))) (le_int (by (unfold spanF; simp (disch := omega) only [if_pos, if_neg]; try (unfold spanK; simp (disch := omega) only [if_pos, if_neg]; try (unfold spanN; simp (disch := omega) only [if_pos, if_neg]))))) (le_int (by (unfold spanF; simp (disch := omega) only [if_pos, if_neg]; try (unfold spanK; simp (disch := omega) only [if_pos, if_neg]; try (unfold spanN; simp (disch := omega) only [if_pos, if_neg])))))
     ·have h6 := of_decide_eq_true (bnF h6)
      refine HT.seq (HT.region S_span_ok ?_)
      have htb2 := tbl_nn (((u8Shr (b.getD i.toNat 0) 6).toNat : Int) - 1)
      refine Sq (V.mi rfl (Sq (V.bin (a := .v (.int .i64 _)) (b := .v (.int .i64 0)) (r := .v (.bool _)) rfl rfl rfl trivial (Sq (V.mv (v := .p (.v (.bool _))) rfl ?_)))))
      refine So.gd rfl rfl (lk rfl) (lk rfl) (fun h7 => ?_) (fun h7 => ?_)
      ·have h7 := of_decide_eq_true h7
       refine A.v rfl (V.mi rfl (So.gy rfl rfl (lk rfl) (lk rfl) (A.v rfl (V.mi rfl (So.gy rfl rfl (lk rfl) (lk rfl) (A.v rfl (V.subI rfl rfl (by omega) (So.gy rfl rfl (lk rfl) (lk rfl) (A.v rfl (V.ixArr1 ty116 ty3 rfl rfl (lk rfl) rfl (by omega) rfl (So.gy rfl rfl (lk rfl) (lk rfl) (A.v rfl (V.ldRp ty3 rfl rfl (lk rfl) (v := .v (.int .i64 _)) rfl (So.gy rfl rfl (lk rfl) (lk rfl) (A.v rfl (V.bin (a := .v (.int .i64 1)) (b := .v (.int .i64 _)) (r := .v (.int .i64 _)) rfl rfl rfl (by omega) (So.gy rfl rfl (lk rfl) (lk rfl) (A.v rfl (V.bin (a := .v (.int .i64 _)) (b := .v (.int .i64 _)) (r := .v (.bool _)) rfl rfl rfl trivial (Sq (V.pkTrue (u := .p (.v (.bool _))) rfl rfl (Sq (V.as (v := .p (.v (.bool _))) rfl (So.e ?_))))))))))))))))))))))))
       refine R.cd rfl rfl (fun h8 => ?_) (fun h8 => ?_)
       ·refine HT.seq (HT.region S_span_ok (Sq (V.as (v := .p (.v (.int .i64 0))) rfl (Sq (V.as (v := .p (.v (.int .i64 0))) rfl (Sq (V.as (v := .p (.v (.int .i64 112))) rfl (So.e ?_))))))))
        refine HT.ret ?_
        exact rt3 h (le_int (by (unfold spanF; simp (disch := omega) only [if_pos, if_neg]; try (unfold spanK; simp (disch := omega) only [if_pos, if_neg]; try (unfold spanN; simp (disch := omega) only [if_pos, if_neg]))))) (le_int (by (unfold spanF; simp (disch := omega) only [if_pos, if_neg]; try (unfold spanK; simp (disch := omega) only [if_pos, if_neg]; try (unfold spanN; simp (disch := omega) only [if_pos, if_neg]))))) (le_int (by (unfold spanF; simp (disch := omega) only [if_pos, if_neg]; try (unfold spanK; simp (disch := omega) only [if_pos, if_neg]; try (unfold spanN; simp (disch := omega) only [if_pos, if_neg])))))
       ·refine HT.seq (HT.region S_span_ok (Sq (V.mi rfl (Sq (V.bin (a := .v (.int .i64 _)) (b := .v (.int .i64 1048576)) (r := .v (.bool _)) rfl rfl rfl trivial (Sq (V.as (v := .p (.v (.bool _))) rfl (So.e ?_))))))))
        refine R.cd rfl rfl (fun h9 => ?_) (fun h9 => ?_)
        ·refine HT.seq (HT.region S_span_ok (Sq (V.as (v := .p (.v (.int .i64 0))) rfl (Sq (V.as (v := .p (.v (.int .i64 0))) rfl (Sq (V.as (v := .p (.v (.int .i64 2))) rfl (So.e ?_))))))))
         refine HT.ret ?_
         exact rt3 h (le_int (by (unfold spanF; simp (disch := omega) only [if_pos, if_neg]; try (unfold spanK; simp (disch := omega) only [if_pos, if_neg]; try (unfold spanN; simp (disch := omega) only [if_pos, if_neg]))))) (le_int (by (unfold spanF; simp (disch := omega) only [if_pos, if_neg]; try (unfold spanK; simp (disch := omega) only [if_pos, if_neg]; try (unfold spanN; simp (disch := omega) only [if_pos, if_neg]))))) (le_int (by (unfold spanF; simp (disch := omega) only [if_pos, if_neg]; try (unfold spanK; simp (disch := omega) only [if_pos, if_neg]; try (unfold spanN; simp (disch := omega) only [if_pos, if_neg])))))
        ·refine HT.seq (HT.region S_span_ok ?_)
         have hn := iAnd_bound (getF b i (iShl .i64 1 ((u8Shr (b.getD i.toNat 0) 6).toNat : Int).toNat)).1 (m := iShl .i64 1 (([6, 14, 30] : List Int).getD ((u8Shr (b.getD i.toNat 0) 6).toNat : Int).toNat 0).toNat - 1) (by omega) (by omega)
         refine Sq (V.mi rfl (Sq (V.mv (v := .p (.bs _)) rfl (Sq (V.len ty23 (v := .p (.bs _)) rfl rfl (Sq (V.mi rfl (Sq (V.subI rfl rfl (by omega) (Sq (V.bin (a := .v (.int .i64 _)) (b := .v (.int .i64 _)) (r := .v (.bool _)) rfl rfl rfl trivial (Sq (V.as (v := .p (.v (.bool _))) rfl (So.e ?_))))))))))))))
         refine R.cd rfl rfl (fun h10 => ?_) (fun h10 => ?_)
         ·refine HT.seq (HT.region S_span_ok (Sq (V.as (v := .p (.v (.int .i64 0))) rfl (Sq (V.as (v := .p (.v (.int .i64 0))) rfl (Sq (V.as (v := .p (.v (.int .i64 111))) rfl (So.e ?_))))))))
          refine HT.ret ?_
          exact rt3 h (le_int (by (unfold spanF; simp (disch := omega) only [if_pos, if_neg]; try (unfold spanK; simp (disch := omega) only [if_pos, if_neg]; try (unfold spanN; simp (disch := omega) only [if_pos, if_neg]))))) (le_int (by (unfold spanF; simp (disch := omega) only [if_pos, if_neg]; try (unfold spanK; simp (disch := omega) only [if_pos, if_neg]; try (unfold spanN; simp (disch := omega) only [if_pos, if_neg]))))) (le_int (by (unfold spanF; simp (disch := omega) only [if_pos, if_neg]; try (unfold spanK; simp (disch := omega) only [if_pos, if_neg]; try (unfold spanN; simp (disch := omega) only [if_pos, if_neg])))))
         ·refine HT.skip (HT.seq (HT.region S_span_ok (Sq (V.mi rfl (Sq (V.mi rfl (Sq (V.mi rfl (Sq (V.addI rfl rfl (by omega) (Sq (V.ai rfl (Sq (V.ai rfl (Sq (V.as (v := .p (.v (.int .i64 0))) rfl (So.e ?_)))))))))))))))))
          refine HT.ret ?_
          exact rt3 h (le_int (by (unfold spanF; simp (disch := omega) only [if_pos, if_neg]; try (unfold spanK; simp (disch := omega) only [if_pos, if_neg]; try (unfold spanN; simp (disch := omega) only [if_pos, if_neg]))))) (le_int (by (unfold spanF; simp (disch := omega) only [if_pos, if_neg]; try (unfold spanK; simp (disch := omega) only [if_pos, if_neg]; try (unfold spanN; simp (disch := omega) only [if_pos, if_neg]))))) (le_int (by (unfold spanF; simp (disch := omega) only [if_pos, if_neg]; try (unfold spanK; simp (disch := omega) only [if_pos, if_neg]; try (unfold spanN; simp (disch := omega) only [if_pos, if_neg])))))
      ·have h7 := of_decide_eq_false h7
       refine So.gn (b := false) rfl rfl rfl (lk rfl) (lk rfl) (So.gn (b := false) rfl rfl rfl (lk rfl) (lk rfl) (So.gn (b := false) rfl rfl rfl (lk rfl) (lk rfl) (So.gn (b := false) rfl rfl rfl (lk rfl) (lk rfl) (So.gn (b := false) rfl rfl rfl (lk rfl) (lk rfl) (So.gn (b := false) rfl rfl rfl (lk rfl) (lk rfl) (Sq (V.pkFalse (u := .p (.v (.bool false))) rfl rfl (Sq (V.as (v := .p (.v (.bool false))) rfl (So.e ?_))))))))))
       refine R.condF rfl ?_
       refine HT.seq (HT.region S_span_ok (Sq (V.mi rfl (Sq (V.bin (a := .v (.int .i64 _)) (b := .v (.int .i64 1048576)) (r := .v (.bool _)) rfl rfl rfl trivial (Sq (V.as (v := .p (.v (.bool _))) rfl (So.e ?_))))))))
       refine R.cd rfl rfl (fun h11 => ?_) (fun h11 => ?_)
       ·refine HT.seq (HT.region S_span_ok (Sq (V.as (v := .p (.v (.int .i64 0))) rfl (Sq (V.as (v := .p (.v (.int .i64 0))) rfl (Sq (V.as (v := .p (.v (.int .i64 2))) rfl (So.e ?_))))))))
        refine HT.ret ?_
        exact rt3 h (le_int (by (unfold spanF; simp (disch := omega) only [if_pos, if_neg]; try (unfold spanK; simp (disch := omega) only [if_pos, if_neg]; try (unfold spanN; simp (disch := omega) only [if_pos, if_neg]))))) (le_int (by (unfold spanF; simp (disch := omega) only [if_pos, if_neg]; try (unfold spanK; simp (disch := omega) only [if_pos, if_neg]; try (unfold spanN; simp (disch := omega) only [if_pos, if_neg]))))) (le_int (by (unfold spanF; simp (disch := omega) only [if_pos, if_neg]; try (unfold spanK; simp (disch := omega) only [if_pos, if_neg]; try (unfold spanN; simp (disch := omega) only [if_pos, if_neg])))))
       ·refine HT.seq (HT.region S_span_ok ?_)
        have hn := iAnd_bound (getF b i (iShl .i64 1 ((u8Shr (b.getD i.toNat 0) 6).toNat : Int).toNat)).1 (m := iShl .i64 1 (([6, 14, 30] : List Int).getD ((u8Shr (b.getD i.toNat 0) 6).toNat : Int).toNat 0).toNat - 1) (by omega) (by omega)
        refine Sq (V.mi rfl (Sq (V.mv (v := .p (.bs _)) rfl (Sq (V.len ty23 (v := .p (.bs _)) rfl rfl (Sq (V.mi rfl (Sq (V.subI rfl rfl (by omega) (Sq (V.bin (a := .v (.int .i64 _)) (b := .v (.int .i64 _)) (r := .v (.bool _)) rfl rfl rfl trivial (Sq (V.as (v := .p (.v (.bool _))) rfl (So.e ?_))))))))))))))
        refine R.cd rfl rfl (fun h12 => ?_) (fun h12 => ?_)
        ·refine HT.seq (HT.region S_span_ok (Sq (V.as (v := .p (.v (.int .i64 0))) rfl (Sq (V.as (v := .p (.v (.int .i64 0))) rfl (Sq (V.as (v := .p (.v (.int .i64 111))) rfl (So.e ?_))))))))
         refine HT.ret ?_
         exact rt3 h (le_int (by (unfold spanF; simp (disch := omega) only [if_pos, if_neg]; try (unfold spanK; simp (disch := omega) only [if_pos, if_neg]; try (unfold spanN; simp (disch := omega) only [if_pos, if_neg]))))) (le_int (by (unfold spanF; simp (disch := omega) only [if_pos, if_neg]; try (unfold spanK; simp (disch := omega) only [if_pos, if_neg]; try (unfold spanN; simp (disch := omega) only [if_pos, if_neg]))))) (le_int (by (unfold spanF; simp (disch := omega) only [if_pos, if_neg]; try (unfold spanK; simp (disch := omega) only [if_pos, if_neg]; try (unfold spanN; simp (disch := omega) only [if_pos, if_neg])))))
        ·refine HT.skip (HT.seq (HT.region S_span_ok (Sq (V.mi rfl (Sq (V.mi rfl (Sq (V.mi rfl (Sq (V.addI rfl rfl (by omega) (Sq (V.ai rfl (Sq (V.ai rfl (Sq (V.as (v := .p (.v (.int .i64 0))) rfl (So.e ?_)))))))))))))))))
         refine HT.ret ?_
         exact rt3 h (le_int (by (unfold spanF; simp (disch := omega) only [if_pos, if_neg]; try (unfold spanK; simp (disch := omega) only [if_pos, if_neg]; try (unfold spanN; simp (disch := omega) only [if_pos, if_neg]))))) (le_int (by (unfold spanF; simp (disch := omega) only [if_pos, if_neg]; try (unfold spanK; simp (disch := omega) only [if_pos, if_neg]; try (unfold spanN; simp (disch := omega) only [if_pos, if_neg]))))) (le_int (by (unfold spanF; simp (disch := omega) only [if_pos, if_neg]; try (unfold spanK; simp (disch := omega) only [if_pos, if_neg]; try (unfold spanN; simp (disch := omega) only [if_pos, if_neg])))))
def hnew1Sp : Sp := ⟨[], mkE (α := (List UInt8)) (fun G => [.p (.bs G)]) (fun G => []) (fun G => 0 < G.length /\ G.length <= 32) (fun G => [.ptr 1 0]) (fun G => [(1, ⟨63, 4, 4, true, .cells [.p (.bs G), .p (.v (.int .i64 0)), .own 2 0 ((([] : PLs)).length), .own 3 0 ((([] : PKs)).length)]⟩), (2, ⟨45, 3, (([] : PLs)).length * 3, true, .rows (pR (([] : PLs)))⟩), (3, ⟨64, 1, (([] : PKs)).length, true, .rows (kV (([] : PKs)))⟩)])⟩
def S_hnew1 : FuncId -> Option Sp := fun f => if f = 30 then some cloneSp else none
theorem S_hnew1_ok : ∀ f s, S_hnew1 f = some s -> FOK Tryd.prog gl f s := sI clone_ok sN
theorem hnew1_ok : FOK Tryd.prog gl 8 hnew1Sp := by
 refine FOK.ofE (tyOf_ok Tryd.prog) (slots := [2]) (nt := 15) Tryd.func8 rfl rfl rfl rfl (by decide) 1 (fun _ => rfl) (by decide) (fun _ => ⟨trivial, trivial⟩) ?_
 rintro G kk hlen hpre h
 have hl0 : (G).length <= 9223372036854775807 := hlen.1
 replace hpre : 0 < G.length /\ G.length <= 32 := hpre
 show HT (cx Tryd.prog 15 (tyOf Tryd.prog) gl []) _ [(0, .p (.bs G))] [] _
 refine HT.seq (HT.region S_hnew1_ok (Sq (V.as (v := _) rfl (So.e (HT.seq (HT.seq (HT.region S_hnew1_ok (Sq (V.mv (v := .p (.bs _)) rfl (Sq (V.len ty23 (v := .p (.bs _)) rfl rfl (Sq (V.bin (a := .v (.int .i64 _)) (b := .v (.int .i64 0)) (r := .v (.bool _)) rfl rfl rfl trivial (Sq (V.mv (v := .p (.v (.bool _))) rfl ?_)))))))))))))))
 refine So.gd rfl rfl (lk rfl) (lk rfl) (fun h1 => ?_) (fun h1 => ?_)
 ·have h1 := of_decide_eq_false h1
  refine A.v rfl (V.mv (v := .p (.bs _)) rfl (So.gy rfl rfl (lk rfl) (lk rfl) (A.v rfl (V.len ty23 (v := .p (.bs _)) rfl rfl (So.gy rfl rfl (lk rfl) (lk rfl) (A.v rfl (V.bin (a := .v (.int .i64 _)) (b := .v (.int .i64 32)) (r := .v (.bool _)) rfl rfl rfl trivial (Sq (V.pkFalse (u := .p (.v (.bool _))) rfl rfl (So.e ?_))))))))))
  refine R.cd rfl rfl (fun h2 => ?_) (fun h2 => ?_)
  ·refine HT.seq ?_
   exfalso; omega
  ·refine HT.skip (HT.seq (HT.region S_hnew1_ok (Sq (V.mv (v := .p (.bs _)) rfl ?_))))
   refine So.n (lk rfl) (A.call0F S_hnew1_ok [.p (.bs _)] 1 rfl rfl rfl rfl ⟨trivial, trivial⟩ trivial _ ⟨.refl _, trivial⟩ trivial (by omega) tT (.inl rfl) (t := 2) (off := 0) rfl (O' := (2, ⟨5, 1, _, true, .bs _⟩) :: _) rfl rfl rfl (y := .p (.bs _)) rfl rfl (fun h3 => ?_))
   refine So.n (lk rfl) (A.bldG ty63 rfl ⟨by exact trivial, trivial⟩ rfl rfl (So.n (lk rfl) (A.boxG 1 4 [.p (.bs _), .p (.v (.int .i64 _)), .p (.v (.slice none 0 0)), .p (.v (.slice none 0 0))] rfl (by intro j hj; match j, hj with | 0, _ => (exact trivial) | 1, _ => (exact rfl) | 2, _ => (exact rfl) | 3, _ => (exact rfl)) rfl (by intro j hj; match j, hj with | 0, _ => rfl | 1, _ => rfl | 2, _ => rfl | 3, _ => rfl) rfl trivial (Sq (V.as (v := .ptr 1 0) rfl (So.e ?_))))))
   refine HT.phanC 1 2 45 3 (.rows (pR [])) (c' := .cells [.p (.bs _), .p (.v (.int .i64 _)), .own 2 0 0, .p (.v (.slice none 0 0))]) rfl rfl rfl trivial rfl (allP_spec (P := fun j => _ ∨ _) ⟨⟨⟨⟨trivial, .inl rfl⟩, .inl rfl⟩, .inr ⟨rfl, rfl⟩⟩, .inl rfl⟩) rfl ?_
   refine HT.phanC 1 3 64 1 (.rows (kV [])) (c' := .cells [.p (.bs _), .p (.v (.int .i64 _)), .own 2 0 0, .own 3 0 0]) rfl rfl rfl trivial rfl (allP_spec (P := fun j => _ ∨ _) ⟨⟨⟨⟨trivial, .inl rfl⟩, .inl rfl⟩, .inl rfl⟩, .inr ⟨rfl, rfl⟩⟩) rfl ?_
   refine HT.ret ?_
   exact ret_ok (sg [(1, 1), (2, 2), (3, 3)]) h rfl rfl rfl ⟨⟨trivial, trivial, rfl, rfl, trivial⟩, trivial, trivial, trivial⟩ ⟨rfl, trivial⟩ rfl ⟨⟨⟨.refl _, rfl⟩, trivial⟩, ⟨⟨_, rfl, .inl (by simp only [take_full]; rfl), ⟨trivial, trivial, rfl, rfl, trivial⟩⟩, ⟨_, rfl, .inr (ob_rows (by rfl) (by omega)), trivial⟩, ⟨_, rfl, .inr (ob_rows (by rfl) (by omega)), trivial⟩, trivial⟩⟩
 ·have h1 := of_decide_eq_true h1
  refine So.gn (b := true) rfl rfl rfl (lk rfl) (lk rfl) (So.gn (b := true) rfl rfl rfl (lk rfl) (lk rfl) (Sq (V.pkTrue (u := .p (.v (.bool true))) rfl rfl (So.e ?_))))
  refine R.condT rfl ?_
  refine HT.seq ?_
  exfalso; omega
def hnew0Sp : Sp := ⟨[], mkE (α := (List UInt8)) (fun G => [.p (.bs G)]) (fun G => []) (fun G => ¬ (0 < G.length /\ G.length <= 32)) (fun G => [.p (.v (.pointer none))]) (fun G => [])⟩
def S_hnew0 : FuncId -> Option Sp := fun _ => none
theorem S_hnew0_ok : ∀ f s, S_hnew0 f = some s -> FOK Tryd.prog gl f s := fun f s h => by cases h
theorem hnew0_ok : FOK Tryd.prog gl 8 hnew0Sp := by
 refine FOK.ofE (tyOf_ok Tryd.prog) (slots := [2]) (nt := 15) Tryd.func8 rfl rfl rfl rfl (by decide) 1 (fun _ => rfl) (by decide) (fun _ => ⟨trivial, trivial⟩) ?_
 rintro G kk hlen hpre h
 have hl0 : (G).length <= 9223372036854775807 := hlen.1
 replace hpre : ¬ (0 < G.length /\ G.length <= 32) := hpre
 show HT (cx Tryd.prog 15 (tyOf Tryd.prog) gl []) _ [(0, .p (.bs G))] [] _
 refine HT.seq (HT.region S_hnew0_ok (Sq (V.as (v := _) rfl (So.e (HT.seq (HT.seq (HT.region S_hnew0_ok (Sq (V.mv (v := .p (.bs _)) rfl (Sq (V.len ty23 (v := .p (.bs _)) rfl rfl (Sq (V.bin (a := .v (.int .i64 _)) (b := .v (.int .i64 0)) (r := .v (.bool _)) rfl rfl rfl trivial (Sq (V.mv (v := .p (.v (.bool _))) rfl ?_)))))))))))))))
 refine So.gd rfl rfl (lk rfl) (lk rfl) (fun h1 => ?_) (fun h1 => ?_)
 ·have h1 := of_decide_eq_false h1
  refine A.v rfl (V.mv (v := .p (.bs _)) rfl (So.gy rfl rfl (lk rfl) (lk rfl) (A.v rfl (V.len ty23 (v := .p (.bs _)) rfl rfl (So.gy rfl rfl (lk rfl) (lk rfl) (A.v rfl (V.bin (a := .v (.int .i64 _)) (b := .v (.int .i64 32)) (r := .v (.bool _)) rfl rfl rfl trivial (Sq (V.pkFalse (u := .p (.v (.bool _))) rfl rfl (So.e ?_))))))))))
  refine R.cd rfl rfl (fun h2 => ?_) (fun h2 => ?_)
  ·refine HT.seq (HT.region S_hnew0_ok (Sq (V.as (v := _) rfl (So.e ?_))))
   refine HT.ret ?_
   exact rt1 h (.refl _)
  ·refine HT.skip (HT.seq ?_)
   exfalso; omega
 ·have h1 := of_decide_eq_true h1
  refine So.gn (b := true) rfl rfl rfl (lk rfl) (lk rfl) (So.gn (b := true) rfl rfl rfl (lk rfl) (lk rfl) (Sq (V.pkTrue (u := .p (.v (.bool true))) rfl rfl (So.e ?_))))
  refine R.condT rfl ?_
  refine HT.seq (HT.region S_hnew0_ok (Sq (V.as (v := _) rfl (So.e ?_))))
  refine HT.ret ?_
  exact rt1 h (.refl _)
def hnewSp : Sp := ⟨[], mkE (α := ((List UInt8)) ⊕ ((List UInt8))) (Sum.elim (fun G => [.p (.bs G)]) (fun G => [.p (.bs G)])) (Sum.elim (fun G => []) (fun G => [])) (Sum.elim (fun G => 0 < G.length /\ G.length <= 32) (fun G => ¬ (0 < G.length /\ G.length <= 32))) (Sum.elim (fun G => [.ptr 1 0]) (fun G => [.p (.v (.pointer none))])) (Sum.elim (fun G => [(1, ⟨63, 4, 4, true, .cells [.p (.bs G), .p (.v (.int .i64 0)), .own 2 0 ((([] : PLs)).length), .own 3 0 ((([] : PKs)).length)]⟩), (2, ⟨45, 3, (([] : PLs)).length * 3, true, .rows (pR (([] : PLs)))⟩), (3, ⟨64, 1, (([] : PKs)).length, true, .rows (kV (([] : PKs)))⟩)]) (fun G => []))⟩
theorem hnew_ok : FOK Tryd.prog gl 8 hnewSp := FOK.or hnew1_ok hnew0_ok
def hepochSp : Sp := ⟨[1, 2, 3], mkE (α := (List UInt8) × Int × PLs × PKs) (fun (G, e, L, p) => [.ptr 1 0]) (fun (G, e, L, p) => [(1, ⟨63, 4, 4, true, .cells [.p (.bs G), .p (.v (.int .i64 e)), .own 2 0 ((L).length), .own 3 0 ((p).length)]⟩), (2, ⟨45, 3, (L).length * 3, true, .rows (pR L)⟩), (3, ⟨64, 1, (p).length, true, .rows (kV p)⟩)]) (fun (G, e, L, p) => True) (fun (G, e, L, p) => [.p (.v (.int .i64 e))]) (fun (G, e, L, p) => [(1, ⟨63, 4, 4, true, .cells [.p (.bs G), .p (.v (.int .i64 e)), .own 2 0 ((L).length), .own 3 0 ((p).length)]⟩), (2, ⟨45, 3, (L).length * 3, true, .rows (pR L)⟩), (3, ⟨64, 1, (p).length, true, .rows (kV p)⟩)])⟩
def S_hepoch : FuncId -> Option Sp := fun _ => none
theorem S_hepoch_ok : ∀ f s, S_hepoch f = some s -> FOK Tryd.prog gl f s := fun f s h => by cases h
theorem hepoch_ok : FOK Tryd.prog gl 15 hepochSp := by
 refine FOK.ofE (tyOf_ok Tryd.prog) (slots := [2]) (nt := 7) Tryd.func15 rfl rfl rfl rfl (by decide) 1 (fun ⟨_, _, _, _⟩ => rfl) (by decide) (fun ⟨_, _, _, _⟩ => ⟨rfl, trivial⟩) ?_
 rintro ⟨G, e, L, p⟩ kk hlen hpre h
 replace hpre : True := hpre
 show HT (cx Tryd.prog 7 (tyOf Tryd.prog) gl [1, 2, 3]) _ [(0, .ptr 1 0)] [(1, ⟨63, 4, 4, true, .cells [.p (.bs G), .p (.v (.int .i64 e)), .own 2 0 ((L).length), .own 3 0 ((p).length)]⟩), (2, ⟨45, 3, (L).length * 3, true, .rows (pR L)⟩), (3, ⟨64, 1, (p).length, true, .rows (kV p)⟩)] _
 refine HT.seq (HT.region S_hepoch_ok (Sq (V.as (v := .p (.v (.int .i64 0))) rfl (So.e (HT.seq (HT.region S_hepoch_ok (Sq (V.mv (v := .ptr 1 0) rfl (Sq (V.ncPtr rfl (Sq (V.fa ty63 rfl ty2 rfl rfl (Sq (V.ld ty2 rfl rfl rfl (v := .p (.v (.int .i64 _))) rfl (Sq (V.ai rfl (So.e ?_)))))))))))))))))
 refine HT.ret ?_
 exact ret_ok (sg [(1, 1), (2, 2), (3, 3)]) h rfl rfl rfl ⟨⟨trivial, trivial, rfl, rfl, trivial⟩, trivial, trivial, trivial⟩ ⟨trivial, trivial⟩ rfl ⟨⟨⟨le_int (by rfl), trivial⟩, trivial⟩, ⟨⟨_, rfl, .inl (by rfl), ⟨trivial, trivial, rfl, rfl, trivial⟩⟩, ⟨_, rfl, .inl rfl, trivial⟩, ⟨_, rfl, .inl rfl, trivial⟩, trivial⟩⟩
def hlenSp : Sp := ⟨[1, 2, 3], mkE (α := (List UInt8) × Int × PLs × PKs) (fun (G, e, L, p) => [.ptr 1 0]) (fun (G, e, L, p) => [(1, ⟨63, 4, 4, true, .cells [.p (.bs G), .p (.v (.int .i64 e)), .own 2 0 ((L).length), .own 3 0 ((p).length)]⟩), (2, ⟨45, 3, (L).length * 3, true, .rows (pR L)⟩), (3, ⟨64, 1, (p).length, true, .rows (kV p)⟩)]) (fun (G, e, L, p) => True) (fun (G, e, L, p) => [.p (.v (.int .i64 ((L.length : Int))))]) (fun (G, e, L, p) => [(1, ⟨63, 4, 4, true, .cells [.p (.bs G), .p (.v (.int .i64 e)), .own 2 0 ((L).length), .own 3 0 ((p).length)]⟩), (2, ⟨45, 3, (L).length * 3, true, .rows (pR L)⟩), (3, ⟨64, 1, (p).length, true, .rows (kV p)⟩)])⟩
def S_hlen : FuncId -> Option Sp := fun _ => none
theorem S_hlen_ok : ∀ f s, S_hlen f = some s -> FOK Tryd.prog gl f s := fun f s h => by cases h
theorem hlen_ok : FOK Tryd.prog gl 17 hlenSp := by
 refine FOK.ofE (tyOf_ok Tryd.prog) (slots := [2]) (nt := 8) Tryd.func17 rfl rfl rfl rfl (by decide) 1 (fun ⟨_, _, _, _⟩ => rfl) (by decide) (fun ⟨_, _, _, _⟩ => ⟨rfl, trivial⟩) ?_
 rintro ⟨G, e, L, p⟩ kk hlen hpre h
 replace hpre : True := hpre
 show HT (cx Tryd.prog 8 (tyOf Tryd.prog) gl [1, 2, 3]) _ [(0, .ptr 1 0)] [(1, ⟨63, 4, 4, true, .cells [.p (.bs G), .p (.v (.int .i64 e)), .own 2 0 ((L).length), .own 3 0 ((p).length)]⟩), (2, ⟨45, 3, (L).length * 3, true, .rows (pR L)⟩), (3, ⟨64, 1, (p).length, true, .rows (kV p)⟩)] _
 refine HT.seq (HT.region S_hlen_ok (Sq (V.as (v := .p (.v (.int .i64 0))) rfl (So.e (HT.seq (HT.region S_hlen_ok (Sq (V.mv (v := .ptr 1 0) rfl (Sq (V.ncPtr rfl (Sq (V.fa ty63 rfl ty56 rfl rfl (Sq (V.ld ty56 rfl rfl rfl (v := .own 2 0 _) rfl (Sq (V.len ty56 (v := .own 2 0 _) rfl rfl (Sq (V.ai rfl (So.e ?_)))))))))))))))))))
 refine HT.ret ?_
 exact ret_ok (sg [(1, 1), (2, 2), (3, 3)]) h rfl rfl rfl ⟨⟨trivial, trivial, rfl, rfl, trivial⟩, trivial, trivial, trivial⟩ ⟨trivial, trivial⟩ rfl ⟨⟨⟨le_int (by rfl), trivial⟩, trivial⟩, ⟨⟨_, rfl, .inl (by rfl), ⟨trivial, trivial, rfl, rfl, trivial⟩⟩, ⟨_, rfl, .inl rfl, trivial⟩, ⟨_, rfl, .inl rfl, trivial⟩, trivial⟩⟩
def bequalSp : Sp := ⟨[], mkE (α := (List UInt8) × (List UInt8)) (fun (a, b) => [.p (.bs a), .p (.bs b)]) (fun (a, b) => []) (fun (a, b) => True) (fun (a, b) => [.p (.v (.bool (decide (a = b))))]) (fun (a, b) => [])⟩
def S_bequal : FuncId -> Option Sp := fun _ => none
theorem S_bequal_ok : ∀ f s, S_bequal f = some s -> FOK Tryd.prog gl f s := fun f s h => by cases h
theorem bequal_ok : FOK Tryd.prog gl 62 bequalSp := by
 refine FOK.ofE (tyOf_ok Tryd.prog) (slots := [4]) (nt := 10) Tryd.func62 rfl rfl rfl rfl (by decide) 2 (fun ⟨_, _⟩ => rfl) (by decide) (fun ⟨_, _⟩ => ⟨trivial, trivial, trivial⟩) ?_
 rintro ⟨a, b⟩ kk hlen hpre h
 have hl0 : (a).length <= 9223372036854775807 := hlen.1
 have hl1 : (b).length <= 9223372036854775807 := hlen.2.1
 replace hpre : True := hpre
 show HT (cx Tryd.prog 10 (tyOf Tryd.prog) gl []) _ [(0, .p (.bs a)), (1, .p (.bs b))] [] _
 refine HT.seq (HT.region S_bequal_ok (Sq (V.as (v := .p (.v (.bool false))) rfl (So.e (HT.seq (HT.region S_bequal_ok (Sq (V.mv (v := .p (.bs _)) rfl (Sq (V.cvBs ty9 rfl rfl (Sq (V.mv (v := .p (.bs _)) rfl (Sq (V.cvBs ty9 rfl rfl (Sq (V.bin (a := .str _) (b := .str _) (r := .v (.bool _)) rfl rfl rfl trivial (Sq (V.as (v := .p (.v (.bool _))) rfl (So.e ?_)))))))))))))))))))
 refine HT.ret ?_
 exact rt1 h (le_bool (by rfl))
def hnowSp : Sp := ⟨[1, 2, 3], mkE (α := (List UInt8) × Int × PLs × PKs × (List UInt8) × Int) (fun (G, e, L, p, g, ep) => [.ptr 1 0, .p (.bs g), .p (.v (.int .i64 ep))]) (fun (G, e, L, p, g, ep) => [(1, ⟨63, 4, 4, true, .cells [.p (.bs G), .p (.v (.int .i64 e)), .own 2 0 ((L).length), .own 3 0 ((p).length)]⟩), (2, ⟨45, 3, (L).length * 3, true, .rows (pR L)⟩), (3, ⟨64, 1, (p).length, true, .rows (kV p)⟩)]) (fun (G, e, L, p, g, ep) => True) (fun (G, e, L, p, g, ep) => [.p (.v (.bool (decide (g = G /\ ep = e))))]) (fun (G, e, L, p, g, ep) => [(1, ⟨63, 4, 4, true, .cells [.p (.bs G), .p (.v (.int .i64 e)), .own 2 0 ((L).length), .own 3 0 ((p).length)]⟩), (2, ⟨45, 3, (L).length * 3, true, .rows (pR L)⟩), (3, ⟨64, 1, (p).length, true, .rows (kV p)⟩)])⟩
def S_hnow : FuncId -> Option Sp := fun f => if f = 62 then some bequalSp else none
theorem S_hnow_ok : ∀ f s, S_hnow f = some s -> FOK Tryd.prog gl f s := sI bequal_ok sN
theorem hnow_ok : FOK Tryd.prog gl 46 hnowSp := by
 refine FOK.ofE (tyOf_ok Tryd.prog) (slots := [6]) (nt := 21) Tryd.func46 rfl rfl rfl rfl (by decide) 3 (fun ⟨_, _, _, _, _, _⟩ => rfl) (by decide) (fun ⟨_, _, _, _, _, _⟩ => ⟨rfl, trivial, trivial, trivial⟩) ?_
 rintro ⟨G, e, L, p, g, ep⟩ kk hlen hpre h
 have hl1 : (g).length <= 9223372036854775807 := hlen.2.1
 replace hpre : True := hpre
 show HT (cx Tryd.prog 21 (tyOf Tryd.prog) gl [1, 2, 3]) _ [(0, .ptr 1 0), (1, .p (.bs g)), (2, .p (.v (.int .i64 ep)))] [(1, ⟨63, 4, 4, true, .cells [.p (.bs G), .p (.v (.int .i64 e)), .own 2 0 ((L).length), .own 3 0 ((p).length)]⟩), (2, ⟨45, 3, (L).length * 3, true, .rows (pR L)⟩), (3, ⟨64, 1, (p).length, true, .rows (kV p)⟩)] _
 refine HT.seq (HT.region S_hnow_ok (Sq (V.as (v := .p (.v (.bool false))) rfl (So.e (HT.seq (HT.region S_hnow_ok (Sq (V.mv (v := .p (.bs _)) rfl (Sq (V.mv (v := .ptr 1 0) rfl (Sq (V.ncPtr rfl (Sq (V.fa ty63 rfl ty23 rfl rfl (Sq (V.ld ty23 rfl rfl rfl (v := .p (.bs _)) rfl ?_))))))))))))))))
 refine So.n (lk rfl) (A.call0 [.p (.bs _), .p (.bs _)] 4 rfl rfl rfl rfl ⟨trivial, trivial, trivial⟩ ⟨lk rfl, lk rfl, lk rfl, trivial⟩ (_, _) ⟨.refl _, .refl _, trivial⟩ trivial (by trivial) tT (.inl rfl) (v := .p (.v (.bool _))) rfl (O' := _) rfl (fun h1 => ?_))
 refine Sq (V.mv (v := .p (.v (.bool _))) rfl ?_)
 refine So.gd rfl rfl (lk rfl) (lk rfl) (fun h2 => ?_) (fun h2 => ?_)
 ·have h2 := of_decide_eq_true h2
  refine A.v rfl (V.mi rfl (So.gy rfl rfl (lk rfl) (lk rfl) (A.v rfl (V.mv (v := .ptr 1 0) rfl (So.gy rfl rfl (lk rfl) (lk rfl) (A.v rfl (V.ncPtr rfl (So.gy rfl rfl (lk rfl) (lk rfl) (A.v rfl (V.fa ty63 rfl ty2 rfl rfl (So.gy rfl rfl (lk rfl) (lk rfl) (A.v rfl (V.ld ty2 rfl rfl rfl (v := .p (.v (.int .i64 _))) rfl (So.gy rfl rfl (lk rfl) (lk rfl) (A.v rfl (V.bin (a := .v (.int .i64 _)) (b := .v (.int .i64 _)) (r := .v (.bool _)) rfl rfl rfl trivial (Sq (V.pkTrue (u := .p (.v (.bool _))) rfl rfl (Sq (V.as (v := .p (.v (.bool _))) rfl (So.e ?_)))))))))))))))))))))
  refine HT.ret ?_
  exact ret_ok (sg [(1, 1), (2, 2), (3, 3)]) h rfl rfl rfl ⟨⟨trivial, trivial, rfl, rfl, trivial⟩, trivial, trivial, trivial⟩ ⟨trivial, trivial⟩ rfl ⟨⟨⟨le_bool (by (refine decide_eq_decide.2 ?_; simp_all; done)), trivial⟩, trivial⟩, ⟨⟨_, rfl, .inl (by rfl), ⟨trivial, trivial, rfl, rfl, trivial⟩⟩, ⟨_, rfl, .inl rfl, trivial⟩, ⟨_, rfl, .inl rfl, trivial⟩, trivial⟩⟩
 ·have h2 := of_decide_eq_false h2
  refine So.gn (b := false) rfl rfl rfl (lk rfl) (lk rfl) (So.gn (b := false) rfl rfl rfl (lk rfl) (lk rfl) (So.gn (b := false) rfl rfl rfl (lk rfl) (lk rfl) (So.gn (b := false) rfl rfl rfl (lk rfl) (lk rfl) (So.gn (b := false) rfl rfl rfl (lk rfl) (lk rfl) (Sq (V.pkFalse (u := .p (.v (.bool false))) rfl rfl (Sq (V.as (v := .p (.v (.bool false))) rfl (So.e ?_)))))))))
  refine HT.ret ?_
  exact ret_ok (sg [(1, 1), (2, 2), (3, 3)]) h rfl rfl rfl ⟨⟨trivial, trivial, rfl, rfl, trivial⟩, trivial, trivial, trivial⟩ ⟨trivial, trivial⟩ rfl ⟨⟨⟨le_bool (by (exact (decide_eq_false (fun h9 => by simp_all)).symm)), trivial⟩, trivial⟩, ⟨⟨_, rfl, .inl (by rfl), ⟨trivial, trivial, rfl, rfl, trivial⟩⟩, ⟨_, rfl, .inl rfl, trivial⟩, ⟨_, rfl, .inl rfl, trivial⟩, trivial⟩⟩
def getTextSp : Sp := ⟨[], mkE (α := (List UInt8) × Int) (fun (b, i) => [.p (.bs b), .p (.v (.int .i64 i))]) (fun (b, i) => []) (fun (b, i) => True) (fun (b, i) => [.own 1 0 ((getTextF b i).1.length), .p (.v (.int .i64 ((getTextF b i).2.1))), .p (.v (.int .i64 ((getTextF b i).2.2)))]) (fun (b, i) => [(1, ⟨5, 1, ((getTextF b i).1).length, true, .bs ((getTextF b i).1)⟩)])⟩
def S_getText : FuncId -> Option Sp := fun f => if f = 65 then some spanSp else if f = 30 then some cloneSp else none
theorem S_getText_ok : ∀ f s, S_getText f = some s -> FOK Tryd.prog gl f s := sI span_ok (sI clone_ok sN)
theorem getText_ok : FOK Tryd.prog gl 50 getTextSp := by
 refine FOK.ofE (tyOf_ok Tryd.prog) (slots := [4, 5, 6]) (nt := 26) Tryd.func50 rfl rfl rfl rfl (by decide) 2 (fun ⟨_, _⟩ => rfl) (by decide) (fun ⟨_, _⟩ => ⟨trivial, trivial, trivial⟩) ?_
 rintro ⟨b, i⟩ kk hlen hpre h
 have hl0 : (b).length <= 9223372036854775807 := hlen.1
 replace hpre : True := hpre
 show HT (cx Tryd.prog 26 (tyOf Tryd.prog) gl []) _ [(0, .p (.bs b)), (1, .p (.v (.int .i64 i)))] [] _
 refine HT.seq (HT.region S_getText_ok (Sq (V.as (v := .p (.v (.slice none 0 0))) rfl (Sq (V.as (v := .p (.v (.int .i64 0))) rfl (Sq (V.as (v := .p (.v (.int .i64 0))) rfl (So.e (HT.seq (HT.region S_getText_ok (Sq (V.mv (v := .p (.bs _)) rfl (Sq (V.mv (v := .p (.v (.int .i64 _))) rfl ?_))))))))))))))
 refine So.n (lk rfl) (A.call0 [.p (.bs _), .p (.v (.int .i64 _))] 1 rfl rfl rfl rfl ⟨trivial, trivial, trivial⟩ trivial (_, _) ⟨.refl _, .refl _, trivial⟩ trivial (by trivial) (Φ := fun (b, i) => (spanF b i).2.2 = 0 -> 0 <= i /\ i < (spanF b i).1 /\ (spanF b i).1 <= (spanF b i).2.1 /\ (spanF b i).2.1 <= b.length /\ (spanF b i).2.1 - (spanF b i).1 <= 1048576) (fun (b, i) _ => spanF_ok b i) (.inl rfl) (v := .tup 3 _) rfl (O' := _) rfl (fun h1 => ?_))
 try dsimp only at h1
 refine Sq (V.mv (v := .tup 3 _) rfl (Sq (V.ei rfl rfl (Sq (V.ei rfl rfl (Sq (V.ei rfl rfl (Sq (V.ai rfl (Sq (V.ai rfl (Sq (V.ai rfl (So.e (HT.seq (HT.seq (HT.region S_getText_ok (Sq (V.mi rfl (Sq (V.bin (a := .v (.int .i64 _)) (b := .v (.int .i64 0)) (r := .v (.bool _)) rfl rfl rfl trivial (So.e ?_))))))))))))))))))))))
 refine R.cond rfl rfl (fun h2 => ?_) (fun h2 => ?_)
 ·have h2 := of_decide_eq_false (bnT h2)
  refine HT.seq (HT.region S_getText_ok (Sq (V.mi rfl (Sq (V.as (v := .p (.v (.slice none 0 0))) rfl (Sq (V.as (v := .p (.v (.int .i64 0))) rfl (Sq (V.ai rfl (So.e ?_))))))))))
  refine R.phan 4 1 5 1 (.bs []) rfl rfl rfl ⟨rfl, rfl⟩ ?_
  refine HT.ret ?_
  exact ret_ok (sg [(1, 1)]) h rfl rfl rfl ⟨trivial, trivial⟩ ⟨rfl, trivial, trivial, trivial⟩ rfl ⟨⟨⟨le_own2 (by rfl) (by (unfold getTextF; simp (disch := omega) only [if_pos, if_neg, ne_eq] <;> rfl)), rfl⟩, ⟨le_int (by (unfold getTextF; simp (disch := omega) only [if_pos, if_neg, ne_eq] <;> first | rfl | (simp; done))), trivial⟩, ⟨le_int (by (unfold getTextF; simp (disch := omega) only [if_pos, if_neg, ne_eq] <;> first | rfl | (simp; done))), trivial⟩, trivial⟩, ⟨⟨_, rfl, .inl (ob_bs (by unfold getTextF; simp (disch := omega) only [if_pos, if_neg, ne_eq] <;> rfl) (by unfold getTextF; simp (disch := omega) only [if_pos, if_neg, ne_eq] <;> first | rfl | (simp; done))), trivial⟩, trivial⟩⟩
 ·have h2 := of_decide_eq_true (bnF h2)
  refine HT.skip (HT.seq (HT.region S_getText_ok (Sq (V.mv (v := .p (.bs _)) rfl (Sq (V.mi rfl (Sq (V.mi rfl (Sq (V.cutBs ty23 ty5 rfl rfl rfl rfl (by omega) (.inl rfl) rfl ?_))))))))))
  refine So.n (lk rfl) (A.call0 [.p (.bs _)] 1 rfl rfl rfl rfl ⟨trivial, trivial⟩ trivial _ ⟨.refl _, trivial⟩ trivial (by (simp; omega)) tT (.inl rfl) (v := .own 2 0 _) rfl (O' := (2, ⟨5, 1, _, true, .bs _⟩) :: _) rfl (fun h3 => ?_))
  refine Sq (V.mi rfl (Sq (V.as (v := .own 2 0 _) rfl (Sq (V.ai rfl (Sq (V.as (v := .p (.v (.int .i64 0))) rfl (So.e ?_))))))))
  refine HT.ret ?_
  exact ret_ok (sg [(1, 2)]) h rfl rfl rfl ⟨trivial, trivial⟩ ⟨rfl, trivial, trivial, trivial⟩ rfl ⟨⟨⟨le_own2 (by rfl) (by (unfold getTextF; simp (disch := omega) only [if_pos, if_neg, ne_eq] <;> first | rfl | (simp; done))), rfl⟩, ⟨le_int (by (unfold getTextF; simp (disch := omega) only [if_pos, if_neg, ne_eq] <;> first | rfl | (simp; done))), trivial⟩, ⟨le_int (by (unfold getTextF; simp (disch := omega) only [if_pos, if_neg, ne_eq] <;> first | rfl | (simp; done))), trivial⟩, trivial⟩, ⟨⟨_, rfl, .inl (ob_bs (by unfold getTextF; simp (disch := omega) only [if_pos, if_neg, ne_eq] <;> first | rfl | (simp; done)) (by unfold getTextF; simp (disch := omega) only [if_pos, if_neg, ne_eq] <;> first | rfl | (simp; done))), trivial⟩, trivial⟩⟩
def rtext_pSp : Sp := ⟨[1, 2], mkE (α := (List UInt8) × Int × Int × (Nat -> PV)) (fun (b, p, e, f) => [.ptr 1 0, .own 3 0 (1)]) (fun (b, p, e, f) => [(1, ⟨72, 1, 3, true, .rows (fun j => ([.bs b, .v (.int .i64 p), .v (.int .i64 e)] : List PV).getD j (.v undef))⟩), (2, ⟨75, 1, 3, true, .rows (fun j => if j = 0 then .bs ([]) else f j)⟩), (3, ⟨64, 1, 1, true, .cells [.ptr 2 0]⟩)]) (fun (b, p, e, f) => True) (fun (b, p, e, f) => []) (fun (b, p, e, f) => [(1, ⟨72, 1, 3, true, .rows (fun j => ([.bs b, .v (.int .i64 (rdT b p e).2.1), .v (.int .i64 (rdT b p e).2.2)] : List PV).getD j (.v undef))⟩), (2, ⟨75, 1, 3, true, .rows (fun j => if j = 0 then .bs ((rdT b p e).1) else f j)⟩)])⟩
def S_rtext_p : FuncId -> Option Sp := fun f => if f = 50 then some getTextSp else none
theorem S_rtext_p_ok : ∀ f s, S_rtext_p f = some s -> FOK Tryd.prog gl f s := sI getText_ok sN
theorem S_rtext_p_det : ∀ f s, S_rtext_p f = some s -> SpDet s.sp := dI dN
theorem rtext_p_ok : FOK Tryd.prog gl 35 rtext_pSp := by
 refine FOK.ofE (tyOf_ok Tryd.prog) (slots := []) (nt := 39) Tryd.func35 rfl rfl rfl rfl (by decide) 2 (fun ⟨_, _, _, _⟩ => rfl) (by decide) (fun ⟨_, _, _, _⟩ => ⟨rfl, rfl, trivial⟩) ?_
 rintro ⟨b, p, e, f⟩ kk hlen hpre h
 have hl1 : _ <= 9223372036854775807 := hlen.2.1
 replace hpre : True := hpre
 show HT (cx Tryd.prog 39 (tyOf Tryd.prog) gl [1, 2]) _ [(0, .ptr 1 0), (1, .own 3 0 (1))] [(1, ⟨72, 1, 3, true, .rows (fun j => ([.bs b, .v (.int .i64 p), .v (.int .i64 e)] : List PV).getD j (.v undef))⟩), (2, ⟨75, 1, 3, true, .rows (fun j => if j = 0 then .bs ([]) else f j)⟩), (3, ⟨64, 1, 1, true, .cells [.ptr 2 0]⟩)] _
 refine HT.seq (HT.region S_rtext_p_ok (Sq (V.mv (v := .own 3 0 _) rfl (Sq (V.len ty61 (v := .own 3 0 _) rfl rfl (Sq (V.mv (v := .p (.v (.int .i64 0))) rfl (So.e (HT.block ?_)))))))))
 refine HT.rounds 2 ?_
 refine HT.seq (HT.region S_rtext_p_ok (Sq (V.bin (a := .v (.int .i64 _)) (b := .v (.int .i64 _)) (r := .v (.bool _)) rfl rfl rfl trivial (So.e (HT.seq ?_)))))
 refine R.cd rfl rfl (fun h1 => ?_) (fun h1 => ?_)
 ·refine HT.skip ?_
  refine R.cut True [] [(1, ⟨72, 1, 3, true, .rows (fun j => ([.bs b, .v (.int .i64 (rdT b p e).2.1), .v (.int .i64 (rdT b p e).2.2)] : List PV).getD j (.v undef))⟩), (2, ⟨75, 1, 3, true, .rows (fun j => if j = 0 then .bs ((rdT b p e).1) else f j)⟩)] [0, 6, 7, 8] [3] (fr0 := [(0, .ptr 1 0), (6, .own 3 0 _), (7, .p (.v (.int .i64 _))), (8, .p (.v (.int .i64 _)))]) (O0 := [(3, ⟨_, _, _, _, .cells _⟩)]) rfl rfl ?_ (fun hphi => ?_)
  ·refine HT.block ?_
   refine HT.seq (HT.region S_rtext_p_ok (Sq (V.ixOwn10 ty61 ty64 rfl rfl rfl rfl rfl (by omega) rfl (Sq (V.ld ty64 rfl rfl rfl (v := .ptr 2 0) rfl (Sq (V.as (v := .ptr 2 0) rfl (So.e (HT.seq (HT.region S_rtext_p_ok (Sq (V.mv (v := .ptr 1 0) rfl (Sq (V.ncPtr rfl (Sq (V.fa ty72 rfl ty27 rfl rfl (Sq (V.ld ty27 rfl rfl rfl (v := .p (.v (.int .i64 _))) rfl (Sq (V.bin (a := .v (.int .i64 _)) (b := .v (.int .i64 0)) (r := .v (.bool _)) rfl rfl rfl trivial (So.e ?_)))))))))))))))))))))
   refine R.cd rfl rfl (fun h2 => ?_) (fun h2 => ?_)
   ·refine HT.planS S_rtext_p_ok S_rtext_p_det mixed [] [⟨[0, 1, 2, 3, 4, 5, 6, 7, 8, 9, 10, 11, 12, 13, 14, 15, 16], 17, [1, 2, 14, 15]⟩, ⟨[1, 2, 14, 15, 18, 19], 20, [2, 15]⟩, ⟨[2, 15, 21, 22], 23, []⟩] (by kernel_rfl) ?_
    refine Pl.lk ?_
    refine Sj rfl (V.mv (v := .ptr 2 0) rfl (Sj rfl (V.mv (v := .ptr 1 0) rfl (Sj rfl (V.mv (v := .ptr 1 0) rfl (Sj rfl (V.mv (v := .ptr 1 0) rfl (Sj rfl (V.ncPtr rfl (Sj rfl (V.fa ty72 rfl ty23 rfl rfl (Sj rfl (V.ld ty23 rfl rfl rfl (v := .p (.bs _)) rfl (Sj rfl (V.mv (v := .ptr 1 0) rfl (Sj rfl (V.ncPtr rfl (Sj rfl (V.fa ty72 rfl ty3 rfl rfl (Sj rfl (V.ld ty3 rfl rfl rfl (v := .p (.v (.int .i64 _))) rfl ?_)))))))))))))))))))))
    refine Sj rfl (V.call [.p (.bs _), .p (.v (.int .i64 _))] 4 rfl rfl rfl rfl ⟨trivial, trivial, trivial⟩ ⟨lk rfl, lk rfl, trivial⟩ (_, _) ⟨.refl _, .refl _, trivial⟩ trivial (by trivial) (Φ := fun (b, i) => ((getTextF b i).2.2 = 0 -> 0 <= i /\ i < (getTextF b i).2.1 /\ (getTextF b i).2.1 <= b.length) /\ (getTextF b i).1.length <= 1048576) (fun (b, i) _ => ⟨getTextF_ok b i, getTextF_len b i⟩) (.inl ⟨trivial, trivial, trivial⟩) (v := .tup 3 _) rfl (fun h3 => ?_))
    try dsimp only at h3
    refine Sj rfl (V.mv (v := .tup 3 _) rfl (Sj rfl (V.ext rfl (lk rfl) (v := .p (.bs _)) rfl (Sj rfl (V.ei rfl rfl (Sj rfl (V.ei rfl rfl (Sj rfl (V.ncPtr rfl (Si.e ?_))))))))))
    refine ⟨flEq_nil, fun ff => ?_⟩
    refine Lo.s rfl (A.sto ty23 rfl rfl rfl (v := .p (.bs _)) rfl trivial rfl (lk rfl) rfl rfl ?_)
    refine ⟨_, fun ff => ff, ap0, rfl, FG.id, ?_⟩
    show planA _ _ _ _ _ [(1, .ptr 1 0), (2, .ptr 1 0), (14, .p (.v (.int .i64 _))), (15, .p (.v (.int .i64 _)))] _ _ _
    refine Pl.lk ?_
    refine Sj rfl (V.mv (v := .ptr 1 0) rfl (Sj rfl (V.mv (v := .ptr 1 0) rfl (Sj rfl (V.ei rfl rfl (Sj rfl (V.ei rfl rfl (Sj rfl (V.ncPtr rfl (Sj rfl (V.fa ty72 rfl ty3 rfl rfl (Si.e ?_))))))))))))
    refine ⟨(flEq_cons rfl (flEq_cons rfl (flEq_cons rfl (flEq_cons rfl flEq_nil)))), fun ff => ?_⟩
    refine Lo.s rfl (A.sto ty3 rfl rfl rfl (v := .p (.v (.int .i64 _))) rfl rfl rfl (lk rfl) rfl rfl ?_)
    refine ⟨_, fun ff => ff, ap0, rfl, FG.id, ?_⟩
    show planA _ _ _ _ _ [(2, .ptr 1 0), (15, .p (.v (.int .i64 _)))] _ _ _
    refine Pl.l0 ?_
    refine Sj rfl (V.mv (v := .ptr 1 0) rfl (Sj rfl (V.ei rfl rfl (Sj rfl (V.ncPtr rfl (Sj rfl (V.fa ty72 rfl ty27 rfl rfl (Si.e ?_))))))))
    refine ⟨(flEq_cons rfl (flEq_cons rfl flEq_nil)), ?_⟩
    refine Lo.s rfl (A.sto ty27 rfl rfl rfl (v := .p (.v (.int .i64 _))) rfl rfl rfl (lk rfl) rfl rfl ?_)
    refine Pl.e ?_
    refine Si.e ?_
    refine ⟨flEq_nil, ?_⟩
    exact ⟨by omega, ⟨⟨⟨.refl _, rfl⟩, ⟨.refl _, rfl⟩, ⟨.refl _, trivial⟩, ⟨.refl _, trivial⟩, trivial⟩, ⟨⟨_, rfl, .inr (ob_rows (by rfl) (by (rw [show rdT b p e = Go.Vh.gT b p from rdT_0 (e := e) (by assumption)]; (intro j hj; match j, hj with | 0, _ => rfl | 1, _ => rfl | 2, _ => rfl)))), trivial⟩, ⟨_, rfl, .inr (ob_rows (by rfl) (by (rw [show rdT b p e = Go.Vh.gT b p from rdT_0 (e := e) (by assumption)]; intro j hj; by_cases h0 : j = 0 <;> (simp [h0, gT]; done)))), trivial⟩, ⟨_, rfl, .inl rfl, ⟨rfl, trivial⟩⟩, trivial⟩⟩⟩
   ·refine HT.skip ?_
    exact ⟨by omega, ⟨⟨⟨.refl _, rfl⟩, ⟨.refl _, rfl⟩, ⟨.refl _, trivial⟩, ⟨.refl _, trivial⟩, trivial⟩, ⟨⟨_, rfl, .inr (ob_rows (by rfl) (by (rw [show rdT b p e = ([], p, e) from rdT_1 (e := e) (by assumption)]; (intro j hj; match j, hj with | 0, _ => rfl | 1, _ => rfl | 2, _ => rfl)))), trivial⟩, ⟨_, rfl, .inr (ob_rows (by rfl) (by (rw [show rdT b p e = ([], p, e) from rdT_1 (e := e) (by assumption)]; intro j hj; by_cases h0 : j = 0 <;> (simp [h0, gT]; done)))), trivial⟩, ⟨_, rfl, .inl rfl, ⟨rfl, trivial⟩⟩, trivial⟩⟩⟩
  ·refine HT.region S_rtext_p_ok ?_
   refine Sq (V.addI rfl rfl (by omega) (Sq (V.mi rfl (So.e (HT.seq (HT.region S_rtext_p_ok (Sq (V.bin (a := .v (.int .i64 _)) (b := .v (.int .i64 _)) (r := .v (.bool _)) rfl rfl rfl trivial (So.e (HT.seq ?_))))))))))
   refine R.cd rfl rfl (fun h4 => ?_) (fun h4 => ?_)
   ·exfalso; omega
   ·refine HT.exit ?_
    exact ret_ok (sg [(1, 1), (2, 2)]) h rfl rfl rfl ⟨trivial, trivial, trivial⟩ trivial rfl ⟨trivial, ⟨⟨_, rfl, .inl rfl, trivial⟩, ⟨_, rfl, .inl rfl, trivial⟩, trivial⟩⟩
 ·exfalso; omega
def rtext_sSp : Sp := ⟨[1, 2], mkE (α := (List UInt8) × Int × Int × (Nat -> PV)) (fun (b, p, e, f) => [.ptr 1 0, .own 3 0 (1)]) (fun (b, p, e, f) => [(1, ⟨72, 1, 3, true, .rows (fun j => ([.bs b, .v (.int .i64 p), .v (.int .i64 e)] : List PV).getD j (.v undef))⟩), (2, ⟨69, 1, 5, true, .rows (fun j => if j = 4 then .bs ([]) else f j)⟩), (3, ⟨64, 1, 1, true, .cells [.ptr 2 4]⟩)]) (fun (b, p, e, f) => True) (fun (b, p, e, f) => []) (fun (b, p, e, f) => [(1, ⟨72, 1, 3, true, .rows (fun j => ([.bs b, .v (.int .i64 (rdT b p e).2.1), .v (.int .i64 (rdT b p e).2.2)] : List PV).getD j (.v undef))⟩), (2, ⟨69, 1, 5, true, .rows (fun j => if j = 4 then .bs ((rdT b p e).1) else f j)⟩)])⟩
def S_rtext_s : FuncId -> Option Sp := fun f => if f = 50 then some getTextSp else none
theorem S_rtext_s_ok : ∀ f s, S_rtext_s f = some s -> FOK Tryd.prog gl f s := sI getText_ok sN
theorem S_rtext_s_det : ∀ f s, S_rtext_s f = some s -> SpDet s.sp := dI dN
theorem rtext_s_ok : FOK Tryd.prog gl 35 rtext_sSp := by
 refine FOK.ofE (tyOf_ok Tryd.prog) (slots := []) (nt := 39) Tryd.func35 rfl rfl rfl rfl (by decide) 2 (fun ⟨_, _, _, _⟩ => rfl) (by decide) (fun ⟨_, _, _, _⟩ => ⟨rfl, rfl, trivial⟩) ?_
 rintro ⟨b, p, e, f⟩ kk hlen hpre h
 have hl1 : _ <= 9223372036854775807 := hlen.2.1
 replace hpre : True := hpre
 show HT (cx Tryd.prog 39 (tyOf Tryd.prog) gl [1, 2]) _ [(0, .ptr 1 0), (1, .own 3 0 (1))] [(1, ⟨72, 1, 3, true, .rows (fun j => ([.bs b, .v (.int .i64 p), .v (.int .i64 e)] : List PV).getD j (.v undef))⟩), (2, ⟨69, 1, 5, true, .rows (fun j => if j = 4 then .bs ([]) else f j)⟩), (3, ⟨64, 1, 1, true, .cells [.ptr 2 4]⟩)] _
 refine HT.seq (HT.region S_rtext_s_ok (Sq (V.mv (v := .own 3 0 _) rfl (Sq (V.len ty61 (v := .own 3 0 _) rfl rfl (Sq (V.mv (v := .p (.v (.int .i64 0))) rfl (So.e (HT.block ?_)))))))))
 refine HT.rounds 2 ?_
 refine HT.seq (HT.region S_rtext_s_ok (Sq (V.bin (a := .v (.int .i64 _)) (b := .v (.int .i64 _)) (r := .v (.bool _)) rfl rfl rfl trivial (So.e (HT.seq ?_)))))
 refine R.cd rfl rfl (fun h1 => ?_) (fun h1 => ?_)
 ·refine HT.skip ?_
  refine R.cut True [] [(1, ⟨72, 1, 3, true, .rows (fun j => ([.bs b, .v (.int .i64 (rdT b p e).2.1), .v (.int .i64 (rdT b p e).2.2)] : List PV).getD j (.v undef))⟩), (2, ⟨69, 1, 5, true, .rows (fun j => if j = 4 then .bs ((rdT b p e).1) else f j)⟩)] [0, 6, 7, 8] [3] (fr0 := [(0, .ptr 1 0), (6, .own 3 0 _), (7, .p (.v (.int .i64 _))), (8, .p (.v (.int .i64 _)))]) (O0 := [(3, ⟨_, _, _, _, .cells _⟩)]) rfl rfl ?_ (fun hphi => ?_)
  ·refine HT.block ?_
   refine HT.seq (HT.region S_rtext_s_ok (Sq (V.ixOwn10 ty61 ty64 rfl rfl rfl rfl rfl (by omega) rfl (Sq (V.ld ty64 rfl rfl rfl (v := .ptr 2 4) rfl (Sq (V.as (v := .ptr 2 4) rfl (So.e (HT.seq (HT.region S_rtext_s_ok (Sq (V.mv (v := .ptr 1 0) rfl (Sq (V.ncPtr rfl (Sq (V.fa ty72 rfl ty27 rfl rfl (Sq (V.ld ty27 rfl rfl rfl (v := .p (.v (.int .i64 _))) rfl (Sq (V.bin (a := .v (.int .i64 _)) (b := .v (.int .i64 0)) (r := .v (.bool _)) rfl rfl rfl trivial (So.e ?_)))))))))))))))))))))
   refine R.cd rfl rfl (fun h2 => ?_) (fun h2 => ?_)
   ·refine HT.planS S_rtext_s_ok S_rtext_s_det mixed [] [⟨[0, 1, 2, 3, 4, 5, 6, 7, 8, 9, 10, 11, 12, 13, 14, 15, 16], 17, [1, 2, 14, 15]⟩, ⟨[1, 2, 14, 15, 18, 19], 20, [2, 15]⟩, ⟨[2, 15, 21, 22], 23, []⟩] (by kernel_rfl) ?_
    refine Pl.lk ?_
    refine Sj rfl (V.mv (v := .ptr 2 4) rfl (Sj rfl (V.mv (v := .ptr 1 0) rfl (Sj rfl (V.mv (v := .ptr 1 0) rfl (Sj rfl (V.mv (v := .ptr 1 0) rfl (Sj rfl (V.ncPtr rfl (Sj rfl (V.fa ty72 rfl ty23 rfl rfl (Sj rfl (V.ld ty23 rfl rfl rfl (v := .p (.bs _)) rfl (Sj rfl (V.mv (v := .ptr 1 0) rfl (Sj rfl (V.ncPtr rfl (Sj rfl (V.fa ty72 rfl ty3 rfl rfl (Sj rfl (V.ld ty3 rfl rfl rfl (v := .p (.v (.int .i64 _))) rfl ?_)))))))))))))))))))))
    refine Sj rfl (V.call [.p (.bs _), .p (.v (.int .i64 _))] 4 rfl rfl rfl rfl ⟨trivial, trivial, trivial⟩ ⟨lk rfl, lk rfl, trivial⟩ (_, _) ⟨.refl _, .refl _, trivial⟩ trivial (by trivial) (Φ := fun (b, i) => ((getTextF b i).2.2 = 0 -> 0 <= i /\ i < (getTextF b i).2.1 /\ (getTextF b i).2.1 <= b.length) /\ (getTextF b i).1.length <= 1048576) (fun (b, i) _ => ⟨getTextF_ok b i, getTextF_len b i⟩) (.inl ⟨trivial, trivial, trivial⟩) (v := .tup 3 _) rfl (fun h3 => ?_))
    try dsimp only at h3
    refine Sj rfl (V.mv (v := .tup 3 _) rfl (Sj rfl (V.ext rfl (lk rfl) (v := .p (.bs _)) rfl (Sj rfl (V.ei rfl rfl (Sj rfl (V.ei rfl rfl (Sj rfl (V.ncPtr rfl (Si.e ?_))))))))))
    refine ⟨flEq_nil, fun ff => ?_⟩
    refine Lo.s rfl (A.sto ty23 rfl rfl rfl (v := .p (.bs _)) rfl trivial rfl (lk rfl) rfl rfl ?_)
    refine ⟨_, fun ff => ff, ap0, rfl, FG.id, ?_⟩
    show planA _ _ _ _ _ [(1, .ptr 1 0), (2, .ptr 1 0), (14, .p (.v (.int .i64 _))), (15, .p (.v (.int .i64 _)))] _ _ _
    refine Pl.lk ?_
    refine Sj rfl (V.mv (v := .ptr 1 0) rfl (Sj rfl (V.mv (v := .ptr 1 0) rfl (Sj rfl (V.ei rfl rfl (Sj rfl (V.ei rfl rfl (Sj rfl (V.ncPtr rfl (Sj rfl (V.fa ty72 rfl ty3 rfl rfl (Si.e ?_))))))))))))
    refine ⟨(flEq_cons rfl (flEq_cons rfl (flEq_cons rfl (flEq_cons rfl flEq_nil)))), fun ff => ?_⟩
    refine Lo.s rfl (A.sto ty3 rfl rfl rfl (v := .p (.v (.int .i64 _))) rfl rfl rfl (lk rfl) rfl rfl ?_)
    refine ⟨_, fun ff => ff, ap0, rfl, FG.id, ?_⟩
    show planA _ _ _ _ _ [(2, .ptr 1 0), (15, .p (.v (.int .i64 _)))] _ _ _
    refine Pl.l0 ?_
    refine Sj rfl (V.mv (v := .ptr 1 0) rfl (Sj rfl (V.ei rfl rfl (Sj rfl (V.ncPtr rfl (Sj rfl (V.fa ty72 rfl ty27 rfl rfl (Si.e ?_))))))))
    refine ⟨(flEq_cons rfl (flEq_cons rfl flEq_nil)), ?_⟩
    refine Lo.s rfl (A.sto ty27 rfl rfl rfl (v := .p (.v (.int .i64 _))) rfl rfl rfl (lk rfl) rfl rfl ?_)
    refine Pl.e ?_
    refine Si.e ?_
    refine ⟨flEq_nil, ?_⟩
    exact ⟨by omega, ⟨⟨⟨.refl _, rfl⟩, ⟨.refl _, rfl⟩, ⟨.refl _, trivial⟩, ⟨.refl _, trivial⟩, trivial⟩, ⟨⟨_, rfl, .inr (ob_rows (by rfl) (by (rw [show rdT b p e = Go.Vh.gT b p from rdT_0 (e := e) (by assumption)]; (intro j hj; match j, hj with | 0, _ => rfl | 1, _ => rfl | 2, _ => rfl)))), trivial⟩, ⟨_, rfl, .inr (ob_rows (by rfl) (by (rw [show rdT b p e = Go.Vh.gT b p from rdT_0 (e := e) (by assumption)]; intro j hj; by_cases h4 : j = 4 <;> (simp [h4, gT]; done)))), trivial⟩, ⟨_, rfl, .inl rfl, ⟨rfl, trivial⟩⟩, trivial⟩⟩⟩
   ·refine HT.skip ?_
    exact ⟨by omega, ⟨⟨⟨.refl _, rfl⟩, ⟨.refl _, rfl⟩, ⟨.refl _, trivial⟩, ⟨.refl _, trivial⟩, trivial⟩, ⟨⟨_, rfl, .inr (ob_rows (by rfl) (by (rw [show rdT b p e = ([], p, e) from rdT_1 (e := e) (by assumption)]; (intro j hj; match j, hj with | 0, _ => rfl | 1, _ => rfl | 2, _ => rfl)))), trivial⟩, ⟨_, rfl, .inr (ob_rows (by rfl) (by (rw [show rdT b p e = ([], p, e) from rdT_1 (e := e) (by assumption)]; intro j hj; by_cases h4 : j = 4 <;> (simp [h4, gT]; done)))), trivial⟩, ⟨_, rfl, .inl rfl, ⟨rfl, trivial⟩⟩, trivial⟩⟩⟩
  ·refine HT.region S_rtext_s_ok ?_
   refine Sq (V.addI rfl rfl (by omega) (Sq (V.mi rfl (So.e (HT.seq (HT.region S_rtext_s_ok (Sq (V.bin (a := .v (.int .i64 _)) (b := .v (.int .i64 _)) (r := .v (.bool _)) rfl rfl rfl trivial (So.e (HT.seq ?_))))))))))
   refine R.cd rfl rfl (fun h4 => ?_) (fun h4 => ?_)
   ·exfalso; omega
   ·refine HT.exit ?_
    exact ret_ok (sg [(1, 1), (2, 2)]) h rfl rfl rfl ⟨trivial, trivial, trivial⟩ trivial rfl ⟨trivial, ⟨⟨_, rfl, .inl rfl, trivial⟩, ⟨_, rfl, .inl rfl, trivial⟩, trivial⟩⟩
 ·exfalso; omega
def rtext_bSp : Sp := ⟨[1, 2], mkE (α := (List UInt8) × Int × Int × (Nat -> PV)) (fun (b, p, e, f) => [.ptr 1 0, .own 3 0 (1)]) (fun (b, p, e, f) => [(1, ⟨72, 1, 3, true, .rows (fun j => ([.bs b, .v (.int .i64 p), .v (.int .i64 e)] : List PV).getD j (.v undef))⟩), (2, ⟨49, 1, 8, true, .rows (fun j => if j = 4 then .bs ([]) else f j)⟩), (3, ⟨64, 1, 1, true, .cells [.ptr 2 4]⟩)]) (fun (b, p, e, f) => True) (fun (b, p, e, f) => []) (fun (b, p, e, f) => [(1, ⟨72, 1, 3, true, .rows (fun j => ([.bs b, .v (.int .i64 (rdT b p e).2.1), .v (.int .i64 (rdT b p e).2.2)] : List PV).getD j (.v undef))⟩), (2, ⟨49, 1, 8, true, .rows (fun j => if j = 4 then .bs ((rdT b p e).1) else f j)⟩)])⟩
def S_rtext_b : FuncId -> Option Sp := fun f => if f = 50 then some getTextSp else none
theorem S_rtext_b_ok : ∀ f s, S_rtext_b f = some s -> FOK Tryd.prog gl f s := sI getText_ok sN
theorem S_rtext_b_det : ∀ f s, S_rtext_b f = some s -> SpDet s.sp := dI dN
theorem rtext_b_ok : FOK Tryd.prog gl 35 rtext_bSp := by
 refine FOK.ofE (tyOf_ok Tryd.prog) (slots := []) (nt := 39) Tryd.func35 rfl rfl rfl rfl (by decide) 2 (fun ⟨_, _, _, _⟩ => rfl) (by decide) (fun ⟨_, _, _, _⟩ => ⟨rfl, rfl, trivial⟩) ?_
 rintro ⟨b, p, e, f⟩ kk hlen hpre h
 have hl1 : _ <= 9223372036854775807 := hlen.2.1
 replace hpre : True := hpre
 show HT (cx Tryd.prog 39 (tyOf Tryd.prog) gl [1, 2]) _ [(0, .ptr 1 0), (1, .own 3 0 (1))] [(1, ⟨72, 1, 3, true, .rows (fun j => ([.bs b, .v (.int .i64 p), .v (.int .i64 e)] : List PV).getD j (.v undef))⟩), (2, ⟨49, 1, 8, true, .rows (fun j => if j = 4 then .bs ([]) else f j)⟩), (3, ⟨64, 1, 1, true, .cells [.ptr 2 4]⟩)] _
 refine HT.seq (HT.region S_rtext_b_ok (Sq (V.mv (v := .own 3 0 _) rfl (Sq (V.len ty61 (v := .own 3 0 _) rfl rfl (Sq (V.mv (v := .p (.v (.int .i64 0))) rfl (So.e (HT.block ?_)))))))))
 refine HT.rounds 2 ?_
 refine HT.seq (HT.region S_rtext_b_ok (Sq (V.bin (a := .v (.int .i64 _)) (b := .v (.int .i64 _)) (r := .v (.bool _)) rfl rfl rfl trivial (So.e (HT.seq ?_)))))
 refine R.cd rfl rfl (fun h1 => ?_) (fun h1 => ?_)
 ·refine HT.skip ?_
  refine R.cut True [] [(1, ⟨72, 1, 3, true, .rows (fun j => ([.bs b, .v (.int .i64 (rdT b p e).2.1), .v (.int .i64 (rdT b p e).2.2)] : List PV).getD j (.v undef))⟩), (2, ⟨49, 1, 8, true, .rows (fun j => if j = 4 then .bs ((rdT b p e).1) else f j)⟩)] [0, 6, 7, 8] [3] (fr0 := [(0, .ptr 1 0), (6, .own 3 0 _), (7, .p (.v (.int .i64 _))), (8, .p (.v (.int .i64 _)))]) (O0 := [(3, ⟨_, _, _, _, .cells _⟩)]) rfl rfl ?_ (fun hphi => ?_)
  ·refine HT.block ?_
   refine HT.seq (HT.region S_rtext_b_ok (Sq (V.ixOwn10 ty61 ty64 rfl rfl rfl rfl rfl (by omega) rfl (Sq (V.ld ty64 rfl rfl rfl (v := .ptr 2 4) rfl (Sq (V.as (v := .ptr 2 4) rfl (So.e (HT.seq (HT.region S_rtext_b_ok (Sq (V.mv (v := .ptr 1 0) rfl (Sq (V.ncPtr rfl (Sq (V.fa ty72 rfl ty27 rfl rfl (Sq (V.ld ty27 rfl rfl rfl (v := .p (.v (.int .i64 _))) rfl (Sq (V.bin (a := .v (.int .i64 _)) (b := .v (.int .i64 0)) (r := .v (.bool _)) rfl rfl rfl trivial (So.e ?_)))))))))))))))))))))
   refine R.cd rfl rfl (fun h2 => ?_) (fun h2 => ?_)
   ·refine HT.planS S_rtext_b_ok S_rtext_b_det mixed [] [⟨[0, 1, 2, 3, 4, 5, 6, 7, 8, 9, 10, 11, 12, 13, 14, 15, 16], 17, [1, 2, 14, 15]⟩, ⟨[1, 2, 14, 15, 18, 19], 20, [2, 15]⟩, ⟨[2, 15, 21, 22], 23, []⟩] (by kernel_rfl) ?_
    refine Pl.lk ?_
    refine Sj rfl (V.mv (v := .ptr 2 4) rfl (Sj rfl (V.mv (v := .ptr 1 0) rfl (Sj rfl (V.mv (v := .ptr 1 0) rfl (Sj rfl (V.mv (v := .ptr 1 0) rfl (Sj rfl (V.ncPtr rfl (Sj rfl (V.fa ty72 rfl ty23 rfl rfl (Sj rfl (V.ld ty23 rfl rfl rfl (v := .p (.bs _)) rfl (Sj rfl (V.mv (v := .ptr 1 0) rfl (Sj rfl (V.ncPtr rfl (Sj rfl (V.fa ty72 rfl ty3 rfl rfl (Sj rfl (V.ld ty3 rfl rfl rfl (v := .p (.v (.int .i64 _))) rfl ?_)))))))))))))))))))))
    refine Sj rfl (V.call [.p (.bs _), .p (.v (.int .i64 _))] 4 rfl rfl rfl rfl ⟨trivial, trivial, trivial⟩ ⟨lk rfl, lk rfl, trivial⟩ (_, _) ⟨.refl _, .refl _, trivial⟩ trivial (by trivial) (Φ := fun (b, i) => ((getTextF b i).2.2 = 0 -> 0 <= i /\ i < (getTextF b i).2.1 /\ (getTextF b i).2.1 <= b.length) /\ (getTextF b i).1.length <= 1048576) (fun (b, i) _ => ⟨getTextF_ok b i, getTextF_len b i⟩) (.inl ⟨trivial, trivial, trivial⟩) (v := .tup 3 _) rfl (fun h3 => ?_))
    try dsimp only at h3
    refine Sj rfl (V.mv (v := .tup 3 _) rfl (Sj rfl (V.ext rfl (lk rfl) (v := .p (.bs _)) rfl (Sj rfl (V.ei rfl rfl (Sj rfl (V.ei rfl rfl (Sj rfl (V.ncPtr rfl (Si.e ?_))))))))))
    refine ⟨flEq_nil, fun ff => ?_⟩
    refine Lo.s rfl (A.sto ty23 rfl rfl rfl (v := .p (.bs _)) rfl trivial rfl (lk rfl) rfl rfl ?_)
    refine ⟨_, fun ff => ff, ap0, rfl, FG.id, ?_⟩
    show planA _ _ _ _ _ [(1, .ptr 1 0), (2, .ptr 1 0), (14, .p (.v (.int .i64 _))), (15, .p (.v (.int .i64 _)))] _ _ _
    refine Pl.lk ?_
    refine Sj rfl (V.mv (v := .ptr 1 0) rfl (Sj rfl (V.mv (v := .ptr 1 0) rfl (Sj rfl (V.ei rfl rfl (Sj rfl (V.ei rfl rfl (Sj rfl (V.ncPtr rfl (Sj rfl (V.fa ty72 rfl ty3 rfl rfl (Si.e ?_))))))))))))
    refine ⟨(flEq_cons rfl (flEq_cons rfl (flEq_cons rfl (flEq_cons rfl flEq_nil)))), fun ff => ?_⟩
    refine Lo.s rfl (A.sto ty3 rfl rfl rfl (v := .p (.v (.int .i64 _))) rfl rfl rfl (lk rfl) rfl rfl ?_)
    refine ⟨_, fun ff => ff, ap0, rfl, FG.id, ?_⟩
    show planA _ _ _ _ _ [(2, .ptr 1 0), (15, .p (.v (.int .i64 _)))] _ _ _
    refine Pl.l0 ?_
    refine Sj rfl (V.mv (v := .ptr 1 0) rfl (Sj rfl (V.ei rfl rfl (Sj rfl (V.ncPtr rfl (Sj rfl (V.fa ty72 rfl ty27 rfl rfl (Si.e ?_))))))))
    refine ⟨(flEq_cons rfl (flEq_cons rfl flEq_nil)), ?_⟩
    refine Lo.s rfl (A.sto ty27 rfl rfl rfl (v := .p (.v (.int .i64 _))) rfl rfl rfl (lk rfl) rfl rfl ?_)
    refine Pl.e ?_
    refine Si.e ?_
    refine ⟨flEq_nil, ?_⟩
    exact ⟨by omega, ⟨⟨⟨.refl _, rfl⟩, ⟨.refl _, rfl⟩, ⟨.refl _, trivial⟩, ⟨.refl _, trivial⟩, trivial⟩, ⟨⟨_, rfl, .inr (ob_rows (by rfl) (by (rw [show rdT b p e = Go.Vh.gT b p from rdT_0 (e := e) (by assumption)]; (intro j hj; match j, hj with | 0, _ => rfl | 1, _ => rfl | 2, _ => rfl)))), trivial⟩, ⟨_, rfl, .inr (ob_rows (by rfl) (by (rw [show rdT b p e = Go.Vh.gT b p from rdT_0 (e := e) (by assumption)]; intro j hj; by_cases h4 : j = 4 <;> (simp [h4, gT]; done)))), trivial⟩, ⟨_, rfl, .inl rfl, ⟨rfl, trivial⟩⟩, trivial⟩⟩⟩
   ·refine HT.skip ?_
    exact ⟨by omega, ⟨⟨⟨.refl _, rfl⟩, ⟨.refl _, rfl⟩, ⟨.refl _, trivial⟩, ⟨.refl _, trivial⟩, trivial⟩, ⟨⟨_, rfl, .inr (ob_rows (by rfl) (by (rw [show rdT b p e = ([], p, e) from rdT_1 (e := e) (by assumption)]; (intro j hj; match j, hj with | 0, _ => rfl | 1, _ => rfl | 2, _ => rfl)))), trivial⟩, ⟨_, rfl, .inr (ob_rows (by rfl) (by (rw [show rdT b p e = ([], p, e) from rdT_1 (e := e) (by assumption)]; intro j hj; by_cases h4 : j = 4 <;> (simp [h4, gT]; done)))), trivial⟩, ⟨_, rfl, .inl rfl, ⟨rfl, trivial⟩⟩, trivial⟩⟩⟩
  ·refine HT.region S_rtext_b_ok ?_
   refine Sq (V.addI rfl rfl (by omega) (Sq (V.mi rfl (So.e (HT.seq (HT.region S_rtext_b_ok (Sq (V.bin (a := .v (.int .i64 _)) (b := .v (.int .i64 _)) (r := .v (.bool _)) rfl rfl rfl trivial (So.e (HT.seq ?_))))))))))
   refine R.cd rfl rfl (fun h4 => ?_) (fun h4 => ?_)
   ·exfalso; omega
   ·refine HT.exit ?_
    exact ret_ok (sg [(1, 1), (2, 2)]) h rfl rfl rfl ⟨trivial, trivial, trivial⟩ trivial rfl ⟨trivial, ⟨⟨_, rfl, .inl rfl, trivial⟩, ⟨_, rfl, .inl rfl, trivial⟩, trivial⟩⟩
 ·exfalso; omega
def frnumSp : Sp := ⟨[1], mkE (α := (List UInt8) × Int × Int × Int) (fun (b, p, e, k) => [.ptr 1 0, .p (.v (.int .i64 k))]) (fun (b, p, e, k) => [(1, ⟨72, 1, 3, true, .rows (fun j => ([.bs b, .v (.int .i64 p), .v (.int .i64 e)] : List PV).getD j (.v undef))⟩)]) (fun (b, p, e, k) => True) (fun (b, p, e, k) => [.p (.v (.int .i64 ((rdN b p e k).1)))]) (fun (b, p, e, k) => [(1, ⟨72, 1, 3, true, .rows (fun j => ([.bs b, .v (.int .i64 (rdN b p e k).2.1), .v (.int .i64 (rdN b p e k).2.2)] : List PV).getD j (.v undef))⟩)])⟩
def S_frnum : FuncId -> Option Sp := fun f => if f = 51 then some getSp else none
theorem S_frnum_ok : ∀ f s, S_frnum f = some s -> FOK Tryd.prog gl f s := sI get_ok sN
theorem S_frnum_det : ∀ f s, S_frnum f = some s -> SpDet s.sp := dI dN
theorem frnum_ok : FOK Tryd.prog gl 37 frnumSp := by
 refine FOK.ofE (tyOf_ok Tryd.prog) (slots := [4]) (nt := 32) Tryd.func37 rfl rfl rfl rfl (by decide) 2 (fun ⟨_, _, _, _⟩ => rfl) (by decide) (fun ⟨_, _, _, _⟩ => ⟨rfl, trivial, trivial⟩) ?_
 rintro ⟨b, p, e, k⟩ kk hlen hpre h
 replace hpre : True := hpre
 show HT (cx Tryd.prog 32 (tyOf Tryd.prog) gl [1]) _ [(0, .ptr 1 0), (1, .p (.v (.int .i64 k)))] [(1, ⟨72, 1, 3, true, .rows (fun j => ([.bs b, .v (.int .i64 p), .v (.int .i64 e)] : List PV).getD j (.v undef))⟩)] _
 refine HT.seq (HT.region S_frnum_ok (Sq (V.as (v := .p (.v (.int .i64 0))) rfl (So.e (HT.seq (HT.region S_frnum_ok (Sq (V.as (v := .p (.v (.int .i64 0))) rfl (So.e (HT.seq (HT.seq (HT.region S_frnum_ok (Sq (V.mv (v := .ptr 1 0) rfl (Sq (V.ncPtr rfl (Sq (V.fa ty72 rfl ty27 rfl rfl (Sq (V.ld ty27 rfl rfl rfl (v := .p (.v (.int .i64 _))) rfl (Sq (V.bin (a := .v (.int .i64 _)) (b := .v (.int .i64 0)) (r := .v (.bool _)) rfl rfl rfl trivial (So.e ?_)))))))))))))))))))))))
 refine R.cd rfl rfl (fun h1 => ?_) (fun h1 => ?_)
 ·refine HT.planS S_frnum_ok S_frnum_det mixed [] [⟨[0, 1, 2, 3, 4, 5, 6, 7, 8, 9, 10, 11, 12, 13, 14, 15, 16, 17, 18], 19, [1, 15]⟩, ⟨[1, 15, 20, 21], 22, []⟩] (by kernel_rfl) ?_
  refine Pl.lk ?_
  refine Sj rfl (V.mv (v := .ptr 1 0) rfl (Sj rfl (V.mv (v := .ptr 1 0) rfl (Sj rfl (V.mv (v := .ptr 1 0) rfl (Sj rfl (V.ncPtr rfl (Sj rfl (V.fa ty72 rfl ty23 rfl rfl (Sj rfl (V.ld ty23 rfl rfl rfl (v := .p (.bs _)) rfl (Sj rfl (V.mv (v := .ptr 1 0) rfl (Sj rfl (V.ncPtr rfl (Sj rfl (V.fa ty72 rfl ty3 rfl rfl (Sj rfl (V.ld ty3 rfl rfl rfl (v := .p (.v (.int .i64 _))) rfl (Sj rfl (V.mv (v := .p (.v (.int .i64 _))) rfl ?_)))))))))))))))))))))
  refine Sj rfl (V.call [.p (.bs _), .p (.v (.int .i64 _)), .p (.v (.int .i64 _))] 2 rfl rfl rfl rfl ⟨trivial, trivial, trivial, trivial⟩ ⟨lk rfl, trivial⟩ (_, _, _) ⟨.refl _, .refl _, .refl _, trivial⟩ trivial (by trivial) (Φ := fun (b, i, n) => 0 <= (getF b i n).2.1 /\ (getF b i n).2.1 <= b.length) (fun (b, i, n) _ => ⟨(getF_from b i n).1, (getF_from b i n).2.1⟩) (.inl ⟨trivial, trivial, trivial, trivial⟩) (v := .tup 3 _) rfl (fun h2 => ?_))
  try dsimp only at h2
  refine Sj rfl (V.mv (v := .tup 3 _) rfl (Sj rfl (V.ei rfl rfl (Sj rfl (V.ei rfl rfl (Sj rfl (V.ei rfl rfl (Sj rfl (V.ai rfl (Sj rfl (V.ncPtr rfl (Sj rfl (V.fa ty72 rfl ty3 rfl rfl (Si.e ?_))))))))))))))
  refine ⟨flEq_nil, fun ff => ?_⟩
  refine Lo.s rfl (A.sto ty3 rfl rfl rfl (v := .p (.v (.int .i64 _))) rfl rfl rfl (lk rfl) rfl rfl ?_)
  refine ⟨_, fun ff => ff, ap0, rfl, FG.id, ?_⟩
  show planA _ _ _ _ _ [(1, .ptr 1 0), (15, .p (.v (.int .i64 _)))] _ _ _
  refine Pl.l0 ?_
  refine Sj rfl (V.mv (v := .ptr 1 0) rfl (Sj rfl (V.ei rfl rfl (Sj rfl (V.ncPtr rfl (Sj rfl (V.fa ty72 rfl ty27 rfl rfl (Si.e ?_))))))))
  refine ⟨(flEq_cons rfl (flEq_cons rfl flEq_nil)), ?_⟩
  refine Lo.s rfl (A.sto ty27 rfl rfl rfl (v := .p (.v (.int .i64 _))) rfl rfl rfl (lk rfl) rfl rfl ?_)
  refine Pl.e ?_
  refine Si.e ?_
  refine ⟨flEq_nil, ?_⟩
  refine HT.seq (HT.region S_frnum_ok (Sq (V.mi rfl (Sq (V.ai rfl (So.e ?_))))))
  refine HT.ret ?_
  exact ret_ok (sg [(1, 1)]) h rfl rfl rfl ⟨trivial, trivial⟩ ⟨trivial, trivial⟩ rfl ⟨⟨⟨le_int (by (rw [rdN_0 (by assumption)]; done)), trivial⟩, trivial⟩, ⟨⟨_, rfl, .inr (ob_rows (by rfl) (by rw [rdN_0 (by assumption)]; (intro j hj; match j, hj with | 0, _ => rfl | 1, _ => rfl | 2, _ => rfl))), trivial⟩, trivial⟩⟩
 ·refine HT.skip (HT.seq (HT.region S_frnum_ok (Sq (V.mi rfl (Sq (V.ai rfl (So.e ?_)))))))
  refine HT.ret ?_
  exact ret_ok (sg [(1, 1)]) h rfl rfl rfl ⟨trivial, trivial⟩ ⟨trivial, trivial⟩ rfl ⟨⟨⟨le_int (by (rw [rdN_1 (by assumption)]; done)), trivial⟩, trivial⟩, ⟨⟨_, rfl, .inr (ob_rows (by rfl) (by rw [rdN_1 (by assumption)]; (intro j hj; match j, hj with | 0, _ => rfl | 1, _ => rfl | 2, _ => rfl))), trivial⟩, trivial⟩⟩
def rplaceSp : Sp := ⟨[1], mkE (α := (List UInt8) × Int × Int) (fun (b, p, e) => [.ptr 1 0]) (fun (b, p, e) => [(1, ⟨72, 1, 3, true, .rows (fun j => ([.bs b, .v (.int .i64 p), .v (.int .i64 e)] : List PV).getD j (.v undef))⟩)]) (fun (b, p, e) => True) (fun (b, p, e) => [.agg 3 (fun j => ([.bs (pl1 b p e).1, .v (.int .i64 ((pl2 b p e).1)), .v (.int .i64 ((pl3 b p e).1))] : List PV).getD j (.v undef))]) (fun (b, p, e) => [(1, ⟨72, 1, 3, true, .rows (fun j => ([.bs b, .v (.int .i64 (pl3 b p e).2.1), .v (.int .i64 (pl3 b p e).2.2)] : List PV).getD j (.v undef))⟩)])⟩
def S_rplace : FuncId -> Option Sp := fun f => if f = 35 then some rtext_pSp else if f = 37 then some frnumSp else none
theorem S_rplace_ok : ∀ f s, S_rplace f = some s -> FOK Tryd.prog gl f s := sI rtext_p_ok (sI frnum_ok sN)
theorem rplace_ok : FOK Tryd.prog gl 36 rplaceSp := by
 refine FOK.ofEC (tyOf_ok Tryd.prog) (rvs := [.cell 2 75]) (nt := 15) Tryd.func36 rfl rfl rfl rfl (by decide) 1 (fun ⟨_, _, _⟩ => rfl) (by decide) (fun ⟨_, _, _⟩ => ⟨rfl, trivial⟩) ?_
 rintro ⟨b, p, e⟩ kk hlen hpre h
 replace hpre : True := hpre
 show HT (cx Tryd.prog 15 (tyOf Tryd.prog) gl [1]) _ [(0, .ptr 1 0)] [(1, ⟨72, 1, 3, true, .rows (fun j => ([.bs b, .v (.int .i64 p), .v (.int .i64 e)] : List PV).getD j (.v undef))⟩)] _
 refine HT.seq (HT.region S_rplace_ok (So.n (lk rfl) (A.alloc 2 1 ty75 rfl ⟨lk rfl, trivial⟩ (f := fun j => ([.v (.slice none 0 0), .v (.int .i64 0), .v (.int .i64 0)] : List PV).getD j (.v undef)) (fun j hj => by match j, hj with | 0, _ => rfl | 1, _ => rfl | 2, _ => rfl) (So.e (HT.seq (HT.region S_rplace_ok (So.n (lk rfl) (A.alloc 3 1 ty75 rfl ⟨lk rfl, trivial⟩ (f := fun j => ([.v (.slice none 0 0), .v (.int .i64 0), .v (.int .i64 0)] : List PV).getD j (.v undef)) (fun j hj => by match j, hj with | 0, _ => rfl | 1, _ => rfl | 2, _ => rfl) (So.e (HT.seq ?_))))))))))
 refine R.tell [] [(3, ⟨75, 1, 3, true, .rows (fun j => if j = 0 then .bs [] else .v (.int .i64 0))⟩)] [0, 2, 3] [1, 2] (fr0 := [(0, .ptr 1 0), (2, .ptr 2 0), (3, .ptr 3 0)]) (O0 := [(1, ⟨_, _, _, _, .rows _⟩), (2, ⟨_, _, _, _, .rows _⟩)]) rfl rfl ⟨⟨⟨.refl _, rfl⟩, ⟨.refl _, rfl⟩, ⟨.refl _, rfl⟩, trivial⟩, ⟨⟨_, rfl, .inr (ob_rowsL (by intro j hj; match j, hj with | 0, _ => exact le_nil rfl | 1, _ => exact .refl _ | 2, _ => exact .refl _)), trivial⟩, ⟨_, rfl, .inl rfl, trivial⟩, ⟨_, rfl, .inl rfl, trivial⟩, trivial⟩⟩ ?_
 refine HT.region S_rplace_ok (Sq (V.mv (v := .ptr 1 0) rfl (Sq (V.fa ty75 rfl ty23 rfl rfl (So.n (lk rfl) (A.bsl 4 ty61 ty64 rfl (lk rfl) (lk rfl) (fun _ => rfl) rfl rfl ⟨lk rfl, trivial⟩ ⟨trivial, trivial⟩ rfl (N := 1) rfl (c := .cells [.ptr 3 0]) rfl ?_))))))
 refine So.n (lk rfl) (A.call [.ptr 1 _, .own 3 _ _] [(1, ⟨_, _, _, _, .rows _⟩), (2, ⟨_, _, _, _, .rows _⟩), (3, ⟨_, _, _, _, .cells [.ptr 2 0]⟩)] (sg [(1, 1), (3, 4), (2, 3)]) 5 rfl rfl rfl rfl ⟨rfl, rfl, rfl, trivial⟩ rfl ⟨trivial, trivial, ⟨rfl, trivial⟩, trivial⟩ ⟨rfl, rfl, trivial⟩ ⟨lk rfl, trivial⟩ rfl (b, p, e, fun _ => .v (.int .i64 0)) ⟨.refl _, .refl _, trivial⟩ ⟨⟨_, rfl, .inl rfl, trivial⟩, ⟨_, rfl, .inl rfl, trivial⟩, ⟨_, rfl, .inl rfl, ⟨rfl, trivial⟩⟩, trivial⟩ (by trivial) tT ⟨⟨_, _, rfl, rfl, rfl, Nat.le_refl _⟩, ⟨_, _, rfl, rfl, rfl, Nat.le_refl _⟩, trivial⟩ (.inl rfl) rfl (v := .tup 0 _) rfl (O' := (1, ⟨_, _, _, _, .rows _⟩) :: (3, ⟨_, _, _, _, .rows _⟩) :: _) rfl (fun h1 => ?_))
 refine So.e (HT.seq ?_)
 refine R.tell [] [(3, ⟨75, 1, 3, true, .rows (fun j => ([.bs (pl1 b p e).1, .v (.int .i64 0), .v (.int .i64 0)] : List PV).getD j (.v undef))⟩)] [0, 2, 3] [1, 2] (fr0 := [(0, .ptr 1 0), (2, .ptr 2 0), (3, .ptr 3 0)]) (O0 := [(1, ⟨_, _, _, _, .rows _⟩), (2, ⟨_, _, _, _, .rows _⟩)]) rfl rfl ⟨⟨⟨.refl _, rfl⟩, ⟨.refl _, rfl⟩, ⟨.refl _, rfl⟩, trivial⟩, ⟨⟨_, rfl, .inr (ob_rows (by rfl) (by (intro j hj; match j, hj with | 0, _ => rfl | 1, _ => rfl | 2, _ => rfl))), trivial⟩, ⟨_, rfl, .inl rfl, trivial⟩, ⟨_, rfl, .inl rfl, trivial⟩, trivial⟩⟩ ?_
 refine HT.region S_rplace_ok (Sq (V.mv (v := .ptr 1 0) rfl ?_))
 refine So.n (lk rfl) (A.call [.ptr 1 _, .p (.v (.int .i64 _))] [(1, ⟨_, _, _, _, .rows _⟩)] (sg [(1, 1)]) 4 rfl rfl rfl rfl ⟨rfl, trivial⟩ rfl ⟨trivial, trivial⟩ ⟨rfl, trivial, trivial⟩ ⟨lk rfl, trivial⟩ rfl (b, (pl1 b p e).2.1, (pl1 b p e).2.2, 8) ⟨.refl _, .refl _, trivial⟩ ⟨⟨_, rfl, .inl rfl, trivial⟩, trivial⟩ (by trivial) tT ⟨⟨_, _, rfl, rfl, rfl, Nat.le_refl _⟩, trivial⟩ (.inl rfl) rfl (v := .p (.v (.int .i64 _))) rfl (O' := (1, ⟨_, _, _, _, .rows _⟩) :: _) rfl (fun h2 => ?_))
 refine Sq (V.fa ty75 rfl ty2 rfl rfl (So.s (A.sto ty2 rfl rfl rfl (v := .p (.v (.int .i64 _))) rfl rfl rfl (lk rfl) rfl rfl (So.e (HT.seq (HT.region S_rplace_ok (Sq (V.mv (v := .ptr 1 0) rfl ?_))))))))
 refine So.n (lk rfl) (A.call [.ptr 1 _, .p (.v (.int .i64 _))] [(1, ⟨_, _, _, _, .rows _⟩)] (sg [(1, 1)]) 4 rfl rfl rfl rfl ⟨rfl, trivial⟩ rfl ⟨trivial, trivial⟩ ⟨rfl, trivial, trivial⟩ ⟨lk rfl, trivial⟩ rfl (b, (pl2 b p e).2.1, (pl2 b p e).2.2, 4) ⟨.refl _, .refl _, trivial⟩ ⟨⟨_, rfl, .inl rfl, trivial⟩, trivial⟩ (by trivial) tT ⟨⟨_, _, rfl, rfl, rfl, Nat.le_refl _⟩, trivial⟩ (.inl rfl) rfl (v := .p (.v (.int .i64 _))) rfl (O' := (1, ⟨_, _, _, _, .rows _⟩) :: _) rfl (fun h3 => ?_))
 refine Sq (V.fa ty75 rfl ty3 rfl rfl (So.s (A.sto ty3 rfl rfl rfl (v := .p (.v (.int .i64 _))) rfl rfl rfl (lk rfl) rfl rfl (So.e (HT.seq ?_)))))
 refine R.tell [] [(3, ⟨75, 1, 3, true, .rows (fun j => ([.bs (pl1 b p e).1, .v (.int .i64 ((pl2 b p e).1)), .v (.int .i64 ((pl3 b p e).1))] : List PV).getD j (.v undef))⟩)] [2, 3] [1, 2] (fr0 := [(2, .ptr 2 0), (3, .ptr 3 0)]) (O0 := [(1, ⟨_, _, _, _, .rows _⟩), (2, ⟨_, _, _, _, .rows _⟩)]) rfl rfl ⟨⟨⟨.refl _, rfl⟩, ⟨.refl _, rfl⟩, trivial⟩, ⟨⟨_, rfl, .inr (ob_rows (by rfl) (by (intro j hj; match j, hj with | 0, _ => rfl | 1, _ => rfl | 2, _ => rfl))), trivial⟩, ⟨_, rfl, .inl rfl, trivial⟩, ⟨_, rfl, .inl rfl, trivial⟩, trivial⟩⟩ ?_
 refine HT.region S_rplace_ok (Sq (V.ldPtrA ty75 rfl rfl rfl rfl (lk rfl) (So.s (A.stoAg ty75 rfl (n := 3) rfl (by decide) (by intro j hj; (match j, hj with | 0, _ => (trivial) | 1, _ => (trivial) | 2, _ => (trivial))) rfl rfl rfl (So.e ?_)))))
 refine HT.ret ?_
 exact retC_ok (sg [(1, 1)]) [(2, .ptr 2 0)] [(2, ⟨75, 1, 3, true, .rows (fun j => ([.bs (pl1 b p e).1, .v (.int .i64 ((pl2 b p e).1)), .v (.int .i64 ((pl3 b p e).1))] : List PV).getD j (.v undef))⟩), (1, ⟨72, 1, 3, true, .rows (fun j => ([.bs b, .v (.int .i64 (pl3 b p e).2.1), .v (.int .i64 (pl3 b p e).2.2)] : List PV).getD j (.v undef))⟩)] h ⟨⟨⟨.refl _, rfl⟩, trivial⟩, ⟨⟨_, rfl, .inr (ob_rows rfl (by intro j hj; ((try dsimp only); ((match j, hj with | 0, _ => rfl | 1, _ => rfl | 2, _ => rfl))))), trivial⟩, ⟨_, rfl, .inr (ob_rows (by rfl) (by intro j hj; match j, hj with | 0, _ => rfl | 1, _ => rfl | 2, _ => rfl)), trivial⟩, trivial⟩⟩ ⟨rvA_cell ty75 rfl rfl rfl rfl (Nat.le_refl _) (le_agg (fun j _ => by (dsimp only; rw [Nat.zero_add]))), trivial⟩ ⟨rfl, trivial⟩ rfl ⟨trivial, trivial⟩ ⟨trivial, trivial⟩ rfl
def rendSp : Sp := ⟨[1], mkE (α := (List UInt8) × Int × Int × Bool) (fun (b, p, e, is) => [.ptr 1 0, .p (.v (.bool is))]) (fun (b, p, e, is) => [(1, ⟨72, 1, 3, true, .rows (fun j => ([.bs b, .v (.int .i64 p), .v (.int .i64 e)] : List PV).getD j (.v undef))⟩)]) (fun (b, p, e, is) => True) (fun (b, p, e, is) => [.p (.v (.int .i64 (endF b p e is)))]) (fun (b, p, e, is) => [(1, ⟨72, 1, 3, true, .rows (fun j => ([.bs b, .v (.int .i64 p), .v (.int .i64 e)] : List PV).getD j (.v undef))⟩)])⟩
def S_rend : FuncId -> Option Sp := fun _ => none
theorem S_rend_ok : ∀ f s, S_rend f = some s -> FOK Tryd.prog gl f s := fun f s h => by cases h
theorem S_rend_det : ∀ f s, S_rend f = some s -> SpDet s.sp := fun f s h => by cases h
theorem rend_ok : FOK Tryd.prog gl 38 rendSp := by
 refine FOK.ofE (tyOf_ok Tryd.prog) (slots := [4]) (nt := 30) Tryd.func38 rfl rfl rfl rfl (by decide) 2 (fun ⟨_, _, _, _⟩ => rfl) (by decide) (fun ⟨_, _, _, _⟩ => ⟨rfl, trivial, trivial⟩) ?_
 rintro ⟨b, p, e, is⟩ kk hlen hpre h
 replace hpre : True := hpre
 show HT (cx Tryd.prog 30 (tyOf Tryd.prog) gl [1]) _ [(0, .ptr 1 0), (1, .p (.v (.bool is)))] [(1, ⟨72, 1, 3, true, .rows (fun j => ([.bs b, .v (.int .i64 p), .v (.int .i64 e)] : List PV).getD j (.v undef))⟩)] _
 refine HT.seq (HT.region S_rend_ok (Sq (V.as (v := .p (.v (.int .i64 0))) rfl (So.e (HT.seq (HT.seq ?_))))))
 refine HT.drawn S_rend_ok S_rend_det mixed (by kernel_rfl) ?_
 refine Sd.n (lk rfl) (V.mv (v := .ptr 1 0) rfl (Sd.n (lk rfl) (V.ncPtr rfl (Sd.n (lk rfl) (V.fa ty72 rfl ty27 rfl rfl (Sd.n (lk rfl) (V.ld ty27 rfl rfl rfl (v := .p (.v (.int .i64 _))) rfl (Sd.n (lk rfl) (V.bin (a := .v (.int .i64 _)) (b := .v (.int .i64 0)) (r := .v (.bool _)) rfl rfl rfl trivial (Sd.n (lk rfl) (V.mv (v := .p (.v (.bool _))) rfl ?_)))))))))))
 refine Sd.gd rfl rfl (lk rfl) (lk rfl) (fun h1 => ?_) (fun h1 => ?_)
 ·have h1 := of_decide_eq_true h1
  refine V.mv (v := .ptr 1 0) rfl ?_
  refine Sd.gy rfl rfl (lk rfl) (lk rfl) ?_
  refine V.ncPtr rfl ?_
  refine Sd.gy rfl rfl (lk rfl) (lk rfl) ?_
  refine V.faPtr ty72 rfl ty3 (lk rfl) rfl rfl (lk rfl) ?_
  refine Sd.gy rfl rfl (lk rfl) (lk rfl) ?_
  refine V.ld ty3 rfl rfl rfl (v := .p (.v (.int .i64 _))) rfl ?_
  refine Sd.gy rfl rfl (lk rfl) (lk rfl) ?_
  refine V.mv (v := .ptr 1 0) rfl ?_
  refine Sd.gy rfl rfl (lk rfl) (lk rfl) ?_
  refine V.ncPtr rfl ?_
  refine Sd.gy rfl rfl (lk rfl) (lk rfl) ?_
  refine V.faPtr ty72 rfl ty23 (lk rfl) rfl rfl (lk rfl) ?_
  refine Sd.gy rfl rfl (lk rfl) (lk rfl) ?_
  refine V.ld ty23 rfl rfl rfl (v := .p (.bs _)) rfl ?_
  refine Sd.gy rfl rfl (lk rfl) (lk rfl) ?_
  refine V.len ty23 (v := .p (.bs _)) rfl rfl ?_
  refine Sd.gy rfl rfl (lk rfl) (lk rfl) ?_
  refine V.bin (a := .v (.int .i64 _)) (b := .v (.int .i64 _)) (r := .v (.bool _)) rfl rfl rfl trivial ?_
  refine Sd.gy rfl rfl (lk rfl) (lk rfl) ?_
  refine V.mv (v := .p (.v (.bool _))) rfl ?_
  refine Sd.gd rfl rfl (lk rfl) (lk rfl) (fun h2 => ?_) (fun h2 => ?_)
  ·have h2 := of_decide_eq_true (bnF h2)
   refine V.mv (v := .p (.v (.bool _))) rfl ?_
   refine Sd.gy rfl rfl (lk rfl) (lk rfl) ?_
   refine V.not rfl ?_
   refine Sd.gy rfl rfl (lk rfl) (lk rfl) ?_
   refine V.pkFalse (u := .p (.v (.bool _))) rfl rfl ?_
   refine Sd.n (lk rfl) (V.pkTrue (u := .p (.v (.bool _))) rfl rfl (Sd.e ?_))
   refine R.cond rfl rfl (fun h3 => ?_) (fun h3 => ?_)
   ·refine HT.seq ?_
    refine HT.region S_rend_ok (Sq (V.as (v := .p (.v (.int .i64 181))) rfl (So.e ?_)))
    refine HT.ret ?_
    exact ret_ok (sg [(1, 1)]) h rfl rfl rfl ⟨trivial, trivial⟩ ⟨trivial, trivial⟩ rfl ⟨⟨⟨le_int (by exact (endF_2 (by assumption) (by cases is <;> simp_all)).symm), trivial⟩, trivial⟩, ⟨⟨_, rfl, .inl rfl, trivial⟩, trivial⟩⟩
   ·refine HT.skip ?_
    refine HT.seq (HT.region S_rend_ok (Sq (V.mv (v := .ptr 1 0) rfl (Sq (V.ncPtr rfl (Sq (V.fa ty72 rfl ty27 rfl rfl (Sq (V.ld ty27 rfl rfl rfl (v := .p (.v (.int .i64 _))) rfl (Sq (V.ai rfl (So.e ?_))))))))))))
    refine HT.ret ?_
    exact ret_ok (sg [(1, 1)]) h rfl rfl rfl ⟨trivial, trivial⟩ ⟨trivial, trivial⟩ rfl ⟨⟨⟨le_int (by exact (endF_3 (by assumption) (by assumption) (by cases is <;> simp_all)).symm), trivial⟩, trivial⟩, ⟨⟨_, rfl, .inl rfl, trivial⟩, trivial⟩⟩
  ·have h2 := of_decide_eq_false (bnT h2)
   refine Sd.gn (b := true) rfl rfl rfl (lk rfl) (lk rfl) (Sd.gy rfl rfl (lk rfl) (lk rfl) ?_)
   refine V.pkTrue (u := .p (.v (.bool true))) rfl rfl ?_
   refine Sd.n (lk rfl) (V.pkTrue (u := .p (.v (.bool true))) rfl rfl (Sd.e ?_))
   refine R.condT rfl ?_
   refine HT.seq (HT.region S_rend_ok (Sq (V.as (v := .p (.v (.int .i64 181))) rfl (So.e ?_))))
   refine HT.ret ?_
   exact ret_ok (sg [(1, 1)]) h rfl rfl rfl ⟨trivial, trivial⟩ ⟨trivial, trivial⟩ rfl ⟨⟨⟨le_int (by exact (endF_1 (by assumption) (by assumption)).symm), trivial⟩, trivial⟩, ⟨⟨_, rfl, .inl rfl, trivial⟩, trivial⟩⟩
 ·have h1 := of_decide_eq_false h1
  refine Sd.gn (b := false) rfl rfl rfl (lk rfl) (lk rfl) (Sd.gn (b := false) rfl rfl rfl (lk rfl) (lk rfl) (Sd.gn (b := false) rfl rfl rfl (lk rfl) (lk rfl) (Sd.gn (b := false) rfl rfl rfl (lk rfl) (lk rfl) (Sd.gn (b := false) rfl rfl rfl (lk rfl) (lk rfl) (Sd.gn (b := false) rfl rfl rfl (lk rfl) (lk rfl) (Sd.gn (b := false) rfl rfl rfl (lk rfl) (lk rfl) (Sd.gn (b := false) rfl rfl rfl (lk rfl) (lk rfl) (Sd.gn (b := false) rfl rfl rfl (lk rfl) (lk rfl) (Sd.gn (b := false) rfl rfl rfl (lk rfl) (lk rfl) ?_)))))))))
  refine Sd.gu rfl rfl (lk rfl) ?_
  refine Sd.gu rfl rfl (lk rfl) ?_
  refine Sd.gn (b := false) rfl rfl rfl (lk rfl) (lk rfl) (Sd.n (lk rfl) (V.pkFalse (u := .p (.v (.bool false))) rfl rfl (Sd.e ?_)))
  refine R.condF rfl ?_
  refine HT.skip (HT.seq (HT.region S_rend_ok (Sq (V.mv (v := .ptr 1 0) rfl (Sq (V.ncPtr rfl (Sq (V.fa ty72 rfl ty27 rfl rfl (Sq (V.ld ty27 rfl rfl rfl (v := .p (.v (.int .i64 _))) rfl (Sq (V.ai rfl (So.e ?_)))))))))))))
  refine HT.ret ?_
  exact ret_ok (sg [(1, 1)]) h rfl rfl rfl ⟨trivial, trivial⟩ ⟨trivial, trivial⟩ rfl ⟨⟨⟨le_int (by exact (endF_4 (by assumption)).symm), trivial⟩, trivial⟩, ⟨⟨_, rfl, .inl rfl, trivial⟩, trivial⟩⟩
def rtext_4Sp : Sp := ⟨[1, 2, 4], mkE (α := (List UInt8) × Int × Int × (Nat -> PV) × (Nat -> PV)) (fun (b, p, e, u, f) => [.ptr 1 0, .own 3 0 (4)]) (fun (b, p, e, u, f) => [(1, ⟨72, 1, 3, true, .rows (fun j => ([.bs b, .v (.int .i64 p), .v (.int .i64 e)] : List PV).getD j (.v undef))⟩), (2, ⟨72, 1, 3, true, .rows (fun j => if j = 0 then .bs [] else u j)⟩), (4, ⟨49, 1, 8, true, .rows (fun j => if j = 5 then .bs ([]) else if j = 6 then .bs ([]) else if j = 7 then .bs ([]) else f j)⟩), (3, ⟨64, 1, 4, true, .cells [.ptr 2 0, .ptr 4 5, .ptr 4 6, .ptr 4 7]⟩)]) (fun (b, p, e, u, f) => True) (fun (b, p, e, u, f) => []) (fun (b, p, e, u, f) => [(1, ⟨72, 1, 3, true, .rows (fun j => ([.bs b, .v (.int .i64 (rd4 b p e).2.1), .v (.int .i64 (rd4 b p e).2.2)] : List PV).getD j (.v undef))⟩), (2, ⟨72, 1, 3, true, .rows (fun j => if j = 0 then .bs (rdT b p e).1 else u j)⟩), (4, ⟨49, 1, 8, true, .rows (fun j => if j = 5 then .bs ((rd2 b p e).1) else if j = 6 then .bs ((rd3 b p e).1) else if j = 7 then .bs ((rd4 b p e).1) else f j)⟩)])⟩
def S_rtext_4 : FuncId -> Option Sp := fun f => if f = 50 then some getTextSp else none
theorem S_rtext_4_ok : ∀ f s, S_rtext_4 f = some s -> FOK Tryd.prog gl f s := sI getText_ok sN
theorem S_rtext_4_det : ∀ f s, S_rtext_4 f = some s -> SpDet s.sp := dI dN
theorem rtext_4_ok : FOK Tryd.prog gl 35 rtext_4Sp := by
 refine FOK.ofE (tyOf_ok Tryd.prog) (slots := []) (nt := 39) Tryd.func35 rfl rfl rfl rfl (by decide) 2 (fun ⟨_, _, _, _, _⟩ => rfl) (by decide) (fun ⟨_, _, _, _, _⟩ => ⟨rfl, rfl, trivial⟩) ?_
 rintro ⟨b, p, e, u, f⟩ kk hlen hpre h
 have hl1 : _ <= 9223372036854775807 := hlen.2.1
 replace hpre : True := hpre
 show HT (cx Tryd.prog 39 (tyOf Tryd.prog) gl [1, 2, 4]) _ [(0, .ptr 1 0), (1, .own 3 0 (4))] [(1, ⟨72, 1, 3, true, .rows (fun j => ([.bs b, .v (.int .i64 p), .v (.int .i64 e)] : List PV).getD j (.v undef))⟩), (2, ⟨72, 1, 3, true, .rows (fun j => if j = 0 then .bs [] else u j)⟩), (4, ⟨49, 1, 8, true, .rows (fun j => if j = 5 then .bs ([]) else if j = 6 then .bs ([]) else if j = 7 then .bs ([]) else f j)⟩), (3, ⟨64, 1, 4, true, .cells [.ptr 2 0, .ptr 4 5, .ptr 4 6, .ptr 4 7]⟩)] _
 refine HT.seq (HT.region S_rtext_4_ok (Sq (V.mv (v := .own 3 0 _) rfl (Sq (V.len ty61 (v := .own 3 0 _) rfl rfl (Sq (V.mv (v := .p (.v (.int .i64 0))) rfl (So.e (HT.block ?_)))))))))
 refine HT.rounds 5 ?_
 refine HT.seq (HT.region S_rtext_4_ok (Sq (V.bin (a := .v (.int .i64 _)) (b := .v (.int .i64 _)) (r := .v (.bool _)) rfl rfl rfl trivial (So.e (HT.seq ?_)))))
 refine R.cd rfl rfl (fun h1 => ?_) (fun h1 => ?_)
 ·refine HT.skip ?_
  refine R.cut True [] [(1, ⟨72, 1, 3, true, .rows (fun j => ([.bs b, .v (.int .i64 (rdT b p e).2.1), .v (.int .i64 (rdT b p e).2.2)] : List PV).getD j (.v undef))⟩), (2, ⟨72, 1, 3, true, .rows (fun j => if j = 0 then .bs ((rdT b p e).1) else u j)⟩)] [0, 6, 7, 8] [3, 4] (fr0 := [(0, .ptr 1 0), (6, .own 3 0 _), (7, .p (.v (.int .i64 _))), (8, .p (.v (.int .i64 _)))]) (O0 := [(3, ⟨_, _, _, _, .cells _⟩), (4, ⟨_, _, _, _, .rows _⟩)]) rfl rfl ?_ (fun hphi => ?_)
  ·refine HT.block ?_
   refine HT.seq (HT.region S_rtext_4_ok (Sq (V.ixOwn10 ty61 ty64 rfl rfl rfl rfl rfl (by omega) rfl (Sq (V.ld ty64 rfl rfl rfl (v := .ptr 2 0) rfl (Sq (V.as (v := .ptr 2 0) rfl (So.e (HT.seq (HT.region S_rtext_4_ok (Sq (V.mv (v := .ptr 1 0) rfl (Sq (V.ncPtr rfl (Sq (V.fa ty72 rfl ty27 rfl rfl (Sq (V.ld ty27 rfl rfl rfl (v := .p (.v (.int .i64 _))) rfl (Sq (V.bin (a := .v (.int .i64 _)) (b := .v (.int .i64 0)) (r := .v (.bool _)) rfl rfl rfl trivial (So.e ?_)))))))))))))))))))))
   refine R.cd rfl rfl (fun h2 => ?_) (fun h2 => ?_)
   ·refine HT.planS S_rtext_4_ok S_rtext_4_det mixed [] [⟨[0, 1, 2, 3, 4, 5, 6, 7, 8, 9, 10, 11, 12, 13, 14, 15, 16], 17, [1, 2, 14, 15]⟩, ⟨[1, 2, 14, 15, 18, 19], 20, [2, 15]⟩, ⟨[2, 15, 21, 22], 23, []⟩] (by kernel_rfl) ?_
    refine Pl.lk ?_
    refine Sj rfl (V.mv (v := .ptr 2 0) rfl (Sj rfl (V.mv (v := .ptr 1 0) rfl (Sj rfl (V.mv (v := .ptr 1 0) rfl (Sj rfl (V.mv (v := .ptr 1 0) rfl (Sj rfl (V.ncPtr rfl (Sj rfl (V.fa ty72 rfl ty23 rfl rfl (Sj rfl (V.ld ty23 rfl rfl rfl (v := .p (.bs _)) rfl (Sj rfl (V.mv (v := .ptr 1 0) rfl (Sj rfl (V.ncPtr rfl (Sj rfl (V.fa ty72 rfl ty3 rfl rfl (Sj rfl (V.ld ty3 rfl rfl rfl (v := .p (.v (.int .i64 _))) rfl ?_)))))))))))))))))))))
    refine Sj rfl (V.call [.p (.bs _), .p (.v (.int .i64 _))] 5 rfl rfl rfl rfl ⟨trivial, trivial, trivial⟩ ⟨lk rfl, lk rfl, lk rfl, trivial⟩ (_, _) ⟨.refl _, .refl _, trivial⟩ trivial (by trivial) (Φ := fun (b, i) => ((getTextF b i).2.2 = 0 -> 0 <= i /\ i < (getTextF b i).2.1 /\ (getTextF b i).2.1 <= b.length) /\ (getTextF b i).1.length <= 1048576) (fun (b, i) _ => ⟨getTextF_ok b i, getTextF_len b i⟩) (.inl ⟨trivial, trivial, trivial⟩) (v := .tup 3 _) rfl (fun h3 => ?_))
    try dsimp only at h3
    refine Sj rfl (V.mv (v := .tup 3 _) rfl (Sj rfl (V.ext rfl (lk rfl) (v := .p (.bs _)) rfl (Sj rfl (V.ei rfl rfl (Sj rfl (V.ei rfl rfl (Sj rfl (V.ncPtr rfl (Si.e ?_))))))))))
    refine ⟨flEq_nil, fun ff => ?_⟩
    refine Lo.s rfl (A.sto ty23 rfl rfl rfl (v := .p (.bs _)) rfl trivial rfl (lk rfl) rfl rfl ?_)
    refine ⟨_, fun ff => ff, ap0, rfl, FG.id, ?_⟩
    show planA _ _ _ _ _ [(1, .ptr 1 0), (2, .ptr 1 0), (14, .p (.v (.int .i64 _))), (15, .p (.v (.int .i64 _)))] _ _ _
    refine Pl.lk ?_
    refine Sj rfl (V.mv (v := .ptr 1 0) rfl (Sj rfl (V.mv (v := .ptr 1 0) rfl (Sj rfl (V.ei rfl rfl (Sj rfl (V.ei rfl rfl (Sj rfl (V.ncPtr rfl (Sj rfl (V.fa ty72 rfl ty3 rfl rfl (Si.e ?_))))))))))))
    refine ⟨(flEq_cons rfl (flEq_cons rfl (flEq_cons rfl (flEq_cons rfl flEq_nil)))), fun ff => ?_⟩
    refine Lo.s rfl (A.sto ty3 rfl rfl rfl (v := .p (.v (.int .i64 _))) rfl rfl rfl (lk rfl) rfl rfl ?_)
    refine ⟨_, fun ff => ff, ap0, rfl, FG.id, ?_⟩
    show planA _ _ _ _ _ [(2, .ptr 1 0), (15, .p (.v (.int .i64 _)))] _ _ _
    refine Pl.l0 ?_
    refine Sj rfl (V.mv (v := .ptr 1 0) rfl (Sj rfl (V.ei rfl rfl (Sj rfl (V.ncPtr rfl (Sj rfl (V.fa ty72 rfl ty27 rfl rfl (Si.e ?_))))))))
    refine ⟨(flEq_cons rfl (flEq_cons rfl flEq_nil)), ?_⟩
    refine Lo.s rfl (A.sto ty27 rfl rfl rfl (v := .p (.v (.int .i64 _))) rfl rfl rfl (lk rfl) rfl rfl ?_)
    refine Pl.e ?_
    refine Si.e ?_
    refine ⟨flEq_nil, ?_⟩
    exact ⟨by omega, ⟨⟨⟨.refl _, rfl⟩, ⟨.refl _, rfl⟩, ⟨.refl _, trivial⟩, ⟨.refl _, trivial⟩, trivial⟩, ⟨⟨_, rfl, .inr (ob_rows (by rfl) (by (rw [show rdT b p e = Go.Vh.gT b p from rdT_0 (e := e) (by assumption)]; (intro j hj; match j, hj with | 0, _ => rfl | 1, _ => rfl | 2, _ => rfl)))), trivial⟩, ⟨_, rfl, .inr (ob_rows (by rfl) (by (rw [show rdT b p e = Go.Vh.gT b p from rdT_0 (e := e) (by assumption)]; intro j hj; by_cases h0 : j = 0 <;> (simp [h0, gT]; done)))), trivial⟩, ⟨_, rfl, .inl rfl, ⟨rfl, rfl, rfl, rfl, trivial⟩⟩, ⟨_, rfl, .inl rfl, trivial⟩, trivial⟩⟩⟩
   ·refine HT.skip ?_
    exact ⟨by omega, ⟨⟨⟨.refl _, rfl⟩, ⟨.refl _, rfl⟩, ⟨.refl _, trivial⟩, ⟨.refl _, trivial⟩, trivial⟩, ⟨⟨_, rfl, .inr (ob_rows (by rfl) (by (rw [show rdT b p e = ([], p, e) from rdT_1 (e := e) (by assumption)]; (intro j hj; match j, hj with | 0, _ => rfl | 1, _ => rfl | 2, _ => rfl)))), trivial⟩, ⟨_, rfl, .inr (ob_rows (by rfl) (by (rw [show rdT b p e = ([], p, e) from rdT_1 (e := e) (by assumption)]; intro j hj; by_cases h0 : j = 0 <;> (simp [h0, gT]; done)))), trivial⟩, ⟨_, rfl, .inl rfl, ⟨rfl, rfl, rfl, rfl, trivial⟩⟩, ⟨_, rfl, .inl rfl, trivial⟩, trivial⟩⟩⟩
  ·refine HT.region S_rtext_4_ok ?_
   refine Sq (V.addI rfl rfl (by omega) (Sq (V.mi rfl (So.e (HT.seq (HT.region S_rtext_4_ok (Sq (V.bin (a := .v (.int .i64 _)) (b := .v (.int .i64 _)) (r := .v (.bool _)) rfl rfl rfl trivial (So.e (HT.seq ?_))))))))))
   refine R.cd rfl rfl (fun h4 => ?_) (fun h4 => ?_)
   ·refine HT.skip ?_
    refine R.cut True [] [(1, ⟨72, 1, 3, true, .rows (fun j => ([.bs b, .v (.int .i64 (rd2 b p e).2.1), .v (.int .i64 (rd2 b p e).2.2)] : List PV).getD j (.v undef))⟩), (4, ⟨49, 1, 8, true, .rows (fun j => if j = 5 then .bs ((rd2 b p e).1) else if j = 6 then .bs ([]) else if j = 7 then .bs ([]) else f j)⟩)] [0, 6, 7, 8] [2, 3] (fr0 := [(0, .ptr 1 0), (6, .own 3 0 _), (7, .p (.v (.int .i64 _))), (8, .p (.v (.int .i64 _)))]) (O0 := [(2, ⟨_, _, _, _, .rows _⟩), (3, ⟨_, _, _, _, .cells _⟩)]) rfl rfl ?_ (fun hphi => ?_)
    ·refine HT.block ?_
     refine HT.seq (HT.region S_rtext_4_ok (Sq (V.ixOwn10 ty61 ty64 rfl rfl rfl rfl rfl (by omega) rfl (Sq (V.ld ty64 rfl rfl rfl (v := .ptr 4 5) rfl (Sq (V.as (v := .ptr 4 5) rfl (So.e (HT.seq (HT.region S_rtext_4_ok (Sq (V.mv (v := .ptr 1 0) rfl (Sq (V.ncPtr rfl (Sq (V.fa ty72 rfl ty27 rfl rfl (Sq (V.ld ty27 rfl rfl rfl (v := .p (.v (.int .i64 _))) rfl (Sq (V.bin (a := .v (.int .i64 _)) (b := .v (.int .i64 0)) (r := .v (.bool _)) rfl rfl rfl trivial (So.e ?_)))))))))))))))))))))
     refine R.cd rfl rfl (fun h5 => ?_) (fun h5 => ?_)
     ·refine HT.planS S_rtext_4_ok S_rtext_4_det mixed [] [⟨[0, 1, 2, 3, 4, 5, 6, 7, 8, 9, 10, 11, 12, 13, 14, 15, 16], 17, [1, 2, 14, 15]⟩, ⟨[1, 2, 14, 15, 18, 19], 20, [2, 15]⟩, ⟨[2, 15, 21, 22], 23, []⟩] (by kernel_rfl) ?_
      refine Pl.lk ?_
      refine Sj rfl (V.mv (v := .ptr 4 5) rfl (Sj rfl (V.mv (v := .ptr 1 0) rfl (Sj rfl (V.mv (v := .ptr 1 0) rfl (Sj rfl (V.mv (v := .ptr 1 0) rfl (Sj rfl (V.ncPtr rfl (Sj rfl (V.fa ty72 rfl ty23 rfl rfl (Sj rfl (V.ld ty23 rfl rfl rfl (v := .p (.bs _)) rfl (Sj rfl (V.mv (v := .ptr 1 0) rfl (Sj rfl (V.ncPtr rfl (Sj rfl (V.fa ty72 rfl ty3 rfl rfl (Sj rfl (V.ld ty3 rfl rfl rfl (v := .p (.v (.int .i64 _))) rfl ?_)))))))))))))))))))))
      refine Sj rfl (V.call [.p (.bs _), .p (.v (.int .i64 _))] 5 rfl rfl rfl rfl ⟨trivial, trivial, trivial⟩ ⟨lk rfl, lk rfl, lk rfl, trivial⟩ (_, _) ⟨.refl _, .refl _, trivial⟩ trivial (by trivial) (Φ := fun (b, i) => ((getTextF b i).2.2 = 0 -> 0 <= i /\ i < (getTextF b i).2.1 /\ (getTextF b i).2.1 <= b.length) /\ (getTextF b i).1.length <= 1048576) (fun (b, i) _ => ⟨getTextF_ok b i, getTextF_len b i⟩) (.inl ⟨trivial, trivial, trivial⟩) (v := .tup 3 _) rfl (fun h6 => ?_))
      try dsimp only at h6
      refine Sj rfl (V.mv (v := .tup 3 _) rfl (Sj rfl (V.ext rfl (lk rfl) (v := .p (.bs _)) rfl (Sj rfl (V.ei rfl rfl (Sj rfl (V.ei rfl rfl (Sj rfl (V.ncPtr rfl (Si.e ?_))))))))))
      refine ⟨flEq_nil, fun ff => ?_⟩
      refine Lo.s rfl (A.sto ty23 rfl rfl rfl (v := .p (.bs _)) rfl trivial rfl (lk rfl) rfl rfl ?_)
      refine ⟨_, fun ff => ff, ap0, rfl, FG.id, ?_⟩
      show planA _ _ _ _ _ [(1, .ptr 1 0), (2, .ptr 1 0), (14, .p (.v (.int .i64 _))), (15, .p (.v (.int .i64 _)))] _ _ _
      refine Pl.lk ?_
      refine Sj rfl (V.mv (v := .ptr 1 0) rfl (Sj rfl (V.mv (v := .ptr 1 0) rfl (Sj rfl (V.ei rfl rfl (Sj rfl (V.ei rfl rfl (Sj rfl (V.ncPtr rfl (Sj rfl (V.fa ty72 rfl ty3 rfl rfl (Si.e ?_))))))))))))
      refine ⟨(flEq_cons rfl (flEq_cons rfl (flEq_cons rfl (flEq_cons rfl flEq_nil)))), fun ff => ?_⟩
      refine Lo.s rfl (A.sto ty3 rfl rfl rfl (v := .p (.v (.int .i64 _))) rfl rfl rfl (lk rfl) rfl rfl ?_)
      refine ⟨_, fun ff => ff, ap0, rfl, FG.id, ?_⟩
      show planA _ _ _ _ _ [(2, .ptr 1 0), (15, .p (.v (.int .i64 _)))] _ _ _
      refine Pl.l0 ?_
      refine Sj rfl (V.mv (v := .ptr 1 0) rfl (Sj rfl (V.ei rfl rfl (Sj rfl (V.ncPtr rfl (Sj rfl (V.fa ty72 rfl ty27 rfl rfl (Si.e ?_))))))))
      refine ⟨(flEq_cons rfl (flEq_cons rfl flEq_nil)), ?_⟩
      refine Lo.s rfl (A.sto ty27 rfl rfl rfl (v := .p (.v (.int .i64 _))) rfl rfl rfl (lk rfl) rfl rfl ?_)
      refine Pl.e ?_
      refine Si.e ?_
      refine ⟨flEq_nil, ?_⟩
      exact ⟨by omega, ⟨⟨⟨.refl _, rfl⟩, ⟨.refl _, rfl⟩, ⟨.refl _, trivial⟩, ⟨.refl _, trivial⟩, trivial⟩, ⟨⟨_, rfl, .inr (ob_rows (by rfl) (by (rw [show rd2 b p e = Go.Vh.gT b (rdT b p e).2.1 from rdT_0 (e := (rdT b p e).2.2) (by assumption)]; (intro j hj; match j, hj with | 0, _ => rfl | 1, _ => rfl | 2, _ => rfl)))), trivial⟩, ⟨_, rfl, .inr (ob_rows (by rfl) (by (rw [show rd2 b p e = Go.Vh.gT b (rdT b p e).2.1 from rdT_0 (e := (rdT b p e).2.2) (by assumption)]; intro j hj; by_cases h5 : j = 5 <;> by_cases h6 : j = 6 <;> by_cases h7 : j = 7 <;> (simp [h5, h6, h7, gT]; done)))), trivial⟩, ⟨_, rfl, .inl rfl, trivial⟩, ⟨_, rfl, .inl rfl, ⟨rfl, rfl, rfl, rfl, trivial⟩⟩, trivial⟩⟩⟩
     ·refine HT.skip ?_
      exact ⟨by omega, ⟨⟨⟨.refl _, rfl⟩, ⟨.refl _, rfl⟩, ⟨.refl _, trivial⟩, ⟨.refl _, trivial⟩, trivial⟩, ⟨⟨_, rfl, .inr (ob_rows (by rfl) (by (rw [show rd2 b p e = ([], (rdT b p e).2.1, (rdT b p e).2.2) from rdT_1 (e := (rdT b p e).2.2) (by assumption)]; (intro j hj; match j, hj with | 0, _ => rfl | 1, _ => rfl | 2, _ => rfl)))), trivial⟩, ⟨_, rfl, .inr (ob_rows (by rfl) (by (rw [show rd2 b p e = ([], (rdT b p e).2.1, (rdT b p e).2.2) from rdT_1 (e := (rdT b p e).2.2) (by assumption)]; intro j hj; by_cases h5 : j = 5 <;> by_cases h6 : j = 6 <;> by_cases h7 : j = 7 <;> (simp [h5, h6, h7, gT]; done)))), trivial⟩, ⟨_, rfl, .inl rfl, trivial⟩, ⟨_, rfl, .inl rfl, ⟨rfl, rfl, rfl, rfl, trivial⟩⟩, trivial⟩⟩⟩
    ·refine HT.region S_rtext_4_ok ?_
     refine Sq (V.addI rfl rfl (by omega) (Sq (V.mi rfl (So.e (HT.seq (HT.region S_rtext_4_ok (Sq (V.bin (a := .v (.int .i64 _)) (b := .v (.int .i64 _)) (r := .v (.bool _)) rfl rfl rfl trivial (So.e (HT.seq ?_))))))))))
     refine R.cd rfl rfl (fun h7 => ?_) (fun h7 => ?_)
     ·refine HT.skip ?_
      refine R.cut True [] [(1, ⟨72, 1, 3, true, .rows (fun j => ([.bs b, .v (.int .i64 (rd3 b p e).2.1), .v (.int .i64 (rd3 b p e).2.2)] : List PV).getD j (.v undef))⟩), (4, ⟨49, 1, 8, true, .rows (fun j => if j = 5 then .bs ((rd2 b p e).1) else if j = 6 then .bs ((rd3 b p e).1) else if j = 7 then .bs ([]) else f j)⟩)] [0, 6, 7, 8] [2, 3] (fr0 := [(0, .ptr 1 0), (6, .own 3 0 _), (7, .p (.v (.int .i64 _))), (8, .p (.v (.int .i64 _)))]) (O0 := [(2, ⟨_, _, _, _, .rows _⟩), (3, ⟨_, _, _, _, .cells _⟩)]) rfl rfl ?_ (fun hphi => ?_)
      ·refine HT.block ?_
       refine HT.seq (HT.region S_rtext_4_ok (Sq (V.ixOwn10 ty61 ty64 rfl rfl rfl rfl rfl (by omega) rfl (Sq (V.ld ty64 rfl rfl rfl (v := .ptr 4 6) rfl (Sq (V.as (v := .ptr 4 6) rfl (So.e (HT.seq (HT.region S_rtext_4_ok (Sq (V.mv (v := .ptr 1 0) rfl (Sq (V.ncPtr rfl (Sq (V.fa ty72 rfl ty27 rfl rfl (Sq (V.ld ty27 rfl rfl rfl (v := .p (.v (.int .i64 _))) rfl (Sq (V.bin (a := .v (.int .i64 _)) (b := .v (.int .i64 0)) (r := .v (.bool _)) rfl rfl rfl trivial (So.e ?_)))))))))))))))))))))
       refine R.cd rfl rfl (fun h8 => ?_) (fun h8 => ?_)
       ·refine HT.planS S_rtext_4_ok S_rtext_4_det mixed [] [⟨[0, 1, 2, 3, 4, 5, 6, 7, 8, 9, 10, 11, 12, 13, 14, 15, 16], 17, [1, 2, 14, 15]⟩, ⟨[1, 2, 14, 15, 18, 19], 20, [2, 15]⟩, ⟨[2, 15, 21, 22], 23, []⟩] (by kernel_rfl) ?_
        refine Pl.lk ?_
        refine Sj rfl (V.mv (v := .ptr 4 6) rfl (Sj rfl (V.mv (v := .ptr 1 0) rfl (Sj rfl (V.mv (v := .ptr 1 0) rfl (Sj rfl (V.mv (v := .ptr 1 0) rfl (Sj rfl (V.ncPtr rfl (Sj rfl (V.fa ty72 rfl ty23 rfl rfl (Sj rfl (V.ld ty23 rfl rfl rfl (v := .p (.bs _)) rfl (Sj rfl (V.mv (v := .ptr 1 0) rfl (Sj rfl (V.ncPtr rfl (Sj rfl (V.fa ty72 rfl ty3 rfl rfl (Sj rfl (V.ld ty3 rfl rfl rfl (v := .p (.v (.int .i64 _))) rfl ?_)))))))))))))))))))))
        refine Sj rfl (V.call [.p (.bs _), .p (.v (.int .i64 _))] 5 rfl rfl rfl rfl ⟨trivial, trivial, trivial⟩ ⟨lk rfl, lk rfl, lk rfl, trivial⟩ (_, _) ⟨.refl _, .refl _, trivial⟩ trivial (by trivial) (Φ := fun (b, i) => ((getTextF b i).2.2 = 0 -> 0 <= i /\ i < (getTextF b i).2.1 /\ (getTextF b i).2.1 <= b.length) /\ (getTextF b i).1.length <= 1048576) (fun (b, i) _ => ⟨getTextF_ok b i, getTextF_len b i⟩) (.inl ⟨trivial, trivial, trivial⟩) (v := .tup 3 _) rfl (fun h9 => ?_))
        try dsimp only at h9
        refine Sj rfl (V.mv (v := .tup 3 _) rfl (Sj rfl (V.ext rfl (lk rfl) (v := .p (.bs _)) rfl (Sj rfl (V.ei rfl rfl (Sj rfl (V.ei rfl rfl (Sj rfl (V.ncPtr rfl (Si.e ?_))))))))))
        refine ⟨flEq_nil, fun ff => ?_⟩
        refine Lo.s rfl (A.sto ty23 rfl rfl rfl (v := .p (.bs _)) rfl trivial rfl (lk rfl) rfl rfl ?_)
        refine ⟨_, fun ff => ff, ap0, rfl, FG.id, ?_⟩
        show planA _ _ _ _ _ [(1, .ptr 1 0), (2, .ptr 1 0), (14, .p (.v (.int .i64 _))), (15, .p (.v (.int .i64 _)))] _ _ _
        refine Pl.lk ?_
        refine Sj rfl (V.mv (v := .ptr 1 0) rfl (Sj rfl (V.mv (v := .ptr 1 0) rfl (Sj rfl (V.ei rfl rfl (Sj rfl (V.ei rfl rfl (Sj rfl (V.ncPtr rfl (Sj rfl (V.fa ty72 rfl ty3 rfl rfl (Si.e ?_))))))))))))
        refine ⟨(flEq_cons rfl (flEq_cons rfl (flEq_cons rfl (flEq_cons rfl flEq_nil)))), fun ff => ?_⟩
        refine Lo.s rfl (A.sto ty3 rfl rfl rfl (v := .p (.v (.int .i64 _))) rfl rfl rfl (lk rfl) rfl rfl ?_)
        refine ⟨_, fun ff => ff, ap0, rfl, FG.id, ?_⟩
        show planA _ _ _ _ _ [(2, .ptr 1 0), (15, .p (.v (.int .i64 _)))] _ _ _
        refine Pl.l0 ?_
        refine Sj rfl (V.mv (v := .ptr 1 0) rfl (Sj rfl (V.ei rfl rfl (Sj rfl (V.ncPtr rfl (Sj rfl (V.fa ty72 rfl ty27 rfl rfl (Si.e ?_))))))))
        refine ⟨(flEq_cons rfl (flEq_cons rfl flEq_nil)), ?_⟩
        refine Lo.s rfl (A.sto ty27 rfl rfl rfl (v := .p (.v (.int .i64 _))) rfl rfl rfl (lk rfl) rfl rfl ?_)
        refine Pl.e ?_
        refine Si.e ?_
        refine ⟨flEq_nil, ?_⟩
        exact ⟨by omega, ⟨⟨⟨.refl _, rfl⟩, ⟨.refl _, rfl⟩, ⟨.refl _, trivial⟩, ⟨.refl _, trivial⟩, trivial⟩, ⟨⟨_, rfl, .inr (ob_rows (by rfl) (by (rw [show rd3 b p e = Go.Vh.gT b (rd2 b p e).2.1 from rdT_0 (e := (rd2 b p e).2.2) (by assumption)]; (intro j hj; match j, hj with | 0, _ => rfl | 1, _ => rfl | 2, _ => rfl)))), trivial⟩, ⟨_, rfl, .inr (ob_rows (by rfl) (by (rw [show rd3 b p e = Go.Vh.gT b (rd2 b p e).2.1 from rdT_0 (e := (rd2 b p e).2.2) (by assumption)]; intro j hj; by_cases h5 : j = 5 <;> by_cases h6 : j = 6 <;> by_cases h7 : j = 7 <;> (simp [h5, h6, h7, gT]; done)))), trivial⟩, ⟨_, rfl, .inl rfl, trivial⟩, ⟨_, rfl, .inl rfl, ⟨rfl, rfl, rfl, rfl, trivial⟩⟩, trivial⟩⟩⟩
       ·refine HT.skip ?_
        exact ⟨by omega, ⟨⟨⟨.refl _, rfl⟩, ⟨.refl _, rfl⟩, ⟨.refl _, trivial⟩, ⟨.refl _, trivial⟩, trivial⟩, ⟨⟨_, rfl, .inr (ob_rows (by rfl) (by (rw [show rd3 b p e = ([], (rd2 b p e).2.1, (rd2 b p e).2.2) from rdT_1 (e := (rd2 b p e).2.2) (by assumption)]; (intro j hj; match j, hj with | 0, _ => rfl | 1, _ => rfl | 2, _ => rfl)))), trivial⟩, ⟨_, rfl, .inr (ob_rows (by rfl) (by (rw [show rd3 b p e = ([], (rd2 b p e).2.1, (rd2 b p e).2.2) from rdT_1 (e := (rd2 b p e).2.2) (by assumption)]; intro j hj; by_cases h5 : j = 5 <;> by_cases h6 : j = 6 <;> by_cases h7 : j = 7 <;> (simp [h5, h6, h7, gT]; done)))), trivial⟩, ⟨_, rfl, .inl rfl, trivial⟩, ⟨_, rfl, .inl rfl, ⟨rfl, rfl, rfl, rfl, trivial⟩⟩, trivial⟩⟩⟩
      ·refine HT.region S_rtext_4_ok ?_
       refine Sq (V.addI rfl rfl (by omega) (Sq (V.mi rfl (So.e (HT.seq (HT.region S_rtext_4_ok (Sq (V.bin (a := .v (.int .i64 _)) (b := .v (.int .i64 _)) (r := .v (.bool _)) rfl rfl rfl trivial (So.e (HT.seq ?_))))))))))
       refine R.cd rfl rfl (fun h10 => ?_) (fun h10 => ?_)
       ·refine HT.skip ?_
        refine R.cut True [] [(1, ⟨72, 1, 3, true, .rows (fun j => ([.bs b, .v (.int .i64 (rd4 b p e).2.1), .v (.int .i64 (rd4 b p e).2.2)] : List PV).getD j (.v undef))⟩), (4, ⟨49, 1, 8, true, .rows (fun j => if j = 5 then .bs ((rd2 b p e).1) else if j = 6 then .bs ((rd3 b p e).1) else if j = 7 then .bs ((rd4 b p e).1) else f j)⟩)] [0, 6, 7, 8] [2, 3] (fr0 := [(0, .ptr 1 0), (6, .own 3 0 _), (7, .p (.v (.int .i64 _))), (8, .p (.v (.int .i64 _)))]) (O0 := [(2, ⟨_, _, _, _, .rows _⟩), (3, ⟨_, _, _, _, .cells _⟩)]) rfl rfl ?_ (fun hphi => ?_)
        ·refine HT.block ?_
         refine HT.seq (HT.region S_rtext_4_ok (Sq (V.ixOwn10 ty61 ty64 rfl rfl rfl rfl rfl (by omega) rfl (Sq (V.ld ty64 rfl rfl rfl (v := .ptr 4 7) rfl (Sq (V.as (v := .ptr 4 7) rfl (So.e (HT.seq (HT.region S_rtext_4_ok (Sq (V.mv (v := .ptr 1 0) rfl (Sq (V.ncPtr rfl (Sq (V.fa ty72 rfl ty27 rfl rfl (Sq (V.ld ty27 rfl rfl rfl (v := .p (.v (.int .i64 _))) rfl (Sq (V.bin (a := .v (.int .i64 _)) (b := .v (.int .i64 0)) (r := .v (.bool _)) rfl rfl rfl trivial (So.e ?_)))))))))))))))))))))
         refine R.cd rfl rfl (fun h11 => ?_) (fun h11 => ?_)
         ·refine HT.planS S_rtext_4_ok S_rtext_4_det mixed [] [⟨[0, 1, 2, 3, 4, 5, 6, 7, 8, 9, 10, 11, 12, 13, 14, 15, 16], 17, [1, 2, 14, 15]⟩, ⟨[1, 2, 14, 15, 18, 19], 20, [2, 15]⟩, ⟨[2, 15, 21, 22], 23, []⟩] (by kernel_rfl) ?_
          refine Pl.lk ?_
          refine Sj rfl (V.mv (v := .ptr 4 7) rfl (Sj rfl (V.mv (v := .ptr 1 0) rfl (Sj rfl (V.mv (v := .ptr 1 0) rfl (Sj rfl (V.mv (v := .ptr 1 0) rfl (Sj rfl (V.ncPtr rfl (Sj rfl (V.fa ty72 rfl ty23 rfl rfl (Sj rfl (V.ld ty23 rfl rfl rfl (v := .p (.bs _)) rfl (Sj rfl (V.mv (v := .ptr 1 0) rfl (Sj rfl (V.ncPtr rfl (Sj rfl (V.fa ty72 rfl ty3 rfl rfl (Sj rfl (V.ld ty3 rfl rfl rfl (v := .p (.v (.int .i64 _))) rfl ?_)))))))))))))))))))))
          refine Sj rfl (V.call [.p (.bs _), .p (.v (.int .i64 _))] 5 rfl rfl rfl rfl ⟨trivial, trivial, trivial⟩ ⟨lk rfl, lk rfl, lk rfl, trivial⟩ (_, _) ⟨.refl _, .refl _, trivial⟩ trivial (by trivial) (Φ := fun (b, i) => ((getTextF b i).2.2 = 0 -> 0 <= i /\ i < (getTextF b i).2.1 /\ (getTextF b i).2.1 <= b.length) /\ (getTextF b i).1.length <= 1048576) (fun (b, i) _ => ⟨getTextF_ok b i, getTextF_len b i⟩) (.inl ⟨trivial, trivial, trivial⟩) (v := .tup 3 _) rfl (fun h12 => ?_))
          try dsimp only at h12
          refine Sj rfl (V.mv (v := .tup 3 _) rfl (Sj rfl (V.ext rfl (lk rfl) (v := .p (.bs _)) rfl (Sj rfl (V.ei rfl rfl (Sj rfl (V.ei rfl rfl (Sj rfl (V.ncPtr rfl (Si.e ?_))))))))))
          refine ⟨flEq_nil, fun ff => ?_⟩
          refine Lo.s rfl (A.sto ty23 rfl rfl rfl (v := .p (.bs _)) rfl trivial rfl (lk rfl) rfl rfl ?_)
          refine ⟨_, fun ff => ff, ap0, rfl, FG.id, ?_⟩
          show planA _ _ _ _ _ [(1, .ptr 1 0), (2, .ptr 1 0), (14, .p (.v (.int .i64 _))), (15, .p (.v (.int .i64 _)))] _ _ _
          refine Pl.lk ?_
          refine Sj rfl (V.mv (v := .ptr 1 0) rfl (Sj rfl (V.mv (v := .ptr 1 0) rfl (Sj rfl (V.ei rfl rfl (Sj rfl (V.ei rfl rfl (Sj rfl (V.ncPtr rfl (Sj rfl (V.fa ty72 rfl ty3 rfl rfl (Si.e ?_))))))))))))
          refine ⟨(flEq_cons rfl (flEq_cons rfl (flEq_cons rfl (flEq_cons rfl flEq_nil)))), fun ff => ?_⟩
          refine Lo.s rfl (A.sto ty3 rfl rfl rfl (v := .p (.v (.int .i64 _))) rfl rfl rfl (lk rfl) rfl rfl ?_)
          refine ⟨_, fun ff => ff, ap0, rfl, FG.id, ?_⟩
          show planA _ _ _ _ _ [(2, .ptr 1 0), (15, .p (.v (.int .i64 _)))] _ _ _
          refine Pl.l0 ?_
          refine Sj rfl (V.mv (v := .ptr 1 0) rfl (Sj rfl (V.ei rfl rfl (Sj rfl (V.ncPtr rfl (Sj rfl (V.fa ty72 rfl ty27 rfl rfl (Si.e ?_))))))))
          refine ⟨(flEq_cons rfl (flEq_cons rfl flEq_nil)), ?_⟩
          refine Lo.s rfl (A.sto ty27 rfl rfl rfl (v := .p (.v (.int .i64 _))) rfl rfl rfl (lk rfl) rfl rfl ?_)
          refine Pl.e ?_
          refine Si.e ?_
          refine ⟨flEq_nil, ?_⟩
          exact ⟨by omega, ⟨⟨⟨.refl _, rfl⟩, ⟨.refl _, rfl⟩, ⟨.refl _, trivial⟩, ⟨.refl _, trivial⟩, trivial⟩, ⟨⟨_, rfl, .inr (ob_rows (by rfl) (by (rw [show rd4 b p e = Go.Vh.gT b (rd3 b p e).2.1 from rdT_0 (e := (rd3 b p e).2.2) (by assumption)]; (intro j hj; match j, hj with | 0, _ => rfl | 1, _ => rfl | 2, _ => rfl)))), trivial⟩, ⟨_, rfl, .inr (ob_rows (by rfl) (by (rw [show rd4 b p e = Go.Vh.gT b (rd3 b p e).2.1 from rdT_0 (e := (rd3 b p e).2.2) (by assumption)]; intro j hj; by_cases h5 : j = 5 <;> by_cases h6 : j = 6 <;> by_cases h7 : j = 7 <;> (simp [h5, h6, h7, gT]; done)))), trivial⟩, ⟨_, rfl, .inl rfl, trivial⟩, ⟨_, rfl, .inl rfl, ⟨rfl, rfl, rfl, rfl, trivial⟩⟩, trivial⟩⟩⟩
         ·refine HT.skip ?_
          exact ⟨by omega, ⟨⟨⟨.refl _, rfl⟩, ⟨.refl _, rfl⟩, ⟨.refl _, trivial⟩, ⟨.refl _, trivial⟩, trivial⟩, ⟨⟨_, rfl, .inr (ob_rows (by rfl) (by (rw [show rd4 b p e = ([], (rd3 b p e).2.1, (rd3 b p e).2.2) from rdT_1 (e := (rd3 b p e).2.2) (by assumption)]; (intro j hj; match j, hj with | 0, _ => rfl | 1, _ => rfl | 2, _ => rfl)))), trivial⟩, ⟨_, rfl, .inr (ob_rows (by rfl) (by (rw [show rd4 b p e = ([], (rd3 b p e).2.1, (rd3 b p e).2.2) from rdT_1 (e := (rd3 b p e).2.2) (by assumption)]; intro j hj; by_cases h5 : j = 5 <;> by_cases h6 : j = 6 <;> by_cases h7 : j = 7 <;> (simp [h5, h6, h7, gT]; done)))), trivial⟩, ⟨_, rfl, .inl rfl, trivial⟩, ⟨_, rfl, .inl rfl, ⟨rfl, rfl, rfl, rfl, trivial⟩⟩, trivial⟩⟩⟩
        ·refine HT.region S_rtext_4_ok ?_
         refine Sq (V.addI rfl rfl (by omega) (Sq (V.mi rfl (So.e (HT.seq (HT.region S_rtext_4_ok (Sq (V.bin (a := .v (.int .i64 _)) (b := .v (.int .i64 _)) (r := .v (.bool _)) rfl rfl rfl trivial (So.e (HT.seq ?_))))))))))
         refine R.cd rfl rfl (fun h13 => ?_) (fun h13 => ?_)
         ·exfalso; omega
         ·refine HT.exit ?_
          exact ret_ok (sg [(1, 1), (2, 2), (4, 4)]) h rfl rfl rfl ⟨trivial, trivial, trivial, trivial⟩ trivial rfl ⟨trivial, ⟨⟨_, rfl, .inl rfl, trivial⟩, ⟨_, rfl, .inl rfl, trivial⟩, ⟨_, rfl, .inl rfl, trivial⟩, trivial⟩⟩
       ·exfalso; omega
     ·exfalso; omega
   ·exfalso; omega
 ·exfalso; omega
def fofSp : Sp := ⟨[], mkE (α := (List UInt8) × Int × Int × Int × (List UInt8)) (fun (g, ep, fr, kd, bd) => [.agg 5 (fun j => ([.bs g, .v (.int .i64 ep), .v (.int .i64 fr), .v (.int .i64 kd), .bs bd] : List PV).getD j (.v undef))]) (fun (g, ep, fr, kd, bd) => []) (fun (g, ep, fr, kd, bd) => True) (fun (g, ep, fr, kd, bd) => [.agg 3 (fun j => ([.bs g, .v (.int .i64 ep), .v (.int .i64 fr)] : List PV).getD j (.v undef))]) (fun (g, ep, fr, kd, bd) => [])⟩
def S_fof : FuncId -> Option Sp := fun _ => none
theorem S_fof_ok : ∀ f s, S_fof f = some s -> FOK Tryd.prog gl f s := fun f s h => by cases h
theorem fof_ok : FOK Tryd.prog gl 59 fofSp := by
 refine FOK.ofEC (tyOf_ok Tryd.prog) (rvs := [.cell 2 75]) (nt := 10) Tryd.func59 rfl rfl rfl rfl (by decide) 1 (fun ⟨_, _, _, _, _⟩ => rfl) (by decide) (fun ⟨_, _, _, _, _⟩ => ⟨trivial, trivial⟩) ?_
 rintro ⟨g, ep, fr, kd, bd⟩ kk hlen hpre h
 replace hpre : True := hpre
 show HT (cx Tryd.prog 10 (tyOf Tryd.prog) gl []) _ [(0, .agg 5 (fun j => ([.bs g, .v (.int .i64 ep), .v (.int .i64 fr), .v (.int .i64 kd), .bs bd] : List PV).getD j (.v undef)))] [] _
 refine HT.seq (HT.region S_fof_ok (So.n (lk rfl) (A.boxAg 1 1 (n := 5) rfl (by intro j hj; (match j, hj with | 0, _ => (trivial) | 1, _ => (trivial) | 2, _ => (trivial) | 3, _ => (trivial) | 4, _ => (trivial))) rfl trivial (So.n (lk rfl) (A.alloc 2 1 ty75 rfl trivial (f := fun j => ([.v (.slice none 0 0), .v (.int .i64 0), .v (.int .i64 0)] : List PV).getD j (.v undef)) (fun j hj => by match j, hj with | 0, _ => rfl | 1, _ => rfl | 2, _ => rfl) (So.e (HT.seq (HT.region S_fof_ok (Sq (V.fa ty36 rfl ty23 rfl rfl (Sq (V.ld ty23 rfl rfl rfl (v := .p (.bs _)) rfl (Sq (V.fa ty36 rfl ty2 rfl rfl (Sq (V.ld ty2 rfl rfl rfl (v := .p (.v (.int .i64 _))) rfl (Sq (V.fa ty36 rfl ty3 rfl rfl (Sq (V.ld ty3 rfl rfl rfl (v := .p (.v (.int .i64 _))) rfl (So.n (lk rfl) (A.bldS ty75 rfl rfl ⟨by exact trivial, by exact rfl, by exact rfl, trivial⟩ rfl (f := fun j => ([.bs g, .v (.int .i64 ep), .v (.int .i64 fr)] : List PV).getD j (.v undef)) (by exact allP_spec (P := fun j => _ = _) ⟨⟨⟨trivial, rfl⟩, rfl⟩, rfl⟩) (So.s (A.stoAg ty75 rfl (n := 3) rfl (by decide) (by intro j hj; (match j, hj with | 0, _ => (trivial) | 1, _ => (trivial) | 2, _ => (trivial))) rfl rfl rfl (So.e ?_)))))))))))))))))))))))))
 refine HT.ret ?_
 exact retC_ok (sg []) [(2, .ptr 2 0)] [(2, ⟨75, 1, 3, true, .rows (fun j => ([.bs g, .v (.int .i64 ep), .v (.int .i64 fr)] : List PV).getD j (.v undef))⟩)] h ⟨⟨⟨.refl _, rfl⟩, trivial⟩, ⟨⟨_, rfl, .inr (ob_rows rfl (by intro j hj; rfl)), trivial⟩, trivial⟩⟩ ⟨rvA_cell ty75 rfl rfl rfl rfl (Nat.le_refl _) (le_agg (fun j _ => by (dsimp only; rw [Nat.zero_add]))), trivial⟩ trivial rfl trivial ⟨trivial, trivial⟩ rfl
def fwhereSp : Sp := ⟨[], mkE (α := (List UInt8) × Int × Int × Int × (List UInt8)) (fun (g, ep, fr, gn, cl) => [.agg 5 (fun j => ([.bs g, .v (.int .i64 ep), .v (.int .i64 fr), .v (.int .i64 gn), .bs cl] : List PV).getD j (.v undef))]) (fun (g, ep, fr, gn, cl) => []) (fun (g, ep, fr, gn, cl) => True) (fun (g, ep, fr, gn, cl) => [.agg 3 (fun j => ([.bs g, .v (.int .i64 ep), .v (.int .i64 fr)] : List PV).getD j (.v undef))]) (fun (g, ep, fr, gn, cl) => [])⟩
def S_fwhere : FuncId -> Option Sp := fun _ => none
theorem S_fwhere_ok : ∀ f s, S_fwhere f = some s -> FOK Tryd.prog gl f s := fun f s h => by cases h
theorem fwhere_ok : FOK Tryd.prog gl 63 fwhereSp := by
 refine FOK.ofEC (tyOf_ok Tryd.prog) (rvs := [.cell 2 75]) (nt := 10) Tryd.func63 rfl rfl rfl rfl (by decide) 1 (fun ⟨_, _, _, _, _⟩ => rfl) (by decide) (fun ⟨_, _, _, _, _⟩ => ⟨trivial, trivial⟩) ?_
 rintro ⟨g, ep, fr, gn, cl⟩ kk hlen hpre h
 replace hpre : True := hpre
 show HT (cx Tryd.prog 10 (tyOf Tryd.prog) gl []) _ [(0, .agg 5 (fun j => ([.bs g, .v (.int .i64 ep), .v (.int .i64 fr), .v (.int .i64 gn), .bs cl] : List PV).getD j (.v undef)))] [] _
 refine HT.seq (HT.region S_fwhere_ok (So.n (lk rfl) (A.boxAg 1 1 (n := 5) rfl (by intro j hj; (match j, hj with | 0, _ => (trivial) | 1, _ => (trivial) | 2, _ => (trivial) | 3, _ => (trivial) | 4, _ => (trivial))) rfl trivial (So.n (lk rfl) (A.alloc 2 1 ty75 rfl trivial (f := fun j => ([.v (.slice none 0 0), .v (.int .i64 0), .v (.int .i64 0)] : List PV).getD j (.v undef)) (fun j hj => by match j, hj with | 0, _ => rfl | 1, _ => rfl | 2, _ => rfl) (So.e (HT.seq (HT.region S_fwhere_ok (Sq (V.fa ty69 rfl ty23 rfl rfl (Sq (V.ld ty23 rfl rfl rfl (v := .p (.bs _)) rfl (Sq (V.fa ty69 rfl ty2 rfl rfl (Sq (V.ld ty2 rfl rfl rfl (v := .p (.v (.int .i64 _))) rfl (Sq (V.fa ty69 rfl ty3 rfl rfl (Sq (V.ld ty3 rfl rfl rfl (v := .p (.v (.int .i64 _))) rfl (So.n (lk rfl) (A.bldS ty75 rfl rfl ⟨by exact trivial, by exact rfl, by exact rfl, trivial⟩ rfl (f := fun j => ([.bs g, .v (.int .i64 ep), .v (.int .i64 fr)] : List PV).getD j (.v undef)) (by exact allP_spec (P := fun j => _ = _) ⟨⟨⟨trivial, rfl⟩, rfl⟩, rfl⟩) (So.s (A.stoAg ty75 rfl (n := 3) rfl (by decide) (by intro j hj; (match j, hj with | 0, _ => (trivial) | 1, _ => (trivial) | 2, _ => (trivial))) rfl rfl rfl (So.e ?_)))))))))))))))))))))))))
 refine HT.ret ?_
 exact retC_ok (sg []) [(2, .ptr 2 0)] [(2, ⟨75, 1, 3, true, .rows (fun j => ([.bs g, .v (.int .i64 ep), .v (.int .i64 fr)] : List PV).getD j (.v undef))⟩)] h ⟨⟨⟨.refl _, rfl⟩, trivial⟩, ⟨⟨_, rfl, .inr (ob_rows rfl (by intro j hj; rfl)), trivial⟩, trivial⟩⟩ ⟨rvA_cell ty75 rfl rfl rfl rfl (Nat.le_refl _) (le_agg (fun j _ => by (dsimp only; rw [Nat.zero_add]))), trivial⟩ trivial rfl trivial ⟨trivial, trivial⟩ rfl
def prightSp : Sp := ⟨[], mkE (α := (List UInt8) × Int × Int) (fun (g, ep, fr) => [.agg 3 (fun j => ([.bs g, .v (.int .i64 ep), .v (.int .i64 fr)] : List PV).getD j (.v undef))]) (fun (g, ep, fr) => []) (fun (g, ep, fr) => True) (fun (g, ep, fr) => [.p (.v (.bool (decide (whereP g ep fr))))]) (fun (g, ep, fr) => [])⟩
def S_pright : FuncId -> Option Sp := fun _ => none
theorem S_pright_ok : ∀ f s, S_pright f = some s -> FOK Tryd.prog gl f s := fun f s h => by cases h
theorem pright_ok : FOK Tryd.prog gl 64 prightSp := by
 refine FOK.ofE (tyOf_ok Tryd.prog) (slots := [2]) (nt := 33) Tryd.func64 rfl rfl rfl rfl (by decide) 1 (fun ⟨_, _, _⟩ => rfl) (by decide) (fun ⟨_, _, _⟩ => ⟨trivial, trivial⟩) ?_
 rintro ⟨g, ep, fr⟩ kk hlen hpre h
 replace hpre : True := hpre
 show HT (cx Tryd.prog 33 (tyOf Tryd.prog) gl []) _ [(0, .agg 3 (fun j => ([.bs g, .v (.int .i64 ep), .v (.int .i64 fr)] : List PV).getD j (.v undef)))] [] _
 refine HT.seq (HT.region S_pright_ok (So.n (lk rfl) (A.boxAg 1 1 (n := 3) rfl (by intro j hj; (match j, hj with | 0, _ => (trivial) | 1, _ => (trivial) | 2, _ => (trivial))) rfl trivial (Sq (V.as (v := .p (.v (.bool false))) rfl (So.e (HT.seq (HT.region S_pright_ok (Sq (V.fa ty75 rfl ty23 rfl rfl (Sq (V.ld ty23 rfl rfl rfl (v := .p (.bs _)) rfl (Sq (V.len ty23 (v := .p (.bs _)) rfl rfl (Sq (V.bin (a := .v (.int .i64 _)) (b := .v (.int .i64 0)) (r := .v (.bool _)) rfl rfl rfl trivial (Sq (V.mv (v := .p (.v (.bool _))) rfl ?_))))))))))))))))))
 refine So.gd rfl rfl (lk rfl) (lk rfl) (fun h1 => ?_) (fun h1 => ?_)
 ·have h1 := of_decide_eq_true h1
  refine A.v rfl (V.fa ty75 rfl ty23 rfl rfl (So.gy rfl rfl (lk rfl) (lk rfl) (A.v rfl (V.ld ty23 rfl rfl rfl (v := .p (.bs _)) rfl (So.gy rfl rfl (lk rfl) (lk rfl) (A.v rfl (V.len ty23 (v := .p (.bs _)) rfl rfl (So.gy rfl rfl (lk rfl) (lk rfl) (A.v rfl (V.bin (a := .v (.int .i64 _)) (b := .v (.int .i64 32)) (r := .v (.bool _)) rfl rfl rfl trivial (Sq (V.pkTrue (u := .p (.v (.bool _))) rfl rfl (Sq (V.mv (v := .p (.v (.bool _))) rfl ?_))))))))))))))
  refine So.gd rfl rfl (lk rfl) (lk rfl) (fun h2 => ?_) (fun h2 => ?_)
  ·have h2 := of_decide_eq_true h2
   refine A.v rfl (V.fa ty75 rfl ty2 rfl rfl (So.gy rfl rfl (lk rfl) (lk rfl) (A.v rfl (V.ld ty2 rfl rfl rfl (v := .p (.v (.int .i64 _))) rfl (So.gy rfl rfl (lk rfl) (lk rfl) (A.v rfl (V.bin (a := .v (.int .i64 _)) (b := .v (.int .i64 0)) (r := .v (.bool _)) rfl rfl rfl trivial (Sq (V.pkTrue (u := .p (.v (.bool _))) rfl rfl (Sq (V.mv (v := .p (.v (.bool _))) rfl ?_)))))))))))
   refine So.gd rfl rfl (lk rfl) (lk rfl) (fun h3 => ?_) (fun h3 => ?_)
   ·have h3 := of_decide_eq_true h3
    refine A.v rfl (V.fa ty75 rfl ty2 rfl rfl (So.gy rfl rfl (lk rfl) (lk rfl) (A.v rfl (V.ld ty2 rfl rfl rfl (v := .p (.v (.int .i64 _))) rfl (So.gy rfl rfl (lk rfl) (lk rfl) (A.v rfl (V.bin (a := .v (.int .i64 _)) (b := .v (.int .i64 1099511627776)) (r := .v (.bool _)) rfl rfl rfl trivial (Sq (V.pkTrue (u := .p (.v (.bool _))) rfl rfl (Sq (V.mv (v := .p (.v (.bool _))) rfl ?_)))))))))))
    refine So.gd rfl rfl (lk rfl) (lk rfl) (fun h4 => ?_) (fun h4 => ?_)
    ·have h4 := of_decide_eq_true h4
     refine A.v rfl (V.fa ty75 rfl ty3 rfl rfl (So.gy rfl rfl (lk rfl) (lk rfl) (A.v rfl (V.ld ty3 rfl rfl rfl (v := .p (.v (.int .i64 _))) rfl (So.gy rfl rfl (lk rfl) (lk rfl) (A.v rfl (V.bin (a := .v (.int .i64 _)) (b := .v (.int .i64 0)) (r := .v (.bool _)) rfl rfl rfl trivial (Sq (V.pkTrue (u := .p (.v (.bool _))) rfl rfl (Sq (V.mv (v := .p (.v (.bool _))) rfl ?_)))))))))))
     refine So.gd rfl rfl (lk rfl) (lk rfl) (fun h5 => ?_) (fun h5 => ?_)
     ·have h5 := of_decide_eq_true h5
      refine A.v rfl (V.fa ty75 rfl ty3 rfl rfl (So.gy rfl rfl (lk rfl) (lk rfl) (A.v rfl (V.ld ty3 rfl rfl rfl (v := .p (.v (.int .i64 _))) rfl (So.gy rfl rfl (lk rfl) (lk rfl) (A.v rfl (V.bin (a := .v (.int .i64 _)) (b := .v (.int .i64 65536)) (r := .v (.bool _)) rfl rfl rfl trivial (Sq (V.pkTrue (u := .p (.v (.bool _))) rfl rfl (Sq (V.as (v := .p (.v (.bool _))) rfl (So.e ?_))))))))))))
      refine HT.ret ?_
      exact rt1 h (le_bool (by exact decide_eq_decide.2 (by unfold whereP; omega)))
     ·have h5 := of_decide_eq_false h5
      refine So.gn (b := false) rfl rfl rfl (lk rfl) (lk rfl) (So.gn (b := false) rfl rfl rfl (lk rfl) (lk rfl) (Sq (V.pkFalse (u := .p (.v (.bool false))) rfl rfl (Sq (V.as (v := .p (.v (.bool false))) rfl (So.e ?_))))))
      refine HT.ret ?_
      exact rt1 h (le_bool (by exact (decide_eq_false (by unfold whereP; omega)).symm))
    ·have h4 := of_decide_eq_false h4
     refine So.gn (b := false) rfl rfl rfl (lk rfl) (lk rfl) (So.gn (b := false) rfl rfl rfl (lk rfl) (lk rfl) (Sq (V.pkFalse (u := .p (.v (.bool false))) rfl rfl (Sq (V.mv (v := .p (.v (.bool false))) rfl (So.gn (b := false) rfl rfl rfl (lk rfl) (lk rfl) (So.gn (b := false) rfl rfl rfl (lk rfl) (lk rfl) (So.gn (b := false) rfl rfl rfl (lk rfl) (lk rfl) (Sq (V.pkFalse (u := .p (.v (.bool false))) rfl rfl (Sq (V.as (v := .p (.v (.bool false))) rfl (So.e ?_)))))))))))))
     refine HT.ret ?_
     exact rt1 h (le_bool (by exact (decide_eq_false (by unfold whereP; omega)).symm))
   ·have h3 := of_decide_eq_false h3
    refine So.gn (b := false) rfl rfl rfl (lk rfl) (lk rfl) (So.gn (b := false) rfl rfl rfl (lk rfl) (lk rfl) (Sq (V.pkFalse (u := .p (.v (.bool false))) rfl rfl (Sq (V.mv (v := .p (.v (.bool false))) rfl (So.gn (b := false) rfl rfl rfl (lk rfl) (lk rfl) (So.gn (b := false) rfl rfl rfl (lk rfl) (lk rfl) (So.gn (b := false) rfl rfl rfl (lk rfl) (lk rfl) (Sq (V.pkFalse (u := .p (.v (.bool false))) rfl rfl (Sq (V.mv (v := .p (.v (.bool false))) rfl (So.gn (b := false) rfl rfl rfl (lk rfl) (lk rfl) (So.gn (b := false) rfl rfl rfl (lk rfl) (lk rfl) (So.gn (b := false) rfl rfl rfl (lk rfl) (lk rfl) (Sq (V.pkFalse (u := .p (.v (.bool false))) rfl rfl (Sq (V.as (v := .p (.v (.bool false))) rfl (So.e ?_))))))))))))))))))))
    refine HT.ret ?_
    exact rt1 h (le_bool (by exact (decide_eq_false (by unfold whereP; omega)).symm))
  ·have h2 := of_decide_eq_false h2
   refine So.gn (b := false) rfl rfl rfl (lk rfl) (lk rfl) (So.gn (b := false) rfl rfl rfl (lk rfl) (lk rfl) (Sq (V.pkFalse (u := .p (.v (.bool false))) rfl rfl (Sq (V.mv (v := .p (.v (.bool false))) rfl (So.gn (b := false) rfl rfl rfl (lk rfl) (lk rfl) (So.gn (b := false) rfl rfl rfl (lk rfl) (lk rfl) (So.gn (b := false) rfl rfl rfl (lk rfl) (lk rfl) (Sq (V.pkFalse (u := .p (.v (.bool false))) rfl rfl (Sq (V.mv (v := .p (.v (.bool false))) rfl (So.gn (b := false) rfl rfl rfl (lk rfl) (lk rfl) (So.gn (b := false) rfl rfl rfl (lk rfl) (lk rfl) (So.gn (b := false) rfl rfl rfl (lk rfl) (lk rfl) (Sq (V.pkFalse (u := .p (.v (.bool false))) rfl rfl (Sq (V.mv (v := .p (.v (.bool false))) rfl (So.gn (b := false) rfl rfl rfl (lk rfl) (lk rfl) (So.gn (b := false) rfl rfl rfl (lk rfl) (lk rfl) (So.gn (b := false) rfl rfl rfl (lk rfl) (lk rfl) (Sq (V.pkFalse (u := .p (.v (.bool false))) rfl rfl (Sq (V.as (v := .p (.v (.bool false))) rfl (So.e ?_)))))))))))))))))))))))))))
   refine HT.ret ?_
   exact rt1 h (le_bool (by exact (decide_eq_false (by unfold whereP; omega)).symm))
 ·have h1 := of_decide_eq_false h1
  refine So.gn (b := false) rfl rfl rfl (lk rfl) (lk rfl) (So.gn (b := false) rfl rfl rfl (lk rfl) (lk rfl) (So.gn (b := false) rfl rfl rfl (lk rfl) (lk rfl) (Sq (V.pkFalse (u := .p (.v (.bool false))) rfl rfl (Sq (V.mv (v := .p (.v (.bool false))) rfl (So.gn (b := false) rfl rfl rfl (lk rfl) (lk rfl) (So.gn (b := false) rfl rfl rfl (lk rfl) (lk rfl) (So.gn (b := false) rfl rfl rfl (lk rfl) (lk rfl) (Sq (V.pkFalse (u := .p (.v (.bool false))) rfl rfl (Sq (V.mv (v := .p (.v (.bool false))) rfl (So.gn (b := false) rfl rfl rfl (lk rfl) (lk rfl) (So.gn (b := false) rfl rfl rfl (lk rfl) (lk rfl) (So.gn (b := false) rfl rfl rfl (lk rfl) (lk rfl) (Sq (V.pkFalse (u := .p (.v (.bool false))) rfl rfl (Sq (V.mv (v := .p (.v (.bool false))) rfl (So.gn (b := false) rfl rfl rfl (lk rfl) (lk rfl) (So.gn (b := false) rfl rfl rfl (lk rfl) (lk rfl) (So.gn (b := false) rfl rfl rfl (lk rfl) (lk rfl) (Sq (V.pkFalse (u := .p (.v (.bool false))) rfl rfl (Sq (V.mv (v := .p (.v (.bool false))) rfl (So.gn (b := false) rfl rfl rfl (lk rfl) (lk rfl) (So.gn (b := false) rfl rfl rfl (lk rfl) (lk rfl) (So.gn (b := false) rfl rfl rfl (lk rfl) (lk rfl) (Sq (V.pkFalse (u := .p (.v (.bool false))) rfl rfl ?_))))))))))))))))))))))))))))))))
  refine Sq (V.as (v := .p (.v (.bool false))) rfl (So.e ?_))
  refine HT.ret ?_
  exact rt1 h (le_bool (by exact (decide_eq_false (by unfold whereP; omega)).symm))
def ftagSp : Sp := ⟨[], mkE (α := (List UInt8)) (fun b => [.p (.bs b)]) (fun b => []) (fun b => True) (fun b => [.p (.v (.bool (decide (tagP b))))]) (fun b => [])⟩
def S_ftag : FuncId -> Option Sp := fun _ => none
theorem S_ftag_ok : ∀ f s, S_ftag f = some s -> FOK Tryd.prog gl f s := fun f s h => by cases h
theorem ftag_ok : FOK Tryd.prog gl 52 ftagSp := by
 refine FOK.ofE (tyOf_ok Tryd.prog) (slots := [2]) (nt := 11) Tryd.func52 rfl rfl rfl rfl (by decide) 1 (fun _ => rfl) (by decide) (fun _ => ⟨trivial, trivial⟩) ?_
 rintro b kk hlen hpre h
 have hl0 : (b).length <= 9223372036854775807 := hlen.1
 replace hpre : True := hpre
 show HT (cx Tryd.prog 11 (tyOf Tryd.prog) gl []) _ [(0, .p (.bs b))] [] _
 refine HT.seq (HT.region S_ftag_ok (Sq (V.as (v := .p (.v (.bool false))) rfl (So.e (HT.seq (HT.region S_ftag_ok (Sq (V.mv (v := .p (.bs _)) rfl (Sq (V.len ty23 (v := .p (.bs _)) rfl rfl (Sq (V.bin (a := .v (.int .i64 _)) (b := .v (.int .i64 0)) (r := .v (.bool _)) rfl rfl rfl trivial (Sq (V.mv (v := .p (.v (.bool _))) rfl ?_))))))))))))))
 refine So.gd rfl rfl (lk rfl) (lk rfl) (fun h1 => ?_) (fun h1 => ?_)
 ·have h1 := of_decide_eq_false h1
  refine A.v rfl (V.mv (v := .p (.bs _)) rfl (So.gy rfl rfl (lk rfl) (lk rfl) (A.v rfl (V.len ty23 (v := .p (.bs _)) rfl rfl (So.gy rfl rfl (lk rfl) (lk rfl) (A.v rfl (V.bin (a := .v (.int .i64 _)) (b := .v (.int .i64 32)) (r := .v (.bool _)) rfl rfl rfl trivial (Sq (V.pkFalse (u := .p (.v (.bool _))) rfl rfl (Sq (V.as (v := .p (.v (.bool _))) rfl (So.e ?_))))))))))))
  refine HT.ret ?_
  exact rt1 h (le_bool (by exact decide_eq_decide.2 (by unfold tagP; omega)))
 ·have h1 := of_decide_eq_true h1
  refine So.gn (b := true) rfl rfl rfl (lk rfl) (lk rfl) (So.gn (b := true) rfl rfl rfl (lk rfl) (lk rfl) (Sq (V.pkTrue (u := .p (.v (.bool true))) rfl rfl (Sq (V.as (v := .p (.v (.bool true))) rfl (So.e ?_))))))
  refine HT.ret ?_
  exact rt1 h (le_bool (by exact (decide_eq_true (by unfold tagP; omega)).symm))
def frightSp : Sp := ⟨[], mkE (α := (List UInt8) × Int × Int × Int × (List UInt8)) (fun (g, ep, fr, kd, bd) => [.agg 5 (fun j => ([.bs g, .v (.int .i64 ep), .v (.int .i64 fr), .v (.int .i64 kd), .bs bd] : List PV).getD j (.v undef))]) (fun (g, ep, fr, kd, bd) => []) (fun (g, ep, fr, kd, bd) => True) (fun (g, ep, fr, kd, bd) => [.p (.v (.bool (decide (rightP g ep fr kd bd))))]) (fun (g, ep, fr, kd, bd) => [])⟩
def S_fright : FuncId -> Option Sp := fun f => if f = 59 then some fofSp else if f = 64 then some prightSp else none
theorem S_fright_ok : ∀ f s, S_fright f = some s -> FOK Tryd.prog gl f s := sI fof_ok (sI pright_ok sN)
theorem fright_ok : FOK Tryd.prog gl 53 frightSp := by
 refine FOK.ofE (tyOf_ok Tryd.prog) (slots := [2]) (nt := 22) Tryd.func53 rfl rfl rfl rfl (by decide) 1 (fun ⟨_, _, _, _, _⟩ => rfl) (by decide) (fun ⟨_, _, _, _, _⟩ => ⟨trivial, trivial⟩) ?_
 rintro ⟨g, ep, fr, kd, bd⟩ kk hlen hpre h
 replace hpre : True := hpre
 show HT (cx Tryd.prog 22 (tyOf Tryd.prog) gl []) _ [(0, .agg 5 (fun j => ([.bs g, .v (.int .i64 ep), .v (.int .i64 fr), .v (.int .i64 kd), .bs bd] : List PV).getD j (.v undef)))] [] _
 refine HT.seq (HT.region S_fright_ok (So.n (lk rfl) (A.boxAg 1 1 (n := 5) rfl (by intro j hj; (match j, hj with | 0, _ => (trivial) | 1, _ => (trivial) | 2, _ => (trivial) | 3, _ => (trivial) | 4, _ => (trivial))) rfl trivial (Sq (V.as (v := .p (.v (.bool false))) rfl (So.e (HT.seq (HT.region S_fright_ok (Sq (V.ldPtrA ty36 rfl rfl rfl rfl (lk rfl) ?_))))))))))
 refine So.n (lk rfl) (A.call0 [.agg 5 _] 2 rfl rfl rfl rfl ⟨trivial, trivial⟩ trivial (g, ep, fr, kd, bd) ⟨le_agg (fun j hj => by match j, hj with | 0, _ => rfl | 1, _ => rfl | 2, _ => rfl | 3, _ => rfl | 4, _ => rfl), trivial⟩ trivial (by trivial) tT (.inl rfl) (v := .agg 3 _) rfl (O' := _) rfl (fun h1 => ?_))
 refine So.n (lk rfl) (A.call0 [.agg 3 _] 2 rfl rfl rfl rfl ⟨trivial, trivial⟩ trivial (g, ep, fr) ⟨.refl _, trivial⟩ trivial (by trivial) tT (.inl rfl) (v := .p (.v (.bool _))) rfl (O' := _) rfl (fun h2 => ?_))
 refine Sq (V.mv (v := .p (.v (.bool _))) rfl ?_)
 refine So.gd rfl rfl (lk rfl) (lk rfl) (fun h3 => ?_) (fun h3 => ?_)
 ·have h3 := of_decide_eq_true h3
  refine A.v rfl (V.fa ty36 rfl ty3 rfl rfl (So.gy rfl rfl (lk rfl) (lk rfl) (A.v rfl (V.ld ty3 rfl rfl rfl (v := .p (.v (.int .i64 _))) rfl (So.gy rfl rfl (lk rfl) (lk rfl) (A.v rfl (V.bin (a := .v (.int .i64 _)) (b := .v (.int .i64 1)) (r := .v (.bool _)) rfl rfl rfl trivial (Sq (V.pkTrue (u := .p (.v (.bool _))) rfl rfl (Sq (V.mv (v := .p (.v (.bool _))) rfl ?_)))))))))))
  refine So.gd rfl rfl (lk rfl) (lk rfl) (fun h4 => ?_) (fun h4 => ?_)
  ·have h4 := of_decide_eq_true h4
   refine A.v rfl (V.fa ty36 rfl ty3 rfl rfl (So.gy rfl rfl (lk rfl) (lk rfl) (A.v rfl (V.ld ty3 rfl rfl rfl (v := .p (.v (.int .i64 _))) rfl (So.gy rfl rfl (lk rfl) (lk rfl) (A.v rfl (V.bin (a := .v (.int .i64 _)) (b := .v (.int .i64 5)) (r := .v (.bool _)) rfl rfl rfl trivial (Sq (V.pkTrue (u := .p (.v (.bool _))) rfl rfl (Sq (V.mv (v := .p (.v (.bool _))) rfl ?_)))))))))))
   refine So.gd rfl rfl (lk rfl) (lk rfl) (fun h5 => ?_) (fun h5 => ?_)
   ·have h5 := of_decide_eq_true h5
    refine A.v rfl (V.fa ty36 rfl ty23 rfl rfl (So.gy rfl rfl (lk rfl) (lk rfl) (A.v rfl (V.ld ty23 rfl rfl rfl (v := .p (.bs _)) rfl (So.gy rfl rfl (lk rfl) (lk rfl) (A.v rfl (V.len ty23 (v := .p (.bs _)) rfl rfl (So.gy rfl rfl (lk rfl) (lk rfl) (A.v rfl (V.bin (a := .v (.int .i64 _)) (b := .v (.int .i64 30000)) (r := .v (.bool _)) rfl rfl rfl trivial (Sq (V.pkTrue (u := .p (.v (.bool _))) rfl rfl (Sq (V.as (v := .p (.v (.bool _))) rfl (So.e ?_)))))))))))))))
    refine HT.ret ?_
    exact rt1 h (le_bool (by exact decide_eq_decide.2 (by unfold rightP; (have q := ‹whereP g ep fr›; exact ⟨fun h9 => ⟨q, by omega⟩, fun h9 => by omega⟩))))
   ·have h5 := of_decide_eq_false h5
    refine So.gn (b := false) rfl rfl rfl (lk rfl) (lk rfl) (So.gn (b := false) rfl rfl rfl (lk rfl) (lk rfl) (So.gn (b := false) rfl rfl rfl (lk rfl) (lk rfl) (Sq (V.pkFalse (u := .p (.v (.bool false))) rfl rfl (Sq (V.as (v := .p (.v (.bool false))) rfl (So.e ?_)))))))
    refine HT.ret ?_
    exact rt1 h (le_bool (by exact (decide_eq_false (by unfold rightP; omega)).symm))
  ·have h4 := of_decide_eq_false h4
   refine So.gn (b := false) rfl rfl rfl (lk rfl) (lk rfl) (So.gn (b := false) rfl rfl rfl (lk rfl) (lk rfl) (Sq (V.pkFalse (u := .p (.v (.bool false))) rfl rfl (Sq (V.mv (v := .p (.v (.bool false))) rfl (So.gn (b := false) rfl rfl rfl (lk rfl) (lk rfl) (So.gn (b := false) rfl rfl rfl (lk rfl) (lk rfl) (So.gn (b := false) rfl rfl rfl (lk rfl) (lk rfl) (So.gn (b := false) rfl rfl rfl (lk rfl) (lk rfl) (Sq (V.pkFalse (u := .p (.v (.bool false))) rfl rfl (Sq (V.as (v := .p (.v (.bool false))) rfl (So.e ?_))))))))))))))
   refine HT.ret ?_
   exact rt1 h (le_bool (by exact (decide_eq_false (by unfold rightP; omega)).symm))
 ·have h3 := of_decide_eq_false h3
  refine So.gn (b := false) rfl rfl rfl (lk rfl) (lk rfl) (So.gn (b := false) rfl rfl rfl (lk rfl) (lk rfl) (Sq (V.pkFalse (u := .p (.v (.bool false))) rfl rfl (Sq (V.mv (v := .p (.v (.bool false))) rfl (So.gn (b := false) rfl rfl rfl (lk rfl) (lk rfl) (So.gn (b := false) rfl rfl rfl (lk rfl) (lk rfl) (So.gn (b := false) rfl rfl rfl (lk rfl) (lk rfl) (Sq (V.pkFalse (u := .p (.v (.bool false))) rfl rfl (Sq (V.mv (v := .p (.v (.bool false))) rfl (So.gn (b := false) rfl rfl rfl (lk rfl) (lk rfl) (So.gn (b := false) rfl rfl rfl (lk rfl) (lk rfl) (So.gn (b := false) rfl rfl rfl (lk rfl) (lk rfl) (So.gn (b := false) rfl rfl rfl (lk rfl) (lk rfl) (Sq (V.pkFalse (u := .p (.v (.bool false))) rfl rfl (Sq (V.as (v := .p (.v (.bool false))) rfl (So.e ?_)))))))))))))))))))))
  refine HT.ret ?_
  exact rt1 h (le_bool (by exact (decide_eq_false (by unfold rightP; (rintro ⟨q, _⟩; exact absurd q (by assumption)))).symm))
def fsealSp : Sp := ⟨[], mkE (α := (List UInt8) × Int × Int × Int × (List UInt8)) (fun (g, ep, fr, gn, cl) => [.agg 5 (fun j => ([.bs g, .v (.int .i64 ep), .v (.int .i64 fr), .v (.int .i64 gn), .bs cl] : List PV).getD j (.v undef))]) (fun (g, ep, fr, gn, cl) => []) (fun (g, ep, fr, gn, cl) => True) (fun (g, ep, fr, gn, cl) => [.p (.v (.bool (decide (sealP g ep fr gn cl))))]) (fun (g, ep, fr, gn, cl) => [])⟩
def S_fseal : FuncId -> Option Sp := fun f => if f = 63 then some fwhereSp else if f = 64 then some prightSp else none
theorem S_fseal_ok : ∀ f s, S_fseal f = some s -> FOK Tryd.prog gl f s := sI fwhere_ok (sI pright_ok sN)
theorem fseal_ok : FOK Tryd.prog gl 48 fsealSp := by
 refine FOK.ofE (tyOf_ok Tryd.prog) (slots := [2]) (nt := 22) Tryd.func48 rfl rfl rfl rfl (by decide) 1 (fun ⟨_, _, _, _, _⟩ => rfl) (by decide) (fun ⟨_, _, _, _, _⟩ => ⟨trivial, trivial⟩) ?_
 rintro ⟨g, ep, fr, gn, cl⟩ kk hlen hpre h
 replace hpre : True := hpre
 show HT (cx Tryd.prog 22 (tyOf Tryd.prog) gl []) _ [(0, .agg 5 (fun j => ([.bs g, .v (.int .i64 ep), .v (.int .i64 fr), .v (.int .i64 gn), .bs cl] : List PV).getD j (.v undef)))] [] _
 refine HT.seq (HT.region S_fseal_ok (So.n (lk rfl) (A.boxAg 1 1 (n := 5) rfl (by intro j hj; (match j, hj with | 0, _ => (trivial) | 1, _ => (trivial) | 2, _ => (trivial) | 3, _ => (trivial) | 4, _ => (trivial))) rfl trivial (Sq (V.as (v := .p (.v (.bool false))) rfl (So.e (HT.seq (HT.region S_fseal_ok (Sq (V.ldPtrA ty69 rfl rfl rfl rfl (lk rfl) ?_))))))))))
 refine So.n (lk rfl) (A.call0 [.agg 5 _] 2 rfl rfl rfl rfl ⟨trivial, trivial⟩ trivial (g, ep, fr, gn, cl) ⟨le_agg (fun j hj => by match j, hj with | 0, _ => rfl | 1, _ => rfl | 2, _ => rfl | 3, _ => rfl | 4, _ => rfl), trivial⟩ trivial (by trivial) tT (.inl rfl) (v := .agg 3 _) rfl (O' := _) rfl (fun h1 => ?_))
 refine So.n (lk rfl) (A.call0 [.agg 3 _] 2 rfl rfl rfl rfl ⟨trivial, trivial⟩ trivial (g, ep, fr) ⟨.refl _, trivial⟩ trivial (by trivial) tT (.inl rfl) (v := .p (.v (.bool _))) rfl (O' := _) rfl (fun h2 => ?_))
 refine Sq (V.mv (v := .p (.v (.bool _))) rfl ?_)
 refine So.gd rfl rfl (lk rfl) (lk rfl) (fun h3 => ?_) (fun h3 => ?_)
 ·have h3 := of_decide_eq_true h3
  refine A.v rfl (V.fa ty69 rfl ty2 rfl rfl (So.gy rfl rfl (lk rfl) (lk rfl) (A.v rfl (V.ld ty2 rfl rfl rfl (v := .p (.v (.int .i64 _))) rfl (So.gy rfl rfl (lk rfl) (lk rfl) (A.v rfl (V.bin (a := .v (.int .i64 _)) (b := .v (.int .i64 0)) (r := .v (.bool _)) rfl rfl rfl trivial (Sq (V.pkTrue (u := .p (.v (.bool _))) rfl rfl (Sq (V.mv (v := .p (.v (.bool _))) rfl ?_)))))))))))
  refine So.gd rfl rfl (lk rfl) (lk rfl) (fun h4 => ?_) (fun h4 => ?_)
  ·have h4 := of_decide_eq_true h4
   refine A.v rfl (V.fa ty69 rfl ty2 rfl rfl (So.gy rfl rfl (lk rfl) (lk rfl) (A.v rfl (V.ld ty2 rfl rfl rfl (v := .p (.v (.int .i64 _))) rfl (So.gy rfl rfl (lk rfl) (lk rfl) (A.v rfl (V.bin (a := .v (.int .i64 _)) (b := .v (.int .i64 1073741824)) (r := .v (.bool _)) rfl rfl rfl trivial (Sq (V.pkTrue (u := .p (.v (.bool _))) rfl rfl (Sq (V.mv (v := .p (.v (.bool _))) rfl ?_)))))))))))
   refine So.gd rfl rfl (lk rfl) (lk rfl) (fun h5 => ?_) (fun h5 => ?_)
   ·have h5 := of_decide_eq_true h5
    refine A.v rfl (V.fa ty69 rfl ty23 rfl rfl (So.gy rfl rfl (lk rfl) (lk rfl) (A.v rfl (V.ld ty23 rfl rfl rfl (v := .p (.bs _)) rfl (So.gy rfl rfl (lk rfl) (lk rfl) (A.v rfl (V.len ty23 (v := .p (.bs _)) rfl rfl (So.gy rfl rfl (lk rfl) (lk rfl) (A.v rfl (V.bin (a := .v (.int .i64 _)) (b := .v (.int .i64 32800)) (r := .v (.bool _)) rfl rfl rfl trivial (Sq (V.pkTrue (u := .p (.v (.bool _))) rfl rfl (Sq (V.as (v := .p (.v (.bool _))) rfl (So.e ?_)))))))))))))))
    refine HT.ret ?_
    exact rt1 h (le_bool (by exact decide_eq_decide.2 (by unfold sealP; (have q := ‹whereP g ep fr›; exact ⟨fun h9 => ⟨q, by omega⟩, fun h9 => by omega⟩))))
   ·have h5 := of_decide_eq_false h5
    refine So.gn (b := false) rfl rfl rfl (lk rfl) (lk rfl) (So.gn (b := false) rfl rfl rfl (lk rfl) (lk rfl) (So.gn (b := false) rfl rfl rfl (lk rfl) (lk rfl) (Sq (V.pkFalse (u := .p (.v (.bool false))) rfl rfl (Sq (V.as (v := .p (.v (.bool false))) rfl (So.e ?_)))))))
    refine HT.ret ?_
    exact rt1 h (le_bool (by exact (decide_eq_false (by unfold sealP; omega)).symm))
  ·have h4 := of_decide_eq_false h4
   refine So.gn (b := false) rfl rfl rfl (lk rfl) (lk rfl) (So.gn (b := false) rfl rfl rfl (lk rfl) (lk rfl) (Sq (V.pkFalse (u := .p (.v (.bool false))) rfl rfl (Sq (V.mv (v := .p (.v (.bool false))) rfl (So.gn (b := false) rfl rfl rfl (lk rfl) (lk rfl) (So.gn (b := false) rfl rfl rfl (lk rfl) (lk rfl) (So.gn (b := false) rfl rfl rfl (lk rfl) (lk rfl) (So.gn (b := false) rfl rfl rfl (lk rfl) (lk rfl) (Sq (V.pkFalse (u := .p (.v (.bool false))) rfl rfl (Sq (V.as (v := .p (.v (.bool false))) rfl (So.e ?_))))))))))))))
   refine HT.ret ?_
   exact rt1 h (le_bool (by exact (decide_eq_false (by unfold sealP; omega)).symm))
 ·have h3 := of_decide_eq_false h3
  refine So.gn (b := false) rfl rfl rfl (lk rfl) (lk rfl) (So.gn (b := false) rfl rfl rfl (lk rfl) (lk rfl) (Sq (V.pkFalse (u := .p (.v (.bool false))) rfl rfl (Sq (V.mv (v := .p (.v (.bool false))) rfl (So.gn (b := false) rfl rfl rfl (lk rfl) (lk rfl) (So.gn (b := false) rfl rfl rfl (lk rfl) (lk rfl) (So.gn (b := false) rfl rfl rfl (lk rfl) (lk rfl) (Sq (V.pkFalse (u := .p (.v (.bool false))) rfl rfl (Sq (V.mv (v := .p (.v (.bool false))) rfl (So.gn (b := false) rfl rfl rfl (lk rfl) (lk rfl) (So.gn (b := false) rfl rfl rfl (lk rfl) (lk rfl) (So.gn (b := false) rfl rfl rfl (lk rfl) (lk rfl) (So.gn (b := false) rfl rfl rfl (lk rfl) (lk rfl) (Sq (V.pkFalse (u := .p (.v (.bool false))) rfl rfl (Sq (V.as (v := .p (.v (.bool false))) rfl (So.e ?_)))))))))))))))))))))
  refine HT.ret ?_
  exact rt1 h (le_bool (by exact (decide_eq_false (by unfold sealP; (rintro ⟨q, _⟩; exact absurd q (by assumption)))).symm))
def fmsgSp : Sp := ⟨[], mkE (α := (List UInt8) × Int × Int × Int × (List UInt8) × (List UInt8) × (List UInt8) × (List UInt8)) (fun (g, ep, fr, kd, bd, sn, cf, mb) => [.agg 8 (fun j => ([.bs g, .v (.int .i64 ep), .v (.int .i64 fr), .v (.int .i64 kd), .bs bd, .bs sn, .bs cf, .bs mb] : List PV).getD j (.v undef))]) (fun (g, ep, fr, kd, bd, sn, cf, mb) => []) (fun (g, ep, fr, kd, bd, sn, cf, mb) => True) (fun (g, ep, fr, kd, bd, sn, cf, mb) => [.p (.v (.bool (decide (msgP g ep fr kd bd sn cf mb))))]) (fun (g, ep, fr, kd, bd, sn, cf, mb) => [])⟩
def S_fmsg : FuncId -> Option Sp := fun f => if f = 53 then some frightSp else if f = 52 then some ftagSp else none
theorem S_fmsg_ok : ∀ f s, S_fmsg f = some s -> FOK Tryd.prog gl f s := sI fright_ok (sI ftag_ok sN)
theorem fmsg_ok : FOK Tryd.prog gl 39 fmsgSp := by
 refine FOK.ofE (tyOf_ok Tryd.prog) (slots := [2]) (nt := 25) Tryd.func39 rfl rfl rfl rfl (by decide) 1 (fun ⟨_, _, _, _, _, _, _, _⟩ => rfl) (by decide) (fun ⟨_, _, _, _, _, _, _, _⟩ => ⟨trivial, trivial⟩) ?_
 rintro ⟨g, ep, fr, kd, bd, sn, cf, mb⟩ kk hlen hpre h
 replace hpre : True := hpre
 show HT (cx Tryd.prog 25 (tyOf Tryd.prog) gl []) _ [(0, .agg 8 (fun j => ([.bs g, .v (.int .i64 ep), .v (.int .i64 fr), .v (.int .i64 kd), .bs bd, .bs sn, .bs cf, .bs mb] : List PV).getD j (.v undef)))] [] _
 refine HT.seq (HT.region S_fmsg_ok (So.n (lk rfl) (A.boxAg 1 1 (n := 8) rfl (by intro j hj; (match j, hj with | 0, _ => (trivial) | 1, _ => (trivial) | 2, _ => (trivial) | 3, _ => (trivial) | 4, _ => (trivial) | 5, _ => (trivial) | 6, _ => (trivial) | 7, _ => (trivial))) rfl trivial (Sq (V.as (v := .p (.v (.bool false))) rfl (So.e (HT.seq (HT.region S_fmsg_ok (Sq (V.as (v := .clo 52 []) rfl (So.e (HT.seq (HT.region S_fmsg_ok (Sq (V.fa ty49 rfl ty36 rfl rfl (Sq (V.ldPtrA ty36 rfl rfl rfl rfl (lk rfl) ?_)))))))))))))))))
 refine So.n (lk rfl) (A.call0 [.agg 5 _] 2 rfl rfl rfl rfl ⟨trivial, trivial⟩ trivial (g, ep, fr, kd, bd) ⟨le_agg (fun j hj => by match j, hj with | 0, _ => rfl | 1, _ => rfl | 2, _ => rfl | 3, _ => rfl | 4, _ => rfl), trivial⟩ trivial (by trivial) tT (.inl rfl) (v := .p (.v (.bool _))) rfl (O' := _) rfl (fun h1 => ?_))
 refine Sq (V.mv (v := .p (.v (.bool _))) rfl ?_)
 refine So.gd rfl rfl (lk rfl) (lk rfl) (fun h2 => ?_) (fun h2 => ?_)
 ·have h2 := of_decide_eq_true h2
  refine A.v rfl (V.fa ty49 rfl ty23 rfl rfl (So.gy rfl rfl (lk rfl) (lk rfl) (A.v rfl (V.ld ty23 rfl rfl rfl (v := .p (.bs _)) rfl (So.gy rfl rfl (lk rfl) (lk rfl) (A.v rfl (V.len ty23 (v := .p (.bs _)) rfl rfl (So.gy rfl rfl (lk rfl) (lk rfl) (A.v rfl (V.bin (a := .v (.int .i64 _)) (b := .v (.int .i64 3309)) (r := .v (.bool _)) rfl rfl rfl trivial (Sq (V.pkTrue (u := .p (.v (.bool _))) rfl rfl (Sq (V.mv (v := .p (.v (.bool _))) rfl ?_))))))))))))))
  refine So.gd rfl rfl (lk rfl) (lk rfl) (fun h3 => ?_) (fun h3 => ?_)
  ·have h3 := of_decide_eq_true h3
   refine A.v rfl (V.mv (v := .clo 52 []) rfl (So.gy rfl rfl (lk rfl) (lk rfl) (A.v rfl (V.fa ty49 rfl ty23 rfl rfl (So.gy rfl rfl (lk rfl) (lk rfl) (A.v rfl (V.ld ty23 rfl rfl rfl (v := .p (.bs _)) rfl (So.gy rfl rfl (lk rfl) (lk rfl) ?_))))))))
   refine A.call0 [.p (.bs _)] 2 rfl rfl rfl rfl ⟨trivial, trivial⟩ trivial cf ⟨.refl _, trivial⟩ trivial (by trivial) tT (.inl rfl) (v := .p (.v (.bool _))) rfl (O' := _) rfl (fun h4 => ?_)
   refine Sq (V.pkTrue (u := .p (.v (.bool _))) rfl rfl (Sq (V.mv (v := .p (.v (.bool _))) rfl ?_)))
   refine So.gd rfl rfl (lk rfl) (lk rfl) (fun h5 => ?_) (fun h5 => ?_)
   ·have h5 := of_decide_eq_true h5
    refine A.v rfl (V.mv (v := .clo 52 []) rfl (So.gy rfl rfl (lk rfl) (lk rfl) (A.v rfl (V.fa ty49 rfl ty23 rfl rfl (So.gy rfl rfl (lk rfl) (lk rfl) (A.v rfl (V.ld ty23 rfl rfl rfl (v := .p (.bs _)) rfl (So.gy rfl rfl (lk rfl) (lk rfl) ?_))))))))
    refine A.call0 [.p (.bs _)] 2 rfl rfl rfl rfl ⟨trivial, trivial⟩ trivial mb ⟨.refl _, trivial⟩ trivial (by trivial) tT (.inl rfl) (v := .p (.v (.bool _))) rfl (O' := _) rfl (fun h6 => ?_)
    refine Sq (V.pkTrue (u := .p (.v (.bool _))) rfl rfl (Sq (V.as (v := .p (.v (.bool _))) rfl (So.e ?_))))
    refine HT.ret ?_
    exact rt1 h (le_bool (by (unfold tagP at *; exact msg_iff ⟨fun q => ⟨by assumption, by omega⟩, fun q => by have := q.2; omega⟩)))
   ·have h5 := of_decide_eq_false h5
    refine So.gn (b := false) rfl rfl rfl (lk rfl) (lk rfl) (So.gn (b := false) rfl rfl rfl (lk rfl) (lk rfl) (So.gn (b := false) rfl rfl rfl (lk rfl) (lk rfl) (Sq (V.pkFalse (u := .p (.v (.bool false))) rfl rfl (Sq (V.as (v := .p (.v (.bool false))) rfl (So.e ?_)))))))
    refine HT.ret ?_
    exact rt1 h (le_bool (by (unfold tagP at *; exact msg_no (fun q => by have := q.2; omega))))
  ·have h3 := of_decide_eq_false h3
   refine So.gn (b := false) rfl rfl rfl (lk rfl) (lk rfl) (So.gn (b := false) rfl rfl rfl (lk rfl) (lk rfl) (So.gn (b := false) rfl rfl rfl (lk rfl) (lk rfl) (Sq (V.pkFalse (u := .p (.v (.bool false))) rfl rfl (Sq (V.mv (v := .p (.v (.bool false))) rfl (So.gn (b := false) rfl rfl rfl (lk rfl) (lk rfl) (So.gn (b := false) rfl rfl rfl (lk rfl) (lk rfl) (So.gn (b := false) rfl rfl rfl (lk rfl) (lk rfl) (So.gn (b := false) rfl rfl rfl (lk rfl) (lk rfl) (Sq (V.pkFalse (u := .p (.v (.bool false))) rfl rfl (Sq (V.as (v := .p (.v (.bool false))) rfl (So.e ?_)))))))))))))))
   refine HT.ret ?_
   exact rt1 h (le_bool (by exact msg_no (fun q => by have := q.2; omega)))
 ·have h2 := of_decide_eq_false h2
  refine So.gn (b := false) rfl rfl rfl (lk rfl) (lk rfl) (So.gn (b := false) rfl rfl rfl (lk rfl) (lk rfl) (So.gn (b := false) rfl rfl rfl (lk rfl) (lk rfl) (Sq (V.pkFalse (u := .p (.v (.bool false))) rfl rfl (Sq (V.mv (v := .p (.v (.bool false))) rfl (So.gn (b := false) rfl rfl rfl (lk rfl) (lk rfl) (So.gn (b := false) rfl rfl rfl (lk rfl) (lk rfl) (So.gn (b := false) rfl rfl rfl (lk rfl) (lk rfl) (So.gn (b := false) rfl rfl rfl (lk rfl) (lk rfl) (Sq (V.pkFalse (u := .p (.v (.bool false))) rfl rfl (Sq (V.mv (v := .p (.v (.bool false))) rfl (So.gn (b := false) rfl rfl rfl (lk rfl) (lk rfl) (So.gn (b := false) rfl rfl rfl (lk rfl) (lk rfl) (So.gn (b := false) rfl rfl rfl (lk rfl) (lk rfl) (So.gn (b := false) rfl rfl rfl (lk rfl) (lk rfl) (Sq (V.pkFalse (u := .p (.v (.bool false))) rfl rfl (Sq (V.as (v := .p (.v (.bool false))) rfl (So.e ?_)))))))))))))))))))))))
  refine HT.ret ?_
  exact rt1 h (le_bool (by exact msg_no (fun q => absurd q.1 (by assumption))))
end Go.Vh
