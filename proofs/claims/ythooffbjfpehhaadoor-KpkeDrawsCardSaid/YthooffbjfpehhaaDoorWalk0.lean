/- What is proved: each function of the seat's program does what its contract says, wherever it is called; no condition. -/
import Derived.Test.YthooffbjfpehhaaDoorPure0
import Derived.Test.YthooffbjfpehhaaDoorFrame2
import Derived.Test.YthooffbjfpehhaaDoorProg
set_option linter.unusedVariables false
set_option linter.unusedSimpArgs false
set_option linter.unusedVariables false
set_option linter.unusedSimpArgs false
namespace Go.Vh
open Go Go.Vc Go.Proofs Go.Vw Go.Vk
def gl : Nat → Option (Nat × (Nat → GV)) := fun g => if g = 0 then some (24, fun j => .u64 (constL.getD j 0)) else if g = 1 then some (24, fun j => .v (.int .i64 ((placesL.getD j 0 : Nat) : Int))) else if g = 2 then some (24, fun j => .v (.int .i64 ((turnsL.getD j 0 : Nat) : Int))) else none
theorem mixed : Tryd.prog.follows .mixedOrders = true := by kernel_rfl
theorem ty3 : tyOf Tryd.prog 3 = some ⟨.int .i64, 1, 8, some (fun _ => .int .i64 0)⟩ := by rfl
theorem ty4 : tyOf Tryd.prog 4 = some ⟨.bool, 1, 1, some (fun _ => .bool false)⟩ := by rfl
theorem ty5 : tyOf Tryd.prog 5 = some ⟨.int .u8, 1, 1, some (fun _ => .int .u8 0)⟩ := by rfl
theorem ty22 : tyOf Tryd.prog 22 = some ⟨.slice 5, 1, 24, some (fun _ => .slice none 0 0)⟩ := by rfl
theorem ty25 : tyOf Tryd.prog 25 = some ⟨.array 256 3, 256, 2048, some (fun _ => .int .i64 0)⟩ := by kernel_rfl
theorem ty29 : tyOf Tryd.prog 29 = some ⟨.int .u64, 1, 8, some (fun _ => .int .u64 0)⟩ := by rfl
theorem ty36 : tyOf Tryd.prog 36 = some ⟨.array 4 3, 4, 32, some (fun _ => .int .i64 0)⟩ := by rfl
theorem ty53 : tyOf Tryd.prog 53 = some ⟨.int .u64, 1, 8, some (fun _ => .int .u64 0)⟩ := by rfl
theorem ty55 : tyOf Tryd.prog 55 = some ⟨.array 25 53, 25, 200, some (fun _ => .int .u64 0)⟩ := by rfl
theorem ty57 : tyOf Tryd.prog 57 = some ⟨.struct [(0, 3), (1, 5), (2, 55), (27, 3), (28, 4)], 29, 232, some (fun j => ([.int .i64 0, .int .u8 0, .int .u64 0, .int .u64 0, .int .u64 0, .int .u64 0, .int .u64 0, .int .u64 0, .int .u64 0, .int .u64 0, .int .u64 0, .int .u64 0, .int .u64 0, .int .u64 0, .int .u64 0, .int .u64 0, .int .u64 0, .int .u64 0, .int .u64 0, .int .u64 0, .int .u64 0, .int .u64 0, .int .u64 0, .int .u64 0, .int .u64 0, .int .u64 0, .int .u64 0, .int .i64 0, .bool false] : List Value).getD j undef)⟩ := by rfl
theorem ty60 : tyOf Tryd.prog 60 = some ⟨.array 5 53, 5, 40, some (fun _ => .int .u64 0)⟩ := by rfl
theorem ty61 : tyOf Tryd.prog 61 = some ⟨.array 5 60, 25, 200, some (fun _ => .int .u64 0)⟩ := by rfl
theorem ty63 : tyOf Tryd.prog 63 = some ⟨.struct [(0, 3), (1, 5), (2, 61), (27, 3), (28, 4)], 29, 232, some (fun j => ([.int .i64 0, .int .u8 0, .int .u64 0, .int .u64 0, .int .u64 0, .int .u64 0, .int .u64 0, .int .u64 0, .int .u64 0, .int .u64 0, .int .u64 0, .int .u64 0, .int .u64 0, .int .u64 0, .int .u64 0, .int .u64 0, .int .u64 0, .int .u64 0, .int .u64 0, .int .u64 0, .int .u64 0, .int .u64 0, .int .u64 0, .int .u64 0, .int .u64 0, .int .u64 0, .int .u64 0, .int .i64 0, .bool false] : List Value).getD j undef)⟩ := by rfl
theorem ty65 : tyOf Tryd.prog 65 = some ⟨.array 5 3, 5, 40, some (fun _ => .int .i64 0)⟩ := by rfl
theorem ty66 : tyOf Tryd.prog 66 = some ⟨.array 5 65, 25, 200, some (fun _ => .int .i64 0)⟩ := by rfl
theorem ty68 : tyOf Tryd.prog 68 = some ⟨.array 24 53, 24, 192, some (fun _ => .int .u64 0)⟩ := by rfl
theorem ty72 : tyOf Tryd.prog 72 = some ⟨.array 24 3, 24, 192, some (fun _ => .int .i64 0)⟩ := by rfl
end Go.Vh

set_option linter.unusedVariables false
set_option linter.unusedSimpArgs false
namespace Go.Vh
open Go Go.Vc Go.Proofs Go.Vw Go.Vk
def rotl64Sp : Sp := ⟨[], mkE (α := UInt64 × Int) (fun (x, n) => [.p (.u64 (x)), .p (.v (.int .i64 (n)))]) (fun (x, n) => []) (fun (x, n) => 1 ≤ n ∧ n ≤ 63) (fun (x, n) => [.p (.u64 (rot x n.toNat))]) (fun (x, n) => [])⟩
def S_rotl64 : FuncId → Option Sp := fun _ => none
theorem S_rotl64_ok : ∀ f s, S_rotl64 f = some s → FOK Tryd.prog gl f s := fun f s h => by cases h
set_option maxHeartbeats 1000000 in
set_option maxRecDepth 1000 in
theorem rotl64_ok : FOK Tryd.prog gl 43 rotl64Sp := by
 refine FOK.ofE (tyOf_ok Tryd.prog) (slots := [4]) (nt := 17) Tryd.func43 rfl rfl rfl rfl (by decide) 2 (fun ⟨_, _⟩ => rfl) (by decide) (fun ⟨_, _⟩ => ⟨trivial, trivial, trivial⟩) ?_
 rintro ⟨x, n⟩ kk hlen hpre h
 replace hpre : 1 ≤ n ∧ n ≤ 63 := hpre
 show HT (cx Tryd.prog 17 (tyOf Tryd.prog) gl []) _ [(0, .p (.u64 (x))), (1, .p (.v (.int .i64 (n))))] [] _
 refine HT.seq (HT.region S_rotl64_ok (So.q rfl rfl (V.as (v := .p (.u64 0)) rfl (So.e (HT.seq (HT.region S_rotl64_ok (So.q rfl rfl (V.mv (v := .p (.v (.int .i64 _))) rfl (So.q rfl rfl (V.cvN ty29 ty3 (a := (.v (.int .i64 _))) (r := (.u64 _)) rfl rfl (So.q rfl rfl (V.bin (a := (.u64 _)) (b := (.u64 63)) (r := .u64 _) rfl rfl rfl trivial (So.q rfl rfl (V.as (v := .p (.u64 _)) rfl ?_))))))))))))))
 refine So.e (HT.seq (HT.region S_rotl64_ok (So.q rfl rfl (V.mv (v := .p (.u64 _)) rfl (So.q rfl rfl (V.mv (v := .p (.u64 _)) rfl (So.q rfl rfl (V.bin (a := (.u64 _)) (b := (.u64 _)) (r := .u64 _) rfl rfl rfl (by first | rfl | omega | (simp; done) | (simp; omega)) (So.q rfl rfl (V.mv (v := .p (.u64 _)) rfl (So.q rfl rfl (V.mv (v := .p (.u64 _)) rfl (So.q rfl rfl (V.bin (a := (.u64 64)) (b := (.u64 _)) (r := .u64 _) rfl rfl rfl trivial (So.q rfl rfl (V.bin (a := (.u64 _)) (b := (.u64 _)) (r := .u64 _) rfl rfl rfl (by first | rfl | omega | (simp; done) | (simp; omega)) ?_))))))))))))))))
 refine So.q rfl rfl (V.bin (a := (.u64 _)) (b := (.u64 _)) (r := .u64 _) rfl rfl rfl trivial (So.q rfl rfl (V.as (v := .p (.u64 _)) rfl (So.e ?_))))
 show HT _ _ _ _ _
 refine HT.ret ?_
 exact ret_ok (sg []) h rfl rfl rfl trivial ⟨trivial, trivial⟩ rfl ⟨⟨⟨le_u64 (by first | rfl | exact rot64_left hpre), trivial⟩, trivial⟩, trivial⟩
def kturnedSp : Sp := ⟨[], mkE (α := UInt64 × Int) (fun (x, n) => [.p (.u64 (x)), .p (.v (.int .i64 (n)))]) (fun (x, n) => []) (fun (x, n) => 0 ≤ n ∧ n ≤ 63) (fun (x, n) => [.p (.u64 (rot x n.toNat))]) (fun (x, n) => [])⟩
def S_kturned : FuncId → Option Sp := fun _ => none
theorem S_kturned_ok : ∀ f s, S_kturned f = some s → FOK Tryd.prog gl f s := fun f s h => by cases h
theorem S_kturned_det : ∀ f s, S_kturned f = some s → SpDet s.sp := fun f s h => by cases h
set_option maxHeartbeats 1000000 in
set_option maxRecDepth 1000 in
theorem kturned_ok : FOK Tryd.prog gl 42 kturnedSp := by
 refine FOK.ofE (tyOf_ok Tryd.prog) (slots := [4]) (nt := 13) Tryd.func42 rfl rfl rfl rfl (by decide) 2 (fun ⟨_, _⟩ => rfl) (by decide) (fun ⟨_, _⟩ => ⟨trivial, trivial, trivial⟩) ?_
 rintro ⟨x, n⟩ kk hlen hpre h
 replace hpre : 0 ≤ n ∧ n ≤ 63 := hpre
 show HT (cx Tryd.prog 13 (tyOf Tryd.prog) gl []) _ [(0, .p (.u64 (x))), (1, .p (.v (.int .i64 (n))))] [] _
 refine HT.seq (HT.region S_kturned_ok (So.q rfl rfl (V.as (v := .p (.u64 0)) rfl (So.e (HT.seq ?_)))))
 refine HT.drawn S_kturned_ok S_kturned_det mixed (by kernel_rfl) ?_
 refine Sd.n (lk rfl) (V.mv (v := .p (.u64 _)) rfl (Sd.n (lk rfl) (V.mv (v := .p (.v (.int .i64 _))) rfl (Sd.n (lk rfl) (V.bin (a := (.u64 _)) (b := (.v (.int .i64 _))) (r := .u64 _) rfl rfl rfl (by first | rfl | omega | (simp; done) | (simp; omega)) (Sd.n (lk rfl) (V.mv (v := .p (.u64 _)) rfl (Sd.n (lk rfl) (V.mv (v := .p (.v (.int .i64 _))) rfl (Sd.n (lk rfl) (V.subI rfl rfl (by omega) (Sd.n (lk rfl) (V.bin (a := (.u64 _)) (b := (.v (.int .i64 _))) (r := .u64 _) rfl rfl rfl (by first | rfl | omega | (simp; done) | (simp; omega)) (Sd.n (lk rfl) (V.bin (a := (.u64 _)) (b := (.u64 _)) (r := .u64 _) rfl rfl rfl trivial (Sd.n (lk rfl) (V.as (v := .p (.u64 _)) rfl (Sd.e ?_))))))))))))))))))
 show HT _ _ _ _ _
 refine HT.ret ?_
 exact ret_ok (sg []) h rfl rfl rfl trivial ⟨trivial, trivial⟩ rfl ⟨⟨⟨le_u64 (by first | rfl | (unfold rot; congr 2; omega)), trivial⟩, trivial⟩, trivial⟩
end Go.Vh

set_option linter.unusedVariables false
set_option linter.unusedSimpArgs false
namespace Go.Vh
open Go Go.Vc Go.Proofs Go.Vw Go.Vk
def modSp : Sp := ⟨[], mkE (α := Int × Int) (fun (n, m) => [.p (.v (.int .i64 (n))), .p (.v (.int .i64 (m)))]) (fun (n, m) => []) (fun (n, m) => 0 < m ∧ m ≤ 4611686018427387904) (fun (n, m) => [.p (.v (.int .i64 (n % m)))]) (fun (n, m) => [])⟩
def S_mod : FuncId → Option Sp := fun _ => none
theorem S_mod_ok : ∀ f s, S_mod f = some s → FOK Tryd.prog gl f s := fun f s h => by cases h
set_option maxHeartbeats 1000000 in
set_option maxRecDepth 1000 in
theorem mod_ok : FOK Tryd.prog gl 21 modSp := by
 refine FOK.ofE (tyOf_ok Tryd.prog) (slots := [4]) (nt := 14) Tryd.func21 rfl rfl rfl rfl (by decide) 2 (fun ⟨_, _⟩ => rfl) (by decide) (fun ⟨_, _⟩ => ⟨trivial, trivial, trivial⟩) ?_
 rintro ⟨n, m⟩ kk hlen hpre h
 replace hpre : 0 < m ∧ m ≤ 4611686018427387904 := hpre
 show HT (cx Tryd.prog 14 (tyOf Tryd.prog) gl []) _ [(0, .p (.v (.int .i64 (n)))), (1, .p (.v (.int .i64 (m))))] [] _
 refine HT.seq (HT.region S_mod_ok (So.q rfl rfl (V.as (v := .p (.v (.int .i64 (0)))) rfl (So.e (HT.seq (HT.seq (HT.region S_mod_ok (So.q rfl rfl (V.mv (v := .p (.v (.int .i64 _))) rfl (So.q rfl rfl (V.mv (v := .p (.v (.int .i64 _))) rfl (So.q rfl rfl (V.bin (a := (.v (.int .i64 _))) (b := (.v (.int .i64 _))) (r := .v (.int .i64 _)) rfl rfl rfl (by omega) ?_)))))))))))))
 refine So.q rfl rfl (V.as (v := .p (.v (.int .i64 _))) rfl (So.e (HT.seq (HT.region S_mod_ok (So.q rfl rfl (V.mv (v := .p (.v (.int .i64 _))) rfl (So.q rfl rfl (V.bin (a := (.v (.int .i64 _))) (b := (.v (.int .i64 (0)))) (r := .v (.bool _)) rfl rfl rfl trivial (So.e ?_)))))))))
 show HT _ _ _ _ _
 refine R.cond rfl rfl (fun h1 => ?_) (fun h1 => ?_)
 ·have h1 := of_decide_eq_true h1
  refine HT.region S_mod_ok ?_
  have hb := tmod_lb (n := n) hpre.1
  refine So.q rfl rfl (V.mv (v := .p (.v (.int .i64 _))) rfl (So.q rfl rfl (V.mv (v := .p (.v (.int .i64 _))) rfl (So.q rfl rfl (V.addI rfl rfl (by omega) (So.q rfl rfl (V.as (v := .p (.v (.int .i64 _))) rfl (So.e (HT.seq (HT.region S_mod_ok (So.q rfl rfl (V.mv (v := .p (.v (.int .i64 _))) rfl (So.q rfl rfl (V.as (v := .p (.v (.int .i64 _))) rfl (So.e ?_)))))))))))))))
  show HT _ _ _ _ _
  refine HT.ret ?_
  exact ret_ok (sg []) h rfl rfl rfl trivial ⟨trivial, trivial⟩ rfl ⟨⟨⟨le_int (by first | rfl | (exact mod_neg (by omega) (by omega)) | (exact mod_pos (by omega) (by omega))), trivial⟩, trivial⟩, trivial⟩
 ·have h1 := of_decide_eq_false h1
  refine HT.skip (HT.seq (HT.region S_mod_ok (So.q rfl rfl (V.mv (v := .p (.v (.int .i64 _))) rfl (So.q rfl rfl (V.as (v := .p (.v (.int .i64 _))) rfl (So.e ?_)))))))
  show HT _ _ _ _ _
  refine HT.ret ?_
  exact ret_ok (sg []) h rfl rfl rfl trivial ⟨trivial, trivial⟩ rfl ⟨⟨⟨le_int (by first | rfl | (exact mod_neg (by omega) (by omega)) | (exact mod_pos (by omega) (by omega))), trivial⟩, trivial⟩, trivial⟩
def squeezeSp : Sp := ⟨[], mkE (α := Int × Int) (fun (d, n) => [.p (.v (.int .i64 (d))), .p (.v (.int .i64 (n)))]) (fun (d, n) => []) (fun (d, n) => True) (fun (d, n) => [.p (.v (.int .i64 (sqF d n)))]) (fun (d, n) => [])⟩
def S_squeeze : FuncId → Option Sp := fun f => if f = 21 then some modSp else none
theorem S_squeeze_ok : ∀ f s, S_squeeze f = some s → FOK Tryd.prog gl f s := fun f s h => by
 unfold S_squeeze at h
 split at h
 ·rename_i e; cases h; subst e; exact mod_ok
 cases h
theorem S_squeeze_det : ∀ f s, S_squeeze f = some s → SpDet s.sp := fun f s h => by
 unfold S_squeeze at h
 split at h
 ·cases h; exact mkE_det _ _ _ _ _
 cases h
set_option maxHeartbeats 1000000 in
set_option maxRecDepth 1000 in
theorem squeeze_ok : FOK Tryd.prog gl 13 squeezeSp := by
 refine FOK.ofE (tyOf_ok Tryd.prog) (slots := [4]) (nt := 21) Tryd.func13 rfl rfl rfl rfl (by decide) 2 (fun ⟨_, _⟩ => rfl) (by decide) (fun ⟨_, _⟩ => ⟨trivial, trivial, trivial⟩) ?_
 rintro ⟨d, n⟩ kk hlen hpre h
 replace hpre : True := hpre
 show HT (cx Tryd.prog 21 (tyOf Tryd.prog) gl []) _ [(0, .p (.v (.int .i64 (d)))), (1, .p (.v (.int .i64 (n))))] [] _
 refine HT.seq (HT.region S_squeeze_ok (So.q rfl rfl (V.as (v := .p (.v (.int .i64 (0)))) rfl (So.e (HT.seq (HT.seq (HT.region S_squeeze_ok (So.q rfl rfl (V.mv (v := .p (.v (.int .i64 _))) rfl (So.q rfl rfl (V.bin (a := (.v (.int .i64 _))) (b := (.v (.int .i64 (1)))) (r := .v (.bool _)) rfl rfl rfl trivial (So.q rfl rfl (V.mv (v := .p (.v (.bool _))) rfl ?_)))))))))))))
 refine So.gd rfl rfl (lk rfl) (lk rfl) (fun h1 => ?_) (fun h1 => ?_)
 ·have h1 := of_decide_eq_false h1
  refine A.v rfl (V.mv (v := .p (.v (.int .i64 _))) rfl (So.gy rfl rfl (lk rfl) (lk rfl) (A.v rfl (V.bin (a := (.v (.int .i64 _))) (b := (.v (.int .i64 (11)))) (r := .v (.bool _)) rfl rfl rfl trivial (So.q rfl rfl (V.pkFalse (u := .p (.v (.bool _))) rfl rfl (So.e ?_)))))))
  show HT _ _ _ _ _
  refine R.cond rfl rfl (fun h2 => ?_) (fun h2 => ?_)
  ·have h2 := of_decide_eq_true h2
   refine HT.seq (HT.region S_squeeze_ok (So.q rfl rfl (V.as (v := .p (.v (.int .i64 (0)))) rfl (So.e ?_))))
   show HT _ _ _ _ _
   refine HT.ret ?_
   exact ret_ok (sg []) h rfl rfl rfl trivial ⟨trivial, trivial⟩ rfl ⟨⟨⟨le_int (by first | rfl | (unfold sqF; rw [if_pos (by omega)]; done) | (exact sq_ret (by omega) (by omega)) | (exact sq_ret (by omega) (by omega))), trivial⟩, trivial⟩, trivial⟩
  ·have h2 := of_decide_eq_false h2
   refine HT.skip (HT.seq ?_)
   refine HT.drawn S_squeeze_ok S_squeeze_det mixed (by kernel_rfl) ?_
   have hsh := sq_shl n (by omega) (by omega)
   refine Sd.n (lk rfl) (V.mv (v := .p (.v (.int .i64 _))) rfl ?_)
   refine Sd.n (lk rfl) (V.call [.p (.v (.int .i64 _)), .p (.v (.int .i64 _))] 1 rfl rfl rfl rfl ⟨trivial, trivial, trivial⟩ trivial (_, _) ⟨.refl _, .refl _, trivial⟩ trivial (by first | omega | (simp; omega)) (Φ := fun _ => True) (fun _ _ => trivial) (.inl ⟨trivial, trivial, trivial⟩) (v := .p (.v (.int .i64 _))) rfl (fun h3 => ?_))
   refine Sd.n (lk rfl) (V.mv (v := .p (.v (.int .i64 _))) rfl (Sd.n (lk rfl) (V.bin (a := (.v (.int .i64 _))) (b := (.v (.int .i64 _))) (r := .v (.int .i64 _)) rfl rfl rfl (by first | rfl | omega | (simp; done) | (simp; omega)) (Sd.n (lk rfl) (V.addI rfl rfl (by omega) (Sd.n (lk rfl) (V.quoI rfl rfl (by omega) (Sd.n (lk rfl) (V.mv (v := .p (.v (.int .i64 _))) rfl (Sd.n (lk rfl) (V.bin (a := (.v (.int .i64 (1)))) (b := (.v (.int .i64 _))) (r := .v (.int .i64 _)) rfl rfl rfl (by first | rfl | omega | (simp; done) | (simp; omega)) (Sd.n (lk rfl) (V.subI rfl rfl (by omega) (Sd.n (lk rfl) (V.bin (a := (.v (.int .i64 _))) (b := (.v (.int .i64 _))) (r := .v (.int .i64 _)) rfl rfl rfl trivial (Sd.n (lk rfl) (V.as (v := .p (.v (.int .i64 _))) rfl (Sd.e ?_))))))))))))))))))
   show HT _ _ _ _ _
   refine HT.ret ?_
   exact ret_ok (sg []) h rfl rfl rfl trivial ⟨trivial, trivial⟩ rfl ⟨⟨⟨le_int (by first | rfl | (unfold sqF; rw [if_pos (by omega)]; done) | (exact sq_ret (by omega) (by omega)) | (exact sq_ret (by omega) (by omega))), trivial⟩, trivial⟩, trivial⟩
 ·have h1 := of_decide_eq_true h1
  refine So.gn (b := true) rfl rfl rfl (lk rfl) (lk rfl) (So.q rfl rfl (V.pkTrue (u := .p (.v (.bool true))) rfl rfl (So.e ?_)))
  show HT _ _ _ _ _
  refine R.condT rfl ?_
  refine HT.seq (HT.region S_squeeze_ok (So.q rfl rfl (V.as (v := .p (.v (.int .i64 (0)))) rfl (So.e ?_))))
  show HT _ _ _ _ _
  refine HT.ret ?_
  exact ret_ok (sg []) h rfl rfl rfl trivial ⟨trivial, trivial⟩ rfl ⟨⟨⟨le_int (by first | rfl | (unfold sqF; rw [if_pos (by omega)]; done) | (exact sq_ret (by omega) (by omega)) | (exact sq_ret (by omega) (by omega))), trivial⟩, trivial⟩, trivial⟩
def stretchSp : Sp := ⟨[], mkE (α := Int × Int) (fun (d, n) => [.p (.v (.int .i64 (d))), .p (.v (.int .i64 (n)))]) (fun (d, n) => []) (fun (d, n) => True) (fun (d, n) => [.p (.v (.int .i64 (stF d n)))]) (fun (d, n) => [])⟩
def S_stretch : FuncId → Option Sp := fun f => if f = 21 then some modSp else none
theorem S_stretch_ok : ∀ f s, S_stretch f = some s → FOK Tryd.prog gl f s := fun f s h => by
 unfold S_stretch at h
 split at h
 ·rename_i e; cases h; subst e; exact mod_ok
 cases h
theorem S_stretch_det : ∀ f s, S_stretch f = some s → SpDet s.sp := fun f s h => by
 unfold S_stretch at h
 split at h
 ·cases h; exact mkE_det _ _ _ _ _
 cases h
set_option maxHeartbeats 1000000 in
set_option maxRecDepth 1000 in
theorem stretch_ok : FOK Tryd.prog gl 14 stretchSp := by
 refine FOK.ofE (tyOf_ok Tryd.prog) (slots := [4]) (nt := 22) Tryd.func14 rfl rfl rfl rfl (by decide) 2 (fun ⟨_, _⟩ => rfl) (by decide) (fun ⟨_, _⟩ => ⟨trivial, trivial, trivial⟩) ?_
 rintro ⟨d, n⟩ kk hlen hpre h
 replace hpre : True := hpre
 show HT (cx Tryd.prog 22 (tyOf Tryd.prog) gl []) _ [(0, .p (.v (.int .i64 (d)))), (1, .p (.v (.int .i64 (n))))] [] _
 refine HT.seq (HT.region S_stretch_ok (So.q rfl rfl (V.as (v := .p (.v (.int .i64 (0)))) rfl (So.e (HT.seq (HT.seq (HT.region S_stretch_ok (So.q rfl rfl (V.mv (v := .p (.v (.int .i64 _))) rfl (So.q rfl rfl (V.bin (a := (.v (.int .i64 _))) (b := (.v (.int .i64 (1)))) (r := .v (.bool _)) rfl rfl rfl trivial (So.q rfl rfl (V.mv (v := .p (.v (.bool _))) rfl ?_)))))))))))))
 refine So.gd rfl rfl (lk rfl) (lk rfl) (fun h1 => ?_) (fun h1 => ?_)
 ·have h1 := of_decide_eq_false h1
  refine A.v rfl (V.mv (v := .p (.v (.int .i64 _))) rfl (So.gy rfl rfl (lk rfl) (lk rfl) (A.v rfl (V.bin (a := (.v (.int .i64 _))) (b := (.v (.int .i64 (11)))) (r := .v (.bool _)) rfl rfl rfl trivial (So.q rfl rfl (V.pkFalse (u := .p (.v (.bool _))) rfl rfl (So.e ?_)))))))
  show HT _ _ _ _ _
  refine R.cond rfl rfl (fun h2 => ?_) (fun h2 => ?_)
  ·have h2 := of_decide_eq_true h2
   refine HT.seq (HT.region S_stretch_ok (So.q rfl rfl (V.as (v := .p (.v (.int .i64 (0)))) rfl (So.e ?_))))
   show HT _ _ _ _ _
   refine HT.ret ?_
   exact ret_ok (sg []) h rfl rfl rfl trivial ⟨trivial, trivial⟩ rfl ⟨⟨⟨le_int (by first | rfl | (unfold stF; rw [if_pos (by omega)]; done) | (exact st_ret (by omega) (by omega))), trivial⟩, trivial⟩, trivial⟩
  ·have h2 := of_decide_eq_false h2
   refine HT.skip (HT.seq ?_)
   refine HT.drawn S_stretch_ok S_stretch_det mixed (by kernel_rfl) ?_
   have hsh := st_shl n (by omega) (by omega)
   refine Sd.n (lk rfl) (V.mv (v := .p (.v (.int .i64 _))) rfl (Sd.n (lk rfl) (V.mv (v := .p (.v (.int .i64 _))) rfl (Sd.n (lk rfl) (V.bin (a := (.v (.int .i64 (1)))) (b := (.v (.int .i64 _))) (r := .v (.int .i64 _)) rfl rfl rfl (by first | rfl | omega | (simp; done) | (simp; omega)) ?_)))))
   refine Sd.n (lk rfl) (V.call [.p (.v (.int .i64 _)), .p (.v (.int .i64 _))] 1 rfl rfl rfl rfl ⟨trivial, trivial, trivial⟩ trivial (_, _) ⟨.refl _, .refl _, trivial⟩ trivial (by first | omega | (simp; omega)) (Φ := fun _ => True) (fun _ _ => trivial) (.inl ⟨trivial, trivial, trivial⟩) (v := .p (.v (.int .i64 _))) rfl (fun h3 => ?_))
   refine Sd.n (lk rfl) (V.mulI rfl rfl (by omega) (Sd.n (lk rfl) (V.mv (v := .p (.v (.int .i64 _))) rfl (Sd.n (lk rfl) (V.subI rfl rfl (by omega) (Sd.n (lk rfl) (V.bin (a := (.v (.int .i64 (1)))) (b := (.v (.int .i64 _))) (r := .v (.int .i64 _)) rfl rfl rfl (by first | rfl | omega | (simp; done) | (simp; omega)) (Sd.n (lk rfl) (V.addI rfl rfl (by omega) (Sd.n (lk rfl) (V.mv (v := .p (.v (.int .i64 _))) rfl (Sd.n (lk rfl) (V.bin (a := (.v (.int .i64 _))) (b := (.v (.int .i64 _))) (r := .v (.int .i64 _)) rfl rfl rfl (by first | rfl | omega | (simp; done) | (simp; omega)) (Sd.n (lk rfl) (V.as (v := .p (.v (.int .i64 _))) rfl (Sd.e ?_))))))))))))))))
   show HT _ _ _ _ _
   refine HT.ret ?_
   exact ret_ok (sg []) h rfl rfl rfl trivial ⟨trivial, trivial⟩ rfl ⟨⟨⟨le_int (by first | rfl | (unfold stF; rw [if_pos (by omega)]; done) | (exact st_ret (by omega) (by omega))), trivial⟩, trivial⟩, trivial⟩
 ·have h1 := of_decide_eq_true h1
  refine So.gn (b := true) rfl rfl rfl (lk rfl) (lk rfl) (So.q rfl rfl (V.pkTrue (u := .p (.v (.bool true))) rfl rfl (So.e ?_)))
  show HT _ _ _ _ _
  refine R.condT rfl ?_
  refine HT.seq (HT.region S_stretch_ok (So.q rfl rfl (V.as (v := .p (.v (.int .i64 (0)))) rfl (So.e ?_))))
  show HT _ _ _ _ _
  refine HT.ret ?_
  exact ret_ok (sg []) h rfl rfl rfl trivial ⟨trivial, trivial⟩ rfl ⟨⟨⟨le_int (by first | rfl | (unfold stF; rw [if_pos (by omega)]; done) | (exact st_ret (by omega) (by omega))), trivial⟩, trivial⟩, trivial⟩
def uniform0Sp : Sp := ⟨[], mkE (α := (List UInt8)) (fun b => [.p (.bs (b))]) (fun b => []) (fun b => b.length ≠ 34) (fun b => [.agg 256 (fun _ => .v (.int .i64 0)), .p (.v (.int .i64 (1)))]) (fun b => [])⟩
def S_uniform0 : FuncId → Option Sp := fun _ => none
theorem S_uniform0_ok : ∀ f s, S_uniform0 f = some s → FOK Tryd.prog gl f s := fun f s h => by cases h
set_option maxHeartbeats 1000000 in
set_option maxRecDepth 20000 in
theorem uniform0_ok : FOK Tryd.prog gl 8 uniform0Sp := by
 refine FOK.ofEC (tyOf_ok Tryd.prog) (rvs := [.cell 2 25, .tmp 3]) (nt := 28) Tryd.func8 rfl rfl rfl rfl (by decide) 1 (fun _ => rfl) (by decide) (fun _ => ⟨trivial, trivial⟩) ?_
 rintro b kk hlen hpre h
 have hl0 : (b).length ≤ 9223372036854775807 := hlen.1
 replace hpre : b.length ≠ 34 := hpre
 show HT (cx Tryd.prog 28 (tyOf Tryd.prog) gl []) _ [(0, .p (.bs (b)))] [] _
 refine HT.seq (HT.region S_uniform0_ok (So.n (lk rfl) (A.alloc 1 1 ty25 rfl trivial (f := fun _ => .v (.int .i64 0)) (fun _ _ => rfl) (So.q rfl rfl (V.as (v := .p (.v (.int .i64 (0)))) rfl (So.e (HT.seq (HT.seq (HT.region S_uniform0_ok (So.q rfl rfl (V.mv (v := .p (.bs _)) rfl (So.q rfl rfl (V.len ty22 (v := .p (.bs _)) rfl rfl ?_)))))))))))))
 refine So.q rfl rfl (V.bin (a := (.v (.int .i64 _))) (b := (.v (.int .i64 (34)))) (r := .v (.bool _)) rfl rfl rfl trivial (So.e ?_))
 show HT _ _ _ _ _
 refine R.cond rfl rfl (fun h1 => ?_) (fun h1 => ?_)
 ·have h1 := of_decide_eq_false (bnT h1)
  refine HT.seq (HT.region S_uniform0_ok (So.n (lk rfl) (A.bld0 ty25 rfl rfl rfl (f := fun _ => .v (.int .i64 0)) (fun _ _ => rfl) (So.s (A.stoAg ty25 rfl (n := 256) rfl (by decide) (by intro j hj; first | rfl | trivial) rfl rfl rfl (So.q rfl rfl (V.as (v := .p (.v (.int .i64 (1)))) rfl (So.e ?_))))))))
  show HT _ _ _ _ _
  refine HT.ret ?_
  exact retC_ok (sg []) [(2, .ptr 1 0), (3, .p (.v (.int .i64 (1))))] [(1, ⟨25, 1, 256, true, .rows (fun _ => .v (.int .i64 0))⟩)] h ⟨⟨⟨.refl _, rfl⟩, ⟨le_int (by first | rfl | omega | (simp; done) | (simp; omega)), trivial⟩, trivial⟩, ⟨⟨_, rfl, .inr (ob_rows rfl (by intro j hj; first | rfl | ((try dsimp only); (first | rfl | omega | (simp; done) | (simp; omega))))), trivial⟩, trivial⟩⟩ ⟨rvA_cell ty25 rfl rfl rfl rfl (Nat.le_refl _) (le_agg (fun j _ => by first | rfl | (dsimp only; rw [Nat.zero_add]))), .refl _, trivial⟩ trivial rfl trivial ⟨trivial, trivial, trivial⟩ rfl
 ·have h1 := of_decide_eq_true (bnF h1)
  refine HT.skip (HT.seq ?_)
  exact absurd (by omega) hpre
end Go.Vh

set_option linter.unusedVariables false
set_option linter.unusedSimpArgs false
namespace Go.Vh
open Go Go.Vc Go.Proofs Go.Vw Go.Vk
def encodeSp : Sp := ⟨[], mkE (α := Int × (Nat → Int)) (fun (d, p) => [.p (.v (.int .i64 (d))), .agg 256 (fun j => .v (.int .i64 (p j)))]) (fun (d, p) => []) (fun (d, p) => True) (fun (d, p) => [.own 2 (0) ((encF d p).length)]) (fun (d, p) => [(2, ⟨5, 1, (encF d p).length, true, .bs (encF d p)⟩)])⟩
def S_encode : FuncId → Option Sp := fun f => if f = 21 then some modSp else none
theorem S_encode_ok : ∀ f s, S_encode f = some s → FOK Tryd.prog gl f s := fun f s h => by
 unfold S_encode at h
 split at h
 ·rename_i e; cases h; subst e; exact mod_ok
 cases h
set_option maxHeartbeats 1000000 in
set_option maxRecDepth 20000 in
theorem encode_ok : FOK Tryd.prog gl 11 encodeSp := by
 refine FOK.ofE (tyOf_ok Tryd.prog) (slots := [4]) (nt := 51) Tryd.func11 rfl rfl rfl rfl (by decide) 2 (fun ⟨_, _⟩ => rfl) (by decide) (fun ⟨_, _⟩ => ⟨trivial, trivial, trivial⟩) ?_
 rintro ⟨d, p⟩ kk hlen hpre h
 replace hpre : True := hpre
 show HT (cx Tryd.prog 51 (tyOf Tryd.prog) gl []) _ [(0, .p (.v (.int .i64 (d)))), (1, .agg 256 (fun j => .v (.int .i64 (p j))))] [] _
 refine HT.seq (HT.region S_encode_ok (So.n (lk rfl) (A.boxAg 1 1 (n := 256) rfl (by intro j hj; first | rfl | trivial | (split <;> first | rfl | trivial | (split <;> first | rfl | trivial))) rfl trivial (So.q rfl rfl (V.as (v := .p (.v (.slice none 0 0))) rfl (So.e (HT.seq (HT.seq (HT.region S_encode_ok (So.q rfl rfl (V.mv (v := .p (.v (.int .i64 _))) rfl (So.q rfl rfl (V.bin (a := (.v (.int .i64 _))) (b := (.v (.int .i64 (1)))) (r := .v (.bool _)) rfl rfl rfl trivial ?_)))))))))))))
 refine So.q rfl rfl (V.mv (v := .p (.v (.bool _))) rfl ?_)
 refine So.gd rfl rfl (lk rfl) (lk rfl) (fun h1 => ?_) (fun h1 => ?_)
 ·have h1 := of_decide_eq_false h1
  refine A.v rfl (V.mv (v := .p (.v (.int .i64 _))) rfl (So.gy rfl rfl (lk rfl) (lk rfl) (A.v rfl (V.bin (a := (.v (.int .i64 _))) (b := (.v (.int .i64 (12)))) (r := .v (.bool _)) rfl rfl rfl trivial (So.q rfl rfl (V.pkFalse (u := .p (.v (.bool _))) rfl rfl (So.e ?_)))))))
  show HT _ _ _ _ _
  refine R.cond rfl rfl (fun h2 => ?_) (fun h2 => ?_)
  ·have h2 := of_decide_eq_true h2
   refine HT.seq (HT.region S_encode_ok (So.q rfl rfl (V.as (v := .p (.v (.slice none 0 0))) rfl (So.e ?_))))
   show HT _ _ _ _ _
   refine R.phan 4 2 5 1 (.bs []) rfl rfl rfl ⟨rfl, rfl⟩ ?_
   refine HT.ret ?_
   exact ret_ok (sg [(2, 2)]) h rfl rfl rfl ⟨trivial, trivial⟩ ⟨rfl, trivial⟩ rfl ⟨⟨⟨le_own2 (by first | rfl | omega) (by first | rfl | (unfold encF; rw [if_pos (by omega)] <;> rfl) | (replace hP0 : s = 256 := (by omega); subst hP0; unfold encF; rw [if_neg (by omega), leB_len]) | (replace hP0 : s = 256 := (by omega); subst hP0; unfold encF; rw [if_neg (by omega)])), rfl⟩, trivial⟩, ⟨⟨_, rfl, .inl (ob_bs (by first | rfl | ((try dsimp only); (first | rfl | (unfold encF; rw [if_pos (by omega)] <;> rfl) | (replace hP0 : s = 256 := (by omega); subst hP0; unfold encF; rw [if_neg (by omega), leB_len]) | (replace hP0 : s = 256 := (by omega); subst hP0; unfold encF; rw [if_neg (by omega)])))) (by first | rfl | ((try dsimp only); (first | rfl | (unfold encF; rw [if_pos (by omega)] <;> rfl) | (replace hP0 : s = 256 := (by omega); subst hP0; unfold encF; rw [if_neg (by omega), leB_len]) | (replace hP0 : s = 256 := (by omega); subst hP0; unfold encF; rw [if_neg (by omega)]))))), trivial⟩, trivial⟩⟩
  ·have h2 := of_decide_eq_false h2
   refine HT.skip (HT.seq (HT.region S_encode_ok ?_))
   have hmo := mOf_b (d := d) (by omega) (by omega)
   refine So.q rfl rfl (V.mv (v := .p (.v (.int .i64 _))) rfl (So.q rfl rfl (V.bin (a := (.v (.int .i64 (1)))) (b := (.v (.int .i64 _))) (r := .v (.int .i64 _)) rfl rfl rfl (by first | rfl | omega | (simp; done) | (simp; omega)) (So.q rfl rfl (V.as (v := .p (.v (.int .i64 _))) rfl (So.e ?_))))))
   show HT _ _ _ _ _
   refine R.cut (True) [(5, .p (.v (.int .i64 (mOf d))))] [] [0, 3, 4] [1] (fr0 := [(0, .p (.v (.int .i64 _))), (3, .ptr 1 0), (4, .p (.v (.slice none 0 0)))]) (O0 := [(1, ⟨_, _, _, _, .rows _⟩)]) rfl rfl ?_ (fun hphi => ?_)
   ·refine HT.seq ?_
    refine HT.region S_encode_ok (So.q rfl rfl (V.mv (v := .p (.v (.int .i64 _))) rfl (So.q rfl rfl (V.bin (a := (.v (.int .i64 _))) (b := (.v (.int .i64 (12)))) (r := .v (.bool _)) rfl rfl rfl trivial (So.e ?_)))))
    show HT _ _ _ _ _
    refine R.cond rfl rfl (fun h3 => ?_) (fun h3 => ?_)
    ·have h3 := of_decide_eq_true h3
     refine HT.region S_encode_ok (So.q rfl rfl (V.as (v := .p (.v (.int .i64 (3329)))) rfl (So.e ?_)))
     exact ⟨by first | trivial | rfl | (unfold mOf; rw [if_pos (by omega)]; done) | (unfold mOf; rw [if_neg (by omega)]; exact hmo.2.2.2.1), ⟨⟨⟨le_int (by first | trivial | rfl | (unfold mOf; rw [if_pos (by omega)]; done) | (unfold mOf; rw [if_neg (by omega)]; exact hmo.2.2.2.1)), trivial⟩, ⟨.refl _, trivial⟩, ⟨.refl _, rfl⟩, ⟨.refl _, trivial⟩, trivial⟩, ⟨⟨_, rfl, .inl rfl, trivial⟩, trivial⟩⟩⟩
    ·have h3 := of_decide_eq_false h3
     refine HT.skip ?_
     exact ⟨by first | trivial | rfl | (unfold mOf; rw [if_pos (by omega)]; done) | (unfold mOf; rw [if_neg (by omega)]; exact hmo.2.2.2.1), ⟨⟨⟨le_int (by first | trivial | rfl | (unfold mOf; rw [if_pos (by omega)]; done) | (unfold mOf; rw [if_neg (by omega)]; exact hmo.2.2.2.1)), trivial⟩, ⟨.refl _, trivial⟩, ⟨.refl _, rfl⟩, ⟨.refl _, trivial⟩, trivial⟩, ⟨⟨_, rfl, .inl rfl, trivial⟩, trivial⟩⟩⟩
   ·refine HT.seq ?_
    refine HT.region S_encode_ok (So.q rfl rfl (V.mv (v := .p (.v (.int .i64 _))) rfl (So.q rfl rfl (V.mulI rfl rfl (by omega) (So.n (lk rfl) (A.mkB 2 ty22 ty5 rfl rfl rfl (by omega) rfl rfl trivial (So.q rfl rfl (V.as (v := .own 2 0 _) rfl (So.e (HT.seq (HT.region S_encode_ok (So.q rfl rfl (V.as (v := .p (.v (.int .i64 (0)))) rfl (So.q rfl rfl (V.as (v := .p (.v (.int .i64 (0)))) rfl ?_)))))))))))))))
    refine So.e (HT.seq (HT.seq (HT.region S_encode_ok (So.q rfl rfl (V.ldPtrA ty25 rfl rfl rfl rfl (lk rfl) (So.q rfl rfl (V.mv (v := .p (.v (.int .i64 (0)))) rfl (So.e (HT.block ?_)))))))))
    refine R.loop (σ := Nat) (fun s => [(6, .own 2 (0) (d.toNat * s / 8)), (7, .p (.v (.int .i64 ((((encV d.toNat (cof d p) s) / 2 ^ (8 * (d.toNat * s / 8)) : Nat) : Int))))), (8, .p (.v (.int .i64 (((d.toNat * s - 8 * (d.toNat * s / 8) : Nat) : Int))))), (25, .p (.v (.int .i64 ((s : Int)))))]) (fun s => [(2, ⟨5, 1, d.toNat * s / 8, true, .bs (leB (encV d.toNat (cof d p) s) (d.toNat * s / 8))⟩)]) [0, 4, 5, 24] [1] (fun s => s ≤ 256) (fun s => 256 - s) (0) (fr0 := [(0, .p (.v (.int .i64 _))), (4, .p (.v (.slice none 0 0))), (5, .p (.v (.int .i64 _))), (24, .agg 256 _)]) (O0 := [(1, ⟨_, _, _, _, .rows _⟩)]) rfl rfl (by first | rfl | omega | (simp; done) | (simp; omega)) ⟨⟨⟨le_own2 (by first | rfl | omega) (by first | rfl | (simp; done) | (simp [encV]; done) | (simp [encV, leB]; done)), rfl⟩, ⟨le_int (by first | rfl | (simp; done) | (simp [encV]; done) | (simp [encV, leB]; done)), trivial⟩, ⟨le_int (by first | rfl | (simp; done) | (simp [encV]; done) | (simp [encV, leB]; done)), trivial⟩, ⟨le_int (by first | rfl | (simp; done) | (simp [encV]; done) | (simp [encV, leB]; done)), trivial⟩, ⟨.refl _, trivial⟩, ⟨.refl _, trivial⟩, ⟨.refl _, trivial⟩, ⟨.refl _, trivial⟩, trivial⟩, ⟨⟨_, rfl, .inl (ob_bs (by first | rfl | ((try dsimp only); first | rfl | (simp; done) | (simp [encV]; done) | (simp [encV, leB]; done))) (by first | rfl | ((try dsimp only); first | rfl | (simp; done) | (simp [encV]; done) | (simp [encV, leB]; done)))), trivial⟩, ⟨_, rfl, .inl rfl, trivial⟩, trivial⟩⟩ (fun s hP0 => ?_)
    have hD : d.toNat * (s + 1) = d.toNat * s + d.toNat := Nat.mul_succ _ _
    have hDs : d.toNat * (s + 1) ≤ 12 * 257 := Nat.mul_le_mul (by omega) (by omega)
    refine HT.seq (HT.region S_encode_ok (So.q rfl rfl (V.bin (a := (.v (.int .i64 ((_ : Nat) : Int)))) (b := (.v (.int .i64 (256)))) (r := .v (.bool _)) rfl rfl rfl trivial (So.e (HT.seq ?_)))))
    refine R.cond rfl rfl (fun h4 => ?_) (fun h4 => ?_)
    ·have h4 := of_decide_eq_true h4
     refine HT.skip (HT.seq (HT.block (HT.seq (HT.region S_encode_ok (So.q rfl rfl (V.ixV1 ty25 ty3 rfl rfl rfl rfl (by omega) (lk rfl) (Int.toNat_natCast _) (v := (.v (.int .i64 _))) rfl (So.q rfl rfl (V.as (v := .p (.v (.int .i64 _))) rfl (So.e (HT.seq (HT.region S_encode_ok ?_)))))))))))
     refine So.q rfl rfl (V.mv (v := .p (.v (.int .i64 _))) rfl (So.q rfl rfl (V.mv (v := .p (.v (.int .i64 _))) rfl (So.q rfl rfl (V.mv (v := .p (.v (.int .i64 _))) rfl ?_)))))
     refine So.n (lk rfl) (A.call0 [.p (.v (.int .i64 _)), .p (.v (.int .i64 _))] 3 rfl rfl rfl rfl ⟨trivial, trivial, trivial⟩ trivial (_, _) ⟨.refl _, .refl _, trivial⟩ trivial (by first | omega | (simp; omega)) (Φ := fun _ => True) (fun _ _ => trivial) (.inl rfl) (v := .p (.v (.int .i64 _))) rfl (O' := _) rfl (fun h5 => ?_))
     refine So.q rfl rfl (V.mv (v := .p (.v (.int .i64 _))) rfl (So.q rfl rfl (V.bin (a := (.v (.int .i64 _))) (b := (.v (.int .i64 _))) (r := .v (.int .i64 _)) rfl rfl rfl (by first | rfl | omega | (simp; done) | (simp; omega)) (So.q rfl rfl (V.bin (a := (.v (.int .i64 _))) (b := (.v (.int .i64 _))) (r := .v (.int .i64 _)) rfl rfl rfl trivial (So.q rfl rfl (V.as (v := .p (.v (.int .i64 _))) rfl (So.e (HT.seq (HT.region S_encode_ok (So.q rfl rfl (V.mv (v := .p (.v (.int .i64 _))) rfl (So.q rfl rfl (V.mv (v := .p (.v (.int .i64 _))) rfl (So.q rfl rfl (V.addI rfl rfl (by omega) ?_))))))))))))))))
     refine So.q rfl rfl (V.as (v := .p (.v (.int .i64 _))) rfl (So.e (HT.block ?_)))
     refine R.loop (σ := Nat) (fun r => [(6, .own 2 (0) (d.toNat * s / 8 + r)), (7, .p (.v (.int .i64 ((((encV d.toNat (cof d p) (s + 1)) / 2 ^ (8 * (d.toNat * s / 8 + r)) : Nat) : Int))))), (8, .p (.v (.int .i64 (((d.toNat * (s + 1) - 8 * (d.toNat * s / 8 + r) : Nat) : Int)))))]) (fun r => [(2, ⟨5, 1, d.toNat * s / 8 + r, true, .bs (leB (encV d.toNat (cof d p) (s + 1)) (d.toNat * s / 8 + r))⟩)]) [0, 4, 5, 24, 25] [1] (fun r => 8 * (d.toNat * s / 8 + r) ≤ d.toNat * (s + 1)) (fun r => d.toNat * (s + 1) - 8 * (d.toNat * s / 8 + r)) (0) (fr0 := [(0, .p (.v (.int .i64 _))), (4, .p (.v (.slice none 0 0))), (5, .p (.v (.int .i64 _))), (24, .agg 256 _), (25, .p (.v (.int .i64 ((_ : Nat) : Int))))]) (O0 := [(1, ⟨_, _, _, _, .rows _⟩)]) rfl rfl (by first | rfl | omega | (simp; done) | (simp; omega)) ⟨⟨⟨le_own2 (by first | rfl | omega) (by first | rfl | omega | (rw [Nat.zero_add]; exact enc_or p (by omega) (by omega)) | (exact leB_low p s)), rfl⟩, ⟨le_int (by first | rfl | omega | (rw [Nat.zero_add]; exact enc_or p (by omega) (by omega)) | (exact leB_low p s)), trivial⟩, ⟨le_int (by first | rfl | omega | (rw [Nat.zero_add]; exact enc_or p (by omega) (by omega)) | (exact leB_low p s)), trivial⟩, ⟨.refl _, trivial⟩, ⟨.refl _, trivial⟩, ⟨.refl _, trivial⟩, ⟨.refl _, trivial⟩, ⟨.refl _, trivial⟩, trivial⟩, ⟨⟨_, rfl, .inl (ob_bs (by first | rfl | ((try dsimp only); first | rfl | omega | (rw [Nat.zero_add]; exact enc_or p (by omega) (by omega)) | (exact leB_low p s))) (by first | rfl | ((try dsimp only); first | rfl | omega | (rw [Nat.zero_add]; exact enc_or p (by omega) (by omega)) | (exact leB_low p s)))), trivial⟩, ⟨_, rfl, .inl rfl, trivial⟩, trivial⟩⟩ (fun r hP1 => ?_)
     refine HT.seq (HT.seq (HT.region S_encode_ok (So.q rfl rfl (V.mv (v := .p (.v (.int .i64 _))) rfl (So.q rfl rfl (V.bin (a := (.v (.int .i64 _))) (b := (.v (.int .i64 (8)))) (r := .v (.bool _)) rfl rfl rfl trivial (So.e ?_)))))))
     show HT _ _ _ _ _
     refine R.cond rfl rfl (fun h6 => ?_) (fun h6 => ?_)
     ·have h6 := of_decide_eq_true h6
      refine HT.skip (HT.seq (HT.block (HT.seq (HT.region S_encode_ok (So.q rfl rfl (V.mv (v := .own 2 0 _) rfl (So.q rfl rfl (V.mv (v := .p (.v (.int .i64 _))) rfl (So.q rfl rfl (V.cvN ty5 ty3 (a := (.v (.int .i64 _))) (r := (.u8 _)) rfl rfl (So.n (lk rfl) (A.bsl 3 ty22 ty5 rfl (lk rfl) (lk rfl) (fun _ => rfl) rfl rfl trivial ⟨trivial, trivial⟩ rfl (N := 1) rfl (c := .bs [_]) rfl (So.n (lk rfl) (A.apOwn ty22 ty5 rfl rfl rfl rfl (u := .own 3 0 _) rfl rfl rfl rfl (by first | rfl | omega | (simp; done) | (simp; omega)) rfl rfl rfl ?_))))))))))))))
      refine So.q rfl rfl (V.as (v := .own 2 0 _) rfl (So.e (HT.region S_encode_ok (So.q rfl rfl (V.mv (v := .p (.v (.int .i64 _))) rfl (So.q rfl rfl (V.shrI (n := 8) (M := 256) rfl rfl rfl (by decide) (So.q rfl rfl (V.as (v := .p (.v (.int .i64 _))) rfl (So.e (HT.region S_encode_ok (So.q rfl rfl (V.mv (v := .p (.v (.int .i64 _))) rfl (So.q rfl rfl (V.subI rfl rfl (by omega) ?_)))))))))))))))
      refine So.q rfl rfl (V.as (v := .p (.v (.int .i64 _))) rfl (So.e ?_))
      refine ⟨r + 1, by first | rfl | omega | (simp; done) | (simp; omega), by omega, ⟨⟨⟨le_own2 (by first | rfl | omega) (by first | rfl | omega | (simp; done) | (simp; omega)), rfl⟩, ⟨le_int (by exact enc_shr), trivial⟩, ⟨le_int (by first | rfl | omega | (simp; done) | (simp; omega)), trivial⟩, ⟨.refl _, trivial⟩, ⟨.refl _, trivial⟩, ⟨.refl _, trivial⟩, ⟨.refl _, trivial⟩, ⟨.refl _, trivial⟩, trivial⟩, ⟨⟨_, rfl, .inl (ob_bs (by first | rfl | ((try dsimp only); first | rfl | omega | (rw [List.drop_zero, List.take_of_length_le (by rw [leB_len]; omega)]; exact leB_snoc))) (by first | rfl | ((try dsimp only); first | rfl | omega | (rw [List.drop_zero, List.take_of_length_le (by rw [leB_len]; omega)]; exact leB_snoc)))), trivial⟩, ⟨_, rfl, .inl rfl, trivial⟩, trivial⟩⟩⟩
     ·have h6 := of_decide_eq_false h6
      refine HT.exit ?_
      show HT _ _ _ _ _
      refine HT.region S_encode_ok (So.q rfl rfl (V.addI rfl rfl (by omega) (So.q rfl rfl (V.mv (v := .p (.v (.int .i64 _))) rfl (So.e ?_)))))
      have hk : d.toNat * (s + 1) / 8 = d.toNat * s / 8 + r := by omega
      refine ⟨s + 1, by first | rfl | omega | (simp; done) | (simp; omega), by omega, ⟨⟨⟨le_own2 (by first | rfl | omega) (by omega), rfl⟩, ⟨le_int (by rw [hk]), trivial⟩, ⟨le_int (by (first | omega | (rw [hk]))), trivial⟩, ⟨le_int (by first | rfl | omega | (simp; done) | (simp; omega)), trivial⟩, ⟨.refl _, trivial⟩, ⟨.refl _, trivial⟩, ⟨.refl _, trivial⟩, ⟨.refl _, trivial⟩, trivial⟩, ⟨⟨_, rfl, .inl (ob_bs (by first | rfl | ((try dsimp only); first | omega | (rw [hk]))) (by first | rfl | ((try dsimp only); first | omega | (rw [hk])))), trivial⟩, ⟨_, rfl, .inl rfl, trivial⟩, trivial⟩⟩⟩
    ·have h4 := of_decide_eq_false h4
     refine HT.exit ?_
     show HT _ _ _ _ _
     refine HT.seq (HT.region S_encode_ok (So.q rfl rfl (V.mv (v := .own 2 0 _) rfl (So.q rfl rfl (V.as (v := .own 2 0 _) rfl (So.e ?_))))))
     show HT _ _ _ _ _
     refine HT.ret ?_
     exact ret_ok (sg [(2, 2)]) h rfl rfl rfl ⟨trivial, trivial⟩ ⟨rfl, trivial⟩ rfl ⟨⟨⟨le_own2 (by first | rfl | omega) (by first | rfl | (unfold encF; rw [if_pos (by omega)] <;> rfl) | (replace hP0 : s = 256 := (by omega); subst hP0; unfold encF; rw [if_neg (by omega), leB_len]) | (replace hP0 : s = 256 := (by omega); subst hP0; unfold encF; rw [if_neg (by omega)])), rfl⟩, trivial⟩, ⟨⟨_, rfl, .inl (ob_bs (by first | rfl | ((try dsimp only); (first | rfl | (unfold encF; rw [if_pos (by omega)] <;> rfl) | (replace hP0 : s = 256 := (by omega); subst hP0; unfold encF; rw [if_neg (by omega), leB_len]) | (replace hP0 : s = 256 := (by omega); subst hP0; unfold encF; rw [if_neg (by omega)])))) (by first | rfl | ((try dsimp only); (first | rfl | (unfold encF; rw [if_pos (by omega)] <;> rfl) | (replace hP0 : s = 256 := (by omega); subst hP0; unfold encF; rw [if_neg (by omega), leB_len]) | (replace hP0 : s = 256 := (by omega); subst hP0; unfold encF; rw [if_neg (by omega)]))))), trivial⟩, trivial⟩⟩
 ·have h1 := of_decide_eq_true h1
  refine So.gn (b := true) rfl rfl rfl (lk rfl) (lk rfl) (So.q rfl rfl (V.pkTrue (u := .p (.v (.bool true))) rfl rfl (So.e ?_)))
  show HT _ _ _ _ _
  refine R.condT rfl ?_
  refine HT.seq (HT.region S_encode_ok (So.q rfl rfl (V.as (v := .p (.v (.slice none 0 0))) rfl (So.e ?_))))
  show HT _ _ _ _ _
  refine R.phan 4 2 5 1 (.bs []) rfl rfl rfl ⟨rfl, rfl⟩ ?_
  refine HT.ret ?_
  exact ret_ok (sg [(2, 2)]) h rfl rfl rfl ⟨trivial, trivial⟩ ⟨rfl, trivial⟩ rfl ⟨⟨⟨le_own2 (by first | rfl | omega) (by first | rfl | (unfold encF; rw [if_pos (by omega)] <;> rfl) | (replace hP0 : s = 256 := (by omega); subst hP0; unfold encF; rw [if_neg (by omega), leB_len]) | (replace hP0 : s = 256 := (by omega); subst hP0; unfold encF; rw [if_neg (by omega)])), rfl⟩, trivial⟩, ⟨⟨_, rfl, .inl (ob_bs (by first | rfl | ((try dsimp only); (first | rfl | (unfold encF; rw [if_pos (by omega)] <;> rfl) | (replace hP0 : s = 256 := (by omega); subst hP0; unfold encF; rw [if_neg (by omega), leB_len]) | (replace hP0 : s = 256 := (by omega); subst hP0; unfold encF; rw [if_neg (by omega)])))) (by first | rfl | ((try dsimp only); (first | rfl | (unfold encF; rw [if_pos (by omega)] <;> rfl) | (replace hP0 : s = 256 := (by omega); subst hP0; unfold encF; rw [if_neg (by omega), leB_len]) | (replace hP0 : s = 256 := (by omega); subst hP0; unfold encF; rw [if_neg (by omega)]))))), trivial⟩, trivial⟩⟩
end Go.Vh

set_option linter.unusedVariables false
set_option linter.unusedSimpArgs false
namespace Go.Vh
open Go Go.Vc Go.Proofs Go.Vw Go.Vk
def decodeSp : Sp := ⟨[], mkE (α := Int × (List UInt8)) (fun (d, b) => [.p (.v (.int .i64 (d))), .p (.bs (b))]) (fun (d, b) => []) (fun (d, b) => True) (fun (d, b) => [.agg 256 (fun j => .v (.int .i64 ((decF d b).1 j))), .p (.v (.int .i64 ((decF d b).2)))]) (fun (d, b) => [])⟩
def S_decode : FuncId → Option Sp := fun _ => none
theorem S_decode_ok : ∀ f s, S_decode f = some s → FOK Tryd.prog gl f s := fun f s h => by cases h
set_option maxHeartbeats 1000000 in
set_option maxRecDepth 20000 in
theorem decode_ok : FOK Tryd.prog gl 12 decodeSp := by
 refine FOK.ofEC (tyOf_ok Tryd.prog) (rvs := [.cell 4 25, .tmp 5]) (nt := 63) Tryd.func12 rfl rfl rfl rfl (by decide) 2 (fun ⟨_, _⟩ => rfl) (by decide) (fun ⟨_, _⟩ => ⟨trivial, trivial, trivial⟩) ?_
 rintro ⟨d, b⟩ kk hlen hpre h
 have hl1 : (b).length ≤ 9223372036854775807 := hlen.2.1
 replace hpre : True := hpre
 show HT (cx Tryd.prog 63 (tyOf Tryd.prog) gl []) _ [(0, .p (.v (.int .i64 (d)))), (1, .p (.bs (b)))] [] _
 refine HT.seq (HT.region S_decode_ok (So.n (lk rfl) (A.alloc 1 1 ty25 rfl trivial (f := fun _ => .v (.int .i64 0)) (fun _ _ => rfl) (So.q rfl rfl (V.as (v := .p (.v (.int .i64 (0)))) rfl (So.e (HT.seq (HT.block (HT.seq (HT.seq (HT.region S_decode_ok ?_)))))))))))
 refine So.q rfl rfl (V.mv (v := .p (.v (.int .i64 _))) rfl (So.q rfl rfl (V.bin (a := (.v (.int .i64 _))) (b := (.v (.int .i64 (1)))) (r := .v (.bool _)) rfl rfl rfl trivial (So.q rfl rfl (V.as (v := .p (.v (.bool _))) rfl (So.e ?_))))))
 show HT _ _ _ _ _
 refine R.cond rfl rfl (fun h1 => ?_) (fun h1 => ?_)
 ·have h1 := of_decide_eq_true h1
  refine HT.skip ?_
  show HT _ _ _ _ _
  refine R.condT rfl ?_
  refine HT.seq (HT.region S_decode_ok (So.n (lk rfl) (A.bld0 ty25 rfl rfl rfl (f := fun _ => .v (.int .i64 0)) (fun _ _ => rfl) (So.s (A.stoAg ty25 rfl (n := 256) rfl (by decide) (by intro j hj; first | rfl | trivial) rfl rfl rfl (So.q rfl rfl (V.as (v := .p (.v (.int .i64 (1)))) rfl (So.e ?_))))))))
  show HT _ _ _ _ _
  refine HT.ret ?_
  exact retC_ok (sg []) [(4, .ptr 1 0), (5, .p (.v (.int .i64 ((decF d b).2))))] [(1, ⟨25, 1, 256, true, .rows (fun j => .v (.int .i64 ((decF d b).1 j)))⟩)] h ⟨⟨⟨.refl _, rfl⟩, ⟨le_int (by first | rfl | (unfold decF; rw [if_pos (by omega)] <;> rfl) | (unfold decF; rw [if_neg (by omega), if_pos (by omega)] <;> rfl) | (unfold decF; rw [if_neg (show ¬ (d < 1 ∨ 12 < d) by omega), if_neg (show ¬ ((b.length : Int) ≠ 32 * d) by omega)] <;> rfl) | (unfold decF; rw [if_neg (show ¬ (d < 1 ∨ 12 < d) by omega), if_neg (show ¬ ((b.length : Int) ≠ 32 * d) by omega), Nat.zero_add, if_pos (show j < s by omega)])), trivial⟩, trivial⟩, ⟨⟨_, rfl, .inr (ob_rows rfl (by intro j hj; first | rfl | ((try dsimp only); (first | rfl | (unfold decF; rw [if_pos (by omega)] <;> rfl) | (unfold decF; rw [if_neg (by omega), if_pos (by omega)] <;> rfl) | (unfold decF; rw [if_neg (show ¬ (d < 1 ∨ 12 < d) by omega), if_neg (show ¬ ((b.length : Int) ≠ 32 * d) by omega)] <;> rfl) | (unfold decF; rw [if_neg (show ¬ (d < 1 ∨ 12 < d) by omega), if_neg (show ¬ ((b.length : Int) ≠ 32 * d) by omega), Nat.zero_add, if_pos (show j < s by omega)]))))), trivial⟩, trivial⟩⟩ ⟨rvA_cell ty25 rfl rfl rfl rfl (Nat.le_refl _) (le_agg (fun j _ => by first | rfl | (dsimp only; rw [Nat.zero_add]))), .refl _, trivial⟩ trivial rfl trivial ⟨trivial, trivial, trivial⟩ rfl
 ·have h1 := of_decide_eq_false h1
  refine HT.region S_decode_ok (So.q rfl rfl (V.mv (v := .p (.v (.int .i64 _))) rfl (So.q rfl rfl (V.bin (a := (.v (.int .i64 _))) (b := (.v (.int .i64 (12)))) (r := .v (.bool _)) rfl rfl rfl trivial (So.q rfl rfl (V.as (v := .p (.v (.bool _))) rfl (So.e ?_)))))))
  show HT _ _ _ _ _
  refine R.cond rfl rfl (fun h2 => ?_) (fun h2 => ?_)
  ·have h2 := of_decide_eq_true h2
   refine HT.seq (HT.region S_decode_ok (So.n (lk rfl) (A.bld0 ty25 rfl rfl rfl (f := fun _ => .v (.int .i64 0)) (fun _ _ => rfl) (So.s (A.stoAg ty25 rfl (n := 256) rfl (by decide) (by intro j hj; first | rfl | trivial) rfl rfl rfl (So.q rfl rfl (V.as (v := .p (.v (.int .i64 (1)))) rfl (So.e ?_))))))))
   show HT _ _ _ _ _
   refine HT.ret ?_
   exact retC_ok (sg []) [(4, .ptr 1 0), (5, .p (.v (.int .i64 ((decF d b).2))))] [(1, ⟨25, 1, 256, true, .rows (fun j => .v (.int .i64 ((decF d b).1 j)))⟩)] h ⟨⟨⟨.refl _, rfl⟩, ⟨le_int (by first | rfl | (unfold decF; rw [if_pos (by omega)] <;> rfl) | (unfold decF; rw [if_neg (by omega), if_pos (by omega)] <;> rfl) | (unfold decF; rw [if_neg (show ¬ (d < 1 ∨ 12 < d) by omega), if_neg (show ¬ ((b.length : Int) ≠ 32 * d) by omega)] <;> rfl) | (unfold decF; rw [if_neg (show ¬ (d < 1 ∨ 12 < d) by omega), if_neg (show ¬ ((b.length : Int) ≠ 32 * d) by omega), Nat.zero_add, if_pos (show j < s by omega)])), trivial⟩, trivial⟩, ⟨⟨_, rfl, .inr (ob_rows rfl (by intro j hj; first | rfl | ((try dsimp only); (first | rfl | (unfold decF; rw [if_pos (by omega)] <;> rfl) | (unfold decF; rw [if_neg (by omega), if_pos (by omega)] <;> rfl) | (unfold decF; rw [if_neg (show ¬ (d < 1 ∨ 12 < d) by omega), if_neg (show ¬ ((b.length : Int) ≠ 32 * d) by omega)] <;> rfl) | (unfold decF; rw [if_neg (show ¬ (d < 1 ∨ 12 < d) by omega), if_neg (show ¬ ((b.length : Int) ≠ 32 * d) by omega), Nat.zero_add, if_pos (show j < s by omega)]))))), trivial⟩, trivial⟩⟩ ⟨rvA_cell ty25 rfl rfl rfl rfl (Nat.le_refl _) (le_agg (fun j _ => by first | rfl | (dsimp only; rw [Nat.zero_add]))), .refl _, trivial⟩ trivial rfl trivial ⟨trivial, trivial, trivial⟩ rfl
  ·have h2 := of_decide_eq_false h2
   refine HT.seq (HT.region S_decode_ok (So.q rfl rfl (V.mv (v := .p (.bs _)) rfl (So.q rfl rfl (V.len ty22 (v := .p (.bs _)) rfl rfl (So.q rfl rfl (V.mv (v := .p (.v (.int .i64 _))) rfl (So.q rfl rfl (V.mulI rfl rfl (by omega) (So.q rfl rfl (V.bin (a := (.v (.int .i64 _))) (b := (.v (.int .i64 _))) (r := .v (.bool _)) rfl rfl rfl trivial (So.q rfl rfl (V.as (v := .p (.v (.bool _))) rfl (So.e ?_))))))))))))))
   show HT _ _ _ _ _
   refine R.cond rfl rfl (fun h3 => ?_) (fun h3 => ?_)
   ·have h3 := of_decide_eq_false (bnT h3)
    refine HT.seq (HT.region S_decode_ok (So.n (lk rfl) (A.bld0 ty25 rfl rfl rfl (f := fun _ => .v (.int .i64 0)) (fun _ _ => rfl) (So.s (A.stoAg ty25 rfl (n := 256) rfl (by decide) (by intro j hj; first | rfl | trivial) rfl rfl rfl (So.q rfl rfl (V.as (v := .p (.v (.int .i64 (52)))) rfl (So.e ?_))))))))
    show HT _ _ _ _ _
    refine HT.ret ?_
    exact retC_ok (sg []) [(4, .ptr 1 0), (5, .p (.v (.int .i64 ((decF d b).2))))] [(1, ⟨25, 1, 256, true, .rows (fun j => .v (.int .i64 ((decF d b).1 j)))⟩)] h ⟨⟨⟨.refl _, rfl⟩, ⟨le_int (by first | rfl | (unfold decF; rw [if_pos (by omega)] <;> rfl) | (unfold decF; rw [if_neg (by omega), if_pos (by omega)] <;> rfl) | (unfold decF; rw [if_neg (show ¬ (d < 1 ∨ 12 < d) by omega), if_neg (show ¬ ((b.length : Int) ≠ 32 * d) by omega)] <;> rfl) | (unfold decF; rw [if_neg (show ¬ (d < 1 ∨ 12 < d) by omega), if_neg (show ¬ ((b.length : Int) ≠ 32 * d) by omega), Nat.zero_add, if_pos (show j < s by omega)])), trivial⟩, trivial⟩, ⟨⟨_, rfl, .inr (ob_rows rfl (by intro j hj; first | rfl | ((try dsimp only); (first | rfl | (unfold decF; rw [if_pos (by omega)] <;> rfl) | (unfold decF; rw [if_neg (by omega), if_pos (by omega)] <;> rfl) | (unfold decF; rw [if_neg (show ¬ (d < 1 ∨ 12 < d) by omega), if_neg (show ¬ ((b.length : Int) ≠ 32 * d) by omega)] <;> rfl) | (unfold decF; rw [if_neg (show ¬ (d < 1 ∨ 12 < d) by omega), if_neg (show ¬ ((b.length : Int) ≠ 32 * d) by omega), Nat.zero_add, if_pos (show j < s by omega)]))))), trivial⟩, trivial⟩⟩ ⟨rvA_cell ty25 rfl rfl rfl rfl (Nat.le_refl _) (le_agg (fun j _ => by first | rfl | (dsimp only; rw [Nat.zero_add]))), .refl _, trivial⟩ trivial rfl trivial ⟨trivial, trivial, trivial⟩ rfl
   ·have h3 := of_decide_eq_true (bnF h3)
    refine HT.skip (HT.seq (HT.region S_decode_ok ?_))
    have hmo := mOf_b (d := d) (by omega) (by omega)
    have hlb : (b.length : Int) = 32 * d := by omega
    refine So.n (lk rfl) (A.alloc 2 1 ty25 rfl trivial (f := fun _ => .v (.int .i64 0)) (fun _ _ => rfl) (So.e (HT.seq (HT.region S_decode_ok (So.q rfl rfl (V.as (v := .p (.v (.int .i64 (0)))) rfl (So.q rfl rfl (V.as (v := .p (.v (.int .i64 (0)))) rfl (So.e (HT.seq (HT.seq (HT.region S_decode_ok ?_))))))))))))
    refine So.q rfl rfl (V.mv (v := .p (.v (.int .i64 (0)))) rfl (So.e (HT.block ?_)))
    refine R.loop (σ := Nat) (fun s => [(1, .p (.bs (b.drop ((d.toNat * s + 7) / 8)))), (7, .p (.v (.int .i64 (((leN (b.take ((d.toNat * s + 7) / 8)) / 2 ^ (d.toNat * s) : Nat) : Int))))), (8, .p (.v (.int .i64 (((8 * ((d.toNat * s + 7) / 8) - d.toNat * s : Nat) : Int))))), (23, .p (.v (.int .i64 ((s : Int)))))]) (fun s => [(2, ⟨25, 1, 256, true, .rows (fun j => .v (.int .i64 (if j < s then decP d b j else 0)))⟩)]) [0, 4, 5, 6] [1] (fun s => s ≤ 256) (fun s => 256 - s) (0) (fr0 := [(0, .p (.v (.int .i64 _))), (4, .ptr 1 0), (5, .p (.v (.int .i64 _))), (6, .ptr 2 0)]) (O0 := [(1, ⟨_, _, _, _, .rows _⟩)]) rfl rfl (by first | rfl | omega | (simp; done) | (simp; omega)) ⟨⟨⟨le_bs (by first | rfl | (simp [leN]; done)), trivial⟩, ⟨le_int (by first | rfl | (simp [leN]; done)), trivial⟩, ⟨le_int (by first | rfl | (simp [leN]; done)), trivial⟩, ⟨le_int (by first | rfl | (simp [leN]; done)), trivial⟩, ⟨.refl _, trivial⟩, ⟨.refl _, rfl⟩, ⟨.refl _, trivial⟩, ⟨.refl _, rfl⟩, trivial⟩, ⟨⟨_, rfl, .inr (ob_rows (by first | rfl | ((try dsimp only); first | rfl | (simp [leN]; done))) (by first | rfl | ((try dsimp only); first | rfl | (simp [leN]; done)))), trivial⟩, ⟨_, rfl, .inl rfl, trivial⟩, trivial⟩⟩ (fun s hP0 => ?_)
    have hD : d.toNat * (s + 1) = d.toNat * s + d.toNat := Nat.mul_succ _ _
    have hDb : s < 256 → d.toNat * (s + 1) ≤ 8 * b.length := fun h => by have := Nat.mul_le_mul_left d.toNat (show s + 1 ≤ 256 by omega); omega
    refine HT.seq (HT.region S_decode_ok (So.q rfl rfl (V.bin (a := (.v (.int .i64 ((_ : Nat) : Int)))) (b := (.v (.int .i64 (256)))) (r := .v (.bool _)) rfl rfl rfl trivial (So.e (HT.seq ?_)))))
    refine R.cond rfl rfl (fun h4 => ?_) (fun h4 => ?_)
    ·have h4 := of_decide_eq_true h4
     refine HT.skip (HT.seq (HT.block (HT.seq (HT.region S_decode_ok (So.q rfl rfl (V.mv (v := .p (.v (.int .i64 ((_ : Nat) : Int)))) rfl (So.q rfl rfl (V.as (v := .p (.v (.int .i64 ((_ : Nat) : Int)))) rfl (So.e (HT.seq (HT.block ?_)))))))))))
     refine R.loop (σ := Nat) (fun r => [(1, .p (.bs (b.drop ((d.toNat * s + 7) / 8 + r)))), (7, .p (.v (.int .i64 (((leN (b.take ((d.toNat * s + 7) / 8 + r)) / 2 ^ (d.toNat * s) : Nat) : Int))))), (8, .p (.v (.int .i64 (((8 * ((d.toNat * s + 7) / 8 + r) - d.toNat * s : Nat) : Int)))))]) (fun r => []) [0, 4, 5, 6, 9, 23] [1, 2] (fun r => r = 0 ∨ 8 * ((d.toNat * s + 7) / 8 + r) < d.toNat * (s + 1) + 8) (fun r => d.toNat * (s + 1) + 8 - 8 * ((d.toNat * s + 7) / 8 + r)) (0) (fr0 := [(0, .p (.v (.int .i64 _))), (4, .ptr 1 0), (5, .p (.v (.int .i64 _))), (6, .ptr 2 0), (9, .p (.v (.int .i64 ((_ : Nat) : Int)))), (23, .p (.v (.int .i64 ((_ : Nat) : Int))))]) (O0 := [(1, ⟨_, _, _, _, .rows _⟩), (2, ⟨_, _, _, _, .rows _⟩)]) rfl rfl (by exact .inl rfl) ⟨⟨⟨le_bs (by first | rfl | omega), trivial⟩, ⟨le_int (by first | rfl | omega), trivial⟩, ⟨le_int (by first | rfl | omega), trivial⟩, ⟨.refl _, trivial⟩, ⟨.refl _, rfl⟩, ⟨.refl _, trivial⟩, ⟨.refl _, rfl⟩, ⟨.refl _, trivial⟩, ⟨.refl _, trivial⟩, trivial⟩, ⟨⟨_, rfl, .inl rfl, trivial⟩, ⟨_, rfl, .inl rfl, trivial⟩, trivial⟩⟩ (fun r hP1 => ?_)
     refine HT.seq (HT.seq (HT.region S_decode_ok (So.q rfl rfl (V.mv (v := .p (.v (.int .i64 _))) rfl (So.q rfl rfl (V.mv (v := .p (.v (.int .i64 _))) rfl (So.q rfl rfl (V.bin (a := (.v (.int .i64 _))) (b := (.v (.int .i64 _))) (r := .v (.bool _)) rfl rfl rfl trivial (So.e ?_)))))))))
     show HT _ _ _ _ _
     refine R.cond rfl rfl (fun h5 => ?_) (fun h5 => ?_)
     ·have h5 := of_decide_eq_true h5
      refine HT.skip (HT.seq (HT.block (HT.seq (HT.region S_decode_ok ?_))))
      have h97 := hDb (by omega)
      have hdl : (b.drop ((d.toNat * s + 7) / 8 + r)).length = b.length - ((d.toNat * s + 7) / 8 + r) := List.length_drop
      refine So.q rfl rfl (V.mv (v := .p (.v (.int .i64 _))) rfl (So.q rfl rfl (V.mv (v := .p (.bs _)) rfl (So.q rfl rfl (V.ixBs ty22 ty5 rfl rfl rfl (by omega) rfl (So.q rfl rfl (V.ldRp ty5 rfl rfl (lk rfl) (v := (.u8 _)) rfl (So.q rfl rfl (V.cvN ty3 ty5 (a := (.u8 _)) (r := (.v (.int .i64 _))) rfl rfl (So.q rfl rfl (V.mv (v := .p (.v (.int .i64 _))) rfl (So.q rfl rfl (V.bin (a := (.v (.int .i64 _))) (b := (.v (.int .i64 _))) (r := .v (.int .i64 _)) rfl rfl rfl (by first | rfl | omega | (simp; done) | (simp; omega)) (So.q rfl rfl (V.bin (a := (.v (.int .i64 _))) (b := (.v (.int .i64 _))) (r := .v (.int .i64 _)) rfl rfl rfl trivial (So.q rfl rfl (V.as (v := .p (.v (.int .i64 _))) rfl (So.e ?_))))))))))))))))))
      show HT _ _ _ _ _
      refine HT.region S_decode_ok (So.q rfl rfl (V.mv (v := .p (.bs _)) rfl (So.q rfl rfl (V.cutBsL (mx := none) ty22 ty5 rfl rfl rfl (by omega) rfl (So.q rfl rfl (V.as (v := .p (.bs _)) rfl (So.e (HT.region S_decode_ok (So.q rfl rfl (V.mv (v := .p (.v (.int .i64 _))) rfl (So.q rfl rfl (V.addI rfl rfl (by omega) (So.q rfl rfl (V.as (v := .p (.v (.int .i64 _))) rfl (So.e ?_)))))))))))))))
      refine ⟨r + 1, by exact .inr (by omega), by omega, ⟨⟨⟨le_bs (by first | rfl | (rw [List.drop_drop]; rfl) | (simp [List.drop_drop]; omega)), trivial⟩, ⟨le_int (by exact dec_or (by omega) (by omega) (by omega)), trivial⟩, ⟨le_int (by first | rfl | omega | (simp; done) | (simp; omega)), trivial⟩, ⟨.refl _, trivial⟩, ⟨.refl _, rfl⟩, ⟨.refl _, trivial⟩, ⟨.refl _, rfl⟩, ⟨.refl _, trivial⟩, ⟨.refl _, trivial⟩, trivial⟩, ⟨⟨_, rfl, .inl rfl, trivial⟩, ⟨_, rfl, .inl rfl, trivial⟩, trivial⟩⟩⟩
     ·have h5 := of_decide_eq_false h5
      refine HT.exit ?_
      show HT _ _ _ _ _
      refine HT.seq (HT.region S_decode_ok ?_)
      have h97 := hDb (by omega)
      have hdn := dec_and (b := b) (k := (d.toNat * s + 7) / 8 + r) (s := s) (d := d) (by omega) (by omega) (by omega) (by omega) (by omega)
      refine So.q rfl rfl (V.mv (v := .p (.v (.int .i64 ((_ : Nat) : Int)))) rfl (So.q rfl rfl (V.mv (v := .p (.v (.int .i64 _))) rfl (So.q rfl rfl (V.mv (v := .p (.v (.int .i64 _))) rfl (So.q rfl rfl (V.bin (a := (.v (.int .i64 (1)))) (b := (.v (.int .i64 _))) (r := .v (.int .i64 _)) rfl rfl rfl (by first | rfl | omega | (simp; done) | (simp; omega)) (So.q rfl rfl (V.subI rfl rfl (by omega) (So.q rfl rfl (V.bin (a := (.v (.int .i64 _))) (b := (.v (.int .i64 _))) (r := .v (.int .i64 _)) rfl rfl rfl trivial (So.q rfl rfl (V.ixArrP10 ty25 ty3 rfl rfl rfl (by first | rfl | omega | (simp; done) | (simp; omega)) rfl (by omega) (Int.toNat_natCast _) (So.s (A.sto ty3 rfl rfl rfl (v := .p (.v (.int .i64 _))) rfl rfl rfl (by first | rfl | omega | (simp; done) | (simp; omega)) (c' := .rows (fun j => .v (.int .i64 (if j = s then iAnd .i64 ((leN (b.take ((d.toNat * s + 7) / 8 + r)) / 2 ^ (d.toNat * s) : Nat) : Int) (iShl .i64 1 d.toNat - 1) else if j < s then decP d b j else 0)))) (congrArg (fun g => some (OC.rows g)) (funext fun j => by by_cases h9 : j = s <;> simp [h9])) rfl (So.e (HT.seq ?_)))))))))))))))))
      refine HT.region S_decode_ok (So.q rfl rfl (V.mv (v := .p (.v (.int .i64 _))) rfl (So.q rfl rfl (V.mv (v := .p (.v (.int .i64 _))) rfl (So.q rfl rfl (V.bin (a := (.v (.int .i64 _))) (b := (.v (.int .i64 _))) (r := .v (.int .i64 _)) rfl rfl rfl (by first | rfl | omega | (simp; done) | (simp; omega)) (So.q rfl rfl (V.as (v := .p (.v (.int .i64 _))) rfl (So.e (HT.seq (HT.region S_decode_ok (So.q rfl rfl (V.mv (v := .p (.v (.int .i64 _))) rfl (So.q rfl rfl (V.mv (v := .p (.v (.int .i64 _))) rfl ?_)))))))))))))))
      refine So.q rfl rfl (V.subI rfl rfl (by omega) (So.q rfl rfl (V.as (v := .p (.v (.int .i64 _))) rfl (So.e (HT.seq (HT.region S_decode_ok (So.q rfl rfl (V.mv (v := .p (.v (.int .i64 _))) rfl (So.q rfl rfl (V.bin (a := (.v (.int .i64 _))) (b := (.v (.int .i64 (12)))) (r := .v (.bool _)) rfl rfl rfl trivial (So.e ?_)))))))))))
      show HT _ _ _ _ _
      refine R.cond rfl rfl (fun h6 => ?_) (fun h6 => ?_)
      ·have h6 := of_decide_eq_true h6
       refine HT.region S_decode_ok (So.q rfl rfl (V.mv (v := .p (.v (.int .i64 ((_ : Nat) : Int)))) rfl (So.q rfl rfl (V.ixArrP10 ty25 ty3 rfl rfl rfl (by first | rfl | omega | (simp; done) | (simp; omega)) rfl (by omega) (Int.toNat_natCast _) (So.q rfl rfl (V.ldPtr ty3 rfl rfl rfl (by first | rfl | omega | (simp; done) | (simp; omega)) (v := .p (.v (.int .i64 _))) rfl (So.q rfl rfl (V.remI rfl rfl (by omega) (So.q rfl rfl (V.ixArrP10 ty25 ty3 rfl rfl rfl (by first | rfl | omega | (simp; done) | (simp; omega)) rfl (by omega) (Int.toNat_natCast _) (So.s (A.sto ty3 rfl rfl rfl (v := .p (.v (.int .i64 _))) rfl rfl rfl (by first | rfl | omega | (simp; done) | (simp; omega)) (c' := .rows (fun j => .v (.int .i64 (if j = s then (iAnd .i64 ((leN (b.take ((d.toNat * s + 7) / 8 + r)) / 2 ^ (d.toNat * s) : Nat) : Int) (iShl .i64 1 d.toNat - 1)) % 3329 else if j < s then decP d b j else 0)))) (congrArg (fun g => some (OC.rows g)) (funext fun j => by by_cases h9 : j = s <;> simp [h9])) rfl (So.e (HT.region S_decode_ok (So.q rfl rfl (V.addI rfl rfl (by omega) ?_))))))))))))))))
       refine So.q rfl rfl (V.mv (v := .p (.v (.int .i64 _))) rfl (So.e ?_))
       have hk : (d.toNat * (s + 1) + 7) / 8 = (d.toNat * s + 7) / 8 + r := by omega
       refine ⟨s + 1, by first | rfl | omega | (simp; done) | (simp; omega), by omega, ⟨⟨⟨le_bs (by rw [hk]), trivial⟩, ⟨le_int (by rw [hk]; exact dec_shr (by omega)), trivial⟩, ⟨le_int (by rw [hk]; omega), trivial⟩, ⟨le_int (by first | rfl | omega | (simp; done) | (simp; omega)), trivial⟩, ⟨.refl _, trivial⟩, ⟨.refl _, rfl⟩, ⟨.refl _, trivial⟩, ⟨.refl _, rfl⟩, trivial⟩, ⟨⟨_, rfl, .inr (ob_rows (by first | rfl | ((try dsimp only); first | rfl | omega | (intro j hj; first | exact dec_put (by unfold decP; rw [if_neg (by omega)]; exact hdn) j | exact dec_put (by unfold decP; rw [if_pos (by omega), hdn]) j))) (by first | rfl | ((try dsimp only); first | rfl | omega | (intro j hj; first | exact dec_put (by unfold decP; rw [if_neg (by omega)]; exact hdn) j | exact dec_put (by unfold decP; rw [if_pos (by omega), hdn]) j)))), trivial⟩, ⟨_, rfl, .inl rfl, trivial⟩, trivial⟩⟩⟩
      ·have h6 := of_decide_eq_false h6
       refine HT.skip (HT.region S_decode_ok (So.q rfl rfl (V.addI rfl rfl (by omega) (So.q rfl rfl (V.mv (v := .p (.v (.int .i64 _))) rfl (So.e ?_))))))
       have hk : (d.toNat * (s + 1) + 7) / 8 = (d.toNat * s + 7) / 8 + r := by omega
       refine ⟨s + 1, by first | rfl | omega | (simp; done) | (simp; omega), by omega, ⟨⟨⟨le_bs (by rw [hk]), trivial⟩, ⟨le_int (by rw [hk]; exact dec_shr (by omega)), trivial⟩, ⟨le_int (by rw [hk]; omega), trivial⟩, ⟨le_int (by first | rfl | omega | (simp; done) | (simp; omega)), trivial⟩, ⟨.refl _, trivial⟩, ⟨.refl _, rfl⟩, ⟨.refl _, trivial⟩, ⟨.refl _, rfl⟩, trivial⟩, ⟨⟨_, rfl, .inr (ob_rows (by first | rfl | ((try dsimp only); first | rfl | omega | (intro j hj; first | exact dec_put (by unfold decP; rw [if_neg (by omega)]; exact hdn) j | exact dec_put (by unfold decP; rw [if_pos (by omega), hdn]) j))) (by first | rfl | ((try dsimp only); first | rfl | omega | (intro j hj; first | exact dec_put (by unfold decP; rw [if_neg (by omega)]; exact hdn) j | exact dec_put (by unfold decP; rw [if_pos (by omega), hdn]) j)))), trivial⟩, ⟨_, rfl, .inl rfl, trivial⟩, trivial⟩⟩⟩
    ·have h4 := of_decide_eq_false h4
     refine HT.exit ?_
     show HT _ _ _ _ _
     refine HT.seq (HT.region S_decode_ok (So.q rfl rfl (V.ldPtrA ty25 rfl rfl rfl rfl (lk rfl) (So.s (A.stoAg ty25 rfl (n := 256) rfl (by decide) (by intro j hj; first | rfl | trivial) rfl rfl rfl (So.q rfl rfl (V.as (v := .p (.v (.int .i64 (0)))) rfl (So.e ?_))))))))
     show HT _ _ _ _ _
     refine HT.ret ?_
     exact retC_ok (sg []) [(4, .ptr 1 0), (5, .p (.v (.int .i64 ((decF d b).2))))] [(1, ⟨25, 1, 256, true, .rows (fun j => .v (.int .i64 ((decF d b).1 j)))⟩)] h ⟨⟨⟨.refl _, rfl⟩, ⟨le_int (by first | rfl | (unfold decF; rw [if_pos (by omega)] <;> rfl) | (unfold decF; rw [if_neg (by omega), if_pos (by omega)] <;> rfl) | (unfold decF; rw [if_neg (show ¬ (d < 1 ∨ 12 < d) by omega), if_neg (show ¬ ((b.length : Int) ≠ 32 * d) by omega)] <;> rfl) | (unfold decF; rw [if_neg (show ¬ (d < 1 ∨ 12 < d) by omega), if_neg (show ¬ ((b.length : Int) ≠ 32 * d) by omega), Nat.zero_add, if_pos (show j < s by omega)])), trivial⟩, trivial⟩, ⟨⟨_, rfl, .inr (ob_rows rfl (by intro j hj; first | rfl | ((try dsimp only); (first | rfl | (unfold decF; rw [if_pos (by omega)] <;> rfl) | (unfold decF; rw [if_neg (by omega), if_pos (by omega)] <;> rfl) | (unfold decF; rw [if_neg (show ¬ (d < 1 ∨ 12 < d) by omega), if_neg (show ¬ ((b.length : Int) ≠ 32 * d) by omega)] <;> rfl) | (unfold decF; rw [if_neg (show ¬ (d < 1 ∨ 12 < d) by omega), if_neg (show ¬ ((b.length : Int) ≠ 32 * d) by omega), Nat.zero_add, if_pos (show j < s by omega)]))))), trivial⟩, trivial⟩⟩ ⟨rvA_cell ty25 rfl rfl rfl rfl (Nat.le_refl _) (le_agg (fun j _ => by first | rfl | (dsimp only; rw [Nat.zero_add]))), .refl _, trivial⟩ trivial rfl trivial ⟨trivial, trivial, trivial⟩ rfl
end Go.Vh

set_option linter.unusedVariables false
set_option linter.unusedSimpArgs false
namespace Go.Vh
open Go Go.Vc Go.Proofs Go.Vw Go.Vk
def headSp : Sp := ⟨[], mkE (α := Unit) (fun _ => []) (fun _ => []) (fun _ => True) (fun _ => [.p (.v (.bool true))]) (fun _ => [])⟩
def S_head : FuncId → Option Sp := fun f => if f = 11 then some encodeSp else if f = 12 then some decodeSp else if f = 8 then some uniform0Sp else if f = 13 then some squeezeSp else if f = 14 then some stretchSp else none
theorem S_head_ok : ∀ f s, S_head f = some s → FOK Tryd.prog gl f s := fun f s h => by
 unfold S_head at h
 split at h
 ·rename_i e; cases h; subst e; exact encode_ok
 split at h
 ·rename_i e; cases h; subst e; exact decode_ok
 split at h
 ·rename_i e; cases h; subst e; exact uniform0_ok
 split at h
 ·rename_i e; cases h; subst e; exact squeeze_ok
 split at h
 ·rename_i e; cases h; subst e; exact stretch_ok
 cases h
set_option maxHeartbeats 1000000 in
set_option maxRecDepth 20000 in
theorem head_ok : FOK Tryd.prog gl 5 headSp := by
 refine FOK.ofE (tyOf_ok Tryd.prog) (slots := [0]) (nt := 53) Tryd.func5 rfl rfl rfl rfl (by decide) 0 (fun _ => rfl) (by decide) (fun _ => trivial) ?_
 rintro _ kk hlen hpre h
 replace hpre : True := hpre
 show HT (cx Tryd.prog 53 (tyOf Tryd.prog) gl []) _ [] [] _
 refine HT.seq (HT.region S_head_ok (So.q rfl rfl (V.as (v := .p (.v (.bool false))) rfl (So.e (HT.seq (HT.region S_head_ok (So.n (lk rfl) (A.alloc 1 1 ty25 rfl trivial (f := fun _ => .v (.int .i64 0)) (fun _ _ => rfl) (So.e (HT.seq (HT.region S_head_ok ?_)))))))))))
 refine So.q rfl rfl (V.ixArrP10 ty25 ty3 rfl rfl rfl (by first | rfl | omega | decide | (simp; done)) rfl (by omega) rfl (So.s (A.sto ty3 rfl rfl rfl (v := .p (.v (.int .i64 _))) rfl rfl rfl (by first | rfl | omega | decide | (simp; done)) (c' := .rows (fun j => .v (.int .i64 (if j = 0 then 5 else 0)))) (congrArg (fun g => some (OC.rows g)) (funext fun j => by by_cases h9 : j = 0 <;> simp [h9])) rfl (So.e (HT.seq (HT.region S_head_ok (So.q rfl rfl (V.ldPtrA ty25 rfl rfl rfl rfl (lk rfl) ?_))))))))
 refine So.n (lk rfl) (A.call0 [.p (.v (.int .i64 _)), .agg 256 _] 2 rfl rfl rfl rfl ⟨trivial, trivial, trivial⟩ trivial (4, P0) ⟨.refl _, le_agg (fun j _ => by simp [P0]), trivial⟩ trivial (by trivial) (Φ := fun (d, p) => (encF d p).length ≤ 384) (fun (d, p) _ => encF_le d p) (.inl rfl) (v := .own 4 0 _) rfl (O' := (4, ⟨5, 1, _, true, .bs _⟩) :: _) rfl (fun h1 => ?_))
 try dsimp only at h1
 refine So.q rfl rfl (V.as (v := .own 4 0 _) rfl (So.e (HT.seq (HT.region S_head_ok (So.q rfl rfl (V.mv (v := .own 4 0 _) rfl ?_))))))
 refine So.n (lk rfl) (A.call0 [.p (.v (.int .i64 _)), .p (.bs _)] 5 rfl rfl rfl rfl ⟨trivial, trivial, trivial⟩ trivial (_, _) ⟨.refl _, le_full, trivial⟩ trivial (by trivial) (Φ := fun _ => True) (fun _ _ => trivial) (.inr ⟨fun j hj => by match j, hj with | 0, _ => exact (fun _ _ => trivial) | 1, _ => exact trivial, by simp [Hp.scal, OC.scal, PV.scal, BV.scal]⟩) (v := .tup 2 _) rfl (O' := _) rfl (fun h2 => ?_))
 refine So.q rfl rfl (V.mv (v := .tup 2 _) rfl (So.q rfl rfl (V.ext rfl (lk rfl) (v := .agg 256 _) rfl (So.q rfl rfl (V.ext rfl (lk rfl) (v := .p (.v (.int .i64 _))) rfl (So.n (lk rfl) (A.alloc 5 1 ty25 rfl trivial (f := fun _ => .v (.int .i64 0)) (fun _ _ => rfl) (So.s (A.stoAg ty25 rfl (n := 256) rfl (by decide) (by intro j hj; first | rfl | trivial) rfl rfl rfl (So.q rfl rfl (V.as (v := .p (.v (.int .i64 _))) rfl (So.e (HT.seq (HT.region S_head_ok ?_))))))))))))))
 refine So.n (lk rfl) (A.call0 [.p (.v (.slice none 0 0))] 6 rfl rfl rfl rfl ⟨trivial, trivial⟩ trivial _ ⟨le_nil rfl, trivial⟩ trivial (by first | omega | (simp; done)) (Φ := fun _ => True) (fun _ _ => trivial) (.inl rfl) (v := .tup 2 _) rfl (O' := _) rfl (fun h3 => ?_))
 refine So.q rfl rfl (V.mv (v := .tup 2 _) rfl (So.q rfl rfl (V.ext rfl (lk rfl) (v := .agg 256 _) rfl (So.q rfl rfl (V.ext rfl (lk rfl) (v := .p (.v (.int .i64 _))) rfl (So.n (lk rfl) (A.alloc 6 1 ty25 rfl trivial (f := fun _ => .v (.int .i64 0)) (fun _ _ => rfl) (So.s (A.stoAg ty25 rfl (n := 256) rfl (by decide) (by intro j hj; first | rfl | trivial) rfl rfl rfl (So.q rfl rfl (V.as (v := .p (.v (.int .i64 _))) rfl (So.e (HT.seq (HT.region S_head_ok ?_))))))))))))))
 obtain ⟨e1, e2, e3, e4⟩ := head_enc
 refine So.n (lk rfl) (A.call0 [.p (.v (.int .i64 _)), .p (.v (.int .i64 _))] 7 rfl rfl rfl rfl ⟨trivial, trivial, trivial⟩ trivial (_, _) ⟨.refl _, .refl _, trivial⟩ trivial (by trivial) (Φ := fun _ => True) (fun _ _ => trivial) (.inl rfl) (v := .p (.v (.int .i64 _))) rfl (O' := _) rfl (fun h4 => ?_))
 refine So.q rfl rfl (V.bin (a := (.v (.int .i64 _))) (b := (.v (.int .i64 (0)))) (r := .v (.bool _)) rfl rfl rfl trivial (So.q rfl rfl (V.mv (v := .p (.v (.bool _))) rfl ?_)))
 refine So.gd rfl rfl (lk rfl) (lk rfl) (fun h5 => ?_) (fun h5 => ?_)
 ·have h5 := of_decide_eq_true h5
  refine A.call0 [.p (.v (.int .i64 _)), .p (.v (.int .i64 _))] 7 rfl rfl rfl rfl ⟨trivial, trivial, trivial⟩ trivial (_, _) ⟨.refl _, .refl _, trivial⟩ trivial (by trivial) (Φ := fun _ => True) (fun _ _ => trivial) (.inl rfl) (v := .p (.v (.int .i64 _))) rfl (O' := _) rfl (fun h6 => ?_)
  refine So.gy rfl rfl (lk rfl) (lk rfl) (A.v rfl (V.bin (a := (.v (.int .i64 _))) (b := (.v (.int .i64 (1)))) (r := .v (.bool _)) rfl rfl rfl trivial (So.q rfl rfl (V.pkTrue (u := .p (.v (.bool _))) rfl rfl (So.q rfl rfl (V.mv (v := .p (.v (.bool _))) rfl ?_))))))
  refine So.gd rfl rfl (lk rfl) (lk rfl) (fun h7 => ?_) (fun h7 => ?_)
  ·have h7 := of_decide_eq_true h7
   refine A.call0 [.p (.v (.int .i64 _)), .p (.v (.int .i64 _))] 7 rfl rfl rfl rfl ⟨trivial, trivial, trivial⟩ trivial (_, _) ⟨.refl _, .refl _, trivial⟩ trivial (by trivial) (Φ := fun _ => True) (fun _ _ => trivial) (.inl rfl) (v := .p (.v (.int .i64 _))) rfl (O' := _) rfl (fun h8 => ?_)
   refine So.gy rfl rfl (lk rfl) (lk rfl) (A.v rfl (V.bin (a := (.v (.int .i64 _))) (b := (.v (.int .i64 (1665)))) (r := .v (.bool _)) rfl rfl rfl trivial (So.q rfl rfl (V.pkTrue (u := .p (.v (.bool _))) rfl rfl (So.q rfl rfl (V.mv (v := .p (.v (.bool _))) rfl ?_))))))
   refine So.gd rfl rfl (lk rfl) (lk rfl) (fun h9 => ?_) (fun h9 => ?_)
   ·have h9 := of_decide_eq_true h9
    refine A.v rfl (V.mv (v := .own 4 0 _) rfl (So.gy rfl rfl (lk rfl) (lk rfl) (A.v rfl (V.len ty22 (v := .own 4 0 _) rfl rfl (So.gy rfl rfl (lk rfl) (lk rfl) (A.v rfl (V.bin (a := (.v (.int .i64 _))) (b := (.v (.int .i64 (128)))) (r := .v (.bool _)) rfl rfl rfl trivial (So.q rfl rfl (V.pkTrue (u := .p (.v (.bool _))) rfl rfl (So.q rfl rfl (V.mv (v := .p (.v (.bool _))) rfl ?_)))))))))))
    refine So.gd rfl rfl (lk rfl) (lk rfl) (fun h10 => ?_) (fun h10 => ?_)
    ·have h10 := of_decide_eq_true h10
     refine A.v rfl (V.mv (v := .own 4 0 _) rfl (So.gy rfl rfl (lk rfl) (lk rfl) (A.v rfl (V.ixOwn10 ty22 ty5 rfl rfl rfl rfl rfl (by omega) rfl (So.gy rfl rfl (lk rfl) (lk rfl) (A.v rfl (V.ldPtr ty5 rfl rfl rfl (by first | rfl | omega | decide | (simp; done)) (v := .p (.u8 _)) rfl (So.gy rfl rfl (lk rfl) (lk rfl) (A.v rfl (V.bin (a := (.u8 _)) (b := (.u8 5)) (r := .v (.bool _)) rfl rfl rfl trivial (So.q rfl rfl (V.pkTrue (u := .p (.v (.bool _))) rfl rfl (So.q rfl rfl (V.mv (v := .p (.v (.bool _))) rfl ?_))))))))))))))
     refine So.gd rfl rfl (lk rfl) (lk rfl) (fun h11 => ?_) (fun h11 => ?_)
     ·have h11 := of_decide_eq_true h11
      refine A.v rfl (V.mv (v := .p (.v (.int .i64 _))) rfl (So.gy rfl rfl (lk rfl) (lk rfl) (A.v rfl (V.bin (a := (.v (.int .i64 _))) (b := (.v (.int .i64 (0)))) (r := .v (.bool _)) rfl rfl rfl trivial (So.q rfl rfl (V.pkTrue (u := .p (.v (.bool _))) rfl rfl (So.q rfl rfl (V.mv (v := .p (.v (.bool _))) rfl ?_))))))))
      refine So.gd rfl rfl (lk rfl) (lk rfl) (fun h12 => ?_) (fun h12 => ?_)
      ·have h12 := of_decide_eq_true h12
       refine A.v rfl (V.ldPtrA ty25 rfl rfl rfl rfl (lk rfl) (So.gy rfl rfl (lk rfl) (lk rfl) (A.v rfl (V.ldPtrA ty25 rfl rfl rfl rfl (lk rfl) (So.gy rfl rfl (lk rfl) (lk rfl) (A.v rfl (V.eqArr ty25 ty3 rfl rfl rfl rfl (by first | exact Tryd.eqGuardType25 | kernel_rfl) (fun _ _ => ⟨rfl, rfl⟩) rfl (So.q rfl rfl (V.pkTrue (u := .p (.v (.bool _))) rfl rfl (So.q rfl rfl (V.mv (v := .p (.v (.bool _))) rfl ?_)))))))))))
       refine So.gd rfl rfl (lk rfl) (lk rfl) (fun h13 => ?_) (fun h13 => ?_)
       ·have h13 := of_decide_eq_true h13
        refine A.v rfl (V.mv (v := .p (.v (.int .i64 _))) rfl (So.gy rfl rfl (lk rfl) (lk rfl) (A.v rfl (V.bin (a := (.v (.int .i64 _))) (b := (.v (.int .i64 (1)))) (r := .v (.bool _)) rfl rfl rfl trivial (So.q rfl rfl (V.pkTrue (u := .p (.v (.bool _))) rfl rfl (So.q rfl rfl (V.as (v := .p (.v (.bool _))) rfl (So.e ?_)))))))))
        show HT _ _ _ _ _
        refine HT.ret ?_
        exact ret_ok (sg []) h rfl rfl rfl trivial ⟨trivial, trivial⟩ rfl ⟨⟨⟨le_bool (by first | rfl | decide), trivial⟩, trivial⟩, trivial⟩
       ·have h13 := of_decide_eq_false h13
        first | exact absurd (by first | omega | exact e2 | (intro j hj; simp only [PV.toI, Option.getD_some, Nat.zero_add]; rw [e4 j hj]; simp [P0]; done) | decide) h13 | exact absurd h13 (by first | omega | exact e2 | (intro j hj; simp only [PV.toI, Option.getD_some, Nat.zero_add]; rw [e4 j hj]; simp [P0]; done) | decide)
      ·have h12 := of_decide_eq_false h12
       first | exact absurd (by first | omega | exact e2 | (intro j hj; simp only [PV.toI, Option.getD_some, Nat.zero_add]; rw [e4 j hj]; simp [P0]; done) | decide) h12 | exact absurd h12 (by first | omega | exact e2 | (intro j hj; simp only [PV.toI, Option.getD_some, Nat.zero_add]; rw [e4 j hj]; simp [P0]; done) | decide)
     ·have h11 := of_decide_eq_false h11
      first | exact absurd (by first | omega | exact e2 | (intro j hj; simp only [PV.toI, Option.getD_some, Nat.zero_add]; rw [e4 j hj]; simp [P0]; done) | decide) h11 | exact absurd h11 (by first | omega | exact e2 | (intro j hj; simp only [PV.toI, Option.getD_some, Nat.zero_add]; rw [e4 j hj]; simp [P0]; done) | decide)
    ·have h10 := of_decide_eq_false h10
     first | exact absurd (by first | omega | exact e2 | (intro j hj; simp only [PV.toI, Option.getD_some, Nat.zero_add]; rw [e4 j hj]; simp [P0]; done) | decide) h10 | exact absurd h10 (by first | omega | exact e2 | (intro j hj; simp only [PV.toI, Option.getD_some, Nat.zero_add]; rw [e4 j hj]; simp [P0]; done) | decide)
   ·have h9 := of_decide_eq_false h9
    first | exact absurd (by first | omega | exact e2 | (intro j hj; simp only [PV.toI, Option.getD_some, Nat.zero_add]; rw [e4 j hj]; simp [P0]; done) | decide) h9 | exact absurd h9 (by first | omega | exact e2 | (intro j hj; simp only [PV.toI, Option.getD_some, Nat.zero_add]; rw [e4 j hj]; simp [P0]; done) | decide)
  ·have h7 := of_decide_eq_false h7
   first | exact absurd (by first | omega | exact e2 | (intro j hj; simp only [PV.toI, Option.getD_some, Nat.zero_add]; rw [e4 j hj]; simp [P0]; done) | decide) h7 | exact absurd h7 (by first | omega | exact e2 | (intro j hj; simp only [PV.toI, Option.getD_some, Nat.zero_add]; rw [e4 j hj]; simp [P0]; done) | decide)
 ·have h5 := of_decide_eq_false h5
  first | exact absurd (by first | omega | exact e2 | (intro j hj; simp only [PV.toI, Option.getD_some, Nat.zero_add]; rw [e4 j hj]; simp [P0]; done) | decide) h5 | exact absurd h5 (by first | omega | exact e2 | (intro j hj; simp only [PV.toI, Option.getD_some, Nat.zero_add]; rw [e4 j hj]; simp [P0]; done) | decide)
def greatSp : Sp := ⟨[], mkE (α := (List UInt8)) (fun b => [.p (.bs (b))]) (fun b => []) (fun b => True) (fun b => [.p (.v (.bool (decide (3000 < (b.length : Int)))))]) (fun b => [])⟩
def S_great : FuncId → Option Sp := fun _ => none
theorem S_great_ok : ∀ f s, S_great f = some s → FOK Tryd.prog gl f s := fun f s h => by cases h
set_option maxHeartbeats 1000000 in
set_option maxRecDepth 1000 in
theorem great_ok : FOK Tryd.prog gl 7 greatSp := by
 refine FOK.ofE (tyOf_ok Tryd.prog) (slots := [2]) (nt := 6) Tryd.func7 rfl rfl rfl rfl (by decide) 1 (fun _ => rfl) (by decide) (fun _ => ⟨trivial, trivial⟩) ?_
 rintro b kk hlen hpre h
 have hl0 : (b).length ≤ 9223372036854775807 := hlen.1
 replace hpre : True := hpre
 show HT (cx Tryd.prog 6 (tyOf Tryd.prog) gl []) _ [(0, .p (.bs (b)))] [] _
 refine HT.seq (HT.region S_great_ok (So.q rfl rfl (V.as (v := .p (.v (.bool false))) rfl (So.e (HT.seq (HT.region S_great_ok (So.q rfl rfl (V.mv (v := .p (.bs _)) rfl (So.q rfl rfl (V.len ty22 (v := .p (.bs _)) rfl rfl (So.q rfl rfl (V.bin (a := (.v (.int .i64 _))) (b := (.v (.int .i64 (3000)))) (r := .v (.bool _)) rfl rfl rfl trivial (So.q rfl rfl (V.as (v := .p (.v (.bool _))) rfl ?_))))))))))))))
 refine So.e ?_
 show HT _ _ _ _ _
 refine HT.ret ?_
 exact ret_ok (sg []) h rfl rfl rfl trivial ⟨trivial, trivial⟩ rfl ⟨⟨⟨le_bool (by first | rfl | omega | (simp; done) | (simp; omega)), trivial⟩, trivial⟩, trivial⟩
end Go.Vh

set_option linter.unusedVariables false
set_option linter.unusedSimpArgs false
namespace Go.Vh
open Go Go.Vc Go.Proofs Go.Vw Go.Vk
def klaySp : Sp := ⟨[1], mkE (α := Nat × UInt8 × (Nat → UInt64) × Nat × Bool × Nat × UInt8) (fun (r, e, w, p, g, q, c) => [.ptr 1 (0), .p (.v (.int .i64 ((q : Int)))), .p (.u8 (c))]) (fun (r, e, w, p, g, q, c) => [(1, ⟨57, 1, 29, true, .rows (spB r e (w) (p) g)⟩)]) (fun (r, e, w, p, g, q, c) => q < 192) (fun (r, e, w, p, g, q, c) => []) (fun (r, e, w, p, g, q, c) => [(1, ⟨57, 1, 29, true, .rows (spB r e (layF w q c) (p) g)⟩)])⟩
def S_klay : FuncId → Option Sp := fun _ => none
theorem S_klay_ok : ∀ f s, S_klay f = some s → FOK Tryd.prog gl f s := fun f s h => by cases h
set_option maxHeartbeats 1000000 in
set_option maxRecDepth 20000 in
theorem klay_ok : FOK Tryd.prog gl 35 klaySp := by
 refine FOK.ofE (tyOf_ok Tryd.prog) (slots := []) (nt := 23) Tryd.func35 rfl rfl rfl rfl (by decide) 3 (fun ⟨_, _, _, _, _, _, _⟩ => rfl) (by decide) (fun ⟨_, _, _, _, _, _, _⟩ => ⟨rfl, trivial, trivial, trivial⟩) ?_
 rintro ⟨r, e, w, p, g, q, c⟩ kk hlen hpre h
 replace hpre : q < 192 := hpre
 show HT (cx Tryd.prog 23 (tyOf Tryd.prog) gl [1]) _ [(0, .ptr 1 (0)), (1, .p (.v (.int .i64 ((q : Int))))), (2, .p (.u8 (c)))] [(1, ⟨57, 1, 29, true, .rows (spB r e (w) (p) g)⟩)] _
 refine HT.tail S_klay_ok mixed 17 (by kernel_rfl) (by kernel_rfl) ?_
 refine So.q rfl rfl (V.mv (v := .ptr 1 0) rfl (So.q rfl rfl (V.mv (v := .p (.v (.int .i64 ((_ : Nat) : Int)))) rfl (So.q rfl rfl (V.quoI rfl rfl (by omega) (So.q rfl rfl (V.ncPtr rfl (So.q rfl rfl (V.faPtr ty57 rfl ty55 (lk rfl) rfl rfl (lk rfl) (So.q rfl rfl (V.ixArrP1 (mi := q / 8) ty55 ty53 rfl rfl rfl (by first | rfl | omega | (simp; done) | (simp; omega)) rfl (by omega) (by omega) (So.q rfl rfl (V.ldPtr ty53 rfl rfl rfl (by first | rfl | omega | (simp; done) | (simp; omega)) (v := .p (.u64 (w (q / 8)))) (by first | exact (congrArg BV.p (spB_w (i := q / 8) (by omega) (by omega))).trans (by rfl) | exact congrArg BV.p (spB_w (i := q / 8) (by omega) (by omega))) (So.q rfl rfl (V.mv (v := .p (.u8 _)) rfl (So.q rfl rfl (V.cvN ty53 ty5 (a := (.u8 _)) (r := (.u64 _)) rfl rfl (So.q rfl rfl (V.mv (v := .p (.v (.int .i64 ((_ : Nat) : Int)))) rfl ?_)))))))))))))))))))
 refine So.q rfl rfl (V.remI rfl rfl (by omega) (So.q rfl rfl (V.mulI rfl rfl (by omega) (So.q rfl rfl (V.bin (a := (.u64 _)) (b := (.v (.int .i64 _))) (r := .u64 _) rfl rfl rfl (by first | rfl | omega | (simp; done) | (simp; omega)) (So.q rfl rfl (V.bin (a := (.u64 _)) (b := (.u64 _)) (r := .u64 _) rfl rfl rfl trivial (So.q rfl rfl (V.ncPtr rfl (So.q rfl rfl (V.faPtr ty57 rfl ty55 (lk rfl) rfl rfl (lk rfl) (So.q rfl rfl (V.ixArrP1 (mi := q / 8) ty55 ty53 rfl rfl rfl (by first | rfl | omega | (simp; done) | (simp; omega)) rfl (by omega) (by omega) (So.s (A.sto ty53 rfl rfl rfl (v := .p (.u64 _)) rfl trivial rfl (by first | rfl | omega | (simp; done) | (simp; omega)) (c' := .rows (spB r e (layF w q c) p g)) (congrArg (fun g => some (OC.rows g)) (funext fun j => by exact spB_st (i := q / 8) (by omega) (by omega) (by unfold layF; rw [if_pos rfl]; first | rfl | (congr 2; omega)) (by intro j hj25 hj; unfold layF; exact if_neg hj) j)) rfl (So.e ?_))))))))))))))))
 exact ret_ok (sg [(1, 1)]) h rfl rfl rfl ⟨trivial, trivial⟩ trivial rfl ⟨trivial, ⟨⟨_, rfl, .inr (ob_rows (by first | rfl | ((try dsimp only); (first | rfl | (intro j hj; rfl)))) (by first | rfl | ((try dsimp only); (first | rfl | (intro j hj; rfl))))), trivial⟩, trivial⟩⟩
end Go.Vh

set_option linter.unusedVariables false
set_option linter.unusedSimpArgs false
namespace Go.Vh
open Go Go.Vc Go.Proofs Go.Vw Go.Vk
def kchangeSp : Sp := ⟨[1], mkE (α := Nat × UInt8 × (Nat → UInt64) × Nat × Bool) (fun (r, e, w, p, g) => [.ptr 1 (2)]) (fun (r, e, w, p, g) => [(1, ⟨57, 1, 29, true, .rows (spB r e (w) (p) g)⟩)]) (fun (r, e, w, p, g) => True) (fun (r, e, w, p, g) => []) (fun (r, e, w, p, g) => [(1, ⟨57, 1, 29, true, .rows (spB r e (kf w) (p) g)⟩)])⟩
def S_kchange : FuncId → Option Sp := fun f => if f = 43 then some rotl64Sp else none
theorem S_kchange_ok : ∀ f s, S_kchange f = some s → FOK Tryd.prog gl f s := fun f s h => by
 unfold S_kchange at h
 split at h
 ·rename_i e; cases h; subst e; exact rotl64_ok
 cases h
theorem S_kchange_det : ∀ f s, S_kchange f = some s → SpDet s.sp := fun f s h => by
 unfold S_kchange at h
 split at h
 ·cases h; exact mkE_det _ _ _ _ _
 cases h
set_option maxHeartbeats 1000000 in
set_option maxRecDepth 20000 in
theorem kchange_ok : FOK Tryd.prog gl 39 kchangeSp := by
 refine FOK.ofE (tyOf_ok Tryd.prog) (slots := []) (nt := 128) Tryd.func39 rfl rfl rfl rfl (by decide) 1 (fun ⟨_, _, _, _, _⟩ => rfl) (by decide) (fun ⟨_, _, _, _, _⟩ => ⟨rfl, trivial⟩) ?_
 rintro ⟨r, e, w, p, g⟩ kk hlen hpre h
 replace hpre : True := hpre
 show HT (cx Tryd.prog 128 (tyOf Tryd.prog) gl [1]) _ [(0, .ptr 1 (2))] [(1, ⟨57, 1, 29, true, .rows (spB r e (w) (p) g)⟩)] _
 refine HT.seq (HT.region S_kchange_ok (So.q rfl rfl (V.ldRpA ty68 rfl rfl (lk rfl) (So.q rfl rfl (V.mv (v := .p (.v (.int .i64 (0)))) rfl (So.e (HT.block ?_)))))))
 refine R.loop (σ := Nat) (fun q => [(15, .p (.v (.int .i64 ((q : Int)))))]) (fun q => [(1, ⟨57, 1, 29, true, .rows (spB r e (kfN w q) (p) g)⟩)]) [0, 14] [] (fun q => q ≤ 24) (fun q => 24 - q) (0) (fr0 := [(0, .ptr 1 2), (14, .agg 24 _)]) (O0 := []) rfl rfl (by first | rfl | omega | (show _ < 29; omega) | (show _ ≤ 29; omega) | (intro j hj; rfl) | (simp; done) | (simp; omega)) ⟨⟨⟨le_int (by first | rfl | omega | (intro j hj; rfl) | (intro j hj; exact spB_cg (fun j _ => (if_neg (by omega)).symm) j)), trivial⟩, ⟨.refl _, rfl⟩, ⟨.refl _, trivial⟩, trivial⟩, ⟨⟨_, rfl, .inr (ob_rows (by first | rfl | ((try dsimp only); first | rfl | omega | (intro j hj; rfl) | (intro j hj; exact spB_cg (fun j _ => (if_neg (by omega)).symm) j))) (by first | rfl | ((try dsimp only); first | rfl | omega | (intro j hj; rfl) | (intro j hj; exact spB_cg (fun j _ => (if_neg (by omega)).symm) j)))), trivial⟩, trivial⟩⟩ (fun q hP0 => ?_)
 refine HT.seq (HT.region S_kchange_ok (So.q rfl rfl (V.bin (a := (.v (.int .i64 ((_ : Nat) : Int)))) (b := (.v (.int .i64 (24)))) (r := .v (.bool _)) rfl rfl rfl trivial (So.e (HT.seq ?_)))))
 refine R.cond rfl rfl (fun h1 => ?_) (fun h1 => ?_)
 ·have h1 := of_decide_eq_true h1
  refine HT.skip (HT.seq (HT.block (HT.seq (HT.region S_kchange_ok (So.q rfl rfl (V.ixV1 (mi := q) ty68 ty53 rfl rfl rfl rfl (by omega) (lk rfl) (by omega) (v := (.u64 _)) rfl (So.q rfl rfl (V.as (v := .p (.u64 _)) rfl (So.e (HT.seq (HT.region S_kchange_ok ?_)))))))))))
  refine So.n (lk rfl) (A.alloc 2 1 ty60 rfl ⟨lk rfl, trivial⟩ (f := fun _ => .u64 0) (fun _ _ => rfl) (So.e (HT.seq (HT.seq (HT.region S_kchange_ok (So.q rfl rfl (V.mv (v := .ptr 1 2) rfl (So.q rfl rfl (V.mv (v := .p (.v (.int .i64 (0)))) rfl (So.e (HT.block ?_)))))))))))
  refine R.loop (σ := Nat) (fun s => [(19, .p (.v (.int .i64 ((s : Int)))))]) (fun s => [(2, ⟨60, 1, 5, true, .rows (fun j => .u64 (smN (kfN w q) s j))⟩)]) [0, 3, 4, 14, 15, 18] [1] (fun s => s ≤ 25) (fun s => 25 - s) (0) (fr0 := [(0, .ptr 1 2), (3, .p (.u64 _)), (4, .ptr 2 0), (14, .agg 24 _), (15, .p (.v (.int .i64 ((_ : Nat) : Int)))), (18, .ptr 1 2)]) (O0 := [(1, ⟨_, _, _, _, .rows _⟩)]) rfl rfl (by first | rfl | omega | (show _ < 29; omega) | (show _ ≤ 29; omega) | (intro j hj; rfl) | (simp; done) | (simp; omega)) ⟨⟨⟨le_int (by first | rfl | omega | (intro j hj; rfl) | (intro j hj; exact spB_cg (fun j _ => (if_neg (by omega)).symm) j)), trivial⟩, ⟨.refl _, rfl⟩, ⟨.refl _, trivial⟩, ⟨.refl _, rfl⟩, ⟨.refl _, trivial⟩, ⟨.refl _, trivial⟩, ⟨.refl _, rfl⟩, trivial⟩, ⟨⟨_, rfl, .inr (ob_rows (by first | rfl | ((try dsimp only); first | rfl | omega | (intro j hj; rfl) | (intro j hj; exact spB_cg (fun j _ => (if_neg (by omega)).symm) j))) (by first | rfl | ((try dsimp only); first | rfl | omega | (intro j hj; rfl) | (intro j hj; exact spB_cg (fun j _ => (if_neg (by omega)).symm) j)))), trivial⟩, ⟨_, rfl, .inl rfl, trivial⟩, trivial⟩⟩ (fun s hP1 => ?_)
  refine HT.seq (HT.region S_kchange_ok (So.q rfl rfl (V.bin (a := (.v (.int .i64 ((_ : Nat) : Int)))) (b := (.v (.int .i64 (25)))) (r := .v (.bool _)) rfl rfl rfl trivial (So.e (HT.seq ?_)))))
  refine R.cond rfl rfl (fun h2 => ?_) (fun h2 => ?_)
  ·have h2 := of_decide_eq_true h2
   refine HT.skip (HT.seq (HT.block (HT.seq ?_)))
   refine HT.drawn S_kchange_ok S_kchange_det mixed (by kernel_rfl) ?_
   refine Sd.n (lk rfl) (V.mv (v := .p (.v (.int .i64 ((_ : Nat) : Int)))) rfl (Sd.n (lk rfl) (V.ncPtr rfl (Sd.n (lk rfl) (V.ixArrP1 ty55 ty53 rfl rfl rfl (by first | rfl | omega | (show _ < 29; omega) | (show _ ≤ 29; omega) | (intro j hj; rfl) | (simp; done) | (simp; omega)) rfl (by omega) (Int.toNat_natCast _) (Sd.n (lk rfl) (V.ldPtr ty53 rfl rfl rfl (by first | rfl | omega | (show _ < 29; omega) | (show _ ≤ 29; omega) | (intro j hj; rfl) | (simp; done) | (simp; omega)) (v := .p (.u64 ((kfN w q) s))) (by first | exact (congrArg BV.p (spB_w (i := s) (by omega) (by omega))).trans (by rfl) | exact congrArg BV.p (spB_w (i := s) (by omega) (by omega))) (Sd.n (lk rfl) (V.as (v := .p (.v (.int .i64 ((_ : Nat) : Int)))) rfl (Sd.n (lk rfl) (V.as (v := .p (.u64 _)) rfl (Sd.e (HT.region S_kchange_ok (So.q rfl rfl (V.mv (v := .p (.v (.int .i64 ((_ : Nat) : Int)))) rfl (So.q rfl rfl (V.remI rfl rfl (by omega) ?_)))))))))))))))))
   refine So.q rfl rfl (V.ixArrP10 (mi := s % 5) ty60 ty53 rfl rfl rfl (by first | rfl | omega | (show _ < 29; omega) | (show _ ≤ 29; omega) | (intro j hj; rfl) | (simp; done) | (simp; omega)) rfl (by omega) (by omega) (So.q rfl rfl (V.ldPtr ty53 rfl rfl rfl (by first | rfl | omega | (show _ < 29; omega) | (show _ ≤ 29; omega) | (intro j hj; rfl) | (simp; done) | (simp; omega)) (v := .p (.u64 _)) rfl (So.q rfl rfl (V.mv (v := .p (.u64 _)) rfl (So.q rfl rfl (V.bin (a := (.u64 _)) (b := (.u64 _)) (r := .u64 _) rfl rfl rfl trivial (So.q rfl rfl (V.ixArrP10 (mi := s % 5) ty60 ty53 rfl rfl rfl (by first | rfl | omega | (show _ < 29; omega) | (show _ ≤ 29; omega) | (intro j hj; rfl) | (simp; done) | (simp; omega)) rfl (by omega) (by omega) (So.s (A.sto ty53 rfl rfl rfl (v := .p (.u64 _)) rfl trivial rfl (by first | rfl | omega | (show _ < 29; omega) | (show _ ≤ 29; omega) | (intro j hj; rfl) | (simp; done) | (simp; omega)) (c' := .rows (fun j => .u64 (smN (kfN w q) (s + 1) j))) (congrArg (fun g => some (OC.rows g)) (funext fun j => by by_cases h9 : j = s % 5 <;> simp [h9, smN])) rfl (So.e (HT.region S_kchange_ok (So.q rfl rfl (V.addI rfl rfl (by omega) (So.q rfl rfl (V.mv (v := .p (.v (.int .i64 _))) rfl ?_)))))))))))))))))
   refine So.e ?_
   refine ⟨s + 1, by first | rfl | omega | (show _ < 29; omega) | (show _ ≤ 29; omega) | (intro j hj; rfl) | (simp; done) | (simp; omega), by omega, ⟨⟨⟨le_int (by first | rfl | omega | (show _ < 29; omega) | (show _ ≤ 29; omega) | (intro j hj; rfl) | (simp; done) | (simp; omega)), trivial⟩, ⟨.refl _, rfl⟩, ⟨.refl _, trivial⟩, ⟨.refl _, rfl⟩, ⟨.refl _, trivial⟩, ⟨.refl _, trivial⟩, ⟨.refl _, rfl⟩, trivial⟩, ⟨⟨_, rfl, .inr (ob_rows (by first | rfl | ((try dsimp only); first | rfl | omega | (show _ < 29; omega) | (show _ ≤ 29; omega) | (intro j hj; rfl) | (simp; done) | (simp; omega))) (by first | rfl | ((try dsimp only); first | rfl | omega | (show _ < 29; omega) | (show _ ≤ 29; omega) | (intro j hj; rfl) | (simp; done) | (simp; omega)))), trivial⟩, ⟨_, rfl, .inl rfl, trivial⟩, trivial⟩⟩⟩
  ·have h2 := of_decide_eq_false h2
   refine HT.exit ?_
   show HT _ _ _ _ _
   refine HT.seq (HT.seq (HT.region S_kchange_ok ?_))
   have hs : s = 25 := by omega
   subst hs
   refine So.q rfl rfl (V.mv (v := .p (.v (.int .i64 (0)))) rfl (So.e (HT.block ?_)))
   refine R.loop (σ := Nat) (fun i => [(33, .p (.v (.int .i64 ((i : Int)))))]) (fun i => [(1, ⟨57, 1, 29, true, .rows (spB r e (fun j => if j < i then thF (kfN w q) j else kfN w q j) (p) g)⟩)]) [0, 3, 4, 14, 15] [2] (fun i => i ≤ 25) (fun i => 25 - i) (0) (fr0 := [(0, .ptr 1 2), (3, .p (.u64 _)), (4, .ptr 2 0), (14, .agg 24 _), (15, .p (.v (.int .i64 ((_ : Nat) : Int))))]) (O0 := [(2, ⟨_, _, _, _, .rows _⟩)]) rfl rfl (by first | rfl | omega | (show _ < 29; omega) | (show _ ≤ 29; omega) | (intro j hj; rfl) | (simp; done) | (simp; omega)) ⟨⟨⟨le_int (by first | rfl | omega | (intro j hj; rfl) | (intro j hj; exact spB_cg (fun j _ => (if_neg (by omega)).symm) j)), trivial⟩, ⟨.refl _, rfl⟩, ⟨.refl _, trivial⟩, ⟨.refl _, rfl⟩, ⟨.refl _, trivial⟩, ⟨.refl _, trivial⟩, trivial⟩, ⟨⟨_, rfl, .inr (ob_rows (by first | rfl | ((try dsimp only); first | rfl | omega | (intro j hj; rfl) | (intro j hj; exact spB_cg (fun j _ => (if_neg (by omega)).symm) j))) (by first | rfl | ((try dsimp only); first | rfl | omega | (intro j hj; rfl) | (intro j hj; exact spB_cg (fun j _ => (if_neg (by omega)).symm) j)))), trivial⟩, ⟨_, rfl, .inl rfl, trivial⟩, trivial⟩⟩ (fun i hP2 => ?_)
   refine HT.seq (HT.region S_kchange_ok (So.q rfl rfl (V.bin (a := (.v (.int .i64 ((_ : Nat) : Int)))) (b := (.v (.int .i64 (25)))) (r := .v (.bool _)) rfl rfl rfl trivial (So.e (HT.seq ?_)))))
   refine R.cond rfl rfl (fun h3 => ?_) (fun h3 => ?_)
   ·have h3 := of_decide_eq_true h3
    refine HT.skip (HT.seq (HT.block (HT.seq (HT.region S_kchange_ok (So.q rfl rfl (V.mv (v := .p (.v (.int .i64 ((_ : Nat) : Int)))) rfl (So.q rfl rfl (V.as (v := .p (.v (.int .i64 ((_ : Nat) : Int)))) rfl (So.e ?_)))))))))
    show HT _ _ _ _ _
    refine HT.planS S_kchange_ok S_kchange_det mixed [] [⟨[0, 1, 2, 3, 4, 5, 6, 7, 8, 9, 10, 11, 12, 13, 14, 15, 16, 17, 18, 19], 20, []⟩] (by kernel_rfl) ?_
    refine Pl.l0 ?_
    refine Si.n rfl (lk rfl) (V.mv (v := .ptr 1 2) rfl (Si.n rfl (lk rfl) (V.mv (v := .p (.v (.int .i64 ((_ : Nat) : Int)))) rfl (Si.n rfl (lk rfl) (V.ncPtr rfl (Si.n rfl (lk rfl) (V.ixArrP1 ty55 ty53 rfl rfl rfl (by first | rfl | omega | (show _ < 29; omega) | (show _ ≤ 29; omega) | (intro j hj; rfl) | (simp; done) | (simp; omega)) rfl (by omega) (Int.toNat_natCast _) (Si.n rfl (lk rfl) (V.ldPtr ty53 rfl rfl rfl (by first | rfl | omega | (show _ < 29; omega) | (show _ ≤ 29; omega) | (intro j hj; rfl) | (simp; done) | (simp; omega)) (v := .p (.u64 ((kfN w q) i))) (by first | exact (congrArg BV.p (spB_w (i := i) (by omega) (by omega))).trans (by rw [if_neg (Nat.lt_irrefl i)]) | exact congrArg BV.p (spB_w (i := i) (by omega) (by omega))) (Si.n rfl (lk rfl) (V.mv (v := .p (.v (.int .i64 ((_ : Nat) : Int)))) rfl (Si.n rfl (lk rfl) (V.addI rfl rfl (by omega) (Si.n rfl (lk rfl) (V.remI rfl rfl (by omega) (Si.n rfl (lk rfl) (V.ixArrP10 (mi := (i + 4) % 5) ty60 ty53 rfl rfl rfl (by first | rfl | omega | (show _ < 29; omega) | (show _ ≤ 29; omega) | (intro j hj; rfl) | (simp; done) | (simp; omega)) rfl (by omega) (by omega) (Si.n rfl (lk rfl) (V.ldPtr ty53 rfl rfl rfl (by first | rfl | omega | (show _ < 29; omega) | (show _ ≤ 29; omega) | (intro j hj; rfl) | (simp; done) | (simp; omega)) (v := .p (.u64 _)) rfl ?_)))))))))))))))))))
    refine Si.n rfl (lk rfl) (V.mv (v := .p (.v (.int .i64 ((_ : Nat) : Int)))) rfl (Si.n rfl (lk rfl) (V.addI rfl rfl (by omega) (Si.n rfl (lk rfl) (V.remI rfl rfl (by omega) (Si.n rfl (lk rfl) (V.ixArrP10 (mi := (i + 1) % 5) ty60 ty53 rfl rfl rfl (by first | rfl | omega | (show _ < 29; omega) | (show _ ≤ 29; omega) | (intro j hj; rfl) | (simp; done) | (simp; omega)) rfl (by omega) (by omega) (Si.n rfl (lk rfl) (V.ldPtr ty53 rfl rfl rfl (by first | rfl | omega | (show _ < 29; omega) | (show _ ≤ 29; omega) | (intro j hj; rfl) | (simp; done) | (simp; omega)) (v := .p (.u64 _)) rfl ?_)))))))))
    refine Si.n rfl (lk rfl) (V.call [.p (.u64 _), .p (.v (.int .i64 _))] 3 rfl rfl rfl rfl ⟨trivial, trivial, trivial⟩ ⟨lk rfl, trivial⟩ (_, _) ⟨.refl _, .refl _, trivial⟩ trivial (by first | omega | decide) (Φ := fun _ => True) (fun _ _ => trivial) (.inl ⟨trivial, trivial, trivial⟩) (v := .p (.u64 _)) rfl (fun h4 => ?_))
    refine Si.n rfl (lk rfl) (V.bin (a := (.u64 _)) (b := (.u64 _)) (r := .u64 _) rfl rfl rfl trivial (Si.n rfl (lk rfl) (V.bin (a := (.u64 _)) (b := (.u64 _)) (r := .u64 _) rfl rfl rfl trivial (Si.n rfl (lk rfl) (V.ncPtr rfl (Si.n rfl (lk rfl) (V.ixArrP1 ty55 ty53 rfl rfl rfl (by first | rfl | omega | (show _ < 29; omega) | (show _ ≤ 29; omega) | (intro j hj; rfl) | (simp; done) | (simp; omega)) rfl (by omega) (Int.toNat_natCast _) (Si.e ?_))))))))
    refine ⟨flEq_nil, ?_⟩
    refine Lo.s rfl (A.sto ty53 rfl rfl rfl (v := .p (.u64 _)) rfl trivial rfl (by first | rfl | omega | (show _ < 29; omega) | (show _ ≤ 29; omega) | (intro j hj; rfl) | (simp; done) | (simp; omega)) (c' := .rows (spB r e (fun j => if j < i + 1 then thF (kfN w q) j else kfN w q j) p g)) (congrArg (fun g => some (OC.rows g)) (funext fun j => by exact spB_st (i := i) (by omega) (by omega) (by rw [if_pos (Nat.lt_succ_self i)]; rfl) (by intro j hj25 hj; by_cases h8 : j < i; (rw [if_pos h8, if_pos (by omega)]); (rw [if_neg h8, if_neg (by omega)])) j)) rfl ?_)
    refine Pl.e ?_
    refine Si.e ?_
    refine ⟨flEq_nil, ?_⟩
    show HT _ _ _ _ _
    refine HT.region S_kchange_ok (So.q rfl rfl (V.addI rfl rfl (by omega) (So.q rfl rfl (V.mv (v := .p (.v (.int .i64 _))) rfl (So.e ?_)))))
    refine ⟨i + 1, by first | rfl | omega | (show _ < 29; omega) | (show _ ≤ 29; omega) | (intro j hj; rfl) | (simp; done) | (simp; omega), by omega, ⟨⟨⟨le_int (by first | rfl | omega | (show _ < 29; omega) | (show _ ≤ 29; omega) | (intro j hj; rfl) | (simp; done) | (simp; omega)), trivial⟩, ⟨.refl _, rfl⟩, ⟨.refl _, trivial⟩, ⟨.refl _, rfl⟩, ⟨.refl _, trivial⟩, ⟨.refl _, trivial⟩, trivial⟩, ⟨⟨_, rfl, .inr (ob_rows (by first | rfl | ((try dsimp only); first | rfl | omega | (show _ < 29; omega) | (show _ ≤ 29; omega) | (intro j hj; rfl) | (simp; done) | (simp; omega))) (by first | rfl | ((try dsimp only); first | rfl | omega | (show _ < 29; omega) | (show _ ≤ 29; omega) | (intro j hj; rfl) | (simp; done) | (simp; omega)))), trivial⟩, ⟨_, rfl, .inl rfl, trivial⟩, trivial⟩⟩⟩
   ·have h3 := of_decide_eq_false h3
    refine HT.exit ?_
    show HT _ _ _ _ _
    refine HT.seq ?_
    have hi : i = 25 := by omega
    subst hi
    refine R.tell [] [(1, ⟨57, 1, 29, true, .rows (spB r e (thF (kfN w q)) (p) g)⟩)] [0, 3, 14, 15] [] (fr0 := [(0, .ptr 1 2), (3, .p (.u64 _)), (14, .agg 24 _), (15, .p (.v (.int .i64 ((_ : Nat) : Int))))]) (O0 := []) rfl rfl ⟨⟨⟨.refl _, rfl⟩, ⟨.refl _, trivial⟩, ⟨.refl _, trivial⟩, ⟨.refl _, trivial⟩, trivial⟩, ⟨⟨_, rfl, .inr (ob_rows (by first | rfl | ((try dsimp only); (intro j hj; exact spB_cg (by intro j hj; rw [if_pos (by omega)]) j))) (by first | rfl | ((try dsimp only); (intro j hj; exact spB_cg (by intro j hj; rw [if_pos (by omega)]) j)))), trivial⟩, trivial⟩⟩ ?_
    show HT _ _ _ _ _
    refine HT.region S_kchange_ok (So.q rfl rfl (V.mv (v := .ptr 1 2) rfl (So.q rfl rfl (V.ncPtr rfl (So.q rfl rfl (V.ixArrP1 ty55 ty53 rfl rfl rfl (by first | rfl | omega | (show _ < 29; omega) | (show _ ≤ 29; omega) | (intro j hj; rfl) | (simp; done) | (simp; omega)) rfl (by omega) rfl (So.q rfl rfl (V.ldPtr ty53 rfl rfl rfl (by first | rfl | omega | (show _ < 29; omega) | (show _ ≤ 29; omega) | (intro j hj; rfl) | (simp; done) | (simp; omega)) (v := .p (.u64 ((thF (kfN w q)) 1))) (by first | exact (congrArg BV.p (spB_w (i := 1) (by omega) (by omega))).trans (by rfl) | exact congrArg BV.p (spB_w (i := 1) (by omega) (by omega))) (So.q rfl rfl (V.as (v := .p (.u64 _)) rfl (So.e (HT.seq (HT.seq (HT.region S_kchange_ok ?_))))))))))))))
    refine So.q rfl rfl (V.ldRpA ty72 rfl rfl (lk rfl) (So.q rfl rfl (V.mv (v := .p (.v (.int .i64 (0)))) rfl (So.e (HT.block ?_)))))
    refine R.loop (σ := Nat) (fun k => [(62, .p (.v (.int .i64 ((k : Int))))), (8, .p (.u64 ((rpN (thF (kfN w q)) k).2)))]) (fun k => [(1, ⟨57, 1, 29, true, .rows (spB r e ((rpN (thF (kfN w q)) k).1) (p) g)⟩)]) [0, 3, 14, 15, 61] [] (fun k => k ≤ 24) (fun k => 24 - k) (0) (fr0 := [(0, .ptr 1 2), (3, .p (.u64 _)), (14, .agg 24 _), (15, .p (.v (.int .i64 ((_ : Nat) : Int)))), (61, .agg 24 _)]) (O0 := []) rfl rfl (by first | rfl | omega | (show _ < 29; omega) | (show _ ≤ 29; omega) | (intro j hj; rfl) | (simp; done) | (simp; omega)) ⟨⟨⟨le_int (by first | rfl | omega | (intro j hj; rfl) | (intro j hj; exact spB_cg (fun j _ => (if_neg (by omega)).symm) j)), trivial⟩, ⟨le_u64 (by first | rfl | omega | (intro j hj; rfl) | (intro j hj; exact spB_cg (fun j _ => (if_neg (by omega)).symm) j)), trivial⟩, ⟨.refl _, rfl⟩, ⟨.refl _, trivial⟩, ⟨.refl _, trivial⟩, ⟨.refl _, trivial⟩, ⟨.refl _, trivial⟩, trivial⟩, ⟨⟨_, rfl, .inr (ob_rows (by first | rfl | ((try dsimp only); first | rfl | omega | (intro j hj; rfl) | (intro j hj; exact spB_cg (fun j _ => (if_neg (by omega)).symm) j))) (by first | rfl | ((try dsimp only); first | rfl | omega | (intro j hj; rfl) | (intro j hj; exact spB_cg (fun j _ => (if_neg (by omega)).symm) j)))), trivial⟩, trivial⟩⟩ (fun k hP3 => ?_)
    refine HT.seq (HT.region S_kchange_ok (So.q rfl rfl (V.bin (a := (.v (.int .i64 ((_ : Nat) : Int)))) (b := (.v (.int .i64 (24)))) (r := .v (.bool _)) rfl rfl rfl trivial (So.e (HT.seq ?_)))))
    refine R.cond rfl rfl (fun h5 => ?_) (fun h5 => ?_)
    ·have h5 := of_decide_eq_true h5
     refine HT.skip (HT.seq (HT.block (HT.seq (HT.region S_kchange_ok (So.q rfl rfl (V.mv (v := .p (.v (.int .i64 ((_ : Nat) : Int)))) rfl (So.q rfl rfl (V.ixV1 (mi := k) ty72 ty3 rfl rfl rfl rfl (by omega) (lk rfl) (by omega) (v := (.v (.int .i64 _))) rfl (So.q rfl rfl (V.as (v := .p (.v (.int .i64 ((_ : Nat) : Int)))) rfl (So.q rfl rfl (V.as (v := .p (.v (.int .i64 _))) rfl (So.e ?_)))))))))))))
     show HT _ _ _ _ _
     refine HT.planS S_kchange_ok S_kchange_det mixed [] [⟨[0, 1, 2, 3, 4, 5, 6, 7, 8, 9, 10, 11, 12, 13, 14], 15, []⟩] (by kernel_rfl) ?_
     have hpl := pl_lt k
     have htn := tn_b (k := k) (by omega)
     refine Pl.l0 ?_
     refine Si.n rfl (lk rfl) (V.mv (v := .ptr 1 2) rfl (Si.n rfl (lk rfl) (V.mv (v := .p (.v (.int .i64 _))) rfl (Si.n rfl (lk rfl) (V.mv (v := .ptr 1 2) rfl (Si.n rfl (lk rfl) (V.mv (v := .p (.v (.int .i64 _))) rfl (Si.n rfl (lk rfl) (V.ncPtr rfl (Si.n rfl (lk rfl) (V.ixArrP1 (mi := placesL.getD k 0) ty55 ty53 rfl rfl rfl (by first | rfl | omega | (show _ < 29; omega) | (show _ ≤ 29; omega) | (intro j hj; rfl) | (simp; done) | (simp; omega)) rfl (by omega) (by omega) (Si.n rfl (lk rfl) (V.ldPtr ty53 rfl rfl rfl (by first | rfl | omega | (show _ < 29; omega) | (show _ ≤ 29; omega) | (intro j hj; rfl) | (simp; done) | (simp; omega)) (v := .p (.u64 ((rpN (thF (kfN w q)) k).1 (placesL.getD k 0)))) (by first | exact (congrArg BV.p (spB_w (i := placesL.getD k 0) (by omega) (by omega))).trans (by rfl) | exact congrArg BV.p (spB_w (i := placesL.getD k 0) (by omega) (by omega))) (Si.n rfl (lk rfl) (V.mv (v := .p (.u64 _)) rfl (Si.n rfl (lk rfl) (V.mv (v := .p (.v (.int .i64 ((_ : Nat) : Int)))) rfl (Si.n rfl (lk rfl) (V.ixArr1 (mi := k) ty72 ty3 rfl rfl (lk rfl) rfl (by omega) (by omega) ?_)))))))))))))))))))
     refine Si.n rfl (lk rfl) (V.ldRp ty3 rfl rfl (lk rfl) (v := (.v (.int .i64 _))) rfl ?_)
     refine Si.n rfl (lk rfl) (V.call [.p (.u64 _), .p (.v (.int .i64 _))] 2 rfl rfl rfl rfl ⟨trivial, trivial, trivial⟩ ⟨lk rfl, trivial⟩ ((rpN (thF (kfN w q)) k).2, ((turnsL.getD k 0 : Nat) : Int)) ⟨.refl _, .refl _, trivial⟩ trivial (by first | omega | decide) (Φ := fun _ => True) (fun _ _ => trivial) (.inl ⟨trivial, trivial, trivial⟩) (v := .p (.u64 _)) rfl (fun h6 => ?_))
     refine Si.n rfl (lk rfl) (V.as (v := .p (.u64 _)) rfl (Si.n rfl (lk rfl) (V.ncPtr rfl (Si.n rfl (lk rfl) (V.ixArrP1 (mi := placesL.getD k 0) ty55 ty53 rfl rfl rfl (by first | rfl | omega | (show _ < 29; omega) | (show _ ≤ 29; omega) | (intro j hj; rfl) | (simp; done) | (simp; omega)) rfl (by omega) (by omega) (Si.e ?_))))))
     refine ⟨flEq_nil, ?_⟩
     refine Lo.s rfl (A.sto ty53 rfl rfl rfl (v := .p (.u64 _)) rfl trivial rfl (by first | rfl | omega | (show _ < 29; omega) | (show _ ≤ 29; omega) | (intro j hj; rfl) | (simp; done) | (simp; omega)) (c' := .rows (spB r e (rpN (thF (kfN w q)) (k + 1)).1 p g)) (congrArg (fun g => some (OC.rows g)) (funext fun j => by exact spB_st (i := placesL.getD k 0) (by omega) (by omega) (by exact if_pos rfl) (by intro j hj25 hj; exact if_neg hj) j)) rfl ?_)
     refine Pl.e ?_
     refine Si.e ?_
     refine ⟨flEq_nil, ?_⟩
     show HT _ _ _ _ _
     refine HT.region S_kchange_ok (So.q rfl rfl (V.addI rfl rfl (by omega) (So.q rfl rfl (V.mv (v := .p (.v (.int .i64 _))) rfl (So.e ?_)))))
     refine ⟨k + 1, by first | rfl | omega | (show _ < 29; omega) | (show _ ≤ 29; omega) | (intro j hj; rfl) | (simp; done) | (simp; omega), by omega, ⟨⟨⟨le_int (by first | rfl | omega | (show _ < 29; omega) | (show _ ≤ 29; omega) | (intro j hj; rfl) | (simp; done) | (simp; omega)), trivial⟩, ⟨le_u64 (by first | rfl | omega | (show _ < 29; omega) | (show _ ≤ 29; omega) | (intro j hj; rfl) | (simp; done) | (simp; omega)), trivial⟩, ⟨.refl _, rfl⟩, ⟨.refl _, trivial⟩, ⟨.refl _, trivial⟩, ⟨.refl _, trivial⟩, ⟨.refl _, trivial⟩, trivial⟩, ⟨⟨_, rfl, .inr (ob_rows (by first | rfl | ((try dsimp only); first | rfl | omega | (show _ < 29; omega) | (show _ ≤ 29; omega) | (intro j hj; rfl) | (simp; done) | (simp; omega))) (by first | rfl | ((try dsimp only); first | rfl | omega | (show _ < 29; omega) | (show _ ≤ 29; omega) | (intro j hj; rfl) | (simp; done) | (simp; omega)))), trivial⟩, trivial⟩⟩⟩
    ·have h5 := of_decide_eq_false h5
     refine HT.exit ?_
     show HT _ _ _ _ _
     refine HT.seq (HT.seq ?_)
     have hk : k = 24 := by omega
     subst hk
     refine R.norm [0, 3, 14, 15] [1] (fr0 := [(0, .ptr 1 2), (3, .p (.u64 _)), (14, .agg 24 _), (15, .p (.v (.int .i64 ((_ : Nat) : Int))))]) (O0 := [(1, ⟨_, _, _, _, .rows _⟩)]) rfl rfl ⟨⟨⟨.refl _, rfl⟩, ⟨.refl _, trivial⟩, ⟨.refl _, trivial⟩, ⟨.refl _, trivial⟩, trivial⟩, ⟨⟨_, rfl, .inl rfl, trivial⟩, trivial⟩⟩ ?_
     refine HT.region S_kchange_ok (So.q rfl rfl (V.as (v := .p (.v (.int .i64 (0)))) rfl (So.e (HT.block ?_))))
     refine R.loop (σ := Nat) (fun y => [(11, .p (.v (.int .i64 (5 * (y : Int)))))]) (fun y => [(1, ⟨57, 1, 29, true, .rows (spB r e (fun j => if j < 5 * y then chF (rpN (thF (kfN w q)) 24).1 j else (rpN (thF (kfN w q)) 24).1 j) (p) g)⟩)]) [0, 3, 14, 15] [] (fun y => y ≤ 5) (fun y => 5 - y) (0) (fr0 := [(0, .ptr 1 2), (3, .p (.u64 _)), (14, .agg 24 _), (15, .p (.v (.int .i64 ((_ : Nat) : Int))))]) (O0 := []) rfl rfl (by first | rfl | omega | (show _ < 29; omega) | (show _ ≤ 29; omega) | (intro j hj; rfl) | (simp; done) | (simp; omega)) ⟨⟨⟨le_int (by first | rfl | omega | (intro j hj; rfl) | (intro j hj; exact spB_cg (fun j _ => (if_neg (by omega)).symm) j)), trivial⟩, ⟨.refl _, rfl⟩, ⟨.refl _, trivial⟩, ⟨.refl _, trivial⟩, ⟨.refl _, trivial⟩, trivial⟩, ⟨⟨_, rfl, .inr (ob_rows (by first | rfl | ((try dsimp only); first | rfl | omega | (intro j hj; rfl) | (intro j hj; exact spB_cg (fun j _ => (if_neg (by omega)).symm) j))) (by first | rfl | ((try dsimp only); first | rfl | omega | (intro j hj; rfl) | (intro j hj; exact spB_cg (fun j _ => (if_neg (by omega)).symm) j)))), trivial⟩, trivial⟩⟩ (fun y hP4 => ?_)
     refine HT.seq (HT.seq (HT.region S_kchange_ok (So.q rfl rfl (V.mv (v := .p (.v (.int .i64 _))) rfl (So.q rfl rfl (V.bin (a := (.v (.int .i64 _))) (b := (.v (.int .i64 (25)))) (r := .v (.bool _)) rfl rfl rfl trivial (So.e ?_)))))))
     show HT _ _ _ _ _
     refine R.cond rfl rfl (fun h7 => ?_) (fun h7 => ?_)
     ·have h7 := of_decide_eq_true h7
      refine HT.skip (HT.seq (HT.block (HT.seq (HT.region S_kchange_ok (So.q rfl rfl (V.mv (v := .ptr 1 2) rfl (So.q rfl rfl (V.ncPtr rfl (So.q rfl rfl (V.mv (v := .p (.v (.int .i64 _))) rfl (So.q rfl rfl (V.mv (v := .p (.v (.int .i64 _))) rfl (So.q rfl rfl (V.addI rfl rfl (by omega) ?_))))))))))))))
      refine So.q rfl rfl (V.cutArrB (s := 1) (l' := 5 * y) (n' := 5) ty55 rfl rfl rfl rfl rfl rfl ⟨by omega, by omega, by omega, by decide⟩ (by first | rfl | omega | (show _ < 29; omega) | (show _ ≤ 29; omega) | (intro j hj; rfl) | (simp; done) | (simp; omega)) (by omega) (by omega) (So.q rfl rfl (V.sapOwn ty60 rfl rfl (by omega) (So.q rfl rfl (V.ldPtrA ty60 rfl rfl rfl rfl (by first | rfl | omega | (show _ < 29; omega) | (show _ ≤ 29; omega) | (intro j hj; rfl) | (simp; done) | (simp; omega)) (So.n (lk rfl) (A.alloc 2 1 ty60 rfl ⟨lk rfl, trivial⟩ (f := fun _ => .u64 0) (fun _ _ => rfl) (So.s (A.stoAg ty60 rfl (n := 5) rfl (by decide) (by intro j hj; exact spB_one _) rfl rfl rfl (So.e (HT.seq (HT.region S_kchange_ok (So.q rfl rfl (V.mv (v := .p (.v (.int .i64 (0)))) rfl (So.e ?_)))))))))))))))
      show HT _ _ _ _ _
      refine HT.block ?_
      refine R.loop (σ := Nat) (fun x => [(93, .p (.v (.int .i64 ((x : Int)))))]) (fun x => [(1, ⟨57, 1, 29, true, .rows (spB r e (fun j => if j < 5 * y + x then chF (rpN (thF (kfN w q)) 24).1 j else (rpN (thF (kfN w q)) 24).1 j) (p) g)⟩), (2, ⟨60, 1, 5, true, .rows (fun j => .u64 ((rpN (thF (kfN w q)) 24).1 (5 * y + j)))⟩)]) [0, 3, 11, 12, 14, 15] [] (fun x => x ≤ 5) (fun x => 5 - x) (0) (fr0 := [(0, .ptr 1 2), (3, .p (.u64 _)), (11, .p (.v (.int .i64 _))), (12, .ptr 2 0), (14, .agg 24 _), (15, .p (.v (.int .i64 ((_ : Nat) : Int))))]) (O0 := []) rfl rfl (by first | rfl | omega | (show _ < 29; omega) | (show _ ≤ 29; omega) | (intro j hj; rfl) | (simp; done) | (simp; omega)) ⟨⟨⟨le_int (by first | rfl | omega | (intro j hj; exact (spB_w (i := 5 * y + j) (by omega) (by have h5 : j < 5 := hj; omega)).trans (congrArg PV.u64 (if_neg (by omega)))) | (intro j hj; rfl)), trivial⟩, ⟨.refl _, rfl⟩, ⟨.refl _, trivial⟩, ⟨.refl _, trivial⟩, ⟨.refl _, rfl⟩, ⟨.refl _, trivial⟩, ⟨.refl _, trivial⟩, trivial⟩, ⟨⟨_, rfl, .inr (ob_rows (by first | rfl | ((try dsimp only); first | rfl | omega | (intro j hj; exact (spB_w (i := 5 * y + j) (by omega) (by have h5 : j < 5 := hj; omega)).trans (congrArg PV.u64 (if_neg (by omega)))) | (intro j hj; rfl))) (by first | rfl | ((try dsimp only); first | rfl | omega | (intro j hj; exact (spB_w (i := 5 * y + j) (by omega) (by have h5 : j < 5 := hj; omega)).trans (congrArg PV.u64 (if_neg (by omega)))) | (intro j hj; rfl)))), trivial⟩, ⟨_, rfl, .inr (ob_rows (by first | rfl | ((try dsimp only); first | rfl | omega | (intro j hj; exact (spB_w (i := 5 * y + j) (by omega) (by have h5 : j < 5 := hj; omega)).trans (congrArg PV.u64 (if_neg (by omega)))) | (intro j hj; rfl))) (by first | rfl | ((try dsimp only); first | rfl | omega | (intro j hj; exact (spB_w (i := 5 * y + j) (by omega) (by have h5 : j < 5 := hj; omega)).trans (congrArg PV.u64 (if_neg (by omega)))) | (intro j hj; rfl)))), trivial⟩, trivial⟩⟩ (fun x hP5 => ?_)
      refine HT.seq (HT.region S_kchange_ok (So.q rfl rfl (V.bin (a := (.v (.int .i64 ((_ : Nat) : Int)))) (b := (.v (.int .i64 (5)))) (r := .v (.bool _)) rfl rfl rfl trivial (So.e (HT.seq ?_)))))
      refine R.cond rfl rfl (fun h8 => ?_) (fun h8 => ?_)
      ·have h8 := of_decide_eq_true h8
       refine HT.skip (HT.seq (HT.block (HT.seq (HT.region S_kchange_ok (So.q rfl rfl (V.mv (v := .p (.v (.int .i64 ((_ : Nat) : Int)))) rfl (So.q rfl rfl (V.as (v := .p (.v (.int .i64 ((_ : Nat) : Int)))) rfl (So.e ?_)))))))))
       show HT _ _ _ _ _
       refine HT.tail S_kchange_ok mixed 22 (by kernel_rfl) (by kernel_rfl) ?_
       refine So.q rfl rfl (V.mv (v := .ptr 1 2) rfl (So.q rfl rfl (V.mv (v := .p (.v (.int .i64 _))) rfl (So.q rfl rfl (V.mv (v := .p (.v (.int .i64 ((_ : Nat) : Int)))) rfl (So.q rfl rfl (V.addI rfl rfl (by omega) (So.q rfl rfl (V.mv (v := .p (.v (.int .i64 ((_ : Nat) : Int)))) rfl (So.q rfl rfl (V.ixArrP10 (mi := x) ty60 ty53 rfl rfl rfl (by first | rfl | omega | (show _ < 29; omega) | (show _ ≤ 29; omega) | (intro j hj; rfl) | (simp; done) | (simp; omega)) rfl (by omega) (by omega) (So.q rfl rfl (V.ldPtr ty53 rfl rfl rfl (by first | rfl | omega | (show _ < 29; omega) | (show _ ≤ 29; omega) | (intro j hj; rfl) | (simp; done) | (simp; omega)) (v := .p (.u64 _)) rfl (So.q rfl rfl (V.mv (v := .p (.v (.int .i64 ((_ : Nat) : Int)))) rfl (So.q rfl rfl (V.addI rfl rfl (by omega) (So.q rfl rfl (V.remI rfl rfl (by omega) ?_)))))))))))))))))))
       refine So.q rfl rfl (V.ixArrP10 (mi := (x + 1) % 5) ty60 ty53 rfl rfl rfl (by first | rfl | omega | (show _ < 29; omega) | (show _ ≤ 29; omega) | (intro j hj; rfl) | (simp; done) | (simp; omega)) rfl (by omega) (by omega) (So.q rfl rfl (V.ldPtr ty53 rfl rfl rfl (by first | rfl | omega | (show _ < 29; omega) | (show _ ≤ 29; omega) | (intro j hj; rfl) | (simp; done) | (simp; omega)) (v := .p (.u64 _)) rfl (So.q rfl rfl (V.xor64 rfl (So.q rfl rfl (V.mv (v := .p (.v (.int .i64 ((_ : Nat) : Int)))) rfl (So.q rfl rfl (V.addI rfl rfl (by omega) (So.q rfl rfl (V.remI rfl rfl (by omega) (So.q rfl rfl (V.ixArrP10 (mi := (x + 2) % 5) ty60 ty53 rfl rfl rfl (by first | rfl | omega | (show _ < 29; omega) | (show _ ≤ 29; omega) | (intro j hj; rfl) | (simp; done) | (simp; omega)) rfl (by omega) (by omega) (So.q rfl rfl (V.ldPtr ty53 rfl rfl rfl (by first | rfl | omega | (show _ < 29; omega) | (show _ ≤ 29; omega) | (intro j hj; rfl) | (simp; done) | (simp; omega)) (v := .p (.u64 _)) rfl (So.q rfl rfl (V.bin (a := (.u64 _)) (b := (.u64 _)) (r := .u64 _) rfl rfl rfl trivial (So.q rfl rfl (V.bin (a := (.u64 _)) (b := (.u64 _)) (r := .u64 _) rfl rfl rfl trivial ?_)))))))))))))))))))
       refine So.q rfl rfl (V.ncPtr rfl (So.q rfl rfl (V.ixArrP1 (mi := 5 * y + x) ty55 ty53 rfl rfl rfl (by first | rfl | omega | (show _ < 29; omega) | (show _ ≤ 29; omega) | (intro j hj; rfl) | (simp; done) | (simp; omega)) rfl (by omega) (by omega) (So.s (A.sto ty53 rfl rfl rfl (v := .p (.u64 _)) rfl trivial rfl (by first | rfl | omega | (show _ < 29; omega) | (show _ ≤ 29; omega) | (intro j hj; rfl) | (simp; done) | (simp; omega)) (c' := .rows (spB r e (fun j => if j < 5 * y + (x + 1) then chF (rpN (thF (kfN w q)) 24).1 j else (rpN (thF (kfN w q)) 24).1 j) p g)) (congrArg (fun g => some (OC.rows g)) (funext fun j => by exact spB_st (i := 5 * y + x) (by omega) (by omega) (by rw [if_pos (by omega)]; exact (ch_at (by omega)).symm) (by intro j hj25 hj; by_cases h8 : j < 5 * y + x; (rw [if_pos h8, if_pos (by omega)]); (rw [if_neg h8, if_neg (by omega)])) j)) rfl (So.e (HT.region S_kchange_ok (So.q rfl rfl (V.addI rfl rfl (by omega) (So.q rfl rfl (V.mv (v := .p (.v (.int .i64 _))) rfl (So.e ?_))))))))))))
       refine ⟨x + 1, by first | rfl | omega | (show _ < 29; omega) | (show _ ≤ 29; omega) | (intro j hj; rfl) | (simp; done) | (simp; omega), by omega, ⟨⟨⟨le_int (by first | rfl | omega | (show _ < 29; omega) | (show _ ≤ 29; omega) | (intro j hj; rfl) | (simp; done) | (simp; omega)), trivial⟩, ⟨.refl _, rfl⟩, ⟨.refl _, trivial⟩, ⟨.refl _, trivial⟩, ⟨.refl _, rfl⟩, ⟨.refl _, trivial⟩, ⟨.refl _, trivial⟩, trivial⟩, ⟨⟨_, rfl, .inr (ob_rows (by first | rfl | ((try dsimp only); first | rfl | omega | (show _ < 29; omega) | (show _ ≤ 29; omega) | (intro j hj; rfl) | (simp; done) | (simp; omega))) (by first | rfl | ((try dsimp only); first | rfl | omega | (show _ < 29; omega) | (show _ ≤ 29; omega) | (intro j hj; rfl) | (simp; done) | (simp; omega)))), trivial⟩, ⟨_, rfl, .inr (ob_rows (by first | rfl | ((try dsimp only); first | rfl | omega | (show _ < 29; omega) | (show _ ≤ 29; omega) | (intro j hj; rfl) | (simp; done) | (simp; omega))) (by first | rfl | ((try dsimp only); first | rfl | omega | (show _ < 29; omega) | (show _ ≤ 29; omega) | (intro j hj; rfl) | (simp; done) | (simp; omega)))), trivial⟩, trivial⟩⟩⟩
      ·have h8 := of_decide_eq_false h8
       refine HT.exit ?_
       show HT _ _ _ _ _
       refine HT.region S_kchange_ok (So.q rfl rfl (V.mv (v := .p (.v (.int .i64 _))) rfl (So.q rfl rfl (V.addI rfl rfl (by omega) (So.q rfl rfl (V.as (v := .p (.v (.int .i64 _))) rfl (So.e ?_)))))))
       refine ⟨y + 1, by first | rfl | omega | (show _ < 29; omega) | (show _ ≤ 29; omega) | (intro j hj; rfl) | (simp; done) | (simp; omega), by omega, ⟨⟨⟨le_int (by first | rfl | omega | (show _ < 29; omega) | (show _ ≤ 29; omega) | (intro j hj; rfl) | (simp; done) | (simp; omega)), trivial⟩, ⟨.refl _, rfl⟩, ⟨.refl _, trivial⟩, ⟨.refl _, trivial⟩, ⟨.refl _, trivial⟩, trivial⟩, ⟨⟨_, rfl, .inr (ob_rows (by first | rfl | ((try dsimp only); (intro j hj; exact spB_cg (by intro j hj; rw [show x = 5 by omega]; rfl) j))) (by first | rfl | ((try dsimp only); (intro j hj; exact spB_cg (by intro j hj; rw [show x = 5 by omega]; rfl) j)))), trivial⟩, trivial⟩⟩⟩
     ·have h7 := of_decide_eq_false h7
      refine HT.exit ?_
      show HT _ _ _ _ _
      have hy : y = 5 := by omega
      subst hy
      refine R.tell [] [(1, ⟨57, 1, 29, true, .rows (spB r e (chF (rpN (thF (kfN w q)) 24).1) (p) g)⟩)] [0, 3, 14, 15] [] (fr0 := [(0, .ptr 1 2), (3, .p (.u64 _)), (14, .agg 24 _), (15, .p (.v (.int .i64 ((_ : Nat) : Int))))]) (O0 := []) rfl rfl ⟨⟨⟨.refl _, rfl⟩, ⟨.refl _, trivial⟩, ⟨.refl _, trivial⟩, ⟨.refl _, trivial⟩, trivial⟩, ⟨⟨_, rfl, .inr (ob_rows (by first | rfl | ((try dsimp only); (intro j hj; exact spB_cg (by intro j hj; rw [if_pos (by omega)]) j))) (by first | rfl | ((try dsimp only); (intro j hj; exact spB_cg (by intro j hj; rw [if_pos (by omega)]) j)))), trivial⟩, trivial⟩⟩ ?_
      show HT _ _ _ _ _
      refine HT.tail S_kchange_ok mixed 8 (by kernel_rfl) (by kernel_rfl) ?_
      refine So.q rfl rfl (V.mv (v := .ptr 1 2) rfl (So.q rfl rfl (V.ncPtr rfl (So.q rfl rfl (V.ixArrP1 ty55 ty53 rfl rfl rfl (by first | rfl | omega | (show _ < 29; omega) | (show _ ≤ 29; omega) | (intro j hj; rfl) | (simp; done) | (simp; omega)) rfl (by omega) rfl (So.q rfl rfl (V.ldPtr ty53 rfl rfl rfl (by first | rfl | omega | (show _ < 29; omega) | (show _ ≤ 29; omega) | (intro j hj; rfl) | (simp; done) | (simp; omega)) (v := .p (.u64 (chF (rpN (thF (kfN w q)) 24).1 0))) (by first | exact (congrArg BV.p (spB_w (i := 0) (by omega) (by omega))).trans (by rfl) | exact congrArg BV.p (spB_w (i := 0) (by omega) (by omega))) (So.q rfl rfl (V.mv (v := .p (.u64 _)) rfl (So.q rfl rfl (V.bin (a := (.u64 _)) (b := (.u64 _)) (r := .u64 _) rfl rfl rfl trivial (So.q rfl rfl (V.ncPtr rfl (So.q rfl rfl (V.ixArrP1 ty55 ty53 rfl rfl rfl (by first | rfl | omega | (show _ < 29; omega) | (show _ ≤ 29; omega) | (intro j hj; rfl) | (simp; done) | (simp; omega)) rfl (by omega) rfl (So.s (A.sto ty53 rfl rfl rfl (v := .p (.u64 _)) rfl trivial rfl (by first | rfl | omega | (show _ < 29; omega) | (show _ ≤ 29; omega) | (intro j hj; rfl) | (simp; done) | (simp; omega)) (c' := .rows (spB r e (kfN w (q + 1)) p g)) (congrArg (fun g => some (OC.rows g)) (funext fun j => by exact spB_st (i := 0) (by omega) (by omega) (by rfl) (by intro j hj25 hj; show rdF _ _ j = _; unfold rdF; exact if_neg hj) j)) rfl (So.e ?_))))))))))))))))))
      show HT _ _ _ _ _
      refine HT.region S_kchange_ok (So.q rfl rfl (V.addI rfl rfl (by omega) (So.q rfl rfl (V.mv (v := .p (.v (.int .i64 _))) rfl (So.e ?_)))))
      refine ⟨q + 1, by first | rfl | omega | (show _ < 29; omega) | (show _ ≤ 29; omega) | (intro j hj; rfl) | (simp; done) | (simp; omega), by omega, ⟨⟨⟨le_int (by first | rfl | omega | (show _ < 29; omega) | (show _ ≤ 29; omega) | (intro j hj; rfl) | (simp; done) | (simp; omega)), trivial⟩, ⟨.refl _, rfl⟩, ⟨.refl _, trivial⟩, trivial⟩, ⟨⟨_, rfl, .inr (ob_rows (by first | rfl | ((try dsimp only); first | rfl | omega | (show _ < 29; omega) | (show _ ≤ 29; omega) | (intro j hj; rfl) | (simp; done) | (simp; omega))) (by first | rfl | ((try dsimp only); first | rfl | omega | (show _ < 29; omega) | (show _ ≤ 29; omega) | (intro j hj; rfl) | (simp; done) | (simp; omega)))), trivial⟩, trivial⟩⟩⟩
 ·have h1 := of_decide_eq_false h1
  refine HT.exit ?_
  exact ret_ok (sg [(1, 1)]) h rfl rfl rfl ⟨trivial, trivial⟩ trivial rfl ⟨trivial, ⟨⟨_, rfl, .inr (ob_rows (by first | rfl | ((try dsimp only); (first | rfl | (replace hP0 : q = 24 := (by omega); subst hP0; first | rfl | (intro j hj; rfl))))) (by first | rfl | ((try dsimp only); (first | rfl | (replace hP0 : q = 24 := (by omega); subst hP0; first | rfl | (intro j hj; rfl)))))), trivial⟩, trivial⟩⟩
end Go.Vh

set_option linter.unusedVariables false
set_option linter.unusedSimpArgs false
namespace Go.Vh
open Go Go.Vc Go.Proofs Go.Vw Go.Vk
def kturnSp : Sp := ⟨[1], mkE (α := Nat × UInt8 × (Nat → UInt64) × Nat × Bool × Bool) (fun (r, e, w, p, g, b) => [.ptr 1 (0), .p (.v (.bool (b)))]) (fun (r, e, w, p, g, b) => [(1, ⟨57, 1, 29, true, .rows (spB r e (w) (p) g)⟩)]) (fun (r, e, w, p, g, b) => True) (fun (r, e, w, p, g, b) => []) (fun (r, e, w, p, g, b) => [(1, ⟨57, 1, 29, true, .rows (spB r e (if b then kf w else w) (if b then 0 else p) g)⟩)])⟩
def S_kturn : FuncId → Option Sp := fun f => if f = 39 then some kchangeSp else none
theorem S_kturn_ok : ∀ f s, S_kturn f = some s → FOK Tryd.prog gl f s := fun f s h => by
 unfold S_kturn at h
 split at h
 ·rename_i e; cases h; subst e; exact kchange_ok
 cases h
set_option maxHeartbeats 1000000 in
set_option maxRecDepth 20000 in
theorem kturn_ok : FOK Tryd.prog gl 36 kturnSp := by
 refine FOK.ofE (tyOf_ok Tryd.prog) (slots := []) (nt := 12) Tryd.func36 rfl rfl rfl rfl (by decide) 2 (fun ⟨_, _, _, _, _, _⟩ => rfl) (by decide) (fun ⟨_, _, _, _, _, _⟩ => ⟨rfl, trivial, trivial⟩) ?_
 rintro ⟨r, e, w, p, g, b⟩ kk hlen hpre h
 replace hpre : True := hpre
 show HT (cx Tryd.prog 12 (tyOf Tryd.prog) gl [1]) _ [(0, .ptr 1 (0)), (1, .p (.v (.bool (b))))] [(1, ⟨57, 1, 29, true, .rows (spB r e (w) (p) g)⟩)] _
 refine HT.seq (HT.region S_kturn_ok (So.q rfl rfl (V.mv (v := .p (.v (.bool _))) rfl (So.e ?_))))
 show HT _ _ _ _ _
 refine R.cond rfl rfl (fun h1 => ?_) (fun h1 => ?_)
 ·refine HT.seq ?_
  refine HT.region S_kturn_ok (So.q rfl rfl (V.mv (v := .ptr 1 0) rfl (So.q rfl rfl (V.ncPtr rfl (So.q rfl rfl (V.faPtr ty57 rfl ty55 (lk rfl) rfl rfl (lk rfl) ?_))))))
  refine So.n (lk rfl) (A.call [.ptr 1 _] [(1, ⟨_, _, _, _, .rows _⟩)] (sg [(1, 1)]) 2 rfl rfl rfl rfl ⟨rfl, trivial⟩ rfl ⟨trivial, trivial⟩ ⟨rfl, trivial⟩ ⟨lk rfl, trivial⟩ rfl (_, _, _, _, _) ⟨.refl _, trivial⟩ ⟨⟨_, rfl, .inl rfl, trivial⟩, trivial⟩ (by trivial) (Φ := fun _ => True) (fun _ _ => trivial) ⟨⟨_, _, rfl, rfl, rfl, Nat.le_refl _⟩, trivial⟩ (.inl rfl) rfl (v := .tup 0 _) rfl (O' := (1, ⟨_, _, _, _, .rows _⟩) :: _) rfl (fun h2 => ?_))
  refine So.e (HT.region S_kturn_ok (So.q rfl rfl (V.mv (v := .ptr 1 0) rfl (So.q rfl rfl (V.ncPtr rfl (So.q rfl rfl (V.faPtr ty57 rfl ty3 (lk rfl) rfl rfl (lk rfl) (So.s (A.sto ty3 rfl rfl rfl (v := .p (.v (.int .i64 _))) rfl rfl rfl (lk rfl) (c' := .rows (spB r e (kf w) 0 g)) (congrArg (fun g => some (OC.rows g)) (funext fun j => by exact spB_at rfl j)) rfl (So.e ?_))))))))))
  exact ret_ok (sg [(1, 1)]) h rfl rfl rfl ⟨trivial, trivial⟩ trivial rfl ⟨trivial, ⟨⟨_, rfl, .inr (ob_rows (by first | rfl | ((try dsimp only); (first | rfl | (intro j hj; simp only [if_true, if_false, Bool.false_eq_true, *]; done) | (intro j hj; simp_all; done)))) (by first | rfl | ((try dsimp only); (first | rfl | (intro j hj; simp only [if_true, if_false, Bool.false_eq_true, *]; done) | (intro j hj; simp_all; done))))), trivial⟩, trivial⟩⟩
 ·refine HT.skip ?_
  exact ret_ok (sg [(1, 1)]) h rfl rfl rfl ⟨trivial, trivial⟩ trivial rfl ⟨trivial, ⟨⟨_, rfl, .inr (ob_rows (by first | rfl | ((try dsimp only); (first | rfl | (intro j hj; simp only [if_true, if_false, Bool.false_eq_true, *]; done) | (intro j hj; simp_all; done)))) (by first | rfl | ((try dsimp only); (first | rfl | (intro j hj; simp only [if_true, if_false, Bool.false_eq_true, *]; done) | (intro j hj; simp_all; done))))), trivial⟩, trivial⟩⟩
end Go.Vh

set_option linter.unusedVariables false
set_option linter.unusedSimpArgs false
namespace Go.Vh
open Go Go.Vc Go.Proofs Go.Vw Go.Vk
def kwriteSp : Sp := ⟨[1], mkE (α := Nat × UInt8 × (List UInt8)) (fun (r, e, b) => [.ptr 1 (0), .p (.bs (b))]) (fun (r, e, b) => [(1, ⟨57, 1, 29, true, .rows (spB r e (fun _ => 0) (0) false)⟩)]) (fun (r, e, b) => 8 ≤ r ∧ r ≤ 192) (fun (r, e, b) => []) (fun (r, e, b) => [(1, ⟨57, 1, 29, true, .rows (spB r e ((wrN r b b.length).1) ((wrN r b b.length).2) false)⟩)])⟩
def S_kwrite : FuncId → Option Sp := fun f => if f = 35 then some klaySp else if f = 36 then some kturnSp else none
theorem S_kwrite_ok : ∀ f s, S_kwrite f = some s → FOK Tryd.prog gl f s := fun f s h => by
 unfold S_kwrite at h
 split at h
 ·rename_i e; cases h; subst e; exact klay_ok
 split at h
 ·rename_i e; cases h; subst e; exact kturn_ok
 cases h
set_option maxHeartbeats 1000000 in
set_option maxRecDepth 20000 in
theorem kwrite_ok : FOK Tryd.prog gl 30 kwriteSp := by
 refine FOK.ofE (tyOf_ok Tryd.prog) (slots := []) (nt := 42) Tryd.func30 rfl rfl rfl rfl (by decide) 2 (fun ⟨_, _, _⟩ => rfl) (by decide) (fun ⟨_, _, _⟩ => ⟨rfl, trivial, trivial⟩) ?_
 rintro ⟨r, e, b⟩ kk hlen hpre h
 have hl1 : (b).length ≤ 9223372036854775807 := hlen.2.1
 replace hpre : 8 ≤ r ∧ r ≤ 192 := hpre
 show HT (cx Tryd.prog 42 (tyOf Tryd.prog) gl [1]) _ [(0, .ptr 1 (0)), (1, .p (.bs (b)))] [(1, ⟨57, 1, 29, true, .rows (spB r e (fun _ => 0) (0) false)⟩)] _
 refine HT.seq (HT.seq (HT.region S_kwrite_ok (So.q rfl rfl (V.mv (v := .ptr 1 0) rfl (So.q rfl rfl (V.ncPtr rfl (So.q rfl rfl (V.faPtr ty57 rfl ty4 (lk rfl) rfl rfl (lk rfl) (So.q rfl rfl (V.ldPtr ty4 rfl rfl rfl (lk rfl) (v := .p (.v (.bool false))) (by rfl) (So.e ?_)))))))))))
 show HT _ _ _ _ _
 refine R.condF rfl ?_
 refine HT.skip (HT.seq (HT.region S_kwrite_ok (So.q rfl rfl (V.mv (v := .p (.bs _)) rfl (So.q rfl rfl (V.len ty22 (v := .p (.bs _)) rfl rfl (So.q rfl rfl (V.mv (v := .p (.v (.int .i64 (0)))) rfl (So.e (HT.block ?_))))))))))
 refine R.loop (σ := Nat) (fun s => [(12, .p (.v (.int .i64 ((s : Int)))))]) (fun s => [(1, ⟨57, 1, 29, true, .rows (spB r e ((wrN r b s).1) ((wrN r b s).2) false)⟩)]) [0, 10, 11] [] (fun s => s ≤ b.length) (fun s => b.length - s) (0) (fr0 := [(0, .ptr 1 0), (10, .p (.bs _)), (11, .p (.v (.int .i64 _)))]) (O0 := []) rfl rfl (by first | rfl | omega | (simp; done) | (simp; omega)) ⟨⟨⟨le_int (by first | rfl | omega | (intro j hj; rfl)), trivial⟩, ⟨.refl _, rfl⟩, ⟨.refl _, trivial⟩, ⟨.refl _, trivial⟩, trivial⟩, ⟨⟨_, rfl, .inr (ob_rows (by first | rfl | ((try dsimp only); first | rfl | omega | (intro j hj; rfl))) (by first | rfl | ((try dsimp only); first | rfl | omega | (intro j hj; rfl)))), trivial⟩, trivial⟩⟩ (fun s hP0 => ?_)
 refine HT.seq (HT.region S_kwrite_ok (So.q rfl rfl (V.bin (a := (.v (.int .i64 ((_ : Nat) : Int)))) (b := (.v (.int .i64 _))) (r := .v (.bool _)) rfl rfl rfl trivial (So.e (HT.seq ?_)))))
 refine R.cond rfl rfl (fun h1 => ?_) (fun h1 => ?_)
 ·have h1 := of_decide_eq_true h1
  refine HT.skip (HT.seq (HT.block (HT.seq (HT.region S_kwrite_ok ?_))))
  have hwr := wrN_le r b (by omega) s
  refine So.q rfl rfl (V.ixBs ty22 ty5 rfl rfl rfl (by omega) (Int.toNat_natCast _) (So.q rfl rfl (V.ldRp ty5 rfl rfl (lk rfl) (v := (.u8 _)) rfl (So.q rfl rfl (V.as (v := .p (.u8 _)) rfl (So.e (HT.seq (HT.region S_kwrite_ok (So.q rfl rfl (V.mv (v := .ptr 1 0) rfl (So.q rfl rfl (V.mv (v := .ptr 1 0) rfl (So.q rfl rfl (V.ncPtr rfl (So.q rfl rfl (V.faPtr ty57 rfl ty3 (lk rfl) rfl rfl (lk rfl) ?_))))))))))))))))
  refine So.q rfl rfl (V.ldPtr ty3 rfl rfl rfl (lk rfl) (v := .p (.v (.int .i64 _))) rfl (So.q rfl rfl (V.mv (v := .p (.u8 _)) rfl ?_)))
  refine So.n (lk rfl) (A.call [.ptr 1 _, .p (.v (.int .i64 _)), .p (.u8 _)] [(1, ⟨_, _, _, _, .rows _⟩)] (sg [(1, 1)]) 2 rfl rfl rfl rfl ⟨rfl, trivial⟩ rfl ⟨trivial, trivial⟩ ⟨rfl, trivial, trivial, trivial⟩ ⟨lk rfl, trivial⟩ rfl (r, e, (wrN r b s).1, (wrN r b s).2, false, (wrN r b s).2, b.getD s 0) ⟨.refl _, .refl _, .refl _, trivial⟩ ⟨⟨_, rfl, .inl rfl, trivial⟩, trivial⟩ (by first | omega | (simp only [List.drop_zero, List.take_length]; omega) | (simp; done) | (simp; omega)) (Φ := fun _ => True) (fun _ _ => trivial) ⟨⟨_, _, rfl, rfl, rfl, Nat.le_refl _⟩, trivial⟩ (.inl rfl) rfl (v := .tup 0 _) rfl (O' := (1, ⟨_, _, _, _, .rows _⟩) :: _) rfl (fun h2 => ?_))
  refine So.e (HT.seq (HT.region S_kwrite_ok (So.q rfl rfl (V.mv (v := .ptr 1 0) rfl (So.q rfl rfl (V.ncPtr rfl (So.q rfl rfl (V.faPtr ty57 rfl ty3 (lk rfl) rfl rfl (lk rfl) (So.q rfl rfl (V.ldPtr ty3 rfl rfl rfl (lk rfl) (v := .p (.v (.int .i64 _))) rfl (So.q rfl rfl (V.addI rfl rfl (by omega) (So.q rfl rfl (V.ncPtr rfl (So.q rfl rfl (V.faPtr ty57 rfl ty3 (lk rfl) rfl rfl (lk rfl) ?_))))))))))))))))
  refine So.s (A.sto ty3 rfl rfl rfl (v := .p (.v (.int .i64 _))) rfl rfl rfl (lk rfl) (c' := .rows (spB r e (layF (wrN r b s).1 (wrN r b s).2 (b.getD s 0)) ((wrN r b s).2 + 1) false)) (congrArg (fun g => some (OC.rows g)) (funext fun j => by exact spB_at (by omega) j)) rfl (So.e ?_))
  show HT _ _ _ _ _
  refine HT.tail S_kwrite_ok mixed 10 (by kernel_rfl) (by kernel_rfl) ?_
  refine So.q rfl rfl (V.mv (v := .ptr 1 0) rfl (So.q rfl rfl (V.mv (v := .ptr 1 0) rfl (So.q rfl rfl (V.ncPtr rfl (So.q rfl rfl (V.faPtr ty57 rfl ty3 (lk rfl) rfl rfl (lk rfl) (So.q rfl rfl (V.ldPtr ty3 rfl rfl rfl (lk rfl) (v := .p (.v (.int .i64 _))) rfl (So.q rfl rfl (V.mv (v := .ptr 1 0) rfl (So.q rfl rfl (V.ncPtr rfl (So.q rfl rfl (V.faPtr ty57 rfl ty3 (lk rfl) rfl rfl (lk rfl) (So.q rfl rfl (V.ldPtr ty3 rfl rfl rfl (lk rfl) (v := .p (.v (.int .i64 _))) rfl (So.q rfl rfl (V.bin (a := (.v (.int .i64 _))) (b := (.v (.int .i64 _))) (r := .v (.bool _)) rfl rfl rfl trivial ?_)))))))))))))))))))
  refine So.n (lk rfl) (A.call [.ptr 1 _, .p (.v (.bool _))] [(1, ⟨_, _, _, _, .rows _⟩)] (sg [(1, 1)]) 2 rfl rfl rfl rfl ⟨rfl, trivial⟩ rfl ⟨trivial, trivial⟩ ⟨rfl, trivial, trivial⟩ ⟨lk rfl, trivial⟩ rfl (r, e, layF (wrN r b s).1 (wrN r b s).2 (b.getD s 0), (wrN r b s).2 + 1, false, _) ⟨.refl _, .refl _, trivial⟩ ⟨⟨_, rfl, .inl rfl, trivial⟩, trivial⟩ (by trivial) (Φ := fun _ => True) (fun _ _ => trivial) ⟨⟨_, _, rfl, rfl, rfl, Nat.le_refl _⟩, trivial⟩ (.inl rfl) rfl (v := .tup 0 _) rfl (O' := (1, ⟨_, _, _, _, .rows _⟩) :: _) rfl (fun h3 => ?_))
  refine So.e (HT.region S_kwrite_ok (So.q rfl rfl (V.addI rfl rfl (by omega) (So.q rfl rfl (V.mv (v := .p (.v (.int .i64 _))) rfl (So.e ?_))))))
  refine ⟨s + 1, by first | rfl | omega | (simp; done) | (simp; omega), by omega, ⟨⟨⟨le_int (by first | rfl | omega | (simp; done) | (simp; omega)), trivial⟩, ⟨.refl _, rfl⟩, ⟨.refl _, trivial⟩, ⟨.refl _, trivial⟩, trivial⟩, ⟨⟨_, rfl, .inr (ob_rows (by first | rfl | ((try dsimp only); (intro j hj; show spB r e _ _ false j = spB r e (wrS r (wrN r b s) (b.getD s 0)).1 (wrS r (wrN r b s) (b.getD s 0)).2 false j; unfold wrS; by_cases h9 : (wrN r b s).2 + 1 = r <;> simp [h9] <;> (first | done | rfl | (have h8 : ¬ (((wrN r b s).2 : Int) + 1 = (r : Int)) := (by omega); simp [h8]; done) | (have h8 : (((wrN r b s).2 : Int) + 1 = (r : Int)) := (by omega); simp [h8]; done))))) (by first | rfl | ((try dsimp only); (intro j hj; show spB r e _ _ false j = spB r e (wrS r (wrN r b s) (b.getD s 0)).1 (wrS r (wrN r b s) (b.getD s 0)).2 false j; unfold wrS; by_cases h9 : (wrN r b s).2 + 1 = r <;> simp [h9] <;> (first | done | rfl | (have h8 : ¬ (((wrN r b s).2 : Int) + 1 = (r : Int)) := (by omega); simp [h8]; done) | (have h8 : (((wrN r b s).2 : Int) + 1 = (r : Int)) := (by omega); simp [h8]; done)))))), trivial⟩, trivial⟩⟩⟩
 ·have h1 := of_decide_eq_false h1
  refine HT.exit ?_
  exact ret_ok (sg [(1, 1)]) h rfl rfl rfl ⟨trivial, trivial⟩ trivial rfl ⟨trivial, ⟨⟨_, rfl, .inr (ob_rows (by first | rfl | ((try dsimp only); (first | rfl | (replace hP0 : s = b.length := (by omega); subst hP0; first | rfl | (intro j hj; rfl))))) (by first | rfl | ((try dsimp only); (first | rfl | (replace hP0 : s = b.length := (by omega); subst hP0; first | rfl | (intro j hj; rfl)))))), trivial⟩, trivial⟩⟩
end Go.Vh

set_option linter.unusedVariables false
set_option linter.unusedSimpArgs false
namespace Go.Vh
open Go Go.Vc Go.Proofs Go.Vw Go.Vk
def knewSp : Sp := ⟨[], mkE (α := Nat × UInt8) (fun (r, e) => [.p (.v (.int .i64 ((r : Int)))), .p (.u8 (e))]) (fun (r, e) => []) (fun (r, e) => 8 ≤ r ∧ r ≤ 192 ∧ r % 8 = 0) (fun (r, e) => [.ptr 1 (0)]) (fun (r, e) => [(1, ⟨57, 1, 29, true, .rows (spB r e (fun _ => 0) (0) false)⟩)])⟩
def S_knew : FuncId → Option Sp := fun _ => none
theorem S_knew_ok : ∀ f s, S_knew f = some s → FOK Tryd.prog gl f s := fun f s h => by cases h
set_option maxHeartbeats 1000000 in
set_option maxRecDepth 20000 in
theorem knew_ok : FOK Tryd.prog gl 29 knewSp := by
 refine FOK.ofE (tyOf_ok Tryd.prog) (slots := [4]) (nt := 20) Tryd.func29 rfl rfl rfl rfl (by decide) 2 (fun ⟨_, _⟩ => rfl) (by decide) (fun ⟨_, _⟩ => ⟨trivial, trivial, trivial⟩) ?_
 rintro ⟨r, e⟩ kk hlen hpre h
 replace hpre : 8 ≤ r ∧ r ≤ 192 ∧ r % 8 = 0 := hpre
 show HT (cx Tryd.prog 20 (tyOf Tryd.prog) gl []) _ [(0, .p (.v (.int .i64 ((r : Int))))), (1, .p (.u8 (e)))] [] _
 have h7 := and7 (r := r) (by omega) (by omega)
 refine HT.seq (HT.region S_knew_ok (So.q rfl rfl (V.as (v := _) rfl (So.e (HT.seq (HT.seq (HT.region S_knew_ok (So.q rfl rfl (V.mv (v := .p (.v (.int .i64 ((_ : Nat) : Int)))) rfl (So.q rfl rfl (V.bin (a := (.v (.int .i64 ((_ : Nat) : Int)))) (b := (.v (.int .i64 (8)))) (r := .v (.bool _)) rfl rfl rfl trivial (So.q rfl rfl (V.mv (v := .p (.v (.bool _))) rfl ?_)))))))))))))
 refine So.gd rfl rfl (lk rfl) (lk rfl) (fun h1 => ?_) (fun h1 => ?_)
 ·have h1 := of_decide_eq_false h1
  refine A.v rfl (V.mv (v := .p (.v (.int .i64 ((_ : Nat) : Int)))) rfl (So.gy rfl rfl (lk rfl) (lk rfl) (A.v rfl (V.bin (a := (.v (.int .i64 ((_ : Nat) : Int)))) (b := (.v (.int .i64 (192)))) (r := .v (.bool _)) rfl rfl rfl trivial (So.q rfl rfl (V.pkFalse (u := .p (.v (.bool _))) rfl rfl (So.q rfl rfl (V.mv (v := .p (.v (.bool _))) rfl ?_))))))))
  refine So.gd rfl rfl (lk rfl) (lk rfl) (fun h2 => ?_) (fun h2 => ?_)
  ·have h2 := of_decide_eq_false h2
   refine A.v rfl (V.mv (v := .p (.v (.int .i64 ((_ : Nat) : Int)))) rfl (So.gy rfl rfl (lk rfl) (lk rfl) (A.v rfl (V.bin (a := (.v (.int .i64 ((_ : Nat) : Int)))) (b := (.v (.int .i64 (7)))) (r := .v (.int .i64 _)) rfl rfl rfl trivial (So.gy rfl rfl (lk rfl) (lk rfl) (A.v rfl (V.bin (a := (.v (.int .i64 _))) (b := (.v (.int .i64 (0)))) (r := .v (.bool _)) rfl rfl rfl trivial (So.q rfl rfl (V.pkFalse (u := .p (.v (.bool _))) rfl rfl (So.e ?_))))))))))
   show HT _ _ _ _ _
   refine R.cond rfl rfl (fun h3 => ?_) (fun h3 => ?_)
   ·have h3 := of_decide_eq_false (bnT h3)
    refine HT.seq ?_
    exfalso; first | omega | (simp_all; done)
   ·have h3 := of_decide_eq_true (bnF h3)
    refine HT.skip (HT.seq (HT.region S_knew_ok (So.q rfl rfl (V.mv (v := .p (.v (.int .i64 ((_ : Nat) : Int)))) rfl (So.q rfl rfl (V.mv (v := .p (.u8 _)) rfl (So.n (lk rfl) (A.bldS ty57 rfl rfl ⟨by first | exact trivial | exact rfl | (intro j hj; first | trivial | rfl | (simp [BV.one]; done)), by first | exact trivial | exact rfl | (intro j hj; first | trivial | rfl | (simp [BV.one]; done)), trivial⟩ rfl (f := spB r e (fun _ => 0) 0 false) (by exact allP_spec (P := fun j => _ = _) ⟨⟨⟨⟨⟨⟨⟨⟨⟨⟨⟨⟨⟨⟨⟨⟨⟨⟨⟨⟨⟨⟨⟨⟨⟨⟨⟨⟨⟨trivial, rfl⟩, rfl⟩, rfl⟩, rfl⟩, rfl⟩, rfl⟩, rfl⟩, rfl⟩, rfl⟩, rfl⟩, rfl⟩, rfl⟩, rfl⟩, rfl⟩, rfl⟩, rfl⟩, rfl⟩, rfl⟩, rfl⟩, rfl⟩, rfl⟩, rfl⟩, rfl⟩, rfl⟩, rfl⟩, rfl⟩, rfl⟩, rfl⟩, rfl⟩) (So.n (lk rfl) (A.boxAg 1 1 (n := 29) rfl (by intro j hj; exact spB_one _) rfl trivial (So.q rfl rfl (V.as (v := .ptr 1 0) rfl (So.e ?_)))))))))))))
    show HT _ _ _ _ _
    refine HT.ret ?_
    exact ret_ok (sg [(1, 1)]) h rfl rfl rfl ⟨trivial, trivial⟩ ⟨rfl, trivial⟩ rfl ⟨⟨⟨.refl _, rfl⟩, trivial⟩, ⟨⟨_, rfl, .inr (ob_rows (by first | rfl | ((try dsimp only); (first | rfl | (intro j hj; rfl)))) (by first | rfl | ((try dsimp only); (first | rfl | (intro j hj; rfl))))), trivial⟩, trivial⟩⟩
  ·have h2 := of_decide_eq_true h2
   refine So.gn (b := true) rfl rfl rfl (lk rfl) (lk rfl) (So.gn (b := true) rfl rfl rfl (lk rfl) (lk rfl) (So.q rfl rfl (V.pkTrue (u := .p (.v (.bool true))) rfl rfl (So.e ?_))))
   show HT _ _ _ _ _
   refine R.condT rfl ?_
   refine HT.seq ?_
   exfalso; first | omega | (simp_all; done)
 ·have h1 := of_decide_eq_true h1
  refine So.gn (b := true) rfl rfl rfl (lk rfl) (lk rfl) (So.q rfl rfl (V.pkTrue (u := .p (.v (.bool true))) rfl rfl (So.q rfl rfl (V.mv (v := .p (.v (.bool true))) rfl (So.gn (b := true) rfl rfl rfl (lk rfl) (lk rfl) (So.gn (b := true) rfl rfl rfl (lk rfl) (lk rfl) (So.gn (b := true) rfl rfl rfl (lk rfl) (lk rfl) (So.q rfl rfl (V.pkTrue (u := .p (.v (.bool true))) rfl rfl (So.e ?_))))))))))
  show HT _ _ _ _ _
  refine R.condT rfl ?_
  refine HT.seq ?_
  exfalso; first | omega | (simp_all; done)
end Go.Vh

set_option linter.unusedVariables false
set_option linter.unusedSimpArgs false
namespace Go.Vh
open Go Go.Vc Go.Proofs Go.Vw Go.Vk
def kreadSp : Sp := ⟨[1], mkE (α := Nat × UInt8 × (Nat → UInt64) × Nat × Nat) (fun (r, e, w, p, m) => [.ptr 1 (0), .p (.v (.int .i64 ((m : Int))))]) (fun (r, e, w, p, m) => [(1, ⟨57, 1, 29, true, .rows (spB r e (w) (p) false)⟩)]) (fun (r, e, w, p, m) => 8 ≤ r ∧ r ≤ 192 ∧ p < r ∧ m ≤ 65536) (fun (r, e, w, p, m) => [.own 2 (0) (m)]) (fun (r, e, w, p, m) => [(1, ⟨57, 1, 29, true, .rows (spB r e ((gvN r (padK r e (w, p)) m).1) ((gvN r (padK r e (w, p)) m).2) true)⟩), (2, ⟨5, 1, m, true, .bs (gvL r (padK r e (w, p)) m)⟩)])⟩
def S_kread : FuncId → Option Sp := fun f => if f = 35 then some klaySp else if f = 36 then some kturnSp else none
theorem S_kread_ok : ∀ f s, S_kread f = some s → FOK Tryd.prog gl f s := fun f s h => by
 unfold S_kread at h
 split at h
 ·rename_i e; cases h; subst e; exact klay_ok
 split at h
 ·rename_i e; cases h; subst e; exact kturn_ok
 cases h
set_option maxHeartbeats 1000000 in
set_option maxRecDepth 20000 in
theorem kread_ok : FOK Tryd.prog gl 31 kreadSp := by
 refine FOK.ofE (tyOf_ok Tryd.prog) (slots := [4]) (nt := 88) Tryd.func31 rfl rfl rfl rfl (by decide) 2 (fun ⟨_, _, _, _, _⟩ => rfl) (by decide) (fun ⟨_, _, _, _, _⟩ => ⟨rfl, trivial, trivial⟩) ?_
 rintro ⟨r, e, w, p, m⟩ kk hlen hpre h
 replace hpre : 8 ≤ r ∧ r ≤ 192 ∧ p < r ∧ m ≤ 65536 := hpre
 show HT (cx Tryd.prog 88 (tyOf Tryd.prog) gl [1]) _ [(0, .ptr 1 (0)), (1, .p (.v (.int .i64 ((m : Int)))))] [(1, ⟨57, 1, 29, true, .rows (spB r e (w) (p) false)⟩)] _
 refine HT.seq (HT.region S_kread_ok (So.q rfl rfl (V.as (v := .p (.v (.slice none 0 0))) rfl (So.e (HT.seq (HT.seq (HT.region S_kread_ok (So.q rfl rfl (V.mv (v := .p (.v (.int .i64 ((_ : Nat) : Int)))) rfl (So.q rfl rfl (V.bin (a := (.v (.int .i64 ((_ : Nat) : Int)))) (b := (.v (.int .i64 (0)))) (r := .v (.bool _)) rfl rfl rfl trivial (So.q rfl rfl (V.mv (v := .p (.v (.bool _))) rfl ?_)))))))))))))
 refine So.gd rfl rfl (lk rfl) (lk rfl) (fun h1 => ?_) (fun h1 => ?_)
 ·have h1 := of_decide_eq_false h1
  refine A.v rfl (V.mv (v := .p (.v (.int .i64 ((_ : Nat) : Int)))) rfl (So.gy rfl rfl (lk rfl) (lk rfl) (A.v rfl (V.bin (a := (.v (.int .i64 ((_ : Nat) : Int)))) (b := (.v (.int .i64 (65536)))) (r := .v (.bool _)) rfl rfl rfl trivial (So.q rfl rfl (V.pkFalse (u := .p (.v (.bool _))) rfl rfl (So.e ?_)))))))
  show HT _ _ _ _ _
  refine R.cond rfl rfl (fun h2 => ?_) (fun h2 => ?_)
  ·have h2 := of_decide_eq_true h2
   refine HT.seq ?_
   exfalso; omega
  ·have h2 := of_decide_eq_false h2
   refine HT.skip (HT.seq (HT.seq (HT.region S_kread_ok (So.q rfl rfl (V.mv (v := .ptr 1 0) rfl (So.q rfl rfl (V.ncPtr rfl (So.q rfl rfl (V.faPtr ty57 rfl ty4 (lk rfl) rfl rfl (lk rfl) (So.q rfl rfl (V.ldPtr ty4 rfl rfl rfl (lk rfl) (v := .p (.v (.bool false))) (by rfl) (So.q rfl rfl (V.not (b := false) rfl (So.e ?_))))))))))))))
   show HT _ _ _ _ _
   refine R.condT rfl ?_
   refine HT.seq ?_
   refine HT.tail S_kread_ok mixed 9 (by kernel_rfl) (by kernel_rfl) ?_
   refine So.q rfl rfl (V.mv (v := .ptr 1 0) rfl (So.q rfl rfl (V.mv (v := .ptr 1 0) rfl (So.q rfl rfl (V.ncPtr rfl (So.q rfl rfl (V.faPtr ty57 rfl ty3 (lk rfl) rfl rfl (lk rfl) (So.q rfl rfl (V.ldPtr ty3 rfl rfl rfl (lk rfl) (v := .p (.v (.int .i64 _))) rfl (So.q rfl rfl (V.mv (v := .ptr 1 0) rfl (So.q rfl rfl (V.ncPtr rfl (So.q rfl rfl (V.faPtr ty57 rfl ty5 (lk rfl) rfl rfl (lk rfl) (So.q rfl rfl (V.ldPtr ty5 rfl rfl rfl (lk rfl) (v := .p (.u8 _)) rfl ?_)))))))))))))))))
   refine So.n (lk rfl) (A.call [.ptr 1 _, .p (.v (.int .i64 _)), .p (.u8 _)] [(1, ⟨_, _, _, _, .rows _⟩)] (sg [(1, 1)]) 2 rfl rfl rfl rfl ⟨rfl, trivial⟩ rfl ⟨trivial, trivial⟩ ⟨rfl, trivial, trivial, trivial⟩ ⟨lk rfl, trivial⟩ rfl (r, e, w, p, false, p, e) ⟨.refl _, .refl _, .refl _, trivial⟩ ⟨⟨_, rfl, .inl rfl, trivial⟩, trivial⟩ (by first | omega | (simp only [List.drop_zero, List.take_length]; omega) | (simp; done) | (simp; omega)) (Φ := fun _ => True) (fun _ _ => trivial) ⟨⟨_, _, rfl, rfl, rfl, Nat.le_refl _⟩, trivial⟩ (.inl rfl) rfl (v := .tup 0 _) rfl (O' := (1, ⟨_, _, _, _, .rows _⟩) :: _) rfl (fun h3 => ?_))
   refine So.e (HT.seq (HT.region S_kread_ok (So.q rfl rfl (V.mv (v := .ptr 1 0) rfl (So.q rfl rfl (V.mv (v := .ptr 1 0) rfl (So.q rfl rfl (V.ncPtr rfl (So.q rfl rfl (V.faPtr ty57 rfl ty3 (lk rfl) rfl rfl (lk rfl) (So.q rfl rfl (V.ldPtr ty3 rfl rfl rfl (lk rfl) (v := .p (.v (.int .i64 _))) rfl (So.q rfl rfl (V.subI rfl rfl (by omega) ?_))))))))))))))
   refine So.n (lk rfl) (A.call [.ptr 1 _, .p (.v (.int .i64 _)), .p (.u8 _)] [(1, ⟨_, _, _, _, .rows _⟩)] (sg [(1, 1)]) 2 rfl rfl rfl rfl ⟨rfl, trivial⟩ rfl ⟨trivial, trivial⟩ ⟨rfl, trivial, trivial, trivial⟩ ⟨lk rfl, trivial⟩ rfl (r, e, layF w p e, p, false, r - 1, 128) ⟨.refl _, le_int (by omega), .refl _, trivial⟩ ⟨⟨_, rfl, .inl rfl, trivial⟩, trivial⟩ (by first | omega | (simp only [List.drop_zero, List.take_length]; omega) | (simp; done) | (simp; omega)) (Φ := fun _ => True) (fun _ _ => trivial) ⟨⟨_, _, rfl, rfl, rfl, Nat.le_refl _⟩, trivial⟩ (.inl rfl) rfl (v := .tup 0 _) rfl (O' := (1, ⟨_, _, _, _, .rows _⟩) :: _) rfl (fun h4 => ?_))
   refine So.e (HT.seq (HT.region S_kread_ok (So.q rfl rfl (V.mv (v := .ptr 1 0) rfl ?_))))
   refine So.n (lk rfl) (A.call [.ptr 1 _, .p (.v (.bool true))] [(1, ⟨_, _, _, _, .rows _⟩)] (sg [(1, 1)]) 2 rfl rfl rfl rfl ⟨rfl, trivial⟩ rfl ⟨trivial, trivial⟩ ⟨rfl, trivial, trivial⟩ ⟨lk rfl, trivial⟩ rfl (r, e, layF (layF w p e) (r - 1) 128, p, false, true) ⟨.refl _, .refl _, trivial⟩ ⟨⟨_, rfl, .inl rfl, trivial⟩, trivial⟩ (by trivial) (Φ := fun _ => True) (fun _ _ => trivial) ⟨⟨_, _, rfl, rfl, rfl, Nat.le_refl _⟩, trivial⟩ (.inl rfl) rfl (v := .tup 0 _) rfl (O' := (1, ⟨_, _, _, _, .rows _⟩) :: _) rfl (fun h5 => ?_))
   refine So.e (HT.region S_kread_ok (So.q rfl rfl (V.mv (v := .ptr 1 0) rfl (So.q rfl rfl (V.ncPtr rfl (So.q rfl rfl (V.faPtr ty57 rfl ty4 (lk rfl) rfl rfl (lk rfl) (So.s (A.sto ty4 rfl rfl rfl (v := .p (.v (.bool true))) rfl rfl rfl (lk rfl) (c' := .rows (spB r e (padK r e (w, p)) 0 true)) (congrArg (fun g => some (OC.rows g)) (funext fun j => by exact spB_gv j)) rfl (So.e (HT.seq (HT.region S_kread_ok (So.q rfl rfl (V.mv (v := .p (.v (.int .i64 ((_ : Nat) : Int)))) rfl ?_))))))))))))))
   refine So.n (lk rfl) (A.mkB 2 ty22 ty5 rfl rfl rfl (by omega) (n := m) (by omega) rfl ⟨lk rfl, trivial⟩ (So.q rfl rfl (V.as (v := .own 2 0 _) rfl (So.e (HT.seq (HT.seq (HT.region S_kread_ok (So.q rfl rfl (V.mv (v := .own 2 0 _) rfl (So.q rfl rfl (V.len ty22 (v := .own 2 0 _) rfl rfl (So.q rfl rfl (V.mv (v := .p (.v (.int .i64 (0)))) rfl (So.e ?_))))))))))))))
   show HT _ _ _ _ _
   refine HT.block ?_
   refine R.loop (σ := Nat) (fun s => [(44, .p (.v (.int .i64 ((s : Int)))))]) (fun s => [(1, ⟨57, 1, 29, true, .rows (spB r e ((gvN r (padK r e (w, p)) s).1) ((gvN r (padK r e (w, p)) s).2) true)⟩), (2, ⟨5, 1, m, true, .bs (gvL r (padK r e (w, p)) s ++ List.replicate (m - s) 0)⟩)]) [0, 4, 5, 43] [] (fun s => s ≤ m) (fun s => m - s) (0) (fr0 := [(0, .ptr 1 0), (4, .p (.v (.slice none 0 0))), (5, .own 2 0 _), (43, .p (.v (.int .i64 _)))]) (O0 := []) rfl rfl (by first | rfl | omega | (show _ < 29; omega) | (show _ ≤ 29; omega) | (intro j hj; rfl) | (simp; done) | (simp; omega)) ⟨⟨⟨le_int (by first | rfl | omega | (intro j hj; rfl) | (simp; done)), trivial⟩, ⟨.refl _, rfl⟩, ⟨.refl _, trivial⟩, ⟨.refl _, rfl⟩, ⟨.refl _, trivial⟩, trivial⟩, ⟨⟨_, rfl, .inr (ob_rows (by first | rfl | ((try dsimp only); first | rfl | omega | (intro j hj; rfl) | (simp; done))) (by first | rfl | ((try dsimp only); first | rfl | omega | (intro j hj; rfl) | (simp; done)))), trivial⟩, ⟨_, rfl, .inl (ob_bs (by first | rfl | ((try dsimp only); first | rfl | omega | (intro j hj; rfl) | (simp; done))) (by first | rfl | ((try dsimp only); first | rfl | omega | (intro j hj; rfl) | (simp; done)))), trivial⟩, trivial⟩⟩ (fun s hP0 => ?_)
   refine HT.seq (HT.region S_kread_ok (So.q rfl rfl (V.bin (a := (.v (.int .i64 ((_ : Nat) : Int)))) (b := (.v (.int .i64 _))) (r := .v (.bool _)) rfl rfl rfl trivial (So.e (HT.seq ?_)))))
   refine R.cond rfl rfl (fun h6 => ?_) (fun h6 => ?_)
   ·have h6 := of_decide_eq_true h6
    refine HT.skip (HT.seq (HT.block (HT.seq (HT.region S_kread_ok (So.q rfl rfl (V.mv (v := .p (.v (.int .i64 ((_ : Nat) : Int)))) rfl (So.q rfl rfl (V.as (v := .p (.v (.int .i64 ((_ : Nat) : Int)))) rfl (So.e (HT.seq ?_))))))))))
    refine HT.tail S_kread_ok mixed 10 (by kernel_rfl) (by kernel_rfl) ?_
    refine So.q rfl rfl (V.mv (v := .ptr 1 0) rfl (So.q rfl rfl (V.mv (v := .ptr 1 0) rfl (So.q rfl rfl (V.ncPtr rfl (So.q rfl rfl (V.faPtr ty57 rfl ty3 (lk rfl) rfl rfl (lk rfl) (So.q rfl rfl (V.ldPtr ty3 rfl rfl rfl (lk rfl) (v := .p (.v (.int .i64 _))) rfl (So.q rfl rfl (V.mv (v := .ptr 1 0) rfl (So.q rfl rfl (V.ncPtr rfl (So.q rfl rfl (V.faPtr ty57 rfl ty3 (lk rfl) rfl rfl (lk rfl) (So.q rfl rfl (V.ldPtr ty3 rfl rfl rfl (lk rfl) (v := .p (.v (.int .i64 _))) rfl (So.q rfl rfl (V.bin (a := (.v (.int .i64 _))) (b := (.v (.int .i64 _))) (r := .v (.bool _)) rfl rfl rfl trivial ?_)))))))))))))))))))
    refine So.n (lk rfl) (A.call [.ptr 1 _, .p (.v (.bool _))] [(1, ⟨_, _, _, _, .rows _⟩)] (sg [(1, 1)]) 3 rfl rfl rfl rfl ⟨rfl, trivial⟩ rfl ⟨trivial, trivial⟩ ⟨rfl, trivial, trivial⟩ ⟨lk rfl, trivial⟩ rfl (r, e, (gvN r (padK r e (w, p)) s).1, (gvN r (padK r e (w, p)) s).2, true, _) ⟨.refl _, .refl _, trivial⟩ ⟨⟨_, rfl, .inl rfl, trivial⟩, trivial⟩ (by trivial) (Φ := fun _ => True) (fun _ _ => trivial) ⟨⟨_, _, rfl, rfl, rfl, Nat.le_refl _⟩, trivial⟩ (.inl rfl) rfl (v := .tup 0 _) rfl (O' := (1, ⟨_, _, _, _, .rows _⟩) :: _) rfl (fun h7 => ?_))
    refine So.e (HT.seq ?_)
    refine R.tell [] [(1, ⟨57, 1, 29, true, .rows (spB r e ((gvT r (gvN r (padK r e (w, p)) s)).1) ((gvT r (gvN r (padK r e (w, p)) s)).2) true)⟩)] [0, 4, 5, 6, 43, 44] [2] (fr0 := [(0, .ptr 1 0), (4, .p (.v (.slice none 0 0))), (5, .own 2 0 _), (6, .p (.v (.int .i64 ((_ : Nat) : Int)))), (43, .p (.v (.int .i64 _))), (44, .p (.v (.int .i64 ((_ : Nat) : Int))))]) (O0 := [(2, ⟨_, _, _, _, .bs _⟩)]) rfl rfl ⟨⟨⟨.refl _, rfl⟩, ⟨.refl _, trivial⟩, ⟨.refl _, rfl⟩, ⟨.refl _, trivial⟩, ⟨.refl _, trivial⟩, ⟨.refl _, trivial⟩, trivial⟩, ⟨⟨_, rfl, .inr (ob_rows (by first | rfl | ((try dsimp only); (intro j hj; have hh := gvT_eq r (gvN r (padK r e (w, p)) s); rw [← hh.1, ← hh.2]; simp only [decide_eq_true_eq]; done))) (by first | rfl | ((try dsimp only); (intro j hj; have hh := gvT_eq r (gvN r (padK r e (w, p)) s); rw [← hh.1, ← hh.2]; simp only [decide_eq_true_eq]; done)))), trivial⟩, ⟨_, rfl, .inl rfl, trivial⟩, trivial⟩⟩ ?_
    show HT _ _ _ _ _
    refine HT.tail S_kread_ok mixed 21 (by kernel_rfl) (by kernel_rfl) ?_
    have hgn := gvN_le r (padK r e (w, p)) (by omega) s
    have hgt := gvT_lt r (gvN r (padK r e (w, p)) s) (by omega) hgn
    refine So.q rfl rfl (V.mv (v := .own 2 0 _) rfl (So.q rfl rfl (V.mv (v := .p (.v (.int .i64 ((_ : Nat) : Int)))) rfl (So.q rfl rfl (V.mv (v := .ptr 1 0) rfl (So.q rfl rfl (V.mv (v := .ptr 1 0) rfl (So.q rfl rfl (V.ncPtr rfl (So.q rfl rfl (V.faPtr ty57 rfl ty3 (lk rfl) rfl rfl (lk rfl) (So.q rfl rfl (V.ldPtr ty3 rfl rfl rfl (lk rfl) (v := .p (.v (.int .i64 _))) rfl (So.q rfl rfl (V.quoI rfl rfl (by omega) (So.q rfl rfl (V.ncPtr rfl (So.q rfl rfl (V.faPtr ty57 rfl ty55 (lk rfl) rfl rfl (lk rfl) ?_)))))))))))))))))))
    refine So.q rfl rfl (V.ixArrP1 (mi := (gvT r (gvN r (padK r e (w, p)) s)).2 / 8) ty55 ty53 rfl rfl rfl (by first | rfl | omega | (show _ < 29; omega) | (show _ ≤ 29; omega) | (intro j hj; rfl) | (simp; done) | (simp; omega)) rfl (by omega) (by omega) (So.q rfl rfl (V.ldPtr ty53 rfl rfl rfl (by first | rfl | omega | (show _ < 29; omega) | (show _ ≤ 29; omega) | (intro j hj; rfl) | (simp; done) | (simp; omega)) (v := .p (.u64 ((gvT r (gvN r (padK r e (w, p)) s)).1 ((gvT r (gvN r (padK r e (w, p)) s)).2 / 8)))) (by first | exact (congrArg BV.p (spB_w (i := (gvT r (gvN r (padK r e (w, p)) s)).2 / 8) (by omega) (by omega))).trans (by rfl) | exact congrArg BV.p (spB_w (i := (gvT r (gvN r (padK r e (w, p)) s)).2 / 8) (by omega) (by omega))) (So.q rfl rfl (V.mv (v := .ptr 1 0) rfl (So.q rfl rfl (V.ncPtr rfl (So.q rfl rfl (V.faPtr ty57 rfl ty3 (lk rfl) rfl rfl (lk rfl) (So.q rfl rfl (V.ldPtr ty3 rfl rfl rfl (lk rfl) (v := .p (.v (.int .i64 _))) rfl (So.q rfl rfl (V.remI rfl rfl (by omega) (So.q rfl rfl (V.mulI rfl rfl (by omega) (So.q rfl rfl (V.bin (a := (.u64 _)) (b := (.v (.int .i64 _))) (r := .u64 _) rfl rfl rfl (by first | rfl | omega | (show _ < 29; omega) | (show _ ≤ 29; omega) | (intro j hj; rfl) | (simp; done) | (simp; omega)) (So.q rfl rfl (V.cvN ty5 ty53 (a := (.u64 _)) (r := (.u8 _)) rfl rfl ?_)))))))))))))))))))
    refine So.q rfl rfl (V.ixOwn10 (mi := s) ty22 ty5 rfl rfl rfl rfl rfl (by omega) (by omega) (So.s (A.sto ty5 rfl rfl rfl (v := .p (.u8 _)) rfl trivial rfl (by first | rfl | omega | (show _ < 29; omega) | (show _ ≤ 29; omega) | (intro j hj; rfl) | (simp; done) | (simp; omega)) rfl rfl (So.e (HT.region S_kread_ok (So.q rfl rfl (V.mv (v := .ptr 1 0) rfl (So.q rfl rfl (V.ncPtr rfl (So.q rfl rfl (V.faPtr ty57 rfl ty3 (lk rfl) rfl rfl (lk rfl) (So.q rfl rfl (V.ldPtr ty3 rfl rfl rfl (lk rfl) (v := .p (.v (.int .i64 _))) rfl (So.q rfl rfl (V.addI rfl rfl (by omega) (So.q rfl rfl (V.ncPtr rfl ?_)))))))))))))))))
    refine So.q rfl rfl (V.faPtr ty57 rfl ty3 (lk rfl) rfl rfl (lk rfl) (So.s (A.sto ty3 rfl rfl rfl (v := .p (.v (.int .i64 _))) rfl rfl rfl (lk rfl) (c' := .rows (spB r e ((gvT r (gvN r (padK r e (w, p)) s)).1) ((gvT r (gvN r (padK r e (w, p)) s)).2 + 1) true)) (congrArg (fun g => some (OC.rows g)) (funext fun j => by exact spB_at (by omega) j)) rfl (So.e (HT.region S_kread_ok (So.q rfl rfl (V.addI rfl rfl (by omega) (So.q rfl rfl (V.mv (v := .p (.v (.int .i64 _))) rfl (So.e ?_))))))))))
    refine ⟨s + 1, by first | rfl | omega | (show _ < 29; omega) | (show _ ≤ 29; omega) | (intro j hj; rfl) | (simp; done) | (simp; omega), by omega, ⟨⟨⟨le_int (by first | rfl | omega | (show _ < 29; omega) | (show _ ≤ 29; omega) | (intro j hj; rfl) | (simp; done) | (simp; omega)), trivial⟩, ⟨.refl _, rfl⟩, ⟨.refl _, trivial⟩, ⟨.refl _, rfl⟩, ⟨.refl _, trivial⟩, trivial⟩, ⟨⟨_, rfl, .inr (ob_rows (by first | rfl | ((try dsimp only); first | rfl | omega | (show _ < 29; omega) | (show _ ≤ 29; omega) | (intro j hj; rfl) | (simp; done) | (simp; omega))) (by first | rfl | ((try dsimp only); first | rfl | omega | (show _ < 29; omega) | (show _ ≤ 29; omega) | (intro j hj; rfl) | (simp; done) | (simp; omega)))), trivial⟩, ⟨_, rfl, .inl (ob_bs (by rfl) (by exact gvL_set r (padK r e (w, p)) s m (by omega))), trivial⟩, trivial⟩⟩⟩
   ·have h6 := of_decide_eq_false h6
    refine HT.exit ?_
    show HT _ _ _ _ _
    refine HT.seq (HT.region S_kread_ok (So.q rfl rfl (V.mv (v := .own 2 0 _) rfl (So.q rfl rfl (V.as (v := .own 2 0 _) rfl (So.e ?_))))))
    show HT _ _ _ _ _
    refine HT.ret ?_
    exact ret_ok (sg [(1, 1), (2, 2)]) h rfl rfl rfl ⟨trivial, trivial, trivial⟩ ⟨rfl, trivial⟩ rfl ⟨⟨⟨le_own2 (by first | rfl | omega) (by first | rfl | (replace hP0 : s = m := (by omega); subst hP0; first | rfl | exact gvL_end _ _ _ | (intro j hj; rfl))), rfl⟩, trivial⟩, ⟨⟨_, rfl, .inr (ob_rows (by first | rfl | ((try dsimp only); (first | rfl | (replace hP0 : s = m := (by omega); subst hP0; first | rfl | exact gvL_end _ _ _ | (intro j hj; rfl))))) (by first | rfl | ((try dsimp only); (first | rfl | (replace hP0 : s = m := (by omega); subst hP0; first | rfl | exact gvL_end _ _ _ | (intro j hj; rfl)))))), trivial⟩, ⟨_, rfl, .inl (ob_bs (by first | rfl | ((try dsimp only); (first | rfl | (replace hP0 : s = m := (by omega); subst hP0; first | rfl | exact gvL_end _ _ _ | (intro j hj; rfl))))) (by first | rfl | ((try dsimp only); (first | rfl | (replace hP0 : s = m := (by omega); subst hP0; first | rfl | exact gvL_end _ _ _ | (intro j hj; rfl)))))), trivial⟩, trivial⟩⟩
 ·have h1 := of_decide_eq_true h1
  refine So.gn (b := true) rfl rfl rfl (lk rfl) (lk rfl) (So.q rfl rfl (V.pkTrue (u := .p (.v (.bool true))) rfl rfl (So.e ?_)))
  show HT _ _ _ _ _
  refine R.condT rfl ?_
  refine HT.seq ?_
  exfalso; omega
end Go.Vh

set_option linter.unusedVariables false
set_option linter.unusedSimpArgs false
namespace Go.Vh
open Go Go.Vc Go.Proofs Go.Vw Go.Vk
def kofSp : Sp := ⟨[], mkE (α := Nat × UInt8 × (List UInt8) × Nat) (fun (r, e, b, m) => [.p (.v (.int .i64 ((r : Int)))), .p (.u8 (e)), .p (.bs (b)), .p (.v (.int .i64 ((m : Int))))]) (fun (r, e, b, m) => []) (fun (r, e, b, m) => 8 ≤ r ∧ r ≤ 192 ∧ r % 8 = 0 ∧ m ≤ 65536) (fun (r, e, b, m) => [.own 2 (0) (m)]) (fun (r, e, b, m) => [(2, ⟨5, 1, m, true, .bs (spg r e b m)⟩)])⟩
def S_kof : FuncId → Option Sp := fun f => if f = 29 then some knewSp else if f = 30 then some kwriteSp else if f = 31 then some kreadSp else none
theorem S_kof_ok : ∀ f s, S_kof f = some s → FOK Tryd.prog gl f s := fun f s h => by
 unfold S_kof at h
 split at h
 ·rename_i e; cases h; subst e; exact knew_ok
 split at h
 ·rename_i e; cases h; subst e; exact kwrite_ok
 split at h
 ·rename_i e; cases h; subst e; exact kread_ok
 cases h
set_option maxHeartbeats 1000000 in
set_option maxRecDepth 20000 in
theorem kof_ok : FOK Tryd.prog gl 25 kofSp := by
 refine FOK.ofE (tyOf_ok Tryd.prog) (slots := [8]) (nt := 19) Tryd.func25 rfl rfl rfl rfl (by decide) 4 (fun ⟨_, _, _, _⟩ => rfl) (by decide) (fun ⟨_, _, _, _⟩ => ⟨trivial, trivial, trivial, trivial, trivial⟩) ?_
 rintro ⟨r, e, b, m⟩ kk hlen hpre h
 have hl2 : (b).length ≤ 9223372036854775807 := hlen.2.2.1
 replace hpre : 8 ≤ r ∧ r ≤ 192 ∧ r % 8 = 0 ∧ m ≤ 65536 := hpre
 show HT (cx Tryd.prog 19 (tyOf Tryd.prog) gl []) _ [(0, .p (.v (.int .i64 ((r : Int))))), (1, .p (.u8 (e))), (2, .p (.bs (b))), (3, .p (.v (.int .i64 ((m : Int)))))] [] _
 have hwr := wrN_le r b (by omega) b.length
 refine HT.seq (HT.region S_kof_ok (So.q rfl rfl (V.as (v := .p (.v (.slice none 0 0))) rfl (So.e (HT.seq (HT.region S_kof_ok (So.q rfl rfl (V.mv (v := .p (.v (.int .i64 ((_ : Nat) : Int)))) rfl (So.q rfl rfl (V.mv (v := .p (.u8 _)) rfl ?_))))))))))
 refine So.n (lk rfl) (A.call0 [.p (.v (.int .i64 ((_ : Nat) : Int))), .p (.u8 _)] 1 rfl rfl rfl rfl ⟨trivial, trivial, trivial⟩ trivial (r, e) ⟨.refl _, .refl _, trivial⟩ trivial (by first | omega | (simp only [List.drop_zero, List.take_length]; omega) | (simp; done) | (simp; omega)) (Φ := fun _ => True) (fun _ _ => trivial) (.inl rfl) (v := .ptr 2 0) rfl (O' := (2, ⟨57, 1, _, true, .rows _⟩) :: _) rfl (fun h1 => ?_))
 refine So.q rfl rfl (V.as (v := .ptr 2 0) rfl (So.e (HT.seq (HT.region S_kof_ok (So.q rfl rfl (V.mv (v := .ptr 2 0) rfl (So.q rfl rfl (V.mv (v := .p (.bs _)) rfl ?_))))))))
 refine So.n (lk rfl) (A.call [.ptr 1 _, .p (.bs _)] [(1, ⟨_, _, _, _, .rows _⟩)] (sg [(1, 2)]) 3 rfl rfl rfl rfl ⟨rfl, trivial⟩ rfl ⟨trivial, trivial⟩ ⟨rfl, trivial, trivial⟩ trivial rfl (r, e, b) ⟨.refl _, .refl _, trivial⟩ ⟨⟨_, rfl, .inl rfl, trivial⟩, trivial⟩ (by first | omega | (simp only [List.drop_zero, List.take_length]; omega) | (simp; done) | (simp; omega)) (Φ := fun _ => True) (fun _ _ => trivial) ⟨⟨_, _, rfl, rfl, rfl, Nat.le_refl _⟩, trivial⟩ (.inl rfl) rfl (v := .tup 0 _) rfl (O' := (2, ⟨_, _, _, _, .rows _⟩) :: _) rfl (fun h2 => ?_))
 refine So.e (HT.seq (HT.region S_kof_ok (So.q rfl rfl (V.mv (v := .ptr 2 0) rfl (So.q rfl rfl (V.mv (v := .p (.v (.int .i64 ((_ : Nat) : Int)))) rfl ?_))))))
 refine So.n (lk rfl) (A.call [.ptr 1 _, .p (.v (.int .i64 ((_ : Nat) : Int)))] [(1, ⟨_, _, _, _, .rows _⟩)] (sg [(1, 2)]) 3 rfl rfl rfl rfl ⟨rfl, trivial⟩ rfl ⟨trivial, trivial⟩ ⟨rfl, trivial, trivial⟩ trivial rfl (r, e, (wrN r b b.length).1, (wrN r b b.length).2, m) ⟨.refl _, .refl _, trivial⟩ ⟨⟨_, rfl, .inl rfl, trivial⟩, trivial⟩ (by first | omega | (simp only [List.drop_zero, List.take_length]; omega) | (simp; done) | (simp; omega)) (Φ := fun _ => True) (fun _ _ => trivial) ⟨⟨_, _, rfl, rfl, rfl, Nat.le_refl _⟩, trivial⟩ (.inl rfl) rfl (v := .own 5 0 _) rfl (O' := (2, ⟨_, _, _, _, .rows _⟩) :: (5, ⟨_, _, _, _, .bs _⟩) :: _) rfl (fun h3 => ?_))
 refine So.q rfl rfl (V.as (v := .own 5 0 _) rfl (So.e ?_))
 show HT _ _ _ _ _
 refine HT.ret ?_
 exact ret_ok (sg [(2, 5)]) h rfl rfl rfl ⟨trivial, trivial⟩ ⟨rfl, trivial⟩ rfl ⟨⟨⟨le_own2 (by first | rfl | omega) (by first | rfl), rfl⟩, trivial⟩, ⟨⟨_, rfl, .inl (ob_bs (by first | rfl | ((try dsimp only); (first | rfl))) (by first | rfl | ((try dsimp only); (first | rfl)))), trivial⟩, trivial⟩⟩
def kshake128Sp : Sp := ⟨[], mkE (α := (List UInt8) × Nat) (fun (b, m) => [.p (.bs (b)), .p (.v (.int .i64 ((m : Int))))]) (fun (b, m) => []) (fun (b, m) => m ≤ 65536) (fun (b, m) => [.own 2 (0) (m)]) (fun (b, m) => [(2, ⟨5, 1, m, true, .bs (spg 168 31 b m)⟩)])⟩
def S_kshake128 : FuncId → Option Sp := fun f => if f = 25 then some kofSp else none
theorem S_kshake128_ok : ∀ f s, S_kshake128 f = some s → FOK Tryd.prog gl f s := fun f s h => by
 unfold S_kshake128 at h
 split at h
 ·rename_i e; cases h; subst e; exact kof_ok
 cases h
set_option maxHeartbeats 1000000 in
set_option maxRecDepth 20000 in
theorem kshake128_ok : FOK Tryd.prog gl 17 kshake128Sp := by
 refine FOK.ofE (tyOf_ok Tryd.prog) (slots := [4]) (nt := 8) Tryd.func17 rfl rfl rfl rfl (by decide) 2 (fun ⟨_, _⟩ => rfl) (by decide) (fun ⟨_, _⟩ => ⟨trivial, trivial, trivial⟩) ?_
 rintro ⟨b, m⟩ kk hlen hpre h
 have hl0 : (b).length ≤ 9223372036854775807 := hlen.1
 replace hpre : m ≤ 65536 := hpre
 show HT (cx Tryd.prog 8 (tyOf Tryd.prog) gl []) _ [(0, .p (.bs (b))), (1, .p (.v (.int .i64 ((m : Int)))))] [] _
 refine HT.seq (HT.region S_kshake128_ok (So.q rfl rfl (V.as (v := .p (.v (.slice none 0 0))) rfl (So.e (HT.seq (HT.region S_kshake128_ok (So.q rfl rfl (V.mv (v := .p (.bs _)) rfl (So.q rfl rfl (V.mv (v := .p (.v (.int .i64 ((_ : Nat) : Int)))) rfl ?_))))))))))
 refine So.n (lk rfl) (A.call0 [.p (.v (.int .i64 _)), .p (.u8 _), .p (.bs _), .p (.v (.int .i64 ((_ : Nat) : Int)))] 1 rfl rfl rfl rfl ⟨trivial, trivial, trivial, trivial, trivial⟩ trivial (168, 31, b, m) ⟨le_int rfl, .refl _, .refl _, .refl _, trivial⟩ trivial (by first | omega | (simp only [List.drop_zero, List.take_length]; omega) | (simp; done) | (simp; omega)) (Φ := fun _ => True) (fun _ _ => trivial) (.inl rfl) (v := .own 3 0 _) rfl (O' := (3, ⟨5, 1, _, true, .bs _⟩) :: _) rfl (fun h1 => ?_))
 refine So.q rfl rfl (V.as (v := .own 3 0 _) rfl (So.e ?_))
 show HT _ _ _ _ _
 refine HT.ret ?_
 exact ret_ok (sg [(2, 3)]) h rfl rfl rfl ⟨trivial, trivial⟩ ⟨rfl, trivial⟩ rfl ⟨⟨⟨le_own2 (by first | rfl | omega) (by first | rfl), rfl⟩, trivial⟩, ⟨⟨_, rfl, .inl (ob_bs (by first | rfl | ((try dsimp only); (first | rfl))) (by first | rfl | ((try dsimp only); (first | rfl)))), trivial⟩, trivial⟩⟩
end Go.Vh

set_option linter.unusedVariables false
set_option linter.unusedSimpArgs false
namespace Go.Vh
open Go Go.Vc Go.Proofs Go.Vw Go.Vk
def candsSp : Sp := ⟨[], mkE (α := (List UInt8)) (fun b => [.p (.bs (b))]) (fun b => []) (fun b => True) (fun b => [.clo 24 [.ptr 2 0]]) (fun b => [(2, ⟨22, 1, 1, true, .cells [.p (.bs (b))]⟩)])⟩
def S_cands : FuncId → Option Sp := fun _ => none
theorem S_cands_ok : ∀ f s, S_cands f = some s → FOK Tryd.prog gl f s := fun f s h => by cases h
set_option maxHeartbeats 1000000 in
set_option maxRecDepth 20000 in
theorem cands_ok : FOK Tryd.prog gl 16 candsSp := by
 refine FOK.ofE (tyOf_ok Tryd.prog) (slots := [2]) (nt := 4) Tryd.func16 rfl rfl rfl rfl (by decide) 1 (fun _ => rfl) (by decide) (fun _ => ⟨trivial, trivial⟩) ?_
 rintro b kk hlen hpre h
 have hl0 : (b).length ≤ 9223372036854775807 := hlen.1
 replace hpre : True := hpre
 show HT (cx Tryd.prog 4 (tyOf Tryd.prog) gl []) _ [(0, .p (.bs (b)))] [] _
 refine HT.seq (HT.region S_cands_ok (So.n (lk rfl) (A.box1 1 (v := .p (.bs _)) rfl (by first | rfl | trivial) rfl rfl trivial (So.q rfl rfl (V.as (v := _) rfl (So.e (HT.seq (HT.region S_cands_ok (So.n (lk rfl) (A.mkf (cs := [.ptr 1 _]) rfl rfl (So.q rfl rfl (V.as (v := .clo 24 [.ptr 1 _]) rfl (So.e ?_)))))))))))))
 show HT _ _ _ _ _
 refine HT.ret ?_
 exact ret_ok (sg [(2, 1)]) h rfl rfl rfl ⟨⟨trivial, trivial⟩, trivial⟩ ⟨⟨rfl, trivial⟩, trivial⟩ rfl ⟨⟨⟨.refl _, ⟨rfl, trivial⟩⟩, trivial⟩, ⟨⟨_, rfl, .inl (by first | rfl | ((try dsimp only); (first | rfl))), ⟨trivial, trivial⟩⟩, trivial⟩⟩
def uniformSp : Sp := ⟨[], mkE (α := (List UInt8)) (fun b => [.p (.bs (b))]) (fun b => []) (fun b => True) (fun b => [.agg 256 (fun j => .v (.int .i64 ((uniF b).1 j))), .p (.v (.int .i64 ((uniF b).2)))]) (fun b => [])⟩
def S_uniform : FuncId → Option Sp := fun f => if f = 17 then some kshake128Sp else if f = 16 then some candsSp else none
theorem S_uniform_ok : ∀ f s, S_uniform f = some s → FOK Tryd.prog gl f s := fun f s h => by
 unfold S_uniform at h
 split at h
 ·rename_i e; cases h; subst e; exact kshake128_ok
 split at h
 ·rename_i e; cases h; subst e; exact cands_ok
 cases h
theorem S_uniform_det : ∀ f s, S_uniform f = some s → SpDet s.sp := fun f s h => by
 unfold S_uniform at h
 split at h
 ·cases h; exact mkE_det _ _ _ _ _
 split at h
 ·cases h; exact mkE_det _ _ _ _ _
 cases h
set_option maxHeartbeats 1000000 in
set_option maxRecDepth 20000 in
theorem uniform_ok : FOK Tryd.prog gl 8 uniformSp := by
 refine FOK.ofEC (tyOf_ok Tryd.prog) (rvs := [.cell 2 25, .tmp 3]) (nt := 28) Tryd.func8 rfl rfl rfl rfl (by decide) 1 (fun _ => rfl) (by decide) (fun _ => ⟨trivial, trivial⟩) ?_
 rintro b kk hlen hpre h
 have hl0 : (b).length ≤ 9223372036854775807 := hlen.1
 replace hpre : True := hpre
 show HT (cx Tryd.prog 28 (tyOf Tryd.prog) gl []) _ [(0, .p (.bs (b)))] [] _
 refine HT.seq (HT.region S_uniform_ok (So.n (lk rfl) (A.alloc 1 1 ty25 rfl trivial (f := fun _ => .v (.int .i64 0)) (fun _ _ => rfl) (So.q rfl rfl (V.as (v := .p (.v (.int .i64 (0)))) rfl (So.e (HT.seq (HT.seq (HT.region S_uniform_ok (So.q rfl rfl (V.mv (v := .p (.bs _)) rfl (So.q rfl rfl (V.len ty22 (v := .p (.bs _)) rfl rfl ?_)))))))))))))
 refine So.q rfl rfl (V.bin (a := (.v (.int .i64 _))) (b := (.v (.int .i64 (34)))) (r := .v (.bool _)) rfl rfl rfl trivial (So.e ?_))
 show HT _ _ _ _ _
 refine R.cond rfl rfl (fun h1 => ?_) (fun h1 => ?_)
 ·have h1 := of_decide_eq_false (bnT h1)
  refine HT.seq (HT.region S_uniform_ok (So.n (lk rfl) (A.bld0 ty25 rfl rfl rfl (f := fun _ => .v (.int .i64 0)) (fun _ _ => rfl) (So.s (A.stoAg ty25 rfl (n := 256) rfl (by decide) (by intro j hj; first | rfl | trivial) rfl rfl rfl (So.q rfl rfl (V.as (v := .p (.v (.int .i64 (1)))) rfl (So.e ?_))))))))
  show HT _ _ _ _ _
  refine HT.ret ?_
  exact retC_ok (sg []) [(2, .ptr 1 0), (3, .p (.v (.int .i64 ((uniF b).2))))] [(1, ⟨25, 1, 256, true, .rows (fun j => .v (.int .i64 ((uniF b).1 j)))⟩)] h ⟨⟨⟨.refl _, rfl⟩, ⟨le_int (by first | rfl | (rw [un_r0 (by omega)]; done) | (rw [un_f0 (s := s) (by omega) (by omega) (by omega)]; done) | (rw [un_f1 (s := s) (by omega) (by omega) (by omega) (by omega)]; done) | (replace hs : s = 560 := (by omega); subst hs; rw [un_r1 (by omega) (by omega)]; done) | (exfalso; omega)), trivial⟩, trivial⟩, ⟨⟨_, rfl, .inr (ob_rowsL (by intro j hj; (try simp only [Nat.zero_add]); first | (rw [un_r0 (by omega)]; exact .refl _) | (rw [un_f0 (s := s) (by omega) (by omega) (by omega)]; exact .refl _) | (rw [un_f1 (s := s) (by omega) (by omega) (by omega) (by omega)]; exact .refl _) | (have hs9 : s = 560 := (by omega); subst hs9; rw [un_r1 (by omega) (by omega)]; exact .refl _) | (exfalso; omega))), trivial⟩, trivial⟩⟩ ⟨rvA_cell ty25 rfl rfl rfl rfl (Nat.le_refl _) (le_agg (fun j _ => by first | rfl | (dsimp only; rw [Nat.zero_add]))), .refl _, trivial⟩ trivial rfl trivial ⟨trivial, trivial, trivial⟩ rfl
 ·have h1 := of_decide_eq_true (bnF h1)
  refine HT.skip (HT.seq (HT.region S_uniform_ok (So.n (lk rfl) (A.alloc 2 1 ty25 rfl trivial (f := fun _ => .v (.int .i64 0)) (fun _ _ => rfl) (So.e (HT.seq (HT.region S_uniform_ok (So.n (lk rfl) (A.alloc1 3 ty3 rfl rfl trivial (x := (.v (.int .i64 _))) rfl (So.s (A.sto ty3 rfl rfl rfl (v := .p (.v (.int .i64 _))) rfl rfl rfl (lk rfl) rfl rfl (So.e ?_))))))))))))
  show HT _ _ _ _ _
  refine HT.seq (HT.seq (HT.region S_uniform_ok (So.q rfl rfl (V.mv (v := .p (.bs _)) rfl ?_))))
  refine So.n (lk rfl) (A.call0F S_uniform_ok [.p (.bs _), .p (.v (.int .i64 _))] 4 rfl rfl rfl rfl ⟨trivial, trivial, trivial⟩ trivial (b, 1680) ⟨.refl _, .refl _, trivial⟩ trivial (by first | omega | (simp only [List.drop_zero, List.take_length]; omega) | (simp; done) | (simp; omega)) (Φ := fun _ => True) (fun _ _ => trivial) (.inl rfl) (t := 6) (off := 0) rfl (O' := (6, ⟨5, 1, _, true, .bs _⟩) :: _) rfl rfl rfl (y := .p (.bs _)) rfl rfl (fun h2 => ?_))
  refine So.n (lk rfl) (A.call0 [.p (.bs _)] 4 rfl rfl rfl rfl ⟨trivial, trivial⟩ trivial (spg 168 31 b 1680) ⟨le_bs (by first | with_reducible rfl | (rw [List.drop_zero, List.take_of_length_le (by rw [spg_len]; exact Nat.le_refl _)])), trivial⟩ trivial (by trivial) (Φ := fun _ => True) (fun _ _ => trivial) (.inl rfl) (v := .clo 24 [.ptr 6 _]) rfl (O' := (6, ⟨22, 1, _, true, .cells _⟩) :: _) rfl (fun h3 => ?_))
  refine So.e (HT.block ?_)
  refine HT.rangeFn rfl rfl rfl Tryd.func24 rfl rfl rfl rfl (by decide) [(2, .ptr 1 0), (3, .p (.v (.int .i64 _))), (4, .ptr 2 0), (5, .ptr 3 0)] [1, 2, 3] (fun _ => 1) (.exit 0) (pins_one (ss := fun _ => 1) rfl) ⟨rfl, (List.contains_iff_mem.1 rfl), rfl, trivial, rfl, (List.contains_iff_mem.1 rfl), rfl, (List.contains_iff_mem.1 rfl), trivial⟩ (fun l => ?_)
  show HT _ _ [(38, .p (.v undef)), (0, .p (.v (.func (.yield l) #[] #[]))), (1, .ptr 6 _)] _ _
  refine HT.block ?_
  refine R.loop (σ := Nat) (fun s => []) (fun s => [(2, ⟨25, 1, 256, true, .rows (fun j => .v (.int .i64 ((unN (spg 168 31 b 1680) s).1 j)))⟩), (3, ⟨3, 1, 1, true, .cells [.p (.v (.int .i64 (((unN (spg 168 31 b 1680) s).2 : Int))))]⟩), (6, ⟨22, 1, 1, true, .cells [.p (.bs ((spg 168 31 b 1680).drop (3 * s)))]⟩)]) [0, 1, 38] [1] (fun s => s ≤ 560) (fun s => 560 - s) (0) (fr0 := [(0, .p (.v (.func (.yield _) #[] #[]))), (1, .ptr 6 0), (38, .p (.v undef))]) (O0 := [(1, ⟨_, _, _, _, .rows _⟩)]) rfl rfl (by first | rfl | omega | (simp; done) | (simp; omega)) ⟨⟨⟨.refl _, trivial⟩, ⟨.refl _, rfl⟩, ⟨.refl _, trivial⟩, trivial⟩, ⟨⟨_, rfl, .inr (ob_rows (by first | with_reducible rfl | ((try dsimp only); (rw [List.drop_zero]; first | done | rfl)) | (intro j hj; rfl) | ((try dsimp only); (rw [show (unN (spg 168 31 b 1680) 0).2 = 0 from rfl]; rfl)) | omega) (by first | with_reducible rfl | ((try dsimp only); (rw [List.drop_zero]; first | done | rfl)) | (intro j hj; rfl) | ((try dsimp only); (rw [show (unN (spg 168 31 b 1680) 0).2 = 0 from rfl]; rfl)) | omega)), trivial⟩, ⟨_, rfl, .inl (by first | with_reducible rfl | ((try dsimp only); (rw [List.drop_zero]; first | done | rfl)) | (intro j hj; rfl) | ((try dsimp only); (rw [show (unN (spg 168 31 b 1680) 0).2 = 0 from rfl]; rfl)) | omega), ⟨trivial, trivial⟩⟩, ⟨_, rfl, .inl (by first | with_reducible rfl | ((try dsimp only); (rw [List.drop_zero]; first | done | rfl)) | (intro j hj; rfl) | ((try dsimp only); (rw [show (unN (spg 168 31 b 1680) 0).2 = 0 from rfl]; rfl)) | omega), ⟨trivial, trivial⟩⟩, ⟨_, rfl, .inl rfl, trivial⟩, trivial⟩⟩ (fun s hP0 => ?_)
  refine HT.seq (HT.seq (HT.region S_uniform_ok (So.q rfl rfl (V.ldPtr ty22 rfl rfl rfl (lk rfl) (v := .p (.bs _)) rfl (So.q rfl rfl (V.len ty22 (v := .p (.bs _)) rfl rfl (So.q rfl rfl (V.bin (a := (.v (.int .i64 _))) (b := (.v (.int .i64 (3)))) (r := .v (.bool _)) rfl rfl rfl trivial (So.e ?_)))))))))
  show HT _ _ _ _ _
  refine R.cond rfl rfl (fun h4 => ?_) (fun h4 => ?_)
  ·have h4 := of_decide_eq_true h4
   refine HT.skip (HT.seq (HT.block (HT.seq ?_)))
   refine HT.planS S_uniform_ok S_uniform_det mixed [28, 29] [⟨[0, 1, 2, 3, 4, 5, 6, 7, 8, 9, 10, 11], 12, []⟩, ⟨[13, 14, 15, 16, 17, 18, 19, 20, 21, 22, 23, 24, 25, 26], 27, []⟩] (by kernel_rfl) ?_
   have hdl : ((spg 168 31 b 1680).drop (3 * s)).length = 1680 - 3 * s := by rw [List.length_drop, spg_len]
   obtain ⟨hd0, hd1, hd2⟩ := drop3 (spg 168 31 b 1680) s (by rw [spg_len]; omega)
   have hxe := or_x ((spg 168 31 b 1680).getD (3 * s) 0) ((spg 168 31 b 1680).getD (3 * s + 1) 0)
   have hye := or_y ((spg 168 31 b 1680).getD (3 * s + 1) 0) ((spg 168 31 b 1680).getD (3 * s + 2) 0)
   have hul := un_le (spg 168 31 b 1680) s
   have ha15 := and15 (((spg 168 31 b 1680).drop (3 * s)).getD 1 0)
   have hu2 := (((spg 168 31 b 1680).drop (3 * s)).getD 2 0).toNat_lt
   refine Pl.l0 ?_
   refine Si.n rfl (lk rfl) (V.mv (v := .p (.v (.func (.yield _) #[] #[]))) rfl (Si.n rfl (lk rfl) (V.ldPtr ty22 rfl rfl rfl (lk rfl) (v := .p (.bs _)) rfl (Si.n rfl (lk rfl) (V.ixBs (mi := 0) ty22 ty5 rfl rfl rfl (by omega) (by omega) (Si.n rfl (lk rfl) (V.ldRp ty5 rfl rfl (lk rfl) (v := (.u8 _)) rfl (Si.n rfl (lk rfl) (V.cvN ty3 ty5 (a := (.u8 _)) (r := (.v (.int .i64 _))) rfl rfl (Si.n rfl (lk rfl) (V.ldPtr ty22 rfl rfl rfl (lk rfl) (v := .p (.bs _)) rfl (Si.n rfl (lk rfl) (V.ixBs (mi := 1) ty22 ty5 rfl rfl rfl (by omega) (by omega) (Si.n rfl (lk rfl) (V.ldRp ty5 rfl rfl (lk rfl) (v := (.u8 _)) rfl (Si.n rfl (lk rfl) (V.bin (a := (.u8 _)) (b := (.u8 15)) (r := .u8 _) rfl rfl rfl trivial (Si.n rfl (lk rfl) (V.cvN ty3 ty5 (a := (.u8 _)) (r := (.v (.int .i64 _))) rfl rfl ?_)))))))))))))))))))
   refine Si.n rfl (lk rfl) (V.shlI (n := 8) (M := 256) rfl rfl rfl (by decide) (by omega) (Si.n rfl (lk rfl) (V.bin (a := (.v (.int .i64 _))) (b := (.v (.int .i64 _))) (r := .v (.int .i64 _)) rfl rfl rfl trivial (Si.e ?_))))
   refine ⟨flEq_nil, ?_⟩
   refine Lo.n rfl (lk rfl) (A.yield rfl rfl rfl rfl rfl rfl rfl [1, 2, 3, 6] (fun _ => 1) (pins_one (ss := fun _ => 1) rfl) [(0, .p (.v (.func (.yield _) #[] #[]))), (1, .ptr 6 0), (3, .p (.bs _)), (4, .p (.v (.int .i64 _))), (5, .p (.v (.bool true))), (8, .p (.v (.func (.yield _) #[] #[]))), (9, .p (.bs _)), (11, .p (.u8 _)), (12, .p (.v (.int .i64 _))), (13, .p (.bs _)), (15, .p (.u8 _)), (16, .p (.u8 _)), (17, .p (.v (.int .i64 _))), (18, .p (.v (.int .i64 _))), (19, .p (.v (.int .i64 _)))] ⟨rfl, trivial, rfl, (List.contains_iff_mem.1 rfl), rfl, trivial, rfl, trivial, rfl, trivial, rfl, trivial, rfl, trivial, rfl, trivial, rfl, trivial, rfl, trivial, rfl, trivial, rfl, trivial, rfl, trivial, rfl, trivial, rfl, trivial, trivial⟩ rfl ⟨(show _ ≤ _ by first | rfl | omega | (simp; done) | (simp; omega)), trivial, (show _ ≤ _ by first | rfl | omega | (simp; done) | (simp; omega)), (show _ ≤ _ by first | rfl | omega | (simp; done) | (simp; omega)), trivial⟩ ?_)
   show HT _ _ [(14, .p (.v (.int .i64 _))), (2, .ptr 1 0), (3, .p (.v (.int .i64 _))), (4, .ptr 2 0), (5, .ptr 3 0)] _ _
   refine R.tell [(14, .p (.v (.int .i64 (cX (spg 168 31 b 1680) s))))] [] [2, 3, 4, 5] [1, 2, 3, 6] (fr0 := [(2, .ptr 1 0), (3, .p (.v (.int .i64 _))), (4, .ptr 2 0), (5, .ptr 3 0)]) (O0 := [(1, ⟨_, _, _, _, .rows _⟩), (2, ⟨_, _, _, _, .rows _⟩), (3, ⟨_, _, _, _, .cells [.p (.v (.int .i64 _))]⟩), (6, ⟨_, _, _, _, .cells [.p (.bs _)]⟩)]) rfl rfl ⟨⟨⟨le_int (by first | (rw [hd0, hd1]; exact hxe) | (rw [hd1, hd2]; exact hye)), trivial⟩, ⟨.refl _, rfl⟩, ⟨.refl _, trivial⟩, ⟨.refl _, rfl⟩, ⟨.refl _, rfl⟩, trivial⟩, ⟨⟨_, rfl, .inl rfl, trivial⟩, ⟨_, rfl, .inl rfl, trivial⟩, ⟨_, rfl, .inl rfl, ⟨trivial, trivial⟩⟩, ⟨_, rfl, .inl rfl, ⟨trivial, trivial⟩⟩, trivial⟩⟩ ?_
   show HT _ _ _ _ _
   refine HT.region S_uniform_ok (So.q rfl rfl (V.as (v := .p (.v (.int .i64 _))) rfl (So.e (HT.block (HT.seq (HT.seq (HT.region S_uniform_ok (So.q rfl rfl (V.ldPtr ty3 rfl rfl rfl (lk rfl) (v := .p (.v (.int .i64 _))) rfl (So.q rfl rfl (V.bin (a := (.v (.int .i64 _))) (b := (.v (.int .i64 (256)))) (r := .v (.bool _)) rfl rfl rfl trivial (So.e ?_))))))))))))
   show HT _ _ _ _ _
   refine R.cond rfl rfl (fun h5 => ?_) (fun h5 => ?_)
   ·have h5 := of_decide_eq_true h5
    refine HT.exit ?_
    refine ⟨rfl, ⟨trivial, (show _ ≤ _ by first | rfl | omega | (simp; done) | (simp; omega)), trivial, trivial, trivial, trivial, trivial, trivial, trivial, trivial, trivial, trivial, trivial, trivial, trivial, trivial⟩, ?_⟩
    refine Pl.l0 ?_
    refine Si.n rfl (lk rfl) (V.not (b := false) rfl (Si.n rfl (lk rfl) (V.mv (v := .p (.v (.bool true))) rfl ?_)))
    refine Si.gn rfl (b := true) rfl rfl rfl (lk rfl) (lk rfl) ?_
    refine Si.gn rfl (b := true) rfl rfl rfl (lk rfl) (lk rfl) ?_
    refine Si.gn rfl (b := true) rfl rfl rfl (lk rfl) (lk rfl) ?_
    refine Si.gn rfl (b := true) rfl rfl rfl (lk rfl) (lk rfl) ?_
    refine Si.gn rfl (b := true) rfl rfl rfl (lk rfl) (lk rfl) ?_
    refine Si.gn rfl (b := true) rfl rfl rfl (lk rfl) (lk rfl) ?_
    refine Si.gn rfl (b := true) rfl rfl rfl (lk rfl) (lk rfl) ?_
    refine Si.gn rfl (b := true) rfl rfl rfl (lk rfl) (lk rfl) ?_
    refine Si.gn rfl (b := true) rfl rfl rfl (lk rfl) (lk rfl) ?_
    refine Si.gn rfl (b := true) rfl rfl rfl (lk rfl) (lk rfl) ?_
    refine Si.gn rfl (b := true) rfl rfl rfl (lk rfl) (lk rfl) ?_
    refine Si.gn rfl (b := true) rfl rfl rfl (lk rfl) (lk rfl) ?_
    refine Si.e ?_
    refine ⟨flEq_nil, ?_⟩
    refine Lo.gn rfl (b := true) rfl rfl rfl (lk rfl) (lk rfl) ?_
    refine Pl.e ?_
    refine Si.gn rfl (b := true) rfl rfl rfl (lk rfl) (lk rfl) ?_
    refine Si.n rfl (lk rfl) (V.pkTrue (u := .p (.v (.bool true))) rfl rfl (Si.e ?_))
    refine ⟨flEq_nil, ?_⟩
    show HT _ _ _ _ _
    refine R.condT rfl ?_
    refine HT.ret ?_
    refine ⟨.inr rfl, ⟨(show _ ≤ _ by first | rfl | omega | (simp; done) | (simp; omega)), trivial, (show _ ≤ _ by first | rfl | omega | (simp; done) | (simp; omega)), (show _ ≤ _ by first | rfl | omega | (simp; done) | (simp; omega)), trivial⟩, .inr ⟨rfl, ?_⟩⟩
    refine HT.exit ?_
    show HT _ _ _ _ _
    refine HT.seq (HT.seq (HT.region S_uniform_ok ?_))
    have hdl9 : ((spg 168 31 b 1680).drop (3 * s)).length = 1680 - 3 * s := by rw [List.length_drop, spg_len]
    have hul9 := un_le (spg 168 31 b 1680) s
    refine So.q rfl rfl (V.ldPtr ty3 rfl rfl rfl (lk rfl) (v := .p (.v (.int .i64 _))) rfl (So.q rfl rfl (V.bin (a := (.v (.int .i64 _))) (b := (.v (.int .i64 (256)))) (r := .v (.bool _)) rfl rfl rfl trivial (So.e ?_))))
    show HT _ _ _ _ _
    refine R.cond rfl rfl (fun h6 => ?_) (fun h6 => ?_)
    ·have h6 := of_decide_eq_true h6
     refine HT.seq (HT.region S_uniform_ok (So.n (lk rfl) (A.bld0 ty25 rfl rfl rfl (f := fun _ => .v (.int .i64 0)) (fun _ _ => rfl) (So.s (A.stoAg ty25 rfl (n := 256) rfl (by decide) (by intro j hj; first | rfl | trivial) rfl rfl rfl (So.q rfl rfl (V.as (v := .p (.v (.int .i64 (51)))) rfl (So.e ?_))))))))
     show HT _ _ _ _ _
     refine HT.ret ?_
     exact retC_ok (sg []) [(2, .ptr 1 0), (3, .p (.v (.int .i64 ((uniF b).2))))] [(1, ⟨25, 1, 256, true, .rows (fun j => .v (.int .i64 ((uniF b).1 j)))⟩)] h ⟨⟨⟨.refl _, rfl⟩, ⟨le_int (by first | rfl | (rw [un_r0 (by omega)]; done) | (rw [un_f0 (s := s) (by omega) (by omega) (by omega)]; done) | (rw [un_f1 (s := s) (by omega) (by omega) (by omega) (by omega)]; done) | (replace hs : s = 560 := (by omega); subst hs; rw [un_r1 (by omega) (by omega)]; done) | (exfalso; omega)), trivial⟩, trivial⟩, ⟨⟨_, rfl, .inr (ob_rowsL (by intro j hj; (try simp only [Nat.zero_add]); first | (rw [un_r0 (by omega)]; exact .refl _) | (rw [un_f0 (s := s) (by omega) (by omega) (by omega)]; exact .refl _) | (rw [un_f1 (s := s) (by omega) (by omega) (by omega) (by omega)]; exact .refl _) | (have hs9 : s = 560 := (by omega); subst hs9; rw [un_r1 (by omega) (by omega)]; exact .refl _) | (exfalso; omega))), trivial⟩, trivial⟩⟩ ⟨rvA_cell ty25 rfl rfl rfl rfl (Nat.le_refl _) (le_agg (fun j _ => by first | rfl | (dsimp only; rw [Nat.zero_add]))), .refl _, trivial⟩ trivial rfl trivial ⟨trivial, trivial, trivial⟩ rfl
    ·have h6 := of_decide_eq_false h6
     refine HT.skip (HT.seq (HT.region S_uniform_ok (So.q rfl rfl (V.ldPtrA ty25 rfl rfl rfl rfl (lk rfl) (So.s (A.stoAg ty25 rfl (n := 256) rfl (by decide) (by intro j hj; first | rfl | trivial) rfl rfl rfl (So.q rfl rfl (V.as (v := .p (.v (.int .i64 (0)))) rfl (So.e ?_)))))))))
     show HT _ _ _ _ _
     refine HT.ret ?_
     exact retC_ok (sg []) [(2, .ptr 1 0), (3, .p (.v (.int .i64 ((uniF b).2))))] [(1, ⟨25, 1, 256, true, .rows (fun j => .v (.int .i64 ((uniF b).1 j)))⟩)] h ⟨⟨⟨.refl _, rfl⟩, ⟨le_int (by first | rfl | (rw [un_r0 (by omega)]; done) | (rw [un_f0 (s := s) (by omega) (by omega) (by omega)]; done) | (rw [un_f1 (s := s) (by omega) (by omega) (by omega) (by omega)]; done) | (replace hs : s = 560 := (by omega); subst hs; rw [un_r1 (by omega) (by omega)]; done) | (exfalso; omega)), trivial⟩, trivial⟩, ⟨⟨_, rfl, .inr (ob_rowsL (by intro j hj; (try simp only [Nat.zero_add]); first | (rw [un_r0 (by omega)]; exact .refl _) | (rw [un_f0 (s := s) (by omega) (by omega) (by omega)]; exact .refl _) | (rw [un_f1 (s := s) (by omega) (by omega) (by omega) (by omega)]; exact .refl _) | (have hs9 : s = 560 := (by omega); subst hs9; rw [un_r1 (by omega) (by omega)]; exact .refl _) | (exfalso; omega))), trivial⟩, trivial⟩⟩ ⟨rvA_cell ty25 rfl rfl rfl rfl (Nat.le_refl _) (le_agg (fun j _ => by first | rfl | (dsimp only; rw [Nat.zero_add]))), .refl _, trivial⟩ trivial rfl trivial ⟨trivial, trivial, trivial⟩ rfl
   ·have h5 := of_decide_eq_false h5
    refine HT.skip (HT.seq (HT.region S_uniform_ok (So.q rfl rfl (V.mv (v := .p (.v (.int .i64 _))) rfl (So.q rfl rfl (V.bin (a := (.v (.int .i64 _))) (b := (.v (.int .i64 (3329)))) (r := .v (.bool _)) rfl rfl rfl trivial (So.e ?_)))))))
    show HT _ _ _ _ _
    refine R.cond rfl rfl (fun h7 => ?_) (fun h7 => ?_)
    ·have h7 := of_decide_eq_true h7
     refine HT.seq (HT.region S_uniform_ok (So.q rfl rfl (V.ldPtr ty3 rfl rfl rfl (lk rfl) (v := .p (.v (.int .i64 _))) rfl (So.q rfl rfl (V.mv (v := .p (.v (.int .i64 _))) rfl (So.q rfl rfl (V.ixArrP10 ty25 ty3 rfl rfl rfl (by first | rfl | omega | (simp; done) | (simp; omega)) rfl (by omega) rfl (So.s (A.sto ty3 rfl rfl rfl (v := .p (.v (.int .i64 _))) rfl rfl rfl (by first | rfl | omega | (simp; done) | (simp; omega)) (c' := .rows (fun j => .v (.int .i64 ((stP (unN (spg 168 31 b 1680) s) (cX (spg 168 31 b 1680) s)).1 j)))) (congrArg (fun g => some (OC.rows g)) (funext fun j => by first | (rw [stP_y (st := (unN (spg 168 31 b 1680) s)) (x := cX (spg 168 31 b 1680) s) (by omega) (by omega)]; by_cases h9 : j = (unN (spg 168 31 b 1680) s).2 <;> simp [h9]; done))) rfl (So.e (HT.region S_uniform_ok (So.q rfl rfl (V.ldPtr ty3 rfl rfl rfl (lk rfl) (v := .p (.v (.int .i64 _))) rfl (So.q rfl rfl (V.addI rfl rfl (by omega) ?_)))))))))))))))
     refine So.s (A.sto ty3 rfl rfl rfl (v := .p (.v (.int .i64 _))) rfl rfl rfl (lk rfl) rfl rfl (So.e ?_))
     refine ⟨⟨trivial, (show _ ≤ _ by first | rfl | omega | (simp; done) | (simp; omega)), trivial, trivial, trivial, trivial, trivial, trivial, trivial, trivial, trivial, trivial, trivial, trivial, trivial, trivial⟩, ?_⟩
     refine Pl.l0 ?_
     refine Si.n rfl (lk rfl) (V.not (b := true) rfl (Si.n rfl (lk rfl) (V.mv (v := .p (.v (.bool false))) rfl ?_)))
     refine Si.gy rfl rfl rfl (lk rfl) (lk rfl) ?_
     refine V.mv (v := .p (.v (.func (.yield _) #[] #[]))) rfl ?_
     refine Si.gy rfl rfl rfl (lk rfl) (lk rfl) ?_
     refine V.ldPtr ty22 rfl rfl rfl (lk rfl) (v := .p (.bs _)) rfl ?_
     refine Si.gy rfl rfl rfl (lk rfl) (lk rfl) ?_
     refine V.ixBs (mi := 1) ty22 ty5 rfl rfl rfl (by omega) (by omega) ?_
     refine Si.gy rfl rfl rfl (lk rfl) (lk rfl) ?_
     refine V.ldRp ty5 rfl rfl (lk rfl) (v := (.u8 _)) rfl ?_
     refine Si.gy rfl rfl rfl (lk rfl) (lk rfl) ?_
     refine V.shrC (n := 4) (a := (.u8 _)) (b := (.u64 4)) (r := .u8 (u8Shr _ 4)) rfl rfl rfl rfl ?_
     refine Si.gy rfl rfl rfl (lk rfl) (lk rfl) ?_
     refine V.cvN ty3 ty5 (a := (.u8 _)) (r := (.v (.int .i64 _))) rfl rfl ?_
     refine Si.gy rfl rfl rfl (lk rfl) (lk rfl) ?_
     refine V.ldPtr ty22 rfl rfl rfl (lk rfl) (v := .p (.bs _)) rfl ?_
     refine Si.gy rfl rfl rfl (lk rfl) (lk rfl) ?_
     refine V.ixBs (mi := 2) ty22 ty5 rfl rfl rfl (by omega) (by omega) ?_
     refine Si.gy rfl rfl rfl (lk rfl) (lk rfl) ?_
     refine V.ldRp ty5 rfl rfl (lk rfl) (v := (.u8 _)) rfl ?_
     refine Si.gy rfl rfl rfl (lk rfl) (lk rfl) ?_
     refine V.cvN ty3 ty5 (a := (.u8 _)) (r := (.v (.int .i64 _))) rfl rfl ?_
     refine Si.gy rfl rfl rfl (lk rfl) (lk rfl) ?_
     refine V.shlI (n := 4) (M := 16) rfl rfl rfl (by decide) (by omega) ?_
     refine Si.gy rfl rfl rfl (lk rfl) (lk rfl) ?_
     refine V.bin (a := (.v (.int .i64 _))) (b := (.v (.int .i64 _))) (r := .v (.int .i64 _)) rfl rfl rfl trivial ?_
     refine Si.e ?_
     refine ⟨flEq_nil, ?_⟩
     refine Lo.gy rfl rfl rfl (lk rfl) (lk rfl) ?_
     refine A.yield rfl rfl rfl rfl rfl rfl rfl [1, 2, 3, 6] (fun _ => 1) (pins_one (ss := fun _ => 1) rfl) [(0, .p (.v (.func (.yield _) #[] #[]))), (1, .ptr 6 0), (3, .p (.bs _)), (4, .p (.v (.int .i64 _))), (5, .p (.v (.bool true))), (8, .p (.v (.func (.yield _) #[] #[]))), (9, .p (.bs _)), (11, .p (.u8 _)), (12, .p (.v (.int .i64 _))), (13, .p (.bs _)), (15, .p (.u8 _)), (16, .p (.u8 _)), (17, .p (.v (.int .i64 _))), (18, .p (.v (.int .i64 _))), (19, .p (.v (.int .i64 _))), (20, .p (.v (.bool true))), (21, .p (.v (.bool false))), (22, .p (.v (.bool false))), (23, .p (.v (.func (.yield _) #[] #[]))), (24, .p (.bs _)), (26, .p (.u8 _)), (27, .p (.u8 _)), (28, .p (.v (.int .i64 _))), (29, .p (.bs _)), (31, .p (.u8 _)), (32, .p (.v (.int .i64 _))), (33, .p (.v (.int .i64 _))), (34, .p (.v (.int .i64 _)))] ⟨rfl, trivial, rfl, (List.contains_iff_mem.1 rfl), rfl, trivial, rfl, trivial, rfl, trivial, rfl, trivial, rfl, trivial, rfl, trivial, rfl, trivial, rfl, trivial, rfl, trivial, rfl, trivial, rfl, trivial, rfl, trivial, rfl, trivial, rfl, trivial, rfl, trivial, rfl, trivial, rfl, trivial, rfl, trivial, rfl, trivial, rfl, trivial, rfl, trivial, rfl, trivial, rfl, trivial, rfl, trivial, rfl, trivial, rfl, trivial, trivial⟩ rfl ⟨(show _ ≤ _ by first | rfl | omega | (simp; done) | (simp; omega)), trivial, (show _ ≤ _ by first | rfl | omega | (simp; done) | (simp; omega)), (show _ ≤ _ by first | rfl | omega | (simp; done) | (simp; omega)), trivial⟩ ?_
     show HT _ _ [(14, .p (.v (.int .i64 _))), (2, .ptr 1 0), (3, .p (.v (.int .i64 _))), (4, .ptr 2 0), (5, .ptr 3 0)] _ _
     refine R.tell [(14, .p (.v (.int .i64 (cY (spg 168 31 b 1680) s))))] [] [2, 3, 4, 5] [1, 2, 3, 6] (fr0 := [(2, .ptr 1 0), (3, .p (.v (.int .i64 _))), (4, .ptr 2 0), (5, .ptr 3 0)]) (O0 := [(1, ⟨_, _, _, _, .rows _⟩), (2, ⟨_, _, _, _, .rows _⟩), (3, ⟨_, _, _, _, .cells [.p (.v (.int .i64 _))]⟩), (6, ⟨_, _, _, _, .cells [.p (.bs _)]⟩)]) rfl rfl ⟨⟨⟨le_int (by first | (rw [hd0, hd1]; exact hxe) | (rw [hd1, hd2]; exact hye)), trivial⟩, ⟨.refl _, rfl⟩, ⟨.refl _, trivial⟩, ⟨.refl _, rfl⟩, ⟨.refl _, rfl⟩, trivial⟩, ⟨⟨_, rfl, .inl rfl, trivial⟩, ⟨_, rfl, .inl rfl, trivial⟩, ⟨_, rfl, .inl rfl, ⟨trivial, trivial⟩⟩, ⟨_, rfl, .inl rfl, ⟨trivial, trivial⟩⟩, trivial⟩⟩ ?_
     show HT _ _ _ _ _
     refine HT.region S_uniform_ok (So.q rfl rfl (V.as (v := .p (.v (.int .i64 _))) rfl (So.e (HT.block (HT.seq (HT.seq (HT.region S_uniform_ok (So.q rfl rfl (V.ldPtr ty3 rfl rfl rfl (lk rfl) (v := .p (.v (.int .i64 _))) rfl (So.q rfl rfl (V.bin (a := (.v (.int .i64 _))) (b := (.v (.int .i64 (256)))) (r := .v (.bool _)) rfl rfl rfl trivial (So.e ?_))))))))))))
     show HT _ _ _ _ _
     refine R.cond rfl rfl (fun h8 => ?_) (fun h8 => ?_)
     ·have h8 := of_decide_eq_true h8
      refine HT.exit ?_
      refine ⟨rfl, ⟨trivial, (show _ ≤ _ by first | rfl | omega | (simp; done) | (simp; omega)), trivial, trivial, trivial, trivial, trivial, trivial, trivial, trivial, trivial, trivial, trivial, trivial, trivial, trivial, trivial, trivial, trivial, trivial, trivial, trivial, trivial, trivial, trivial, trivial, trivial, trivial, trivial⟩, ?_⟩
      refine Pl.e ?_
      refine Si.gy rfl rfl rfl (lk rfl) (lk rfl) ?_
      refine V.not (b := false) rfl ?_
      refine Si.n rfl (lk rfl) (V.pkFalse (u := .p (.v (.bool true))) rfl rfl (Si.e ?_))
      refine ⟨flEq_nil, ?_⟩
      show HT _ _ _ _ _
      refine R.condT rfl ?_
      refine HT.ret ?_
      refine ⟨.inr rfl, ⟨(show _ ≤ _ by first | rfl | omega | (simp; done) | (simp; omega)), trivial, (show _ ≤ _ by first | rfl | omega | (simp; done) | (simp; omega)), (show _ ≤ _ by first | rfl | omega | (simp; done) | (simp; omega)), trivial⟩, .inr ⟨rfl, ?_⟩⟩
      refine HT.exit ?_
      show HT _ _ _ _ _
      refine HT.seq (HT.seq (HT.region S_uniform_ok ?_))
      have hdl9 : ((spg 168 31 b 1680).drop (3 * s)).length = 1680 - 3 * s := by rw [List.length_drop, spg_len]
      have hul9 := un_le (spg 168 31 b 1680) s
      refine So.q rfl rfl (V.ldPtr ty3 rfl rfl rfl (lk rfl) (v := .p (.v (.int .i64 _))) rfl (So.q rfl rfl (V.bin (a := (.v (.int .i64 _))) (b := (.v (.int .i64 (256)))) (r := .v (.bool _)) rfl rfl rfl trivial (So.e ?_))))
      show HT _ _ _ _ _
      refine R.cond rfl rfl (fun h9 => ?_) (fun h9 => ?_)
      ·have h9 := of_decide_eq_true h9
       refine HT.seq (HT.region S_uniform_ok (So.n (lk rfl) (A.bld0 ty25 rfl rfl rfl (f := fun _ => .v (.int .i64 0)) (fun _ _ => rfl) (So.s (A.stoAg ty25 rfl (n := 256) rfl (by decide) (by intro j hj; first | rfl | trivial) rfl rfl rfl (So.q rfl rfl (V.as (v := .p (.v (.int .i64 (51)))) rfl (So.e ?_))))))))
       show HT _ _ _ _ _
       refine HT.ret ?_
       exact retC_ok (sg []) [(2, .ptr 1 0), (3, .p (.v (.int .i64 ((uniF b).2))))] [(1, ⟨25, 1, 256, true, .rows (fun j => .v (.int .i64 ((uniF b).1 j)))⟩)] h ⟨⟨⟨.refl _, rfl⟩, ⟨le_int (by first | rfl | (rw [un_r0 (by omega)]; done) | (rw [un_f0 (s := s) (by omega) (by omega) (by omega)]; done) | (rw [un_f1 (s := s) (by omega) (by omega) (by omega) (by omega)]; done) | (replace hs : s = 560 := (by omega); subst hs; rw [un_r1 (by omega) (by omega)]; done) | (exfalso; omega)), trivial⟩, trivial⟩, ⟨⟨_, rfl, .inr (ob_rowsL (by intro j hj; (try simp only [Nat.zero_add]); first | (rw [un_r0 (by omega)]; exact .refl _) | (rw [un_f0 (s := s) (by omega) (by omega) (by omega)]; exact .refl _) | (rw [un_f1 (s := s) (by omega) (by omega) (by omega) (by omega)]; exact .refl _) | (have hs9 : s = 560 := (by omega); subst hs9; rw [un_r1 (by omega) (by omega)]; exact .refl _) | (exfalso; omega))), trivial⟩, trivial⟩⟩ ⟨rvA_cell ty25 rfl rfl rfl rfl (Nat.le_refl _) (le_agg (fun j _ => by first | rfl | (dsimp only; rw [Nat.zero_add]))), .refl _, trivial⟩ trivial rfl trivial ⟨trivial, trivial, trivial⟩ rfl
      ·have h9 := of_decide_eq_false h9
       refine HT.skip (HT.seq (HT.region S_uniform_ok (So.q rfl rfl (V.ldPtrA ty25 rfl rfl rfl rfl (lk rfl) (So.s (A.stoAg ty25 rfl (n := 256) rfl (by decide) (by intro j hj; first | rfl | trivial) rfl rfl rfl (So.q rfl rfl (V.as (v := .p (.v (.int .i64 (0)))) rfl (So.e ?_)))))))))
       show HT _ _ _ _ _
       refine HT.ret ?_
       exact retC_ok (sg []) [(2, .ptr 1 0), (3, .p (.v (.int .i64 ((uniF b).2))))] [(1, ⟨25, 1, 256, true, .rows (fun j => .v (.int .i64 ((uniF b).1 j)))⟩)] h ⟨⟨⟨.refl _, rfl⟩, ⟨le_int (by first | rfl | (rw [un_r0 (by omega)]; done) | (rw [un_f0 (s := s) (by omega) (by omega) (by omega)]; done) | (rw [un_f1 (s := s) (by omega) (by omega) (by omega) (by omega)]; done) | (replace hs : s = 560 := (by omega); subst hs; rw [un_r1 (by omega) (by omega)]; done) | (exfalso; omega)), trivial⟩, trivial⟩, ⟨⟨_, rfl, .inr (ob_rowsL (by intro j hj; (try simp only [Nat.zero_add]); first | (rw [un_r0 (by omega)]; exact .refl _) | (rw [un_f0 (s := s) (by omega) (by omega) (by omega)]; exact .refl _) | (rw [un_f1 (s := s) (by omega) (by omega) (by omega) (by omega)]; exact .refl _) | (have hs9 : s = 560 := (by omega); subst hs9; rw [un_r1 (by omega) (by omega)]; exact .refl _) | (exfalso; omega))), trivial⟩, trivial⟩⟩ ⟨rvA_cell ty25 rfl rfl rfl rfl (Nat.le_refl _) (le_agg (fun j _ => by first | rfl | (dsimp only; rw [Nat.zero_add]))), .refl _, trivial⟩ trivial rfl trivial ⟨trivial, trivial, trivial⟩ rfl
     ·have h8 := of_decide_eq_false h8
      refine HT.skip (HT.seq (HT.region S_uniform_ok (So.q rfl rfl (V.mv (v := .p (.v (.int .i64 _))) rfl (So.q rfl rfl (V.bin (a := (.v (.int .i64 _))) (b := (.v (.int .i64 (3329)))) (r := .v (.bool _)) rfl rfl rfl trivial (So.e ?_)))))))
      show HT _ _ _ _ _
      refine R.cond rfl rfl (fun h10 => ?_) (fun h10 => ?_)
      ·have h10 := of_decide_eq_true h10
       refine HT.seq (HT.region S_uniform_ok (So.q rfl rfl (V.ldPtr ty3 rfl rfl rfl (lk rfl) (v := .p (.v (.int .i64 _))) rfl (So.q rfl rfl (V.mv (v := .p (.v (.int .i64 _))) rfl (So.q rfl rfl (V.ixArrP10 ty25 ty3 rfl rfl rfl (by first | rfl | omega | (simp; done) | (simp; omega)) rfl (by omega) rfl (So.s (A.sto ty3 rfl rfl rfl (v := .p (.v (.int .i64 _))) rfl rfl rfl (by first | rfl | omega | (simp; done) | (simp; omega)) (c' := .rows (fun j => .v (.int .i64 ((stP (stP (unN (spg 168 31 b 1680) s) (cX (spg 168 31 b 1680) s)) (cY (spg 168 31 b 1680) s)).1 j)))) (congrArg (fun g => some (OC.rows g)) (funext fun j => by rw [stP_y (st := (stP (unN (spg 168 31 b 1680) s) (cX (spg 168 31 b 1680) s))) (x := cY (spg 168 31 b 1680) s) (by rw [stP_y (by omega) (by omega)]; show _ + 1 < 256; omega) (by omega)]; have h7 : (stP (unN (spg 168 31 b 1680) s) (cX (spg 168 31 b 1680) s)).2 = (unN (spg 168 31 b 1680) s).2 + 1 := (by rw [stP_y (by omega) (by omega)]); rw [h7]; by_cases h9 : j = (unN (spg 168 31 b 1680) s).2 + 1 <;> simp [h9])) rfl (So.e (HT.region S_uniform_ok (So.q rfl rfl (V.ldPtr ty3 rfl rfl rfl (lk rfl) (v := .p (.v (.int .i64 _))) rfl (So.q rfl rfl (V.addI rfl rfl (by omega) ?_)))))))))))))))
       refine So.s (A.sto ty3 rfl rfl rfl (v := .p (.v (.int .i64 _))) rfl rfl rfl (lk rfl) rfl rfl (So.e ?_))
       refine ⟨⟨trivial, (show _ ≤ _ by first | rfl | omega | (simp; done) | (simp; omega)), trivial, trivial, trivial, trivial, trivial, trivial, trivial, trivial, trivial, trivial, trivial, trivial, trivial, trivial, trivial, trivial, trivial, trivial, trivial, trivial, trivial, trivial, trivial, trivial, trivial, trivial, trivial⟩, ?_⟩
       refine Pl.e ?_
       refine Si.gy rfl rfl rfl (lk rfl) (lk rfl) ?_
       refine V.not (b := true) rfl ?_
       refine Si.n rfl (lk rfl) (V.pkFalse (u := .p (.v (.bool false))) rfl rfl (Si.e ?_))
       refine ⟨flEq_nil, ?_⟩
       show HT _ _ _ _ _
       refine R.condF rfl ?_
       refine HT.skip (HT.region S_uniform_ok (So.q rfl rfl (V.ldPtr ty22 rfl rfl rfl (lk rfl) (v := .p (.bs _)) rfl (So.q rfl rfl (V.cutBsL (mx := none) ty22 ty5 rfl rfl rfl (by omega) rfl (So.s (A.sto ty22 rfl rfl rfl (v := .p (.bs _)) rfl trivial rfl (lk rfl) rfl rfl (So.e ?_))))))))
       have hE := un_2 (b := (spg 168 31 b 1680)) (s := s) (by omega)
       refine ⟨s + 1, by first | rfl | omega | (simp; done) | (simp; omega), by omega, ⟨⟨⟨.refl _, trivial⟩, ⟨.refl _, rfl⟩, ⟨.refl _, trivial⟩, trivial⟩, ⟨⟨_, rfl, .inr (ob_rows (by first | rfl | ((try dsimp only); (intro j hj; first | rfl | (show _ = PV.v (.int .i64 ((stP (stP (unN (spg 168 31 b 1680) s) (cX (spg 168 31 b 1680) s)) (cY (spg 168 31 b 1680) s)).1 j)); rw [stP_n (st := (stP (unN (spg 168 31 b 1680) s) (cX (spg 168 31 b 1680) s))) (x := cY (spg 168 31 b 1680) s) (by omega)]; done) | (show _ = PV.v (.int .i64 ((stP (stP (unN (spg 168 31 b 1680) s) (cX (spg 168 31 b 1680) s)) (cY (spg 168 31 b 1680) s)).1 j)); rw [stP_n (st := (unN (spg 168 31 b 1680) s)) (x := cX (spg 168 31 b 1680) s) (by omega)]; done) | (show _ = PV.v (.int .i64 ((stP (stP (unN (spg 168 31 b 1680) s) (cX (spg 168 31 b 1680) s)) (cY (spg 168 31 b 1680) s)).1 j)); rw [stP_n (st := (unN (spg 168 31 b 1680) s)) (x := cX (spg 168 31 b 1680) s) (by omega), stP_n (st := (unN (spg 168 31 b 1680) s)) (x := cY (spg 168 31 b 1680) s) (by omega)]; done)))) (by first | rfl | ((try dsimp only); (intro j hj; first | rfl | (show _ = PV.v (.int .i64 ((stP (stP (unN (spg 168 31 b 1680) s) (cX (spg 168 31 b 1680) s)) (cY (spg 168 31 b 1680) s)).1 j)); rw [stP_n (st := (stP (unN (spg 168 31 b 1680) s) (cX (spg 168 31 b 1680) s))) (x := cY (spg 168 31 b 1680) s) (by omega)]; done) | (show _ = PV.v (.int .i64 ((stP (stP (unN (spg 168 31 b 1680) s) (cX (spg 168 31 b 1680) s)) (cY (spg 168 31 b 1680) s)).1 j)); rw [stP_n (st := (unN (spg 168 31 b 1680) s)) (x := cX (spg 168 31 b 1680) s) (by omega)]; done) | (show _ = PV.v (.int .i64 ((stP (stP (unN (spg 168 31 b 1680) s) (cX (spg 168 31 b 1680) s)) (cY (spg 168 31 b 1680) s)).1 j)); rw [stP_n (st := (unN (spg 168 31 b 1680) s)) (x := cX (spg 168 31 b 1680) s) (by omega), stP_n (st := (unN (spg 168 31 b 1680) s)) (x := cY (spg 168 31 b 1680) s) (by omega)]; done))))), trivial⟩, ⟨_, rfl, .inl (by first | (rw [show ((unN (spg 168 31 b 1680) (s + 1)).2 : Int) = ((unN (spg 168 31 b 1680) s).2 : Int) + 1 + 1 by omega]; first | done | rfl) | (rw [show ((unN (spg 168 31 b 1680) (s + 1)).2 : Int) = ((unN (spg 168 31 b 1680) s).2 : Int) + 1 by omega]; first | done | rfl) | (rw [show ((unN (spg 168 31 b 1680) (s + 1)).2 : Int) = ((unN (spg 168 31 b 1680) s).2 : Int) by omega]; first | done | rfl)), ⟨trivial, trivial⟩⟩, ⟨_, rfl, .inl (by show (⟨_, _, _, _, OC.cells [.p (.bs (List.drop 3 (List.drop (3 * s) (spg 168 31 b 1680))))]⟩ : OB) = ⟨_, _, _, _, OC.cells [.p (.bs (List.drop (3 * (s + 1)) (spg 168 31 b 1680)))]⟩; rw [List.drop_drop, show 3 * (s + 1) = 3 * s + 3 by omega]), ⟨trivial, trivial⟩⟩, ⟨_, rfl, .inl rfl, trivial⟩, trivial⟩⟩⟩
      ·have h10 := of_decide_eq_false h10
       refine HT.skip ?_
       refine ⟨⟨trivial, (show _ ≤ _ by first | rfl | omega | (simp; done) | (simp; omega)), trivial, trivial, trivial, trivial, trivial, trivial, trivial, trivial, trivial, trivial, trivial, trivial, trivial, trivial, trivial, trivial, trivial, trivial, trivial, trivial, trivial, trivial, trivial, trivial, trivial, trivial, trivial⟩, ?_⟩
       refine Pl.e ?_
       refine Si.gy rfl rfl rfl (lk rfl) (lk rfl) ?_
       refine V.not (b := true) rfl ?_
       refine Si.n rfl (lk rfl) (V.pkFalse (u := .p (.v (.bool false))) rfl rfl (Si.e ?_))
       refine ⟨flEq_nil, ?_⟩
       show HT _ _ _ _ _
       refine R.condF rfl ?_
       refine HT.skip (HT.region S_uniform_ok (So.q rfl rfl (V.ldPtr ty22 rfl rfl rfl (lk rfl) (v := .p (.bs _)) rfl (So.q rfl rfl (V.cutBsL (mx := none) ty22 ty5 rfl rfl rfl (by omega) rfl (So.s (A.sto ty22 rfl rfl rfl (v := .p (.bs _)) rfl trivial rfl (lk rfl) rfl rfl (So.e ?_))))))))
       have hE := un_2 (b := (spg 168 31 b 1680)) (s := s) (by omega)
       refine ⟨s + 1, by first | rfl | omega | (simp; done) | (simp; omega), by omega, ⟨⟨⟨.refl _, trivial⟩, ⟨.refl _, rfl⟩, ⟨.refl _, trivial⟩, trivial⟩, ⟨⟨_, rfl, .inr (ob_rows (by first | rfl | ((try dsimp only); (intro j hj; first | rfl | (show _ = PV.v (.int .i64 ((stP (stP (unN (spg 168 31 b 1680) s) (cX (spg 168 31 b 1680) s)) (cY (spg 168 31 b 1680) s)).1 j)); rw [stP_n (st := (stP (unN (spg 168 31 b 1680) s) (cX (spg 168 31 b 1680) s))) (x := cY (spg 168 31 b 1680) s) (by omega)]; done) | (show _ = PV.v (.int .i64 ((stP (stP (unN (spg 168 31 b 1680) s) (cX (spg 168 31 b 1680) s)) (cY (spg 168 31 b 1680) s)).1 j)); rw [stP_n (st := (unN (spg 168 31 b 1680) s)) (x := cX (spg 168 31 b 1680) s) (by omega)]; done) | (show _ = PV.v (.int .i64 ((stP (stP (unN (spg 168 31 b 1680) s) (cX (spg 168 31 b 1680) s)) (cY (spg 168 31 b 1680) s)).1 j)); rw [stP_n (st := (unN (spg 168 31 b 1680) s)) (x := cX (spg 168 31 b 1680) s) (by omega), stP_n (st := (unN (spg 168 31 b 1680) s)) (x := cY (spg 168 31 b 1680) s) (by omega)]; done)))) (by first | rfl | ((try dsimp only); (intro j hj; first | rfl | (show _ = PV.v (.int .i64 ((stP (stP (unN (spg 168 31 b 1680) s) (cX (spg 168 31 b 1680) s)) (cY (spg 168 31 b 1680) s)).1 j)); rw [stP_n (st := (stP (unN (spg 168 31 b 1680) s) (cX (spg 168 31 b 1680) s))) (x := cY (spg 168 31 b 1680) s) (by omega)]; done) | (show _ = PV.v (.int .i64 ((stP (stP (unN (spg 168 31 b 1680) s) (cX (spg 168 31 b 1680) s)) (cY (spg 168 31 b 1680) s)).1 j)); rw [stP_n (st := (unN (spg 168 31 b 1680) s)) (x := cX (spg 168 31 b 1680) s) (by omega)]; done) | (show _ = PV.v (.int .i64 ((stP (stP (unN (spg 168 31 b 1680) s) (cX (spg 168 31 b 1680) s)) (cY (spg 168 31 b 1680) s)).1 j)); rw [stP_n (st := (unN (spg 168 31 b 1680) s)) (x := cX (spg 168 31 b 1680) s) (by omega), stP_n (st := (unN (spg 168 31 b 1680) s)) (x := cY (spg 168 31 b 1680) s) (by omega)]; done))))), trivial⟩, ⟨_, rfl, .inl (by first | (rw [show ((unN (spg 168 31 b 1680) (s + 1)).2 : Int) = ((unN (spg 168 31 b 1680) s).2 : Int) + 1 + 1 by omega]; first | done | rfl) | (rw [show ((unN (spg 168 31 b 1680) (s + 1)).2 : Int) = ((unN (spg 168 31 b 1680) s).2 : Int) + 1 by omega]; first | done | rfl) | (rw [show ((unN (spg 168 31 b 1680) (s + 1)).2 : Int) = ((unN (spg 168 31 b 1680) s).2 : Int) by omega]; first | done | rfl)), ⟨trivial, trivial⟩⟩, ⟨_, rfl, .inl (by show (⟨_, _, _, _, OC.cells [.p (.bs (List.drop 3 (List.drop (3 * s) (spg 168 31 b 1680))))]⟩ : OB) = ⟨_, _, _, _, OC.cells [.p (.bs (List.drop (3 * (s + 1)) (spg 168 31 b 1680)))]⟩; rw [List.drop_drop, show 3 * (s + 1) = 3 * s + 3 by omega]), ⟨trivial, trivial⟩⟩, ⟨_, rfl, .inl rfl, trivial⟩, trivial⟩⟩⟩
    ·have h7 := of_decide_eq_false h7
     refine HT.skip ?_
     refine ⟨⟨trivial, (show _ ≤ _ by first | rfl | omega | (simp; done) | (simp; omega)), trivial, trivial, trivial, trivial, trivial, trivial, trivial, trivial, trivial, trivial, trivial, trivial, trivial, trivial⟩, ?_⟩
     refine Pl.l0 ?_
     refine Si.n rfl (lk rfl) (V.not (b := true) rfl (Si.n rfl (lk rfl) (V.mv (v := .p (.v (.bool false))) rfl ?_)))
     refine Si.gy rfl rfl rfl (lk rfl) (lk rfl) ?_
     refine V.mv (v := .p (.v (.func (.yield _) #[] #[]))) rfl ?_
     refine Si.gy rfl rfl rfl (lk rfl) (lk rfl) ?_
     refine V.ldPtr ty22 rfl rfl rfl (lk rfl) (v := .p (.bs _)) rfl ?_
     refine Si.gy rfl rfl rfl (lk rfl) (lk rfl) ?_
     refine V.ixBs (mi := 1) ty22 ty5 rfl rfl rfl (by omega) (by omega) ?_
     refine Si.gy rfl rfl rfl (lk rfl) (lk rfl) ?_
     refine V.ldRp ty5 rfl rfl (lk rfl) (v := (.u8 _)) rfl ?_
     refine Si.gy rfl rfl rfl (lk rfl) (lk rfl) ?_
     refine V.shrC (n := 4) (a := (.u8 _)) (b := (.u64 4)) (r := .u8 (u8Shr _ 4)) rfl rfl rfl rfl ?_
     refine Si.gy rfl rfl rfl (lk rfl) (lk rfl) ?_
     refine V.cvN ty3 ty5 (a := (.u8 _)) (r := (.v (.int .i64 _))) rfl rfl ?_
     refine Si.gy rfl rfl rfl (lk rfl) (lk rfl) ?_
     refine V.ldPtr ty22 rfl rfl rfl (lk rfl) (v := .p (.bs _)) rfl ?_
     refine Si.gy rfl rfl rfl (lk rfl) (lk rfl) ?_
     refine V.ixBs (mi := 2) ty22 ty5 rfl rfl rfl (by omega) (by omega) ?_
     refine Si.gy rfl rfl rfl (lk rfl) (lk rfl) ?_
     refine V.ldRp ty5 rfl rfl (lk rfl) (v := (.u8 _)) rfl ?_
     refine Si.gy rfl rfl rfl (lk rfl) (lk rfl) ?_
     refine V.cvN ty3 ty5 (a := (.u8 _)) (r := (.v (.int .i64 _))) rfl rfl ?_
     refine Si.gy rfl rfl rfl (lk rfl) (lk rfl) ?_
     refine V.shlI (n := 4) (M := 16) rfl rfl rfl (by decide) (by omega) ?_
     refine Si.gy rfl rfl rfl (lk rfl) (lk rfl) ?_
     refine V.bin (a := (.v (.int .i64 _))) (b := (.v (.int .i64 _))) (r := .v (.int .i64 _)) rfl rfl rfl trivial ?_
     refine Si.e ?_
     refine ⟨flEq_nil, ?_⟩
     refine Lo.gy rfl rfl rfl (lk rfl) (lk rfl) ?_
     refine A.yield rfl rfl rfl rfl rfl rfl rfl [1, 2, 3, 6] (fun _ => 1) (pins_one (ss := fun _ => 1) rfl) [(0, .p (.v (.func (.yield _) #[] #[]))), (1, .ptr 6 0), (3, .p (.bs _)), (4, .p (.v (.int .i64 _))), (5, .p (.v (.bool true))), (8, .p (.v (.func (.yield _) #[] #[]))), (9, .p (.bs _)), (11, .p (.u8 _)), (12, .p (.v (.int .i64 _))), (13, .p (.bs _)), (15, .p (.u8 _)), (16, .p (.u8 _)), (17, .p (.v (.int .i64 _))), (18, .p (.v (.int .i64 _))), (19, .p (.v (.int .i64 _))), (20, .p (.v (.bool true))), (21, .p (.v (.bool false))), (22, .p (.v (.bool false))), (23, .p (.v (.func (.yield _) #[] #[]))), (24, .p (.bs _)), (26, .p (.u8 _)), (27, .p (.u8 _)), (28, .p (.v (.int .i64 _))), (29, .p (.bs _)), (31, .p (.u8 _)), (32, .p (.v (.int .i64 _))), (33, .p (.v (.int .i64 _))), (34, .p (.v (.int .i64 _)))] ⟨rfl, trivial, rfl, (List.contains_iff_mem.1 rfl), rfl, trivial, rfl, trivial, rfl, trivial, rfl, trivial, rfl, trivial, rfl, trivial, rfl, trivial, rfl, trivial, rfl, trivial, rfl, trivial, rfl, trivial, rfl, trivial, rfl, trivial, rfl, trivial, rfl, trivial, rfl, trivial, rfl, trivial, rfl, trivial, rfl, trivial, rfl, trivial, rfl, trivial, rfl, trivial, rfl, trivial, rfl, trivial, rfl, trivial, rfl, trivial, trivial⟩ rfl ⟨(show _ ≤ _ by first | rfl | omega | (simp; done) | (simp; omega)), trivial, (show _ ≤ _ by first | rfl | omega | (simp; done) | (simp; omega)), (show _ ≤ _ by first | rfl | omega | (simp; done) | (simp; omega)), trivial⟩ ?_
     show HT _ _ [(14, .p (.v (.int .i64 _))), (2, .ptr 1 0), (3, .p (.v (.int .i64 _))), (4, .ptr 2 0), (5, .ptr 3 0)] _ _
     refine R.tell [(14, .p (.v (.int .i64 (cY (spg 168 31 b 1680) s))))] [] [2, 3, 4, 5] [1, 2, 3, 6] (fr0 := [(2, .ptr 1 0), (3, .p (.v (.int .i64 _))), (4, .ptr 2 0), (5, .ptr 3 0)]) (O0 := [(1, ⟨_, _, _, _, .rows _⟩), (2, ⟨_, _, _, _, .rows _⟩), (3, ⟨_, _, _, _, .cells [.p (.v (.int .i64 _))]⟩), (6, ⟨_, _, _, _, .cells [.p (.bs _)]⟩)]) rfl rfl ⟨⟨⟨le_int (by first | (rw [hd0, hd1]; exact hxe) | (rw [hd1, hd2]; exact hye)), trivial⟩, ⟨.refl _, rfl⟩, ⟨.refl _, trivial⟩, ⟨.refl _, rfl⟩, ⟨.refl _, rfl⟩, trivial⟩, ⟨⟨_, rfl, .inl rfl, trivial⟩, ⟨_, rfl, .inl rfl, trivial⟩, ⟨_, rfl, .inl rfl, ⟨trivial, trivial⟩⟩, ⟨_, rfl, .inl rfl, ⟨trivial, trivial⟩⟩, trivial⟩⟩ ?_
     show HT _ _ _ _ _
     refine HT.region S_uniform_ok (So.q rfl rfl (V.as (v := .p (.v (.int .i64 _))) rfl (So.e (HT.block (HT.seq (HT.seq (HT.region S_uniform_ok (So.q rfl rfl (V.ldPtr ty3 rfl rfl rfl (lk rfl) (v := .p (.v (.int .i64 _))) rfl (So.q rfl rfl (V.bin (a := (.v (.int .i64 _))) (b := (.v (.int .i64 (256)))) (r := .v (.bool _)) rfl rfl rfl trivial (So.e ?_))))))))))))
     show HT _ _ _ _ _
     refine R.cond rfl rfl (fun h11 => ?_) (fun h11 => ?_)
     ·have h11 := of_decide_eq_true h11
      refine HT.exit ?_
      refine ⟨rfl, ⟨trivial, (show _ ≤ _ by first | rfl | omega | (simp; done) | (simp; omega)), trivial, trivial, trivial, trivial, trivial, trivial, trivial, trivial, trivial, trivial, trivial, trivial, trivial, trivial, trivial, trivial, trivial, trivial, trivial, trivial, trivial, trivial, trivial, trivial, trivial, trivial, trivial⟩, ?_⟩
      refine Pl.e ?_
      refine Si.gy rfl rfl rfl (lk rfl) (lk rfl) ?_
      refine V.not (b := false) rfl ?_
      refine Si.n rfl (lk rfl) (V.pkFalse (u := .p (.v (.bool true))) rfl rfl (Si.e ?_))
      refine ⟨flEq_nil, ?_⟩
      show HT _ _ _ _ _
      refine R.condT rfl ?_
      refine HT.ret ?_
      refine ⟨.inr rfl, ⟨(show _ ≤ _ by first | rfl | omega | (simp; done) | (simp; omega)), trivial, (show _ ≤ _ by first | rfl | omega | (simp; done) | (simp; omega)), (show _ ≤ _ by first | rfl | omega | (simp; done) | (simp; omega)), trivial⟩, .inr ⟨rfl, ?_⟩⟩
      refine HT.exit ?_
      show HT _ _ _ _ _
      refine HT.seq (HT.seq (HT.region S_uniform_ok ?_))
      have hdl9 : ((spg 168 31 b 1680).drop (3 * s)).length = 1680 - 3 * s := by rw [List.length_drop, spg_len]
      have hul9 := un_le (spg 168 31 b 1680) s
      refine So.q rfl rfl (V.ldPtr ty3 rfl rfl rfl (lk rfl) (v := .p (.v (.int .i64 _))) rfl (So.q rfl rfl (V.bin (a := (.v (.int .i64 _))) (b := (.v (.int .i64 (256)))) (r := .v (.bool _)) rfl rfl rfl trivial (So.e ?_))))
      show HT _ _ _ _ _
      refine R.cond rfl rfl (fun h12 => ?_) (fun h12 => ?_)
      ·have h12 := of_decide_eq_true h12
       refine HT.seq (HT.region S_uniform_ok (So.n (lk rfl) (A.bld0 ty25 rfl rfl rfl (f := fun _ => .v (.int .i64 0)) (fun _ _ => rfl) (So.s (A.stoAg ty25 rfl (n := 256) rfl (by decide) (by intro j hj; first | rfl | trivial) rfl rfl rfl (So.q rfl rfl (V.as (v := .p (.v (.int .i64 (51)))) rfl (So.e ?_))))))))
       show HT _ _ _ _ _
       refine HT.ret ?_
       exact retC_ok (sg []) [(2, .ptr 1 0), (3, .p (.v (.int .i64 ((uniF b).2))))] [(1, ⟨25, 1, 256, true, .rows (fun j => .v (.int .i64 ((uniF b).1 j)))⟩)] h ⟨⟨⟨.refl _, rfl⟩, ⟨le_int (by first | rfl | (rw [un_r0 (by omega)]; done) | (rw [un_f0 (s := s) (by omega) (by omega) (by omega)]; done) | (rw [un_f1 (s := s) (by omega) (by omega) (by omega) (by omega)]; done) | (replace hs : s = 560 := (by omega); subst hs; rw [un_r1 (by omega) (by omega)]; done) | (exfalso; omega)), trivial⟩, trivial⟩, ⟨⟨_, rfl, .inr (ob_rowsL (by intro j hj; (try simp only [Nat.zero_add]); first | (rw [un_r0 (by omega)]; exact .refl _) | (rw [un_f0 (s := s) (by omega) (by omega) (by omega)]; exact .refl _) | (rw [un_f1 (s := s) (by omega) (by omega) (by omega) (by omega)]; exact .refl _) | (have hs9 : s = 560 := (by omega); subst hs9; rw [un_r1 (by omega) (by omega)]; exact .refl _) | (exfalso; omega))), trivial⟩, trivial⟩⟩ ⟨rvA_cell ty25 rfl rfl rfl rfl (Nat.le_refl _) (le_agg (fun j _ => by first | rfl | (dsimp only; rw [Nat.zero_add]))), .refl _, trivial⟩ trivial rfl trivial ⟨trivial, trivial, trivial⟩ rfl
      ·have h12 := of_decide_eq_false h12
       refine HT.skip (HT.seq (HT.region S_uniform_ok (So.q rfl rfl (V.ldPtrA ty25 rfl rfl rfl rfl (lk rfl) (So.s (A.stoAg ty25 rfl (n := 256) rfl (by decide) (by intro j hj; first | rfl | trivial) rfl rfl rfl (So.q rfl rfl (V.as (v := .p (.v (.int .i64 (0)))) rfl (So.e ?_)))))))))
       show HT _ _ _ _ _
       refine HT.ret ?_
       exact retC_ok (sg []) [(2, .ptr 1 0), (3, .p (.v (.int .i64 ((uniF b).2))))] [(1, ⟨25, 1, 256, true, .rows (fun j => .v (.int .i64 ((uniF b).1 j)))⟩)] h ⟨⟨⟨.refl _, rfl⟩, ⟨le_int (by first | rfl | (rw [un_r0 (by omega)]; done) | (rw [un_f0 (s := s) (by omega) (by omega) (by omega)]; done) | (rw [un_f1 (s := s) (by omega) (by omega) (by omega) (by omega)]; done) | (replace hs : s = 560 := (by omega); subst hs; rw [un_r1 (by omega) (by omega)]; done) | (exfalso; omega)), trivial⟩, trivial⟩, ⟨⟨_, rfl, .inr (ob_rowsL (by intro j hj; (try simp only [Nat.zero_add]); first | (rw [un_r0 (by omega)]; exact .refl _) | (rw [un_f0 (s := s) (by omega) (by omega) (by omega)]; exact .refl _) | (rw [un_f1 (s := s) (by omega) (by omega) (by omega) (by omega)]; exact .refl _) | (have hs9 : s = 560 := (by omega); subst hs9; rw [un_r1 (by omega) (by omega)]; exact .refl _) | (exfalso; omega))), trivial⟩, trivial⟩⟩ ⟨rvA_cell ty25 rfl rfl rfl rfl (Nat.le_refl _) (le_agg (fun j _ => by first | rfl | (dsimp only; rw [Nat.zero_add]))), .refl _, trivial⟩ trivial rfl trivial ⟨trivial, trivial, trivial⟩ rfl
     ·have h11 := of_decide_eq_false h11
      refine HT.skip (HT.seq (HT.region S_uniform_ok (So.q rfl rfl (V.mv (v := .p (.v (.int .i64 _))) rfl (So.q rfl rfl (V.bin (a := (.v (.int .i64 _))) (b := (.v (.int .i64 (3329)))) (r := .v (.bool _)) rfl rfl rfl trivial (So.e ?_)))))))
      show HT _ _ _ _ _
      refine R.cond rfl rfl (fun h13 => ?_) (fun h13 => ?_)
      ·have h13 := of_decide_eq_true h13
       refine HT.seq (HT.region S_uniform_ok (So.q rfl rfl (V.ldPtr ty3 rfl rfl rfl (lk rfl) (v := .p (.v (.int .i64 _))) rfl (So.q rfl rfl (V.mv (v := .p (.v (.int .i64 _))) rfl (So.q rfl rfl (V.ixArrP10 ty25 ty3 rfl rfl rfl (by first | rfl | omega | (simp; done) | (simp; omega)) rfl (by omega) rfl (So.s (A.sto ty3 rfl rfl rfl (v := .p (.v (.int .i64 _))) rfl rfl rfl (by first | rfl | omega | (simp; done) | (simp; omega)) (c' := .rows (fun j => .v (.int .i64 ((stP (unN (spg 168 31 b 1680) s) (cY (spg 168 31 b 1680) s)).1 j)))) (congrArg (fun g => some (OC.rows g)) (funext fun j => by first | (rw [stP_y (st := (unN (spg 168 31 b 1680) s)) (x := cY (spg 168 31 b 1680) s) (by omega) (by omega)]; by_cases h9 : j = (unN (spg 168 31 b 1680) s).2 <;> simp [h9]; done))) rfl (So.e (HT.region S_uniform_ok (So.q rfl rfl (V.ldPtr ty3 rfl rfl rfl (lk rfl) (v := .p (.v (.int .i64 _))) rfl (So.q rfl rfl (V.addI rfl rfl (by omega) ?_)))))))))))))))
       refine So.s (A.sto ty3 rfl rfl rfl (v := .p (.v (.int .i64 _))) rfl rfl rfl (lk rfl) rfl rfl (So.e ?_))
       refine ⟨⟨trivial, (show _ ≤ _ by first | rfl | omega | (simp; done) | (simp; omega)), trivial, trivial, trivial, trivial, trivial, trivial, trivial, trivial, trivial, trivial, trivial, trivial, trivial, trivial, trivial, trivial, trivial, trivial, trivial, trivial, trivial, trivial, trivial, trivial, trivial, trivial, trivial⟩, ?_⟩
       refine Pl.e ?_
       refine Si.gy rfl rfl rfl (lk rfl) (lk rfl) ?_
       refine V.not (b := true) rfl ?_
       refine Si.n rfl (lk rfl) (V.pkFalse (u := .p (.v (.bool false))) rfl rfl (Si.e ?_))
       refine ⟨flEq_nil, ?_⟩
       show HT _ _ _ _ _
       refine R.condF rfl ?_
       refine HT.skip (HT.region S_uniform_ok (So.q rfl rfl (V.ldPtr ty22 rfl rfl rfl (lk rfl) (v := .p (.bs _)) rfl (So.q rfl rfl (V.cutBsL (mx := none) ty22 ty5 rfl rfl rfl (by omega) rfl (So.s (A.sto ty22 rfl rfl rfl (v := .p (.bs _)) rfl trivial rfl (lk rfl) rfl rfl (So.e ?_))))))))
       have hE := un_2 (b := (spg 168 31 b 1680)) (s := s) (by omega)
       refine ⟨s + 1, by first | rfl | omega | (simp; done) | (simp; omega), by omega, ⟨⟨⟨.refl _, trivial⟩, ⟨.refl _, rfl⟩, ⟨.refl _, trivial⟩, trivial⟩, ⟨⟨_, rfl, .inr (ob_rows (by first | rfl | ((try dsimp only); (intro j hj; first | rfl | (show _ = PV.v (.int .i64 ((stP (stP (unN (spg 168 31 b 1680) s) (cX (spg 168 31 b 1680) s)) (cY (spg 168 31 b 1680) s)).1 j)); rw [stP_n (st := (stP (unN (spg 168 31 b 1680) s) (cX (spg 168 31 b 1680) s))) (x := cY (spg 168 31 b 1680) s) (by omega)]; done) | (show _ = PV.v (.int .i64 ((stP (stP (unN (spg 168 31 b 1680) s) (cX (spg 168 31 b 1680) s)) (cY (spg 168 31 b 1680) s)).1 j)); rw [stP_n (st := (unN (spg 168 31 b 1680) s)) (x := cX (spg 168 31 b 1680) s) (by omega)]; done) | (show _ = PV.v (.int .i64 ((stP (stP (unN (spg 168 31 b 1680) s) (cX (spg 168 31 b 1680) s)) (cY (spg 168 31 b 1680) s)).1 j)); rw [stP_n (st := (unN (spg 168 31 b 1680) s)) (x := cX (spg 168 31 b 1680) s) (by omega), stP_n (st := (unN (spg 168 31 b 1680) s)) (x := cY (spg 168 31 b 1680) s) (by omega)]; done)))) (by first | rfl | ((try dsimp only); (intro j hj; first | rfl | (show _ = PV.v (.int .i64 ((stP (stP (unN (spg 168 31 b 1680) s) (cX (spg 168 31 b 1680) s)) (cY (spg 168 31 b 1680) s)).1 j)); rw [stP_n (st := (stP (unN (spg 168 31 b 1680) s) (cX (spg 168 31 b 1680) s))) (x := cY (spg 168 31 b 1680) s) (by omega)]; done) | (show _ = PV.v (.int .i64 ((stP (stP (unN (spg 168 31 b 1680) s) (cX (spg 168 31 b 1680) s)) (cY (spg 168 31 b 1680) s)).1 j)); rw [stP_n (st := (unN (spg 168 31 b 1680) s)) (x := cX (spg 168 31 b 1680) s) (by omega)]; done) | (show _ = PV.v (.int .i64 ((stP (stP (unN (spg 168 31 b 1680) s) (cX (spg 168 31 b 1680) s)) (cY (spg 168 31 b 1680) s)).1 j)); rw [stP_n (st := (unN (spg 168 31 b 1680) s)) (x := cX (spg 168 31 b 1680) s) (by omega), stP_n (st := (unN (spg 168 31 b 1680) s)) (x := cY (spg 168 31 b 1680) s) (by omega)]; done))))), trivial⟩, ⟨_, rfl, .inl (by first | (rw [show ((unN (spg 168 31 b 1680) (s + 1)).2 : Int) = ((unN (spg 168 31 b 1680) s).2 : Int) + 1 + 1 by omega]; first | done | rfl) | (rw [show ((unN (spg 168 31 b 1680) (s + 1)).2 : Int) = ((unN (spg 168 31 b 1680) s).2 : Int) + 1 by omega]; first | done | rfl) | (rw [show ((unN (spg 168 31 b 1680) (s + 1)).2 : Int) = ((unN (spg 168 31 b 1680) s).2 : Int) by omega]; first | done | rfl)), ⟨trivial, trivial⟩⟩, ⟨_, rfl, .inl (by show (⟨_, _, _, _, OC.cells [.p (.bs (List.drop 3 (List.drop (3 * s) (spg 168 31 b 1680))))]⟩ : OB) = ⟨_, _, _, _, OC.cells [.p (.bs (List.drop (3 * (s + 1)) (spg 168 31 b 1680)))]⟩; rw [List.drop_drop, show 3 * (s + 1) = 3 * s + 3 by omega]), ⟨trivial, trivial⟩⟩, ⟨_, rfl, .inl rfl, trivial⟩, trivial⟩⟩⟩
      ·have h13 := of_decide_eq_false h13
       refine HT.skip ?_
       refine ⟨⟨trivial, (show _ ≤ _ by first | rfl | omega | (simp; done) | (simp; omega)), trivial, trivial, trivial, trivial, trivial, trivial, trivial, trivial, trivial, trivial, trivial, trivial, trivial, trivial, trivial, trivial, trivial, trivial, trivial, trivial, trivial, trivial, trivial, trivial, trivial, trivial, trivial⟩, ?_⟩
       refine Pl.e ?_
       refine Si.gy rfl rfl rfl (lk rfl) (lk rfl) ?_
       refine V.not (b := true) rfl ?_
       refine Si.n rfl (lk rfl) (V.pkFalse (u := .p (.v (.bool false))) rfl rfl (Si.e ?_))
       refine ⟨flEq_nil, ?_⟩
       show HT _ _ _ _ _
       refine R.condF rfl ?_
       refine HT.skip (HT.region S_uniform_ok (So.q rfl rfl (V.ldPtr ty22 rfl rfl rfl (lk rfl) (v := .p (.bs _)) rfl (So.q rfl rfl (V.cutBsL (mx := none) ty22 ty5 rfl rfl rfl (by omega) rfl (So.s (A.sto ty22 rfl rfl rfl (v := .p (.bs _)) rfl trivial rfl (lk rfl) rfl rfl (So.e ?_))))))))
       have hE := un_2 (b := (spg 168 31 b 1680)) (s := s) (by omega)
       refine ⟨s + 1, by first | rfl | omega | (simp; done) | (simp; omega), by omega, ⟨⟨⟨.refl _, trivial⟩, ⟨.refl _, rfl⟩, ⟨.refl _, trivial⟩, trivial⟩, ⟨⟨_, rfl, .inr (ob_rows (by first | rfl | ((try dsimp only); (intro j hj; first | rfl | (show _ = PV.v (.int .i64 ((stP (stP (unN (spg 168 31 b 1680) s) (cX (spg 168 31 b 1680) s)) (cY (spg 168 31 b 1680) s)).1 j)); rw [stP_n (st := (stP (unN (spg 168 31 b 1680) s) (cX (spg 168 31 b 1680) s))) (x := cY (spg 168 31 b 1680) s) (by omega)]; done) | (show _ = PV.v (.int .i64 ((stP (stP (unN (spg 168 31 b 1680) s) (cX (spg 168 31 b 1680) s)) (cY (spg 168 31 b 1680) s)).1 j)); rw [stP_n (st := (unN (spg 168 31 b 1680) s)) (x := cX (spg 168 31 b 1680) s) (by omega)]; done) | (show _ = PV.v (.int .i64 ((stP (stP (unN (spg 168 31 b 1680) s) (cX (spg 168 31 b 1680) s)) (cY (spg 168 31 b 1680) s)).1 j)); rw [stP_n (st := (unN (spg 168 31 b 1680) s)) (x := cX (spg 168 31 b 1680) s) (by omega), stP_n (st := (unN (spg 168 31 b 1680) s)) (x := cY (spg 168 31 b 1680) s) (by omega)]; done)))) (by first | rfl | ((try dsimp only); (intro j hj; first | rfl | (show _ = PV.v (.int .i64 ((stP (stP (unN (spg 168 31 b 1680) s) (cX (spg 168 31 b 1680) s)) (cY (spg 168 31 b 1680) s)).1 j)); rw [stP_n (st := (stP (unN (spg 168 31 b 1680) s) (cX (spg 168 31 b 1680) s))) (x := cY (spg 168 31 b 1680) s) (by omega)]; done) | (show _ = PV.v (.int .i64 ((stP (stP (unN (spg 168 31 b 1680) s) (cX (spg 168 31 b 1680) s)) (cY (spg 168 31 b 1680) s)).1 j)); rw [stP_n (st := (unN (spg 168 31 b 1680) s)) (x := cX (spg 168 31 b 1680) s) (by omega)]; done) | (show _ = PV.v (.int .i64 ((stP (stP (unN (spg 168 31 b 1680) s) (cX (spg 168 31 b 1680) s)) (cY (spg 168 31 b 1680) s)).1 j)); rw [stP_n (st := (unN (spg 168 31 b 1680) s)) (x := cX (spg 168 31 b 1680) s) (by omega), stP_n (st := (unN (spg 168 31 b 1680) s)) (x := cY (spg 168 31 b 1680) s) (by omega)]; done))))), trivial⟩, ⟨_, rfl, .inl (by first | (rw [show ((unN (spg 168 31 b 1680) (s + 1)).2 : Int) = ((unN (spg 168 31 b 1680) s).2 : Int) + 1 + 1 by omega]; first | done | rfl) | (rw [show ((unN (spg 168 31 b 1680) (s + 1)).2 : Int) = ((unN (spg 168 31 b 1680) s).2 : Int) + 1 by omega]; first | done | rfl) | (rw [show ((unN (spg 168 31 b 1680) (s + 1)).2 : Int) = ((unN (spg 168 31 b 1680) s).2 : Int) by omega]; first | done | rfl)), ⟨trivial, trivial⟩⟩, ⟨_, rfl, .inl (by show (⟨_, _, _, _, OC.cells [.p (.bs (List.drop 3 (List.drop (3 * s) (spg 168 31 b 1680))))]⟩ : OB) = ⟨_, _, _, _, OC.cells [.p (.bs (List.drop (3 * (s + 1)) (spg 168 31 b 1680)))]⟩; rw [List.drop_drop, show 3 * (s + 1) = 3 * s + 3 by omega]), ⟨trivial, trivial⟩⟩, ⟨_, rfl, .inl rfl, trivial⟩, trivial⟩⟩⟩
  ·have h4 := of_decide_eq_false h4
   refine HT.exit ?_
   refine ⟨.inl rfl, ⟨(show _ ≤ _ by first | rfl | omega | (simp; done) | (simp; omega)), trivial, (show _ ≤ _ by first | rfl | omega | (simp; done) | (simp; omega)), (show _ ≤ _ by first | rfl | omega | (simp; done) | (simp; omega)), trivial⟩, .inl ⟨rfl, ?_⟩⟩
   show HT _ _ _ _ _
   refine HT.seq (HT.seq (HT.region S_uniform_ok ?_))
   have hdl9 : ((spg 168 31 b 1680).drop (3 * s)).length = 1680 - 3 * s := by rw [List.length_drop, spg_len]
   have hul9 := un_le (spg 168 31 b 1680) s
   refine So.q rfl rfl (V.ldPtr ty3 rfl rfl rfl (lk rfl) (v := .p (.v (.int .i64 _))) rfl (So.q rfl rfl (V.bin (a := (.v (.int .i64 _))) (b := (.v (.int .i64 (256)))) (r := .v (.bool _)) rfl rfl rfl trivial (So.e ?_))))
   show HT _ _ _ _ _
   refine R.cond rfl rfl (fun h14 => ?_) (fun h14 => ?_)
   ·have h14 := of_decide_eq_true h14
    refine HT.seq (HT.region S_uniform_ok (So.n (lk rfl) (A.bld0 ty25 rfl rfl rfl (f := fun _ => .v (.int .i64 0)) (fun _ _ => rfl) (So.s (A.stoAg ty25 rfl (n := 256) rfl (by decide) (by intro j hj; first | rfl | trivial) rfl rfl rfl (So.q rfl rfl (V.as (v := .p (.v (.int .i64 (51)))) rfl (So.e ?_))))))))
    show HT _ _ _ _ _
    refine HT.ret ?_
    exact retC_ok (sg []) [(2, .ptr 1 0), (3, .p (.v (.int .i64 ((uniF b).2))))] [(1, ⟨25, 1, 256, true, .rows (fun j => .v (.int .i64 ((uniF b).1 j)))⟩)] h ⟨⟨⟨.refl _, rfl⟩, ⟨le_int (by first | rfl | (rw [un_r0 (by omega)]; done) | (rw [un_f0 (s := s) (by omega) (by omega) (by omega)]; done) | (rw [un_f1 (s := s) (by omega) (by omega) (by omega) (by omega)]; done) | (replace hs : s = 560 := (by omega); subst hs; rw [un_r1 (by omega) (by omega)]; done) | (exfalso; omega)), trivial⟩, trivial⟩, ⟨⟨_, rfl, .inr (ob_rowsL (by intro j hj; (try simp only [Nat.zero_add]); first | (rw [un_r0 (by omega)]; exact .refl _) | (rw [un_f0 (s := s) (by omega) (by omega) (by omega)]; exact .refl _) | (rw [un_f1 (s := s) (by omega) (by omega) (by omega) (by omega)]; exact .refl _) | (have hs9 : s = 560 := (by omega); subst hs9; rw [un_r1 (by omega) (by omega)]; exact .refl _) | (exfalso; omega))), trivial⟩, trivial⟩⟩ ⟨rvA_cell ty25 rfl rfl rfl rfl (Nat.le_refl _) (le_agg (fun j _ => by first | rfl | (dsimp only; rw [Nat.zero_add]))), .refl _, trivial⟩ trivial rfl trivial ⟨trivial, trivial, trivial⟩ rfl
   ·have h14 := of_decide_eq_false h14
    refine HT.skip (HT.seq (HT.region S_uniform_ok (So.q rfl rfl (V.ldPtrA ty25 rfl rfl rfl rfl (lk rfl) (So.s (A.stoAg ty25 rfl (n := 256) rfl (by decide) (by intro j hj; first | rfl | trivial) rfl rfl rfl (So.q rfl rfl (V.as (v := .p (.v (.int .i64 (0)))) rfl (So.e ?_)))))))))
    show HT _ _ _ _ _
    refine HT.ret ?_
    exact retC_ok (sg []) [(2, .ptr 1 0), (3, .p (.v (.int .i64 ((uniF b).2))))] [(1, ⟨25, 1, 256, true, .rows (fun j => .v (.int .i64 ((uniF b).1 j)))⟩)] h ⟨⟨⟨.refl _, rfl⟩, ⟨le_int (by first | rfl | (rw [un_r0 (by omega)]; done) | (rw [un_f0 (s := s) (by omega) (by omega) (by omega)]; done) | (rw [un_f1 (s := s) (by omega) (by omega) (by omega) (by omega)]; done) | (replace hs : s = 560 := (by omega); subst hs; rw [un_r1 (by omega) (by omega)]; done) | (exfalso; omega)), trivial⟩, trivial⟩, ⟨⟨_, rfl, .inr (ob_rowsL (by intro j hj; (try simp only [Nat.zero_add]); first | (rw [un_r0 (by omega)]; exact .refl _) | (rw [un_f0 (s := s) (by omega) (by omega) (by omega)]; exact .refl _) | (rw [un_f1 (s := s) (by omega) (by omega) (by omega) (by omega)]; exact .refl _) | (have hs9 : s = 560 := (by omega); subst hs9; rw [un_r1 (by omega) (by omega)]; exact .refl _) | (exfalso; omega))), trivial⟩, trivial⟩⟩ ⟨rvA_cell ty25 rfl rfl rfl rfl (Nat.le_refl _) (le_agg (fun j _ => by first | rfl | (dsimp only; rw [Nat.zero_add]))), .refl _, trivial⟩ trivial rfl trivial ⟨trivial, trivial, trivial⟩ rfl
end Go.Vh
