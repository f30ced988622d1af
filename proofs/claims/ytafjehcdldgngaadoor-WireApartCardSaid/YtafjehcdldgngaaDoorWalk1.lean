/- What is proved: each function of the seat's program does what its contract says, wherever it is called; no condition. -/
import Derived.Test.YtafjehcdldgngaaDoorWalk0
set_option linter.unusedVariables false
set_option linter.unusedSimpArgs false
set_option linter.unusedVariables false
set_option linter.unusedSimpArgs false
namespace Go.Vw
open Go Go.Vc Go.Proofs

/-! ### sodality/sodalityref11.GetNumber -/
def rgetSp : Sp := ⟨[], mkE (α := (List UInt8) × Int × Int) (fun (b, i, n) => [.p (.bs (b)), .p (.v (.int .i64 (i))), .p (.v (.int .i64 (n)))]) (fun (b, i, n) => []) (fun (b, i, n) => True) (fun (b, i, n) => [.p (.v (.int .i64 ((getF b i n).1))), .p (.v (.int .i64 ((getF b i n).2.1))), .p (.v (.int .i64 ((getF b i n).2.2)))]) (fun (b, i, n) => [])⟩
def S13 : FuncId → Option Sp := fun _ => none
theorem S13_ok : ∀ f s, S13 f = some s → FOK Tryd.prog gl f s := fun f s h => by cases h
theorem S13_det : ∀ f s, S13 f = some s → SpDet s.sp := fun f s h => by cases h
set_option maxHeartbeats 1000000 in
theorem rget_ok : FOK Tryd.prog gl 13 rgetSp := by
  refine FOK.ofE (tyOf_ok Tryd.prog) (slots := [6, 7, 8]) (nt := 63) Tryd.func13 rfl rfl rfl rfl (by decide) 3 (fun ⟨_, _, _⟩ => rfl) (by decide) (fun ⟨_, _, _⟩ => ⟨trivial, trivial, trivial, trivial⟩) ?_
  rintro ⟨b, i, n⟩ kk hlen hpre h
  have hl0 : (b).length ≤ 9223372036854775807 := hlen.1
  replace hpre : True := hpre
  show HT ⟨Tryd.prog, 63, tyOf Tryd.prog, gl, []⟩ _ [(0, .p (.bs (b))), (1, .p (.v (.int .i64 (i)))), (2, .p (.v (.int .i64 (n))))] [] _
  refine HT.seq ?_
  refine HT.region S13_ok ?_
  refine So.n (Nat.le_of_ble_eq_true rfl) (A.v rfl (V.as (v := .p (.v (.int .i64 (0)))) rfl ?_))
  refine So.n (Nat.le_of_ble_eq_true rfl) (A.v rfl (V.as (v := .p (.v (.int .i64 (0)))) rfl ?_))
  refine So.n (Nat.le_of_ble_eq_true rfl) (A.v rfl (V.as (v := .p (.v (.int .i64 (0)))) rfl ?_))
  refine So.e ?_
  show HT _ _ _ _ _
  refine HT.seq ?_
  refine HT.seq ?_
  refine HT.region S13_ok ?_
  refine So.n (Nat.le_of_ble_eq_true rfl) (A.v rfl (V.mv (v := .p (.v (.int .i64 _))) rfl ?_))
  refine So.n (Nat.le_of_ble_eq_true rfl) (A.v rfl (V.bin (a := (.v (.int .i64 _))) (b := (.v (.int .i64 (0)))) (r := .v (.bool _)) rfl rfl rfl trivial ?_))
  refine So.n (Nat.le_of_ble_eq_true rfl) (A.v rfl (V.mv (v := .p (.v (.bool _))) rfl ?_))
  refine So.gd rfl rfl (Nat.le_of_ble_eq_true rfl) (Nat.le_of_ble_eq_true rfl) (fun h1 => ?_) (fun h1 => ?_)
  · have h1 := of_decide_eq_false h1
    refine A.v rfl (V.mv (v := .p (.v (.int .i64 _))) rfl ?_)
    refine So.gy rfl rfl (Nat.le_of_ble_eq_true rfl) (Nat.le_of_ble_eq_true rfl) ?_
    refine A.v rfl (V.mv (v := .p (.bs _)) rfl ?_)
    refine So.gy rfl rfl (Nat.le_of_ble_eq_true rfl) (Nat.le_of_ble_eq_true rfl) ?_
    refine A.v rfl (V.len ty22 (v := .p (.bs _)) rfl rfl ?_)
    refine So.gy rfl rfl (Nat.le_of_ble_eq_true rfl) (Nat.le_of_ble_eq_true rfl) ?_
    refine A.v rfl (V.bin (a := (.v (.int .i64 _))) (b := (.v (.int .i64 _))) (r := .v (.bool _)) rfl rfl rfl trivial ?_)
    refine So.n (Nat.le_of_ble_eq_true rfl) (A.v rfl (V.pkFalse (u := .p (.v (.bool _))) rfl rfl ?_))
    refine So.n (Nat.le_of_ble_eq_true rfl) (A.v rfl (V.mv (v := .p (.v (.bool _))) rfl ?_))
    refine So.gd rfl rfl (Nat.le_of_ble_eq_true rfl) (Nat.le_of_ble_eq_true rfl) (fun h2 => ?_) (fun h2 => ?_)
    · have h2 := of_decide_eq_false h2
      refine A.v rfl (V.mv (v := .p (.v (.int .i64 _))) rfl ?_)
      refine So.gy rfl rfl (Nat.le_of_ble_eq_true rfl) (Nat.le_of_ble_eq_true rfl) ?_
      refine A.v rfl (V.bin (a := (.v (.int .i64 _))) (b := (.v (.int .i64 (1)))) (r := .v (.bool _)) rfl rfl rfl trivial ?_)
      refine So.gy rfl rfl (Nat.le_of_ble_eq_true rfl) (Nat.le_of_ble_eq_true rfl) ?_
      refine A.v rfl (V.mv (v := .p (.v (.bool _))) rfl ?_)
      refine So.gd rfl rfl (Nat.le_of_ble_eq_true rfl) (Nat.le_of_ble_eq_true rfl) (fun h3 => ?_) (fun h3 => ?_)
      · have h3 := of_decide_eq_false (bnT h3)
        refine A.v rfl (V.mv (v := .p (.v (.int .i64 _))) rfl ?_)
        refine So.gy rfl rfl (Nat.le_of_ble_eq_true rfl) (Nat.le_of_ble_eq_true rfl) ?_
        refine A.v rfl (V.bin (a := (.v (.int .i64 _))) (b := (.v (.int .i64 (2)))) (r := .v (.bool _)) rfl rfl rfl trivial ?_)
        refine So.gy rfl rfl (Nat.le_of_ble_eq_true rfl) (Nat.le_of_ble_eq_true rfl) ?_
        refine A.v rfl (V.pkTrue (u := .p (.v (.bool _))) rfl rfl ?_)
        refine So.gy rfl rfl (Nat.le_of_ble_eq_true rfl) (Nat.le_of_ble_eq_true rfl) ?_
        refine A.v rfl (V.mv (v := .p (.v (.bool _))) rfl ?_)
        refine So.gd rfl rfl (Nat.le_of_ble_eq_true rfl) (Nat.le_of_ble_eq_true rfl) (fun h4 => ?_) (fun h4 => ?_)
        · have h4 := of_decide_eq_false (bnT h4)
          refine A.v rfl (V.mv (v := .p (.v (.int .i64 _))) rfl ?_)
          refine So.gy rfl rfl (Nat.le_of_ble_eq_true rfl) (Nat.le_of_ble_eq_true rfl) ?_
          refine A.v rfl (V.bin (a := (.v (.int .i64 _))) (b := (.v (.int .i64 (4)))) (r := .v (.bool _)) rfl rfl rfl trivial ?_)
          refine So.gy rfl rfl (Nat.le_of_ble_eq_true rfl) (Nat.le_of_ble_eq_true rfl) ?_
          refine A.v rfl (V.pkTrue (u := .p (.v (.bool _))) rfl rfl ?_)
          refine So.gy rfl rfl (Nat.le_of_ble_eq_true rfl) (Nat.le_of_ble_eq_true rfl) ?_
          refine A.v rfl (V.mv (v := .p (.v (.bool _))) rfl ?_)
          refine So.gd rfl rfl (Nat.le_of_ble_eq_true rfl) (Nat.le_of_ble_eq_true rfl) (fun h5 => ?_) (fun h5 => ?_)
          · have h5 := of_decide_eq_false (bnT h5)
            refine A.v rfl (V.mv (v := .p (.v (.int .i64 _))) rfl ?_)
            refine So.gy rfl rfl (Nat.le_of_ble_eq_true rfl) (Nat.le_of_ble_eq_true rfl) ?_
            refine A.v rfl (V.bin (a := (.v (.int .i64 _))) (b := (.v (.int .i64 (8)))) (r := .v (.bool _)) rfl rfl rfl trivial ?_)
            refine So.gy rfl rfl (Nat.le_of_ble_eq_true rfl) (Nat.le_of_ble_eq_true rfl) ?_
            refine A.v rfl (V.pkTrue (u := .p (.v (.bool _))) rfl rfl ?_)
            refine So.n (Nat.le_of_ble_eq_true rfl) (A.v rfl (V.pkFalse (u := .p (.v (.bool _))) rfl rfl ?_))
            refine So.e ?_
            show HT _ _ _ _ _
            refine R.cond rfl rfl (fun h6 => ?_) (fun h6 => ?_)
            · have h6 := of_decide_eq_false (bnT h6)
              refine HT.seq ?_
              refine HT.region S13_ok ?_
              refine So.n (Nat.le_of_ble_eq_true rfl) (A.v rfl (V.as (v := .p (.v (.int .i64 (0)))) rfl ?_))
              refine So.n (Nat.le_of_ble_eq_true rfl) (A.v rfl (V.as (v := .p (.v (.int .i64 (0)))) rfl ?_))
              refine So.n (Nat.le_of_ble_eq_true rfl) (A.v rfl (V.as (v := .p (.v (.int .i64 (1)))) rfl ?_))
              refine So.e ?_
              show HT _ _ _ _ _
              refine HT.ret ?_
              exact ret_ok (sg []) h rfl rfl rfl trivial ⟨trivial, trivial, trivial, trivial⟩ rfl ⟨⟨⟨le_int (by first | (rw [getF_arg (by omega)]; done) | (rw [getF_end (by omega) (by omega) (by omega) (by omega)]; done) | (rw [getF_longU (by omega) (by omega) (by omega) (by omega) (by omega)]; done) | (rw [getF_okU (by omega) (by omega) (by omega) (by omega) (by omega)]; done)), trivial⟩, ⟨le_int (by first | (rw [getF_arg (by omega)]; done) | (rw [getF_end (by omega) (by omega) (by omega) (by omega)]; done) | (rw [getF_longU (by omega) (by omega) (by omega) (by omega) (by omega)]; done) | (rw [getF_okU (by omega) (by omega) (by omega) (by omega) (by omega)]; done)), trivial⟩, ⟨le_int (by first | (rw [getF_arg (by omega)]; done) | (rw [getF_end (by omega) (by omega) (by omega) (by omega)]; done) | (rw [getF_longU (by omega) (by omega) (by omega) (by omega) (by omega)]; done) | (rw [getF_okU (by omega) (by omega) (by omega) (by omega) (by omega)]; done)), trivial⟩, trivial⟩, trivial⟩
            · have h6 := of_decide_eq_true (bnF h6)
              refine HT.skip ?_
              show HT _ _ _ _ _
              refine HT.seq ?_
              refine HT.seq ?_
              refine HT.region S13_ok ?_
              refine So.n (Nat.le_of_ble_eq_true rfl) (A.v rfl (V.mv (v := .p (.bs _)) rfl ?_))
              refine So.n (Nat.le_of_ble_eq_true rfl) (A.v rfl (V.len ty22 (v := .p (.bs _)) rfl rfl ?_))
              refine So.n (Nat.le_of_ble_eq_true rfl) (A.v rfl (V.mv (v := .p (.v (.int .i64 _))) rfl ?_))
              refine So.n (Nat.le_of_ble_eq_true rfl) (A.v rfl (V.subI rfl rfl (by omega) ?_))
              refine So.n (Nat.le_of_ble_eq_true rfl) (A.v rfl (V.mv (v := .p (.v (.int .i64 _))) rfl ?_))
              refine So.n (Nat.le_of_ble_eq_true rfl) (A.v rfl (V.bin (a := (.v (.int .i64 _))) (b := (.v (.int .i64 _))) (r := .v (.bool _)) rfl rfl rfl trivial ?_))
              refine So.e ?_
              show HT _ _ _ _ _
              refine R.cond rfl rfl (fun h7 => ?_) (fun h7 => ?_)
              · have h7 := of_decide_eq_true h7
                refine HT.seq ?_
                refine HT.region S13_ok ?_
                refine So.n (Nat.le_of_ble_eq_true rfl) (A.v rfl (V.as (v := .p (.v (.int .i64 (0)))) rfl ?_))
                refine So.n (Nat.le_of_ble_eq_true rfl) (A.v rfl (V.as (v := .p (.v (.int .i64 (0)))) rfl ?_))
                refine So.n (Nat.le_of_ble_eq_true rfl) (A.v rfl (V.as (v := .p (.v (.int .i64 (111)))) rfl ?_))
                refine So.e ?_
                show HT _ _ _ _ _
                refine HT.ret ?_
                exact ret_ok (sg []) h rfl rfl rfl trivial ⟨trivial, trivial, trivial, trivial⟩ rfl ⟨⟨⟨le_int (by first | (rw [getF_arg (by omega)]; done) | (rw [getF_end (by omega) (by omega) (by omega) (by omega)]; done) | (rw [getF_longU (by omega) (by omega) (by omega) (by omega) (by omega)]; done) | (rw [getF_okU (by omega) (by omega) (by omega) (by omega) (by omega)]; done)), trivial⟩, ⟨le_int (by first | (rw [getF_arg (by omega)]; done) | (rw [getF_end (by omega) (by omega) (by omega) (by omega)]; done) | (rw [getF_longU (by omega) (by omega) (by omega) (by omega) (by omega)]; done) | (rw [getF_okU (by omega) (by omega) (by omega) (by omega) (by omega)]; done)), trivial⟩, ⟨le_int (by first | (rw [getF_arg (by omega)]; done) | (rw [getF_end (by omega) (by omega) (by omega) (by omega)]; done) | (rw [getF_longU (by omega) (by omega) (by omega) (by omega) (by omega)]; done) | (rw [getF_okU (by omega) (by omega) (by omega) (by omega) (by omega)]; done)), trivial⟩, trivial⟩, trivial⟩
              · have h7 := of_decide_eq_false h7
                refine HT.skip ?_
                show HT _ _ _ _ _
                refine HT.seq ?_
                refine HT.region S13_ok ?_
                refine So.n (Nat.le_of_ble_eq_true rfl) (A.v rfl (V.as (v := .p (.u64 0)) rfl ?_))
                refine So.e ?_
                show HT _ _ _ _ _
                refine HT.seq ?_
                refine HT.seq ?_
                refine HT.region S13_ok ?_
                refine So.n (Nat.le_of_ble_eq_true rfl) (A.v rfl (V.as (v := .p (.v (.int .i64 (0)))) rfl ?_))
                refine So.e ?_
                show HT _ _ _ _ _
                refine HT.block ?_
                refine R.loop (σ := Nat) (fun s => [(9, .p (.u64 (UInt64.ofNat (beN (((b.take (i + n).toNat).drop i.toNat).take s))))), (10, .p (.v (.int .i64 ((s : Int)))))]) (fun s => []) [0, 1, 2, 6, 7, 8] [] (fun s => s ≤ n.toNat) (fun s => n.toNat - s) (0) (fr0 := [(0, .p (.bs _)), (1, .p (.v (.int .i64 _))), (2, .p (.v (.int .i64 _))), (6, .p (.v (.int .i64 _))), (7, .p (.v (.int .i64 _))), (8, .p (.v (.int .i64 _)))]) (O0 := []) rfl rfl (by first | rfl | omega | (simp; done) | (simp; omega)) ⟨⟨⟨le_u64 (by first | rfl | omega | (simp; done) | (simp; omega)), trivial⟩, ⟨le_int (by first | rfl | omega | (simp; done) | (simp; omega)), trivial⟩, ⟨.refl _, trivial⟩, ⟨.refl _, trivial⟩, ⟨.refl _, trivial⟩, ⟨.refl _, trivial⟩, ⟨.refl _, trivial⟩, ⟨.refl _, trivial⟩, trivial⟩, trivial⟩ (fun s hP0 => ?_)
                have hcl := @cut_len b i n (by omega) (by omega) (by omega)
                refine HT.seq ?_
                refine HT.seq ?_
                refine HT.region S13_ok ?_
                refine So.n (Nat.le_of_ble_eq_true rfl) (A.v rfl (V.mv (v := .p (.v (.int .i64 ((_ : Nat) : Int)))) rfl ?_))
                refine So.n (Nat.le_of_ble_eq_true rfl) (A.v rfl (V.mv (v := .p (.v (.int .i64 _))) rfl ?_))
                refine So.n (Nat.le_of_ble_eq_true rfl) (A.v rfl (V.bin (a := (.v (.int .i64 ((_ : Nat) : Int)))) (b := (.v (.int .i64 _))) (r := .v (.bool _)) rfl rfl rfl trivial ?_))
                refine So.e ?_
                show HT _ _ _ _ _
                refine R.cond rfl rfl (fun h8 => ?_) (fun h8 => ?_)
                · have h8 := of_decide_eq_true h8
                  refine HT.skip ?_
                  show HT _ _ _ _ _
                  refine HT.seq ?_
                  refine HT.block ?_
                  refine HT.region S13_ok ?_
                  refine So.n (Nat.le_of_ble_eq_true rfl) (A.v rfl (V.mv (v := .p (.u64 _)) rfl ?_))
                  refine So.n (Nat.le_of_ble_eq_true rfl) (A.v rfl (V.shlC (n := 8) (a := (.u64 _)) (b := (.u64 8)) (r := .u64 (u64Shl _ 8)) rfl rfl rfl rfl ?_))
                  refine So.n (Nat.le_of_ble_eq_true rfl) (A.v rfl (V.mv (v := .p (.bs _)) rfl ?_))
                  refine So.n (Nat.le_of_ble_eq_true rfl) (A.v rfl (V.mv (v := .p (.v (.int .i64 _))) rfl ?_))
                  refine So.n (Nat.le_of_ble_eq_true rfl) (A.v rfl (V.mv (v := .p (.v (.int .i64 ((_ : Nat) : Int)))) rfl ?_))
                  refine So.n (Nat.le_of_ble_eq_true rfl) (A.v rfl (V.addI rfl rfl (by omega) ?_))
                  refine So.n (Nat.le_of_ble_eq_true rfl) (A.v rfl (V.ixBs ty22 ty5 rfl rfl rfl (by omega) rfl ?_))
                  refine So.n (Nat.le_of_ble_eq_true rfl) (A.v rfl (V.ldRp ty5 rfl rfl (Nat.le_of_ble_eq_true rfl) (v := (.u8 _)) rfl ?_))
                  refine So.n (Nat.le_of_ble_eq_true rfl) (A.v rfl (V.cvN ty48 ty5 (a := (.u8 _)) (r := (.u64 _)) rfl rfl ?_))
                  refine So.n (Nat.le_of_ble_eq_true rfl) (A.v rfl (V.bin (a := (.u64 _)) (b := (.u64 _)) (r := .u64 _) rfl rfl rfl trivial ?_))
                  refine So.n (Nat.le_of_ble_eq_true rfl) (A.v rfl (V.as (v := .p (.u64 _)) rfl ?_))
                  refine So.e ?_
                  show HT _ _ _ _ _
                  refine HT.region S13_ok ?_
                  refine So.n (Nat.le_of_ble_eq_true rfl) (A.v rfl (V.mv (v := .p (.v (.int .i64 ((_ : Nat) : Int)))) rfl ?_))
                  refine So.n (Nat.le_of_ble_eq_true rfl) (A.v rfl (V.addI rfl rfl (by omega) ?_))
                  refine So.n (Nat.le_of_ble_eq_true rfl) (A.v rfl (V.as (v := .p (.v (.int .i64 _))) rfl ?_))
                  refine So.e ?_
                  refine ⟨s + 1, by first | rfl | omega | (simp; done) | (simp; omega), by omega, ⟨⟨⟨le_u64 (by first | rfl | (rw [cut_get (n := n) (by omega) (by omega) (by omega), u64_step, beN_take (by omega)])), trivial⟩, ⟨le_int (by first | rfl | omega | (simp; done) | (simp; omega)), trivial⟩, ⟨.refl _, trivial⟩, ⟨.refl _, trivial⟩, ⟨.refl _, trivial⟩, ⟨.refl _, trivial⟩, ⟨.refl _, trivial⟩, ⟨.refl _, trivial⟩, trivial⟩, trivial⟩⟩
                · have h8 := of_decide_eq_false h8
                  refine HT.exit ?_
                  show HT _ _ _ _ _
                  refine HT.seq ?_
                  refine HT.seq ?_
                  refine HT.region S13_ok ?_
                  replace hP0 : s = n.toNat := by omega
                  rw [show ((b.take (i + n).toNat).drop i.toNat).take s = ((b.take (i + n).toNat).drop i.toNat) from List.take_of_length_le (by omega)]
                  refine So.n (Nat.le_of_ble_eq_true rfl) (A.v rfl (V.mv (v := .p (.u64 _)) rfl ?_))
                  refine So.n (Nat.le_of_ble_eq_true rfl) (A.v rfl (V.bin (a := (.u64 _)) (b := (.u64 9223372036854775807)) (r := .v (.bool _)) rfl rfl rfl trivial ?_))
                  refine So.e ?_
                  show HT _ _ _ _ _
                  refine R.cond rfl rfl (fun h9 => ?_) (fun h9 => ?_)
                  · have h9 := UInt64.lt_iff_toNat_lt.1 (of_decide_eq_true h9)
                    rw [show (9223372036854775807 : UInt64).toNat = 9223372036854775807 from rfl] at h9
                    refine HT.seq ?_
                    refine HT.region S13_ok ?_
                    refine So.n (Nat.le_of_ble_eq_true rfl) (A.v rfl (V.as (v := .p (.v (.int .i64 (0)))) rfl ?_))
                    refine So.n (Nat.le_of_ble_eq_true rfl) (A.v rfl (V.as (v := .p (.v (.int .i64 (0)))) rfl ?_))
                    refine So.n (Nat.le_of_ble_eq_true rfl) (A.v rfl (V.as (v := .p (.v (.int .i64 (112)))) rfl ?_))
                    refine So.e ?_
                    show HT _ _ _ _ _
                    refine HT.ret ?_
                    exact ret_ok (sg []) h rfl rfl rfl trivial ⟨trivial, trivial, trivial, trivial⟩ rfl ⟨⟨⟨le_int (by first | (rw [getF_arg (by omega)]; done) | (rw [getF_end (by omega) (by omega) (by omega) (by omega)]; done) | (rw [getF_longU (by omega) (by omega) (by omega) (by omega) (by omega)]; done) | (rw [getF_okU (by omega) (by omega) (by omega) (by omega) (by omega)]; done)), trivial⟩, ⟨le_int (by first | (rw [getF_arg (by omega)]; done) | (rw [getF_end (by omega) (by omega) (by omega) (by omega)]; done) | (rw [getF_longU (by omega) (by omega) (by omega) (by omega) (by omega)]; done) | (rw [getF_okU (by omega) (by omega) (by omega) (by omega) (by omega)]; done)), trivial⟩, ⟨le_int (by first | (rw [getF_arg (by omega)]; done) | (rw [getF_end (by omega) (by omega) (by omega) (by omega)]; done) | (rw [getF_longU (by omega) (by omega) (by omega) (by omega) (by omega)]; done) | (rw [getF_okU (by omega) (by omega) (by omega) (by omega) (by omega)]; done)), trivial⟩, trivial⟩, trivial⟩
                  · have h9 := mt UInt64.lt_iff_toNat_lt.2 (of_decide_eq_false h9)
                    rw [show (9223372036854775807 : UInt64).toNat = 9223372036854775807 from rfl] at h9
                    refine HT.skip ?_
                    show HT _ _ _ _ _
                    refine HT.seq ?_
                    refine HT.region S13_ok ?_
                    refine So.n (Nat.le_of_ble_eq_true rfl) (A.v rfl (V.mv (v := .p (.u64 _)) rfl ?_))
                    refine So.n (Nat.le_of_ble_eq_true rfl) (A.v rfl (V.cvN ty2 ty48 (a := (.u64 _)) (r := (.v (.int .i64 _))) rfl rfl ?_))
                    refine So.n (Nat.le_of_ble_eq_true rfl) (A.v rfl (V.mv (v := .p (.v (.int .i64 _))) rfl ?_))
                    refine So.n (Nat.le_of_ble_eq_true rfl) (A.v rfl (V.mv (v := .p (.v (.int .i64 _))) rfl ?_))
                    refine So.n (Nat.le_of_ble_eq_true rfl) (A.v rfl (V.addI rfl rfl (by omega) ?_))
                    refine So.n (Nat.le_of_ble_eq_true rfl) (A.v rfl (V.as (v := .p (.v (.int .i64 _))) rfl ?_))
                    refine So.n (Nat.le_of_ble_eq_true rfl) (A.v rfl (V.as (v := .p (.v (.int .i64 _))) rfl ?_))
                    refine So.n (Nat.le_of_ble_eq_true rfl) (A.v rfl (V.as (v := .p (.v (.int .i64 (0)))) rfl ?_))
                    refine So.e ?_
                    show HT _ _ _ _ _
                    refine HT.ret ?_
                    exact ret_ok (sg []) h rfl rfl rfl trivial ⟨trivial, trivial, trivial, trivial⟩ rfl ⟨⟨⟨le_int (by first | (rw [getF_arg (by omega)]; done) | (rw [getF_end (by omega) (by omega) (by omega) (by omega)]; done) | (rw [getF_longU (by omega) (by omega) (by omega) (by omega) (by omega)]; done) | (rw [getF_okU (by omega) (by omega) (by omega) (by omega) (by omega)]; done)), trivial⟩, ⟨le_int (by first | (rw [getF_arg (by omega)]; done) | (rw [getF_end (by omega) (by omega) (by omega) (by omega)]; done) | (rw [getF_longU (by omega) (by omega) (by omega) (by omega) (by omega)]; done) | (rw [getF_okU (by omega) (by omega) (by omega) (by omega) (by omega)]; done)), trivial⟩, ⟨le_int (by first | (rw [getF_arg (by omega)]; done) | (rw [getF_end (by omega) (by omega) (by omega) (by omega)]; done) | (rw [getF_longU (by omega) (by omega) (by omega) (by omega) (by omega)]; done) | (rw [getF_okU (by omega) (by omega) (by omega) (by omega) (by omega)]; done)), trivial⟩, trivial⟩, trivial⟩
          · have h5 := of_decide_eq_true (bnF h5)
            refine So.gn (b := false) rfl rfl rfl (Nat.le_of_ble_eq_true rfl) (Nat.le_of_ble_eq_true rfl) ?_
            refine So.gy rfl rfl (Nat.le_of_ble_eq_true rfl) (Nat.le_of_ble_eq_true rfl) ?_
            refine A.v rfl (V.pkFalse (u := .p (.v (.bool false))) rfl rfl ?_)
            refine So.n (Nat.le_of_ble_eq_true rfl) (A.v rfl (V.pkFalse (u := .p (.v (.bool false))) rfl rfl ?_))
            refine So.e ?_
            show HT _ _ _ _ _
            refine R.condF rfl ?_
            refine HT.skip ?_
            show HT _ _ _ _ _
            refine HT.seq ?_
            refine HT.seq ?_
            refine HT.region S13_ok ?_
            refine So.n (Nat.le_of_ble_eq_true rfl) (A.v rfl (V.mv (v := .p (.bs _)) rfl ?_))
            refine So.n (Nat.le_of_ble_eq_true rfl) (A.v rfl (V.len ty22 (v := .p (.bs _)) rfl rfl ?_))
            refine So.n (Nat.le_of_ble_eq_true rfl) (A.v rfl (V.mv (v := .p (.v (.int .i64 _))) rfl ?_))
            refine So.n (Nat.le_of_ble_eq_true rfl) (A.v rfl (V.subI rfl rfl (by omega) ?_))
            refine So.n (Nat.le_of_ble_eq_true rfl) (A.v rfl (V.mv (v := .p (.v (.int .i64 _))) rfl ?_))
            refine So.n (Nat.le_of_ble_eq_true rfl) (A.v rfl (V.bin (a := (.v (.int .i64 _))) (b := (.v (.int .i64 _))) (r := .v (.bool _)) rfl rfl rfl trivial ?_))
            refine So.e ?_
            show HT _ _ _ _ _
            refine R.cond rfl rfl (fun h10 => ?_) (fun h10 => ?_)
            · have h10 := of_decide_eq_true h10
              refine HT.seq ?_
              refine HT.region S13_ok ?_
              refine So.n (Nat.le_of_ble_eq_true rfl) (A.v rfl (V.as (v := .p (.v (.int .i64 (0)))) rfl ?_))
              refine So.n (Nat.le_of_ble_eq_true rfl) (A.v rfl (V.as (v := .p (.v (.int .i64 (0)))) rfl ?_))
              refine So.n (Nat.le_of_ble_eq_true rfl) (A.v rfl (V.as (v := .p (.v (.int .i64 (111)))) rfl ?_))
              refine So.e ?_
              show HT _ _ _ _ _
              refine HT.ret ?_
              exact ret_ok (sg []) h rfl rfl rfl trivial ⟨trivial, trivial, trivial, trivial⟩ rfl ⟨⟨⟨le_int (by first | (rw [getF_arg (by omega)]; done) | (rw [getF_end (by omega) (by omega) (by omega) (by omega)]; done) | (rw [getF_longU (by omega) (by omega) (by omega) (by omega) (by omega)]; done) | (rw [getF_okU (by omega) (by omega) (by omega) (by omega) (by omega)]; done)), trivial⟩, ⟨le_int (by first | (rw [getF_arg (by omega)]; done) | (rw [getF_end (by omega) (by omega) (by omega) (by omega)]; done) | (rw [getF_longU (by omega) (by omega) (by omega) (by omega) (by omega)]; done) | (rw [getF_okU (by omega) (by omega) (by omega) (by omega) (by omega)]; done)), trivial⟩, ⟨le_int (by first | (rw [getF_arg (by omega)]; done) | (rw [getF_end (by omega) (by omega) (by omega) (by omega)]; done) | (rw [getF_longU (by omega) (by omega) (by omega) (by omega) (by omega)]; done) | (rw [getF_okU (by omega) (by omega) (by omega) (by omega) (by omega)]; done)), trivial⟩, trivial⟩, trivial⟩
            · have h10 := of_decide_eq_false h10
              refine HT.skip ?_
              show HT _ _ _ _ _
              refine HT.seq ?_
              refine HT.region S13_ok ?_
              refine So.n (Nat.le_of_ble_eq_true rfl) (A.v rfl (V.as (v := .p (.u64 0)) rfl ?_))
              refine So.e ?_
              show HT _ _ _ _ _
              refine HT.seq ?_
              refine HT.seq ?_
              refine HT.region S13_ok ?_
              refine So.n (Nat.le_of_ble_eq_true rfl) (A.v rfl (V.as (v := .p (.v (.int .i64 (0)))) rfl ?_))
              refine So.e ?_
              show HT _ _ _ _ _
              refine HT.block ?_
              refine R.loop (σ := Nat) (fun s => [(9, .p (.u64 (UInt64.ofNat (beN (((b.take (i + n).toNat).drop i.toNat).take s))))), (10, .p (.v (.int .i64 ((s : Int)))))]) (fun s => []) [0, 1, 2, 6, 7, 8] [] (fun s => s ≤ n.toNat) (fun s => n.toNat - s) (0) (fr0 := [(0, .p (.bs _)), (1, .p (.v (.int .i64 _))), (2, .p (.v (.int .i64 _))), (6, .p (.v (.int .i64 _))), (7, .p (.v (.int .i64 _))), (8, .p (.v (.int .i64 _)))]) (O0 := []) rfl rfl (by first | rfl | omega | (simp; done) | (simp; omega)) ⟨⟨⟨le_u64 (by first | rfl | omega | (simp; done) | (simp; omega)), trivial⟩, ⟨le_int (by first | rfl | omega | (simp; done) | (simp; omega)), trivial⟩, ⟨.refl _, trivial⟩, ⟨.refl _, trivial⟩, ⟨.refl _, trivial⟩, ⟨.refl _, trivial⟩, ⟨.refl _, trivial⟩, ⟨.refl _, trivial⟩, trivial⟩, trivial⟩ (fun s hP0 => ?_)
              have hcl := @cut_len b i n (by omega) (by omega) (by omega)
              refine HT.seq ?_
              refine HT.seq ?_
              refine HT.region S13_ok ?_
              refine So.n (Nat.le_of_ble_eq_true rfl) (A.v rfl (V.mv (v := .p (.v (.int .i64 ((_ : Nat) : Int)))) rfl ?_))
              refine So.n (Nat.le_of_ble_eq_true rfl) (A.v rfl (V.mv (v := .p (.v (.int .i64 _))) rfl ?_))
              refine So.n (Nat.le_of_ble_eq_true rfl) (A.v rfl (V.bin (a := (.v (.int .i64 ((_ : Nat) : Int)))) (b := (.v (.int .i64 _))) (r := .v (.bool _)) rfl rfl rfl trivial ?_))
              refine So.e ?_
              show HT _ _ _ _ _
              refine R.cond rfl rfl (fun h11 => ?_) (fun h11 => ?_)
              · have h11 := of_decide_eq_true h11
                refine HT.skip ?_
                show HT _ _ _ _ _
                refine HT.seq ?_
                refine HT.block ?_
                refine HT.region S13_ok ?_
                refine So.n (Nat.le_of_ble_eq_true rfl) (A.v rfl (V.mv (v := .p (.u64 _)) rfl ?_))
                refine So.n (Nat.le_of_ble_eq_true rfl) (A.v rfl (V.shlC (n := 8) (a := (.u64 _)) (b := (.u64 8)) (r := .u64 (u64Shl _ 8)) rfl rfl rfl rfl ?_))
                refine So.n (Nat.le_of_ble_eq_true rfl) (A.v rfl (V.mv (v := .p (.bs _)) rfl ?_))
                refine So.n (Nat.le_of_ble_eq_true rfl) (A.v rfl (V.mv (v := .p (.v (.int .i64 _))) rfl ?_))
                refine So.n (Nat.le_of_ble_eq_true rfl) (A.v rfl (V.mv (v := .p (.v (.int .i64 ((_ : Nat) : Int)))) rfl ?_))
                refine So.n (Nat.le_of_ble_eq_true rfl) (A.v rfl (V.addI rfl rfl (by omega) ?_))
                refine So.n (Nat.le_of_ble_eq_true rfl) (A.v rfl (V.ixBs ty22 ty5 rfl rfl rfl (by omega) rfl ?_))
                refine So.n (Nat.le_of_ble_eq_true rfl) (A.v rfl (V.ldRp ty5 rfl rfl (Nat.le_of_ble_eq_true rfl) (v := (.u8 _)) rfl ?_))
                refine So.n (Nat.le_of_ble_eq_true rfl) (A.v rfl (V.cvN ty48 ty5 (a := (.u8 _)) (r := (.u64 _)) rfl rfl ?_))
                refine So.n (Nat.le_of_ble_eq_true rfl) (A.v rfl (V.bin (a := (.u64 _)) (b := (.u64 _)) (r := .u64 _) rfl rfl rfl trivial ?_))
                refine So.n (Nat.le_of_ble_eq_true rfl) (A.v rfl (V.as (v := .p (.u64 _)) rfl ?_))
                refine So.e ?_
                show HT _ _ _ _ _
                refine HT.region S13_ok ?_
                refine So.n (Nat.le_of_ble_eq_true rfl) (A.v rfl (V.mv (v := .p (.v (.int .i64 ((_ : Nat) : Int)))) rfl ?_))
                refine So.n (Nat.le_of_ble_eq_true rfl) (A.v rfl (V.addI rfl rfl (by omega) ?_))
                refine So.n (Nat.le_of_ble_eq_true rfl) (A.v rfl (V.as (v := .p (.v (.int .i64 _))) rfl ?_))
                refine So.e ?_
                refine ⟨s + 1, by first | rfl | omega | (simp; done) | (simp; omega), by omega, ⟨⟨⟨le_u64 (by first | rfl | (rw [cut_get (n := n) (by omega) (by omega) (by omega), u64_step, beN_take (by omega)])), trivial⟩, ⟨le_int (by first | rfl | omega | (simp; done) | (simp; omega)), trivial⟩, ⟨.refl _, trivial⟩, ⟨.refl _, trivial⟩, ⟨.refl _, trivial⟩, ⟨.refl _, trivial⟩, ⟨.refl _, trivial⟩, ⟨.refl _, trivial⟩, trivial⟩, trivial⟩⟩
              · have h11 := of_decide_eq_false h11
                refine HT.exit ?_
                show HT _ _ _ _ _
                refine HT.seq ?_
                refine HT.seq ?_
                refine HT.region S13_ok ?_
                replace hP0 : s = n.toNat := by omega
                rw [show ((b.take (i + n).toNat).drop i.toNat).take s = ((b.take (i + n).toNat).drop i.toNat) from List.take_of_length_le (by omega)]
                refine So.n (Nat.le_of_ble_eq_true rfl) (A.v rfl (V.mv (v := .p (.u64 _)) rfl ?_))
                refine So.n (Nat.le_of_ble_eq_true rfl) (A.v rfl (V.bin (a := (.u64 _)) (b := (.u64 9223372036854775807)) (r := .v (.bool _)) rfl rfl rfl trivial ?_))
                refine So.e ?_
                show HT _ _ _ _ _
                refine R.cond rfl rfl (fun h12 => ?_) (fun h12 => ?_)
                · have h12 := UInt64.lt_iff_toNat_lt.1 (of_decide_eq_true h12)
                  rw [show (9223372036854775807 : UInt64).toNat = 9223372036854775807 from rfl] at h12
                  refine HT.seq ?_
                  refine HT.region S13_ok ?_
                  refine So.n (Nat.le_of_ble_eq_true rfl) (A.v rfl (V.as (v := .p (.v (.int .i64 (0)))) rfl ?_))
                  refine So.n (Nat.le_of_ble_eq_true rfl) (A.v rfl (V.as (v := .p (.v (.int .i64 (0)))) rfl ?_))
                  refine So.n (Nat.le_of_ble_eq_true rfl) (A.v rfl (V.as (v := .p (.v (.int .i64 (112)))) rfl ?_))
                  refine So.e ?_
                  show HT _ _ _ _ _
                  refine HT.ret ?_
                  exact ret_ok (sg []) h rfl rfl rfl trivial ⟨trivial, trivial, trivial, trivial⟩ rfl ⟨⟨⟨le_int (by first | (rw [getF_arg (by omega)]; done) | (rw [getF_end (by omega) (by omega) (by omega) (by omega)]; done) | (rw [getF_longU (by omega) (by omega) (by omega) (by omega) (by omega)]; done) | (rw [getF_okU (by omega) (by omega) (by omega) (by omega) (by omega)]; done)), trivial⟩, ⟨le_int (by first | (rw [getF_arg (by omega)]; done) | (rw [getF_end (by omega) (by omega) (by omega) (by omega)]; done) | (rw [getF_longU (by omega) (by omega) (by omega) (by omega) (by omega)]; done) | (rw [getF_okU (by omega) (by omega) (by omega) (by omega) (by omega)]; done)), trivial⟩, ⟨le_int (by first | (rw [getF_arg (by omega)]; done) | (rw [getF_end (by omega) (by omega) (by omega) (by omega)]; done) | (rw [getF_longU (by omega) (by omega) (by omega) (by omega) (by omega)]; done) | (rw [getF_okU (by omega) (by omega) (by omega) (by omega) (by omega)]; done)), trivial⟩, trivial⟩, trivial⟩
                · have h12 := mt UInt64.lt_iff_toNat_lt.2 (of_decide_eq_false h12)
                  rw [show (9223372036854775807 : UInt64).toNat = 9223372036854775807 from rfl] at h12
                  refine HT.skip ?_
                  show HT _ _ _ _ _
                  refine HT.seq ?_
                  refine HT.region S13_ok ?_
                  refine So.n (Nat.le_of_ble_eq_true rfl) (A.v rfl (V.mv (v := .p (.u64 _)) rfl ?_))
                  refine So.n (Nat.le_of_ble_eq_true rfl) (A.v rfl (V.cvN ty2 ty48 (a := (.u64 _)) (r := (.v (.int .i64 _))) rfl rfl ?_))
                  refine So.n (Nat.le_of_ble_eq_true rfl) (A.v rfl (V.mv (v := .p (.v (.int .i64 _))) rfl ?_))
                  refine So.n (Nat.le_of_ble_eq_true rfl) (A.v rfl (V.mv (v := .p (.v (.int .i64 _))) rfl ?_))
                  refine So.n (Nat.le_of_ble_eq_true rfl) (A.v rfl (V.addI rfl rfl (by omega) ?_))
                  refine So.n (Nat.le_of_ble_eq_true rfl) (A.v rfl (V.as (v := .p (.v (.int .i64 _))) rfl ?_))
                  refine So.n (Nat.le_of_ble_eq_true rfl) (A.v rfl (V.as (v := .p (.v (.int .i64 _))) rfl ?_))
                  refine So.n (Nat.le_of_ble_eq_true rfl) (A.v rfl (V.as (v := .p (.v (.int .i64 (0)))) rfl ?_))
                  refine So.e ?_
                  show HT _ _ _ _ _
                  refine HT.ret ?_
                  exact ret_ok (sg []) h rfl rfl rfl trivial ⟨trivial, trivial, trivial, trivial⟩ rfl ⟨⟨⟨le_int (by first | (rw [getF_arg (by omega)]; done) | (rw [getF_end (by omega) (by omega) (by omega) (by omega)]; done) | (rw [getF_longU (by omega) (by omega) (by omega) (by omega) (by omega)]; done) | (rw [getF_okU (by omega) (by omega) (by omega) (by omega) (by omega)]; done)), trivial⟩, ⟨le_int (by first | (rw [getF_arg (by omega)]; done) | (rw [getF_end (by omega) (by omega) (by omega) (by omega)]; done) | (rw [getF_longU (by omega) (by omega) (by omega) (by omega) (by omega)]; done) | (rw [getF_okU (by omega) (by omega) (by omega) (by omega) (by omega)]; done)), trivial⟩, ⟨le_int (by first | (rw [getF_arg (by omega)]; done) | (rw [getF_end (by omega) (by omega) (by omega) (by omega)]; done) | (rw [getF_longU (by omega) (by omega) (by omega) (by omega) (by omega)]; done) | (rw [getF_okU (by omega) (by omega) (by omega) (by omega) (by omega)]; done)), trivial⟩, trivial⟩, trivial⟩
        · have h4 := of_decide_eq_true (bnF h4)
          refine So.gn (b := false) rfl rfl rfl (Nat.le_of_ble_eq_true rfl) (Nat.le_of_ble_eq_true rfl) ?_
          refine So.gy rfl rfl (Nat.le_of_ble_eq_true rfl) (Nat.le_of_ble_eq_true rfl) ?_
          refine A.v rfl (V.pkFalse (u := .p (.v (.bool false))) rfl rfl ?_)
          refine So.gy rfl rfl (Nat.le_of_ble_eq_true rfl) (Nat.le_of_ble_eq_true rfl) ?_
          refine A.v rfl (V.mv (v := .p (.v (.bool false))) rfl ?_)
          refine So.gn (b := false) rfl rfl rfl (Nat.le_of_ble_eq_true rfl) (Nat.le_of_ble_eq_true rfl) ?_
          refine So.gn (b := false) rfl rfl rfl (Nat.le_of_ble_eq_true rfl) (Nat.le_of_ble_eq_true rfl) ?_
          refine So.gy rfl rfl (Nat.le_of_ble_eq_true rfl) (Nat.le_of_ble_eq_true rfl) ?_
          refine A.v rfl (V.pkFalse (u := .p (.v (.bool false))) rfl rfl ?_)
          refine So.n (Nat.le_of_ble_eq_true rfl) (A.v rfl (V.pkFalse (u := .p (.v (.bool false))) rfl rfl ?_))
          refine So.e ?_
          show HT _ _ _ _ _
          refine R.condF rfl ?_
          refine HT.skip ?_
          show HT _ _ _ _ _
          refine HT.seq ?_
          refine HT.seq ?_
          refine HT.region S13_ok ?_
          refine So.n (Nat.le_of_ble_eq_true rfl) (A.v rfl (V.mv (v := .p (.bs _)) rfl ?_))
          refine So.n (Nat.le_of_ble_eq_true rfl) (A.v rfl (V.len ty22 (v := .p (.bs _)) rfl rfl ?_))
          refine So.n (Nat.le_of_ble_eq_true rfl) (A.v rfl (V.mv (v := .p (.v (.int .i64 _))) rfl ?_))
          refine So.n (Nat.le_of_ble_eq_true rfl) (A.v rfl (V.subI rfl rfl (by omega) ?_))
          refine So.n (Nat.le_of_ble_eq_true rfl) (A.v rfl (V.mv (v := .p (.v (.int .i64 _))) rfl ?_))
          refine So.n (Nat.le_of_ble_eq_true rfl) (A.v rfl (V.bin (a := (.v (.int .i64 _))) (b := (.v (.int .i64 _))) (r := .v (.bool _)) rfl rfl rfl trivial ?_))
          refine So.e ?_
          show HT _ _ _ _ _
          refine R.cond rfl rfl (fun h13 => ?_) (fun h13 => ?_)
          · have h13 := of_decide_eq_true h13
            refine HT.seq ?_
            refine HT.region S13_ok ?_
            refine So.n (Nat.le_of_ble_eq_true rfl) (A.v rfl (V.as (v := .p (.v (.int .i64 (0)))) rfl ?_))
            refine So.n (Nat.le_of_ble_eq_true rfl) (A.v rfl (V.as (v := .p (.v (.int .i64 (0)))) rfl ?_))
            refine So.n (Nat.le_of_ble_eq_true rfl) (A.v rfl (V.as (v := .p (.v (.int .i64 (111)))) rfl ?_))
            refine So.e ?_
            show HT _ _ _ _ _
            refine HT.ret ?_
            exact ret_ok (sg []) h rfl rfl rfl trivial ⟨trivial, trivial, trivial, trivial⟩ rfl ⟨⟨⟨le_int (by first | (rw [getF_arg (by omega)]; done) | (rw [getF_end (by omega) (by omega) (by omega) (by omega)]; done) | (rw [getF_longU (by omega) (by omega) (by omega) (by omega) (by omega)]; done) | (rw [getF_okU (by omega) (by omega) (by omega) (by omega) (by omega)]; done)), trivial⟩, ⟨le_int (by first | (rw [getF_arg (by omega)]; done) | (rw [getF_end (by omega) (by omega) (by omega) (by omega)]; done) | (rw [getF_longU (by omega) (by omega) (by omega) (by omega) (by omega)]; done) | (rw [getF_okU (by omega) (by omega) (by omega) (by omega) (by omega)]; done)), trivial⟩, ⟨le_int (by first | (rw [getF_arg (by omega)]; done) | (rw [getF_end (by omega) (by omega) (by omega) (by omega)]; done) | (rw [getF_longU (by omega) (by omega) (by omega) (by omega) (by omega)]; done) | (rw [getF_okU (by omega) (by omega) (by omega) (by omega) (by omega)]; done)), trivial⟩, trivial⟩, trivial⟩
          · have h13 := of_decide_eq_false h13
            refine HT.skip ?_
            show HT _ _ _ _ _
            refine HT.seq ?_
            refine HT.region S13_ok ?_
            refine So.n (Nat.le_of_ble_eq_true rfl) (A.v rfl (V.as (v := .p (.u64 0)) rfl ?_))
            refine So.e ?_
            show HT _ _ _ _ _
            refine HT.seq ?_
            refine HT.seq ?_
            refine HT.region S13_ok ?_
            refine So.n (Nat.le_of_ble_eq_true rfl) (A.v rfl (V.as (v := .p (.v (.int .i64 (0)))) rfl ?_))
            refine So.e ?_
            show HT _ _ _ _ _
            refine HT.block ?_
            refine R.loop (σ := Nat) (fun s => [(9, .p (.u64 (UInt64.ofNat (beN (((b.take (i + n).toNat).drop i.toNat).take s))))), (10, .p (.v (.int .i64 ((s : Int)))))]) (fun s => []) [0, 1, 2, 6, 7, 8] [] (fun s => s ≤ n.toNat) (fun s => n.toNat - s) (0) (fr0 := [(0, .p (.bs _)), (1, .p (.v (.int .i64 _))), (2, .p (.v (.int .i64 _))), (6, .p (.v (.int .i64 _))), (7, .p (.v (.int .i64 _))), (8, .p (.v (.int .i64 _)))]) (O0 := []) rfl rfl (by first | rfl | omega | (simp; done) | (simp; omega)) ⟨⟨⟨le_u64 (by first | rfl | omega | (simp; done) | (simp; omega)), trivial⟩, ⟨le_int (by first | rfl | omega | (simp; done) | (simp; omega)), trivial⟩, ⟨.refl _, trivial⟩, ⟨.refl _, trivial⟩, ⟨.refl _, trivial⟩, ⟨.refl _, trivial⟩, ⟨.refl _, trivial⟩, ⟨.refl _, trivial⟩, trivial⟩, trivial⟩ (fun s hP0 => ?_)
            have hcl := @cut_len b i n (by omega) (by omega) (by omega)
            refine HT.seq ?_
            refine HT.seq ?_
            refine HT.region S13_ok ?_
            refine So.n (Nat.le_of_ble_eq_true rfl) (A.v rfl (V.mv (v := .p (.v (.int .i64 ((_ : Nat) : Int)))) rfl ?_))
            refine So.n (Nat.le_of_ble_eq_true rfl) (A.v rfl (V.mv (v := .p (.v (.int .i64 _))) rfl ?_))
            refine So.n (Nat.le_of_ble_eq_true rfl) (A.v rfl (V.bin (a := (.v (.int .i64 ((_ : Nat) : Int)))) (b := (.v (.int .i64 _))) (r := .v (.bool _)) rfl rfl rfl trivial ?_))
            refine So.e ?_
            show HT _ _ _ _ _
            refine R.cond rfl rfl (fun h14 => ?_) (fun h14 => ?_)
            · have h14 := of_decide_eq_true h14
              refine HT.skip ?_
              show HT _ _ _ _ _
              refine HT.seq ?_
              refine HT.block ?_
              refine HT.region S13_ok ?_
              refine So.n (Nat.le_of_ble_eq_true rfl) (A.v rfl (V.mv (v := .p (.u64 _)) rfl ?_))
              refine So.n (Nat.le_of_ble_eq_true rfl) (A.v rfl (V.shlC (n := 8) (a := (.u64 _)) (b := (.u64 8)) (r := .u64 (u64Shl _ 8)) rfl rfl rfl rfl ?_))
              refine So.n (Nat.le_of_ble_eq_true rfl) (A.v rfl (V.mv (v := .p (.bs _)) rfl ?_))
              refine So.n (Nat.le_of_ble_eq_true rfl) (A.v rfl (V.mv (v := .p (.v (.int .i64 _))) rfl ?_))
              refine So.n (Nat.le_of_ble_eq_true rfl) (A.v rfl (V.mv (v := .p (.v (.int .i64 ((_ : Nat) : Int)))) rfl ?_))
              refine So.n (Nat.le_of_ble_eq_true rfl) (A.v rfl (V.addI rfl rfl (by omega) ?_))
              refine So.n (Nat.le_of_ble_eq_true rfl) (A.v rfl (V.ixBs ty22 ty5 rfl rfl rfl (by omega) rfl ?_))
              refine So.n (Nat.le_of_ble_eq_true rfl) (A.v rfl (V.ldRp ty5 rfl rfl (Nat.le_of_ble_eq_true rfl) (v := (.u8 _)) rfl ?_))
              refine So.n (Nat.le_of_ble_eq_true rfl) (A.v rfl (V.cvN ty48 ty5 (a := (.u8 _)) (r := (.u64 _)) rfl rfl ?_))
              refine So.n (Nat.le_of_ble_eq_true rfl) (A.v rfl (V.bin (a := (.u64 _)) (b := (.u64 _)) (r := .u64 _) rfl rfl rfl trivial ?_))
              refine So.n (Nat.le_of_ble_eq_true rfl) (A.v rfl (V.as (v := .p (.u64 _)) rfl ?_))
              refine So.e ?_
              show HT _ _ _ _ _
              refine HT.region S13_ok ?_
              refine So.n (Nat.le_of_ble_eq_true rfl) (A.v rfl (V.mv (v := .p (.v (.int .i64 ((_ : Nat) : Int)))) rfl ?_))
              refine So.n (Nat.le_of_ble_eq_true rfl) (A.v rfl (V.addI rfl rfl (by omega) ?_))
              refine So.n (Nat.le_of_ble_eq_true rfl) (A.v rfl (V.as (v := .p (.v (.int .i64 _))) rfl ?_))
              refine So.e ?_
              refine ⟨s + 1, by first | rfl | omega | (simp; done) | (simp; omega), by omega, ⟨⟨⟨le_u64 (by first | rfl | (rw [cut_get (n := n) (by omega) (by omega) (by omega), u64_step, beN_take (by omega)])), trivial⟩, ⟨le_int (by first | rfl | omega | (simp; done) | (simp; omega)), trivial⟩, ⟨.refl _, trivial⟩, ⟨.refl _, trivial⟩, ⟨.refl _, trivial⟩, ⟨.refl _, trivial⟩, ⟨.refl _, trivial⟩, ⟨.refl _, trivial⟩, trivial⟩, trivial⟩⟩
            · have h14 := of_decide_eq_false h14
              refine HT.exit ?_
              show HT _ _ _ _ _
              refine HT.seq ?_
              refine HT.seq ?_
              refine HT.region S13_ok ?_
              replace hP0 : s = n.toNat := by omega
              rw [show ((b.take (i + n).toNat).drop i.toNat).take s = ((b.take (i + n).toNat).drop i.toNat) from List.take_of_length_le (by omega)]
              refine So.n (Nat.le_of_ble_eq_true rfl) (A.v rfl (V.mv (v := .p (.u64 _)) rfl ?_))
              refine So.n (Nat.le_of_ble_eq_true rfl) (A.v rfl (V.bin (a := (.u64 _)) (b := (.u64 9223372036854775807)) (r := .v (.bool _)) rfl rfl rfl trivial ?_))
              refine So.e ?_
              show HT _ _ _ _ _
              refine R.cond rfl rfl (fun h15 => ?_) (fun h15 => ?_)
              · have h15 := UInt64.lt_iff_toNat_lt.1 (of_decide_eq_true h15)
                rw [show (9223372036854775807 : UInt64).toNat = 9223372036854775807 from rfl] at h15
                refine HT.seq ?_
                refine HT.region S13_ok ?_
                refine So.n (Nat.le_of_ble_eq_true rfl) (A.v rfl (V.as (v := .p (.v (.int .i64 (0)))) rfl ?_))
                refine So.n (Nat.le_of_ble_eq_true rfl) (A.v rfl (V.as (v := .p (.v (.int .i64 (0)))) rfl ?_))
                refine So.n (Nat.le_of_ble_eq_true rfl) (A.v rfl (V.as (v := .p (.v (.int .i64 (112)))) rfl ?_))
                refine So.e ?_
                show HT _ _ _ _ _
                refine HT.ret ?_
                exact ret_ok (sg []) h rfl rfl rfl trivial ⟨trivial, trivial, trivial, trivial⟩ rfl ⟨⟨⟨le_int (by first | (rw [getF_arg (by omega)]; done) | (rw [getF_end (by omega) (by omega) (by omega) (by omega)]; done) | (rw [getF_longU (by omega) (by omega) (by omega) (by omega) (by omega)]; done) | (rw [getF_okU (by omega) (by omega) (by omega) (by omega) (by omega)]; done)), trivial⟩, ⟨le_int (by first | (rw [getF_arg (by omega)]; done) | (rw [getF_end (by omega) (by omega) (by omega) (by omega)]; done) | (rw [getF_longU (by omega) (by omega) (by omega) (by omega) (by omega)]; done) | (rw [getF_okU (by omega) (by omega) (by omega) (by omega) (by omega)]; done)), trivial⟩, ⟨le_int (by first | (rw [getF_arg (by omega)]; done) | (rw [getF_end (by omega) (by omega) (by omega) (by omega)]; done) | (rw [getF_longU (by omega) (by omega) (by omega) (by omega) (by omega)]; done) | (rw [getF_okU (by omega) (by omega) (by omega) (by omega) (by omega)]; done)), trivial⟩, trivial⟩, trivial⟩
              · have h15 := mt UInt64.lt_iff_toNat_lt.2 (of_decide_eq_false h15)
                rw [show (9223372036854775807 : UInt64).toNat = 9223372036854775807 from rfl] at h15
                refine HT.skip ?_
                show HT _ _ _ _ _
                refine HT.seq ?_
                refine HT.region S13_ok ?_
                refine So.n (Nat.le_of_ble_eq_true rfl) (A.v rfl (V.mv (v := .p (.u64 _)) rfl ?_))
                refine So.n (Nat.le_of_ble_eq_true rfl) (A.v rfl (V.cvN ty2 ty48 (a := (.u64 _)) (r := (.v (.int .i64 _))) rfl rfl ?_))
                refine So.n (Nat.le_of_ble_eq_true rfl) (A.v rfl (V.mv (v := .p (.v (.int .i64 _))) rfl ?_))
                refine So.n (Nat.le_of_ble_eq_true rfl) (A.v rfl (V.mv (v := .p (.v (.int .i64 _))) rfl ?_))
                refine So.n (Nat.le_of_ble_eq_true rfl) (A.v rfl (V.addI rfl rfl (by omega) ?_))
                refine So.n (Nat.le_of_ble_eq_true rfl) (A.v rfl (V.as (v := .p (.v (.int .i64 _))) rfl ?_))
                refine So.n (Nat.le_of_ble_eq_true rfl) (A.v rfl (V.as (v := .p (.v (.int .i64 _))) rfl ?_))
                refine So.n (Nat.le_of_ble_eq_true rfl) (A.v rfl (V.as (v := .p (.v (.int .i64 (0)))) rfl ?_))
                refine So.e ?_
                show HT _ _ _ _ _
                refine HT.ret ?_
                exact ret_ok (sg []) h rfl rfl rfl trivial ⟨trivial, trivial, trivial, trivial⟩ rfl ⟨⟨⟨le_int (by first | (rw [getF_arg (by omega)]; done) | (rw [getF_end (by omega) (by omega) (by omega) (by omega)]; done) | (rw [getF_longU (by omega) (by omega) (by omega) (by omega) (by omega)]; done) | (rw [getF_okU (by omega) (by omega) (by omega) (by omega) (by omega)]; done)), trivial⟩, ⟨le_int (by first | (rw [getF_arg (by omega)]; done) | (rw [getF_end (by omega) (by omega) (by omega) (by omega)]; done) | (rw [getF_longU (by omega) (by omega) (by omega) (by omega) (by omega)]; done) | (rw [getF_okU (by omega) (by omega) (by omega) (by omega) (by omega)]; done)), trivial⟩, ⟨le_int (by first | (rw [getF_arg (by omega)]; done) | (rw [getF_end (by omega) (by omega) (by omega) (by omega)]; done) | (rw [getF_longU (by omega) (by omega) (by omega) (by omega) (by omega)]; done) | (rw [getF_okU (by omega) (by omega) (by omega) (by omega) (by omega)]; done)), trivial⟩, trivial⟩, trivial⟩
      · have h3 := of_decide_eq_true (bnF h3)
        refine So.gn (b := false) rfl rfl rfl (Nat.le_of_ble_eq_true rfl) (Nat.le_of_ble_eq_true rfl) ?_
        refine So.gy rfl rfl (Nat.le_of_ble_eq_true rfl) (Nat.le_of_ble_eq_true rfl) ?_
        refine A.v rfl (V.pkFalse (u := .p (.v (.bool false))) rfl rfl ?_)
        refine So.gy rfl rfl (Nat.le_of_ble_eq_true rfl) (Nat.le_of_ble_eq_true rfl) ?_
        refine A.v rfl (V.mv (v := .p (.v (.bool false))) rfl ?_)
        refine So.gn (b := false) rfl rfl rfl (Nat.le_of_ble_eq_true rfl) (Nat.le_of_ble_eq_true rfl) ?_
        refine So.gn (b := false) rfl rfl rfl (Nat.le_of_ble_eq_true rfl) (Nat.le_of_ble_eq_true rfl) ?_
        refine So.gy rfl rfl (Nat.le_of_ble_eq_true rfl) (Nat.le_of_ble_eq_true rfl) ?_
        refine A.v rfl (V.pkFalse (u := .p (.v (.bool false))) rfl rfl ?_)
        refine So.gy rfl rfl (Nat.le_of_ble_eq_true rfl) (Nat.le_of_ble_eq_true rfl) ?_
        refine A.v rfl (V.mv (v := .p (.v (.bool false))) rfl ?_)
        refine So.gn (b := false) rfl rfl rfl (Nat.le_of_ble_eq_true rfl) (Nat.le_of_ble_eq_true rfl) ?_
        refine So.gn (b := false) rfl rfl rfl (Nat.le_of_ble_eq_true rfl) (Nat.le_of_ble_eq_true rfl) ?_
        refine So.gy rfl rfl (Nat.le_of_ble_eq_true rfl) (Nat.le_of_ble_eq_true rfl) ?_
        refine A.v rfl (V.pkFalse (u := .p (.v (.bool false))) rfl rfl ?_)
        refine So.n (Nat.le_of_ble_eq_true rfl) (A.v rfl (V.pkFalse (u := .p (.v (.bool false))) rfl rfl ?_))
        refine So.e ?_
        show HT _ _ _ _ _
        refine R.condF rfl ?_
        refine HT.skip ?_
        show HT _ _ _ _ _
        refine HT.seq ?_
        refine HT.seq ?_
        refine HT.region S13_ok ?_
        refine So.n (Nat.le_of_ble_eq_true rfl) (A.v rfl (V.mv (v := .p (.bs _)) rfl ?_))
        refine So.n (Nat.le_of_ble_eq_true rfl) (A.v rfl (V.len ty22 (v := .p (.bs _)) rfl rfl ?_))
        refine So.n (Nat.le_of_ble_eq_true rfl) (A.v rfl (V.mv (v := .p (.v (.int .i64 _))) rfl ?_))
        refine So.n (Nat.le_of_ble_eq_true rfl) (A.v rfl (V.subI rfl rfl (by omega) ?_))
        refine So.n (Nat.le_of_ble_eq_true rfl) (A.v rfl (V.mv (v := .p (.v (.int .i64 _))) rfl ?_))
        refine So.n (Nat.le_of_ble_eq_true rfl) (A.v rfl (V.bin (a := (.v (.int .i64 _))) (b := (.v (.int .i64 _))) (r := .v (.bool _)) rfl rfl rfl trivial ?_))
        refine So.e ?_
        show HT _ _ _ _ _
        refine R.cond rfl rfl (fun h16 => ?_) (fun h16 => ?_)
        · have h16 := of_decide_eq_true h16
          refine HT.seq ?_
          refine HT.region S13_ok ?_
          refine So.n (Nat.le_of_ble_eq_true rfl) (A.v rfl (V.as (v := .p (.v (.int .i64 (0)))) rfl ?_))
          refine So.n (Nat.le_of_ble_eq_true rfl) (A.v rfl (V.as (v := .p (.v (.int .i64 (0)))) rfl ?_))
          refine So.n (Nat.le_of_ble_eq_true rfl) (A.v rfl (V.as (v := .p (.v (.int .i64 (111)))) rfl ?_))
          refine So.e ?_
          show HT _ _ _ _ _
          refine HT.ret ?_
          exact ret_ok (sg []) h rfl rfl rfl trivial ⟨trivial, trivial, trivial, trivial⟩ rfl ⟨⟨⟨le_int (by first | (rw [getF_arg (by omega)]; done) | (rw [getF_end (by omega) (by omega) (by omega) (by omega)]; done) | (rw [getF_longU (by omega) (by omega) (by omega) (by omega) (by omega)]; done) | (rw [getF_okU (by omega) (by omega) (by omega) (by omega) (by omega)]; done)), trivial⟩, ⟨le_int (by first | (rw [getF_arg (by omega)]; done) | (rw [getF_end (by omega) (by omega) (by omega) (by omega)]; done) | (rw [getF_longU (by omega) (by omega) (by omega) (by omega) (by omega)]; done) | (rw [getF_okU (by omega) (by omega) (by omega) (by omega) (by omega)]; done)), trivial⟩, ⟨le_int (by first | (rw [getF_arg (by omega)]; done) | (rw [getF_end (by omega) (by omega) (by omega) (by omega)]; done) | (rw [getF_longU (by omega) (by omega) (by omega) (by omega) (by omega)]; done) | (rw [getF_okU (by omega) (by omega) (by omega) (by omega) (by omega)]; done)), trivial⟩, trivial⟩, trivial⟩
        · have h16 := of_decide_eq_false h16
          refine HT.skip ?_
          show HT _ _ _ _ _
          refine HT.seq ?_
          refine HT.region S13_ok ?_
          refine So.n (Nat.le_of_ble_eq_true rfl) (A.v rfl (V.as (v := .p (.u64 0)) rfl ?_))
          refine So.e ?_
          show HT _ _ _ _ _
          refine HT.seq ?_
          refine HT.seq ?_
          refine HT.region S13_ok ?_
          refine So.n (Nat.le_of_ble_eq_true rfl) (A.v rfl (V.as (v := .p (.v (.int .i64 (0)))) rfl ?_))
          refine So.e ?_
          show HT _ _ _ _ _
          refine HT.block ?_
          refine R.loop (σ := Nat) (fun s => [(9, .p (.u64 (UInt64.ofNat (beN (((b.take (i + n).toNat).drop i.toNat).take s))))), (10, .p (.v (.int .i64 ((s : Int)))))]) (fun s => []) [0, 1, 2, 6, 7, 8] [] (fun s => s ≤ n.toNat) (fun s => n.toNat - s) (0) (fr0 := [(0, .p (.bs _)), (1, .p (.v (.int .i64 _))), (2, .p (.v (.int .i64 _))), (6, .p (.v (.int .i64 _))), (7, .p (.v (.int .i64 _))), (8, .p (.v (.int .i64 _)))]) (O0 := []) rfl rfl (by first | rfl | omega | (simp; done) | (simp; omega)) ⟨⟨⟨le_u64 (by first | rfl | omega | (simp; done) | (simp; omega)), trivial⟩, ⟨le_int (by first | rfl | omega | (simp; done) | (simp; omega)), trivial⟩, ⟨.refl _, trivial⟩, ⟨.refl _, trivial⟩, ⟨.refl _, trivial⟩, ⟨.refl _, trivial⟩, ⟨.refl _, trivial⟩, ⟨.refl _, trivial⟩, trivial⟩, trivial⟩ (fun s hP0 => ?_)
          have hcl := @cut_len b i n (by omega) (by omega) (by omega)
          refine HT.seq ?_
          refine HT.seq ?_
          refine HT.region S13_ok ?_
          refine So.n (Nat.le_of_ble_eq_true rfl) (A.v rfl (V.mv (v := .p (.v (.int .i64 ((_ : Nat) : Int)))) rfl ?_))
          refine So.n (Nat.le_of_ble_eq_true rfl) (A.v rfl (V.mv (v := .p (.v (.int .i64 _))) rfl ?_))
          refine So.n (Nat.le_of_ble_eq_true rfl) (A.v rfl (V.bin (a := (.v (.int .i64 ((_ : Nat) : Int)))) (b := (.v (.int .i64 _))) (r := .v (.bool _)) rfl rfl rfl trivial ?_))
          refine So.e ?_
          show HT _ _ _ _ _
          refine R.cond rfl rfl (fun h17 => ?_) (fun h17 => ?_)
          · have h17 := of_decide_eq_true h17
            refine HT.skip ?_
            show HT _ _ _ _ _
            refine HT.seq ?_
            refine HT.block ?_
            refine HT.region S13_ok ?_
            refine So.n (Nat.le_of_ble_eq_true rfl) (A.v rfl (V.mv (v := .p (.u64 _)) rfl ?_))
            refine So.n (Nat.le_of_ble_eq_true rfl) (A.v rfl (V.shlC (n := 8) (a := (.u64 _)) (b := (.u64 8)) (r := .u64 (u64Shl _ 8)) rfl rfl rfl rfl ?_))
            refine So.n (Nat.le_of_ble_eq_true rfl) (A.v rfl (V.mv (v := .p (.bs _)) rfl ?_))
            refine So.n (Nat.le_of_ble_eq_true rfl) (A.v rfl (V.mv (v := .p (.v (.int .i64 _))) rfl ?_))
            refine So.n (Nat.le_of_ble_eq_true rfl) (A.v rfl (V.mv (v := .p (.v (.int .i64 ((_ : Nat) : Int)))) rfl ?_))
            refine So.n (Nat.le_of_ble_eq_true rfl) (A.v rfl (V.addI rfl rfl (by omega) ?_))
            refine So.n (Nat.le_of_ble_eq_true rfl) (A.v rfl (V.ixBs ty22 ty5 rfl rfl rfl (by omega) rfl ?_))
            refine So.n (Nat.le_of_ble_eq_true rfl) (A.v rfl (V.ldRp ty5 rfl rfl (Nat.le_of_ble_eq_true rfl) (v := (.u8 _)) rfl ?_))
            refine So.n (Nat.le_of_ble_eq_true rfl) (A.v rfl (V.cvN ty48 ty5 (a := (.u8 _)) (r := (.u64 _)) rfl rfl ?_))
            refine So.n (Nat.le_of_ble_eq_true rfl) (A.v rfl (V.bin (a := (.u64 _)) (b := (.u64 _)) (r := .u64 _) rfl rfl rfl trivial ?_))
            refine So.n (Nat.le_of_ble_eq_true rfl) (A.v rfl (V.as (v := .p (.u64 _)) rfl ?_))
            refine So.e ?_
            show HT _ _ _ _ _
            refine HT.region S13_ok ?_
            refine So.n (Nat.le_of_ble_eq_true rfl) (A.v rfl (V.mv (v := .p (.v (.int .i64 ((_ : Nat) : Int)))) rfl ?_))
            refine So.n (Nat.le_of_ble_eq_true rfl) (A.v rfl (V.addI rfl rfl (by omega) ?_))
            refine So.n (Nat.le_of_ble_eq_true rfl) (A.v rfl (V.as (v := .p (.v (.int .i64 _))) rfl ?_))
            refine So.e ?_
            refine ⟨s + 1, by first | rfl | omega | (simp; done) | (simp; omega), by omega, ⟨⟨⟨le_u64 (by first | rfl | (rw [cut_get (n := n) (by omega) (by omega) (by omega), u64_step, beN_take (by omega)])), trivial⟩, ⟨le_int (by first | rfl | omega | (simp; done) | (simp; omega)), trivial⟩, ⟨.refl _, trivial⟩, ⟨.refl _, trivial⟩, ⟨.refl _, trivial⟩, ⟨.refl _, trivial⟩, ⟨.refl _, trivial⟩, ⟨.refl _, trivial⟩, trivial⟩, trivial⟩⟩
          · have h17 := of_decide_eq_false h17
            refine HT.exit ?_
            show HT _ _ _ _ _
            refine HT.seq ?_
            refine HT.seq ?_
            refine HT.region S13_ok ?_
            replace hP0 : s = n.toNat := by omega
            rw [show ((b.take (i + n).toNat).drop i.toNat).take s = ((b.take (i + n).toNat).drop i.toNat) from List.take_of_length_le (by omega)]
            refine So.n (Nat.le_of_ble_eq_true rfl) (A.v rfl (V.mv (v := .p (.u64 _)) rfl ?_))
            refine So.n (Nat.le_of_ble_eq_true rfl) (A.v rfl (V.bin (a := (.u64 _)) (b := (.u64 9223372036854775807)) (r := .v (.bool _)) rfl rfl rfl trivial ?_))
            refine So.e ?_
            show HT _ _ _ _ _
            refine R.cond rfl rfl (fun h18 => ?_) (fun h18 => ?_)
            · have h18 := UInt64.lt_iff_toNat_lt.1 (of_decide_eq_true h18)
              rw [show (9223372036854775807 : UInt64).toNat = 9223372036854775807 from rfl] at h18
              refine HT.seq ?_
              refine HT.region S13_ok ?_
              refine So.n (Nat.le_of_ble_eq_true rfl) (A.v rfl (V.as (v := .p (.v (.int .i64 (0)))) rfl ?_))
              refine So.n (Nat.le_of_ble_eq_true rfl) (A.v rfl (V.as (v := .p (.v (.int .i64 (0)))) rfl ?_))
              refine So.n (Nat.le_of_ble_eq_true rfl) (A.v rfl (V.as (v := .p (.v (.int .i64 (112)))) rfl ?_))
              refine So.e ?_
              show HT _ _ _ _ _
              refine HT.ret ?_
              exact ret_ok (sg []) h rfl rfl rfl trivial ⟨trivial, trivial, trivial, trivial⟩ rfl ⟨⟨⟨le_int (by first | (rw [getF_arg (by omega)]; done) | (rw [getF_end (by omega) (by omega) (by omega) (by omega)]; done) | (rw [getF_longU (by omega) (by omega) (by omega) (by omega) (by omega)]; done) | (rw [getF_okU (by omega) (by omega) (by omega) (by omega) (by omega)]; done)), trivial⟩, ⟨le_int (by first | (rw [getF_arg (by omega)]; done) | (rw [getF_end (by omega) (by omega) (by omega) (by omega)]; done) | (rw [getF_longU (by omega) (by omega) (by omega) (by omega) (by omega)]; done) | (rw [getF_okU (by omega) (by omega) (by omega) (by omega) (by omega)]; done)), trivial⟩, ⟨le_int (by first | (rw [getF_arg (by omega)]; done) | (rw [getF_end (by omega) (by omega) (by omega) (by omega)]; done) | (rw [getF_longU (by omega) (by omega) (by omega) (by omega) (by omega)]; done) | (rw [getF_okU (by omega) (by omega) (by omega) (by omega) (by omega)]; done)), trivial⟩, trivial⟩, trivial⟩
            · have h18 := mt UInt64.lt_iff_toNat_lt.2 (of_decide_eq_false h18)
              rw [show (9223372036854775807 : UInt64).toNat = 9223372036854775807 from rfl] at h18
              refine HT.skip ?_
              show HT _ _ _ _ _
              refine HT.seq ?_
              refine HT.region S13_ok ?_
              refine So.n (Nat.le_of_ble_eq_true rfl) (A.v rfl (V.mv (v := .p (.u64 _)) rfl ?_))
              refine So.n (Nat.le_of_ble_eq_true rfl) (A.v rfl (V.cvN ty2 ty48 (a := (.u64 _)) (r := (.v (.int .i64 _))) rfl rfl ?_))
              refine So.n (Nat.le_of_ble_eq_true rfl) (A.v rfl (V.mv (v := .p (.v (.int .i64 _))) rfl ?_))
              refine So.n (Nat.le_of_ble_eq_true rfl) (A.v rfl (V.mv (v := .p (.v (.int .i64 _))) rfl ?_))
              refine So.n (Nat.le_of_ble_eq_true rfl) (A.v rfl (V.addI rfl rfl (by omega) ?_))
              refine So.n (Nat.le_of_ble_eq_true rfl) (A.v rfl (V.as (v := .p (.v (.int .i64 _))) rfl ?_))
              refine So.n (Nat.le_of_ble_eq_true rfl) (A.v rfl (V.as (v := .p (.v (.int .i64 _))) rfl ?_))
              refine So.n (Nat.le_of_ble_eq_true rfl) (A.v rfl (V.as (v := .p (.v (.int .i64 (0)))) rfl ?_))
              refine So.e ?_
              show HT _ _ _ _ _
              refine HT.ret ?_
              exact ret_ok (sg []) h rfl rfl rfl trivial ⟨trivial, trivial, trivial, trivial⟩ rfl ⟨⟨⟨le_int (by first | (rw [getF_arg (by omega)]; done) | (rw [getF_end (by omega) (by omega) (by omega) (by omega)]; done) | (rw [getF_longU (by omega) (by omega) (by omega) (by omega) (by omega)]; done) | (rw [getF_okU (by omega) (by omega) (by omega) (by omega) (by omega)]; done)), trivial⟩, ⟨le_int (by first | (rw [getF_arg (by omega)]; done) | (rw [getF_end (by omega) (by omega) (by omega) (by omega)]; done) | (rw [getF_longU (by omega) (by omega) (by omega) (by omega) (by omega)]; done) | (rw [getF_okU (by omega) (by omega) (by omega) (by omega) (by omega)]; done)), trivial⟩, ⟨le_int (by first | (rw [getF_arg (by omega)]; done) | (rw [getF_end (by omega) (by omega) (by omega) (by omega)]; done) | (rw [getF_longU (by omega) (by omega) (by omega) (by omega) (by omega)]; done) | (rw [getF_okU (by omega) (by omega) (by omega) (by omega) (by omega)]; done)), trivial⟩, trivial⟩, trivial⟩
    · have h2 := of_decide_eq_true h2
      refine So.gn (b := true) rfl rfl rfl (Nat.le_of_ble_eq_true rfl) (Nat.le_of_ble_eq_true rfl) ?_
      refine So.gn (b := true) rfl rfl rfl (Nat.le_of_ble_eq_true rfl) (Nat.le_of_ble_eq_true rfl) ?_
      refine So.gu rfl rfl (Nat.le_of_ble_eq_true rfl) ?_
      refine So.gu rfl rfl (Nat.le_of_ble_eq_true rfl) ?_
      refine So.gn (b := true) rfl rfl rfl (Nat.le_of_ble_eq_true rfl) (Nat.le_of_ble_eq_true rfl) ?_
      refine So.gn (b := true) rfl rfl rfl (Nat.le_of_ble_eq_true rfl) (Nat.le_of_ble_eq_true rfl) ?_
      refine So.gu rfl rfl (Nat.le_of_ble_eq_true rfl) ?_
      refine So.gu rfl rfl (Nat.le_of_ble_eq_true rfl) ?_
      refine So.gn (b := true) rfl rfl rfl (Nat.le_of_ble_eq_true rfl) (Nat.le_of_ble_eq_true rfl) ?_
      refine So.gn (b := true) rfl rfl rfl (Nat.le_of_ble_eq_true rfl) (Nat.le_of_ble_eq_true rfl) ?_
      refine So.gu rfl rfl (Nat.le_of_ble_eq_true rfl) ?_
      refine So.gu rfl rfl (Nat.le_of_ble_eq_true rfl) ?_
      refine So.gn (b := true) rfl rfl rfl (Nat.le_of_ble_eq_true rfl) (Nat.le_of_ble_eq_true rfl) ?_
      refine So.n (Nat.le_of_ble_eq_true rfl) (A.v rfl (V.pkTrue (u := .p (.v (.bool true))) rfl rfl ?_))
      refine So.e ?_
      show HT _ _ _ _ _
      refine R.condT rfl ?_
      refine HT.seq ?_
      refine HT.region S13_ok ?_
      refine So.n (Nat.le_of_ble_eq_true rfl) (A.v rfl (V.as (v := .p (.v (.int .i64 (0)))) rfl ?_))
      refine So.n (Nat.le_of_ble_eq_true rfl) (A.v rfl (V.as (v := .p (.v (.int .i64 (0)))) rfl ?_))
      refine So.n (Nat.le_of_ble_eq_true rfl) (A.v rfl (V.as (v := .p (.v (.int .i64 (1)))) rfl ?_))
      refine So.e ?_
      show HT _ _ _ _ _
      refine HT.ret ?_
      exact ret_ok (sg []) h rfl rfl rfl trivial ⟨trivial, trivial, trivial, trivial⟩ rfl ⟨⟨⟨le_int (by first | (rw [getF_arg (by omega)]; done) | (rw [getF_end (by omega) (by omega) (by omega) (by omega)]; done) | (rw [getF_longU (by omega) (by omega) (by omega) (by omega) (by omega)]; done) | (rw [getF_okU (by omega) (by omega) (by omega) (by omega) (by omega)]; done)), trivial⟩, ⟨le_int (by first | (rw [getF_arg (by omega)]; done) | (rw [getF_end (by omega) (by omega) (by omega) (by omega)]; done) | (rw [getF_longU (by omega) (by omega) (by omega) (by omega) (by omega)]; done) | (rw [getF_okU (by omega) (by omega) (by omega) (by omega) (by omega)]; done)), trivial⟩, ⟨le_int (by first | (rw [getF_arg (by omega)]; done) | (rw [getF_end (by omega) (by omega) (by omega) (by omega)]; done) | (rw [getF_longU (by omega) (by omega) (by omega) (by omega) (by omega)]; done) | (rw [getF_okU (by omega) (by omega) (by omega) (by omega) (by omega)]; done)), trivial⟩, trivial⟩, trivial⟩
  · have h1 := of_decide_eq_true h1
    refine So.gn (b := true) rfl rfl rfl (Nat.le_of_ble_eq_true rfl) (Nat.le_of_ble_eq_true rfl) ?_
    refine So.gn (b := true) rfl rfl rfl (Nat.le_of_ble_eq_true rfl) (Nat.le_of_ble_eq_true rfl) ?_
    refine So.gn (b := true) rfl rfl rfl (Nat.le_of_ble_eq_true rfl) (Nat.le_of_ble_eq_true rfl) ?_
    refine So.n (Nat.le_of_ble_eq_true rfl) (A.v rfl (V.pkTrue (u := .p (.v (.bool true))) rfl rfl ?_))
    refine So.n (Nat.le_of_ble_eq_true rfl) (A.v rfl (V.mv (v := .p (.v (.bool true))) rfl ?_))
    refine So.gn (b := true) rfl rfl rfl (Nat.le_of_ble_eq_true rfl) (Nat.le_of_ble_eq_true rfl) ?_
    refine So.gn (b := true) rfl rfl rfl (Nat.le_of_ble_eq_true rfl) (Nat.le_of_ble_eq_true rfl) ?_
    refine So.gn (b := true) rfl rfl rfl (Nat.le_of_ble_eq_true rfl) (Nat.le_of_ble_eq_true rfl) ?_
    refine So.gu rfl rfl (Nat.le_of_ble_eq_true rfl) ?_
    refine So.gu rfl rfl (Nat.le_of_ble_eq_true rfl) ?_
    refine So.gn (b := true) rfl rfl rfl (Nat.le_of_ble_eq_true rfl) (Nat.le_of_ble_eq_true rfl) ?_
    refine So.gn (b := true) rfl rfl rfl (Nat.le_of_ble_eq_true rfl) (Nat.le_of_ble_eq_true rfl) ?_
    refine So.gu rfl rfl (Nat.le_of_ble_eq_true rfl) ?_
    refine So.gu rfl rfl (Nat.le_of_ble_eq_true rfl) ?_
    refine So.gn (b := true) rfl rfl rfl (Nat.le_of_ble_eq_true rfl) (Nat.le_of_ble_eq_true rfl) ?_
    refine So.gn (b := true) rfl rfl rfl (Nat.le_of_ble_eq_true rfl) (Nat.le_of_ble_eq_true rfl) ?_
    refine So.gu rfl rfl (Nat.le_of_ble_eq_true rfl) ?_
    refine So.gu rfl rfl (Nat.le_of_ble_eq_true rfl) ?_
    refine So.gn (b := true) rfl rfl rfl (Nat.le_of_ble_eq_true rfl) (Nat.le_of_ble_eq_true rfl) ?_
    refine So.n (Nat.le_of_ble_eq_true rfl) (A.v rfl (V.pkTrue (u := .p (.v (.bool true))) rfl rfl ?_))
    refine So.e ?_
    show HT _ _ _ _ _
    refine R.condT rfl ?_
    refine HT.seq ?_
    refine HT.region S13_ok ?_
    refine So.n (Nat.le_of_ble_eq_true rfl) (A.v rfl (V.as (v := .p (.v (.int .i64 (0)))) rfl ?_))
    refine So.n (Nat.le_of_ble_eq_true rfl) (A.v rfl (V.as (v := .p (.v (.int .i64 (0)))) rfl ?_))
    refine So.n (Nat.le_of_ble_eq_true rfl) (A.v rfl (V.as (v := .p (.v (.int .i64 (1)))) rfl ?_))
    refine So.e ?_
    show HT _ _ _ _ _
    refine HT.ret ?_
    exact ret_ok (sg []) h rfl rfl rfl trivial ⟨trivial, trivial, trivial, trivial⟩ rfl ⟨⟨⟨le_int (by first | (rw [getF_arg (by omega)]; done) | (rw [getF_end (by omega) (by omega) (by omega) (by omega)]; done) | (rw [getF_longU (by omega) (by omega) (by omega) (by omega) (by omega)]; done) | (rw [getF_okU (by omega) (by omega) (by omega) (by omega) (by omega)]; done)), trivial⟩, ⟨le_int (by first | (rw [getF_arg (by omega)]; done) | (rw [getF_end (by omega) (by omega) (by omega) (by omega)]; done) | (rw [getF_longU (by omega) (by omega) (by omega) (by omega) (by omega)]; done) | (rw [getF_okU (by omega) (by omega) (by omega) (by omega) (by omega)]; done)), trivial⟩, ⟨le_int (by first | (rw [getF_arg (by omega)]; done) | (rw [getF_end (by omega) (by omega) (by omega) (by omega)]; done) | (rw [getF_longU (by omega) (by omega) (by omega) (by omega) (by omega)]; done) | (rw [getF_okU (by omega) (by omega) (by omega) (by omega) (by omega)]; done)), trivial⟩, trivial⟩, trivial⟩

/-! ### sodality/sodalityref11.Number -/
def rnumSp : Sp := ⟨[], mkE (α := Int × Int) (fun (n, k) => [.p (.v (.int .i64 (n))), .p (.v (.int .i64 (k)))]) (fun (n, k) => []) (fun (n, k) => True) (fun (n, k) => [.own 1 (0) ((numF n k).length)]) (fun (n, k) => [(1, ⟨5, 1, (numF n k).length, true, .bs (numF n k)⟩)])⟩
def S15 : FuncId → Option Sp := fun _ => none
theorem S15_ok : ∀ f s, S15 f = some s → FOK Tryd.prog gl f s := fun f s h => by cases h
theorem S15_det : ∀ f s, S15 f = some s → SpDet s.sp := fun f s h => by cases h
set_option maxHeartbeats 1000000 in
theorem rnum_ok : FOK Tryd.prog gl 15 rnumSp := by
  refine FOK.ofE (tyOf_ok Tryd.prog) (slots := [4]) (nt := 51) Tryd.func15 rfl rfl rfl rfl (by decide) 2 (fun ⟨_, _⟩ => rfl) (by decide) (fun ⟨_, _⟩ => ⟨trivial, trivial, trivial⟩) ?_
  rintro ⟨n, k⟩ kk hlen hpre h
  replace hpre : True := hpre
  show HT ⟨Tryd.prog, 51, tyOf Tryd.prog, gl, []⟩ _ [(0, .p (.v (.int .i64 (n)))), (1, .p (.v (.int .i64 (k))))] [] _
  refine HT.seq ?_
  refine HT.region S15_ok ?_
  refine So.n (Nat.le_of_ble_eq_true rfl) (A.v rfl (V.as (v := .p (.v (.slice none 0 0))) rfl ?_))
  refine So.e ?_
  show HT _ _ _ _ _
  refine HT.seq ?_
  refine HT.seq ?_
  refine HT.region S15_ok ?_
  refine So.n (Nat.le_of_ble_eq_true rfl) (A.v rfl (V.mv (v := .p (.v (.int .i64 _))) rfl ?_))
  refine So.n (Nat.le_of_ble_eq_true rfl) (A.v rfl (V.bin (a := (.v (.int .i64 _))) (b := (.v (.int .i64 (1)))) (r := .v (.bool _)) rfl rfl rfl trivial ?_))
  refine So.n (Nat.le_of_ble_eq_true rfl) (A.v rfl (V.mv (v := .p (.v (.bool _))) rfl ?_))
  refine So.gd rfl rfl (Nat.le_of_ble_eq_true rfl) (Nat.le_of_ble_eq_true rfl) (fun h1 => ?_) (fun h1 => ?_)
  · have h1 := of_decide_eq_false (bnT h1)
    refine A.v rfl (V.mv (v := .p (.v (.int .i64 _))) rfl ?_)
    refine So.gy rfl rfl (Nat.le_of_ble_eq_true rfl) (Nat.le_of_ble_eq_true rfl) ?_
    refine A.v rfl (V.bin (a := (.v (.int .i64 _))) (b := (.v (.int .i64 (2)))) (r := .v (.bool _)) rfl rfl rfl trivial ?_)
    refine So.n (Nat.le_of_ble_eq_true rfl) (A.v rfl (V.pkTrue (u := .p (.v (.bool _))) rfl rfl ?_))
    refine So.n (Nat.le_of_ble_eq_true rfl) (A.v rfl (V.mv (v := .p (.v (.bool _))) rfl ?_))
    refine So.gd rfl rfl (Nat.le_of_ble_eq_true rfl) (Nat.le_of_ble_eq_true rfl) (fun h2 => ?_) (fun h2 => ?_)
    · have h2 := of_decide_eq_false (bnT h2)
      refine A.v rfl (V.mv (v := .p (.v (.int .i64 _))) rfl ?_)
      refine So.gy rfl rfl (Nat.le_of_ble_eq_true rfl) (Nat.le_of_ble_eq_true rfl) ?_
      refine A.v rfl (V.bin (a := (.v (.int .i64 _))) (b := (.v (.int .i64 (4)))) (r := .v (.bool _)) rfl rfl rfl trivial ?_)
      refine So.n (Nat.le_of_ble_eq_true rfl) (A.v rfl (V.pkTrue (u := .p (.v (.bool _))) rfl rfl ?_))
      refine So.n (Nat.le_of_ble_eq_true rfl) (A.v rfl (V.mv (v := .p (.v (.bool _))) rfl ?_))
      refine So.gd rfl rfl (Nat.le_of_ble_eq_true rfl) (Nat.le_of_ble_eq_true rfl) (fun h3 => ?_) (fun h3 => ?_)
      · have h3 := of_decide_eq_false (bnT h3)
        refine A.v rfl (V.mv (v := .p (.v (.int .i64 _))) rfl ?_)
        refine So.gy rfl rfl (Nat.le_of_ble_eq_true rfl) (Nat.le_of_ble_eq_true rfl) ?_
        refine A.v rfl (V.bin (a := (.v (.int .i64 _))) (b := (.v (.int .i64 (8)))) (r := .v (.bool _)) rfl rfl rfl trivial ?_)
        refine So.n (Nat.le_of_ble_eq_true rfl) (A.v rfl (V.pkTrue (u := .p (.v (.bool _))) rfl rfl ?_))
        refine So.n (Nat.le_of_ble_eq_true rfl) (A.v rfl (V.mv (v := .p (.v (.bool _))) rfl ?_))
        refine So.gd rfl rfl (Nat.le_of_ble_eq_true rfl) (Nat.le_of_ble_eq_true rfl) (fun h4 => ?_) (fun h4 => ?_)
        · have h4 := of_decide_eq_true (bnF h4)
          refine A.v rfl (V.mv (v := .p (.v (.int .i64 _))) rfl ?_)
          refine So.gy rfl rfl (Nat.le_of_ble_eq_true rfl) (Nat.le_of_ble_eq_true rfl) ?_
          refine A.v rfl (V.bin (a := (.v (.int .i64 _))) (b := (.v (.int .i64 (0)))) (r := .v (.bool _)) rfl rfl rfl trivial ?_)
          refine So.n (Nat.le_of_ble_eq_true rfl) (A.v rfl (V.pkFalse (u := .p (.v (.bool _))) rfl rfl ?_))
          refine So.n (Nat.le_of_ble_eq_true rfl) (A.v rfl (V.mv (v := .p (.v (.bool _))) rfl ?_))
          refine So.gd rfl rfl (Nat.le_of_ble_eq_true rfl) (Nat.le_of_ble_eq_true rfl) (fun h5 => ?_) (fun h5 => ?_)
          · have h5 := of_decide_eq_false h5
            refine A.v rfl (V.mv (v := .p (.v (.int .i64 _))) rfl ?_)
            refine So.gy rfl rfl (Nat.le_of_ble_eq_true rfl) (Nat.le_of_ble_eq_true rfl) ?_
            refine A.v rfl (V.bin (a := (.v (.int .i64 _))) (b := (.v (.int .i64 (8)))) (r := .v (.bool _)) rfl rfl rfl trivial ?_)
            refine So.gy rfl rfl (Nat.le_of_ble_eq_true rfl) (Nat.le_of_ble_eq_true rfl) ?_
            refine A.v rfl (V.mv (v := .p (.v (.bool _))) rfl ?_)
            refine So.gd rfl rfl (Nat.le_of_ble_eq_true rfl) (Nat.le_of_ble_eq_true rfl) (fun h6 => ?_) (fun h6 => ?_)
            · have h6 := of_decide_eq_true h6
              refine A.v rfl (V.mv (v := .p (.v (.int .i64 _))) rfl ?_)
              refine So.gy rfl rfl (Nat.le_of_ble_eq_true rfl) (Nat.le_of_ble_eq_true rfl) ?_
              refine A.v rfl (V.mv (v := .p (.v (.int .i64 _))) rfl ?_)
              refine So.gy rfl rfl (Nat.le_of_ble_eq_true rfl) (Nat.le_of_ble_eq_true rfl) ?_
              refine A.v rfl (V.mulI rfl rfl (by omega) ?_)
              refine So.gy rfl rfl (Nat.le_of_ble_eq_true rfl) (Nat.le_of_ble_eq_true rfl) ?_
              refine A.v rfl (V.bin (a := (.v (.int .i64 _))) (b := (.v (.int .i64 _))) (r := .v (.int .i64 _)) rfl rfl rfl (by first | rfl | omega | (simp; done) | (simp; omega)) ?_)
              refine So.gy rfl rfl (Nat.le_of_ble_eq_true rfl) (Nat.le_of_ble_eq_true rfl) ?_
              refine A.v rfl (V.bin (a := (.v (.int .i64 _))) (b := (.v (.int .i64 (0)))) (r := .v (.bool _)) rfl rfl rfl trivial ?_)
              refine So.gy rfl rfl (Nat.le_of_ble_eq_true rfl) (Nat.le_of_ble_eq_true rfl) ?_
              refine A.v rfl (V.pkTrue (u := .p (.v (.bool _))) rfl rfl ?_)
              refine So.n (Nat.le_of_ble_eq_true rfl) (A.v rfl (V.pkFalse (u := .p (.v (.bool _))) rfl rfl ?_))
              refine So.e ?_
              show HT _ _ _ _ _
              refine R.cond rfl rfl (fun h7 => ?_) (fun h7 => ?_)
              · have h7 := of_decide_eq_false (bnT h7)
                refine HT.seq ?_
                refine HT.region S15_ok ?_
                refine So.n (Nat.le_of_ble_eq_true rfl) (A.v rfl (V.as (v := .p (.v (.slice none 0 0))) rfl ?_))
                refine So.e ?_
                show HT _ _ _ _ _
                refine R.phan 4 1 5 1 (.bs []) rfl rfl rfl ⟨rfl, rfl⟩ ?_
                refine HT.ret ?_
                exact ret_ok (sg [(1, 1)]) h rfl rfl rfl ⟨trivial, trivial⟩ ⟨rfl, trivial⟩ rfl ⟨⟨⟨le_own2 (by first | rfl | omega) (by first | rfl | (rw [numF_bad (by omega)] <;> rfl) | (rw [numF_big (by omega) (by have := @shr_zero n k (by omega) (by omega); omega)] <;> rfl) | (rw [numF_ok (by omega) (by omega) (by rintro ⟨h8, h9⟩; have := @shr_zero n k (by omega) (by omega); omega), numB_len]; omega) | (rw [numF_ok (by omega) (by omega) (by rintro ⟨h8, h9⟩; have := @shr_zero n k (by omega) (by omega); omega), List.take_of_length_le (by rw [numB_len]; omega)])), rfl⟩, trivial⟩, ⟨⟨_, rfl, .inl (ob_bs (by first | rfl | ((try dsimp only); (first | rfl | (rw [numF_bad (by omega)] <;> rfl) | (rw [numF_big (by omega) (by have := @shr_zero n k (by omega) (by omega); omega)] <;> rfl) | (rw [numF_ok (by omega) (by omega) (by rintro ⟨h8, h9⟩; have := @shr_zero n k (by omega) (by omega); omega), numB_len]; omega) | (rw [numF_ok (by omega) (by omega) (by rintro ⟨h8, h9⟩; have := @shr_zero n k (by omega) (by omega); omega), List.take_of_length_le (by rw [numB_len]; omega)])))) (by first | rfl | ((try dsimp only); (first | rfl | (rw [numF_bad (by omega)] <;> rfl) | (rw [numF_big (by omega) (by have := @shr_zero n k (by omega) (by omega); omega)] <;> rfl) | (rw [numF_ok (by omega) (by omega) (by rintro ⟨h8, h9⟩; have := @shr_zero n k (by omega) (by omega); omega), numB_len]; omega) | (rw [numF_ok (by omega) (by omega) (by rintro ⟨h8, h9⟩; have := @shr_zero n k (by omega) (by omega); omega), List.take_of_length_le (by rw [numB_len]; omega)]))))), trivial⟩, trivial⟩⟩
              · have h7 := of_decide_eq_true (bnF h7)
                refine HT.skip ?_
                show HT _ _ _ _ _
                refine HT.seq ?_
                refine HT.region S15_ok ?_
                refine So.n (Nat.le_of_ble_eq_true rfl) (A.v rfl (V.as (v := .p (.v (.slice none 0 0))) rfl ?_))
                refine So.e ?_
                show HT _ _ _ _ _
                refine HT.seq ?_
                refine HT.seq ?_
                refine HT.region S15_ok ?_
                refine So.n (Nat.le_of_ble_eq_true rfl) (A.v rfl (V.mv (v := .p (.v (.int .i64 _))) rfl ?_))
                refine So.n (Nat.le_of_ble_eq_true rfl) (A.v rfl (V.subI rfl rfl (by omega) ?_))
                refine So.n (Nat.le_of_ble_eq_true rfl) (A.v rfl (V.as (v := .p (.v (.int .i64 _))) rfl ?_))
                refine So.e ?_
                show HT _ _ _ _ _
                refine HT.block ?_
                refine R.phan 5 1 5 1 (.bs []) rfl rfl rfl ⟨rfl, rfl⟩ ?_
                refine R.loop (σ := Nat) (fun s => [(5, .own 1 (0) (s)), (6, .p (.v (.int .i64 (k - 1 - (s : Int)))))]) (fun s => [(1, ⟨5, 1, s, true, .bs ((numB n k.toNat).take s)⟩)]) [0, 4] [] (fun s => s ≤ k.toNat) (fun s => k.toNat - s) (0) (fr0 := [(0, .p (.v (.int .i64 _))), (4, .p (.v (.slice none 0 0)))]) (O0 := []) rfl rfl (by first | rfl | omega | (simp; done) | (simp; omega)) ⟨⟨⟨le_own2 (by first | rfl | omega) (by first | rfl | omega | (simp; done) | (simp; omega)), rfl⟩, ⟨le_int (by first | rfl | omega | (simp; done) | (simp; omega)), trivial⟩, ⟨.refl _, trivial⟩, ⟨.refl _, trivial⟩, trivial⟩, ⟨⟨_, rfl, .inl (ob_bs (by first | rfl | ((try dsimp only); first | rfl | omega | (simp; done) | (simp; omega))) (by first | rfl | ((try dsimp only); first | rfl | omega | (simp; done) | (simp; omega)))), trivial⟩, trivial⟩⟩ (fun s hP0 => ?_)
                refine HT.seq ?_
                refine HT.seq ?_
                refine HT.region S15_ok ?_
                refine So.n (Nat.le_of_ble_eq_true rfl) (A.v rfl (V.mv (v := .p (.v (.int .i64 _))) rfl ?_))
                refine So.n (Nat.le_of_ble_eq_true rfl) (A.v rfl (V.bin (a := (.v (.int .i64 _))) (b := (.v (.int .i64 (0)))) (r := .v (.bool _)) rfl rfl rfl trivial ?_))
                refine So.e ?_
                show HT _ _ _ _ _
                refine R.cond rfl rfl (fun h8 => ?_) (fun h8 => ?_)
                · have h8 := of_decide_eq_true h8
                  refine HT.skip ?_
                  show HT _ _ _ _ _
                  refine HT.seq ?_
                  refine HT.block ?_
                  refine HT.region S15_ok ?_
                  refine So.n (Nat.le_of_ble_eq_true rfl) (A.v rfl (V.mv (v := .own 1 0 _) rfl ?_))
                  refine So.n (Nat.le_of_ble_eq_true rfl) (A.v rfl (V.mv (v := .p (.v (.int .i64 _))) rfl ?_))
                  refine So.n (Nat.le_of_ble_eq_true rfl) (A.v rfl (V.mv (v := .p (.v (.int .i64 _))) rfl ?_))
                  refine So.n (Nat.le_of_ble_eq_true rfl) (A.v rfl (V.mulI rfl rfl (by omega) ?_))
                  refine So.n (Nat.le_of_ble_eq_true rfl) (A.v rfl (V.bin (a := (.v (.int .i64 _))) (b := (.v (.int .i64 _))) (r := .v (.int .i64 _)) rfl rfl rfl (by first | rfl | omega | (simp; done) | (simp; omega)) ?_))
                  refine So.n (Nat.le_of_ble_eq_true rfl) (A.v rfl (V.cvN ty5 ty2 (a := (.v (.int .i64 _))) (r := (.u8 _)) rfl rfl ?_))
                  refine So.n (Nat.le_of_ble_eq_true rfl) (A.bsl 2 ty22 ty5 rfl (Nat.le_of_ble_eq_true rfl) (Nat.le_of_ble_eq_true rfl) (fun _ => rfl) rfl rfl trivial ⟨trivial, trivial⟩ rfl (N := 1) rfl (c := .bs [_]) rfl ?_)
                  refine So.n (Nat.le_of_ble_eq_true rfl) (A.apOwn ty22 ty5 rfl rfl rfl rfl (u := .own 2 0 _) rfl rfl rfl rfl (by first | rfl | omega | (simp; done) | (simp; omega)) rfl rfl rfl ?_)
                  refine So.n (Nat.le_of_ble_eq_true rfl) (A.v rfl (V.as (v := .own 1 0 _) rfl ?_))
                  refine So.e ?_
                  show HT _ _ _ _ _
                  refine HT.region S15_ok ?_
                  refine So.n (Nat.le_of_ble_eq_true rfl) (A.v rfl (V.mv (v := .p (.v (.int .i64 _))) rfl ?_))
                  refine So.n (Nat.le_of_ble_eq_true rfl) (A.v rfl (V.subI rfl rfl (by omega) ?_))
                  refine So.n (Nat.le_of_ble_eq_true rfl) (A.v rfl (V.as (v := .p (.v (.int .i64 _))) rfl ?_))
                  refine So.e ?_
                  refine ⟨s + 1, by first | rfl | omega | (simp; done) | (simp; omega), by omega, ⟨⟨⟨le_own2 (by first | rfl | omega) (by first | rfl | omega | (simp; done) | (simp; omega)), rfl⟩, ⟨le_int (by first | rfl | omega | (simp; done) | (simp; omega)), trivial⟩, ⟨.refl _, trivial⟩, ⟨.refl _, trivial⟩, trivial⟩, ⟨⟨_, rfl, .inl (ob_bs (by first | rfl | ((try dsimp only); first | rfl | ((try dsimp only); rw [List.drop_zero, List.take_of_length_le (by simp; omega), ← numB_take (by omega) (by omega), show (8 * (k - 1 - (s : Int))).toNat = 8 * (k.toNat - 1 - s) from by omega]; rfl))) (by first | rfl | ((try dsimp only); first | rfl | ((try dsimp only); rw [List.drop_zero, List.take_of_length_le (by simp; omega), ← numB_take (by omega) (by omega), show (8 * (k - 1 - (s : Int))).toNat = 8 * (k.toNat - 1 - s) from by omega]; rfl)))), trivial⟩, trivial⟩⟩⟩
                · have h8 := of_decide_eq_false h8
                  refine HT.exit ?_
                  show HT _ _ _ _ _
                  refine HT.seq ?_
                  refine HT.region S15_ok ?_
                  refine So.n (Nat.le_of_ble_eq_true rfl) (A.v rfl (V.mv (v := .own 1 0 _) rfl ?_))
                  refine So.n (Nat.le_of_ble_eq_true rfl) (A.v rfl (V.as (v := .own 1 0 _) rfl ?_))
                  refine So.e ?_
                  show HT _ _ _ _ _
                  refine HT.ret ?_
                  exact ret_ok (sg [(1, 1)]) h rfl rfl rfl ⟨trivial, trivial⟩ ⟨rfl, trivial⟩ rfl ⟨⟨⟨le_own2 (by first | rfl | omega) (by first | rfl | (rw [numF_bad (by omega)] <;> rfl) | (rw [numF_big (by omega) (by have := @shr_zero n k (by omega) (by omega); omega)] <;> rfl) | (rw [numF_ok (by omega) (by omega) (by rintro ⟨h8, h9⟩; have := @shr_zero n k (by omega) (by omega); omega), numB_len]; omega) | (rw [numF_ok (by omega) (by omega) (by rintro ⟨h8, h9⟩; have := @shr_zero n k (by omega) (by omega); omega), List.take_of_length_le (by rw [numB_len]; omega)])), rfl⟩, trivial⟩, ⟨⟨_, rfl, .inl (ob_bs (by first | rfl | ((try dsimp only); (first | rfl | (rw [numF_bad (by omega)] <;> rfl) | (rw [numF_big (by omega) (by have := @shr_zero n k (by omega) (by omega); omega)] <;> rfl) | (rw [numF_ok (by omega) (by omega) (by rintro ⟨h8, h9⟩; have := @shr_zero n k (by omega) (by omega); omega), numB_len]; omega) | (rw [numF_ok (by omega) (by omega) (by rintro ⟨h8, h9⟩; have := @shr_zero n k (by omega) (by omega); omega), List.take_of_length_le (by rw [numB_len]; omega)])))) (by first | rfl | ((try dsimp only); (first | rfl | (rw [numF_bad (by omega)] <;> rfl) | (rw [numF_big (by omega) (by have := @shr_zero n k (by omega) (by omega); omega)] <;> rfl) | (rw [numF_ok (by omega) (by omega) (by rintro ⟨h8, h9⟩; have := @shr_zero n k (by omega) (by omega); omega), numB_len]; omega) | (rw [numF_ok (by omega) (by omega) (by rintro ⟨h8, h9⟩; have := @shr_zero n k (by omega) (by omega); omega), List.take_of_length_le (by rw [numB_len]; omega)]))))), trivial⟩, trivial⟩⟩
            · have h6 := of_decide_eq_false h6
              refine So.gn (b := false) rfl rfl rfl (Nat.le_of_ble_eq_true rfl) (Nat.le_of_ble_eq_true rfl) ?_
              refine So.gn (b := false) rfl rfl rfl (Nat.le_of_ble_eq_true rfl) (Nat.le_of_ble_eq_true rfl) ?_
              refine So.gn (b := false) rfl rfl rfl (Nat.le_of_ble_eq_true rfl) (Nat.le_of_ble_eq_true rfl) ?_
              refine So.gn (b := false) rfl rfl rfl (Nat.le_of_ble_eq_true rfl) (Nat.le_of_ble_eq_true rfl) ?_
              refine So.gy rfl rfl (Nat.le_of_ble_eq_true rfl) (Nat.le_of_ble_eq_true rfl) ?_
              refine A.v rfl (V.pkFalse (u := .p (.v (.bool false))) rfl rfl ?_)
              refine So.n (Nat.le_of_ble_eq_true rfl) (A.v rfl (V.pkFalse (u := .p (.v (.bool false))) rfl rfl ?_))
              refine So.e ?_
              show HT _ _ _ _ _
              refine R.condF rfl ?_
              refine HT.skip ?_
              show HT _ _ _ _ _
              refine HT.seq ?_
              refine HT.region S15_ok ?_
              refine So.n (Nat.le_of_ble_eq_true rfl) (A.v rfl (V.as (v := .p (.v (.slice none 0 0))) rfl ?_))
              refine So.e ?_
              show HT _ _ _ _ _
              refine HT.seq ?_
              refine HT.seq ?_
              refine HT.region S15_ok ?_
              refine So.n (Nat.le_of_ble_eq_true rfl) (A.v rfl (V.mv (v := .p (.v (.int .i64 _))) rfl ?_))
              refine So.n (Nat.le_of_ble_eq_true rfl) (A.v rfl (V.subI rfl rfl (by omega) ?_))
              refine So.n (Nat.le_of_ble_eq_true rfl) (A.v rfl (V.as (v := .p (.v (.int .i64 _))) rfl ?_))
              refine So.e ?_
              show HT _ _ _ _ _
              refine HT.block ?_
              refine R.phan 5 1 5 1 (.bs []) rfl rfl rfl ⟨rfl, rfl⟩ ?_
              refine R.loop (σ := Nat) (fun s => [(5, .own 1 (0) (s)), (6, .p (.v (.int .i64 (k - 1 - (s : Int)))))]) (fun s => [(1, ⟨5, 1, s, true, .bs ((numB n k.toNat).take s)⟩)]) [0, 4] [] (fun s => s ≤ k.toNat) (fun s => k.toNat - s) (0) (fr0 := [(0, .p (.v (.int .i64 _))), (4, .p (.v (.slice none 0 0)))]) (O0 := []) rfl rfl (by first | rfl | omega | (simp; done) | (simp; omega)) ⟨⟨⟨le_own2 (by first | rfl | omega) (by first | rfl | omega | (simp; done) | (simp; omega)), rfl⟩, ⟨le_int (by first | rfl | omega | (simp; done) | (simp; omega)), trivial⟩, ⟨.refl _, trivial⟩, ⟨.refl _, trivial⟩, trivial⟩, ⟨⟨_, rfl, .inl (ob_bs (by first | rfl | ((try dsimp only); first | rfl | omega | (simp; done) | (simp; omega))) (by first | rfl | ((try dsimp only); first | rfl | omega | (simp; done) | (simp; omega)))), trivial⟩, trivial⟩⟩ (fun s hP0 => ?_)
              refine HT.seq ?_
              refine HT.seq ?_
              refine HT.region S15_ok ?_
              refine So.n (Nat.le_of_ble_eq_true rfl) (A.v rfl (V.mv (v := .p (.v (.int .i64 _))) rfl ?_))
              refine So.n (Nat.le_of_ble_eq_true rfl) (A.v rfl (V.bin (a := (.v (.int .i64 _))) (b := (.v (.int .i64 (0)))) (r := .v (.bool _)) rfl rfl rfl trivial ?_))
              refine So.e ?_
              show HT _ _ _ _ _
              refine R.cond rfl rfl (fun h9 => ?_) (fun h9 => ?_)
              · have h9 := of_decide_eq_true h9
                refine HT.skip ?_
                show HT _ _ _ _ _
                refine HT.seq ?_
                refine HT.block ?_
                refine HT.region S15_ok ?_
                refine So.n (Nat.le_of_ble_eq_true rfl) (A.v rfl (V.mv (v := .own 1 0 _) rfl ?_))
                refine So.n (Nat.le_of_ble_eq_true rfl) (A.v rfl (V.mv (v := .p (.v (.int .i64 _))) rfl ?_))
                refine So.n (Nat.le_of_ble_eq_true rfl) (A.v rfl (V.mv (v := .p (.v (.int .i64 _))) rfl ?_))
                refine So.n (Nat.le_of_ble_eq_true rfl) (A.v rfl (V.mulI rfl rfl (by omega) ?_))
                refine So.n (Nat.le_of_ble_eq_true rfl) (A.v rfl (V.bin (a := (.v (.int .i64 _))) (b := (.v (.int .i64 _))) (r := .v (.int .i64 _)) rfl rfl rfl (by first | rfl | omega | (simp; done) | (simp; omega)) ?_))
                refine So.n (Nat.le_of_ble_eq_true rfl) (A.v rfl (V.cvN ty5 ty2 (a := (.v (.int .i64 _))) (r := (.u8 _)) rfl rfl ?_))
                refine So.n (Nat.le_of_ble_eq_true rfl) (A.bsl 2 ty22 ty5 rfl (Nat.le_of_ble_eq_true rfl) (Nat.le_of_ble_eq_true rfl) (fun _ => rfl) rfl rfl trivial ⟨trivial, trivial⟩ rfl (N := 1) rfl (c := .bs [_]) rfl ?_)
                refine So.n (Nat.le_of_ble_eq_true rfl) (A.apOwn ty22 ty5 rfl rfl rfl rfl (u := .own 2 0 _) rfl rfl rfl rfl (by first | rfl | omega | (simp; done) | (simp; omega)) rfl rfl rfl ?_)
                refine So.n (Nat.le_of_ble_eq_true rfl) (A.v rfl (V.as (v := .own 1 0 _) rfl ?_))
                refine So.e ?_
                show HT _ _ _ _ _
                refine HT.region S15_ok ?_
                refine So.n (Nat.le_of_ble_eq_true rfl) (A.v rfl (V.mv (v := .p (.v (.int .i64 _))) rfl ?_))
                refine So.n (Nat.le_of_ble_eq_true rfl) (A.v rfl (V.subI rfl rfl (by omega) ?_))
                refine So.n (Nat.le_of_ble_eq_true rfl) (A.v rfl (V.as (v := .p (.v (.int .i64 _))) rfl ?_))
                refine So.e ?_
                refine ⟨s + 1, by first | rfl | omega | (simp; done) | (simp; omega), by omega, ⟨⟨⟨le_own2 (by first | rfl | omega) (by first | rfl | omega | (simp; done) | (simp; omega)), rfl⟩, ⟨le_int (by first | rfl | omega | (simp; done) | (simp; omega)), trivial⟩, ⟨.refl _, trivial⟩, ⟨.refl _, trivial⟩, trivial⟩, ⟨⟨_, rfl, .inl (ob_bs (by first | rfl | ((try dsimp only); first | rfl | ((try dsimp only); rw [List.drop_zero, List.take_of_length_le (by simp; omega), ← numB_take (by omega) (by omega), show (8 * (k - 1 - (s : Int))).toNat = 8 * (k.toNat - 1 - s) from by omega]; rfl))) (by first | rfl | ((try dsimp only); first | rfl | ((try dsimp only); rw [List.drop_zero, List.take_of_length_le (by simp; omega), ← numB_take (by omega) (by omega), show (8 * (k - 1 - (s : Int))).toNat = 8 * (k.toNat - 1 - s) from by omega]; rfl)))), trivial⟩, trivial⟩⟩⟩
              · have h9 := of_decide_eq_false h9
                refine HT.exit ?_
                show HT _ _ _ _ _
                refine HT.seq ?_
                refine HT.region S15_ok ?_
                refine So.n (Nat.le_of_ble_eq_true rfl) (A.v rfl (V.mv (v := .own 1 0 _) rfl ?_))
                refine So.n (Nat.le_of_ble_eq_true rfl) (A.v rfl (V.as (v := .own 1 0 _) rfl ?_))
                refine So.e ?_
                show HT _ _ _ _ _
                refine HT.ret ?_
                exact ret_ok (sg [(1, 1)]) h rfl rfl rfl ⟨trivial, trivial⟩ ⟨rfl, trivial⟩ rfl ⟨⟨⟨le_own2 (by first | rfl | omega) (by first | rfl | (rw [numF_bad (by omega)] <;> rfl) | (rw [numF_big (by omega) (by have := @shr_zero n k (by omega) (by omega); omega)] <;> rfl) | (rw [numF_ok (by omega) (by omega) (by rintro ⟨h8, h9⟩; have := @shr_zero n k (by omega) (by omega); omega), numB_len]; omega) | (rw [numF_ok (by omega) (by omega) (by rintro ⟨h8, h9⟩; have := @shr_zero n k (by omega) (by omega); omega), List.take_of_length_le (by rw [numB_len]; omega)])), rfl⟩, trivial⟩, ⟨⟨_, rfl, .inl (ob_bs (by first | rfl | ((try dsimp only); (first | rfl | (rw [numF_bad (by omega)] <;> rfl) | (rw [numF_big (by omega) (by have := @shr_zero n k (by omega) (by omega); omega)] <;> rfl) | (rw [numF_ok (by omega) (by omega) (by rintro ⟨h8, h9⟩; have := @shr_zero n k (by omega) (by omega); omega), numB_len]; omega) | (rw [numF_ok (by omega) (by omega) (by rintro ⟨h8, h9⟩; have := @shr_zero n k (by omega) (by omega); omega), List.take_of_length_le (by rw [numB_len]; omega)])))) (by first | rfl | ((try dsimp only); (first | rfl | (rw [numF_bad (by omega)] <;> rfl) | (rw [numF_big (by omega) (by have := @shr_zero n k (by omega) (by omega); omega)] <;> rfl) | (rw [numF_ok (by omega) (by omega) (by rintro ⟨h8, h9⟩; have := @shr_zero n k (by omega) (by omega); omega), numB_len]; omega) | (rw [numF_ok (by omega) (by omega) (by rintro ⟨h8, h9⟩; have := @shr_zero n k (by omega) (by omega); omega), List.take_of_length_le (by rw [numB_len]; omega)]))))), trivial⟩, trivial⟩⟩
          · have h5 := of_decide_eq_true h5
            refine So.gn (b := true) rfl rfl rfl (Nat.le_of_ble_eq_true rfl) (Nat.le_of_ble_eq_true rfl) ?_
            refine So.gn (b := true) rfl rfl rfl (Nat.le_of_ble_eq_true rfl) (Nat.le_of_ble_eq_true rfl) ?_
            refine So.gu rfl rfl (Nat.le_of_ble_eq_true rfl) ?_
            refine So.gu rfl rfl (Nat.le_of_ble_eq_true rfl) ?_
            refine So.gu rfl rfl (Nat.le_of_ble_eq_true rfl) ?_
            refine So.gu rfl rfl (Nat.le_of_ble_eq_true rfl) ?_
            refine So.gu rfl rfl (Nat.le_of_ble_eq_true rfl) ?_
            refine So.gn (b := true) rfl rfl rfl (Nat.le_of_ble_eq_true rfl) (Nat.le_of_ble_eq_true rfl) ?_
            refine So.n (Nat.le_of_ble_eq_true rfl) (A.v rfl (V.pkTrue (u := .p (.v (.bool true))) rfl rfl ?_))
            refine So.e ?_
            show HT _ _ _ _ _
            refine R.condT rfl ?_
            refine HT.seq ?_
            refine HT.region S15_ok ?_
            refine So.n (Nat.le_of_ble_eq_true rfl) (A.v rfl (V.as (v := .p (.v (.slice none 0 0))) rfl ?_))
            refine So.e ?_
            show HT _ _ _ _ _
            refine R.phan 4 1 5 1 (.bs []) rfl rfl rfl ⟨rfl, rfl⟩ ?_
            refine HT.ret ?_
            exact ret_ok (sg [(1, 1)]) h rfl rfl rfl ⟨trivial, trivial⟩ ⟨rfl, trivial⟩ rfl ⟨⟨⟨le_own2 (by first | rfl | omega) (by first | rfl | (rw [numF_bad (by omega)] <;> rfl) | (rw [numF_big (by omega) (by have := @shr_zero n k (by omega) (by omega); omega)] <;> rfl) | (rw [numF_ok (by omega) (by omega) (by rintro ⟨h8, h9⟩; have := @shr_zero n k (by omega) (by omega); omega), numB_len]; omega) | (rw [numF_ok (by omega) (by omega) (by rintro ⟨h8, h9⟩; have := @shr_zero n k (by omega) (by omega); omega), List.take_of_length_le (by rw [numB_len]; omega)])), rfl⟩, trivial⟩, ⟨⟨_, rfl, .inl (ob_bs (by first | rfl | ((try dsimp only); (first | rfl | (rw [numF_bad (by omega)] <;> rfl) | (rw [numF_big (by omega) (by have := @shr_zero n k (by omega) (by omega); omega)] <;> rfl) | (rw [numF_ok (by omega) (by omega) (by rintro ⟨h8, h9⟩; have := @shr_zero n k (by omega) (by omega); omega), numB_len]; omega) | (rw [numF_ok (by omega) (by omega) (by rintro ⟨h8, h9⟩; have := @shr_zero n k (by omega) (by omega); omega), List.take_of_length_le (by rw [numB_len]; omega)])))) (by first | rfl | ((try dsimp only); (first | rfl | (rw [numF_bad (by omega)] <;> rfl) | (rw [numF_big (by omega) (by have := @shr_zero n k (by omega) (by omega); omega)] <;> rfl) | (rw [numF_ok (by omega) (by omega) (by rintro ⟨h8, h9⟩; have := @shr_zero n k (by omega) (by omega); omega), numB_len]; omega) | (rw [numF_ok (by omega) (by omega) (by rintro ⟨h8, h9⟩; have := @shr_zero n k (by omega) (by omega); omega), List.take_of_length_le (by rw [numB_len]; omega)]))))), trivial⟩, trivial⟩⟩
        · have h4 := of_decide_eq_false (bnT h4)
          refine So.gn (b := true) rfl rfl rfl (Nat.le_of_ble_eq_true rfl) (Nat.le_of_ble_eq_true rfl) ?_
          refine So.n (Nat.le_of_ble_eq_true rfl) (A.v rfl (V.pkTrue (u := .p (.v (.bool true))) rfl rfl ?_))
          refine So.n (Nat.le_of_ble_eq_true rfl) (A.v rfl (V.mv (v := .p (.v (.bool true))) rfl ?_))
          refine So.gn (b := true) rfl rfl rfl (Nat.le_of_ble_eq_true rfl) (Nat.le_of_ble_eq_true rfl) ?_
          refine So.gn (b := true) rfl rfl rfl (Nat.le_of_ble_eq_true rfl) (Nat.le_of_ble_eq_true rfl) ?_
          refine So.gn (b := true) rfl rfl rfl (Nat.le_of_ble_eq_true rfl) (Nat.le_of_ble_eq_true rfl) ?_
          refine So.gu rfl rfl (Nat.le_of_ble_eq_true rfl) ?_
          refine So.gu rfl rfl (Nat.le_of_ble_eq_true rfl) ?_
          refine So.gu rfl rfl (Nat.le_of_ble_eq_true rfl) ?_
          refine So.gu rfl rfl (Nat.le_of_ble_eq_true rfl) ?_
          refine So.gu rfl rfl (Nat.le_of_ble_eq_true rfl) ?_
          refine So.gn (b := true) rfl rfl rfl (Nat.le_of_ble_eq_true rfl) (Nat.le_of_ble_eq_true rfl) ?_
          refine So.n (Nat.le_of_ble_eq_true rfl) (A.v rfl (V.pkTrue (u := .p (.v (.bool true))) rfl rfl ?_))
          refine So.e ?_
          show HT _ _ _ _ _
          refine R.condT rfl ?_
          refine HT.seq ?_
          refine HT.region S15_ok ?_
          refine So.n (Nat.le_of_ble_eq_true rfl) (A.v rfl (V.as (v := .p (.v (.slice none 0 0))) rfl ?_))
          refine So.e ?_
          show HT _ _ _ _ _
          refine R.phan 4 1 5 1 (.bs []) rfl rfl rfl ⟨rfl, rfl⟩ ?_
          refine HT.ret ?_
          exact ret_ok (sg [(1, 1)]) h rfl rfl rfl ⟨trivial, trivial⟩ ⟨rfl, trivial⟩ rfl ⟨⟨⟨le_own2 (by first | rfl | omega) (by first | rfl | (rw [numF_bad (by omega)] <;> rfl) | (rw [numF_big (by omega) (by have := @shr_zero n k (by omega) (by omega); omega)] <;> rfl) | (rw [numF_ok (by omega) (by omega) (by rintro ⟨h8, h9⟩; have := @shr_zero n k (by omega) (by omega); omega), numB_len]; omega) | (rw [numF_ok (by omega) (by omega) (by rintro ⟨h8, h9⟩; have := @shr_zero n k (by omega) (by omega); omega), List.take_of_length_le (by rw [numB_len]; omega)])), rfl⟩, trivial⟩, ⟨⟨_, rfl, .inl (ob_bs (by first | rfl | ((try dsimp only); (first | rfl | (rw [numF_bad (by omega)] <;> rfl) | (rw [numF_big (by omega) (by have := @shr_zero n k (by omega) (by omega); omega)] <;> rfl) | (rw [numF_ok (by omega) (by omega) (by rintro ⟨h8, h9⟩; have := @shr_zero n k (by omega) (by omega); omega), numB_len]; omega) | (rw [numF_ok (by omega) (by omega) (by rintro ⟨h8, h9⟩; have := @shr_zero n k (by omega) (by omega); omega), List.take_of_length_le (by rw [numB_len]; omega)])))) (by first | rfl | ((try dsimp only); (first | rfl | (rw [numF_bad (by omega)] <;> rfl) | (rw [numF_big (by omega) (by have := @shr_zero n k (by omega) (by omega); omega)] <;> rfl) | (rw [numF_ok (by omega) (by omega) (by rintro ⟨h8, h9⟩; have := @shr_zero n k (by omega) (by omega); omega), numB_len]; omega) | (rw [numF_ok (by omega) (by omega) (by rintro ⟨h8, h9⟩; have := @shr_zero n k (by omega) (by omega); omega), List.take_of_length_le (by rw [numB_len]; omega)]))))), trivial⟩, trivial⟩⟩
      · have h3 := of_decide_eq_true (bnF h3)
        refine So.gn (b := false) rfl rfl rfl (Nat.le_of_ble_eq_true rfl) (Nat.le_of_ble_eq_true rfl) ?_
        refine So.n (Nat.le_of_ble_eq_true rfl) (A.v rfl (V.pkFalse (u := .p (.v (.bool false))) rfl rfl ?_))
        refine So.n (Nat.le_of_ble_eq_true rfl) (A.v rfl (V.mv (v := .p (.v (.bool false))) rfl ?_))
        refine So.gy rfl rfl (Nat.le_of_ble_eq_true rfl) (Nat.le_of_ble_eq_true rfl) ?_
        refine A.v rfl (V.mv (v := .p (.v (.int .i64 _))) rfl ?_)
        refine So.gy rfl rfl (Nat.le_of_ble_eq_true rfl) (Nat.le_of_ble_eq_true rfl) ?_
        refine A.v rfl (V.bin (a := (.v (.int .i64 _))) (b := (.v (.int .i64 (0)))) (r := .v (.bool _)) rfl rfl rfl trivial ?_)
        refine So.n (Nat.le_of_ble_eq_true rfl) (A.v rfl (V.pkFalse (u := .p (.v (.bool _))) rfl rfl ?_))
        refine So.n (Nat.le_of_ble_eq_true rfl) (A.v rfl (V.mv (v := .p (.v (.bool _))) rfl ?_))
        refine So.gd rfl rfl (Nat.le_of_ble_eq_true rfl) (Nat.le_of_ble_eq_true rfl) (fun h10 => ?_) (fun h10 => ?_)
        · have h10 := of_decide_eq_false h10
          refine A.v rfl (V.mv (v := .p (.v (.int .i64 _))) rfl ?_)
          refine So.gy rfl rfl (Nat.le_of_ble_eq_true rfl) (Nat.le_of_ble_eq_true rfl) ?_
          refine A.v rfl (V.bin (a := (.v (.int .i64 _))) (b := (.v (.int .i64 (8)))) (r := .v (.bool _)) rfl rfl rfl trivial ?_)
          refine So.gy rfl rfl (Nat.le_of_ble_eq_true rfl) (Nat.le_of_ble_eq_true rfl) ?_
          refine A.v rfl (V.mv (v := .p (.v (.bool _))) rfl ?_)
          refine So.gd rfl rfl (Nat.le_of_ble_eq_true rfl) (Nat.le_of_ble_eq_true rfl) (fun h11 => ?_) (fun h11 => ?_)
          · have h11 := of_decide_eq_true h11
            refine A.v rfl (V.mv (v := .p (.v (.int .i64 _))) rfl ?_)
            refine So.gy rfl rfl (Nat.le_of_ble_eq_true rfl) (Nat.le_of_ble_eq_true rfl) ?_
            refine A.v rfl (V.mv (v := .p (.v (.int .i64 _))) rfl ?_)
            refine So.gy rfl rfl (Nat.le_of_ble_eq_true rfl) (Nat.le_of_ble_eq_true rfl) ?_
            refine A.v rfl (V.mulI rfl rfl (by omega) ?_)
            refine So.gy rfl rfl (Nat.le_of_ble_eq_true rfl) (Nat.le_of_ble_eq_true rfl) ?_
            refine A.v rfl (V.bin (a := (.v (.int .i64 _))) (b := (.v (.int .i64 _))) (r := .v (.int .i64 _)) rfl rfl rfl (by first | rfl | omega | (simp; done) | (simp; omega)) ?_)
            refine So.gy rfl rfl (Nat.le_of_ble_eq_true rfl) (Nat.le_of_ble_eq_true rfl) ?_
            refine A.v rfl (V.bin (a := (.v (.int .i64 _))) (b := (.v (.int .i64 (0)))) (r := .v (.bool _)) rfl rfl rfl trivial ?_)
            refine So.gy rfl rfl (Nat.le_of_ble_eq_true rfl) (Nat.le_of_ble_eq_true rfl) ?_
            refine A.v rfl (V.pkTrue (u := .p (.v (.bool _))) rfl rfl ?_)
            refine So.n (Nat.le_of_ble_eq_true rfl) (A.v rfl (V.pkFalse (u := .p (.v (.bool _))) rfl rfl ?_))
            refine So.e ?_
            show HT _ _ _ _ _
            refine R.cond rfl rfl (fun h12 => ?_) (fun h12 => ?_)
            · have h12 := of_decide_eq_false (bnT h12)
              refine HT.seq ?_
              refine HT.region S15_ok ?_
              refine So.n (Nat.le_of_ble_eq_true rfl) (A.v rfl (V.as (v := .p (.v (.slice none 0 0))) rfl ?_))
              refine So.e ?_
              show HT _ _ _ _ _
              refine R.phan 4 1 5 1 (.bs []) rfl rfl rfl ⟨rfl, rfl⟩ ?_
              refine HT.ret ?_
              exact ret_ok (sg [(1, 1)]) h rfl rfl rfl ⟨trivial, trivial⟩ ⟨rfl, trivial⟩ rfl ⟨⟨⟨le_own2 (by first | rfl | omega) (by first | rfl | (rw [numF_bad (by omega)] <;> rfl) | (rw [numF_big (by omega) (by have := @shr_zero n k (by omega) (by omega); omega)] <;> rfl) | (rw [numF_ok (by omega) (by omega) (by rintro ⟨h8, h9⟩; have := @shr_zero n k (by omega) (by omega); omega), numB_len]; omega) | (rw [numF_ok (by omega) (by omega) (by rintro ⟨h8, h9⟩; have := @shr_zero n k (by omega) (by omega); omega), List.take_of_length_le (by rw [numB_len]; omega)])), rfl⟩, trivial⟩, ⟨⟨_, rfl, .inl (ob_bs (by first | rfl | ((try dsimp only); (first | rfl | (rw [numF_bad (by omega)] <;> rfl) | (rw [numF_big (by omega) (by have := @shr_zero n k (by omega) (by omega); omega)] <;> rfl) | (rw [numF_ok (by omega) (by omega) (by rintro ⟨h8, h9⟩; have := @shr_zero n k (by omega) (by omega); omega), numB_len]; omega) | (rw [numF_ok (by omega) (by omega) (by rintro ⟨h8, h9⟩; have := @shr_zero n k (by omega) (by omega); omega), List.take_of_length_le (by rw [numB_len]; omega)])))) (by first | rfl | ((try dsimp only); (first | rfl | (rw [numF_bad (by omega)] <;> rfl) | (rw [numF_big (by omega) (by have := @shr_zero n k (by omega) (by omega); omega)] <;> rfl) | (rw [numF_ok (by omega) (by omega) (by rintro ⟨h8, h9⟩; have := @shr_zero n k (by omega) (by omega); omega), numB_len]; omega) | (rw [numF_ok (by omega) (by omega) (by rintro ⟨h8, h9⟩; have := @shr_zero n k (by omega) (by omega); omega), List.take_of_length_le (by rw [numB_len]; omega)]))))), trivial⟩, trivial⟩⟩
            · have h12 := of_decide_eq_true (bnF h12)
              refine HT.skip ?_
              show HT _ _ _ _ _
              refine HT.seq ?_
              refine HT.region S15_ok ?_
              refine So.n (Nat.le_of_ble_eq_true rfl) (A.v rfl (V.as (v := .p (.v (.slice none 0 0))) rfl ?_))
              refine So.e ?_
              show HT _ _ _ _ _
              refine HT.seq ?_
              refine HT.seq ?_
              refine HT.region S15_ok ?_
              refine So.n (Nat.le_of_ble_eq_true rfl) (A.v rfl (V.mv (v := .p (.v (.int .i64 _))) rfl ?_))
              refine So.n (Nat.le_of_ble_eq_true rfl) (A.v rfl (V.subI rfl rfl (by omega) ?_))
              refine So.n (Nat.le_of_ble_eq_true rfl) (A.v rfl (V.as (v := .p (.v (.int .i64 _))) rfl ?_))
              refine So.e ?_
              show HT _ _ _ _ _
              refine HT.block ?_
              refine R.phan 5 1 5 1 (.bs []) rfl rfl rfl ⟨rfl, rfl⟩ ?_
              refine R.loop (σ := Nat) (fun s => [(5, .own 1 (0) (s)), (6, .p (.v (.int .i64 (k - 1 - (s : Int)))))]) (fun s => [(1, ⟨5, 1, s, true, .bs ((numB n k.toNat).take s)⟩)]) [0, 4] [] (fun s => s ≤ k.toNat) (fun s => k.toNat - s) (0) (fr0 := [(0, .p (.v (.int .i64 _))), (4, .p (.v (.slice none 0 0)))]) (O0 := []) rfl rfl (by first | rfl | omega | (simp; done) | (simp; omega)) ⟨⟨⟨le_own2 (by first | rfl | omega) (by first | rfl | omega | (simp; done) | (simp; omega)), rfl⟩, ⟨le_int (by first | rfl | omega | (simp; done) | (simp; omega)), trivial⟩, ⟨.refl _, trivial⟩, ⟨.refl _, trivial⟩, trivial⟩, ⟨⟨_, rfl, .inl (ob_bs (by first | rfl | ((try dsimp only); first | rfl | omega | (simp; done) | (simp; omega))) (by first | rfl | ((try dsimp only); first | rfl | omega | (simp; done) | (simp; omega)))), trivial⟩, trivial⟩⟩ (fun s hP0 => ?_)
              refine HT.seq ?_
              refine HT.seq ?_
              refine HT.region S15_ok ?_
              refine So.n (Nat.le_of_ble_eq_true rfl) (A.v rfl (V.mv (v := .p (.v (.int .i64 _))) rfl ?_))
              refine So.n (Nat.le_of_ble_eq_true rfl) (A.v rfl (V.bin (a := (.v (.int .i64 _))) (b := (.v (.int .i64 (0)))) (r := .v (.bool _)) rfl rfl rfl trivial ?_))
              refine So.e ?_
              show HT _ _ _ _ _
              refine R.cond rfl rfl (fun h13 => ?_) (fun h13 => ?_)
              · have h13 := of_decide_eq_true h13
                refine HT.skip ?_
                show HT _ _ _ _ _
                refine HT.seq ?_
                refine HT.block ?_
                refine HT.region S15_ok ?_
                refine So.n (Nat.le_of_ble_eq_true rfl) (A.v rfl (V.mv (v := .own 1 0 _) rfl ?_))
                refine So.n (Nat.le_of_ble_eq_true rfl) (A.v rfl (V.mv (v := .p (.v (.int .i64 _))) rfl ?_))
                refine So.n (Nat.le_of_ble_eq_true rfl) (A.v rfl (V.mv (v := .p (.v (.int .i64 _))) rfl ?_))
                refine So.n (Nat.le_of_ble_eq_true rfl) (A.v rfl (V.mulI rfl rfl (by omega) ?_))
                refine So.n (Nat.le_of_ble_eq_true rfl) (A.v rfl (V.bin (a := (.v (.int .i64 _))) (b := (.v (.int .i64 _))) (r := .v (.int .i64 _)) rfl rfl rfl (by first | rfl | omega | (simp; done) | (simp; omega)) ?_))
                refine So.n (Nat.le_of_ble_eq_true rfl) (A.v rfl (V.cvN ty5 ty2 (a := (.v (.int .i64 _))) (r := (.u8 _)) rfl rfl ?_))
                refine So.n (Nat.le_of_ble_eq_true rfl) (A.bsl 2 ty22 ty5 rfl (Nat.le_of_ble_eq_true rfl) (Nat.le_of_ble_eq_true rfl) (fun _ => rfl) rfl rfl trivial ⟨trivial, trivial⟩ rfl (N := 1) rfl (c := .bs [_]) rfl ?_)
                refine So.n (Nat.le_of_ble_eq_true rfl) (A.apOwn ty22 ty5 rfl rfl rfl rfl (u := .own 2 0 _) rfl rfl rfl rfl (by first | rfl | omega | (simp; done) | (simp; omega)) rfl rfl rfl ?_)
                refine So.n (Nat.le_of_ble_eq_true rfl) (A.v rfl (V.as (v := .own 1 0 _) rfl ?_))
                refine So.e ?_
                show HT _ _ _ _ _
                refine HT.region S15_ok ?_
                refine So.n (Nat.le_of_ble_eq_true rfl) (A.v rfl (V.mv (v := .p (.v (.int .i64 _))) rfl ?_))
                refine So.n (Nat.le_of_ble_eq_true rfl) (A.v rfl (V.subI rfl rfl (by omega) ?_))
                refine So.n (Nat.le_of_ble_eq_true rfl) (A.v rfl (V.as (v := .p (.v (.int .i64 _))) rfl ?_))
                refine So.e ?_
                refine ⟨s + 1, by first | rfl | omega | (simp; done) | (simp; omega), by omega, ⟨⟨⟨le_own2 (by first | rfl | omega) (by first | rfl | omega | (simp; done) | (simp; omega)), rfl⟩, ⟨le_int (by first | rfl | omega | (simp; done) | (simp; omega)), trivial⟩, ⟨.refl _, trivial⟩, ⟨.refl _, trivial⟩, trivial⟩, ⟨⟨_, rfl, .inl (ob_bs (by first | rfl | ((try dsimp only); first | rfl | ((try dsimp only); rw [List.drop_zero, List.take_of_length_le (by simp; omega), ← numB_take (by omega) (by omega), show (8 * (k - 1 - (s : Int))).toNat = 8 * (k.toNat - 1 - s) from by omega]; rfl))) (by first | rfl | ((try dsimp only); first | rfl | ((try dsimp only); rw [List.drop_zero, List.take_of_length_le (by simp; omega), ← numB_take (by omega) (by omega), show (8 * (k - 1 - (s : Int))).toNat = 8 * (k.toNat - 1 - s) from by omega]; rfl)))), trivial⟩, trivial⟩⟩⟩
              · have h13 := of_decide_eq_false h13
                refine HT.exit ?_
                show HT _ _ _ _ _
                refine HT.seq ?_
                refine HT.region S15_ok ?_
                refine So.n (Nat.le_of_ble_eq_true rfl) (A.v rfl (V.mv (v := .own 1 0 _) rfl ?_))
                refine So.n (Nat.le_of_ble_eq_true rfl) (A.v rfl (V.as (v := .own 1 0 _) rfl ?_))
                refine So.e ?_
                show HT _ _ _ _ _
                refine HT.ret ?_
                exact ret_ok (sg [(1, 1)]) h rfl rfl rfl ⟨trivial, trivial⟩ ⟨rfl, trivial⟩ rfl ⟨⟨⟨le_own2 (by first | rfl | omega) (by first | rfl | (rw [numF_bad (by omega)] <;> rfl) | (rw [numF_big (by omega) (by have := @shr_zero n k (by omega) (by omega); omega)] <;> rfl) | (rw [numF_ok (by omega) (by omega) (by rintro ⟨h8, h9⟩; have := @shr_zero n k (by omega) (by omega); omega), numB_len]; omega) | (rw [numF_ok (by omega) (by omega) (by rintro ⟨h8, h9⟩; have := @shr_zero n k (by omega) (by omega); omega), List.take_of_length_le (by rw [numB_len]; omega)])), rfl⟩, trivial⟩, ⟨⟨_, rfl, .inl (ob_bs (by first | rfl | ((try dsimp only); (first | rfl | (rw [numF_bad (by omega)] <;> rfl) | (rw [numF_big (by omega) (by have := @shr_zero n k (by omega) (by omega); omega)] <;> rfl) | (rw [numF_ok (by omega) (by omega) (by rintro ⟨h8, h9⟩; have := @shr_zero n k (by omega) (by omega); omega), numB_len]; omega) | (rw [numF_ok (by omega) (by omega) (by rintro ⟨h8, h9⟩; have := @shr_zero n k (by omega) (by omega); omega), List.take_of_length_le (by rw [numB_len]; omega)])))) (by first | rfl | ((try dsimp only); (first | rfl | (rw [numF_bad (by omega)] <;> rfl) | (rw [numF_big (by omega) (by have := @shr_zero n k (by omega) (by omega); omega)] <;> rfl) | (rw [numF_ok (by omega) (by omega) (by rintro ⟨h8, h9⟩; have := @shr_zero n k (by omega) (by omega); omega), numB_len]; omega) | (rw [numF_ok (by omega) (by omega) (by rintro ⟨h8, h9⟩; have := @shr_zero n k (by omega) (by omega); omega), List.take_of_length_le (by rw [numB_len]; omega)]))))), trivial⟩, trivial⟩⟩
          · have h11 := of_decide_eq_false h11
            refine So.gn (b := false) rfl rfl rfl (Nat.le_of_ble_eq_true rfl) (Nat.le_of_ble_eq_true rfl) ?_
            refine So.gn (b := false) rfl rfl rfl (Nat.le_of_ble_eq_true rfl) (Nat.le_of_ble_eq_true rfl) ?_
            refine So.gn (b := false) rfl rfl rfl (Nat.le_of_ble_eq_true rfl) (Nat.le_of_ble_eq_true rfl) ?_
            refine So.gn (b := false) rfl rfl rfl (Nat.le_of_ble_eq_true rfl) (Nat.le_of_ble_eq_true rfl) ?_
            refine So.gy rfl rfl (Nat.le_of_ble_eq_true rfl) (Nat.le_of_ble_eq_true rfl) ?_
            refine A.v rfl (V.pkFalse (u := .p (.v (.bool false))) rfl rfl ?_)
            refine So.n (Nat.le_of_ble_eq_true rfl) (A.v rfl (V.pkFalse (u := .p (.v (.bool false))) rfl rfl ?_))
            refine So.e ?_
            show HT _ _ _ _ _
            refine R.condF rfl ?_
            refine HT.skip ?_
            show HT _ _ _ _ _
            refine HT.seq ?_
            refine HT.region S15_ok ?_
            refine So.n (Nat.le_of_ble_eq_true rfl) (A.v rfl (V.as (v := .p (.v (.slice none 0 0))) rfl ?_))
            refine So.e ?_
            show HT _ _ _ _ _
            refine HT.seq ?_
            refine HT.seq ?_
            refine HT.region S15_ok ?_
            refine So.n (Nat.le_of_ble_eq_true rfl) (A.v rfl (V.mv (v := .p (.v (.int .i64 _))) rfl ?_))
            refine So.n (Nat.le_of_ble_eq_true rfl) (A.v rfl (V.subI rfl rfl (by omega) ?_))
            refine So.n (Nat.le_of_ble_eq_true rfl) (A.v rfl (V.as (v := .p (.v (.int .i64 _))) rfl ?_))
            refine So.e ?_
            show HT _ _ _ _ _
            refine HT.block ?_
            refine R.phan 5 1 5 1 (.bs []) rfl rfl rfl ⟨rfl, rfl⟩ ?_
            refine R.loop (σ := Nat) (fun s => [(5, .own 1 (0) (s)), (6, .p (.v (.int .i64 (k - 1 - (s : Int)))))]) (fun s => [(1, ⟨5, 1, s, true, .bs ((numB n k.toNat).take s)⟩)]) [0, 4] [] (fun s => s ≤ k.toNat) (fun s => k.toNat - s) (0) (fr0 := [(0, .p (.v (.int .i64 _))), (4, .p (.v (.slice none 0 0)))]) (O0 := []) rfl rfl (by first | rfl | omega | (simp; done) | (simp; omega)) ⟨⟨⟨le_own2 (by first | rfl | omega) (by first | rfl | omega | (simp; done) | (simp; omega)), rfl⟩, ⟨le_int (by first | rfl | omega | (simp; done) | (simp; omega)), trivial⟩, ⟨.refl _, trivial⟩, ⟨.refl _, trivial⟩, trivial⟩, ⟨⟨_, rfl, .inl (ob_bs (by first | rfl | ((try dsimp only); first | rfl | omega | (simp; done) | (simp; omega))) (by first | rfl | ((try dsimp only); first | rfl | omega | (simp; done) | (simp; omega)))), trivial⟩, trivial⟩⟩ (fun s hP0 => ?_)
            refine HT.seq ?_
            refine HT.seq ?_
            refine HT.region S15_ok ?_
            refine So.n (Nat.le_of_ble_eq_true rfl) (A.v rfl (V.mv (v := .p (.v (.int .i64 _))) rfl ?_))
            refine So.n (Nat.le_of_ble_eq_true rfl) (A.v rfl (V.bin (a := (.v (.int .i64 _))) (b := (.v (.int .i64 (0)))) (r := .v (.bool _)) rfl rfl rfl trivial ?_))
            refine So.e ?_
            show HT _ _ _ _ _
            refine R.cond rfl rfl (fun h14 => ?_) (fun h14 => ?_)
            · have h14 := of_decide_eq_true h14
              refine HT.skip ?_
              show HT _ _ _ _ _
              refine HT.seq ?_
              refine HT.block ?_
              refine HT.region S15_ok ?_
              refine So.n (Nat.le_of_ble_eq_true rfl) (A.v rfl (V.mv (v := .own 1 0 _) rfl ?_))
              refine So.n (Nat.le_of_ble_eq_true rfl) (A.v rfl (V.mv (v := .p (.v (.int .i64 _))) rfl ?_))
              refine So.n (Nat.le_of_ble_eq_true rfl) (A.v rfl (V.mv (v := .p (.v (.int .i64 _))) rfl ?_))
              refine So.n (Nat.le_of_ble_eq_true rfl) (A.v rfl (V.mulI rfl rfl (by omega) ?_))
              refine So.n (Nat.le_of_ble_eq_true rfl) (A.v rfl (V.bin (a := (.v (.int .i64 _))) (b := (.v (.int .i64 _))) (r := .v (.int .i64 _)) rfl rfl rfl (by first | rfl | omega | (simp; done) | (simp; omega)) ?_))
              refine So.n (Nat.le_of_ble_eq_true rfl) (A.v rfl (V.cvN ty5 ty2 (a := (.v (.int .i64 _))) (r := (.u8 _)) rfl rfl ?_))
              refine So.n (Nat.le_of_ble_eq_true rfl) (A.bsl 2 ty22 ty5 rfl (Nat.le_of_ble_eq_true rfl) (Nat.le_of_ble_eq_true rfl) (fun _ => rfl) rfl rfl trivial ⟨trivial, trivial⟩ rfl (N := 1) rfl (c := .bs [_]) rfl ?_)
              refine So.n (Nat.le_of_ble_eq_true rfl) (A.apOwn ty22 ty5 rfl rfl rfl rfl (u := .own 2 0 _) rfl rfl rfl rfl (by first | rfl | omega | (simp; done) | (simp; omega)) rfl rfl rfl ?_)
              refine So.n (Nat.le_of_ble_eq_true rfl) (A.v rfl (V.as (v := .own 1 0 _) rfl ?_))
              refine So.e ?_
              show HT _ _ _ _ _
              refine HT.region S15_ok ?_
              refine So.n (Nat.le_of_ble_eq_true rfl) (A.v rfl (V.mv (v := .p (.v (.int .i64 _))) rfl ?_))
              refine So.n (Nat.le_of_ble_eq_true rfl) (A.v rfl (V.subI rfl rfl (by omega) ?_))
              refine So.n (Nat.le_of_ble_eq_true rfl) (A.v rfl (V.as (v := .p (.v (.int .i64 _))) rfl ?_))
              refine So.e ?_
              refine ⟨s + 1, by first | rfl | omega | (simp; done) | (simp; omega), by omega, ⟨⟨⟨le_own2 (by first | rfl | omega) (by first | rfl | omega | (simp; done) | (simp; omega)), rfl⟩, ⟨le_int (by first | rfl | omega | (simp; done) | (simp; omega)), trivial⟩, ⟨.refl _, trivial⟩, ⟨.refl _, trivial⟩, trivial⟩, ⟨⟨_, rfl, .inl (ob_bs (by first | rfl | ((try dsimp only); first | rfl | ((try dsimp only); rw [List.drop_zero, List.take_of_length_le (by simp; omega), ← numB_take (by omega) (by omega), show (8 * (k - 1 - (s : Int))).toNat = 8 * (k.toNat - 1 - s) from by omega]; rfl))) (by first | rfl | ((try dsimp only); first | rfl | ((try dsimp only); rw [List.drop_zero, List.take_of_length_le (by simp; omega), ← numB_take (by omega) (by omega), show (8 * (k - 1 - (s : Int))).toNat = 8 * (k.toNat - 1 - s) from by omega]; rfl)))), trivial⟩, trivial⟩⟩⟩
            · have h14 := of_decide_eq_false h14
              refine HT.exit ?_
              show HT _ _ _ _ _
              refine HT.seq ?_
              refine HT.region S15_ok ?_
              refine So.n (Nat.le_of_ble_eq_true rfl) (A.v rfl (V.mv (v := .own 1 0 _) rfl ?_))
              refine So.n (Nat.le_of_ble_eq_true rfl) (A.v rfl (V.as (v := .own 1 0 _) rfl ?_))
              refine So.e ?_
              show HT _ _ _ _ _
              refine HT.ret ?_
              exact ret_ok (sg [(1, 1)]) h rfl rfl rfl ⟨trivial, trivial⟩ ⟨rfl, trivial⟩ rfl ⟨⟨⟨le_own2 (by first | rfl | omega) (by first | rfl | (rw [numF_bad (by omega)] <;> rfl) | (rw [numF_big (by omega) (by have := @shr_zero n k (by omega) (by omega); omega)] <;> rfl) | (rw [numF_ok (by omega) (by omega) (by rintro ⟨h8, h9⟩; have := @shr_zero n k (by omega) (by omega); omega), numB_len]; omega) | (rw [numF_ok (by omega) (by omega) (by rintro ⟨h8, h9⟩; have := @shr_zero n k (by omega) (by omega); omega), List.take_of_length_le (by rw [numB_len]; omega)])), rfl⟩, trivial⟩, ⟨⟨_, rfl, .inl (ob_bs (by first | rfl | ((try dsimp only); (first | rfl | (rw [numF_bad (by omega)] <;> rfl) | (rw [numF_big (by omega) (by have := @shr_zero n k (by omega) (by omega); omega)] <;> rfl) | (rw [numF_ok (by omega) (by omega) (by rintro ⟨h8, h9⟩; have := @shr_zero n k (by omega) (by omega); omega), numB_len]; omega) | (rw [numF_ok (by omega) (by omega) (by rintro ⟨h8, h9⟩; have := @shr_zero n k (by omega) (by omega); omega), List.take_of_length_le (by rw [numB_len]; omega)])))) (by first | rfl | ((try dsimp only); (first | rfl | (rw [numF_bad (by omega)] <;> rfl) | (rw [numF_big (by omega) (by have := @shr_zero n k (by omega) (by omega); omega)] <;> rfl) | (rw [numF_ok (by omega) (by omega) (by rintro ⟨h8, h9⟩; have := @shr_zero n k (by omega) (by omega); omega), numB_len]; omega) | (rw [numF_ok (by omega) (by omega) (by rintro ⟨h8, h9⟩; have := @shr_zero n k (by omega) (by omega); omega), List.take_of_length_le (by rw [numB_len]; omega)]))))), trivial⟩, trivial⟩⟩
        · have h10 := of_decide_eq_true h10
          refine So.gn (b := true) rfl rfl rfl (Nat.le_of_ble_eq_true rfl) (Nat.le_of_ble_eq_true rfl) ?_
          refine So.gn (b := true) rfl rfl rfl (Nat.le_of_ble_eq_true rfl) (Nat.le_of_ble_eq_true rfl) ?_
          refine So.gu rfl rfl (Nat.le_of_ble_eq_true rfl) ?_
          refine So.gu rfl rfl (Nat.le_of_ble_eq_true rfl) ?_
          refine So.gu rfl rfl (Nat.le_of_ble_eq_true rfl) ?_
          refine So.gu rfl rfl (Nat.le_of_ble_eq_true rfl) ?_
          refine So.gu rfl rfl (Nat.le_of_ble_eq_true rfl) ?_
          refine So.gn (b := true) rfl rfl rfl (Nat.le_of_ble_eq_true rfl) (Nat.le_of_ble_eq_true rfl) ?_
          refine So.n (Nat.le_of_ble_eq_true rfl) (A.v rfl (V.pkTrue (u := .p (.v (.bool true))) rfl rfl ?_))
          refine So.e ?_
          show HT _ _ _ _ _
          refine R.condT rfl ?_
          refine HT.seq ?_
          refine HT.region S15_ok ?_
          refine So.n (Nat.le_of_ble_eq_true rfl) (A.v rfl (V.as (v := .p (.v (.slice none 0 0))) rfl ?_))
          refine So.e ?_
          show HT _ _ _ _ _
          refine R.phan 4 1 5 1 (.bs []) rfl rfl rfl ⟨rfl, rfl⟩ ?_
          refine HT.ret ?_
          exact ret_ok (sg [(1, 1)]) h rfl rfl rfl ⟨trivial, trivial⟩ ⟨rfl, trivial⟩ rfl ⟨⟨⟨le_own2 (by first | rfl | omega) (by first | rfl | (rw [numF_bad (by omega)] <;> rfl) | (rw [numF_big (by omega) (by have := @shr_zero n k (by omega) (by omega); omega)] <;> rfl) | (rw [numF_ok (by omega) (by omega) (by rintro ⟨h8, h9⟩; have := @shr_zero n k (by omega) (by omega); omega), numB_len]; omega) | (rw [numF_ok (by omega) (by omega) (by rintro ⟨h8, h9⟩; have := @shr_zero n k (by omega) (by omega); omega), List.take_of_length_le (by rw [numB_len]; omega)])), rfl⟩, trivial⟩, ⟨⟨_, rfl, .inl (ob_bs (by first | rfl | ((try dsimp only); (first | rfl | (rw [numF_bad (by omega)] <;> rfl) | (rw [numF_big (by omega) (by have := @shr_zero n k (by omega) (by omega); omega)] <;> rfl) | (rw [numF_ok (by omega) (by omega) (by rintro ⟨h8, h9⟩; have := @shr_zero n k (by omega) (by omega); omega), numB_len]; omega) | (rw [numF_ok (by omega) (by omega) (by rintro ⟨h8, h9⟩; have := @shr_zero n k (by omega) (by omega); omega), List.take_of_length_le (by rw [numB_len]; omega)])))) (by first | rfl | ((try dsimp only); (first | rfl | (rw [numF_bad (by omega)] <;> rfl) | (rw [numF_big (by omega) (by have := @shr_zero n k (by omega) (by omega); omega)] <;> rfl) | (rw [numF_ok (by omega) (by omega) (by rintro ⟨h8, h9⟩; have := @shr_zero n k (by omega) (by omega); omega), numB_len]; omega) | (rw [numF_ok (by omega) (by omega) (by rintro ⟨h8, h9⟩; have := @shr_zero n k (by omega) (by omega); omega), List.take_of_length_le (by rw [numB_len]; omega)]))))), trivial⟩, trivial⟩⟩
    · have h2 := of_decide_eq_true (bnF h2)
      refine So.gn (b := false) rfl rfl rfl (Nat.le_of_ble_eq_true rfl) (Nat.le_of_ble_eq_true rfl) ?_
      refine So.n (Nat.le_of_ble_eq_true rfl) (A.v rfl (V.pkFalse (u := .p (.v (.bool false))) rfl rfl ?_))
      refine So.n (Nat.le_of_ble_eq_true rfl) (A.v rfl (V.mv (v := .p (.v (.bool false))) rfl ?_))
      refine So.gn (b := false) rfl rfl rfl (Nat.le_of_ble_eq_true rfl) (Nat.le_of_ble_eq_true rfl) ?_
      refine So.gn (b := false) rfl rfl rfl (Nat.le_of_ble_eq_true rfl) (Nat.le_of_ble_eq_true rfl) ?_
      refine So.n (Nat.le_of_ble_eq_true rfl) (A.v rfl (V.pkFalse (u := .p (.v (.bool false))) rfl rfl ?_))
      refine So.n (Nat.le_of_ble_eq_true rfl) (A.v rfl (V.mv (v := .p (.v (.bool false))) rfl ?_))
      refine So.gy rfl rfl (Nat.le_of_ble_eq_true rfl) (Nat.le_of_ble_eq_true rfl) ?_
      refine A.v rfl (V.mv (v := .p (.v (.int .i64 _))) rfl ?_)
      refine So.gy rfl rfl (Nat.le_of_ble_eq_true rfl) (Nat.le_of_ble_eq_true rfl) ?_
      refine A.v rfl (V.bin (a := (.v (.int .i64 _))) (b := (.v (.int .i64 (0)))) (r := .v (.bool _)) rfl rfl rfl trivial ?_)
      refine So.n (Nat.le_of_ble_eq_true rfl) (A.v rfl (V.pkFalse (u := .p (.v (.bool _))) rfl rfl ?_))
      refine So.n (Nat.le_of_ble_eq_true rfl) (A.v rfl (V.mv (v := .p (.v (.bool _))) rfl ?_))
      refine So.gd rfl rfl (Nat.le_of_ble_eq_true rfl) (Nat.le_of_ble_eq_true rfl) (fun h15 => ?_) (fun h15 => ?_)
      · have h15 := of_decide_eq_false h15
        refine A.v rfl (V.mv (v := .p (.v (.int .i64 _))) rfl ?_)
        refine So.gy rfl rfl (Nat.le_of_ble_eq_true rfl) (Nat.le_of_ble_eq_true rfl) ?_
        refine A.v rfl (V.bin (a := (.v (.int .i64 _))) (b := (.v (.int .i64 (8)))) (r := .v (.bool _)) rfl rfl rfl trivial ?_)
        refine So.gy rfl rfl (Nat.le_of_ble_eq_true rfl) (Nat.le_of_ble_eq_true rfl) ?_
        refine A.v rfl (V.mv (v := .p (.v (.bool _))) rfl ?_)
        refine So.gd rfl rfl (Nat.le_of_ble_eq_true rfl) (Nat.le_of_ble_eq_true rfl) (fun h16 => ?_) (fun h16 => ?_)
        · have h16 := of_decide_eq_true h16
          refine A.v rfl (V.mv (v := .p (.v (.int .i64 _))) rfl ?_)
          refine So.gy rfl rfl (Nat.le_of_ble_eq_true rfl) (Nat.le_of_ble_eq_true rfl) ?_
          refine A.v rfl (V.mv (v := .p (.v (.int .i64 _))) rfl ?_)
          refine So.gy rfl rfl (Nat.le_of_ble_eq_true rfl) (Nat.le_of_ble_eq_true rfl) ?_
          refine A.v rfl (V.mulI rfl rfl (by omega) ?_)
          refine So.gy rfl rfl (Nat.le_of_ble_eq_true rfl) (Nat.le_of_ble_eq_true rfl) ?_
          refine A.v rfl (V.bin (a := (.v (.int .i64 _))) (b := (.v (.int .i64 _))) (r := .v (.int .i64 _)) rfl rfl rfl (by first | rfl | omega | (simp; done) | (simp; omega)) ?_)
          refine So.gy rfl rfl (Nat.le_of_ble_eq_true rfl) (Nat.le_of_ble_eq_true rfl) ?_
          refine A.v rfl (V.bin (a := (.v (.int .i64 _))) (b := (.v (.int .i64 (0)))) (r := .v (.bool _)) rfl rfl rfl trivial ?_)
          refine So.gy rfl rfl (Nat.le_of_ble_eq_true rfl) (Nat.le_of_ble_eq_true rfl) ?_
          refine A.v rfl (V.pkTrue (u := .p (.v (.bool _))) rfl rfl ?_)
          refine So.n (Nat.le_of_ble_eq_true rfl) (A.v rfl (V.pkFalse (u := .p (.v (.bool _))) rfl rfl ?_))
          refine So.e ?_
          show HT _ _ _ _ _
          refine R.cond rfl rfl (fun h17 => ?_) (fun h17 => ?_)
          · have h17 := of_decide_eq_false (bnT h17)
            refine HT.seq ?_
            refine HT.region S15_ok ?_
            refine So.n (Nat.le_of_ble_eq_true rfl) (A.v rfl (V.as (v := .p (.v (.slice none 0 0))) rfl ?_))
            refine So.e ?_
            show HT _ _ _ _ _
            refine R.phan 4 1 5 1 (.bs []) rfl rfl rfl ⟨rfl, rfl⟩ ?_
            refine HT.ret ?_
            exact ret_ok (sg [(1, 1)]) h rfl rfl rfl ⟨trivial, trivial⟩ ⟨rfl, trivial⟩ rfl ⟨⟨⟨le_own2 (by first | rfl | omega) (by first | rfl | (rw [numF_bad (by omega)] <;> rfl) | (rw [numF_big (by omega) (by have := @shr_zero n k (by omega) (by omega); omega)] <;> rfl) | (rw [numF_ok (by omega) (by omega) (by rintro ⟨h8, h9⟩; have := @shr_zero n k (by omega) (by omega); omega), numB_len]; omega) | (rw [numF_ok (by omega) (by omega) (by rintro ⟨h8, h9⟩; have := @shr_zero n k (by omega) (by omega); omega), List.take_of_length_le (by rw [numB_len]; omega)])), rfl⟩, trivial⟩, ⟨⟨_, rfl, .inl (ob_bs (by first | rfl | ((try dsimp only); (first | rfl | (rw [numF_bad (by omega)] <;> rfl) | (rw [numF_big (by omega) (by have := @shr_zero n k (by omega) (by omega); omega)] <;> rfl) | (rw [numF_ok (by omega) (by omega) (by rintro ⟨h8, h9⟩; have := @shr_zero n k (by omega) (by omega); omega), numB_len]; omega) | (rw [numF_ok (by omega) (by omega) (by rintro ⟨h8, h9⟩; have := @shr_zero n k (by omega) (by omega); omega), List.take_of_length_le (by rw [numB_len]; omega)])))) (by first | rfl | ((try dsimp only); (first | rfl | (rw [numF_bad (by omega)] <;> rfl) | (rw [numF_big (by omega) (by have := @shr_zero n k (by omega) (by omega); omega)] <;> rfl) | (rw [numF_ok (by omega) (by omega) (by rintro ⟨h8, h9⟩; have := @shr_zero n k (by omega) (by omega); omega), numB_len]; omega) | (rw [numF_ok (by omega) (by omega) (by rintro ⟨h8, h9⟩; have := @shr_zero n k (by omega) (by omega); omega), List.take_of_length_le (by rw [numB_len]; omega)]))))), trivial⟩, trivial⟩⟩
          · have h17 := of_decide_eq_true (bnF h17)
            refine HT.skip ?_
            show HT _ _ _ _ _
            refine HT.seq ?_
            refine HT.region S15_ok ?_
            refine So.n (Nat.le_of_ble_eq_true rfl) (A.v rfl (V.as (v := .p (.v (.slice none 0 0))) rfl ?_))
            refine So.e ?_
            show HT _ _ _ _ _
            refine HT.seq ?_
            refine HT.seq ?_
            refine HT.region S15_ok ?_
            refine So.n (Nat.le_of_ble_eq_true rfl) (A.v rfl (V.mv (v := .p (.v (.int .i64 _))) rfl ?_))
            refine So.n (Nat.le_of_ble_eq_true rfl) (A.v rfl (V.subI rfl rfl (by omega) ?_))
            refine So.n (Nat.le_of_ble_eq_true rfl) (A.v rfl (V.as (v := .p (.v (.int .i64 _))) rfl ?_))
            refine So.e ?_
            show HT _ _ _ _ _
            refine HT.block ?_
            refine R.phan 5 1 5 1 (.bs []) rfl rfl rfl ⟨rfl, rfl⟩ ?_
            refine R.loop (σ := Nat) (fun s => [(5, .own 1 (0) (s)), (6, .p (.v (.int .i64 (k - 1 - (s : Int)))))]) (fun s => [(1, ⟨5, 1, s, true, .bs ((numB n k.toNat).take s)⟩)]) [0, 4] [] (fun s => s ≤ k.toNat) (fun s => k.toNat - s) (0) (fr0 := [(0, .p (.v (.int .i64 _))), (4, .p (.v (.slice none 0 0)))]) (O0 := []) rfl rfl (by first | rfl | omega | (simp; done) | (simp; omega)) ⟨⟨⟨le_own2 (by first | rfl | omega) (by first | rfl | omega | (simp; done) | (simp; omega)), rfl⟩, ⟨le_int (by first | rfl | omega | (simp; done) | (simp; omega)), trivial⟩, ⟨.refl _, trivial⟩, ⟨.refl _, trivial⟩, trivial⟩, ⟨⟨_, rfl, .inl (ob_bs (by first | rfl | ((try dsimp only); first | rfl | omega | (simp; done) | (simp; omega))) (by first | rfl | ((try dsimp only); first | rfl | omega | (simp; done) | (simp; omega)))), trivial⟩, trivial⟩⟩ (fun s hP0 => ?_)
            refine HT.seq ?_
            refine HT.seq ?_
            refine HT.region S15_ok ?_
            refine So.n (Nat.le_of_ble_eq_true rfl) (A.v rfl (V.mv (v := .p (.v (.int .i64 _))) rfl ?_))
            refine So.n (Nat.le_of_ble_eq_true rfl) (A.v rfl (V.bin (a := (.v (.int .i64 _))) (b := (.v (.int .i64 (0)))) (r := .v (.bool _)) rfl rfl rfl trivial ?_))
            refine So.e ?_
            show HT _ _ _ _ _
            refine R.cond rfl rfl (fun h18 => ?_) (fun h18 => ?_)
            · have h18 := of_decide_eq_true h18
              refine HT.skip ?_
              show HT _ _ _ _ _
              refine HT.seq ?_
              refine HT.block ?_
              refine HT.region S15_ok ?_
              refine So.n (Nat.le_of_ble_eq_true rfl) (A.v rfl (V.mv (v := .own 1 0 _) rfl ?_))
              refine So.n (Nat.le_of_ble_eq_true rfl) (A.v rfl (V.mv (v := .p (.v (.int .i64 _))) rfl ?_))
              refine So.n (Nat.le_of_ble_eq_true rfl) (A.v rfl (V.mv (v := .p (.v (.int .i64 _))) rfl ?_))
              refine So.n (Nat.le_of_ble_eq_true rfl) (A.v rfl (V.mulI rfl rfl (by omega) ?_))
              refine So.n (Nat.le_of_ble_eq_true rfl) (A.v rfl (V.bin (a := (.v (.int .i64 _))) (b := (.v (.int .i64 _))) (r := .v (.int .i64 _)) rfl rfl rfl (by first | rfl | omega | (simp; done) | (simp; omega)) ?_))
              refine So.n (Nat.le_of_ble_eq_true rfl) (A.v rfl (V.cvN ty5 ty2 (a := (.v (.int .i64 _))) (r := (.u8 _)) rfl rfl ?_))
              refine So.n (Nat.le_of_ble_eq_true rfl) (A.bsl 2 ty22 ty5 rfl (Nat.le_of_ble_eq_true rfl) (Nat.le_of_ble_eq_true rfl) (fun _ => rfl) rfl rfl trivial ⟨trivial, trivial⟩ rfl (N := 1) rfl (c := .bs [_]) rfl ?_)
              refine So.n (Nat.le_of_ble_eq_true rfl) (A.apOwn ty22 ty5 rfl rfl rfl rfl (u := .own 2 0 _) rfl rfl rfl rfl (by first | rfl | omega | (simp; done) | (simp; omega)) rfl rfl rfl ?_)
              refine So.n (Nat.le_of_ble_eq_true rfl) (A.v rfl (V.as (v := .own 1 0 _) rfl ?_))
              refine So.e ?_
              show HT _ _ _ _ _
              refine HT.region S15_ok ?_
              refine So.n (Nat.le_of_ble_eq_true rfl) (A.v rfl (V.mv (v := .p (.v (.int .i64 _))) rfl ?_))
              refine So.n (Nat.le_of_ble_eq_true rfl) (A.v rfl (V.subI rfl rfl (by omega) ?_))
              refine So.n (Nat.le_of_ble_eq_true rfl) (A.v rfl (V.as (v := .p (.v (.int .i64 _))) rfl ?_))
              refine So.e ?_
              refine ⟨s + 1, by first | rfl | omega | (simp; done) | (simp; omega), by omega, ⟨⟨⟨le_own2 (by first | rfl | omega) (by first | rfl | omega | (simp; done) | (simp; omega)), rfl⟩, ⟨le_int (by first | rfl | omega | (simp; done) | (simp; omega)), trivial⟩, ⟨.refl _, trivial⟩, ⟨.refl _, trivial⟩, trivial⟩, ⟨⟨_, rfl, .inl (ob_bs (by first | rfl | ((try dsimp only); first | rfl | ((try dsimp only); rw [List.drop_zero, List.take_of_length_le (by simp; omega), ← numB_take (by omega) (by omega), show (8 * (k - 1 - (s : Int))).toNat = 8 * (k.toNat - 1 - s) from by omega]; rfl))) (by first | rfl | ((try dsimp only); first | rfl | ((try dsimp only); rw [List.drop_zero, List.take_of_length_le (by simp; omega), ← numB_take (by omega) (by omega), show (8 * (k - 1 - (s : Int))).toNat = 8 * (k.toNat - 1 - s) from by omega]; rfl)))), trivial⟩, trivial⟩⟩⟩
            · have h18 := of_decide_eq_false h18
              refine HT.exit ?_
              show HT _ _ _ _ _
              refine HT.seq ?_
              refine HT.region S15_ok ?_
              refine So.n (Nat.le_of_ble_eq_true rfl) (A.v rfl (V.mv (v := .own 1 0 _) rfl ?_))
              refine So.n (Nat.le_of_ble_eq_true rfl) (A.v rfl (V.as (v := .own 1 0 _) rfl ?_))
              refine So.e ?_
              show HT _ _ _ _ _
              refine HT.ret ?_
              exact ret_ok (sg [(1, 1)]) h rfl rfl rfl ⟨trivial, trivial⟩ ⟨rfl, trivial⟩ rfl ⟨⟨⟨le_own2 (by first | rfl | omega) (by first | rfl | (rw [numF_bad (by omega)] <;> rfl) | (rw [numF_big (by omega) (by have := @shr_zero n k (by omega) (by omega); omega)] <;> rfl) | (rw [numF_ok (by omega) (by omega) (by rintro ⟨h8, h9⟩; have := @shr_zero n k (by omega) (by omega); omega), numB_len]; omega) | (rw [numF_ok (by omega) (by omega) (by rintro ⟨h8, h9⟩; have := @shr_zero n k (by omega) (by omega); omega), List.take_of_length_le (by rw [numB_len]; omega)])), rfl⟩, trivial⟩, ⟨⟨_, rfl, .inl (ob_bs (by first | rfl | ((try dsimp only); (first | rfl | (rw [numF_bad (by omega)] <;> rfl) | (rw [numF_big (by omega) (by have := @shr_zero n k (by omega) (by omega); omega)] <;> rfl) | (rw [numF_ok (by omega) (by omega) (by rintro ⟨h8, h9⟩; have := @shr_zero n k (by omega) (by omega); omega), numB_len]; omega) | (rw [numF_ok (by omega) (by omega) (by rintro ⟨h8, h9⟩; have := @shr_zero n k (by omega) (by omega); omega), List.take_of_length_le (by rw [numB_len]; omega)])))) (by first | rfl | ((try dsimp only); (first | rfl | (rw [numF_bad (by omega)] <;> rfl) | (rw [numF_big (by omega) (by have := @shr_zero n k (by omega) (by omega); omega)] <;> rfl) | (rw [numF_ok (by omega) (by omega) (by rintro ⟨h8, h9⟩; have := @shr_zero n k (by omega) (by omega); omega), numB_len]; omega) | (rw [numF_ok (by omega) (by omega) (by rintro ⟨h8, h9⟩; have := @shr_zero n k (by omega) (by omega); omega), List.take_of_length_le (by rw [numB_len]; omega)]))))), trivial⟩, trivial⟩⟩
        · have h16 := of_decide_eq_false h16
          refine So.gn (b := false) rfl rfl rfl (Nat.le_of_ble_eq_true rfl) (Nat.le_of_ble_eq_true rfl) ?_
          refine So.gn (b := false) rfl rfl rfl (Nat.le_of_ble_eq_true rfl) (Nat.le_of_ble_eq_true rfl) ?_
          refine So.gn (b := false) rfl rfl rfl (Nat.le_of_ble_eq_true rfl) (Nat.le_of_ble_eq_true rfl) ?_
          refine So.gn (b := false) rfl rfl rfl (Nat.le_of_ble_eq_true rfl) (Nat.le_of_ble_eq_true rfl) ?_
          refine So.gy rfl rfl (Nat.le_of_ble_eq_true rfl) (Nat.le_of_ble_eq_true rfl) ?_
          refine A.v rfl (V.pkFalse (u := .p (.v (.bool false))) rfl rfl ?_)
          refine So.n (Nat.le_of_ble_eq_true rfl) (A.v rfl (V.pkFalse (u := .p (.v (.bool false))) rfl rfl ?_))
          refine So.e ?_
          show HT _ _ _ _ _
          refine R.condF rfl ?_
          refine HT.skip ?_
          show HT _ _ _ _ _
          refine HT.seq ?_
          refine HT.region S15_ok ?_
          refine So.n (Nat.le_of_ble_eq_true rfl) (A.v rfl (V.as (v := .p (.v (.slice none 0 0))) rfl ?_))
          refine So.e ?_
          show HT _ _ _ _ _
          refine HT.seq ?_
          refine HT.seq ?_
          refine HT.region S15_ok ?_
          refine So.n (Nat.le_of_ble_eq_true rfl) (A.v rfl (V.mv (v := .p (.v (.int .i64 _))) rfl ?_))
          refine So.n (Nat.le_of_ble_eq_true rfl) (A.v rfl (V.subI rfl rfl (by omega) ?_))
          refine So.n (Nat.le_of_ble_eq_true rfl) (A.v rfl (V.as (v := .p (.v (.int .i64 _))) rfl ?_))
          refine So.e ?_
          show HT _ _ _ _ _
          refine HT.block ?_
          refine R.phan 5 1 5 1 (.bs []) rfl rfl rfl ⟨rfl, rfl⟩ ?_
          refine R.loop (σ := Nat) (fun s => [(5, .own 1 (0) (s)), (6, .p (.v (.int .i64 (k - 1 - (s : Int)))))]) (fun s => [(1, ⟨5, 1, s, true, .bs ((numB n k.toNat).take s)⟩)]) [0, 4] [] (fun s => s ≤ k.toNat) (fun s => k.toNat - s) (0) (fr0 := [(0, .p (.v (.int .i64 _))), (4, .p (.v (.slice none 0 0)))]) (O0 := []) rfl rfl (by first | rfl | omega | (simp; done) | (simp; omega)) ⟨⟨⟨le_own2 (by first | rfl | omega) (by first | rfl | omega | (simp; done) | (simp; omega)), rfl⟩, ⟨le_int (by first | rfl | omega | (simp; done) | (simp; omega)), trivial⟩, ⟨.refl _, trivial⟩, ⟨.refl _, trivial⟩, trivial⟩, ⟨⟨_, rfl, .inl (ob_bs (by first | rfl | ((try dsimp only); first | rfl | omega | (simp; done) | (simp; omega))) (by first | rfl | ((try dsimp only); first | rfl | omega | (simp; done) | (simp; omega)))), trivial⟩, trivial⟩⟩ (fun s hP0 => ?_)
          refine HT.seq ?_
          refine HT.seq ?_
          refine HT.region S15_ok ?_
          refine So.n (Nat.le_of_ble_eq_true rfl) (A.v rfl (V.mv (v := .p (.v (.int .i64 _))) rfl ?_))
          refine So.n (Nat.le_of_ble_eq_true rfl) (A.v rfl (V.bin (a := (.v (.int .i64 _))) (b := (.v (.int .i64 (0)))) (r := .v (.bool _)) rfl rfl rfl trivial ?_))
          refine So.e ?_
          show HT _ _ _ _ _
          refine R.cond rfl rfl (fun h19 => ?_) (fun h19 => ?_)
          · have h19 := of_decide_eq_true h19
            refine HT.skip ?_
            show HT _ _ _ _ _
            refine HT.seq ?_
            refine HT.block ?_
            refine HT.region S15_ok ?_
            refine So.n (Nat.le_of_ble_eq_true rfl) (A.v rfl (V.mv (v := .own 1 0 _) rfl ?_))
            refine So.n (Nat.le_of_ble_eq_true rfl) (A.v rfl (V.mv (v := .p (.v (.int .i64 _))) rfl ?_))
            refine So.n (Nat.le_of_ble_eq_true rfl) (A.v rfl (V.mv (v := .p (.v (.int .i64 _))) rfl ?_))
            refine So.n (Nat.le_of_ble_eq_true rfl) (A.v rfl (V.mulI rfl rfl (by omega) ?_))
            refine So.n (Nat.le_of_ble_eq_true rfl) (A.v rfl (V.bin (a := (.v (.int .i64 _))) (b := (.v (.int .i64 _))) (r := .v (.int .i64 _)) rfl rfl rfl (by first | rfl | omega | (simp; done) | (simp; omega)) ?_))
            refine So.n (Nat.le_of_ble_eq_true rfl) (A.v rfl (V.cvN ty5 ty2 (a := (.v (.int .i64 _))) (r := (.u8 _)) rfl rfl ?_))
            refine So.n (Nat.le_of_ble_eq_true rfl) (A.bsl 2 ty22 ty5 rfl (Nat.le_of_ble_eq_true rfl) (Nat.le_of_ble_eq_true rfl) (fun _ => rfl) rfl rfl trivial ⟨trivial, trivial⟩ rfl (N := 1) rfl (c := .bs [_]) rfl ?_)
            refine So.n (Nat.le_of_ble_eq_true rfl) (A.apOwn ty22 ty5 rfl rfl rfl rfl (u := .own 2 0 _) rfl rfl rfl rfl (by first | rfl | omega | (simp; done) | (simp; omega)) rfl rfl rfl ?_)
            refine So.n (Nat.le_of_ble_eq_true rfl) (A.v rfl (V.as (v := .own 1 0 _) rfl ?_))
            refine So.e ?_
            show HT _ _ _ _ _
            refine HT.region S15_ok ?_
            refine So.n (Nat.le_of_ble_eq_true rfl) (A.v rfl (V.mv (v := .p (.v (.int .i64 _))) rfl ?_))
            refine So.n (Nat.le_of_ble_eq_true rfl) (A.v rfl (V.subI rfl rfl (by omega) ?_))
            refine So.n (Nat.le_of_ble_eq_true rfl) (A.v rfl (V.as (v := .p (.v (.int .i64 _))) rfl ?_))
            refine So.e ?_
            refine ⟨s + 1, by first | rfl | omega | (simp; done) | (simp; omega), by omega, ⟨⟨⟨le_own2 (by first | rfl | omega) (by first | rfl | omega | (simp; done) | (simp; omega)), rfl⟩, ⟨le_int (by first | rfl | omega | (simp; done) | (simp; omega)), trivial⟩, ⟨.refl _, trivial⟩, ⟨.refl _, trivial⟩, trivial⟩, ⟨⟨_, rfl, .inl (ob_bs (by first | rfl | ((try dsimp only); first | rfl | ((try dsimp only); rw [List.drop_zero, List.take_of_length_le (by simp; omega), ← numB_take (by omega) (by omega), show (8 * (k - 1 - (s : Int))).toNat = 8 * (k.toNat - 1 - s) from by omega]; rfl))) (by first | rfl | ((try dsimp only); first | rfl | ((try dsimp only); rw [List.drop_zero, List.take_of_length_le (by simp; omega), ← numB_take (by omega) (by omega), show (8 * (k - 1 - (s : Int))).toNat = 8 * (k.toNat - 1 - s) from by omega]; rfl)))), trivial⟩, trivial⟩⟩⟩
          · have h19 := of_decide_eq_false h19
            refine HT.exit ?_
            show HT _ _ _ _ _
            refine HT.seq ?_
            refine HT.region S15_ok ?_
            refine So.n (Nat.le_of_ble_eq_true rfl) (A.v rfl (V.mv (v := .own 1 0 _) rfl ?_))
            refine So.n (Nat.le_of_ble_eq_true rfl) (A.v rfl (V.as (v := .own 1 0 _) rfl ?_))
            refine So.e ?_
            show HT _ _ _ _ _
            refine HT.ret ?_
            exact ret_ok (sg [(1, 1)]) h rfl rfl rfl ⟨trivial, trivial⟩ ⟨rfl, trivial⟩ rfl ⟨⟨⟨le_own2 (by first | rfl | omega) (by first | rfl | (rw [numF_bad (by omega)] <;> rfl) | (rw [numF_big (by omega) (by have := @shr_zero n k (by omega) (by omega); omega)] <;> rfl) | (rw [numF_ok (by omega) (by omega) (by rintro ⟨h8, h9⟩; have := @shr_zero n k (by omega) (by omega); omega), numB_len]; omega) | (rw [numF_ok (by omega) (by omega) (by rintro ⟨h8, h9⟩; have := @shr_zero n k (by omega) (by omega); omega), List.take_of_length_le (by rw [numB_len]; omega)])), rfl⟩, trivial⟩, ⟨⟨_, rfl, .inl (ob_bs (by first | rfl | ((try dsimp only); (first | rfl | (rw [numF_bad (by omega)] <;> rfl) | (rw [numF_big (by omega) (by have := @shr_zero n k (by omega) (by omega); omega)] <;> rfl) | (rw [numF_ok (by omega) (by omega) (by rintro ⟨h8, h9⟩; have := @shr_zero n k (by omega) (by omega); omega), numB_len]; omega) | (rw [numF_ok (by omega) (by omega) (by rintro ⟨h8, h9⟩; have := @shr_zero n k (by omega) (by omega); omega), List.take_of_length_le (by rw [numB_len]; omega)])))) (by first | rfl | ((try dsimp only); (first | rfl | (rw [numF_bad (by omega)] <;> rfl) | (rw [numF_big (by omega) (by have := @shr_zero n k (by omega) (by omega); omega)] <;> rfl) | (rw [numF_ok (by omega) (by omega) (by rintro ⟨h8, h9⟩; have := @shr_zero n k (by omega) (by omega); omega), numB_len]; omega) | (rw [numF_ok (by omega) (by omega) (by rintro ⟨h8, h9⟩; have := @shr_zero n k (by omega) (by omega); omega), List.take_of_length_le (by rw [numB_len]; omega)]))))), trivial⟩, trivial⟩⟩
      · have h15 := of_decide_eq_true h15
        refine So.gn (b := true) rfl rfl rfl (Nat.le_of_ble_eq_true rfl) (Nat.le_of_ble_eq_true rfl) ?_
        refine So.gn (b := true) rfl rfl rfl (Nat.le_of_ble_eq_true rfl) (Nat.le_of_ble_eq_true rfl) ?_
        refine So.gu rfl rfl (Nat.le_of_ble_eq_true rfl) ?_
        refine So.gu rfl rfl (Nat.le_of_ble_eq_true rfl) ?_
        refine So.gu rfl rfl (Nat.le_of_ble_eq_true rfl) ?_
        refine So.gu rfl rfl (Nat.le_of_ble_eq_true rfl) ?_
        refine So.gu rfl rfl (Nat.le_of_ble_eq_true rfl) ?_
        refine So.gn (b := true) rfl rfl rfl (Nat.le_of_ble_eq_true rfl) (Nat.le_of_ble_eq_true rfl) ?_
        refine So.n (Nat.le_of_ble_eq_true rfl) (A.v rfl (V.pkTrue (u := .p (.v (.bool true))) rfl rfl ?_))
        refine So.e ?_
        show HT _ _ _ _ _
        refine R.condT rfl ?_
        refine HT.seq ?_
        refine HT.region S15_ok ?_
        refine So.n (Nat.le_of_ble_eq_true rfl) (A.v rfl (V.as (v := .p (.v (.slice none 0 0))) rfl ?_))
        refine So.e ?_
        show HT _ _ _ _ _
        refine R.phan 4 1 5 1 (.bs []) rfl rfl rfl ⟨rfl, rfl⟩ ?_
        refine HT.ret ?_
        exact ret_ok (sg [(1, 1)]) h rfl rfl rfl ⟨trivial, trivial⟩ ⟨rfl, trivial⟩ rfl ⟨⟨⟨le_own2 (by first | rfl | omega) (by first | rfl | (rw [numF_bad (by omega)] <;> rfl) | (rw [numF_big (by omega) (by have := @shr_zero n k (by omega) (by omega); omega)] <;> rfl) | (rw [numF_ok (by omega) (by omega) (by rintro ⟨h8, h9⟩; have := @shr_zero n k (by omega) (by omega); omega), numB_len]; omega) | (rw [numF_ok (by omega) (by omega) (by rintro ⟨h8, h9⟩; have := @shr_zero n k (by omega) (by omega); omega), List.take_of_length_le (by rw [numB_len]; omega)])), rfl⟩, trivial⟩, ⟨⟨_, rfl, .inl (ob_bs (by first | rfl | ((try dsimp only); (first | rfl | (rw [numF_bad (by omega)] <;> rfl) | (rw [numF_big (by omega) (by have := @shr_zero n k (by omega) (by omega); omega)] <;> rfl) | (rw [numF_ok (by omega) (by omega) (by rintro ⟨h8, h9⟩; have := @shr_zero n k (by omega) (by omega); omega), numB_len]; omega) | (rw [numF_ok (by omega) (by omega) (by rintro ⟨h8, h9⟩; have := @shr_zero n k (by omega) (by omega); omega), List.take_of_length_le (by rw [numB_len]; omega)])))) (by first | rfl | ((try dsimp only); (first | rfl | (rw [numF_bad (by omega)] <;> rfl) | (rw [numF_big (by omega) (by have := @shr_zero n k (by omega) (by omega); omega)] <;> rfl) | (rw [numF_ok (by omega) (by omega) (by rintro ⟨h8, h9⟩; have := @shr_zero n k (by omega) (by omega); omega), numB_len]; omega) | (rw [numF_ok (by omega) (by omega) (by rintro ⟨h8, h9⟩; have := @shr_zero n k (by omega) (by omega); omega), List.take_of_length_le (by rw [numB_len]; omega)]))))), trivial⟩, trivial⟩⟩
  · have h1 := of_decide_eq_true (bnF h1)
    refine So.gn (b := false) rfl rfl rfl (Nat.le_of_ble_eq_true rfl) (Nat.le_of_ble_eq_true rfl) ?_
    refine So.n (Nat.le_of_ble_eq_true rfl) (A.v rfl (V.pkFalse (u := .p (.v (.bool false))) rfl rfl ?_))
    refine So.n (Nat.le_of_ble_eq_true rfl) (A.v rfl (V.mv (v := .p (.v (.bool false))) rfl ?_))
    refine So.gn (b := false) rfl rfl rfl (Nat.le_of_ble_eq_true rfl) (Nat.le_of_ble_eq_true rfl) ?_
    refine So.gn (b := false) rfl rfl rfl (Nat.le_of_ble_eq_true rfl) (Nat.le_of_ble_eq_true rfl) ?_
    refine So.n (Nat.le_of_ble_eq_true rfl) (A.v rfl (V.pkFalse (u := .p (.v (.bool false))) rfl rfl ?_))
    refine So.n (Nat.le_of_ble_eq_true rfl) (A.v rfl (V.mv (v := .p (.v (.bool false))) rfl ?_))
    refine So.gn (b := false) rfl rfl rfl (Nat.le_of_ble_eq_true rfl) (Nat.le_of_ble_eq_true rfl) ?_
    refine So.gn (b := false) rfl rfl rfl (Nat.le_of_ble_eq_true rfl) (Nat.le_of_ble_eq_true rfl) ?_
    refine So.n (Nat.le_of_ble_eq_true rfl) (A.v rfl (V.pkFalse (u := .p (.v (.bool false))) rfl rfl ?_))
    refine So.n (Nat.le_of_ble_eq_true rfl) (A.v rfl (V.mv (v := .p (.v (.bool false))) rfl ?_))
    refine So.gy rfl rfl (Nat.le_of_ble_eq_true rfl) (Nat.le_of_ble_eq_true rfl) ?_
    refine A.v rfl (V.mv (v := .p (.v (.int .i64 _))) rfl ?_)
    refine So.gy rfl rfl (Nat.le_of_ble_eq_true rfl) (Nat.le_of_ble_eq_true rfl) ?_
    refine A.v rfl (V.bin (a := (.v (.int .i64 _))) (b := (.v (.int .i64 (0)))) (r := .v (.bool _)) rfl rfl rfl trivial ?_)
    refine So.n (Nat.le_of_ble_eq_true rfl) (A.v rfl (V.pkFalse (u := .p (.v (.bool _))) rfl rfl ?_))
    refine So.n (Nat.le_of_ble_eq_true rfl) (A.v rfl (V.mv (v := .p (.v (.bool _))) rfl ?_))
    refine So.gd rfl rfl (Nat.le_of_ble_eq_true rfl) (Nat.le_of_ble_eq_true rfl) (fun h20 => ?_) (fun h20 => ?_)
    · have h20 := of_decide_eq_false h20
      refine A.v rfl (V.mv (v := .p (.v (.int .i64 _))) rfl ?_)
      refine So.gy rfl rfl (Nat.le_of_ble_eq_true rfl) (Nat.le_of_ble_eq_true rfl) ?_
      refine A.v rfl (V.bin (a := (.v (.int .i64 _))) (b := (.v (.int .i64 (8)))) (r := .v (.bool _)) rfl rfl rfl trivial ?_)
      refine So.gy rfl rfl (Nat.le_of_ble_eq_true rfl) (Nat.le_of_ble_eq_true rfl) ?_
      refine A.v rfl (V.mv (v := .p (.v (.bool _))) rfl ?_)
      refine So.gd rfl rfl (Nat.le_of_ble_eq_true rfl) (Nat.le_of_ble_eq_true rfl) (fun h21 => ?_) (fun h21 => ?_)
      · have h21 := of_decide_eq_true h21
        refine A.v rfl (V.mv (v := .p (.v (.int .i64 _))) rfl ?_)
        refine So.gy rfl rfl (Nat.le_of_ble_eq_true rfl) (Nat.le_of_ble_eq_true rfl) ?_
        refine A.v rfl (V.mv (v := .p (.v (.int .i64 _))) rfl ?_)
        refine So.gy rfl rfl (Nat.le_of_ble_eq_true rfl) (Nat.le_of_ble_eq_true rfl) ?_
        refine A.v rfl (V.mulI rfl rfl (by omega) ?_)
        refine So.gy rfl rfl (Nat.le_of_ble_eq_true rfl) (Nat.le_of_ble_eq_true rfl) ?_
        refine A.v rfl (V.bin (a := (.v (.int .i64 _))) (b := (.v (.int .i64 _))) (r := .v (.int .i64 _)) rfl rfl rfl (by first | rfl | omega | (simp; done) | (simp; omega)) ?_)
        refine So.gy rfl rfl (Nat.le_of_ble_eq_true rfl) (Nat.le_of_ble_eq_true rfl) ?_
        refine A.v rfl (V.bin (a := (.v (.int .i64 _))) (b := (.v (.int .i64 (0)))) (r := .v (.bool _)) rfl rfl rfl trivial ?_)
        refine So.gy rfl rfl (Nat.le_of_ble_eq_true rfl) (Nat.le_of_ble_eq_true rfl) ?_
        refine A.v rfl (V.pkTrue (u := .p (.v (.bool _))) rfl rfl ?_)
        refine So.n (Nat.le_of_ble_eq_true rfl) (A.v rfl (V.pkFalse (u := .p (.v (.bool _))) rfl rfl ?_))
        refine So.e ?_
        show HT _ _ _ _ _
        refine R.cond rfl rfl (fun h22 => ?_) (fun h22 => ?_)
        · have h22 := of_decide_eq_false (bnT h22)
          refine HT.seq ?_
          refine HT.region S15_ok ?_
          refine So.n (Nat.le_of_ble_eq_true rfl) (A.v rfl (V.as (v := .p (.v (.slice none 0 0))) rfl ?_))
          refine So.e ?_
          show HT _ _ _ _ _
          refine R.phan 4 1 5 1 (.bs []) rfl rfl rfl ⟨rfl, rfl⟩ ?_
          refine HT.ret ?_
          exact ret_ok (sg [(1, 1)]) h rfl rfl rfl ⟨trivial, trivial⟩ ⟨rfl, trivial⟩ rfl ⟨⟨⟨le_own2 (by first | rfl | omega) (by first | rfl | (rw [numF_bad (by omega)] <;> rfl) | (rw [numF_big (by omega) (by have := @shr_zero n k (by omega) (by omega); omega)] <;> rfl) | (rw [numF_ok (by omega) (by omega) (by rintro ⟨h8, h9⟩; have := @shr_zero n k (by omega) (by omega); omega), numB_len]; omega) | (rw [numF_ok (by omega) (by omega) (by rintro ⟨h8, h9⟩; have := @shr_zero n k (by omega) (by omega); omega), List.take_of_length_le (by rw [numB_len]; omega)])), rfl⟩, trivial⟩, ⟨⟨_, rfl, .inl (ob_bs (by first | rfl | ((try dsimp only); (first | rfl | (rw [numF_bad (by omega)] <;> rfl) | (rw [numF_big (by omega) (by have := @shr_zero n k (by omega) (by omega); omega)] <;> rfl) | (rw [numF_ok (by omega) (by omega) (by rintro ⟨h8, h9⟩; have := @shr_zero n k (by omega) (by omega); omega), numB_len]; omega) | (rw [numF_ok (by omega) (by omega) (by rintro ⟨h8, h9⟩; have := @shr_zero n k (by omega) (by omega); omega), List.take_of_length_le (by rw [numB_len]; omega)])))) (by first | rfl | ((try dsimp only); (first | rfl | (rw [numF_bad (by omega)] <;> rfl) | (rw [numF_big (by omega) (by have := @shr_zero n k (by omega) (by omega); omega)] <;> rfl) | (rw [numF_ok (by omega) (by omega) (by rintro ⟨h8, h9⟩; have := @shr_zero n k (by omega) (by omega); omega), numB_len]; omega) | (rw [numF_ok (by omega) (by omega) (by rintro ⟨h8, h9⟩; have := @shr_zero n k (by omega) (by omega); omega), List.take_of_length_le (by rw [numB_len]; omega)]))))), trivial⟩, trivial⟩⟩
        · have h22 := of_decide_eq_true (bnF h22)
          refine HT.skip ?_
          show HT _ _ _ _ _
          refine HT.seq ?_
          refine HT.region S15_ok ?_
          refine So.n (Nat.le_of_ble_eq_true rfl) (A.v rfl (V.as (v := .p (.v (.slice none 0 0))) rfl ?_))
          refine So.e ?_
          show HT _ _ _ _ _
          refine HT.seq ?_
          refine HT.seq ?_
          refine HT.region S15_ok ?_
          refine So.n (Nat.le_of_ble_eq_true rfl) (A.v rfl (V.mv (v := .p (.v (.int .i64 _))) rfl ?_))
          refine So.n (Nat.le_of_ble_eq_true rfl) (A.v rfl (V.subI rfl rfl (by omega) ?_))
          refine So.n (Nat.le_of_ble_eq_true rfl) (A.v rfl (V.as (v := .p (.v (.int .i64 _))) rfl ?_))
          refine So.e ?_
          show HT _ _ _ _ _
          refine HT.block ?_
          refine R.phan 5 1 5 1 (.bs []) rfl rfl rfl ⟨rfl, rfl⟩ ?_
          refine R.loop (σ := Nat) (fun s => [(5, .own 1 (0) (s)), (6, .p (.v (.int .i64 (k - 1 - (s : Int)))))]) (fun s => [(1, ⟨5, 1, s, true, .bs ((numB n k.toNat).take s)⟩)]) [0, 4] [] (fun s => s ≤ k.toNat) (fun s => k.toNat - s) (0) (fr0 := [(0, .p (.v (.int .i64 _))), (4, .p (.v (.slice none 0 0)))]) (O0 := []) rfl rfl (by first | rfl | omega | (simp; done) | (simp; omega)) ⟨⟨⟨le_own2 (by first | rfl | omega) (by first | rfl | omega | (simp; done) | (simp; omega)), rfl⟩, ⟨le_int (by first | rfl | omega | (simp; done) | (simp; omega)), trivial⟩, ⟨.refl _, trivial⟩, ⟨.refl _, trivial⟩, trivial⟩, ⟨⟨_, rfl, .inl (ob_bs (by first | rfl | ((try dsimp only); first | rfl | omega | (simp; done) | (simp; omega))) (by first | rfl | ((try dsimp only); first | rfl | omega | (simp; done) | (simp; omega)))), trivial⟩, trivial⟩⟩ (fun s hP0 => ?_)
          refine HT.seq ?_
          refine HT.seq ?_
          refine HT.region S15_ok ?_
          refine So.n (Nat.le_of_ble_eq_true rfl) (A.v rfl (V.mv (v := .p (.v (.int .i64 _))) rfl ?_))
          refine So.n (Nat.le_of_ble_eq_true rfl) (A.v rfl (V.bin (a := (.v (.int .i64 _))) (b := (.v (.int .i64 (0)))) (r := .v (.bool _)) rfl rfl rfl trivial ?_))
          refine So.e ?_
          show HT _ _ _ _ _
          refine R.cond rfl rfl (fun h23 => ?_) (fun h23 => ?_)
          · have h23 := of_decide_eq_true h23
            refine HT.skip ?_
            show HT _ _ _ _ _
            refine HT.seq ?_
            refine HT.block ?_
            refine HT.region S15_ok ?_
            refine So.n (Nat.le_of_ble_eq_true rfl) (A.v rfl (V.mv (v := .own 1 0 _) rfl ?_))
            refine So.n (Nat.le_of_ble_eq_true rfl) (A.v rfl (V.mv (v := .p (.v (.int .i64 _))) rfl ?_))
            refine So.n (Nat.le_of_ble_eq_true rfl) (A.v rfl (V.mv (v := .p (.v (.int .i64 _))) rfl ?_))
            refine So.n (Nat.le_of_ble_eq_true rfl) (A.v rfl (V.mulI rfl rfl (by omega) ?_))
            refine So.n (Nat.le_of_ble_eq_true rfl) (A.v rfl (V.bin (a := (.v (.int .i64 _))) (b := (.v (.int .i64 _))) (r := .v (.int .i64 _)) rfl rfl rfl (by first | rfl | omega | (simp; done) | (simp; omega)) ?_))
            refine So.n (Nat.le_of_ble_eq_true rfl) (A.v rfl (V.cvN ty5 ty2 (a := (.v (.int .i64 _))) (r := (.u8 _)) rfl rfl ?_))
            refine So.n (Nat.le_of_ble_eq_true rfl) (A.bsl 2 ty22 ty5 rfl (Nat.le_of_ble_eq_true rfl) (Nat.le_of_ble_eq_true rfl) (fun _ => rfl) rfl rfl trivial ⟨trivial, trivial⟩ rfl (N := 1) rfl (c := .bs [_]) rfl ?_)
            refine So.n (Nat.le_of_ble_eq_true rfl) (A.apOwn ty22 ty5 rfl rfl rfl rfl (u := .own 2 0 _) rfl rfl rfl rfl (by first | rfl | omega | (simp; done) | (simp; omega)) rfl rfl rfl ?_)
            refine So.n (Nat.le_of_ble_eq_true rfl) (A.v rfl (V.as (v := .own 1 0 _) rfl ?_))
            refine So.e ?_
            show HT _ _ _ _ _
            refine HT.region S15_ok ?_
            refine So.n (Nat.le_of_ble_eq_true rfl) (A.v rfl (V.mv (v := .p (.v (.int .i64 _))) rfl ?_))
            refine So.n (Nat.le_of_ble_eq_true rfl) (A.v rfl (V.subI rfl rfl (by omega) ?_))
            refine So.n (Nat.le_of_ble_eq_true rfl) (A.v rfl (V.as (v := .p (.v (.int .i64 _))) rfl ?_))
            refine So.e ?_
            refine ⟨s + 1, by first | rfl | omega | (simp; done) | (simp; omega), by omega, ⟨⟨⟨le_own2 (by first | rfl | omega) (by first | rfl | omega | (simp; done) | (simp; omega)), rfl⟩, ⟨le_int (by first | rfl | omega | (simp; done) | (simp; omega)), trivial⟩, ⟨.refl _, trivial⟩, ⟨.refl _, trivial⟩, trivial⟩, ⟨⟨_, rfl, .inl (ob_bs (by first | rfl | ((try dsimp only); first | rfl | ((try dsimp only); rw [List.drop_zero, List.take_of_length_le (by simp; omega), ← numB_take (by omega) (by omega), show (8 * (k - 1 - (s : Int))).toNat = 8 * (k.toNat - 1 - s) from by omega]; rfl))) (by first | rfl | ((try dsimp only); first | rfl | ((try dsimp only); rw [List.drop_zero, List.take_of_length_le (by simp; omega), ← numB_take (by omega) (by omega), show (8 * (k - 1 - (s : Int))).toNat = 8 * (k.toNat - 1 - s) from by omega]; rfl)))), trivial⟩, trivial⟩⟩⟩
          · have h23 := of_decide_eq_false h23
            refine HT.exit ?_
            show HT _ _ _ _ _
            refine HT.seq ?_
            refine HT.region S15_ok ?_
            refine So.n (Nat.le_of_ble_eq_true rfl) (A.v rfl (V.mv (v := .own 1 0 _) rfl ?_))
            refine So.n (Nat.le_of_ble_eq_true rfl) (A.v rfl (V.as (v := .own 1 0 _) rfl ?_))
            refine So.e ?_
            show HT _ _ _ _ _
            refine HT.ret ?_
            exact ret_ok (sg [(1, 1)]) h rfl rfl rfl ⟨trivial, trivial⟩ ⟨rfl, trivial⟩ rfl ⟨⟨⟨le_own2 (by first | rfl | omega) (by first | rfl | (rw [numF_bad (by omega)] <;> rfl) | (rw [numF_big (by omega) (by have := @shr_zero n k (by omega) (by omega); omega)] <;> rfl) | (rw [numF_ok (by omega) (by omega) (by rintro ⟨h8, h9⟩; have := @shr_zero n k (by omega) (by omega); omega), numB_len]; omega) | (rw [numF_ok (by omega) (by omega) (by rintro ⟨h8, h9⟩; have := @shr_zero n k (by omega) (by omega); omega), List.take_of_length_le (by rw [numB_len]; omega)])), rfl⟩, trivial⟩, ⟨⟨_, rfl, .inl (ob_bs (by first | rfl | ((try dsimp only); (first | rfl | (rw [numF_bad (by omega)] <;> rfl) | (rw [numF_big (by omega) (by have := @shr_zero n k (by omega) (by omega); omega)] <;> rfl) | (rw [numF_ok (by omega) (by omega) (by rintro ⟨h8, h9⟩; have := @shr_zero n k (by omega) (by omega); omega), numB_len]; omega) | (rw [numF_ok (by omega) (by omega) (by rintro ⟨h8, h9⟩; have := @shr_zero n k (by omega) (by omega); omega), List.take_of_length_le (by rw [numB_len]; omega)])))) (by first | rfl | ((try dsimp only); (first | rfl | (rw [numF_bad (by omega)] <;> rfl) | (rw [numF_big (by omega) (by have := @shr_zero n k (by omega) (by omega); omega)] <;> rfl) | (rw [numF_ok (by omega) (by omega) (by rintro ⟨h8, h9⟩; have := @shr_zero n k (by omega) (by omega); omega), numB_len]; omega) | (rw [numF_ok (by omega) (by omega) (by rintro ⟨h8, h9⟩; have := @shr_zero n k (by omega) (by omega); omega), List.take_of_length_le (by rw [numB_len]; omega)]))))), trivial⟩, trivial⟩⟩
      · have h21 := of_decide_eq_false h21
        refine So.gn (b := false) rfl rfl rfl (Nat.le_of_ble_eq_true rfl) (Nat.le_of_ble_eq_true rfl) ?_
        refine So.gn (b := false) rfl rfl rfl (Nat.le_of_ble_eq_true rfl) (Nat.le_of_ble_eq_true rfl) ?_
        refine So.gn (b := false) rfl rfl rfl (Nat.le_of_ble_eq_true rfl) (Nat.le_of_ble_eq_true rfl) ?_
        refine So.gn (b := false) rfl rfl rfl (Nat.le_of_ble_eq_true rfl) (Nat.le_of_ble_eq_true rfl) ?_
        refine So.gy rfl rfl (Nat.le_of_ble_eq_true rfl) (Nat.le_of_ble_eq_true rfl) ?_
        refine A.v rfl (V.pkFalse (u := .p (.v (.bool false))) rfl rfl ?_)
        refine So.n (Nat.le_of_ble_eq_true rfl) (A.v rfl (V.pkFalse (u := .p (.v (.bool false))) rfl rfl ?_))
        refine So.e ?_
        show HT _ _ _ _ _
        refine R.condF rfl ?_
        refine HT.skip ?_
        show HT _ _ _ _ _
        refine HT.seq ?_
        refine HT.region S15_ok ?_
        refine So.n (Nat.le_of_ble_eq_true rfl) (A.v rfl (V.as (v := .p (.v (.slice none 0 0))) rfl ?_))
        refine So.e ?_
        show HT _ _ _ _ _
        refine HT.seq ?_
        refine HT.seq ?_
        refine HT.region S15_ok ?_
        refine So.n (Nat.le_of_ble_eq_true rfl) (A.v rfl (V.mv (v := .p (.v (.int .i64 _))) rfl ?_))
        refine So.n (Nat.le_of_ble_eq_true rfl) (A.v rfl (V.subI rfl rfl (by omega) ?_))
        refine So.n (Nat.le_of_ble_eq_true rfl) (A.v rfl (V.as (v := .p (.v (.int .i64 _))) rfl ?_))
        refine So.e ?_
        show HT _ _ _ _ _
        refine HT.block ?_
        refine R.phan 5 1 5 1 (.bs []) rfl rfl rfl ⟨rfl, rfl⟩ ?_
        refine R.loop (σ := Nat) (fun s => [(5, .own 1 (0) (s)), (6, .p (.v (.int .i64 (k - 1 - (s : Int)))))]) (fun s => [(1, ⟨5, 1, s, true, .bs ((numB n k.toNat).take s)⟩)]) [0, 4] [] (fun s => s ≤ k.toNat) (fun s => k.toNat - s) (0) (fr0 := [(0, .p (.v (.int .i64 _))), (4, .p (.v (.slice none 0 0)))]) (O0 := []) rfl rfl (by first | rfl | omega | (simp; done) | (simp; omega)) ⟨⟨⟨le_own2 (by first | rfl | omega) (by first | rfl | omega | (simp; done) | (simp; omega)), rfl⟩, ⟨le_int (by first | rfl | omega | (simp; done) | (simp; omega)), trivial⟩, ⟨.refl _, trivial⟩, ⟨.refl _, trivial⟩, trivial⟩, ⟨⟨_, rfl, .inl (ob_bs (by first | rfl | ((try dsimp only); first | rfl | omega | (simp; done) | (simp; omega))) (by first | rfl | ((try dsimp only); first | rfl | omega | (simp; done) | (simp; omega)))), trivial⟩, trivial⟩⟩ (fun s hP0 => ?_)
        refine HT.seq ?_
        refine HT.seq ?_
        refine HT.region S15_ok ?_
        refine So.n (Nat.le_of_ble_eq_true rfl) (A.v rfl (V.mv (v := .p (.v (.int .i64 _))) rfl ?_))
        refine So.n (Nat.le_of_ble_eq_true rfl) (A.v rfl (V.bin (a := (.v (.int .i64 _))) (b := (.v (.int .i64 (0)))) (r := .v (.bool _)) rfl rfl rfl trivial ?_))
        refine So.e ?_
        show HT _ _ _ _ _
        refine R.cond rfl rfl (fun h24 => ?_) (fun h24 => ?_)
        · have h24 := of_decide_eq_true h24
          refine HT.skip ?_
          show HT _ _ _ _ _
          refine HT.seq ?_
          refine HT.block ?_
          refine HT.region S15_ok ?_
          refine So.n (Nat.le_of_ble_eq_true rfl) (A.v rfl (V.mv (v := .own 1 0 _) rfl ?_))
          refine So.n (Nat.le_of_ble_eq_true rfl) (A.v rfl (V.mv (v := .p (.v (.int .i64 _))) rfl ?_))
          refine So.n (Nat.le_of_ble_eq_true rfl) (A.v rfl (V.mv (v := .p (.v (.int .i64 _))) rfl ?_))
          refine So.n (Nat.le_of_ble_eq_true rfl) (A.v rfl (V.mulI rfl rfl (by omega) ?_))
          refine So.n (Nat.le_of_ble_eq_true rfl) (A.v rfl (V.bin (a := (.v (.int .i64 _))) (b := (.v (.int .i64 _))) (r := .v (.int .i64 _)) rfl rfl rfl (by first | rfl | omega | (simp; done) | (simp; omega)) ?_))
          refine So.n (Nat.le_of_ble_eq_true rfl) (A.v rfl (V.cvN ty5 ty2 (a := (.v (.int .i64 _))) (r := (.u8 _)) rfl rfl ?_))
          refine So.n (Nat.le_of_ble_eq_true rfl) (A.bsl 2 ty22 ty5 rfl (Nat.le_of_ble_eq_true rfl) (Nat.le_of_ble_eq_true rfl) (fun _ => rfl) rfl rfl trivial ⟨trivial, trivial⟩ rfl (N := 1) rfl (c := .bs [_]) rfl ?_)
          refine So.n (Nat.le_of_ble_eq_true rfl) (A.apOwn ty22 ty5 rfl rfl rfl rfl (u := .own 2 0 _) rfl rfl rfl rfl (by first | rfl | omega | (simp; done) | (simp; omega)) rfl rfl rfl ?_)
          refine So.n (Nat.le_of_ble_eq_true rfl) (A.v rfl (V.as (v := .own 1 0 _) rfl ?_))
          refine So.e ?_
          show HT _ _ _ _ _
          refine HT.region S15_ok ?_
          refine So.n (Nat.le_of_ble_eq_true rfl) (A.v rfl (V.mv (v := .p (.v (.int .i64 _))) rfl ?_))
          refine So.n (Nat.le_of_ble_eq_true rfl) (A.v rfl (V.subI rfl rfl (by omega) ?_))
          refine So.n (Nat.le_of_ble_eq_true rfl) (A.v rfl (V.as (v := .p (.v (.int .i64 _))) rfl ?_))
          refine So.e ?_
          refine ⟨s + 1, by first | rfl | omega | (simp; done) | (simp; omega), by omega, ⟨⟨⟨le_own2 (by first | rfl | omega) (by first | rfl | omega | (simp; done) | (simp; omega)), rfl⟩, ⟨le_int (by first | rfl | omega | (simp; done) | (simp; omega)), trivial⟩, ⟨.refl _, trivial⟩, ⟨.refl _, trivial⟩, trivial⟩, ⟨⟨_, rfl, .inl (ob_bs (by first | rfl | ((try dsimp only); first | rfl | ((try dsimp only); rw [List.drop_zero, List.take_of_length_le (by simp; omega), ← numB_take (by omega) (by omega), show (8 * (k - 1 - (s : Int))).toNat = 8 * (k.toNat - 1 - s) from by omega]; rfl))) (by first | rfl | ((try dsimp only); first | rfl | ((try dsimp only); rw [List.drop_zero, List.take_of_length_le (by simp; omega), ← numB_take (by omega) (by omega), show (8 * (k - 1 - (s : Int))).toNat = 8 * (k.toNat - 1 - s) from by omega]; rfl)))), trivial⟩, trivial⟩⟩⟩
        · have h24 := of_decide_eq_false h24
          refine HT.exit ?_
          show HT _ _ _ _ _
          refine HT.seq ?_
          refine HT.region S15_ok ?_
          refine So.n (Nat.le_of_ble_eq_true rfl) (A.v rfl (V.mv (v := .own 1 0 _) rfl ?_))
          refine So.n (Nat.le_of_ble_eq_true rfl) (A.v rfl (V.as (v := .own 1 0 _) rfl ?_))
          refine So.e ?_
          show HT _ _ _ _ _
          refine HT.ret ?_
          exact ret_ok (sg [(1, 1)]) h rfl rfl rfl ⟨trivial, trivial⟩ ⟨rfl, trivial⟩ rfl ⟨⟨⟨le_own2 (by first | rfl | omega) (by first | rfl | (rw [numF_bad (by omega)] <;> rfl) | (rw [numF_big (by omega) (by have := @shr_zero n k (by omega) (by omega); omega)] <;> rfl) | (rw [numF_ok (by omega) (by omega) (by rintro ⟨h8, h9⟩; have := @shr_zero n k (by omega) (by omega); omega), numB_len]; omega) | (rw [numF_ok (by omega) (by omega) (by rintro ⟨h8, h9⟩; have := @shr_zero n k (by omega) (by omega); omega), List.take_of_length_le (by rw [numB_len]; omega)])), rfl⟩, trivial⟩, ⟨⟨_, rfl, .inl (ob_bs (by first | rfl | ((try dsimp only); (first | rfl | (rw [numF_bad (by omega)] <;> rfl) | (rw [numF_big (by omega) (by have := @shr_zero n k (by omega) (by omega); omega)] <;> rfl) | (rw [numF_ok (by omega) (by omega) (by rintro ⟨h8, h9⟩; have := @shr_zero n k (by omega) (by omega); omega), numB_len]; omega) | (rw [numF_ok (by omega) (by omega) (by rintro ⟨h8, h9⟩; have := @shr_zero n k (by omega) (by omega); omega), List.take_of_length_le (by rw [numB_len]; omega)])))) (by first | rfl | ((try dsimp only); (first | rfl | (rw [numF_bad (by omega)] <;> rfl) | (rw [numF_big (by omega) (by have := @shr_zero n k (by omega) (by omega); omega)] <;> rfl) | (rw [numF_ok (by omega) (by omega) (by rintro ⟨h8, h9⟩; have := @shr_zero n k (by omega) (by omega); omega), numB_len]; omega) | (rw [numF_ok (by omega) (by omega) (by rintro ⟨h8, h9⟩; have := @shr_zero n k (by omega) (by omega); omega), List.take_of_length_le (by rw [numB_len]; omega)]))))), trivial⟩, trivial⟩⟩
    · have h20 := of_decide_eq_true h20
      refine So.gn (b := true) rfl rfl rfl (Nat.le_of_ble_eq_true rfl) (Nat.le_of_ble_eq_true rfl) ?_
      refine So.gn (b := true) rfl rfl rfl (Nat.le_of_ble_eq_true rfl) (Nat.le_of_ble_eq_true rfl) ?_
      refine So.gu rfl rfl (Nat.le_of_ble_eq_true rfl) ?_
      refine So.gu rfl rfl (Nat.le_of_ble_eq_true rfl) ?_
      refine So.gu rfl rfl (Nat.le_of_ble_eq_true rfl) ?_
      refine So.gu rfl rfl (Nat.le_of_ble_eq_true rfl) ?_
      refine So.gu rfl rfl (Nat.le_of_ble_eq_true rfl) ?_
      refine So.gn (b := true) rfl rfl rfl (Nat.le_of_ble_eq_true rfl) (Nat.le_of_ble_eq_true rfl) ?_
      refine So.n (Nat.le_of_ble_eq_true rfl) (A.v rfl (V.pkTrue (u := .p (.v (.bool true))) rfl rfl ?_))
      refine So.e ?_
      show HT _ _ _ _ _
      refine R.condT rfl ?_
      refine HT.seq ?_
      refine HT.region S15_ok ?_
      refine So.n (Nat.le_of_ble_eq_true rfl) (A.v rfl (V.as (v := .p (.v (.slice none 0 0))) rfl ?_))
      refine So.e ?_
      show HT _ _ _ _ _
      refine R.phan 4 1 5 1 (.bs []) rfl rfl rfl ⟨rfl, rfl⟩ ?_
      refine HT.ret ?_
      exact ret_ok (sg [(1, 1)]) h rfl rfl rfl ⟨trivial, trivial⟩ ⟨rfl, trivial⟩ rfl ⟨⟨⟨le_own2 (by first | rfl | omega) (by first | rfl | (rw [numF_bad (by omega)] <;> rfl) | (rw [numF_big (by omega) (by have := @shr_zero n k (by omega) (by omega); omega)] <;> rfl) | (rw [numF_ok (by omega) (by omega) (by rintro ⟨h8, h9⟩; have := @shr_zero n k (by omega) (by omega); omega), numB_len]; omega) | (rw [numF_ok (by omega) (by omega) (by rintro ⟨h8, h9⟩; have := @shr_zero n k (by omega) (by omega); omega), List.take_of_length_le (by rw [numB_len]; omega)])), rfl⟩, trivial⟩, ⟨⟨_, rfl, .inl (ob_bs (by first | rfl | ((try dsimp only); (first | rfl | (rw [numF_bad (by omega)] <;> rfl) | (rw [numF_big (by omega) (by have := @shr_zero n k (by omega) (by omega); omega)] <;> rfl) | (rw [numF_ok (by omega) (by omega) (by rintro ⟨h8, h9⟩; have := @shr_zero n k (by omega) (by omega); omega), numB_len]; omega) | (rw [numF_ok (by omega) (by omega) (by rintro ⟨h8, h9⟩; have := @shr_zero n k (by omega) (by omega); omega), List.take_of_length_le (by rw [numB_len]; omega)])))) (by first | rfl | ((try dsimp only); (first | rfl | (rw [numF_bad (by omega)] <;> rfl) | (rw [numF_big (by omega) (by have := @shr_zero n k (by omega) (by omega); omega)] <;> rfl) | (rw [numF_ok (by omega) (by omega) (by rintro ⟨h8, h9⟩; have := @shr_zero n k (by omega) (by omega); omega), numB_len]; omega) | (rw [numF_ok (by omega) (by omega) (by rintro ⟨h8, h9⟩; have := @shr_zero n k (by omega) (by omega); omega), List.take_of_length_le (by rw [numB_len]; omega)]))))), trivial⟩, trivial⟩⟩

/-! ### sodality/sodalityref11.length -/
def rlenSp : Sp := ⟨[], mkE (α := Int) (fun n => [.p (.v (.int .i64 (n)))]) (fun n => []) (fun n => True) (fun n => [.own 1 (0) ((lenF n).length)]) (fun n => [(1, ⟨5, 1, (lenF n).length, true, .bs (lenF n)⟩)])⟩
def S28 : FuncId → Option Sp := fun _ => none
theorem S28_ok : ∀ f s, S28 f = some s → FOK Tryd.prog gl f s := fun f s h => by cases h
theorem S28_det : ∀ f s, S28 f = some s → SpDet s.sp := fun f s h => by cases h
set_option maxHeartbeats 1000000 in
theorem rlen_ok : FOK Tryd.prog gl 28 rlenSp := by
  refine FOK.ofE (tyOf_ok Tryd.prog) (slots := [2]) (nt := 30) Tryd.func28 rfl rfl rfl rfl (by decide) 1 (fun _ => rfl) (by decide) (fun _ => ⟨trivial, trivial⟩) ?_
  rintro n kk hlen hpre h
  replace hpre : True := hpre
  show HT ⟨Tryd.prog, 30, tyOf Tryd.prog, gl, []⟩ _ [(0, .p (.v (.int .i64 (n))))] [] _
  refine HT.seq ?_
  refine HT.region S28_ok ?_
  refine So.n (Nat.le_of_ble_eq_true rfl) (A.v rfl (V.as (v := .p (.v (.slice none 0 0))) rfl ?_))
  refine So.e ?_
  show HT _ _ _ _ _
  refine HT.seq ?_
  refine HT.seq ?_
  refine HT.region S28_ok ?_
  refine So.n (Nat.le_of_ble_eq_true rfl) (A.v rfl (V.mv (v := .p (.v (.int .i64 _))) rfl ?_))
  refine So.n (Nat.le_of_ble_eq_true rfl) (A.v rfl (V.bin (a := (.v (.int .i64 _))) (b := (.v (.int .i64 (64)))) (r := .v (.bool _)) rfl rfl rfl trivial ?_))
  refine So.e ?_
  show HT _ _ _ _ _
  refine R.cond rfl rfl (fun h1 => ?_) (fun h1 => ?_)
  · have h1 := of_decide_eq_true h1
    refine HT.seq ?_
    refine HT.region S28_ok ?_
    refine So.n (Nat.le_of_ble_eq_true rfl) (A.v rfl (V.mv (v := .p (.v (.int .i64 _))) rfl ?_))
    refine So.n (Nat.le_of_ble_eq_true rfl) (A.v rfl (V.cvN ty5 ty3 (a := (.v (.int .i64 _))) (r := (.u8 _)) rfl rfl ?_))
    refine So.n (Nat.le_of_ble_eq_true rfl) (A.bsl 1 ty22 ty5 rfl (Nat.le_of_ble_eq_true rfl) (Nat.le_of_ble_eq_true rfl) (fun _ => rfl) rfl rfl trivial ⟨trivial, trivial⟩ rfl (N := 1) rfl (c := .bs [_]) rfl ?_)
    refine So.n (Nat.le_of_ble_eq_true rfl) (A.v rfl (V.as (v := .own 1 0 _) rfl ?_))
    refine So.e ?_
    show HT _ _ _ _ _
    refine HT.ret ?_
    exact ret_ok (sg [(1, 1)]) h rfl rfl rfl ⟨trivial, trivial⟩ ⟨rfl, trivial⟩ rfl ⟨⟨⟨le_own2 (by first | rfl | omega) (by first | rfl | (unfold lenF; simp (disch := omega) only [if_pos, if_neg] <;> first | rfl | (rw [u8_add64]) | (rw [u8_add128]))), rfl⟩, trivial⟩, ⟨⟨_, rfl, .inl (ob_bs (by first | rfl | ((try dsimp only); (first | rfl | (unfold lenF; simp (disch := omega) only [if_pos, if_neg] <;> first | rfl | (rw [u8_add64]) | (rw [u8_add128]))))) (by first | rfl | ((try dsimp only); (first | rfl | (unfold lenF; simp (disch := omega) only [if_pos, if_neg] <;> first | rfl | (rw [u8_add64]) | (rw [u8_add128])))))), trivial⟩, trivial⟩⟩
  · have h1 := of_decide_eq_false h1
    refine HT.skip ?_
    show HT _ _ _ _ _
    refine HT.seq ?_
    refine HT.seq ?_
    refine HT.region S28_ok ?_
    refine So.n (Nat.le_of_ble_eq_true rfl) (A.v rfl (V.mv (v := .p (.v (.int .i64 _))) rfl ?_))
    refine So.n (Nat.le_of_ble_eq_true rfl) (A.v rfl (V.bin (a := (.v (.int .i64 _))) (b := (.v (.int .i64 (16384)))) (r := .v (.bool _)) rfl rfl rfl trivial ?_))
    refine So.e ?_
    show HT _ _ _ _ _
    refine R.cond rfl rfl (fun h2 => ?_) (fun h2 => ?_)
    · have h2 := of_decide_eq_true h2
      refine HT.seq ?_
      refine HT.region S28_ok ?_
      refine So.n (Nat.le_of_ble_eq_true rfl) (A.v rfl (V.mv (v := .p (.v (.int .i64 _))) rfl ?_))
      refine So.n (Nat.le_of_ble_eq_true rfl) (A.v rfl (V.shrI (n := 8) (M := 256) rfl rfl rfl (by decide) ?_))
      refine So.n (Nat.le_of_ble_eq_true rfl) (A.v rfl (V.cvN ty5 ty3 (a := (.v (.int .i64 _))) (r := (.u8 _)) rfl rfl ?_))
      refine So.n (Nat.le_of_ble_eq_true rfl) (A.v rfl (V.bin (a := (.u8 _)) (b := (.u8 64)) (r := .u8 _) rfl rfl rfl trivial ?_))
      refine So.n (Nat.le_of_ble_eq_true rfl) (A.v rfl (V.mv (v := .p (.v (.int .i64 _))) rfl ?_))
      refine So.n (Nat.le_of_ble_eq_true rfl) (A.v rfl (V.cvN ty5 ty3 (a := (.v (.int .i64 _))) (r := (.u8 _)) rfl rfl ?_))
      refine So.n (Nat.le_of_ble_eq_true rfl) (A.bsl 1 ty22 ty5 rfl (Nat.le_of_ble_eq_true rfl) (Nat.le_of_ble_eq_true rfl) (fun _ => rfl) rfl rfl trivial ⟨trivial, trivial, trivial⟩ rfl (N := 2) rfl (c := .bs [_, _]) rfl ?_)
      refine So.n (Nat.le_of_ble_eq_true rfl) (A.v rfl (V.as (v := .own 1 0 _) rfl ?_))
      refine So.e ?_
      show HT _ _ _ _ _
      refine HT.ret ?_
      exact ret_ok (sg [(1, 1)]) h rfl rfl rfl ⟨trivial, trivial⟩ ⟨rfl, trivial⟩ rfl ⟨⟨⟨le_own2 (by first | rfl | omega) (by first | rfl | (unfold lenF; simp (disch := omega) only [if_pos, if_neg] <;> first | rfl | (rw [u8_add64]) | (rw [u8_add128]))), rfl⟩, trivial⟩, ⟨⟨_, rfl, .inl (ob_bs (by first | rfl | ((try dsimp only); (first | rfl | (unfold lenF; simp (disch := omega) only [if_pos, if_neg] <;> first | rfl | (rw [u8_add64]) | (rw [u8_add128]))))) (by first | rfl | ((try dsimp only); (first | rfl | (unfold lenF; simp (disch := omega) only [if_pos, if_neg] <;> first | rfl | (rw [u8_add64]) | (rw [u8_add128])))))), trivial⟩, trivial⟩⟩
    · have h2 := of_decide_eq_false h2
      refine HT.skip ?_
      show HT _ _ _ _ _
      refine HT.seq ?_
      refine HT.region S28_ok ?_
      refine So.n (Nat.le_of_ble_eq_true rfl) (A.v rfl (V.mv (v := .p (.v (.int .i64 _))) rfl ?_))
      refine So.n (Nat.le_of_ble_eq_true rfl) (A.v rfl (V.shrI (n := 24) (M := 16777216) rfl rfl rfl (by decide) ?_))
      refine So.n (Nat.le_of_ble_eq_true rfl) (A.v rfl (V.cvN ty5 ty3 (a := (.v (.int .i64 _))) (r := (.u8 _)) rfl rfl ?_))
      refine So.n (Nat.le_of_ble_eq_true rfl) (A.v rfl (V.bin (a := (.u8 _)) (b := (.u8 128)) (r := .u8 _) rfl rfl rfl trivial ?_))
      refine So.n (Nat.le_of_ble_eq_true rfl) (A.v rfl (V.mv (v := .p (.v (.int .i64 _))) rfl ?_))
      refine So.n (Nat.le_of_ble_eq_true rfl) (A.v rfl (V.shrI (n := 16) (M := 65536) rfl rfl rfl (by decide) ?_))
      refine So.n (Nat.le_of_ble_eq_true rfl) (A.v rfl (V.cvN ty5 ty3 (a := (.v (.int .i64 _))) (r := (.u8 _)) rfl rfl ?_))
      refine So.n (Nat.le_of_ble_eq_true rfl) (A.v rfl (V.mv (v := .p (.v (.int .i64 _))) rfl ?_))
      refine So.n (Nat.le_of_ble_eq_true rfl) (A.v rfl (V.shrI (n := 8) (M := 256) rfl rfl rfl (by decide) ?_))
      refine So.n (Nat.le_of_ble_eq_true rfl) (A.v rfl (V.cvN ty5 ty3 (a := (.v (.int .i64 _))) (r := (.u8 _)) rfl rfl ?_))
      refine So.n (Nat.le_of_ble_eq_true rfl) (A.v rfl (V.mv (v := .p (.v (.int .i64 _))) rfl ?_))
      refine So.n (Nat.le_of_ble_eq_true rfl) (A.v rfl (V.cvN ty5 ty3 (a := (.v (.int .i64 _))) (r := (.u8 _)) rfl rfl ?_))
      refine So.n (Nat.le_of_ble_eq_true rfl) (A.bsl 1 ty22 ty5 rfl (Nat.le_of_ble_eq_true rfl) (Nat.le_of_ble_eq_true rfl) (fun _ => rfl) rfl rfl trivial ⟨trivial, trivial, trivial, trivial, trivial⟩ rfl (N := 4) rfl (c := .bs [_, _, _, _]) rfl ?_)
      refine So.n (Nat.le_of_ble_eq_true rfl) (A.v rfl (V.as (v := .own 1 0 _) rfl ?_))
      refine So.e ?_
      show HT _ _ _ _ _
      refine HT.ret ?_
      exact ret_ok (sg [(1, 1)]) h rfl rfl rfl ⟨trivial, trivial⟩ ⟨rfl, trivial⟩ rfl ⟨⟨⟨le_own2 (by first | rfl | omega) (by first | rfl | (unfold lenF; simp (disch := omega) only [if_pos, if_neg] <;> first | rfl | (rw [u8_add64]) | (rw [u8_add128]))), rfl⟩, trivial⟩, ⟨⟨_, rfl, .inl (ob_bs (by first | rfl | ((try dsimp only); (first | rfl | (unfold lenF; simp (disch := omega) only [if_pos, if_neg] <;> first | rfl | (rw [u8_add64]) | (rw [u8_add128]))))) (by first | rfl | ((try dsimp only); (first | rfl | (unfold lenF; simp (disch := omega) only [if_pos, if_neg] <;> first | rfl | (rw [u8_add64]) | (rw [u8_add128])))))), trivial⟩, trivial⟩⟩

/-! ### sodality/sodalityref11.getLength -/
def rhdSp : Sp := ⟨[], mkE (α := (List UInt8) × Int) (fun (b, i) => [.p (.bs (b)), .p (.v (.int .i64 (i)))]) (fun (b, i) => []) (fun (b, i) => True) (fun (b, i) => [.p (.v (.int .i64 ((hdF b i).1))), .p (.v (.int .i64 ((hdF b i).2.1))), .p (.v (.int .i64 ((hdF b i).2.2)))]) (fun (b, i) => [])⟩
def S31 : FuncId → Option Sp := fun f => if f = 28 then some rlenSp else none
theorem S31_ok : ∀ f s, S31 f = some s → FOK Tryd.prog gl f s := fun f s h => by
  unfold S31 at h
  split at h
  · rename_i e; cases h; subst e; exact rlen_ok
  cases h
theorem S31_det : ∀ f s, S31 f = some s → SpDet s.sp := fun f s h => by
  unfold S31 at h
  split at h
  · cases h; exact mkE_det _ _ _ _ _
  cases h
set_option maxHeartbeats 1000000 in
theorem rhd_ok : FOK Tryd.prog gl 31 rhdSp := by
  refine FOK.ofE (tyOf_ok Tryd.prog) (slots := [4, 5, 6]) (nt := 83) Tryd.func31 rfl rfl rfl rfl (by decide) 2 (fun ⟨_, _⟩ => rfl) (by decide) (fun ⟨_, _⟩ => ⟨trivial, trivial, trivial⟩) ?_
  rintro ⟨b, i⟩ kk hlen hpre h
  have hl0 : (b).length ≤ 9223372036854775807 := hlen.1
  replace hpre : True := hpre
  show HT ⟨Tryd.prog, 83, tyOf Tryd.prog, gl, []⟩ _ [(0, .p (.bs (b))), (1, .p (.v (.int .i64 (i))))] [] _
  refine HT.seq ?_
  refine HT.region S31_ok ?_
  refine So.n (Nat.le_of_ble_eq_true rfl) (A.v rfl (V.as (v := .p (.v (.int .i64 (0)))) rfl ?_))
  refine So.n (Nat.le_of_ble_eq_true rfl) (A.v rfl (V.as (v := .p (.v (.int .i64 (0)))) rfl ?_))
  refine So.n (Nat.le_of_ble_eq_true rfl) (A.v rfl (V.as (v := .p (.v (.int .i64 (0)))) rfl ?_))
  refine So.e ?_
  show HT _ _ _ _ _
  refine HT.seq ?_
  refine HT.seq ?_
  refine HT.region S31_ok ?_
  refine So.n (Nat.le_of_ble_eq_true rfl) (A.v rfl (V.mv (v := .p (.v (.int .i64 _))) rfl ?_))
  refine So.n (Nat.le_of_ble_eq_true rfl) (A.v rfl (V.bin (a := (.v (.int .i64 _))) (b := (.v (.int .i64 (0)))) (r := .v (.bool _)) rfl rfl rfl trivial ?_))
  refine So.n (Nat.le_of_ble_eq_true rfl) (A.v rfl (V.mv (v := .p (.v (.bool _))) rfl ?_))
  refine So.gd rfl rfl (Nat.le_of_ble_eq_true rfl) (Nat.le_of_ble_eq_true rfl) (fun h1 => ?_) (fun h1 => ?_)
  · have h1 := of_decide_eq_false h1
    refine A.v rfl (V.mv (v := .p (.v (.int .i64 _))) rfl ?_)
    refine So.gy rfl rfl (Nat.le_of_ble_eq_true rfl) (Nat.le_of_ble_eq_true rfl) ?_
    refine A.v rfl (V.mv (v := .p (.bs _)) rfl ?_)
    refine So.gy rfl rfl (Nat.le_of_ble_eq_true rfl) (Nat.le_of_ble_eq_true rfl) ?_
    refine A.v rfl (V.len ty22 (v := .p (.bs _)) rfl rfl ?_)
    refine So.gy rfl rfl (Nat.le_of_ble_eq_true rfl) (Nat.le_of_ble_eq_true rfl) ?_
    refine A.v rfl (V.bin (a := (.v (.int .i64 _))) (b := (.v (.int .i64 _))) (r := .v (.bool _)) rfl rfl rfl trivial ?_)
    refine So.n (Nat.le_of_ble_eq_true rfl) (A.v rfl (V.pkFalse (u := .p (.v (.bool _))) rfl rfl ?_))
    refine So.e ?_
    show HT _ _ _ _ _
    refine R.cond rfl rfl (fun h2 => ?_) (fun h2 => ?_)
    · have h2 := of_decide_eq_true h2
      refine HT.seq ?_
      refine HT.region S31_ok ?_
      refine So.n (Nat.le_of_ble_eq_true rfl) (A.v rfl (V.as (v := .p (.v (.int .i64 (0)))) rfl ?_))
      refine So.n (Nat.le_of_ble_eq_true rfl) (A.v rfl (V.as (v := .p (.v (.int .i64 (0)))) rfl ?_))
      refine So.n (Nat.le_of_ble_eq_true rfl) (A.v rfl (V.as (v := .p (.v (.int .i64 (1)))) rfl ?_))
      refine So.e ?_
      show HT _ _ _ _ _
      refine HT.ret ?_
      exact ret_ok (sg []) h rfl rfl rfl trivial ⟨trivial, trivial, trivial, trivial⟩ rfl ⟨⟨⟨le_int (by first | rfl | (rw [hd_arg (by omega)]; done) | (rw [hd_end (by omega)]; done) | (rw [hd_192 (by omega) (by omega) (by omega)]; done) | (rw [hd_short (by omega) (by omega) (by omega) (by omega)]; done) | (rw [(hd_val (s := s) (by omega) (by omega) (by omega) (by omega)).1 (by omega)]; done) | (rw [(hd_val (s := s) (by omega) (by omega) (by omega) (by omega)).2.1 (by omega) (by omega)]; done) | (rw [(hd_val (s := s) (by omega) (by omega) (by omega) (by omega)).2.2.1 (by omega) (by omega) (by omega)]; done) | (rw [(hd_val (s := s) (by omega) (by omega) (by omega) (by omega)).2.2.2 (by omega) (by omega) (by omega)]; first | done | (dsimp only; omega))), trivial⟩, ⟨le_int (by first | rfl | (rw [hd_arg (by omega)]; done) | (rw [hd_end (by omega)]; done) | (rw [hd_192 (by omega) (by omega) (by omega)]; done) | (rw [hd_short (by omega) (by omega) (by omega) (by omega)]; done) | (rw [(hd_val (s := s) (by omega) (by omega) (by omega) (by omega)).1 (by omega)]; done) | (rw [(hd_val (s := s) (by omega) (by omega) (by omega) (by omega)).2.1 (by omega) (by omega)]; done) | (rw [(hd_val (s := s) (by omega) (by omega) (by omega) (by omega)).2.2.1 (by omega) (by omega) (by omega)]; done) | (rw [(hd_val (s := s) (by omega) (by omega) (by omega) (by omega)).2.2.2 (by omega) (by omega) (by omega)]; first | done | (dsimp only; omega))), trivial⟩, ⟨le_int (by first | rfl | (rw [hd_arg (by omega)]; done) | (rw [hd_end (by omega)]; done) | (rw [hd_192 (by omega) (by omega) (by omega)]; done) | (rw [hd_short (by omega) (by omega) (by omega) (by omega)]; done) | (rw [(hd_val (s := s) (by omega) (by omega) (by omega) (by omega)).1 (by omega)]; done) | (rw [(hd_val (s := s) (by omega) (by omega) (by omega) (by omega)).2.1 (by omega) (by omega)]; done) | (rw [(hd_val (s := s) (by omega) (by omega) (by omega) (by omega)).2.2.1 (by omega) (by omega) (by omega)]; done) | (rw [(hd_val (s := s) (by omega) (by omega) (by omega) (by omega)).2.2.2 (by omega) (by omega) (by omega)]; first | done | (dsimp only; omega))), trivial⟩, trivial⟩, trivial⟩
    · have h2 := of_decide_eq_false h2
      refine HT.skip ?_
      show HT _ _ _ _ _
      refine HT.seq ?_
      refine HT.seq ?_
      refine HT.region S31_ok ?_
      refine So.n (Nat.le_of_ble_eq_true rfl) (A.v rfl (V.mv (v := .p (.v (.int .i64 _))) rfl ?_))
      refine So.n (Nat.le_of_ble_eq_true rfl) (A.v rfl (V.mv (v := .p (.bs _)) rfl ?_))
      refine So.n (Nat.le_of_ble_eq_true rfl) (A.v rfl (V.len ty22 (v := .p (.bs _)) rfl rfl ?_))
      refine So.n (Nat.le_of_ble_eq_true rfl) (A.v rfl (V.bin (a := (.v (.int .i64 _))) (b := (.v (.int .i64 _))) (r := .v (.bool _)) rfl rfl rfl trivial ?_))
      refine So.e ?_
      show HT _ _ _ _ _
      refine R.cond rfl rfl (fun h3 => ?_) (fun h3 => ?_)
      · have h3 := of_decide_eq_true h3
        refine HT.seq ?_
        refine HT.region S31_ok ?_
        refine So.n (Nat.le_of_ble_eq_true rfl) (A.v rfl (V.as (v := .p (.v (.int .i64 (0)))) rfl ?_))
        refine So.n (Nat.le_of_ble_eq_true rfl) (A.v rfl (V.as (v := .p (.v (.int .i64 (0)))) rfl ?_))
        refine So.n (Nat.le_of_ble_eq_true rfl) (A.v rfl (V.as (v := .p (.v (.int .i64 (111)))) rfl ?_))
        refine So.e ?_
        show HT _ _ _ _ _
        refine HT.ret ?_
        exact ret_ok (sg []) h rfl rfl rfl trivial ⟨trivial, trivial, trivial, trivial⟩ rfl ⟨⟨⟨le_int (by first | rfl | (rw [hd_arg (by omega)]; done) | (rw [hd_end (by omega)]; done) | (rw [hd_192 (by omega) (by omega) (by omega)]; done) | (rw [hd_short (by omega) (by omega) (by omega) (by omega)]; done) | (rw [(hd_val (s := s) (by omega) (by omega) (by omega) (by omega)).1 (by omega)]; done) | (rw [(hd_val (s := s) (by omega) (by omega) (by omega) (by omega)).2.1 (by omega) (by omega)]; done) | (rw [(hd_val (s := s) (by omega) (by omega) (by omega) (by omega)).2.2.1 (by omega) (by omega) (by omega)]; done) | (rw [(hd_val (s := s) (by omega) (by omega) (by omega) (by omega)).2.2.2 (by omega) (by omega) (by omega)]; first | done | (dsimp only; omega))), trivial⟩, ⟨le_int (by first | rfl | (rw [hd_arg (by omega)]; done) | (rw [hd_end (by omega)]; done) | (rw [hd_192 (by omega) (by omega) (by omega)]; done) | (rw [hd_short (by omega) (by omega) (by omega) (by omega)]; done) | (rw [(hd_val (s := s) (by omega) (by omega) (by omega) (by omega)).1 (by omega)]; done) | (rw [(hd_val (s := s) (by omega) (by omega) (by omega) (by omega)).2.1 (by omega) (by omega)]; done) | (rw [(hd_val (s := s) (by omega) (by omega) (by omega) (by omega)).2.2.1 (by omega) (by omega) (by omega)]; done) | (rw [(hd_val (s := s) (by omega) (by omega) (by omega) (by omega)).2.2.2 (by omega) (by omega) (by omega)]; first | done | (dsimp only; omega))), trivial⟩, ⟨le_int (by first | rfl | (rw [hd_arg (by omega)]; done) | (rw [hd_end (by omega)]; done) | (rw [hd_192 (by omega) (by omega) (by omega)]; done) | (rw [hd_short (by omega) (by omega) (by omega) (by omega)]; done) | (rw [(hd_val (s := s) (by omega) (by omega) (by omega) (by omega)).1 (by omega)]; done) | (rw [(hd_val (s := s) (by omega) (by omega) (by omega) (by omega)).2.1 (by omega) (by omega)]; done) | (rw [(hd_val (s := s) (by omega) (by omega) (by omega) (by omega)).2.2.1 (by omega) (by omega) (by omega)]; done) | (rw [(hd_val (s := s) (by omega) (by omega) (by omega) (by omega)).2.2.2 (by omega) (by omega) (by omega)]; first | done | (dsimp only; omega))), trivial⟩, trivial⟩, trivial⟩
      · have h3 := of_decide_eq_false h3
        refine HT.skip ?_
        show HT _ _ _ _ _
        refine HT.seq ?_
        refine HT.region S31_ok ?_
        refine So.n (Nat.le_of_ble_eq_true rfl) (A.v rfl (V.as (v := .p (.v (.int .i64 (1)))) rfl ?_))
        refine So.e ?_
        show HT _ _ _ _ _
        refine HT.seq ?_
        refine HT.seq ?_
        refine HT.region S31_ok ?_
        refine So.n (Nat.le_of_ble_eq_true rfl) (A.v rfl (V.mv (v := .p (.bs _)) rfl ?_))
        refine So.n (Nat.le_of_ble_eq_true rfl) (A.v rfl (V.mv (v := .p (.v (.int .i64 _))) rfl ?_))
        refine So.n (Nat.le_of_ble_eq_true rfl) (A.v rfl (V.ixBs ty22 ty5 rfl rfl rfl (by omega) rfl ?_))
        refine So.n (Nat.le_of_ble_eq_true rfl) (A.v rfl (V.ldRp ty5 rfl rfl (Nat.le_of_ble_eq_true rfl) (v := (.u8 _)) rfl ?_))
        refine So.n (Nat.le_of_ble_eq_true rfl) (A.v rfl (V.bin (a := (.u8 _)) (b := (.u8 192)) (r := .v (.bool _)) rfl rfl rfl trivial ?_))
        refine So.e ?_
        show HT _ _ _ _ _
        refine R.cond rfl rfl (fun h4 => ?_) (fun h4 => ?_)
        · have h4 := UInt8.le_iff_toNat_le.1 (of_decide_eq_true h4)
          rw [show (192 : UInt8).toNat = 192 from rfl] at h4
          refine HT.seq ?_
          refine HT.region S31_ok ?_
          refine So.n (Nat.le_of_ble_eq_true rfl) (A.v rfl (V.as (v := .p (.v (.int .i64 (0)))) rfl ?_))
          refine So.n (Nat.le_of_ble_eq_true rfl) (A.v rfl (V.as (v := .p (.v (.int .i64 (0)))) rfl ?_))
          refine So.n (Nat.le_of_ble_eq_true rfl) (A.v rfl (V.as (v := .p (.v (.int .i64 (112)))) rfl ?_))
          refine So.e ?_
          show HT _ _ _ _ _
          refine HT.ret ?_
          exact ret_ok (sg []) h rfl rfl rfl trivial ⟨trivial, trivial, trivial, trivial⟩ rfl ⟨⟨⟨le_int (by first | rfl | (rw [hd_arg (by omega)]; done) | (rw [hd_end (by omega)]; done) | (rw [hd_192 (by omega) (by omega) (by omega)]; done) | (rw [hd_short (by omega) (by omega) (by omega) (by omega)]; done) | (rw [(hd_val (s := s) (by omega) (by omega) (by omega) (by omega)).1 (by omega)]; done) | (rw [(hd_val (s := s) (by omega) (by omega) (by omega) (by omega)).2.1 (by omega) (by omega)]; done) | (rw [(hd_val (s := s) (by omega) (by omega) (by omega) (by omega)).2.2.1 (by omega) (by omega) (by omega)]; done) | (rw [(hd_val (s := s) (by omega) (by omega) (by omega) (by omega)).2.2.2 (by omega) (by omega) (by omega)]; first | done | (dsimp only; omega))), trivial⟩, ⟨le_int (by first | rfl | (rw [hd_arg (by omega)]; done) | (rw [hd_end (by omega)]; done) | (rw [hd_192 (by omega) (by omega) (by omega)]; done) | (rw [hd_short (by omega) (by omega) (by omega) (by omega)]; done) | (rw [(hd_val (s := s) (by omega) (by omega) (by omega) (by omega)).1 (by omega)]; done) | (rw [(hd_val (s := s) (by omega) (by omega) (by omega) (by omega)).2.1 (by omega) (by omega)]; done) | (rw [(hd_val (s := s) (by omega) (by omega) (by omega) (by omega)).2.2.1 (by omega) (by omega) (by omega)]; done) | (rw [(hd_val (s := s) (by omega) (by omega) (by omega) (by omega)).2.2.2 (by omega) (by omega) (by omega)]; first | done | (dsimp only; omega))), trivial⟩, ⟨le_int (by first | rfl | (rw [hd_arg (by omega)]; done) | (rw [hd_end (by omega)]; done) | (rw [hd_192 (by omega) (by omega) (by omega)]; done) | (rw [hd_short (by omega) (by omega) (by omega) (by omega)]; done) | (rw [(hd_val (s := s) (by omega) (by omega) (by omega) (by omega)).1 (by omega)]; done) | (rw [(hd_val (s := s) (by omega) (by omega) (by omega) (by omega)).2.1 (by omega) (by omega)]; done) | (rw [(hd_val (s := s) (by omega) (by omega) (by omega) (by omega)).2.2.1 (by omega) (by omega) (by omega)]; done) | (rw [(hd_val (s := s) (by omega) (by omega) (by omega) (by omega)).2.2.2 (by omega) (by omega) (by omega)]; first | done | (dsimp only; omega))), trivial⟩, trivial⟩, trivial⟩
        · have h4 := mt UInt8.le_iff_toNat_le.2 (of_decide_eq_false h4)
          rw [show (192 : UInt8).toNat = 192 from rfl] at h4
          refine HT.skip ?_
          show HT _ _ _ _ _
          refine R.cut (True) [(7, .p (.v (.int .i64 (szOf (b.getD i.toNat 0)))))] [] [0, 1, 4, 5, 6] [] (fr0 := [(0, .p (.bs _)), (1, .p (.v (.int .i64 _))), (4, .p (.v (.int .i64 _))), (5, .p (.v (.int .i64 _))), (6, .p (.v (.int .i64 _)))]) (O0 := []) rfl rfl ?_ (fun hphi => ?_)
          · refine HT.seq ?_
            refine HT.region S31_ok ?_
            refine So.n (Nat.le_of_ble_eq_true rfl) (A.v rfl (V.mv (v := .p (.bs _)) rfl ?_))
            refine So.n (Nat.le_of_ble_eq_true rfl) (A.v rfl (V.mv (v := .p (.v (.int .i64 _))) rfl ?_))
            refine So.n (Nat.le_of_ble_eq_true rfl) (A.v rfl (V.ixBs ty22 ty5 rfl rfl rfl (by omega) rfl ?_))
            refine So.n (Nat.le_of_ble_eq_true rfl) (A.v rfl (V.ldRp ty5 rfl rfl (Nat.le_of_ble_eq_true rfl) (v := (.u8 _)) rfl ?_))
            refine So.n (Nat.le_of_ble_eq_true rfl) (A.v rfl (V.bin (a := (.u8 _)) (b := (.u8 128)) (r := .v (.bool _)) rfl rfl rfl trivial ?_))
            refine So.e ?_
            show HT _ _ _ _ _
            refine R.cond rfl rfl (fun h5 => ?_) (fun h5 => ?_)
            · have h5 := UInt8.le_iff_toNat_le.1 (of_decide_eq_true h5)
              rw [show (128 : UInt8).toNat = 128 from rfl] at h5
              refine HT.region S31_ok ?_
              refine So.n (Nat.le_of_ble_eq_true rfl) (A.v rfl (V.as (v := .p (.v (.int .i64 (4)))) rfl ?_))
              refine So.e ?_
              exact ⟨by first | trivial | rfl | (unfold szOf; simp (disch := omega) only [if_pos, if_neg]), ⟨⟨⟨le_int (by first | trivial | rfl | (unfold szOf; simp (disch := omega) only [if_pos, if_neg])), trivial⟩, ⟨.refl _, trivial⟩, ⟨.refl _, trivial⟩, ⟨.refl _, trivial⟩, ⟨.refl _, trivial⟩, ⟨.refl _, trivial⟩, trivial⟩, trivial⟩⟩
            · have h5 := mt UInt8.le_iff_toNat_le.2 (of_decide_eq_false h5)
              rw [show (128 : UInt8).toNat = 128 from rfl] at h5
              refine HT.seq ?_
              refine HT.region S31_ok ?_
              refine So.n (Nat.le_of_ble_eq_true rfl) (A.v rfl (V.mv (v := .p (.bs _)) rfl ?_))
              refine So.n (Nat.le_of_ble_eq_true rfl) (A.v rfl (V.mv (v := .p (.v (.int .i64 _))) rfl ?_))
              refine So.n (Nat.le_of_ble_eq_true rfl) (A.v rfl (V.ixBs ty22 ty5 rfl rfl rfl (by omega) rfl ?_))
              refine So.n (Nat.le_of_ble_eq_true rfl) (A.v rfl (V.ldRp ty5 rfl rfl (Nat.le_of_ble_eq_true rfl) (v := (.u8 _)) rfl ?_))
              refine So.n (Nat.le_of_ble_eq_true rfl) (A.v rfl (V.bin (a := (.u8 _)) (b := (.u8 64)) (r := .v (.bool _)) rfl rfl rfl trivial ?_))
              refine So.e ?_
              show HT _ _ _ _ _
              refine R.cond rfl rfl (fun h6 => ?_) (fun h6 => ?_)
              · have h6 := UInt8.le_iff_toNat_le.1 (of_decide_eq_true h6)
                rw [show (64 : UInt8).toNat = 64 from rfl] at h6
                refine HT.region S31_ok ?_
                refine So.n (Nat.le_of_ble_eq_true rfl) (A.v rfl (V.as (v := .p (.v (.int .i64 (2)))) rfl ?_))
                refine So.e ?_
                exact ⟨by first | trivial | rfl | (unfold szOf; simp (disch := omega) only [if_pos, if_neg]), ⟨⟨⟨le_int (by first | trivial | rfl | (unfold szOf; simp (disch := omega) only [if_pos, if_neg])), trivial⟩, ⟨.refl _, trivial⟩, ⟨.refl _, trivial⟩, ⟨.refl _, trivial⟩, ⟨.refl _, trivial⟩, ⟨.refl _, trivial⟩, trivial⟩, trivial⟩⟩
              · have h6 := mt UInt8.le_iff_toNat_le.2 (of_decide_eq_false h6)
                rw [show (64 : UInt8).toNat = 64 from rfl] at h6
                refine HT.skip ?_
                exact ⟨by first | trivial | rfl | (unfold szOf; simp (disch := omega) only [if_pos, if_neg]), ⟨⟨⟨le_int (by first | trivial | rfl | (unfold szOf; simp (disch := omega) only [if_pos, if_neg])), trivial⟩, ⟨.refl _, trivial⟩, ⟨.refl _, trivial⟩, ⟨.refl _, trivial⟩, ⟨.refl _, trivial⟩, ⟨.refl _, trivial⟩, trivial⟩, trivial⟩⟩
          · refine HT.seq ?_
            refine HT.seq ?_
            refine HT.region S31_ok ?_
            have hsz := szOf_v (b.getD i.toNat 0)
            refine So.n (Nat.le_of_ble_eq_true rfl) (A.v rfl (V.mv (v := .p (.bs _)) rfl ?_))
            refine So.n (Nat.le_of_ble_eq_true rfl) (A.v rfl (V.len ty22 (v := .p (.bs _)) rfl rfl ?_))
            refine So.n (Nat.le_of_ble_eq_true rfl) (A.v rfl (V.mv (v := .p (.v (.int .i64 _))) rfl ?_))
            refine So.n (Nat.le_of_ble_eq_true rfl) (A.v rfl (V.subI rfl rfl (by omega) ?_))
            refine So.n (Nat.le_of_ble_eq_true rfl) (A.v rfl (V.mv (v := .p (.v (.int .i64 _))) rfl ?_))
            refine So.n (Nat.le_of_ble_eq_true rfl) (A.v rfl (V.bin (a := (.v (.int .i64 _))) (b := (.v (.int .i64 _))) (r := .v (.bool _)) rfl rfl rfl trivial ?_))
            refine So.e ?_
            show HT _ _ _ _ _
            refine R.cond rfl rfl (fun h7 => ?_) (fun h7 => ?_)
            · have h7 := of_decide_eq_true h7
              refine HT.seq ?_
              refine HT.region S31_ok ?_
              refine So.n (Nat.le_of_ble_eq_true rfl) (A.v rfl (V.as (v := .p (.v (.int .i64 (0)))) rfl ?_))
              refine So.n (Nat.le_of_ble_eq_true rfl) (A.v rfl (V.as (v := .p (.v (.int .i64 (0)))) rfl ?_))
              refine So.n (Nat.le_of_ble_eq_true rfl) (A.v rfl (V.as (v := .p (.v (.int .i64 (111)))) rfl ?_))
              refine So.e ?_
              show HT _ _ _ _ _
              refine HT.ret ?_
              exact ret_ok (sg []) h rfl rfl rfl trivial ⟨trivial, trivial, trivial, trivial⟩ rfl ⟨⟨⟨le_int (by first | rfl | (rw [hd_arg (by omega)]; done) | (rw [hd_end (by omega)]; done) | (rw [hd_192 (by omega) (by omega) (by omega)]; done) | (rw [hd_short (by omega) (by omega) (by omega) (by omega)]; done) | (rw [(hd_val (s := s) (by omega) (by omega) (by omega) (by omega)).1 (by omega)]; done) | (rw [(hd_val (s := s) (by omega) (by omega) (by omega) (by omega)).2.1 (by omega) (by omega)]; done) | (rw [(hd_val (s := s) (by omega) (by omega) (by omega) (by omega)).2.2.1 (by omega) (by omega) (by omega)]; done) | (rw [(hd_val (s := s) (by omega) (by omega) (by omega) (by omega)).2.2.2 (by omega) (by omega) (by omega)]; first | done | (dsimp only; omega))), trivial⟩, ⟨le_int (by first | rfl | (rw [hd_arg (by omega)]; done) | (rw [hd_end (by omega)]; done) | (rw [hd_192 (by omega) (by omega) (by omega)]; done) | (rw [hd_short (by omega) (by omega) (by omega) (by omega)]; done) | (rw [(hd_val (s := s) (by omega) (by omega) (by omega) (by omega)).1 (by omega)]; done) | (rw [(hd_val (s := s) (by omega) (by omega) (by omega) (by omega)).2.1 (by omega) (by omega)]; done) | (rw [(hd_val (s := s) (by omega) (by omega) (by omega) (by omega)).2.2.1 (by omega) (by omega) (by omega)]; done) | (rw [(hd_val (s := s) (by omega) (by omega) (by omega) (by omega)).2.2.2 (by omega) (by omega) (by omega)]; first | done | (dsimp only; omega))), trivial⟩, ⟨le_int (by first | rfl | (rw [hd_arg (by omega)]; done) | (rw [hd_end (by omega)]; done) | (rw [hd_192 (by omega) (by omega) (by omega)]; done) | (rw [hd_short (by omega) (by omega) (by omega) (by omega)]; done) | (rw [(hd_val (s := s) (by omega) (by omega) (by omega) (by omega)).1 (by omega)]; done) | (rw [(hd_val (s := s) (by omega) (by omega) (by omega) (by omega)).2.1 (by omega) (by omega)]; done) | (rw [(hd_val (s := s) (by omega) (by omega) (by omega) (by omega)).2.2.1 (by omega) (by omega) (by omega)]; done) | (rw [(hd_val (s := s) (by omega) (by omega) (by omega) (by omega)).2.2.2 (by omega) (by omega) (by omega)]; first | done | (dsimp only; omega))), trivial⟩, trivial⟩, trivial⟩
            · have h7 := of_decide_eq_false h7
              refine HT.skip ?_
              show HT _ _ _ _ _
              refine HT.seq ?_
              refine HT.region S31_ok ?_
              refine So.n (Nat.le_of_ble_eq_true rfl) (A.v rfl (V.mv (v := .p (.bs _)) rfl ?_))
              refine So.n (Nat.le_of_ble_eq_true rfl) (A.v rfl (V.mv (v := .p (.v (.int .i64 _))) rfl ?_))
              refine So.n (Nat.le_of_ble_eq_true rfl) (A.v rfl (V.ixBs ty22 ty5 rfl rfl rfl (by omega) rfl ?_))
              refine So.n (Nat.le_of_ble_eq_true rfl) (A.v rfl (V.ldRp ty5 rfl rfl (Nat.le_of_ble_eq_true rfl) (v := (.u8 _)) rfl ?_))
              refine So.n (Nat.le_of_ble_eq_true rfl) (A.v rfl (V.cvN ty3 ty5 (a := (.u8 _)) (r := (.v (.int .i64 _))) rfl rfl ?_))
              refine So.n (Nat.le_of_ble_eq_true rfl) (A.v rfl (V.remI rfl rfl (by omega) ?_))
              refine So.n (Nat.le_of_ble_eq_true rfl) (A.v rfl (V.as (v := .p (.v (.int .i64 _))) rfl ?_))
              refine So.e ?_
              show HT _ _ _ _ _
              refine HT.seq ?_
              refine HT.seq ?_
              refine HT.region S31_ok ?_
              refine So.n (Nat.le_of_ble_eq_true rfl) (A.v rfl (V.as (v := .p (.v (.int .i64 (1)))) rfl ?_))
              refine So.e ?_
              show HT _ _ _ _ _
              refine HT.block ?_
              refine R.loop (σ := Nat) (fun s => [(8, .p (.v (.int .i64 ((lenN b i s : Int))))), (9, .p (.v (.int .i64 ((s : Int)))))]) (fun s => []) [0, 1, 4, 5, 6, 7] [] (fun s => 1 ≤ s ∧ (s : Int) ≤ szOf (b.getD i.toNat 0)) (fun s => 4 - s) (1) (fr0 := [(0, .p (.bs _)), (1, .p (.v (.int .i64 _))), (4, .p (.v (.int .i64 _))), (5, .p (.v (.int .i64 _))), (6, .p (.v (.int .i64 _))), (7, .p (.v (.int .i64 _)))]) (O0 := []) rfl rfl (by first | rfl | omega | (simp; done) | (simp; omega)) ⟨⟨⟨le_int (by first | rfl | omega | (rw [lenN_one]; omega) | (have := szOf_v (b.getD i.toNat 0); omega)), trivial⟩, ⟨le_int (by first | rfl | omega | (rw [lenN_one]; omega) | (have := szOf_v (b.getD i.toNat 0); omega)), trivial⟩, ⟨.refl _, trivial⟩, ⟨.refl _, trivial⟩, ⟨.refl _, trivial⟩, ⟨.refl _, trivial⟩, ⟨.refl _, trivial⟩, ⟨.refl _, trivial⟩, trivial⟩, trivial⟩ (fun s hP0 => ?_)
              have hll := @lenN_lt b i s hP0.1
              have hlb := @lenN_b b i s (by omega) (by omega)
              refine HT.seq ?_
              refine HT.seq ?_
              refine HT.region S31_ok ?_
              refine So.n (Nat.le_of_ble_eq_true rfl) (A.v rfl (V.mv (v := .p (.v (.int .i64 ((_ : Nat) : Int)))) rfl ?_))
              refine So.n (Nat.le_of_ble_eq_true rfl) (A.v rfl (V.mv (v := .p (.v (.int .i64 _))) rfl ?_))
              refine So.n (Nat.le_of_ble_eq_true rfl) (A.v rfl (V.bin (a := (.v (.int .i64 ((_ : Nat) : Int)))) (b := (.v (.int .i64 _))) (r := .v (.bool _)) rfl rfl rfl trivial ?_))
              refine So.e ?_
              show HT _ _ _ _ _
              refine R.cond rfl rfl (fun h8 => ?_) (fun h8 => ?_)
              · have h8 := of_decide_eq_true h8
                refine HT.skip ?_
                show HT _ _ _ _ _
                refine HT.seq ?_
                refine HT.block ?_
                refine HT.region S31_ok ?_
                refine So.n (Nat.le_of_ble_eq_true rfl) (A.v rfl (V.mv (v := .p (.v (.int .i64 _))) rfl ?_))
                refine So.n (Nat.le_of_ble_eq_true rfl) (A.v rfl (V.shlI (n := 8) (M := 256) rfl rfl rfl (by decide) (by omega) ?_))
                refine So.n (Nat.le_of_ble_eq_true rfl) (A.v rfl (V.mv (v := .p (.bs _)) rfl ?_))
                refine So.n (Nat.le_of_ble_eq_true rfl) (A.v rfl (V.mv (v := .p (.v (.int .i64 _))) rfl ?_))
                refine So.n (Nat.le_of_ble_eq_true rfl) (A.v rfl (V.mv (v := .p (.v (.int .i64 ((_ : Nat) : Int)))) rfl ?_))
                refine So.n (Nat.le_of_ble_eq_true rfl) (A.v rfl (V.addI rfl rfl (by omega) ?_))
                refine So.n (Nat.le_of_ble_eq_true rfl) (A.v rfl (V.ixBs ty22 ty5 rfl rfl rfl (by omega) rfl ?_))
                refine So.n (Nat.le_of_ble_eq_true rfl) (A.v rfl (V.ldRp ty5 rfl rfl (Nat.le_of_ble_eq_true rfl) (v := (.u8 _)) rfl ?_))
                refine So.n (Nat.le_of_ble_eq_true rfl) (A.v rfl (V.cvN ty3 ty5 (a := (.u8 _)) (r := (.v (.int .i64 _))) rfl rfl ?_))
                refine So.n (Nat.le_of_ble_eq_true rfl) (A.v rfl (V.bin (a := (.v (.int .i64 _))) (b := (.v (.int .i64 _))) (r := .v (.int .i64 _)) rfl rfl rfl trivial ?_))
                refine So.n (Nat.le_of_ble_eq_true rfl) (A.v rfl (V.as (v := .p (.v (.int .i64 _))) rfl ?_))
                refine So.e ?_
                show HT _ _ _ _ _
                refine HT.region S31_ok ?_
                refine So.n (Nat.le_of_ble_eq_true rfl) (A.v rfl (V.mv (v := .p (.v (.int .i64 ((_ : Nat) : Int)))) rfl ?_))
                refine So.n (Nat.le_of_ble_eq_true rfl) (A.v rfl (V.addI rfl rfl (by omega) ?_))
                refine So.n (Nat.le_of_ble_eq_true rfl) (A.v rfl (V.as (v := .p (.v (.int .i64 _))) rfl ?_))
                refine So.e ?_
                refine ⟨s + 1, by first | rfl | omega | (simp; done) | (simp; omega), by omega, ⟨⟨⟨le_int (by first | (rw [lenN_one]; rfl) | exact len_or (by omega) (by omega) (by omega) (by omega) hll), trivial⟩, ⟨le_int (by first | rfl | omega | (simp; done) | (simp; omega)), trivial⟩, ⟨.refl _, trivial⟩, ⟨.refl _, trivial⟩, ⟨.refl _, trivial⟩, ⟨.refl _, trivial⟩, ⟨.refl _, trivial⟩, ⟨.refl _, trivial⟩, trivial⟩, trivial⟩⟩
              · have h8 := of_decide_eq_false h8
                refine HT.exit ?_
                show HT _ _ _ _ _
                refine HT.seq ?_
                refine HT.seq ?_
                refine HT.region S31_ok ?_
                refine So.n (Nat.le_of_ble_eq_true rfl) (A.v rfl (V.mv (v := .p (.v (.int .i64 _))) rfl ?_))
                refine So.n (Nat.le_of_ble_eq_true rfl) (A.call0 [.p (.v (.int .i64 _))] 1 rfl rfl rfl rfl ⟨trivial, trivial⟩ trivial _ ⟨.refl _, trivial⟩ trivial (by trivial) (Φ := fun n => (lenF n).length ≤ 4) (fun n _ => lenF_le n) (.inl rfl) (v := .own 2 0 _) rfl (O' := (2, ⟨5, 1, _, true, .bs _⟩) :: _) rfl (fun h9 => ?_))
                try dsimp only at h9
                refine So.n (Nat.le_of_ble_eq_true rfl) (A.v rfl (V.len ty22 (v := .own 2 0 _) rfl rfl ?_))
                refine So.n (Nat.le_of_ble_eq_true rfl) (A.v rfl (V.mv (v := .p (.v (.int .i64 _))) rfl ?_))
                refine So.n (Nat.le_of_ble_eq_true rfl) (A.v rfl (V.bin (a := (.v (.int .i64 _))) (b := (.v (.int .i64 _))) (r := .v (.bool _)) rfl rfl rfl trivial ?_))
                refine So.e ?_
                show HT _ _ _ _ _
                refine R.cond rfl rfl (fun h10 => ?_) (fun h10 => ?_)
                · have h10 := of_decide_eq_false (bnT h10)
                  refine HT.seq ?_
                  refine HT.region S31_ok ?_
                  refine So.n (Nat.le_of_ble_eq_true rfl) (A.v rfl (V.as (v := .p (.v (.int .i64 (0)))) rfl ?_))
                  refine So.n (Nat.le_of_ble_eq_true rfl) (A.v rfl (V.as (v := .p (.v (.int .i64 (0)))) rfl ?_))
                  refine So.n (Nat.le_of_ble_eq_true rfl) (A.v rfl (V.as (v := .p (.v (.int .i64 (112)))) rfl ?_))
                  refine So.e ?_
                  show HT _ _ _ _ _
                  refine HT.ret ?_
                  exact ret_ok (sg []) h rfl rfl rfl trivial ⟨trivial, trivial, trivial, trivial⟩ rfl ⟨⟨⟨le_int (by first | rfl | (rw [hd_arg (by omega)]; done) | (rw [hd_end (by omega)]; done) | (rw [hd_192 (by omega) (by omega) (by omega)]; done) | (rw [hd_short (by omega) (by omega) (by omega) (by omega)]; done) | (rw [(hd_val (s := s) (by omega) (by omega) (by omega) (by omega)).1 (by omega)]; done) | (rw [(hd_val (s := s) (by omega) (by omega) (by omega) (by omega)).2.1 (by omega) (by omega)]; done) | (rw [(hd_val (s := s) (by omega) (by omega) (by omega) (by omega)).2.2.1 (by omega) (by omega) (by omega)]; done) | (rw [(hd_val (s := s) (by omega) (by omega) (by omega) (by omega)).2.2.2 (by omega) (by omega) (by omega)]; first | done | (dsimp only; omega))), trivial⟩, ⟨le_int (by first | rfl | (rw [hd_arg (by omega)]; done) | (rw [hd_end (by omega)]; done) | (rw [hd_192 (by omega) (by omega) (by omega)]; done) | (rw [hd_short (by omega) (by omega) (by omega) (by omega)]; done) | (rw [(hd_val (s := s) (by omega) (by omega) (by omega) (by omega)).1 (by omega)]; done) | (rw [(hd_val (s := s) (by omega) (by omega) (by omega) (by omega)).2.1 (by omega) (by omega)]; done) | (rw [(hd_val (s := s) (by omega) (by omega) (by omega) (by omega)).2.2.1 (by omega) (by omega) (by omega)]; done) | (rw [(hd_val (s := s) (by omega) (by omega) (by omega) (by omega)).2.2.2 (by omega) (by omega) (by omega)]; first | done | (dsimp only; omega))), trivial⟩, ⟨le_int (by first | rfl | (rw [hd_arg (by omega)]; done) | (rw [hd_end (by omega)]; done) | (rw [hd_192 (by omega) (by omega) (by omega)]; done) | (rw [hd_short (by omega) (by omega) (by omega) (by omega)]; done) | (rw [(hd_val (s := s) (by omega) (by omega) (by omega) (by omega)).1 (by omega)]; done) | (rw [(hd_val (s := s) (by omega) (by omega) (by omega) (by omega)).2.1 (by omega) (by omega)]; done) | (rw [(hd_val (s := s) (by omega) (by omega) (by omega) (by omega)).2.2.1 (by omega) (by omega) (by omega)]; done) | (rw [(hd_val (s := s) (by omega) (by omega) (by omega) (by omega)).2.2.2 (by omega) (by omega) (by omega)]; first | done | (dsimp only; omega))), trivial⟩, trivial⟩, trivial⟩
                · have h10 := of_decide_eq_true (bnF h10)
                  refine HT.skip ?_
                  show HT _ _ _ _ _
                  refine HT.seq ?_
                  refine HT.seq ?_
                  refine HT.region S31_ok ?_
                  refine So.n (Nat.le_of_ble_eq_true rfl) (A.v rfl (V.mv (v := .p (.v (.int .i64 _))) rfl ?_))
                  refine So.n (Nat.le_of_ble_eq_true rfl) (A.v rfl (V.bin (a := (.v (.int .i64 _))) (b := (.v (.int .i64 (1048576)))) (r := .v (.bool _)) rfl rfl rfl trivial ?_))
                  refine So.e ?_
                  show HT _ _ _ _ _
                  refine R.cond rfl rfl (fun h11 => ?_) (fun h11 => ?_)
                  · have h11 := of_decide_eq_true h11
                    refine HT.seq ?_
                    refine HT.region S31_ok ?_
                    refine So.n (Nat.le_of_ble_eq_true rfl) (A.v rfl (V.as (v := .p (.v (.int .i64 (0)))) rfl ?_))
                    refine So.n (Nat.le_of_ble_eq_true rfl) (A.v rfl (V.as (v := .p (.v (.int .i64 (0)))) rfl ?_))
                    refine So.n (Nat.le_of_ble_eq_true rfl) (A.v rfl (V.as (v := .p (.v (.int .i64 (2)))) rfl ?_))
                    refine So.e ?_
                    show HT _ _ _ _ _
                    refine HT.ret ?_
                    exact ret_ok (sg []) h rfl rfl rfl trivial ⟨trivial, trivial, trivial, trivial⟩ rfl ⟨⟨⟨le_int (by first | rfl | (rw [hd_arg (by omega)]; done) | (rw [hd_end (by omega)]; done) | (rw [hd_192 (by omega) (by omega) (by omega)]; done) | (rw [hd_short (by omega) (by omega) (by omega) (by omega)]; done) | (rw [(hd_val (s := s) (by omega) (by omega) (by omega) (by omega)).1 (by omega)]; done) | (rw [(hd_val (s := s) (by omega) (by omega) (by omega) (by omega)).2.1 (by omega) (by omega)]; done) | (rw [(hd_val (s := s) (by omega) (by omega) (by omega) (by omega)).2.2.1 (by omega) (by omega) (by omega)]; done) | (rw [(hd_val (s := s) (by omega) (by omega) (by omega) (by omega)).2.2.2 (by omega) (by omega) (by omega)]; first | done | (dsimp only; omega))), trivial⟩, ⟨le_int (by first | rfl | (rw [hd_arg (by omega)]; done) | (rw [hd_end (by omega)]; done) | (rw [hd_192 (by omega) (by omega) (by omega)]; done) | (rw [hd_short (by omega) (by omega) (by omega) (by omega)]; done) | (rw [(hd_val (s := s) (by omega) (by omega) (by omega) (by omega)).1 (by omega)]; done) | (rw [(hd_val (s := s) (by omega) (by omega) (by omega) (by omega)).2.1 (by omega) (by omega)]; done) | (rw [(hd_val (s := s) (by omega) (by omega) (by omega) (by omega)).2.2.1 (by omega) (by omega) (by omega)]; done) | (rw [(hd_val (s := s) (by omega) (by omega) (by omega) (by omega)).2.2.2 (by omega) (by omega) (by omega)]; first | done | (dsimp only; omega))), trivial⟩, ⟨le_int (by first | rfl | (rw [hd_arg (by omega)]; done) | (rw [hd_end (by omega)]; done) | (rw [hd_192 (by omega) (by omega) (by omega)]; done) | (rw [hd_short (by omega) (by omega) (by omega) (by omega)]; done) | (rw [(hd_val (s := s) (by omega) (by omega) (by omega) (by omega)).1 (by omega)]; done) | (rw [(hd_val (s := s) (by omega) (by omega) (by omega) (by omega)).2.1 (by omega) (by omega)]; done) | (rw [(hd_val (s := s) (by omega) (by omega) (by omega) (by omega)).2.2.1 (by omega) (by omega) (by omega)]; done) | (rw [(hd_val (s := s) (by omega) (by omega) (by omega) (by omega)).2.2.2 (by omega) (by omega) (by omega)]; first | done | (dsimp only; omega))), trivial⟩, trivial⟩, trivial⟩
                  · have h11 := of_decide_eq_false h11
                    refine HT.skip ?_
                    show HT _ _ _ _ _
                    refine HT.seq ?_
                    refine HT.seq ?_
                    refine HT.region S31_ok ?_
                    refine So.n (Nat.le_of_ble_eq_true rfl) (A.v rfl (V.mv (v := .p (.v (.int .i64 _))) rfl ?_))
                    refine So.n (Nat.le_of_ble_eq_true rfl) (A.v rfl (V.mv (v := .p (.bs _)) rfl ?_))
                    refine So.n (Nat.le_of_ble_eq_true rfl) (A.v rfl (V.len ty22 (v := .p (.bs _)) rfl rfl ?_))
                    refine So.n (Nat.le_of_ble_eq_true rfl) (A.v rfl (V.mv (v := .p (.v (.int .i64 _))) rfl ?_))
                    refine So.n (Nat.le_of_ble_eq_true rfl) (A.v rfl (V.subI rfl rfl (by omega) ?_))
                    refine So.n (Nat.le_of_ble_eq_true rfl) (A.v rfl (V.mv (v := .p (.v (.int .i64 _))) rfl ?_))
                    refine So.n (Nat.le_of_ble_eq_true rfl) (A.v rfl (V.subI rfl rfl (by omega) ?_))
                    refine So.n (Nat.le_of_ble_eq_true rfl) (A.v rfl (V.bin (a := (.v (.int .i64 _))) (b := (.v (.int .i64 _))) (r := .v (.bool _)) rfl rfl rfl trivial ?_))
                    refine So.e ?_
                    show HT _ _ _ _ _
                    refine R.cond rfl rfl (fun h12 => ?_) (fun h12 => ?_)
                    · have h12 := of_decide_eq_true h12
                      refine HT.seq ?_
                      refine HT.region S31_ok ?_
                      refine So.n (Nat.le_of_ble_eq_true rfl) (A.v rfl (V.as (v := .p (.v (.int .i64 (0)))) rfl ?_))
                      refine So.n (Nat.le_of_ble_eq_true rfl) (A.v rfl (V.as (v := .p (.v (.int .i64 (0)))) rfl ?_))
                      refine So.n (Nat.le_of_ble_eq_true rfl) (A.v rfl (V.as (v := .p (.v (.int .i64 (111)))) rfl ?_))
                      refine So.e ?_
                      show HT _ _ _ _ _
                      refine HT.ret ?_
                      exact ret_ok (sg []) h rfl rfl rfl trivial ⟨trivial, trivial, trivial, trivial⟩ rfl ⟨⟨⟨le_int (by first | rfl | (rw [hd_arg (by omega)]; done) | (rw [hd_end (by omega)]; done) | (rw [hd_192 (by omega) (by omega) (by omega)]; done) | (rw [hd_short (by omega) (by omega) (by omega) (by omega)]; done) | (rw [(hd_val (s := s) (by omega) (by omega) (by omega) (by omega)).1 (by omega)]; done) | (rw [(hd_val (s := s) (by omega) (by omega) (by omega) (by omega)).2.1 (by omega) (by omega)]; done) | (rw [(hd_val (s := s) (by omega) (by omega) (by omega) (by omega)).2.2.1 (by omega) (by omega) (by omega)]; done) | (rw [(hd_val (s := s) (by omega) (by omega) (by omega) (by omega)).2.2.2 (by omega) (by omega) (by omega)]; first | done | (dsimp only; omega))), trivial⟩, ⟨le_int (by first | rfl | (rw [hd_arg (by omega)]; done) | (rw [hd_end (by omega)]; done) | (rw [hd_192 (by omega) (by omega) (by omega)]; done) | (rw [hd_short (by omega) (by omega) (by omega) (by omega)]; done) | (rw [(hd_val (s := s) (by omega) (by omega) (by omega) (by omega)).1 (by omega)]; done) | (rw [(hd_val (s := s) (by omega) (by omega) (by omega) (by omega)).2.1 (by omega) (by omega)]; done) | (rw [(hd_val (s := s) (by omega) (by omega) (by omega) (by omega)).2.2.1 (by omega) (by omega) (by omega)]; done) | (rw [(hd_val (s := s) (by omega) (by omega) (by omega) (by omega)).2.2.2 (by omega) (by omega) (by omega)]; first | done | (dsimp only; omega))), trivial⟩, ⟨le_int (by first | rfl | (rw [hd_arg (by omega)]; done) | (rw [hd_end (by omega)]; done) | (rw [hd_192 (by omega) (by omega) (by omega)]; done) | (rw [hd_short (by omega) (by omega) (by omega) (by omega)]; done) | (rw [(hd_val (s := s) (by omega) (by omega) (by omega) (by omega)).1 (by omega)]; done) | (rw [(hd_val (s := s) (by omega) (by omega) (by omega) (by omega)).2.1 (by omega) (by omega)]; done) | (rw [(hd_val (s := s) (by omega) (by omega) (by omega) (by omega)).2.2.1 (by omega) (by omega) (by omega)]; done) | (rw [(hd_val (s := s) (by omega) (by omega) (by omega) (by omega)).2.2.2 (by omega) (by omega) (by omega)]; first | done | (dsimp only; omega))), trivial⟩, trivial⟩, trivial⟩
                    · have h12 := of_decide_eq_false h12
                      refine HT.skip ?_
                      show HT _ _ _ _ _
                      refine HT.seq ?_
                      refine HT.region S31_ok ?_
                      refine So.n (Nat.le_of_ble_eq_true rfl) (A.v rfl (V.mv (v := .p (.v (.int .i64 _))) rfl ?_))
                      refine So.n (Nat.le_of_ble_eq_true rfl) (A.v rfl (V.mv (v := .p (.v (.int .i64 _))) rfl ?_))
                      refine So.n (Nat.le_of_ble_eq_true rfl) (A.v rfl (V.mv (v := .p (.v (.int .i64 _))) rfl ?_))
                      refine So.n (Nat.le_of_ble_eq_true rfl) (A.v rfl (V.addI rfl rfl (by omega) ?_))
                      refine So.n (Nat.le_of_ble_eq_true rfl) (A.v rfl (V.as (v := .p (.v (.int .i64 _))) rfl ?_))
                      refine So.n (Nat.le_of_ble_eq_true rfl) (A.v rfl (V.as (v := .p (.v (.int .i64 _))) rfl ?_))
                      refine So.n (Nat.le_of_ble_eq_true rfl) (A.v rfl (V.as (v := .p (.v (.int .i64 (0)))) rfl ?_))
                      refine So.e ?_
                      show HT _ _ _ _ _
                      refine HT.ret ?_
                      exact ret_ok (sg []) h rfl rfl rfl trivial ⟨trivial, trivial, trivial, trivial⟩ rfl ⟨⟨⟨le_int (by first | rfl | (rw [hd_arg (by omega)]; done) | (rw [hd_end (by omega)]; done) | (rw [hd_192 (by omega) (by omega) (by omega)]; done) | (rw [hd_short (by omega) (by omega) (by omega) (by omega)]; done) | (rw [(hd_val (s := s) (by omega) (by omega) (by omega) (by omega)).1 (by omega)]; done) | (rw [(hd_val (s := s) (by omega) (by omega) (by omega) (by omega)).2.1 (by omega) (by omega)]; done) | (rw [(hd_val (s := s) (by omega) (by omega) (by omega) (by omega)).2.2.1 (by omega) (by omega) (by omega)]; done) | (rw [(hd_val (s := s) (by omega) (by omega) (by omega) (by omega)).2.2.2 (by omega) (by omega) (by omega)]; first | done | (dsimp only; omega))), trivial⟩, ⟨le_int (by first | rfl | (rw [hd_arg (by omega)]; done) | (rw [hd_end (by omega)]; done) | (rw [hd_192 (by omega) (by omega) (by omega)]; done) | (rw [hd_short (by omega) (by omega) (by omega) (by omega)]; done) | (rw [(hd_val (s := s) (by omega) (by omega) (by omega) (by omega)).1 (by omega)]; done) | (rw [(hd_val (s := s) (by omega) (by omega) (by omega) (by omega)).2.1 (by omega) (by omega)]; done) | (rw [(hd_val (s := s) (by omega) (by omega) (by omega) (by omega)).2.2.1 (by omega) (by omega) (by omega)]; done) | (rw [(hd_val (s := s) (by omega) (by omega) (by omega) (by omega)).2.2.2 (by omega) (by omega) (by omega)]; first | done | (dsimp only; omega))), trivial⟩, ⟨le_int (by first | rfl | (rw [hd_arg (by omega)]; done) | (rw [hd_end (by omega)]; done) | (rw [hd_192 (by omega) (by omega) (by omega)]; done) | (rw [hd_short (by omega) (by omega) (by omega) (by omega)]; done) | (rw [(hd_val (s := s) (by omega) (by omega) (by omega) (by omega)).1 (by omega)]; done) | (rw [(hd_val (s := s) (by omega) (by omega) (by omega) (by omega)).2.1 (by omega) (by omega)]; done) | (rw [(hd_val (s := s) (by omega) (by omega) (by omega) (by omega)).2.2.1 (by omega) (by omega) (by omega)]; done) | (rw [(hd_val (s := s) (by omega) (by omega) (by omega) (by omega)).2.2.2 (by omega) (by omega) (by omega)]; first | done | (dsimp only; omega))), trivial⟩, trivial⟩, trivial⟩
  · have h1 := of_decide_eq_true h1
    refine So.gn (b := true) rfl rfl rfl (Nat.le_of_ble_eq_true rfl) (Nat.le_of_ble_eq_true rfl) ?_
    refine So.gn (b := true) rfl rfl rfl (Nat.le_of_ble_eq_true rfl) (Nat.le_of_ble_eq_true rfl) ?_
    refine So.gn (b := true) rfl rfl rfl (Nat.le_of_ble_eq_true rfl) (Nat.le_of_ble_eq_true rfl) ?_
    refine So.n (Nat.le_of_ble_eq_true rfl) (A.v rfl (V.pkTrue (u := .p (.v (.bool true))) rfl rfl ?_))
    refine So.e ?_
    show HT _ _ _ _ _
    refine R.condT rfl ?_
    refine HT.seq ?_
    refine HT.region S31_ok ?_
    refine So.n (Nat.le_of_ble_eq_true rfl) (A.v rfl (V.as (v := .p (.v (.int .i64 (0)))) rfl ?_))
    refine So.n (Nat.le_of_ble_eq_true rfl) (A.v rfl (V.as (v := .p (.v (.int .i64 (0)))) rfl ?_))
    refine So.n (Nat.le_of_ble_eq_true rfl) (A.v rfl (V.as (v := .p (.v (.int .i64 (1)))) rfl ?_))
    refine So.e ?_
    show HT _ _ _ _ _
    refine HT.ret ?_
    exact ret_ok (sg []) h rfl rfl rfl trivial ⟨trivial, trivial, trivial, trivial⟩ rfl ⟨⟨⟨le_int (by first | rfl | (rw [hd_arg (by omega)]; done) | (rw [hd_end (by omega)]; done) | (rw [hd_192 (by omega) (by omega) (by omega)]; done) | (rw [hd_short (by omega) (by omega) (by omega) (by omega)]; done) | (rw [(hd_val (s := s) (by omega) (by omega) (by omega) (by omega)).1 (by omega)]; done) | (rw [(hd_val (s := s) (by omega) (by omega) (by omega) (by omega)).2.1 (by omega) (by omega)]; done) | (rw [(hd_val (s := s) (by omega) (by omega) (by omega) (by omega)).2.2.1 (by omega) (by omega) (by omega)]; done) | (rw [(hd_val (s := s) (by omega) (by omega) (by omega) (by omega)).2.2.2 (by omega) (by omega) (by omega)]; first | done | (dsimp only; omega))), trivial⟩, ⟨le_int (by first | rfl | (rw [hd_arg (by omega)]; done) | (rw [hd_end (by omega)]; done) | (rw [hd_192 (by omega) (by omega) (by omega)]; done) | (rw [hd_short (by omega) (by omega) (by omega) (by omega)]; done) | (rw [(hd_val (s := s) (by omega) (by omega) (by omega) (by omega)).1 (by omega)]; done) | (rw [(hd_val (s := s) (by omega) (by omega) (by omega) (by omega)).2.1 (by omega) (by omega)]; done) | (rw [(hd_val (s := s) (by omega) (by omega) (by omega) (by omega)).2.2.1 (by omega) (by omega) (by omega)]; done) | (rw [(hd_val (s := s) (by omega) (by omega) (by omega) (by omega)).2.2.2 (by omega) (by omega) (by omega)]; first | done | (dsimp only; omega))), trivial⟩, ⟨le_int (by first | rfl | (rw [hd_arg (by omega)]; done) | (rw [hd_end (by omega)]; done) | (rw [hd_192 (by omega) (by omega) (by omega)]; done) | (rw [hd_short (by omega) (by omega) (by omega) (by omega)]; done) | (rw [(hd_val (s := s) (by omega) (by omega) (by omega) (by omega)).1 (by omega)]; done) | (rw [(hd_val (s := s) (by omega) (by omega) (by omega) (by omega)).2.1 (by omega) (by omega)]; done) | (rw [(hd_val (s := s) (by omega) (by omega) (by omega) (by omega)).2.2.1 (by omega) (by omega) (by omega)]; done) | (rw [(hd_val (s := s) (by omega) (by omega) (by omega) (by omega)).2.2.2 (by omega) (by omega) (by omega)]; first | done | (dsimp only; omega))), trivial⟩, trivial⟩, trivial⟩

/-! ### sodality/sodalityref11.Text -/
def rtextSp : Sp := ⟨[], mkE (α := (List UInt8)) (fun s => [.p (.bs (s))]) (fun s => []) (fun s => True) (fun s => [.own 1 (0) ((textF s).length), .p (.v (.int .i64 (textE s)))]) (fun s => [(1, ⟨5, 1, (textF s).length, true, .bs (textF s)⟩)])⟩
def S18 : FuncId → Option Sp := fun f => if f = 28 then some rlenSp else none
theorem S18_ok : ∀ f s, S18 f = some s → FOK Tryd.prog gl f s := fun f s h => by
  unfold S18 at h
  split at h
  · rename_i e; cases h; subst e; exact rlen_ok
  cases h
theorem S18_det : ∀ f s, S18 f = some s → SpDet s.sp := fun f s h => by
  unfold S18 at h
  split at h
  · cases h; exact mkE_det _ _ _ _ _
  cases h
set_option maxHeartbeats 1000000 in
theorem rtext_ok : FOK Tryd.prog gl 18 rtextSp := by
  refine FOK.ofE (tyOf_ok Tryd.prog) (slots := [2, 3]) (nt := 12) Tryd.func18 rfl rfl rfl rfl (by decide) 1 (fun _ => rfl) (by decide) (fun _ => ⟨trivial, trivial⟩) ?_
  rintro s kk hlen hpre h
  have hl0 : (s).length ≤ 9223372036854775807 := hlen.1
  replace hpre : True := hpre
  show HT ⟨Tryd.prog, 12, tyOf Tryd.prog, gl, []⟩ _ [(0, .p (.bs (s)))] [] _
  refine HT.seq ?_
  refine HT.region S18_ok ?_
  refine So.n (Nat.le_of_ble_eq_true rfl) (A.v rfl (V.as (v := .p (.v (.slice none 0 0))) rfl ?_))
  refine So.n (Nat.le_of_ble_eq_true rfl) (A.v rfl (V.as (v := .p (.v (.int .i64 (0)))) rfl ?_))
  refine So.e ?_
  show HT _ _ _ _ _
  refine HT.seq ?_
  refine HT.seq ?_
  refine HT.region S18_ok ?_
  refine So.n (Nat.le_of_ble_eq_true rfl) (A.v rfl (V.mv (v := .p (.bs _)) rfl ?_))
  refine So.n (Nat.le_of_ble_eq_true rfl) (A.v rfl (V.len ty22 (v := .p (.bs _)) rfl rfl ?_))
  refine So.n (Nat.le_of_ble_eq_true rfl) (A.v rfl (V.bin (a := (.v (.int .i64 _))) (b := (.v (.int .i64 (1048576)))) (r := .v (.bool _)) rfl rfl rfl trivial ?_))
  refine So.e ?_
  show HT _ _ _ _ _
  refine R.cond rfl rfl (fun h1 => ?_) (fun h1 => ?_)
  · have h1 := of_decide_eq_true h1
    refine HT.seq ?_
    refine HT.region S18_ok ?_
    refine So.n (Nat.le_of_ble_eq_true rfl) (A.v rfl (V.as (v := .p (.v (.slice none 0 0))) rfl ?_))
    refine So.n (Nat.le_of_ble_eq_true rfl) (A.v rfl (V.as (v := .p (.v (.int .i64 (2)))) rfl ?_))
    refine So.e ?_
    show HT _ _ _ _ _
    refine R.phan 2 1 5 1 (.bs []) rfl rfl rfl ⟨rfl, rfl⟩ ?_
    refine HT.ret ?_
    exact ret_ok (sg [(1, 1)]) h rfl rfl rfl ⟨trivial, trivial⟩ ⟨rfl, trivial, trivial⟩ rfl ⟨⟨⟨le_own2 (by first | rfl | omega) (by first | rfl | (unfold textF; simp (disch := omega) only [if_pos, if_neg] <;> first | rfl | (simp; done)) | (unfold textE; simp (disch := omega) only [if_pos, if_neg])), rfl⟩, ⟨le_int (by first | rfl | (unfold textF; simp (disch := omega) only [if_pos, if_neg] <;> first | rfl | (simp; done)) | (unfold textE; simp (disch := omega) only [if_pos, if_neg])), trivial⟩, trivial⟩, ⟨⟨_, rfl, .inl (ob_bs (by first | rfl | ((try dsimp only); (first | rfl | (unfold textF; simp (disch := omega) only [if_pos, if_neg] <;> first | rfl | (simp; done)) | (unfold textE; simp (disch := omega) only [if_pos, if_neg])))) (by first | rfl | ((try dsimp only); (first | rfl | (unfold textF; simp (disch := omega) only [if_pos, if_neg] <;> first | rfl | (simp; done)) | (unfold textE; simp (disch := omega) only [if_pos, if_neg]))))), trivial⟩, trivial⟩⟩
  · have h1 := of_decide_eq_false h1
    refine HT.skip ?_
    show HT _ _ _ _ _
    refine HT.seq ?_
    refine HT.region S18_ok ?_
    refine So.n (Nat.le_of_ble_eq_true rfl) (A.v rfl (V.mv (v := .p (.bs _)) rfl ?_))
    refine So.n (Nat.le_of_ble_eq_true rfl) (A.v rfl (V.len ty22 (v := .p (.bs _)) rfl rfl ?_))
    refine So.n (Nat.le_of_ble_eq_true rfl) (A.call0 [.p (.v (.int .i64 _))] 1 rfl rfl rfl rfl ⟨trivial, trivial⟩ trivial _ ⟨.refl _, trivial⟩ trivial (by trivial) (Φ := fun n => (lenF n).length ≤ 4) (fun n _ => lenF_le n) (.inl rfl) (v := .own 2 0 _) rfl (O' := (2, ⟨5, 1, _, true, .bs _⟩) :: _) rfl (fun h2 => ?_))
    try dsimp only at h2
    refine So.n (Nat.le_of_ble_eq_true rfl) (A.v rfl (V.mv (v := .p (.bs _)) rfl ?_))
    refine So.n (Nat.le_of_ble_eq_true rfl) (A.apOwn ty22 ty5 rfl rfl rfl rfl (u := .p (.bs _)) rfl rfl rfl rfl (by first | rfl | omega | (simp; done) | (simp; omega)) rfl rfl rfl ?_)
    refine So.n (Nat.le_of_ble_eq_true rfl) (A.v rfl (V.as (v := .own 2 0 _) rfl ?_))
    refine So.n (Nat.le_of_ble_eq_true rfl) (A.v rfl (V.as (v := .p (.v (.int .i64 (0)))) rfl ?_))
    refine So.e ?_
    show HT _ _ _ _ _
    refine HT.ret ?_
    exact ret_ok (sg [(1, 2)]) h rfl rfl rfl ⟨trivial, trivial⟩ ⟨rfl, trivial, trivial⟩ rfl ⟨⟨⟨le_own2 (by first | rfl | omega) (by first | rfl | (unfold textF; simp (disch := omega) only [if_pos, if_neg] <;> first | rfl | (simp; done)) | (unfold textE; simp (disch := omega) only [if_pos, if_neg])), rfl⟩, ⟨le_int (by first | rfl | (unfold textF; simp (disch := omega) only [if_pos, if_neg] <;> first | rfl | (simp; done)) | (unfold textE; simp (disch := omega) only [if_pos, if_neg])), trivial⟩, trivial⟩, ⟨⟨_, rfl, .inl (ob_bs (by first | rfl | ((try dsimp only); (first | rfl | (unfold textF; simp (disch := omega) only [if_pos, if_neg] <;> first | rfl | (simp; done)) | (unfold textE; simp (disch := omega) only [if_pos, if_neg])))) (by first | rfl | ((try dsimp only); (first | rfl | (unfold textF; simp (disch := omega) only [if_pos, if_neg] <;> first | rfl | (simp; done)) | (unfold textE; simp (disch := omega) only [if_pos, if_neg]))))), trivial⟩, trivial⟩⟩

end Go.Vw
