/- What is proved: each function of the seat's program does what its contract says, wherever it is called; no condition. -/
import Derived.Test.YtmlkellnophlaaaDoorWalk0
import Derived.Test.YtmlkellnophlaaaDoorWalk1
set_option linter.unusedVariables false
set_option linter.unusedSimpArgs false
set_option linter.unusedVariables false
set_option linter.unusedSimpArgs false
namespace Go.Vh
open Go Go.Vc Go.Proofs Go.Vw

/-! ### sodality/sodalityref16.Same -/
def rsameESp : Sp := ⟨[], mkE (α := (List (List UInt8)) × (List (List UInt8))) (fun (e, f) => [.agg 7 (fun j => .bs ((e).getD j [])), .agg 7 (fun j => .bs ((f).getD j []))]) (fun (e, f) => []) (fun (e, f) => True) (fun (e, f) => [.p (.v (.bool (decide (sameE e f))))]) (fun (e, f) => [])⟩
def S_rsameE : FuncId → Option Sp := fun _ => none
theorem S_rsameE_ok : ∀ f s, S_rsameE f = some s → FOK Tryd.prog gl f s := fun f s h => by cases h
theorem S_rsameE_det : ∀ f s, S_rsameE f = some s → SpDet s.sp := fun f s h => by cases h
set_option maxHeartbeats 1000000 in
set_option maxRecDepth 1000 in
theorem rsameE_ok : FOK Tryd.prog gl 12 rsameESp := by
  refine FOK.ofE (tyOf_ok Tryd.prog) (slots := [4]) (nt := 68) Tryd.func12 rfl rfl rfl rfl (by decide) 2 (fun ⟨_, _⟩ => rfl) (by decide) (fun ⟨_, _⟩ => ⟨trivial, trivial, trivial⟩) ?_
  rintro ⟨e, f⟩ kk hlen hpre h
  replace hpre : True := hpre
  show HT (cx Tryd.prog 68 (tyOf Tryd.prog) gl []) _ [(0, .agg 7 (fun j => .bs ((e).getD j []))), (1, .agg 7 (fun j => .bs ((f).getD j [])))] [] _
  refine HT.seq ?_
  refine HT.region S_rsameE_ok ?_
  refine So.n (Nat.le_of_ble_eq_true rfl) (A.boxAg 1 1 (n := 7) rfl (by intro j hj; first | rfl | trivial | (split <;> first | rfl | trivial | (split <;> first | rfl | trivial))) rfl trivial ?_)
  refine So.n (Nat.le_of_ble_eq_true rfl) (A.boxAg 2 1 (n := 7) rfl (by intro j hj; first | rfl | trivial | (split <;> first | rfl | trivial | (split <;> first | rfl | trivial))) rfl trivial ?_)
  refine So.n (Nat.le_of_ble_eq_true rfl) (A.v rfl (V.as (v := .p (.v (.bool false))) rfl ?_))
  refine So.e ?_
  show HT _ _ _ _ _
  refine HT.seq ?_
  refine HT.region S_rsameE_ok ?_
  refine So.n (Nat.le_of_ble_eq_true rfl) (A.v rfl (V.faPtr ty28 rfl ty22 (Nat.le_of_ble_eq_true rfl) rfl rfl (by first | exact Nat.le_of_ble_eq_true rfl | first | rfl | omega | (simp; done) | (simp; omega)) ?_))
  refine So.n (Nat.le_of_ble_eq_true rfl) (A.v rfl (V.ldPtr ty22 rfl rfl rfl (by first | rfl | omega | (simp; done) | (simp; omega)) (v := .p (.bs _)) rfl ?_))
  refine So.n (Nat.le_of_ble_eq_true rfl) (A.v rfl (V.cvBs ty9 rfl rfl ?_))
  refine So.n (Nat.le_of_ble_eq_true rfl) (A.v rfl (V.faPtr ty28 rfl ty22 (Nat.le_of_ble_eq_true rfl) rfl rfl (by first | exact Nat.le_of_ble_eq_true rfl | first | rfl | omega | (simp; done) | (simp; omega)) ?_))
  refine So.n (Nat.le_of_ble_eq_true rfl) (A.v rfl (V.ldPtr ty22 rfl rfl rfl (by first | rfl | omega | (simp; done) | (simp; omega)) (v := .p (.bs _)) rfl ?_))
  refine So.n (Nat.le_of_ble_eq_true rfl) (A.v rfl (V.cvBs ty9 rfl rfl ?_))
  refine So.n (Nat.le_of_ble_eq_true rfl) (A.v rfl (V.bin (a := (.str _)) (b := (.str _)) (r := .v (.bool _)) rfl rfl rfl trivial ?_))
  refine So.n (Nat.le_of_ble_eq_true rfl) (A.v rfl (V.mv (v := .p (.v (.bool _))) rfl ?_))
  refine So.gd rfl rfl (Nat.le_of_ble_eq_true rfl) (Nat.le_of_ble_eq_true rfl) (fun h1 => ?_) (fun h1 => ?_)
  · have h1 := of_decide_eq_true h1
    refine A.v rfl (V.faPtr ty28 rfl ty22 (Nat.le_of_ble_eq_true rfl) rfl rfl (by first | exact Nat.le_of_ble_eq_true rfl | first | rfl | omega | (simp; done) | (simp; omega)) ?_)
    refine So.gy rfl rfl (Nat.le_of_ble_eq_true rfl) (Nat.le_of_ble_eq_true rfl) ?_
    refine A.v rfl (V.ldPtr ty22 rfl rfl rfl (by first | rfl | omega | (simp; done) | (simp; omega)) (v := .p (.bs _)) rfl ?_)
    refine So.gy rfl rfl (Nat.le_of_ble_eq_true rfl) (Nat.le_of_ble_eq_true rfl) ?_
    refine A.v rfl (V.cvBs ty9 rfl rfl ?_)
    refine So.gy rfl rfl (Nat.le_of_ble_eq_true rfl) (Nat.le_of_ble_eq_true rfl) ?_
    refine A.v rfl (V.faPtr ty28 rfl ty22 (Nat.le_of_ble_eq_true rfl) rfl rfl (by first | exact Nat.le_of_ble_eq_true rfl | first | rfl | omega | (simp; done) | (simp; omega)) ?_)
    refine So.gy rfl rfl (Nat.le_of_ble_eq_true rfl) (Nat.le_of_ble_eq_true rfl) ?_
    refine A.v rfl (V.ldPtr ty22 rfl rfl rfl (by first | rfl | omega | (simp; done) | (simp; omega)) (v := .p (.bs _)) rfl ?_)
    refine So.gy rfl rfl (Nat.le_of_ble_eq_true rfl) (Nat.le_of_ble_eq_true rfl) ?_
    refine A.v rfl (V.cvBs ty9 rfl rfl ?_)
    refine So.gy rfl rfl (Nat.le_of_ble_eq_true rfl) (Nat.le_of_ble_eq_true rfl) ?_
    refine A.v rfl (V.bin (a := (.str _)) (b := (.str _)) (r := .v (.bool _)) rfl rfl rfl trivial ?_)
    refine So.n (Nat.le_of_ble_eq_true rfl) (A.v rfl (V.pkTrue (u := .p (.v (.bool _))) rfl rfl ?_))
    refine So.n (Nat.le_of_ble_eq_true rfl) (A.v rfl (V.mv (v := .p (.v (.bool _))) rfl ?_))
    refine So.gd rfl rfl (Nat.le_of_ble_eq_true rfl) (Nat.le_of_ble_eq_true rfl) (fun h2 => ?_) (fun h2 => ?_)
    · have h2 := of_decide_eq_true h2
      refine A.v rfl (V.faPtr ty28 rfl ty22 (Nat.le_of_ble_eq_true rfl) rfl rfl (by first | exact Nat.le_of_ble_eq_true rfl | first | rfl | omega | (simp; done) | (simp; omega)) ?_)
      refine So.gy rfl rfl (Nat.le_of_ble_eq_true rfl) (Nat.le_of_ble_eq_true rfl) ?_
      refine A.v rfl (V.ldPtr ty22 rfl rfl rfl (by first | rfl | omega | (simp; done) | (simp; omega)) (v := .p (.bs _)) rfl ?_)
      refine So.gy rfl rfl (Nat.le_of_ble_eq_true rfl) (Nat.le_of_ble_eq_true rfl) ?_
      refine A.v rfl (V.cvBs ty9 rfl rfl ?_)
      refine So.gy rfl rfl (Nat.le_of_ble_eq_true rfl) (Nat.le_of_ble_eq_true rfl) ?_
      refine A.v rfl (V.faPtr ty28 rfl ty22 (Nat.le_of_ble_eq_true rfl) rfl rfl (by first | exact Nat.le_of_ble_eq_true rfl | first | rfl | omega | (simp; done) | (simp; omega)) ?_)
      refine So.gy rfl rfl (Nat.le_of_ble_eq_true rfl) (Nat.le_of_ble_eq_true rfl) ?_
      refine A.v rfl (V.ldPtr ty22 rfl rfl rfl (by first | rfl | omega | (simp; done) | (simp; omega)) (v := .p (.bs _)) rfl ?_)
      refine So.gy rfl rfl (Nat.le_of_ble_eq_true rfl) (Nat.le_of_ble_eq_true rfl) ?_
      refine A.v rfl (V.cvBs ty9 rfl rfl ?_)
      refine So.gy rfl rfl (Nat.le_of_ble_eq_true rfl) (Nat.le_of_ble_eq_true rfl) ?_
      refine A.v rfl (V.bin (a := (.str _)) (b := (.str _)) (r := .v (.bool _)) rfl rfl rfl trivial ?_)
      refine So.n (Nat.le_of_ble_eq_true rfl) (A.v rfl (V.pkTrue (u := .p (.v (.bool _))) rfl rfl ?_))
      refine So.n (Nat.le_of_ble_eq_true rfl) (A.v rfl (V.mv (v := .p (.v (.bool _))) rfl ?_))
      refine So.gd rfl rfl (Nat.le_of_ble_eq_true rfl) (Nat.le_of_ble_eq_true rfl) (fun h3 => ?_) (fun h3 => ?_)
      · have h3 := of_decide_eq_true h3
        refine A.v rfl (V.faPtr ty28 rfl ty22 (Nat.le_of_ble_eq_true rfl) rfl rfl (by first | exact Nat.le_of_ble_eq_true rfl | first | rfl | omega | (simp; done) | (simp; omega)) ?_)
        refine So.gy rfl rfl (Nat.le_of_ble_eq_true rfl) (Nat.le_of_ble_eq_true rfl) ?_
        refine A.v rfl (V.ldPtr ty22 rfl rfl rfl (by first | rfl | omega | (simp; done) | (simp; omega)) (v := .p (.bs _)) rfl ?_)
        refine So.gy rfl rfl (Nat.le_of_ble_eq_true rfl) (Nat.le_of_ble_eq_true rfl) ?_
        refine A.v rfl (V.cvBs ty9 rfl rfl ?_)
        refine So.gy rfl rfl (Nat.le_of_ble_eq_true rfl) (Nat.le_of_ble_eq_true rfl) ?_
        refine A.v rfl (V.faPtr ty28 rfl ty22 (Nat.le_of_ble_eq_true rfl) rfl rfl (by first | exact Nat.le_of_ble_eq_true rfl | first | rfl | omega | (simp; done) | (simp; omega)) ?_)
        refine So.gy rfl rfl (Nat.le_of_ble_eq_true rfl) (Nat.le_of_ble_eq_true rfl) ?_
        refine A.v rfl (V.ldPtr ty22 rfl rfl rfl (by first | rfl | omega | (simp; done) | (simp; omega)) (v := .p (.bs _)) rfl ?_)
        refine So.gy rfl rfl (Nat.le_of_ble_eq_true rfl) (Nat.le_of_ble_eq_true rfl) ?_
        refine A.v rfl (V.cvBs ty9 rfl rfl ?_)
        refine So.gy rfl rfl (Nat.le_of_ble_eq_true rfl) (Nat.le_of_ble_eq_true rfl) ?_
        refine A.v rfl (V.bin (a := (.str _)) (b := (.str _)) (r := .v (.bool _)) rfl rfl rfl trivial ?_)
        refine So.n (Nat.le_of_ble_eq_true rfl) (A.v rfl (V.pkTrue (u := .p (.v (.bool _))) rfl rfl ?_))
        refine So.n (Nat.le_of_ble_eq_true rfl) (A.v rfl (V.as (v := .p (.v (.bool _))) rfl ?_))
        refine So.e ?_
        show HT _ _ _ _ _
        refine HT.seq ?_
        refine HT.region S_rsameE_ok ?_
        refine So.n (Nat.le_of_ble_eq_true rfl) (A.v rfl (V.mv (v := .p (.v (.bool _))) rfl ?_))
        refine So.n (Nat.le_of_ble_eq_true rfl) (A.v rfl (V.mv (v := .p (.v (.bool _))) rfl ?_))
        refine So.gd rfl rfl (Nat.le_of_ble_eq_true rfl) (Nat.le_of_ble_eq_true rfl) (fun h4 => ?_) (fun h4 => ?_)
        · have h4 := of_decide_eq_true h4
          refine A.v rfl (V.faPtr ty28 rfl ty22 (Nat.le_of_ble_eq_true rfl) rfl rfl (by first | exact Nat.le_of_ble_eq_true rfl | first | rfl | omega | (simp; done) | (simp; omega)) ?_)
          refine So.gy rfl rfl (Nat.le_of_ble_eq_true rfl) (Nat.le_of_ble_eq_true rfl) ?_
          refine A.v rfl (V.ldPtr ty22 rfl rfl rfl (by first | rfl | omega | (simp; done) | (simp; omega)) (v := .p (.bs _)) rfl ?_)
          refine So.gy rfl rfl (Nat.le_of_ble_eq_true rfl) (Nat.le_of_ble_eq_true rfl) ?_
          refine A.v rfl (V.cvBs ty9 rfl rfl ?_)
          refine So.gy rfl rfl (Nat.le_of_ble_eq_true rfl) (Nat.le_of_ble_eq_true rfl) ?_
          refine A.v rfl (V.faPtr ty28 rfl ty22 (Nat.le_of_ble_eq_true rfl) rfl rfl (by first | exact Nat.le_of_ble_eq_true rfl | first | rfl | omega | (simp; done) | (simp; omega)) ?_)
          refine So.gy rfl rfl (Nat.le_of_ble_eq_true rfl) (Nat.le_of_ble_eq_true rfl) ?_
          refine A.v rfl (V.ldPtr ty22 rfl rfl rfl (by first | rfl | omega | (simp; done) | (simp; omega)) (v := .p (.bs _)) rfl ?_)
          refine So.gy rfl rfl (Nat.le_of_ble_eq_true rfl) (Nat.le_of_ble_eq_true rfl) ?_
          refine A.v rfl (V.cvBs ty9 rfl rfl ?_)
          refine So.gy rfl rfl (Nat.le_of_ble_eq_true rfl) (Nat.le_of_ble_eq_true rfl) ?_
          refine A.v rfl (V.bin (a := (.str _)) (b := (.str _)) (r := .v (.bool _)) rfl rfl rfl trivial ?_)
          refine So.n (Nat.le_of_ble_eq_true rfl) (A.v rfl (V.pkTrue (u := .p (.v (.bool _))) rfl rfl ?_))
          refine So.n (Nat.le_of_ble_eq_true rfl) (A.v rfl (V.mv (v := .p (.v (.bool _))) rfl ?_))
          refine So.gd rfl rfl (Nat.le_of_ble_eq_true rfl) (Nat.le_of_ble_eq_true rfl) (fun h5 => ?_) (fun h5 => ?_)
          · have h5 := of_decide_eq_true h5
            refine A.v rfl (V.faPtr ty28 rfl ty22 (Nat.le_of_ble_eq_true rfl) rfl rfl (by first | exact Nat.le_of_ble_eq_true rfl | first | rfl | omega | (simp; done) | (simp; omega)) ?_)
            refine So.gy rfl rfl (Nat.le_of_ble_eq_true rfl) (Nat.le_of_ble_eq_true rfl) ?_
            refine A.v rfl (V.ldPtr ty22 rfl rfl rfl (by first | rfl | omega | (simp; done) | (simp; omega)) (v := .p (.bs _)) rfl ?_)
            refine So.gy rfl rfl (Nat.le_of_ble_eq_true rfl) (Nat.le_of_ble_eq_true rfl) ?_
            refine A.v rfl (V.cvBs ty9 rfl rfl ?_)
            refine So.gy rfl rfl (Nat.le_of_ble_eq_true rfl) (Nat.le_of_ble_eq_true rfl) ?_
            refine A.v rfl (V.faPtr ty28 rfl ty22 (Nat.le_of_ble_eq_true rfl) rfl rfl (by first | exact Nat.le_of_ble_eq_true rfl | first | rfl | omega | (simp; done) | (simp; omega)) ?_)
            refine So.gy rfl rfl (Nat.le_of_ble_eq_true rfl) (Nat.le_of_ble_eq_true rfl) ?_
            refine A.v rfl (V.ldPtr ty22 rfl rfl rfl (by first | rfl | omega | (simp; done) | (simp; omega)) (v := .p (.bs _)) rfl ?_)
            refine So.gy rfl rfl (Nat.le_of_ble_eq_true rfl) (Nat.le_of_ble_eq_true rfl) ?_
            refine A.v rfl (V.cvBs ty9 rfl rfl ?_)
            refine So.gy rfl rfl (Nat.le_of_ble_eq_true rfl) (Nat.le_of_ble_eq_true rfl) ?_
            refine A.v rfl (V.bin (a := (.str _)) (b := (.str _)) (r := .v (.bool _)) rfl rfl rfl trivial ?_)
            refine So.n (Nat.le_of_ble_eq_true rfl) (A.v rfl (V.pkTrue (u := .p (.v (.bool _))) rfl rfl ?_))
            refine So.n (Nat.le_of_ble_eq_true rfl) (A.v rfl (V.mv (v := .p (.v (.bool _))) rfl ?_))
            refine So.gd rfl rfl (Nat.le_of_ble_eq_true rfl) (Nat.le_of_ble_eq_true rfl) (fun h6 => ?_) (fun h6 => ?_)
            · have h6 := of_decide_eq_true h6
              refine A.v rfl (V.faPtr ty28 rfl ty22 (Nat.le_of_ble_eq_true rfl) rfl rfl (by first | exact Nat.le_of_ble_eq_true rfl | first | rfl | omega | (simp; done) | (simp; omega)) ?_)
              refine So.gy rfl rfl (Nat.le_of_ble_eq_true rfl) (Nat.le_of_ble_eq_true rfl) ?_
              refine A.v rfl (V.ldPtr ty22 rfl rfl rfl (by first | rfl | omega | (simp; done) | (simp; omega)) (v := .p (.bs _)) rfl ?_)
              refine So.gy rfl rfl (Nat.le_of_ble_eq_true rfl) (Nat.le_of_ble_eq_true rfl) ?_
              refine A.v rfl (V.cvBs ty9 rfl rfl ?_)
              refine So.gy rfl rfl (Nat.le_of_ble_eq_true rfl) (Nat.le_of_ble_eq_true rfl) ?_
              refine A.v rfl (V.faPtr ty28 rfl ty22 (Nat.le_of_ble_eq_true rfl) rfl rfl (by first | exact Nat.le_of_ble_eq_true rfl | first | rfl | omega | (simp; done) | (simp; omega)) ?_)
              refine So.gy rfl rfl (Nat.le_of_ble_eq_true rfl) (Nat.le_of_ble_eq_true rfl) ?_
              refine A.v rfl (V.ldPtr ty22 rfl rfl rfl (by first | rfl | omega | (simp; done) | (simp; omega)) (v := .p (.bs _)) rfl ?_)
              refine So.gy rfl rfl (Nat.le_of_ble_eq_true rfl) (Nat.le_of_ble_eq_true rfl) ?_
              refine A.v rfl (V.cvBs ty9 rfl rfl ?_)
              refine So.gy rfl rfl (Nat.le_of_ble_eq_true rfl) (Nat.le_of_ble_eq_true rfl) ?_
              refine A.v rfl (V.bin (a := (.str _)) (b := (.str _)) (r := .v (.bool _)) rfl rfl rfl trivial ?_)
              refine So.n (Nat.le_of_ble_eq_true rfl) (A.v rfl (V.pkTrue (u := .p (.v (.bool _))) rfl rfl ?_))
              refine So.n (Nat.le_of_ble_eq_true rfl) (A.v rfl (V.as (v := .p (.v (.bool _))) rfl ?_))
              refine So.e ?_
              show HT _ _ _ _ _
              refine HT.ret ?_
              exact ret_ok (sg []) h rfl rfl rfl trivial ⟨trivial, trivial⟩ rfl ⟨⟨⟨le_bool (by first | exact sameE_no (k := 0) (by omega) (by assumption) | exact sameE_no (k := 1) (by omega) (by assumption) | exact sameE_no (k := 2) (by omega) (by assumption) | exact sameE_no (k := 3) (by omega) (by assumption) | exact sameE_no (k := 4) (by omega) (by assumption) | exact sameE_no (k := 5) (by omega) (by assumption) | exact sameE_all (by assumption) (by assumption) (by assumption) (by assumption) (by assumption) (by assumption)), trivial⟩, trivial⟩, trivial⟩
            · have h6 := of_decide_eq_false h6
              refine So.gn (b := false) rfl rfl rfl (Nat.le_of_ble_eq_true rfl) (Nat.le_of_ble_eq_true rfl) ?_
              refine So.gn (b := false) rfl rfl rfl (Nat.le_of_ble_eq_true rfl) (Nat.le_of_ble_eq_true rfl) ?_
              refine So.gn (b := false) rfl rfl rfl (Nat.le_of_ble_eq_true rfl) (Nat.le_of_ble_eq_true rfl) ?_
              refine So.gn (b := false) rfl rfl rfl (Nat.le_of_ble_eq_true rfl) (Nat.le_of_ble_eq_true rfl) ?_
              refine So.gn (b := false) rfl rfl rfl (Nat.le_of_ble_eq_true rfl) (Nat.le_of_ble_eq_true rfl) ?_
              refine So.gn (b := false) rfl rfl rfl (Nat.le_of_ble_eq_true rfl) (Nat.le_of_ble_eq_true rfl) ?_
              refine So.n (Nat.le_of_ble_eq_true rfl) (A.v rfl (V.pkFalse (u := .p (.v (.bool false))) rfl rfl ?_))
              refine So.n (Nat.le_of_ble_eq_true rfl) (A.v rfl (V.as (v := .p (.v (.bool false))) rfl ?_))
              refine So.e ?_
              show HT _ _ _ _ _
              refine HT.ret ?_
              exact ret_ok (sg []) h rfl rfl rfl trivial ⟨trivial, trivial⟩ rfl ⟨⟨⟨le_bool (by first | exact sameE_no (k := 0) (by omega) (by assumption) | exact sameE_no (k := 1) (by omega) (by assumption) | exact sameE_no (k := 2) (by omega) (by assumption) | exact sameE_no (k := 3) (by omega) (by assumption) | exact sameE_no (k := 4) (by omega) (by assumption) | exact sameE_no (k := 5) (by omega) (by assumption) | exact sameE_all (by assumption) (by assumption) (by assumption) (by assumption) (by assumption) (by assumption)), trivial⟩, trivial⟩, trivial⟩
          · have h5 := of_decide_eq_false h5
            refine So.gn (b := false) rfl rfl rfl (Nat.le_of_ble_eq_true rfl) (Nat.le_of_ble_eq_true rfl) ?_
            refine So.gn (b := false) rfl rfl rfl (Nat.le_of_ble_eq_true rfl) (Nat.le_of_ble_eq_true rfl) ?_
            refine So.gn (b := false) rfl rfl rfl (Nat.le_of_ble_eq_true rfl) (Nat.le_of_ble_eq_true rfl) ?_
            refine So.gn (b := false) rfl rfl rfl (Nat.le_of_ble_eq_true rfl) (Nat.le_of_ble_eq_true rfl) ?_
            refine So.gn (b := false) rfl rfl rfl (Nat.le_of_ble_eq_true rfl) (Nat.le_of_ble_eq_true rfl) ?_
            refine So.gn (b := false) rfl rfl rfl (Nat.le_of_ble_eq_true rfl) (Nat.le_of_ble_eq_true rfl) ?_
            refine So.n (Nat.le_of_ble_eq_true rfl) (A.v rfl (V.pkFalse (u := .p (.v (.bool false))) rfl rfl ?_))
            refine So.n (Nat.le_of_ble_eq_true rfl) (A.v rfl (V.mv (v := .p (.v (.bool false))) rfl ?_))
            refine So.gn (b := false) rfl rfl rfl (Nat.le_of_ble_eq_true rfl) (Nat.le_of_ble_eq_true rfl) ?_
            refine So.gn (b := false) rfl rfl rfl (Nat.le_of_ble_eq_true rfl) (Nat.le_of_ble_eq_true rfl) ?_
            refine So.gn (b := false) rfl rfl rfl (Nat.le_of_ble_eq_true rfl) (Nat.le_of_ble_eq_true rfl) ?_
            refine So.gn (b := false) rfl rfl rfl (Nat.le_of_ble_eq_true rfl) (Nat.le_of_ble_eq_true rfl) ?_
            refine So.gn (b := false) rfl rfl rfl (Nat.le_of_ble_eq_true rfl) (Nat.le_of_ble_eq_true rfl) ?_
            refine So.gn (b := false) rfl rfl rfl (Nat.le_of_ble_eq_true rfl) (Nat.le_of_ble_eq_true rfl) ?_
            refine So.gn (b := false) rfl rfl rfl (Nat.le_of_ble_eq_true rfl) (Nat.le_of_ble_eq_true rfl) ?_
            refine So.n (Nat.le_of_ble_eq_true rfl) (A.v rfl (V.pkFalse (u := .p (.v (.bool false))) rfl rfl ?_))
            refine So.n (Nat.le_of_ble_eq_true rfl) (A.v rfl (V.as (v := .p (.v (.bool false))) rfl ?_))
            refine So.e ?_
            show HT _ _ _ _ _
            refine HT.ret ?_
            exact ret_ok (sg []) h rfl rfl rfl trivial ⟨trivial, trivial⟩ rfl ⟨⟨⟨le_bool (by first | exact sameE_no (k := 0) (by omega) (by assumption) | exact sameE_no (k := 1) (by omega) (by assumption) | exact sameE_no (k := 2) (by omega) (by assumption) | exact sameE_no (k := 3) (by omega) (by assumption) | exact sameE_no (k := 4) (by omega) (by assumption) | exact sameE_no (k := 5) (by omega) (by assumption) | exact sameE_all (by assumption) (by assumption) (by assumption) (by assumption) (by assumption) (by assumption)), trivial⟩, trivial⟩, trivial⟩
        · have h4 := of_decide_eq_false h4
          refine So.gn (b := false) rfl rfl rfl (Nat.le_of_ble_eq_true rfl) (Nat.le_of_ble_eq_true rfl) ?_
          refine So.gn (b := false) rfl rfl rfl (Nat.le_of_ble_eq_true rfl) (Nat.le_of_ble_eq_true rfl) ?_
          refine So.gn (b := false) rfl rfl rfl (Nat.le_of_ble_eq_true rfl) (Nat.le_of_ble_eq_true rfl) ?_
          refine So.gn (b := false) rfl rfl rfl (Nat.le_of_ble_eq_true rfl) (Nat.le_of_ble_eq_true rfl) ?_
          refine So.gn (b := false) rfl rfl rfl (Nat.le_of_ble_eq_true rfl) (Nat.le_of_ble_eq_true rfl) ?_
          refine So.gn (b := false) rfl rfl rfl (Nat.le_of_ble_eq_true rfl) (Nat.le_of_ble_eq_true rfl) ?_
          refine So.n (Nat.le_of_ble_eq_true rfl) (A.v rfl (V.pkFalse (u := .p (.v (.bool false))) rfl rfl ?_))
          refine So.n (Nat.le_of_ble_eq_true rfl) (A.v rfl (V.mv (v := .p (.v (.bool false))) rfl ?_))
          refine So.gn (b := false) rfl rfl rfl (Nat.le_of_ble_eq_true rfl) (Nat.le_of_ble_eq_true rfl) ?_
          refine So.gn (b := false) rfl rfl rfl (Nat.le_of_ble_eq_true rfl) (Nat.le_of_ble_eq_true rfl) ?_
          refine So.gn (b := false) rfl rfl rfl (Nat.le_of_ble_eq_true rfl) (Nat.le_of_ble_eq_true rfl) ?_
          refine So.gn (b := false) rfl rfl rfl (Nat.le_of_ble_eq_true rfl) (Nat.le_of_ble_eq_true rfl) ?_
          refine So.gn (b := false) rfl rfl rfl (Nat.le_of_ble_eq_true rfl) (Nat.le_of_ble_eq_true rfl) ?_
          refine So.gn (b := false) rfl rfl rfl (Nat.le_of_ble_eq_true rfl) (Nat.le_of_ble_eq_true rfl) ?_
          refine So.gn (b := false) rfl rfl rfl (Nat.le_of_ble_eq_true rfl) (Nat.le_of_ble_eq_true rfl) ?_
          refine So.n (Nat.le_of_ble_eq_true rfl) (A.v rfl (V.pkFalse (u := .p (.v (.bool false))) rfl rfl ?_))
          refine So.n (Nat.le_of_ble_eq_true rfl) (A.v rfl (V.mv (v := .p (.v (.bool false))) rfl ?_))
          refine So.gn (b := false) rfl rfl rfl (Nat.le_of_ble_eq_true rfl) (Nat.le_of_ble_eq_true rfl) ?_
          refine So.gn (b := false) rfl rfl rfl (Nat.le_of_ble_eq_true rfl) (Nat.le_of_ble_eq_true rfl) ?_
          refine So.gn (b := false) rfl rfl rfl (Nat.le_of_ble_eq_true rfl) (Nat.le_of_ble_eq_true rfl) ?_
          refine So.gn (b := false) rfl rfl rfl (Nat.le_of_ble_eq_true rfl) (Nat.le_of_ble_eq_true rfl) ?_
          refine So.gn (b := false) rfl rfl rfl (Nat.le_of_ble_eq_true rfl) (Nat.le_of_ble_eq_true rfl) ?_
          refine So.gn (b := false) rfl rfl rfl (Nat.le_of_ble_eq_true rfl) (Nat.le_of_ble_eq_true rfl) ?_
          refine So.gn (b := false) rfl rfl rfl (Nat.le_of_ble_eq_true rfl) (Nat.le_of_ble_eq_true rfl) ?_
          refine So.n (Nat.le_of_ble_eq_true rfl) (A.v rfl (V.pkFalse (u := .p (.v (.bool false))) rfl rfl ?_))
          refine So.n (Nat.le_of_ble_eq_true rfl) (A.v rfl (V.as (v := .p (.v (.bool false))) rfl ?_))
          refine So.e ?_
          show HT _ _ _ _ _
          refine HT.ret ?_
          exact ret_ok (sg []) h rfl rfl rfl trivial ⟨trivial, trivial⟩ rfl ⟨⟨⟨le_bool (by first | exact sameE_no (k := 0) (by omega) (by assumption) | exact sameE_no (k := 1) (by omega) (by assumption) | exact sameE_no (k := 2) (by omega) (by assumption) | exact sameE_no (k := 3) (by omega) (by assumption) | exact sameE_no (k := 4) (by omega) (by assumption) | exact sameE_no (k := 5) (by omega) (by assumption) | exact sameE_all (by assumption) (by assumption) (by assumption) (by assumption) (by assumption) (by assumption)), trivial⟩, trivial⟩, trivial⟩
      · have h3 := of_decide_eq_false h3
        refine So.gn (b := false) rfl rfl rfl (Nat.le_of_ble_eq_true rfl) (Nat.le_of_ble_eq_true rfl) ?_
        refine So.gn (b := false) rfl rfl rfl (Nat.le_of_ble_eq_true rfl) (Nat.le_of_ble_eq_true rfl) ?_
        refine So.gn (b := false) rfl rfl rfl (Nat.le_of_ble_eq_true rfl) (Nat.le_of_ble_eq_true rfl) ?_
        refine So.gn (b := false) rfl rfl rfl (Nat.le_of_ble_eq_true rfl) (Nat.le_of_ble_eq_true rfl) ?_
        refine So.gn (b := false) rfl rfl rfl (Nat.le_of_ble_eq_true rfl) (Nat.le_of_ble_eq_true rfl) ?_
        refine So.gn (b := false) rfl rfl rfl (Nat.le_of_ble_eq_true rfl) (Nat.le_of_ble_eq_true rfl) ?_
        refine So.n (Nat.le_of_ble_eq_true rfl) (A.v rfl (V.pkFalse (u := .p (.v (.bool false))) rfl rfl ?_))
        refine So.n (Nat.le_of_ble_eq_true rfl) (A.v rfl (V.as (v := .p (.v (.bool false))) rfl ?_))
        refine So.e ?_
        show HT _ _ _ _ _
        refine HT.seq ?_
        refine HT.region S_rsameE_ok ?_
        refine So.n (Nat.le_of_ble_eq_true rfl) (A.v rfl (V.mv (v := .p (.v (.bool false))) rfl ?_))
        refine So.n (Nat.le_of_ble_eq_true rfl) (A.v rfl (V.mv (v := .p (.v (.bool false))) rfl ?_))
        refine So.gn (b := false) rfl rfl rfl (Nat.le_of_ble_eq_true rfl) (Nat.le_of_ble_eq_true rfl) ?_
        refine So.gn (b := false) rfl rfl rfl (Nat.le_of_ble_eq_true rfl) (Nat.le_of_ble_eq_true rfl) ?_
        refine So.gn (b := false) rfl rfl rfl (Nat.le_of_ble_eq_true rfl) (Nat.le_of_ble_eq_true rfl) ?_
        refine So.gn (b := false) rfl rfl rfl (Nat.le_of_ble_eq_true rfl) (Nat.le_of_ble_eq_true rfl) ?_
        refine So.gn (b := false) rfl rfl rfl (Nat.le_of_ble_eq_true rfl) (Nat.le_of_ble_eq_true rfl) ?_
        refine So.gn (b := false) rfl rfl rfl (Nat.le_of_ble_eq_true rfl) (Nat.le_of_ble_eq_true rfl) ?_
        refine So.gn (b := false) rfl rfl rfl (Nat.le_of_ble_eq_true rfl) (Nat.le_of_ble_eq_true rfl) ?_
        refine So.n (Nat.le_of_ble_eq_true rfl) (A.v rfl (V.pkFalse (u := .p (.v (.bool false))) rfl rfl ?_))
        refine So.n (Nat.le_of_ble_eq_true rfl) (A.v rfl (V.mv (v := .p (.v (.bool false))) rfl ?_))
        refine So.gn (b := false) rfl rfl rfl (Nat.le_of_ble_eq_true rfl) (Nat.le_of_ble_eq_true rfl) ?_
        refine So.gn (b := false) rfl rfl rfl (Nat.le_of_ble_eq_true rfl) (Nat.le_of_ble_eq_true rfl) ?_
        refine So.gn (b := false) rfl rfl rfl (Nat.le_of_ble_eq_true rfl) (Nat.le_of_ble_eq_true rfl) ?_
        refine So.gn (b := false) rfl rfl rfl (Nat.le_of_ble_eq_true rfl) (Nat.le_of_ble_eq_true rfl) ?_
        refine So.gn (b := false) rfl rfl rfl (Nat.le_of_ble_eq_true rfl) (Nat.le_of_ble_eq_true rfl) ?_
        refine So.gn (b := false) rfl rfl rfl (Nat.le_of_ble_eq_true rfl) (Nat.le_of_ble_eq_true rfl) ?_
        refine So.gn (b := false) rfl rfl rfl (Nat.le_of_ble_eq_true rfl) (Nat.le_of_ble_eq_true rfl) ?_
        refine So.n (Nat.le_of_ble_eq_true rfl) (A.v rfl (V.pkFalse (u := .p (.v (.bool false))) rfl rfl ?_))
        refine So.n (Nat.le_of_ble_eq_true rfl) (A.v rfl (V.mv (v := .p (.v (.bool false))) rfl ?_))
        refine So.gn (b := false) rfl rfl rfl (Nat.le_of_ble_eq_true rfl) (Nat.le_of_ble_eq_true rfl) ?_
        refine So.gn (b := false) rfl rfl rfl (Nat.le_of_ble_eq_true rfl) (Nat.le_of_ble_eq_true rfl) ?_
        refine So.gn (b := false) rfl rfl rfl (Nat.le_of_ble_eq_true rfl) (Nat.le_of_ble_eq_true rfl) ?_
        refine So.gn (b := false) rfl rfl rfl (Nat.le_of_ble_eq_true rfl) (Nat.le_of_ble_eq_true rfl) ?_
        refine So.gn (b := false) rfl rfl rfl (Nat.le_of_ble_eq_true rfl) (Nat.le_of_ble_eq_true rfl) ?_
        refine So.gn (b := false) rfl rfl rfl (Nat.le_of_ble_eq_true rfl) (Nat.le_of_ble_eq_true rfl) ?_
        refine So.gn (b := false) rfl rfl rfl (Nat.le_of_ble_eq_true rfl) (Nat.le_of_ble_eq_true rfl) ?_
        refine So.n (Nat.le_of_ble_eq_true rfl) (A.v rfl (V.pkFalse (u := .p (.v (.bool false))) rfl rfl ?_))
        refine So.n (Nat.le_of_ble_eq_true rfl) (A.v rfl (V.as (v := .p (.v (.bool false))) rfl ?_))
        refine So.e ?_
        show HT _ _ _ _ _
        refine HT.ret ?_
        exact ret_ok (sg []) h rfl rfl rfl trivial ⟨trivial, trivial⟩ rfl ⟨⟨⟨le_bool (by first | exact sameE_no (k := 0) (by omega) (by assumption) | exact sameE_no (k := 1) (by omega) (by assumption) | exact sameE_no (k := 2) (by omega) (by assumption) | exact sameE_no (k := 3) (by omega) (by assumption) | exact sameE_no (k := 4) (by omega) (by assumption) | exact sameE_no (k := 5) (by omega) (by assumption) | exact sameE_all (by assumption) (by assumption) (by assumption) (by assumption) (by assumption) (by assumption)), trivial⟩, trivial⟩, trivial⟩
    · have h2 := of_decide_eq_false h2
      refine So.gn (b := false) rfl rfl rfl (Nat.le_of_ble_eq_true rfl) (Nat.le_of_ble_eq_true rfl) ?_
      refine So.gn (b := false) rfl rfl rfl (Nat.le_of_ble_eq_true rfl) (Nat.le_of_ble_eq_true rfl) ?_
      refine So.gn (b := false) rfl rfl rfl (Nat.le_of_ble_eq_true rfl) (Nat.le_of_ble_eq_true rfl) ?_
      refine So.gn (b := false) rfl rfl rfl (Nat.le_of_ble_eq_true rfl) (Nat.le_of_ble_eq_true rfl) ?_
      refine So.gn (b := false) rfl rfl rfl (Nat.le_of_ble_eq_true rfl) (Nat.le_of_ble_eq_true rfl) ?_
      refine So.gn (b := false) rfl rfl rfl (Nat.le_of_ble_eq_true rfl) (Nat.le_of_ble_eq_true rfl) ?_
      refine So.n (Nat.le_of_ble_eq_true rfl) (A.v rfl (V.pkFalse (u := .p (.v (.bool false))) rfl rfl ?_))
      refine So.n (Nat.le_of_ble_eq_true rfl) (A.v rfl (V.mv (v := .p (.v (.bool false))) rfl ?_))
      refine So.gn (b := false) rfl rfl rfl (Nat.le_of_ble_eq_true rfl) (Nat.le_of_ble_eq_true rfl) ?_
      refine So.gn (b := false) rfl rfl rfl (Nat.le_of_ble_eq_true rfl) (Nat.le_of_ble_eq_true rfl) ?_
      refine So.gn (b := false) rfl rfl rfl (Nat.le_of_ble_eq_true rfl) (Nat.le_of_ble_eq_true rfl) ?_
      refine So.gn (b := false) rfl rfl rfl (Nat.le_of_ble_eq_true rfl) (Nat.le_of_ble_eq_true rfl) ?_
      refine So.gn (b := false) rfl rfl rfl (Nat.le_of_ble_eq_true rfl) (Nat.le_of_ble_eq_true rfl) ?_
      refine So.gn (b := false) rfl rfl rfl (Nat.le_of_ble_eq_true rfl) (Nat.le_of_ble_eq_true rfl) ?_
      refine So.gn (b := false) rfl rfl rfl (Nat.le_of_ble_eq_true rfl) (Nat.le_of_ble_eq_true rfl) ?_
      refine So.n (Nat.le_of_ble_eq_true rfl) (A.v rfl (V.pkFalse (u := .p (.v (.bool false))) rfl rfl ?_))
      refine So.n (Nat.le_of_ble_eq_true rfl) (A.v rfl (V.as (v := .p (.v (.bool false))) rfl ?_))
      refine So.e ?_
      show HT _ _ _ _ _
      refine HT.seq ?_
      refine HT.region S_rsameE_ok ?_
      refine So.n (Nat.le_of_ble_eq_true rfl) (A.v rfl (V.mv (v := .p (.v (.bool false))) rfl ?_))
      refine So.n (Nat.le_of_ble_eq_true rfl) (A.v rfl (V.mv (v := .p (.v (.bool false))) rfl ?_))
      refine So.gn (b := false) rfl rfl rfl (Nat.le_of_ble_eq_true rfl) (Nat.le_of_ble_eq_true rfl) ?_
      refine So.gn (b := false) rfl rfl rfl (Nat.le_of_ble_eq_true rfl) (Nat.le_of_ble_eq_true rfl) ?_
      refine So.gn (b := false) rfl rfl rfl (Nat.le_of_ble_eq_true rfl) (Nat.le_of_ble_eq_true rfl) ?_
      refine So.gn (b := false) rfl rfl rfl (Nat.le_of_ble_eq_true rfl) (Nat.le_of_ble_eq_true rfl) ?_
      refine So.gn (b := false) rfl rfl rfl (Nat.le_of_ble_eq_true rfl) (Nat.le_of_ble_eq_true rfl) ?_
      refine So.gn (b := false) rfl rfl rfl (Nat.le_of_ble_eq_true rfl) (Nat.le_of_ble_eq_true rfl) ?_
      refine So.gn (b := false) rfl rfl rfl (Nat.le_of_ble_eq_true rfl) (Nat.le_of_ble_eq_true rfl) ?_
      refine So.n (Nat.le_of_ble_eq_true rfl) (A.v rfl (V.pkFalse (u := .p (.v (.bool false))) rfl rfl ?_))
      refine So.n (Nat.le_of_ble_eq_true rfl) (A.v rfl (V.mv (v := .p (.v (.bool false))) rfl ?_))
      refine So.gn (b := false) rfl rfl rfl (Nat.le_of_ble_eq_true rfl) (Nat.le_of_ble_eq_true rfl) ?_
      refine So.gn (b := false) rfl rfl rfl (Nat.le_of_ble_eq_true rfl) (Nat.le_of_ble_eq_true rfl) ?_
      refine So.gn (b := false) rfl rfl rfl (Nat.le_of_ble_eq_true rfl) (Nat.le_of_ble_eq_true rfl) ?_
      refine So.gn (b := false) rfl rfl rfl (Nat.le_of_ble_eq_true rfl) (Nat.le_of_ble_eq_true rfl) ?_
      refine So.gn (b := false) rfl rfl rfl (Nat.le_of_ble_eq_true rfl) (Nat.le_of_ble_eq_true rfl) ?_
      refine So.gn (b := false) rfl rfl rfl (Nat.le_of_ble_eq_true rfl) (Nat.le_of_ble_eq_true rfl) ?_
      refine So.gn (b := false) rfl rfl rfl (Nat.le_of_ble_eq_true rfl) (Nat.le_of_ble_eq_true rfl) ?_
      refine So.n (Nat.le_of_ble_eq_true rfl) (A.v rfl (V.pkFalse (u := .p (.v (.bool false))) rfl rfl ?_))
      refine So.n (Nat.le_of_ble_eq_true rfl) (A.v rfl (V.mv (v := .p (.v (.bool false))) rfl ?_))
      refine So.gn (b := false) rfl rfl rfl (Nat.le_of_ble_eq_true rfl) (Nat.le_of_ble_eq_true rfl) ?_
      refine So.gn (b := false) rfl rfl rfl (Nat.le_of_ble_eq_true rfl) (Nat.le_of_ble_eq_true rfl) ?_
      refine So.gn (b := false) rfl rfl rfl (Nat.le_of_ble_eq_true rfl) (Nat.le_of_ble_eq_true rfl) ?_
      refine So.gn (b := false) rfl rfl rfl (Nat.le_of_ble_eq_true rfl) (Nat.le_of_ble_eq_true rfl) ?_
      refine So.gn (b := false) rfl rfl rfl (Nat.le_of_ble_eq_true rfl) (Nat.le_of_ble_eq_true rfl) ?_
      refine So.gn (b := false) rfl rfl rfl (Nat.le_of_ble_eq_true rfl) (Nat.le_of_ble_eq_true rfl) ?_
      refine So.gn (b := false) rfl rfl rfl (Nat.le_of_ble_eq_true rfl) (Nat.le_of_ble_eq_true rfl) ?_
      refine So.n (Nat.le_of_ble_eq_true rfl) (A.v rfl (V.pkFalse (u := .p (.v (.bool false))) rfl rfl ?_))
      refine So.n (Nat.le_of_ble_eq_true rfl) (A.v rfl (V.as (v := .p (.v (.bool false))) rfl ?_))
      refine So.e ?_
      show HT _ _ _ _ _
      refine HT.ret ?_
      exact ret_ok (sg []) h rfl rfl rfl trivial ⟨trivial, trivial⟩ rfl ⟨⟨⟨le_bool (by first | exact sameE_no (k := 0) (by omega) (by assumption) | exact sameE_no (k := 1) (by omega) (by assumption) | exact sameE_no (k := 2) (by omega) (by assumption) | exact sameE_no (k := 3) (by omega) (by assumption) | exact sameE_no (k := 4) (by omega) (by assumption) | exact sameE_no (k := 5) (by omega) (by assumption) | exact sameE_all (by assumption) (by assumption) (by assumption) (by assumption) (by assumption) (by assumption)), trivial⟩, trivial⟩, trivial⟩
  · have h1 := of_decide_eq_false h1
    refine So.gn (b := false) rfl rfl rfl (Nat.le_of_ble_eq_true rfl) (Nat.le_of_ble_eq_true rfl) ?_
    refine So.gn (b := false) rfl rfl rfl (Nat.le_of_ble_eq_true rfl) (Nat.le_of_ble_eq_true rfl) ?_
    refine So.gn (b := false) rfl rfl rfl (Nat.le_of_ble_eq_true rfl) (Nat.le_of_ble_eq_true rfl) ?_
    refine So.gn (b := false) rfl rfl rfl (Nat.le_of_ble_eq_true rfl) (Nat.le_of_ble_eq_true rfl) ?_
    refine So.gn (b := false) rfl rfl rfl (Nat.le_of_ble_eq_true rfl) (Nat.le_of_ble_eq_true rfl) ?_
    refine So.gn (b := false) rfl rfl rfl (Nat.le_of_ble_eq_true rfl) (Nat.le_of_ble_eq_true rfl) ?_
    refine So.n (Nat.le_of_ble_eq_true rfl) (A.v rfl (V.pkFalse (u := .p (.v (.bool false))) rfl rfl ?_))
    refine So.n (Nat.le_of_ble_eq_true rfl) (A.v rfl (V.mv (v := .p (.v (.bool false))) rfl ?_))
    refine So.gn (b := false) rfl rfl rfl (Nat.le_of_ble_eq_true rfl) (Nat.le_of_ble_eq_true rfl) ?_
    refine So.gn (b := false) rfl rfl rfl (Nat.le_of_ble_eq_true rfl) (Nat.le_of_ble_eq_true rfl) ?_
    refine So.gn (b := false) rfl rfl rfl (Nat.le_of_ble_eq_true rfl) (Nat.le_of_ble_eq_true rfl) ?_
    refine So.gn (b := false) rfl rfl rfl (Nat.le_of_ble_eq_true rfl) (Nat.le_of_ble_eq_true rfl) ?_
    refine So.gn (b := false) rfl rfl rfl (Nat.le_of_ble_eq_true rfl) (Nat.le_of_ble_eq_true rfl) ?_
    refine So.gn (b := false) rfl rfl rfl (Nat.le_of_ble_eq_true rfl) (Nat.le_of_ble_eq_true rfl) ?_
    refine So.gn (b := false) rfl rfl rfl (Nat.le_of_ble_eq_true rfl) (Nat.le_of_ble_eq_true rfl) ?_
    refine So.n (Nat.le_of_ble_eq_true rfl) (A.v rfl (V.pkFalse (u := .p (.v (.bool false))) rfl rfl ?_))
    refine So.n (Nat.le_of_ble_eq_true rfl) (A.v rfl (V.mv (v := .p (.v (.bool false))) rfl ?_))
    refine So.gn (b := false) rfl rfl rfl (Nat.le_of_ble_eq_true rfl) (Nat.le_of_ble_eq_true rfl) ?_
    refine So.gn (b := false) rfl rfl rfl (Nat.le_of_ble_eq_true rfl) (Nat.le_of_ble_eq_true rfl) ?_
    refine So.gn (b := false) rfl rfl rfl (Nat.le_of_ble_eq_true rfl) (Nat.le_of_ble_eq_true rfl) ?_
    refine So.gn (b := false) rfl rfl rfl (Nat.le_of_ble_eq_true rfl) (Nat.le_of_ble_eq_true rfl) ?_
    refine So.gn (b := false) rfl rfl rfl (Nat.le_of_ble_eq_true rfl) (Nat.le_of_ble_eq_true rfl) ?_
    refine So.gn (b := false) rfl rfl rfl (Nat.le_of_ble_eq_true rfl) (Nat.le_of_ble_eq_true rfl) ?_
    refine So.gn (b := false) rfl rfl rfl (Nat.le_of_ble_eq_true rfl) (Nat.le_of_ble_eq_true rfl) ?_
    refine So.n (Nat.le_of_ble_eq_true rfl) (A.v rfl (V.pkFalse (u := .p (.v (.bool false))) rfl rfl ?_))
    refine So.n (Nat.le_of_ble_eq_true rfl) (A.v rfl (V.as (v := .p (.v (.bool false))) rfl ?_))
    refine So.e ?_
    show HT _ _ _ _ _
    refine HT.seq ?_
    refine HT.region S_rsameE_ok ?_
    refine So.n (Nat.le_of_ble_eq_true rfl) (A.v rfl (V.mv (v := .p (.v (.bool false))) rfl ?_))
    refine So.n (Nat.le_of_ble_eq_true rfl) (A.v rfl (V.mv (v := .p (.v (.bool false))) rfl ?_))
    refine So.gn (b := false) rfl rfl rfl (Nat.le_of_ble_eq_true rfl) (Nat.le_of_ble_eq_true rfl) ?_
    refine So.gn (b := false) rfl rfl rfl (Nat.le_of_ble_eq_true rfl) (Nat.le_of_ble_eq_true rfl) ?_
    refine So.gn (b := false) rfl rfl rfl (Nat.le_of_ble_eq_true rfl) (Nat.le_of_ble_eq_true rfl) ?_
    refine So.gn (b := false) rfl rfl rfl (Nat.le_of_ble_eq_true rfl) (Nat.le_of_ble_eq_true rfl) ?_
    refine So.gn (b := false) rfl rfl rfl (Nat.le_of_ble_eq_true rfl) (Nat.le_of_ble_eq_true rfl) ?_
    refine So.gn (b := false) rfl rfl rfl (Nat.le_of_ble_eq_true rfl) (Nat.le_of_ble_eq_true rfl) ?_
    refine So.gn (b := false) rfl rfl rfl (Nat.le_of_ble_eq_true rfl) (Nat.le_of_ble_eq_true rfl) ?_
    refine So.n (Nat.le_of_ble_eq_true rfl) (A.v rfl (V.pkFalse (u := .p (.v (.bool false))) rfl rfl ?_))
    refine So.n (Nat.le_of_ble_eq_true rfl) (A.v rfl (V.mv (v := .p (.v (.bool false))) rfl ?_))
    refine So.gn (b := false) rfl rfl rfl (Nat.le_of_ble_eq_true rfl) (Nat.le_of_ble_eq_true rfl) ?_
    refine So.gn (b := false) rfl rfl rfl (Nat.le_of_ble_eq_true rfl) (Nat.le_of_ble_eq_true rfl) ?_
    refine So.gn (b := false) rfl rfl rfl (Nat.le_of_ble_eq_true rfl) (Nat.le_of_ble_eq_true rfl) ?_
    refine So.gn (b := false) rfl rfl rfl (Nat.le_of_ble_eq_true rfl) (Nat.le_of_ble_eq_true rfl) ?_
    refine So.gn (b := false) rfl rfl rfl (Nat.le_of_ble_eq_true rfl) (Nat.le_of_ble_eq_true rfl) ?_
    refine So.gn (b := false) rfl rfl rfl (Nat.le_of_ble_eq_true rfl) (Nat.le_of_ble_eq_true rfl) ?_
    refine So.gn (b := false) rfl rfl rfl (Nat.le_of_ble_eq_true rfl) (Nat.le_of_ble_eq_true rfl) ?_
    refine So.n (Nat.le_of_ble_eq_true rfl) (A.v rfl (V.pkFalse (u := .p (.v (.bool false))) rfl rfl ?_))
    refine So.n (Nat.le_of_ble_eq_true rfl) (A.v rfl (V.mv (v := .p (.v (.bool false))) rfl ?_))
    refine So.gn (b := false) rfl rfl rfl (Nat.le_of_ble_eq_true rfl) (Nat.le_of_ble_eq_true rfl) ?_
    refine So.gn (b := false) rfl rfl rfl (Nat.le_of_ble_eq_true rfl) (Nat.le_of_ble_eq_true rfl) ?_
    refine So.gn (b := false) rfl rfl rfl (Nat.le_of_ble_eq_true rfl) (Nat.le_of_ble_eq_true rfl) ?_
    refine So.gn (b := false) rfl rfl rfl (Nat.le_of_ble_eq_true rfl) (Nat.le_of_ble_eq_true rfl) ?_
    refine So.gn (b := false) rfl rfl rfl (Nat.le_of_ble_eq_true rfl) (Nat.le_of_ble_eq_true rfl) ?_
    refine So.gn (b := false) rfl rfl rfl (Nat.le_of_ble_eq_true rfl) (Nat.le_of_ble_eq_true rfl) ?_
    refine So.gn (b := false) rfl rfl rfl (Nat.le_of_ble_eq_true rfl) (Nat.le_of_ble_eq_true rfl) ?_
    refine So.n (Nat.le_of_ble_eq_true rfl) (A.v rfl (V.pkFalse (u := .p (.v (.bool false))) rfl rfl ?_))
    refine So.n (Nat.le_of_ble_eq_true rfl) (A.v rfl (V.as (v := .p (.v (.bool false))) rfl ?_))
    refine So.e ?_
    show HT _ _ _ _ _
    refine HT.ret ?_
    exact ret_ok (sg []) h rfl rfl rfl trivial ⟨trivial, trivial⟩ rfl ⟨⟨⟨le_bool (by first | exact sameE_no (k := 0) (by omega) (by assumption) | exact sameE_no (k := 1) (by omega) (by assumption) | exact sameE_no (k := 2) (by omega) (by assumption) | exact sameE_no (k := 3) (by omega) (by assumption) | exact sameE_no (k := 4) (by omega) (by assumption) | exact sameE_no (k := 5) (by omega) (by assumption) | exact sameE_all (by assumption) (by assumption) (by assumption) (by assumption) (by assumption) (by assumption)), trivial⟩, trivial⟩, trivial⟩

end Go.Vh

set_option linter.unusedVariables false
set_option linter.unusedSimpArgs false
namespace Go.Vh
open Go Go.Vc Go.Proofs Go.Vw

/-! ### sodality/sodalitylaw16.SchedLong -/
def lawLongSp : Sp := ⟨[], mkE (α := UInt8 × UInt8 × (List UInt8)) (fun (n, b, o) => [.p (.u8 (n)), .p (.u8 (b)), .p (.bs (o))]) (fun (n, b, o) => []) (fun (n, b, o) => True) (fun (n, b, o) => [.p (.v (.bool true))]) (fun (n, b, o) => [])⟩
def S_lawLong : FuncId → Option Sp := fun f => if f = 8 then some headSp else if f = 9 then some greatSp else if f = 22 then some shasumSp else if f = 10 then some joinerSp else if f = 13 then some deriveSp else if f = 12 then some rsameESp else if f = 15 then some confirmedSp else if f = 17 then some interimSp else none
theorem S_lawLong_ok : ∀ f s, S_lawLong f = some s → FOK Tryd.prog gl f s := fun f s h => by
  unfold S_lawLong at h
  split at h
  · rename_i e; cases h; subst e; exact head_ok
  split at h
  · rename_i e; cases h; subst e; exact great_ok
  split at h
  · rename_i e; cases h; subst e; exact shasum_ok
  split at h
  · rename_i e; cases h; subst e; exact joiner_ok
  split at h
  · rename_i e; cases h; subst e; exact derive_ok
  split at h
  · rename_i e; cases h; subst e; exact rsameE_ok
  split at h
  · rename_i e; cases h; subst e; exact confirmed_ok
  split at h
  · rename_i e; cases h; subst e; exact interim_ok
  cases h
theorem S_lawLong_det : ∀ f s, S_lawLong f = some s → SpDet s.sp := fun f s h => by
  unfold S_lawLong at h
  split at h
  · cases h; exact mkE_det _ _ _ _ _
  split at h
  · cases h; exact mkE_det _ _ _ _ _
  split at h
  · cases h; exact mkE_det _ _ _ _ _
  split at h
  · cases h; exact mkE_det _ _ _ _ _
  split at h
  · cases h; exact mkE_det _ _ _ _ _
  split at h
  · cases h; exact mkE_det _ _ _ _ _
  split at h
  · cases h; exact mkE_det _ _ _ _ _
  split at h
  · cases h; exact mkE_det _ _ _ _ _
  cases h
set_option maxHeartbeats 1000000 in
set_option maxRecDepth 20000 in
theorem lawLong_ok : FOK Tryd.prog gl 7 lawLongSp := by
  refine FOK.ofE (tyOf_ok Tryd.prog) (slots := [6]) (nt := 70) Tryd.func7 rfl rfl rfl rfl (by decide) 3 (fun ⟨_, _, _⟩ => rfl) (by decide) (fun ⟨_, _, _⟩ => ⟨trivial, trivial, trivial, trivial⟩) ?_
  rintro ⟨n, b, o⟩ kk hlen hpre h
  have hl2 : (o).length ≤ 9223372036854775807 := hlen.2.2.1
  replace hpre : True := hpre
  show HT (cx Tryd.prog 70 (tyOf Tryd.prog) gl []) _ [(0, .p (.u8 (n))), (1, .p (.u8 (b))), (2, .p (.bs (o)))] [] _
  have hn0 := n.toNat_lt
  have hll := lgF_len n b
  have hsl := sha_len (lgF n b)
  refine HT.seq ?_
  refine HT.region S_lawLong_ok ?_
  refine So.n (Nat.le_of_ble_eq_true rfl) (A.v rfl (V.as (v := .p (.v (.bool false))) rfl ?_))
  refine So.e ?_
  show HT _ _ _ _ _
  refine HT.seq ?_
  refine HT.region S_lawLong_ok ?_
  refine So.n (Nat.le_of_ble_eq_true rfl) (A.call0 [] 1 rfl rfl rfl rfl trivial trivial () trivial trivial (by trivial) (Φ := fun _ => True) (fun _ _ => trivial) (.inl rfl) (v := .p (.v (.bool true))) rfl (O' := _) rfl (fun h1 => ?_))
  refine So.n (Nat.le_of_ble_eq_true rfl) (A.v rfl (V.as (v := .p (.v (.bool true))) rfl ?_))
  refine So.e ?_
  show HT _ _ _ _ _
  refine HT.seq ?_
  refine HT.seq ?_
  refine HT.region S_lawLong_ok ?_
  refine So.n (Nat.le_of_ble_eq_true rfl) (A.v rfl (V.mv (v := .p (.bs _)) rfl ?_))
  refine So.n (Nat.le_of_ble_eq_true rfl) (A.call0 [.p (.bs _)] 1 rfl rfl rfl rfl ⟨trivial, trivial⟩ trivial _ ⟨.refl _, trivial⟩ trivial (by trivial) (Φ := fun _ => True) (fun _ _ => trivial) (.inl rfl) (v := .p (.v (.bool _))) rfl (O' := _) rfl (fun h2 => ?_))
  refine So.e ?_
  show HT _ _ _ _ _
  refine R.cond rfl rfl (fun h3 => ?_) (fun h3 => ?_)
  · have h3 := of_decide_eq_true h3
    refine HT.seq ?_
    refine HT.region S_lawLong_ok ?_
    refine So.n (Nat.le_of_ble_eq_true rfl) (A.v rfl (V.mv (v := .p (.v (.bool true))) rfl ?_))
    refine So.n (Nat.le_of_ble_eq_true rfl) (A.v rfl (V.as (v := .p (.v (.bool true))) rfl ?_))
    refine So.e ?_
    show HT _ _ _ _ _
    refine HT.ret ?_
    exact ret_ok (sg []) h rfl rfl rfl trivial ⟨trivial, trivial⟩ rfl ⟨⟨⟨le_bool (by first | with_reducible rfl | exact decide_eq_true (by first | exact same_lg _ _ _ | (rw [sum32, sum32]; exact sum_lg2 _ _ _))), trivial⟩, trivial⟩, trivial⟩
  · have h3 := of_decide_eq_false h3
    refine HT.skip ?_
    show HT _ _ _ _ _
    refine HT.seq ?_
    refine HT.region S_lawLong_ok ?_
    refine So.n (Nat.le_of_ble_eq_true rfl) (A.v rfl (V.mv (v := .p (.u8 _)) rfl ?_))
    refine So.n (Nat.le_of_ble_eq_true rfl) (A.v rfl (V.cvN ty3 ty5 (a := (.u8 _)) (r := (.v (.int .i64 _))) rfl rfl ?_))
    refine So.n (Nat.le_of_ble_eq_true rfl) (A.v rfl (V.addI rfl rfl (by omega) ?_))
    refine So.n (Nat.le_of_ble_eq_true rfl) (A.mkB 1 ty22 ty5 rfl rfl rfl (by omega) rfl rfl trivial ?_)
    refine So.n (Nat.le_of_ble_eq_true rfl) (A.v rfl (V.as (v := .own 1 0 _) rfl ?_))
    refine So.e ?_
    show HT _ _ _ _ _
    refine HT.seq ?_
    refine HT.region S_lawLong_ok ?_
    refine So.n (Nat.le_of_ble_eq_true rfl) (A.v rfl (V.mv (v := .own 1 0 _) rfl ?_))
    refine So.n (Nat.le_of_ble_eq_true rfl) (A.v rfl (V.mv (v := .p (.u8 _)) rfl ?_))
    refine So.n (Nat.le_of_ble_eq_true rfl) (A.v rfl (V.ixOwn10 ty22 ty5 rfl rfl rfl rfl rfl (by omega) rfl ?_))
    refine So.s (A.sto ty5 rfl rfl rfl (v := .p (.u8 _)) rfl trivial rfl (by first | rfl | omega | (simp; done) | (simp; omega)) rfl rfl ?_)
    refine So.e ?_
    show HT _ _ _ _ _
    refine HT.frzS 1 rfl rfl rfl ?_
    show HT _ _ _ _ _
    refine HT.seq ?_
    refine R.tell [(8, .p (.bs (lgF n b)))] [] [2, 6, 7] [] (fr0 := [(2, .p (.bs _)), (6, .p (.v (.bool false))), (7, .p (.v (.bool true)))]) (O0 := []) rfl rfl ⟨⟨⟨le_bs (by first | rfl | exact lg_eq n b), trivial⟩, ⟨.refl _, trivial⟩, ⟨.refl _, trivial⟩, ⟨.refl _, trivial⟩, trivial⟩, trivial⟩ ?_
    show HT _ _ _ _ _
    refine HT.region S_lawLong_ok ?_
    refine So.n (Nat.le_of_ble_eq_true rfl) (A.v rfl (V.mv (v := .p (.bs _)) rfl ?_))
    refine So.n (Nat.le_of_ble_eq_true rfl) (A.call0F S_lawLong_ok [.p (.bs _)] 1 rfl rfl rfl rfl ⟨trivial, trivial⟩ trivial _ ⟨.refl _, trivial⟩ trivial (by first | omega | (simp; done) | (simp; omega)) (Φ := fun _ => True) (fun _ _ => trivial) (.inl rfl) (t := 3) (off := 0) rfl (O' := (3, ⟨5, 1, _, true, .bs _⟩) :: _) rfl rfl rfl (y := .p (.bs _)) rfl rfl (fun h4 => ?_))
    refine So.n (Nat.le_of_ble_eq_true rfl) (A.v rfl (V.as (v := .p (.bs _)) rfl ?_))
    refine So.e ?_
    show HT _ _ _ _ _
    refine HT.seq ?_
    refine R.tell [(9, .p (.bs (sha (lgF n b))))] [] [2, 6, 7, 8] [] (fr0 := [(2, .p (.bs _)), (6, .p (.v (.bool false))), (7, .p (.v (.bool true))), (8, .p (.bs _))]) (O0 := []) rfl rfl ⟨⟨⟨le_bs (by first | rfl | exact sha_tr _), trivial⟩, ⟨.refl _, trivial⟩, ⟨.refl _, trivial⟩, ⟨.refl _, trivial⟩, ⟨.refl _, trivial⟩, trivial⟩, trivial⟩ ?_
    show HT _ _ _ _ _
    refine HT.drawn S_lawLong_ok S_lawLong_det mixed (by kernel_rfl) ?_
    refine Sd.n (Nat.le_of_ble_eq_true rfl) (V.mv (v := .p (.bs _)) rfl ?_)
    refine Sd.n (Nat.le_of_ble_eq_true rfl) (V.mv (v := .p (.bs _)) rfl ?_)
    refine Sd.n (Nat.le_of_ble_eq_true rfl) (V.mv (v := .p (.bs _)) rfl ?_)
    refine Sd.n (Nat.le_of_ble_eq_true rfl) (V.call [.p (.bs _), .p (.bs _), .p (.bs _)] 1 rfl rfl rfl rfl ⟨trivial, trivial, trivial, trivial⟩ trivial (_, _, _) ⟨.refl _, .refl _, .refl _, trivial⟩ trivial (by first | omega | (simp only [List.drop_zero, List.take_length]; omega) | (simp; done) | (simp; omega)) (Φ := fun _ => True) (fun _ _ => trivial) (.inl ⟨trivial, trivial, trivial, trivial⟩) (v := .p (.bs _)) rfl (fun h5 => ?_))
    refine Sd.n (Nat.le_of_ble_eq_true rfl) (V.cvBs ty9 rfl rfl ?_)
    refine Sd.n (Nat.le_of_ble_eq_true rfl) (V.mv (v := .p (.bs _)) rfl ?_)
    refine Sd.n (Nat.le_of_ble_eq_true rfl) (V.mv (v := .p (.bs _)) rfl ?_)
    refine Sd.n (Nat.le_of_ble_eq_true rfl) (V.mv (v := .p (.bs _)) rfl ?_)
    refine Sd.n (Nat.le_of_ble_eq_true rfl) (V.call [.p (.bs _), .p (.bs _), .p (.bs _)] 1 rfl rfl rfl rfl ⟨trivial, trivial, trivial, trivial⟩ trivial (_, _, _) ⟨.refl _, .refl _, .refl _, trivial⟩ trivial (by first | omega | (simp only [List.drop_zero, List.take_length]; omega) | (simp; done) | (simp; omega)) (Φ := fun _ => True) (fun _ _ => trivial) (.inl ⟨trivial, trivial, trivial, trivial⟩) (v := .p (.bs _)) rfl (fun h6 => ?_))
    refine Sd.n (Nat.le_of_ble_eq_true rfl) (V.cvBs ty9 rfl rfl ?_)
    refine Sd.n (Nat.le_of_ble_eq_true rfl) (V.bin (a := (.str _)) (b := (.str _)) (r := .v (.bool _)) rfl rfl rfl trivial ?_)
    refine Sd.n (Nat.le_of_ble_eq_true rfl) (V.mv (v := .p (.v (.bool _))) rfl ?_)
    refine Sd.gd rfl rfl (Nat.le_of_ble_eq_true rfl) (Nat.le_of_ble_eq_true rfl) (fun h7 => ?_) (fun h7 => ?_)
    · have h7 := of_decide_eq_true h7
      refine V.mv (v := .p (.bs _)) rfl ?_
      refine Sd.gy rfl rfl (Nat.le_of_ble_eq_true rfl) (Nat.le_of_ble_eq_true rfl) ?_
      refine V.mv (v := .p (.bs _)) rfl ?_
      refine Sd.gy rfl rfl (Nat.le_of_ble_eq_true rfl) (Nat.le_of_ble_eq_true rfl) ?_
      refine V.call [.p (.bs _), .p (.bs _)] 1 rfl rfl rfl rfl ⟨trivial, trivial, trivial⟩ trivial (_, _) ⟨.refl _, .refl _, trivial⟩ trivial (by first | omega | (simp only [List.drop_zero, List.take_length]; omega) | (simp; done) | (simp; omega)) (Φ := fun _ => True) (fun _ _ => trivial) (.inl ⟨trivial, trivial, trivial⟩) (v := .agg 7 _) rfl (fun h8 => ?_)
      refine Sd.gy rfl rfl (Nat.le_of_ble_eq_true rfl) (Nat.le_of_ble_eq_true rfl) ?_
      refine V.mv (v := .p (.bs _)) rfl ?_
      refine Sd.gy rfl rfl (Nat.le_of_ble_eq_true rfl) (Nat.le_of_ble_eq_true rfl) ?_
      refine V.mv (v := .p (.bs _)) rfl ?_
      refine Sd.gy rfl rfl (Nat.le_of_ble_eq_true rfl) (Nat.le_of_ble_eq_true rfl) ?_
      refine V.call [.p (.bs _), .p (.bs _)] 1 rfl rfl rfl rfl ⟨trivial, trivial, trivial⟩ trivial (_, _) ⟨.refl _, .refl _, trivial⟩ trivial (by first | omega | (simp only [List.drop_zero, List.take_length]; omega) | (simp; done) | (simp; omega)) (Φ := fun _ => True) (fun _ _ => trivial) (.inl ⟨trivial, trivial, trivial⟩) (v := .agg 7 _) rfl (fun h9 => ?_)
      refine Sd.gy rfl rfl (Nat.le_of_ble_eq_true rfl) (Nat.le_of_ble_eq_true rfl) ?_
      refine V.call [.agg 7 _, .agg 7 _] 1 rfl rfl rfl rfl ⟨trivial, trivial, trivial⟩ trivial (_, _) ⟨.refl _, .refl _, trivial⟩ trivial (by trivial) (Φ := fun _ => True) (fun _ _ => trivial) (.inl ⟨trivial, trivial, trivial⟩) (v := .p (.v (.bool _))) rfl (fun h10 => ?_)
      refine Sd.n (Nat.le_of_ble_eq_true rfl) (V.pkTrue (u := .p (.v (.bool _))) rfl rfl ?_)
      refine Sd.n (Nat.le_of_ble_eq_true rfl) (V.as (v := .p (.v (.bool _))) rfl ?_)
      refine Sd.e ?_
      show HT _ _ _ _ _
      refine HT.seq ?_
      refine HT.drawn S_lawLong_ok S_lawLong_det mixed (by kernel_rfl) ?_
      refine Sd.n (Nat.le_of_ble_eq_true rfl) (V.mv (v := .p (.v (.bool true))) rfl ?_)
      refine Sd.n (Nat.le_of_ble_eq_true rfl) (V.mv (v := .p (.v (.bool true))) rfl ?_)
      refine Sd.gy rfl rfl (Nat.le_of_ble_eq_true rfl) (Nat.le_of_ble_eq_true rfl) ?_
      refine V.mv (v := .p (.v (.bool _))) rfl ?_
      refine Sd.n (Nat.le_of_ble_eq_true rfl) (V.pkTrue (u := .p (.v (.bool _))) rfl rfl ?_)
      refine Sd.n (Nat.le_of_ble_eq_true rfl) (V.mv (v := .p (.v (.bool _))) rfl ?_)
      refine Sd.gd rfl rfl (Nat.le_of_ble_eq_true rfl) (Nat.le_of_ble_eq_true rfl) (fun h11 => ?_) (fun h11 => ?_)
      · have h11 := of_decide_eq_true h11
        refine V.mv (v := .p (.bs _)) rfl ?_
        refine Sd.gy rfl rfl (Nat.le_of_ble_eq_true rfl) (Nat.le_of_ble_eq_true rfl) ?_
        refine V.mv (v := .p (.bs _)) rfl ?_
        refine Sd.gy rfl rfl (Nat.le_of_ble_eq_true rfl) (Nat.le_of_ble_eq_true rfl) ?_
        refine V.call [.p (.bs _), .p (.bs _)] 1 rfl rfl rfl rfl ⟨trivial, trivial, trivial⟩ trivial (_, _) ⟨.refl _, .refl _, trivial⟩ trivial (by first | omega | (simp only [List.drop_zero, List.take_length]; omega) | (simp; done) | (simp; omega)) (Φ := fun _ => True) (fun _ _ => trivial) (.inl ⟨trivial, trivial, trivial⟩) (v := .p (.bs _)) rfl (fun h12 => ?_)
        refine Sd.gy rfl rfl (Nat.le_of_ble_eq_true rfl) (Nat.le_of_ble_eq_true rfl) ?_
        refine V.cvBs ty9 rfl rfl ?_
        refine Sd.gy rfl rfl (Nat.le_of_ble_eq_true rfl) (Nat.le_of_ble_eq_true rfl) ?_
        refine V.mv (v := .p (.bs _)) rfl ?_
        refine Sd.gy rfl rfl (Nat.le_of_ble_eq_true rfl) (Nat.le_of_ble_eq_true rfl) ?_
        refine V.mv (v := .p (.bs _)) rfl ?_
        refine Sd.gy rfl rfl (Nat.le_of_ble_eq_true rfl) (Nat.le_of_ble_eq_true rfl) ?_
        refine V.call [.p (.bs _), .p (.bs _)] 1 rfl rfl rfl rfl ⟨trivial, trivial, trivial⟩ trivial (_, _) ⟨.refl _, .refl _, trivial⟩ trivial (by first | omega | (simp only [List.drop_zero, List.take_length]; omega) | (simp; done) | (simp; omega)) (Φ := fun _ => True) (fun _ _ => trivial) (.inl ⟨trivial, trivial, trivial⟩) (v := .p (.bs _)) rfl (fun h13 => ?_)
        refine Sd.gy rfl rfl (Nat.le_of_ble_eq_true rfl) (Nat.le_of_ble_eq_true rfl) ?_
        refine V.cvBs ty9 rfl rfl ?_
        refine Sd.gy rfl rfl (Nat.le_of_ble_eq_true rfl) (Nat.le_of_ble_eq_true rfl) ?_
        refine V.bin (a := (.str _)) (b := (.str _)) (r := .v (.bool _)) rfl rfl rfl trivial ?_
        refine Sd.n (Nat.le_of_ble_eq_true rfl) (V.pkTrue (u := .p (.v (.bool _))) rfl rfl ?_)
        refine Sd.n (Nat.le_of_ble_eq_true rfl) (V.mv (v := .p (.v (.bool _))) rfl ?_)
        refine Sd.gd rfl rfl (Nat.le_of_ble_eq_true rfl) (Nat.le_of_ble_eq_true rfl) (fun h14 => ?_) (fun h14 => ?_)
        · have h14 := of_decide_eq_true h14
          refine V.mv (v := .p (.bs _)) rfl ?_
          refine Sd.gy rfl rfl (Nat.le_of_ble_eq_true rfl) (Nat.le_of_ble_eq_true rfl) ?_
          refine V.mv (v := .p (.bs _)) rfl ?_
          refine Sd.gy rfl rfl (Nat.le_of_ble_eq_true rfl) (Nat.le_of_ble_eq_true rfl) ?_
          refine V.call [.p (.bs _), .p (.bs _)] 1 rfl rfl rfl rfl ⟨trivial, trivial, trivial⟩ trivial (_, _) ⟨.refl _, .refl _, trivial⟩ trivial (by first | omega | (simp only [List.drop_zero, List.take_length]; omega) | (simp; done) | (simp; omega)) (Φ := fun _ => True) (fun _ _ => trivial) (.inl ⟨trivial, trivial, trivial⟩) (v := .p (.bs _)) rfl (fun h15 => ?_)
          refine Sd.gy rfl rfl (Nat.le_of_ble_eq_true rfl) (Nat.le_of_ble_eq_true rfl) ?_
          refine V.cvBs ty9 rfl rfl ?_
          refine Sd.gy rfl rfl (Nat.le_of_ble_eq_true rfl) (Nat.le_of_ble_eq_true rfl) ?_
          refine V.mv (v := .p (.bs _)) rfl ?_
          refine Sd.gy rfl rfl (Nat.le_of_ble_eq_true rfl) (Nat.le_of_ble_eq_true rfl) ?_
          refine V.mv (v := .p (.bs _)) rfl ?_
          refine Sd.gy rfl rfl (Nat.le_of_ble_eq_true rfl) (Nat.le_of_ble_eq_true rfl) ?_
          refine V.call [.p (.bs _), .p (.bs _)] 1 rfl rfl rfl rfl ⟨trivial, trivial, trivial⟩ trivial (_, _) ⟨.refl _, .refl _, trivial⟩ trivial (by first | omega | (simp only [List.drop_zero, List.take_length]; omega) | (simp; done) | (simp; omega)) (Φ := fun _ => True) (fun _ _ => trivial) (.inl ⟨trivial, trivial, trivial⟩) (v := .p (.bs _)) rfl (fun h16 => ?_)
          refine Sd.gy rfl rfl (Nat.le_of_ble_eq_true rfl) (Nat.le_of_ble_eq_true rfl) ?_
          refine V.cvBs ty9 rfl rfl ?_
          refine Sd.gy rfl rfl (Nat.le_of_ble_eq_true rfl) (Nat.le_of_ble_eq_true rfl) ?_
          refine V.bin (a := (.str _)) (b := (.str _)) (r := .v (.bool _)) rfl rfl rfl trivial ?_
          refine Sd.n (Nat.le_of_ble_eq_true rfl) (V.pkTrue (u := .p (.v (.bool _))) rfl rfl ?_)
          refine Sd.n (Nat.le_of_ble_eq_true rfl) (V.as (v := .p (.v (.bool _))) rfl ?_)
          refine Sd.e ?_
          show HT _ _ _ _ _
          refine HT.ret ?_
          exact ret_ok (sg []) h rfl rfl rfl trivial ⟨trivial, trivial⟩ rfl ⟨⟨⟨le_bool (by first | with_reducible rfl | exact decide_eq_true (by first | exact same_lg _ _ _ | (rw [sum32, sum32]; exact sum_lg2 _ _ _))), trivial⟩, trivial⟩, trivial⟩
        · have h14 := of_decide_eq_false h14
          first | exact absurd (by first | (simp only [take_full]; exact join_lg _ _ _) | exact same_lg _ _ _ | (rw [sha_tr, sha_tr]; first | exact sum_lg1 _ _ _ | exact sum_lg2 _ _ _) | (rw [sum32, sum32]; first | exact sum_lg1 _ _ _ | exact sum_lg2 _ _ _)) h14 | exact absurd h14 (by first | (simp only [take_full]; exact join_lg _ _ _) | exact same_lg _ _ _ | (rw [sha_tr, sha_tr]; first | exact sum_lg1 _ _ _ | exact sum_lg2 _ _ _) | (rw [sum32, sum32]; first | exact sum_lg1 _ _ _ | exact sum_lg2 _ _ _))
      · have h11 := of_decide_eq_false h11
        first | exact absurd (by first | (simp only [take_full]; exact join_lg _ _ _) | exact same_lg _ _ _ | (rw [sha_tr, sha_tr]; first | exact sum_lg1 _ _ _ | exact sum_lg2 _ _ _) | (rw [sum32, sum32]; first | exact sum_lg1 _ _ _ | exact sum_lg2 _ _ _)) h11 | exact absurd h11 (by first | (simp only [take_full]; exact join_lg _ _ _) | exact same_lg _ _ _ | (rw [sha_tr, sha_tr]; first | exact sum_lg1 _ _ _ | exact sum_lg2 _ _ _) | (rw [sum32, sum32]; first | exact sum_lg1 _ _ _ | exact sum_lg2 _ _ _))
    · have h7 := of_decide_eq_false h7
      first | exact absurd (by first | (simp only [take_full]; exact join_lg _ _ _) | exact same_lg _ _ _ | (rw [sha_tr, sha_tr]; first | exact sum_lg1 _ _ _ | exact sum_lg2 _ _ _) | (rw [sum32, sum32]; first | exact sum_lg1 _ _ _ | exact sum_lg2 _ _ _)) h7 | exact absurd h7 (by first | (simp only [take_full]; exact join_lg _ _ _) | exact same_lg _ _ _ | (rw [sha_tr, sha_tr]; first | exact sum_lg1 _ _ _ | exact sum_lg2 _ _ _) | (rw [sum32, sum32]; first | exact sum_lg1 _ _ _ | exact sum_lg2 _ _ _))

end Go.Vh
