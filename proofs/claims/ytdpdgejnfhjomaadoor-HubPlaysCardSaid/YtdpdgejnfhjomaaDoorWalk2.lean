/- What is proved: each function of the seat's program does what its contract says, wherever it is called; no condition. -/
import Derived.Test.YtdpdgejnfhjomaaDoorWalk0
import Derived.Test.YtdpdgejnfhjomaaDoorPure0
set_option linter.unusedVariables false
set_option linter.unusedSimpArgs false
set_option maxHeartbeats 4000000
set_option maxRecDepth 40000
namespace Go.Vh
open Go Go.Vc Go.Proofs Go.Vw
def hleaveSp : Sp := ⟨[1, 2], mkE (α := (List UInt8) × Int × PLs × PKs × (List UInt8)) (fun (G, e, L, p, b) => [.ptr 1 0, .p (.bs b)]) (fun (G, e, L, p, b) => [(1, ⟨63, 4, 4, true, .cells [.p (.bs G), .p (.v (.int .i64 e)), .own 2 0 ((L).length), .own 3 0 ((p).length)]⟩), (2, ⟨45, 3, (L).length * 3, true, .rows (pR L)⟩), (3, ⟨64, 1, (p).length, true, .rows (kV p)⟩)]) (fun (G, e, L, p, b) => p.length <= 64) (fun (G, e, L, p, b) => [.p (.v (.int .i64 ((leaveH p b).n))), .p (.v (.int .i64 ((leaveH p b).r)))]) (fun (G, e, L, p, b) => [(1, ⟨63, 4, 4, true, .cells [.p (.bs G), .p (.v (.int .i64 e)), .own 2 0 ((L).length), .own 3 0 (((leaveH p b).p).length)]⟩), (2, ⟨45, 3, (L).length * 3, true, .rows (pR L)⟩), (3, ⟨64, 1, ((leaveH p b).p).length, true, .rows (kV ((leaveH p b).p))⟩)])⟩
def S_hleave : FuncId -> Option Sp := fun f => if f = 30 then some cloneSp else none
theorem S_hleave_ok : ∀ f s, S_hleave f = some s -> FOK Tryd.prog gl f s := sI clone_ok sN
theorem hleave_ok : FOK Tryd.prog gl 9 hleaveSp := by
 refine FOK.ofE (tyOf_ok Tryd.prog) (slots := [4, 5]) (nt := 38) Tryd.func9 rfl rfl rfl rfl (by decide) 2 (fun ⟨_, _, _, _, _⟩ => rfl) (by decide) (fun ⟨_, _, _, _, _⟩ => ⟨rfl, trivial, trivial⟩) ?_
 rintro ⟨G, e, L, p, b⟩ kk hlen hpre h
 have hl1 : (b).length <= 9223372036854775807 := hlen.2.1
 replace hpre : p.length <= 64 := hpre
 show HT (cx Tryd.prog 38 (tyOf Tryd.prog) gl [1, 2]) _ [(0, .ptr 1 0), (1, .p (.bs b))] [(1, ⟨63, 4, 4, true, .cells [.p (.bs G), .p (.v (.int .i64 e)), .own 2 0 ((L).length), .own 3 0 ((p).length)]⟩), (2, ⟨45, 3, (L).length * 3, true, .rows (pR L)⟩), (3, ⟨64, 1, (p).length, true, .rows (kV p)⟩)] _
 refine HT.seq (HT.region S_hleave_ok (Sq (V.as (v := .p (.v (.int .i64 0))) rfl (Sq (V.as (v := .p (.v (.int .i64 0))) rfl (So.e (HT.seq (HT.block (HT.seq (HT.seq (HT.region S_hleave_ok (Sq (V.mv (v := .p (.bs _)) rfl (Sq (V.len ty23 (v := .p (.bs _)) rfl rfl (Sq (V.bin (a := .v (.int .i64 _)) (b := .v (.int .i64 0)) (r := .v (.bool _)) rfl rfl rfl trivial (Sq (V.as (v := .p (.v (.bool _))) rfl (So.e ?_))))))))))))))))))))
 refine R.cd rfl rfl (fun h1 => ?_) (fun h1 => ?_)
 ·refine HT.skip ?_
  refine R.condT rfl ?_
  refine HT.seq (HT.region S_hleave_ok (Sq (V.as (v := .p (.v (.int .i64 0))) rfl (Sq (V.as (v := .p (.v (.int .i64 1))) rfl (So.e ?_))))))
  refine HT.ret ?_
  have hR := lv_1 (p := p) (b := b) (by omega)
  exact ret_ok (sg [(1, 1), (2, 2), (3, 3)]) h rfl rfl rfl ⟨⟨trivial, trivial, rfl, rfl, trivial⟩, trivial, trivial, trivial⟩ ⟨trivial, trivial, trivial⟩ rfl ⟨⟨⟨le_int (by (rw [hR]; done)), trivial⟩, ⟨le_int (by (rw [hR]; done)), trivial⟩, trivial⟩, ⟨⟨_, rfl, .inl (by rw [hR]; rfl), ⟨trivial, trivial, rfl, rfl, trivial⟩⟩, ⟨_, rfl, .inl rfl, trivial⟩, ⟨_, rfl, .inr (ob_rows (by rw [hR]; done) (by intro j hj; rw [hR]; done)), trivial⟩, trivial⟩⟩
 ·refine HT.region S_hleave_ok (Sq (V.mv (v := .p (.bs _)) rfl (Sq (V.len ty23 (v := .p (.bs _)) rfl rfl (Sq (V.bin (a := .v (.int .i64 _)) (b := .v (.int .i64 10000)) (r := .v (.bool _)) rfl rfl rfl trivial (Sq (V.as (v := .p (.v (.bool _))) rfl (So.e ?_)))))))))
  refine R.cd rfl rfl (fun h2 => ?_) (fun h2 => ?_)
  ·refine HT.seq (HT.region S_hleave_ok (Sq (V.as (v := .p (.v (.int .i64 0))) rfl (Sq (V.as (v := .p (.v (.int .i64 1))) rfl (So.e ?_))))))
   refine HT.ret ?_
   have hR := lv_1 (p := p) (b := b) (by omega)
   exact ret_ok (sg [(1, 1), (2, 2), (3, 3)]) h rfl rfl rfl ⟨⟨trivial, trivial, rfl, rfl, trivial⟩, trivial, trivial, trivial⟩ ⟨trivial, trivial, trivial⟩ rfl ⟨⟨⟨le_int (by (rw [hR]; done)), trivial⟩, ⟨le_int (by (rw [hR]; done)), trivial⟩, trivial⟩, ⟨⟨_, rfl, .inl (by rw [hR]; rfl), ⟨trivial, trivial, rfl, rfl, trivial⟩⟩, ⟨_, rfl, .inl rfl, trivial⟩, ⟨_, rfl, .inr (ob_rows (by rw [hR]; done) (by intro j hj; rw [hR]; done)), trivial⟩, trivial⟩⟩
  ·refine HT.seq (HT.region S_hleave_ok (Sq (V.mv (v := .ptr 1 0) rfl (Sq (V.ncPtr rfl (Sq (V.fa ty63 rfl ty61 rfl rfl (Sq (V.ld ty61 rfl rfl rfl (v := .own 3 0 _) rfl (Sq (V.len ty61 (v := .own 3 0 _) rfl rfl (Sq (V.bin (a := .v (.int .i64 _)) (b := .v (.int .i64 64)) (r := .v (.bool _)) rfl rfl rfl trivial (Sq (V.as (v := .p (.v (.bool _))) rfl (So.e ?_))))))))))))))))
   refine R.cd rfl rfl (fun h3 => ?_) (fun h3 => ?_)
   ·refine HT.seq (HT.region S_hleave_ok (Sq (V.as (v := .p (.v (.int .i64 0))) rfl (Sq (V.as (v := .p (.v (.int .i64 2))) rfl (So.e ?_))))))
    refine HT.ret ?_
    have hR := lv_2 (p := p) (b := b) (by omega) (by omega)
    exact ret_ok (sg [(1, 1), (2, 2), (3, 3)]) h rfl rfl rfl ⟨⟨trivial, trivial, rfl, rfl, trivial⟩, trivial, trivial, trivial⟩ ⟨trivial, trivial, trivial⟩ rfl ⟨⟨⟨le_int (by (rw [hR]; done)), trivial⟩, ⟨le_int (by (rw [hR]; done)), trivial⟩, trivial⟩, ⟨⟨_, rfl, .inl (by rw [hR]; rfl), ⟨trivial, trivial, rfl, rfl, trivial⟩⟩, ⟨_, rfl, .inl rfl, trivial⟩, ⟨_, rfl, .inr (ob_rows (by rw [hR]; done) (by intro j hj; rw [hR]; done)), trivial⟩, trivial⟩⟩
   ·refine HT.skip (HT.seq (HT.region S_hleave_ok (Sq (V.mv (v := .p (.bs _)) rfl ?_))))
    refine So.n (lk rfl) (A.call0F S_hleave_ok [.p (.bs _)] 4 rfl rfl rfl rfl ⟨trivial, trivial⟩ ⟨lk rfl, lk rfl, trivial⟩ _ ⟨.refl _, trivial⟩ trivial (by omega) tT (.inl rfl) (t := 5) (off := 0) rfl (O' := (5, ⟨5, 1, _, true, .bs _⟩) :: _) rfl rfl rfl (y := .p (.bs _)) rfl rfl (fun h4 => ?_))
    refine So.n (lk rfl) (A.alloc1 4 ty23 rfl rfl ⟨lk rfl, lk rfl, trivial⟩ (x := .v (.slice none 0 0)) rfl (So.s (A.sto ty23 rfl rfl rfl (v := .p (.bs _)) rfl trivial rfl (lk rfl) rfl rfl (So.e ?_))))
    refine HT.frzP 4 rfl rfl rfl ?_
    refine HT.seq (HT.region S_hleave_ok (Sq (V.mv (v := .ptr 1 0) rfl (Sq (V.mv (v := .ptr 1 0) rfl (Sq (V.ncPtr rfl (Sq (V.fa ty63 rfl ty61 rfl rfl (Sq (V.ld ty61 rfl rfl rfl (v := .own 3 0 _) rfl (So.n (lk rfl) (A.bsl 4 ty61 ty64 rfl (lk rfl) (lk rfl) (fun _ => rfl) rfl rfl ⟨lk rfl, lk rfl, trivial⟩ ⟨trivial, trivial⟩ rfl (N := 1) rfl (c := .rows _) rfl (So.n (lk rfl) (A.apRows1 ty61 ty64 rfl rfl rfl rfl (lk rfl) rfl rfl (u := .own 4 0 _) rfl rfl (by intro j hj; match j, hj with | 0, _ => trivial) rfl (by (simp; omega)) rfl rfl rfl (Sq (V.ncPtr rfl (Sq (V.fa ty63 rfl ty61 rfl rfl (So.s (A.sto ty61 rfl rfl rfl (v := .own 3 0 _) rfl trivial rfl (lk rfl) rfl rfl (So.e (HT.seq (HT.region S_hleave_ok (Sq (V.mv (v := .ptr 1 0) rfl (Sq (V.ncPtr rfl (Sq (V.fa ty63 rfl ty61 rfl rfl (Sq (V.ld ty61 rfl rfl rfl (v := .own 3 0 _) rfl (Sq (V.len ty61 (v := .own 3 0 _) rfl rfl (Sq (V.subI rfl rfl (by omega) (Sq (V.ai rfl (Sq (V.as (v := .p (.v (.int .i64 0))) rfl (So.e ?_)))))))))))))))))))))))))))))))))))))))))
    refine HT.ret ?_
    have hR := lv_3 (p := p) (b := b) (by omega) (by omega)
    exact ret_ok (sg [(1, 1), (2, 2), (3, 3)]) h rfl rfl rfl ⟨⟨trivial, trivial, rfl, rfl, trivial⟩, trivial, trivial, trivial⟩ ⟨trivial, trivial, trivial⟩ rfl ⟨⟨⟨le_int (by (rw [hR]; dsimp only; omega)), trivial⟩, ⟨le_int (by (rw [hR]; done)), trivial⟩, trivial⟩, ⟨⟨_, rfl, .inl (by rw [hR, List.length_append]; rfl), ⟨trivial, trivial, rfl, rfl, trivial⟩⟩, ⟨_, rfl, .inl rfl, trivial⟩, ⟨_, rfl, .inr (ob_rows (by rw [hR, List.length_append]; rfl) (by intro j hj; rw [hR, take_full]; exact kV_app2 p b j hj)), trivial⟩, trivial⟩⟩
def hfetchSp : Sp := ⟨[1, 2, 3], mkE (α := (List UInt8) × Int × PLs × PKs × Int) (fun (G, e, L, p, i) => [.ptr 1 0, .p (.v (.int .i64 i))]) (fun (G, e, L, p, i) => [(1, ⟨63, 4, 4, true, .cells [.p (.bs G), .p (.v (.int .i64 e)), .own 2 0 ((L).length), .own 3 0 ((p).length)]⟩), (2, ⟨45, 3, (L).length * 3, true, .rows (pR L)⟩), (3, ⟨64, 1, (p).length, true, .rows (kV p)⟩)]) (fun (G, e, L, p, i) => p.length <= 64) (fun (G, e, L, p, i) => [.p (.bs ((fetchH p i).b)), .p (.v (.int .i64 ((fetchH p i).r)))]) (fun (G, e, L, p, i) => [(1, ⟨63, 4, 4, true, .cells [.p (.bs G), .p (.v (.int .i64 e)), .own 2 0 ((L).length), .own 3 0 ((p).length)]⟩), (2, ⟨45, 3, (L).length * 3, true, .rows (pR L)⟩), (3, ⟨64, 1, p.length, true, .rows (kV (fetchH p i).p)⟩)])⟩
def S_hfetch : FuncId -> Option Sp := fun _ => none
theorem S_hfetch_ok : ∀ f s, S_hfetch f = some s -> FOK Tryd.prog gl f s := fun f s h => by cases h
theorem hfetch_ok : FOK Tryd.prog gl 10 hfetchSp := by
 refine FOK.ofE (tyOf_ok Tryd.prog) (slots := [4, 5]) (nt := 44) Tryd.func10 rfl rfl rfl rfl (by decide) 2 (fun ⟨_, _, _, _, _⟩ => rfl) (by decide) (fun ⟨_, _, _, _, _⟩ => ⟨rfl, trivial, trivial⟩) ?_
 rintro ⟨G, e, L, p, i⟩ kk hlen hpre h
 replace hpre : p.length <= 64 := hpre
 show HT (cx Tryd.prog 44 (tyOf Tryd.prog) gl [1, 2, 3]) _ [(0, .ptr 1 0), (1, .p (.v (.int .i64 i)))] [(1, ⟨63, 4, 4, true, .cells [.p (.bs G), .p (.v (.int .i64 e)), .own 2 0 ((L).length), .own 3 0 ((p).length)]⟩), (2, ⟨45, 3, (L).length * 3, true, .rows (pR L)⟩), (3, ⟨64, 1, (p).length, true, .rows (kV p)⟩)] _
 have hln := fetch_len p i
 refine HT.seq (HT.region S_hfetch_ok (Sq (V.as (v := .p (.v (.slice none 0 0))) rfl (Sq (V.as (v := .p (.v (.int .i64 0))) rfl (So.e (HT.seq (HT.seq (HT.region S_hfetch_ok (Sq (V.mi rfl (Sq (V.bin (a := .v (.int .i64 _)) (b := .v (.int .i64 0)) (r := .v (.bool _)) rfl rfl rfl trivial (Sq (V.mv (v := .p (.v (.bool _))) rfl ?_)))))))))))))))
 refine So.gd rfl rfl (lk rfl) (lk rfl) (fun h1 => ?_) (fun h1 => ?_)
 ·have h1 := of_decide_eq_false h1
  refine A.v rfl (V.mi rfl (So.gy rfl rfl (lk rfl) (lk rfl) (A.v rfl (V.mv (v := .ptr 1 0) rfl (So.gy rfl rfl (lk rfl) (lk rfl) (A.v rfl (V.ncPtr rfl (So.gy rfl rfl (lk rfl) (lk rfl) (A.v rfl (V.fa ty63 rfl ty61 rfl rfl (So.gy rfl rfl (lk rfl) (lk rfl) (A.v rfl (V.ld ty61 rfl rfl rfl (v := .own 3 0 _) rfl (So.gy rfl rfl (lk rfl) (lk rfl) (A.v rfl (V.len ty61 (v := .own 3 0 _) rfl rfl (So.gy rfl rfl (lk rfl) (lk rfl) (A.v rfl (V.bin (a := .v (.int .i64 _)) (b := .v (.int .i64 _)) (r := .v (.bool _)) rfl rfl rfl trivial (Sq (V.pkFalse (u := .p (.v (.bool _))) rfl rfl (Sq (V.mv (v := .p (.v (.bool _))) rfl ?_)))))))))))))))))))))))
  refine So.gd rfl rfl (lk rfl) (lk rfl) (fun h2 => ?_) (fun h2 => ?_)
  ·have h2 := of_decide_eq_false h2
   refine A.v rfl (V.mv (v := .ptr 1 0) rfl (So.gy rfl rfl (lk rfl) (lk rfl) (A.v rfl (V.ncPtr rfl (So.gy rfl rfl (lk rfl) (lk rfl) (A.v rfl (V.fa ty63 rfl ty61 rfl rfl (So.gy rfl rfl (lk rfl) (lk rfl) (A.v rfl (V.ld ty61 rfl rfl rfl (v := .own 3 0 _) rfl (So.gy rfl rfl (lk rfl) (lk rfl) (A.v rfl (V.mi rfl (So.gy rfl rfl (lk rfl) (lk rfl) (A.v rfl (V.ixOwn10 (mi := i.toNat) ty61 ty64 rfl rfl rfl rfl rfl (by omega) (by omega) (So.gy rfl rfl (lk rfl) (lk rfl) (A.v rfl (V.ldPtr ty64 rfl rfl rfl (by (simp; omega)) (v := .p (kV p i.toNat)) (by rfl) (So.gy rfl rfl (lk rfl) (lk rfl) (A.v rfl (V.eqPtr ty64 rfl rfl (by exact kV_b p i.toNat) (b := decide (p.getD i.toNat none = none)) (by exact kV_q p i.toNat) (Sq (V.pkFalse (u := .p (.v (.bool _))) rfl rfl (So.e ?_)))))))))))))))))))))))))
   refine R.cd rfl rfl (fun h3 => ?_) (fun h3 => ?_)
   ·refine HT.seq (HT.region S_hfetch_ok (Sq (V.as (v := .p (.v (.slice none 0 0))) rfl (Sq (V.as (v := .p (.v (.int .i64 1))) rfl (So.e ?_))))))
    refine HT.ret ?_
    have hR := ft_2 (p := p) (i := i) (by assumption)
    exact ret_ok (sg [(1, 1), (2, 2), (3, 3)]) h rfl rfl rfl ⟨⟨trivial, trivial, rfl, rfl, trivial⟩, trivial, trivial, trivial⟩ ⟨trivial, trivial, trivial⟩ rfl ⟨⟨⟨le_nil (by (rw [hR]; done)), trivial⟩, ⟨le_int (by (rw [hR]; done)), trivial⟩, trivial⟩, ⟨⟨_, rfl, .inl (by rfl), ⟨trivial, trivial, rfl, rfl, trivial⟩⟩, ⟨_, rfl, .inl rfl, trivial⟩, ⟨_, rfl, .inr (ob_rows (by rfl) (by intro j hj; rw [hR]; done)), trivial⟩, trivial⟩⟩
   ·refine HT.skip (HT.seq (HT.region S_hfetch_ok ?_))
    obtain ⟨b9, hb9⟩ := pk_some (by assumption)
    refine Sq (V.mv (v := .ptr 1 0) rfl (Sq (V.ncPtr rfl (Sq (V.fa ty63 rfl ty61 rfl rfl (Sq (V.ld ty61 rfl rfl rfl (v := .own 3 0 _) rfl (Sq (V.mi rfl (Sq (V.ixOwn10 (mi := i.toNat) ty61 ty64 rfl rfl rfl rfl rfl (by omega) (by omega) (Sq (V.ldPtr ty64 rfl rfl rfl (by (simp; omega)) (v := .p (.pp (.bs b9))) (by exact congrArg BV.p (kV_s hb9)) (Sq (V.ncPp rfl (Sq (V.ldPp ty23 rfl rfl (Sq (V.as (v := .p (.bs _)) rfl (So.e (HT.seq (HT.region S_hfetch_ok (Sq (V.mv (v := .ptr 1 0) rfl (Sq (V.ncPtr rfl (Sq (V.fa ty63 rfl ty61 rfl rfl (Sq (V.ld ty61 rfl rfl rfl (v := .own 3 0 _) rfl (Sq (V.mi rfl (Sq (V.ixOwn10 (mi := i.toNat) ty61 ty64 rfl rfl rfl rfl rfl (by omega) (by omega) (So.s (A.sto ty64 rfl rfl rfl (v := _) rfl rfl rfl (by omega) (c' := .rows (fun j => if j = i.toNat then .v (.pointer none) else kV p j)) (congrArg (fun g => some (OC.rows g)) (funext fun j => by rfl)) rfl (So.e (HT.seq (HT.region S_hfetch_ok (Sq (V.mv (v := .p (.bs _)) rfl ?_)))))))))))))))))))))))))))))))))))))))))
    refine Sq (V.as (v := .p (.bs _)) rfl (Sq (V.as (v := .p (.v (.int .i64 0))) rfl (So.e ?_))))
    refine HT.ret ?_
    have hR := ft_3 (p := p) (i := i) ⟨by omega, by omega⟩ hb9
    exact ret_ok (sg [(1, 1), (2, 2), (3, 3)]) h rfl rfl rfl ⟨⟨trivial, trivial, rfl, rfl, trivial⟩, trivial, trivial, trivial⟩ ⟨trivial, trivial, trivial⟩ rfl ⟨⟨⟨le_bs (by (rw [hR]; done)), trivial⟩, ⟨le_int (by (rw [hR]; done)), trivial⟩, trivial⟩, ⟨⟨_, rfl, .inl (by rfl), ⟨trivial, trivial, rfl, rfl, trivial⟩⟩, ⟨_, rfl, .inl rfl, trivial⟩, ⟨_, rfl, .inr (ob_rows (by rfl) (by intro j hj; rw [hR]; exact kV_set p _ j)), trivial⟩, trivial⟩⟩
  ·have h2 := of_decide_eq_true h2
   refine So.gn (b := true) rfl rfl rfl (lk rfl) (lk rfl) (So.gn (b := true) rfl rfl rfl (lk rfl) (lk rfl) (So.gn (b := true) rfl rfl rfl (lk rfl) (lk rfl) (So.gn (b := true) rfl rfl rfl (lk rfl) (lk rfl) (So.gn (b := true) rfl rfl rfl (lk rfl) (lk rfl) (So.gn (b := true) rfl rfl rfl (lk rfl) (lk rfl) (So.gn (b := true) rfl rfl rfl (lk rfl) (lk rfl) (Sq (V.pkTrue (u := .p (.v (.bool true))) rfl rfl (So.e ?_)))))))))
   refine R.condT rfl ?_
   refine HT.seq (HT.region S_hfetch_ok (Sq (V.as (v := .p (.v (.slice none 0 0))) rfl (Sq (V.as (v := .p (.v (.int .i64 1))) rfl (So.e ?_))))))
   refine HT.ret ?_
   have hR := ft_1 (p := p) (i := i) (fun q => by omega)
   exact ret_ok (sg [(1, 1), (2, 2), (3, 3)]) h rfl rfl rfl ⟨⟨trivial, trivial, rfl, rfl, trivial⟩, trivial, trivial, trivial⟩ ⟨trivial, trivial, trivial⟩ rfl ⟨⟨⟨le_nil (by (rw [hR]; done)), trivial⟩, ⟨le_int (by (rw [hR]; done)), trivial⟩, trivial⟩, ⟨⟨_, rfl, .inl (by rfl), ⟨trivial, trivial, rfl, rfl, trivial⟩⟩, ⟨_, rfl, .inl rfl, trivial⟩, ⟨_, rfl, .inr (ob_rows (by rfl) (by intro j hj; rw [hR]; done)), trivial⟩, trivial⟩⟩
 ·have h1 := of_decide_eq_true h1
  refine So.gn (b := true) rfl rfl rfl (lk rfl) (lk rfl) (So.gn (b := true) rfl rfl rfl (lk rfl) (lk rfl) (So.gn (b := true) rfl rfl rfl (lk rfl) (lk rfl) (So.gn (b := true) rfl rfl rfl (lk rfl) (lk rfl) (So.gn (b := true) rfl rfl rfl (lk rfl) (lk rfl) (So.gn (b := true) rfl rfl rfl (lk rfl) (lk rfl) (Sq (V.pkTrue (u := .p (.v (.bool true))) rfl rfl (Sq (V.mv (v := .p (.v (.bool true))) rfl (So.gn (b := true) rfl rfl rfl (lk rfl) (lk rfl) (So.gn (b := true) rfl rfl rfl (lk rfl) (lk rfl) (So.gn (b := true) rfl rfl rfl (lk rfl) (lk rfl) (So.gn (b := true) rfl rfl rfl (lk rfl) (lk rfl) (So.gn (b := true) rfl rfl rfl (lk rfl) (lk rfl) (So.gn (b := true) rfl rfl rfl (lk rfl) (lk rfl) (So.gn (b := true) rfl rfl rfl (lk rfl) (lk rfl) (So.gn (b := true) rfl rfl rfl (lk rfl) (lk rfl) (Sq (V.pkTrue (u := .p (.v (.bool true))) rfl rfl (So.e ?_))))))))))))))))))))
  refine R.condT rfl ?_
  refine HT.seq (HT.region S_hfetch_ok (Sq (V.as (v := .p (.v (.slice none 0 0))) rfl (Sq (V.as (v := .p (.v (.int .i64 1))) rfl (So.e ?_))))))
  refine HT.ret ?_
  have hR := ft_1 (p := p) (i := i) (fun q => by omega)
  exact ret_ok (sg [(1, 1), (2, 2), (3, 3)]) h rfl rfl rfl ⟨⟨trivial, trivial, rfl, rfl, trivial⟩, trivial, trivial, trivial⟩ ⟨trivial, trivial, trivial⟩ rfl ⟨⟨⟨le_nil (by (rw [hR]; done)), trivial⟩, ⟨le_int (by (rw [hR]; done)), trivial⟩, trivial⟩, ⟨⟨_, rfl, .inl (by rfl), ⟨trivial, trivial, rfl, rfl, trivial⟩⟩, ⟨_, rfl, .inl rfl, trivial⟩, ⟨_, rfl, .inr (ob_rows (by rfl) (by intro j hj; rw [hR]; done)), trivial⟩, trivial⟩⟩
def dputSp : Sp := ⟨[1, 3, 4], mkE (α := (List UInt8) × Int × PLs × (List (List UInt8)) × PKs × Int × (List UInt8)) (fun (G, e, L, W, p, k, b) => [.ptr 1 0, .p (.v (.int .i64 k)), .p (.bs b)]) (fun (G, e, L, W, p, k, b) => [(1, ⟨58, 1, 5, true, .cells [.p (.bs G), .p (.v (.int .i64 e)), .own 2 0 ((L).length), .own 3 0 (W.length), .own 4 0 (W.length)]⟩), (2, ⟨45, 3, (L).length * 3, true, .rows (pR L)⟩), (3, ⟨23, 1, W.length, true, .rows (tV W)⟩), (4, ⟨4, 1, W.length, true, .rows (fdV p)⟩)]) (fun (G, e, L, W, p, k, b) => L.length <= 1000 /\ 0 <= e /\ e <= 1000000 /\ b.length <= 1000000000) (fun (G, e, L, W, p, k, b) => [.p (.v (.int .i64 ((takeH e L k b putL).n))), .p (.v (.int .i64 ((takeH e L k b putL).r)))]) (fun (G, e, L, W, p, k, b) => [(1, ⟨58, 1, 5, true, .cells [.p (.bs G), .p (.v (.int .i64 e)), .own 2 0 (((takeH e L k b putL).L).length), .own 3 0 (W.length), .own 4 0 (W.length)]⟩), (2, ⟨45, 3, ((takeH e L k b putL).L).length * 3, true, .rows (pR ((takeH e L k b putL).L))⟩), (3, ⟨23, 1, W.length, true, .rows (tV W)⟩), (4, ⟨4, 1, W.length, true, .rows (fdV p)⟩)])⟩
def S_dput : FuncId -> Option Sp := fun _ => none
theorem S_dput_ok : ∀ f s, S_dput f = some s -> FOK Tryd.prog gl f s := fun f s h => by cases h
theorem S_dput_det : ∀ f s, S_dput f = some s -> SpDet s.sp := fun f s h => by cases h
theorem dput_ok : FOK Tryd.prog gl 41 dputSp := by
 refine FOK.ofE (tyOf_ok Tryd.prog) (slots := [6, 7]) (nt := 38) Tryd.func41 rfl rfl rfl rfl (by decide) 3 (fun ⟨_, _, _, _, _, _, _⟩ => rfl) (by decide) (fun ⟨_, _, _, _, _, _, _⟩ => ⟨rfl, trivial, trivial, trivial⟩) ?_
 rintro ⟨G, e, L, W, p, k, b⟩ kk hlen hpre h
 have hl2 : (b).length <= 9223372036854775807 := hlen.2.2.1
 replace hpre : L.length <= 1000 /\ 0 <= e /\ e <= 1000000 /\ b.length <= 1000000000 := hpre
 show HT (cx Tryd.prog 38 (tyOf Tryd.prog) gl [1, 3, 4]) _ [(0, .ptr 1 0), (1, .p (.v (.int .i64 k))), (2, .p (.bs b))] [(1, ⟨58, 1, 5, true, .cells [.p (.bs G), .p (.v (.int .i64 e)), .own 2 0 ((L).length), .own 3 0 (W.length), .own 4 0 (W.length)]⟩), (2, ⟨45, 3, (L).length * 3, true, .rows (pR L)⟩), (3, ⟨23, 1, W.length, true, .rows (tV W)⟩), (4, ⟨4, 1, W.length, true, .rows (fdV p)⟩)] _
 refine HT.seq (HT.region S_dput_ok (Sq (V.as (v := .p (.v (.int .i64 0))) rfl (Sq (V.as (v := .p (.v (.int .i64 0))) rfl (So.e (HT.seq (HT.seq (HT.region S_dput_ok (Sq (V.mv (v := .ptr 1 0) rfl (Sq (V.ncPtr rfl (Sq (V.fa ty58 rfl ty56 rfl rfl (Sq (V.ld ty56 rfl rfl rfl (v := .own 2 0 _) rfl (Sq (V.len ty56 (v := .own 2 0 _) rfl rfl (Sq (V.bin (a := .v (.int .i64 _)) (b := .v (.int .i64 1000)) (r := .v (.bool _)) rfl rfl rfl trivial (So.e ?_))))))))))))))))))))))
 refine R.cd rfl rfl (fun h1 => ?_) (fun h1 => ?_)
 ·refine HT.seq (HT.region S_dput_ok (Sq (V.as (v := .p (.v (.int .i64 0))) rfl (Sq (V.as (v := .p (.v (.int .i64 2))) rfl (So.e ?_))))))
  refine HT.ret ?_
  have hR := pl_1 (e := e) (L := L) (k := k) (b := b) (by omega)
  exact ret_ok (sg [(1, 1), (2, 2), (3, 3), (4, 4)]) h rfl rfl rfl ⟨⟨trivial, trivial, rfl, rfl, rfl, trivial⟩, trivial, trivial, trivial, trivial⟩ ⟨trivial, trivial, trivial⟩ rfl ⟨⟨⟨le_int (by (rw [hR]; done)), trivial⟩, ⟨le_int (by (rw [hR]; done)), trivial⟩, trivial⟩, ⟨⟨_, rfl, .inl (by rw [hR]; rfl), ⟨trivial, trivial, rfl, rfl, rfl, trivial⟩⟩, ⟨_, rfl, .inr (ob_rows (by rw [hR]; done) (by intro j hj; rw [hR]; done)), trivial⟩, ⟨_, rfl, .inl rfl, trivial⟩, ⟨_, rfl, .inl rfl, trivial⟩, trivial⟩⟩
 ·refine HT.skip (HT.seq ?_)
  refine HT.planS S_dput_ok S_dput_det mixed [] [⟨[0, 1, 2, 3, 4, 5, 6, 7, 8, 9, 11], 10, [0, 1, 2, 3, 4, 5, 6, 7, 8, 9, 11]⟩, ⟨[0, 1, 2, 3, 4, 5, 6, 7, 8, 9, 11], 12, [0, 1, 2, 3, 4, 5, 6, 7, 8, 9]⟩, ⟨[0, 1, 2, 3, 4, 5, 6, 7, 8, 9], 13, [0, 1, 2, 3, 4]⟩, ⟨[0, 1, 2, 3, 4], 14, [0, 1, 2, 3, 4]⟩, ⟨[0, 1, 2, 3, 4], 15, [0]⟩, ⟨[0, 16, 17], 18, []⟩] (by kernel_rfl) ?_
  refine Pl.lk ?_
  refine Sj rfl (V.mv (v := .ptr 1 0) rfl (Sj rfl (V.mv (v := .ptr 1 0) rfl (Sj rfl (V.ncPtr rfl (Sj rfl (V.fa ty58 rfl ty56 rfl rfl (Sj rfl (V.ld ty56 rfl rfl rfl (v := .own 2 0 _) rfl (Sj rfl (V.mi rfl (Sj rfl (V.mv (v := .ptr 1 0) rfl (Sj rfl (V.ncPtr rfl (Sj rfl (V.fa ty58 rfl ty2 rfl rfl (Sj rfl (V.ld ty2 rfl rfl rfl (v := .p (.v (.int .i64 _))) rfl (Sj rfl (V.mv (v := .p (.bs _)) rfl (Si.e ?_))))))))))))))))))))))
  refine ⟨flEq_nil, fun ff => ?_⟩
  refine Lo.n rfl (lk rfl) (A.bsl 5 ty23 ty5 rfl (lk rfl) (lk rfl) (fun _ => rfl) rfl rfl ⟨lk rfl, lk rfl, lk rfl, trivial⟩ trivial rfl (N := 0) rfl (c := .bs []) rfl ?_)
  refine ⟨_, fun ff => ff, ap0d, rfl, FG.id, ?_⟩
  show planA _ _ _ _ _ [(0, .ptr 1 0), (1, .ptr 1 0), (2, .ptr 1 0), (3, .ptr 1 2), (4, .own 2 0 _), (5, .p (.v (.int .i64 _))), (6, .ptr 1 0), (7, .ptr 1 0), (8, .ptr 1 1), (9, .p (.v (.int .i64 _))), (11, .p (.bs _))] _ _ _
  refine Pl.lk ?_
  refine Sj rfl (V.mv (v := .ptr 1 0) rfl (Sj rfl (V.mv (v := .ptr 1 0) rfl (Sj rfl (V.ncPtr rfl (Sj rfl (V.fa ty58 rfl ty56 rfl rfl (Sj rfl (V.ld ty56 rfl rfl rfl (v := .own 2 0 _) rfl (Sj rfl (V.mi rfl (Sj rfl (V.mv (v := .ptr 1 0) rfl (Sj rfl (V.ncPtr rfl (Sj rfl (V.fa ty58 rfl ty2 rfl rfl (Sj rfl (V.ld ty2 rfl rfl rfl (v := .p (.v (.int .i64 _))) rfl (Sj rfl (V.mv (v := .p (.bs _)) rfl (Si.e ?_))))))))))))))))))))))
  refine ⟨(flEq_cons rfl (flEq_cons rfl (flEq_cons rfl (flEq_cons rfl (flEq_cons rfl (flEq_cons rfl (flEq_cons rfl (flEq_cons rfl (flEq_cons rfl (flEq_cons rfl (flEq_cons rfl flEq_nil))))))))))), fun ff => ?_⟩
  refine Lo.n rfl (lk rfl) (A.apOwn ty23 ty5 rfl rfl rfl rfl (u := .p (.bs _)) rfl rfl rfl rfl (by omega) rfl rfl rfl ?_)
  refine ⟨_, fun ff => Fr.kill 5 ff, ap1d, rfl, (FG.kill 5 (flP_cons rfl (flP_cons rfl (flP_cons rfl (flP_cons rfl (flP_cons rfl (flP_cons rfl (flP_cons rfl (flP_cons rfl (flP_cons rfl (flP_cons rfl flP_nil))))))))))), ?_⟩
  show planA _ _ _ _ _ [(0, .ptr 1 0), (1, .ptr 1 0), (2, .ptr 1 0), (3, .ptr 1 2), (4, .own 2 0 _), (5, .p (.v (.int .i64 _))), (6, .ptr 1 0), (7, .ptr 1 0), (8, .ptr 1 1), (9, .p (.v (.int .i64 _)))] _ _ _
  refine Pl.lk ?_
  refine Sj rfl (V.mv (v := .ptr 1 0) rfl (Sj rfl (V.mv (v := .ptr 1 0) rfl (Sj rfl (V.ncPtr rfl (Sj rfl (V.fa ty58 rfl ty56 rfl rfl (Sj rfl (V.ld ty56 rfl rfl rfl (v := .own 2 0 _) rfl (Sj rfl (V.mi rfl (Sj rfl (V.mv (v := .ptr 1 0) rfl (Sj rfl (V.ncPtr rfl (Sj rfl (V.fa ty58 rfl ty2 rfl rfl (Sj rfl (V.ld ty2 rfl rfl rfl (v := .p (.v (.int .i64 _))) rfl (Si.e ?_))))))))))))))))))))
  refine ⟨(flEq_cons rfl (flEq_cons rfl (flEq_cons rfl (flEq_cons rfl (flEq_cons rfl (flEq_cons rfl (flEq_cons rfl (flEq_cons rfl (flEq_cons rfl (flEq_cons rfl flEq_nil)))))))))), fun ff => ?_⟩
  refine Lo.n rfl (lk rfl) (A.bldS ty45 rfl rfl ⟨by exact rfl, by exact rfl, by exact trivial, trivial⟩ rfl (f := fun j => ([.v (.int .i64 k), .v (.int .i64 e), .bs b] : List PV).getD j (.v undef)) (by exact allP_spec (P := fun j => _ = _) ⟨⟨⟨trivial, rfl⟩, rfl⟩, (congrArg (fun x => BV.p (PV.bs x)) (tkn b))⟩) ?_)
  refine ⟨_, fun ff => Fr.frz 5 _ ff, az1d, rfl, (FG.frz 5 _ (flP_cons rfl (flP_cons rfl (flP_cons rfl (flP_cons rfl (flP_cons rfl flP_nil)))))), ?_⟩
  show planA _ _ _ _ _ [(0, .ptr 1 0), (1, .ptr 1 0), (2, .ptr 1 0), (3, .ptr 1 2), (4, .own 2 0 _)] _ _ _
  refine Pl.lk ?_
  refine Sj rfl (V.mv (v := .ptr 1 0) rfl (Sj rfl (V.mv (v := .ptr 1 0) rfl (Sj rfl (V.ncPtr rfl (Sj rfl (V.fa ty58 rfl ty56 rfl rfl (Sj rfl (V.ld ty56 rfl rfl rfl (v := .own 2 0 _) rfl (Si.e ?_))))))))))
  refine ⟨(flEq_cons rfl (flEq_cons rfl (flEq_cons rfl (flEq_cons rfl (flEq_cons rfl flEq_nil))))), fun ff => ?_⟩
  refine Lo.n rfl (lk rfl) (A.bsl 5 ty56 ty45 rfl (lk rfl) (lk rfl) (fun h => Bool.noConfusion (show false = true from h)) rfl rfl ⟨lk rfl, lk rfl, lk rfl, trivial⟩ ⟨(fun j hj => by match j, hj with | 0, _ => (trivial) | 1, _ => (trivial) | 2, _ => (trivial)), trivial⟩ rfl (N := 3) rfl (c := .rows _) rfl ?_)
  refine ⟨_, fun ff => ff, ap0d, rfl, FG.id, ?_⟩
  show planA _ _ _ _ _ [(0, .ptr 1 0), (1, .ptr 1 0), (2, .ptr 1 0), (3, .ptr 1 2), (4, .own 2 0 _)] _ _ _
  refine Pl.lk ?_
  refine Sj rfl (V.mv (v := .ptr 1 0) rfl (Sj rfl (V.mv (v := .ptr 1 0) rfl (Sj rfl (V.ncPtr rfl (Sj rfl (V.fa ty58 rfl ty56 rfl rfl (Sj rfl (V.ld ty56 rfl rfl rfl (v := .own 2 0 _) rfl (Si.e ?_))))))))))
  refine ⟨(flEq_cons rfl (flEq_cons rfl (flEq_cons rfl (flEq_cons rfl (flEq_cons rfl flEq_nil))))), fun ff => ?_⟩
  refine Lo.n rfl (lk rfl) (A.apRows ty56 ty45 rfl rfl rfl (lk rfl) (lk rfl) rfl rfl (u := .own 5 0 _) rfl rfl (by intro j hj; match j, hj with | 0, _ => rfl | 1, _ => rfl | 2, _ => trivial) rfl (by (simp; omega)) rfl rfl rfl ?_)
  refine ⟨_, fun ff => Fr.kill 2 ff, ap1d, rfl, (FG.kill 2 (flP_cons rfl flP_nil)), ?_⟩
  show planA _ _ _ _ _ [(0, .ptr 1 0)] _ _ _
  refine Pl.l0 ?_
  refine Sj rfl (V.mv (v := .ptr 1 0) rfl (Sj rfl (V.ncPtr rfl (Sj rfl (V.fa ty58 rfl ty56 rfl rfl (Si.e ?_))))))
  refine ⟨(flEq_cons rfl flEq_nil), ?_⟩
  refine Lo.s rfl (A.sto ty56 rfl rfl rfl (v := .own 2 0 _) rfl trivial rfl (lk rfl) rfl rfl ?_)
  refine Pl.e ?_
  refine Si.e ?_
  refine ⟨flEq_nil, ?_⟩
  refine HT.seq (HT.region S_dput_ok (Sq (V.mv (v := .ptr 1 0) rfl (Sq (V.ncPtr rfl (Sq (V.fa ty58 rfl ty56 rfl rfl (Sq (V.ld ty56 rfl rfl rfl (v := .own 2 0 _) rfl (Sq (V.len ty56 (v := .own 2 0 _) rfl rfl (Sq (V.subI rfl rfl (by omega) (Sq (V.ai rfl (Sq (V.as (v := .p (.v (.int .i64 0))) rfl (So.e ?_))))))))))))))))))
  refine HT.ret ?_
  have hR := pl_2 (e := e) (L := L) (k := k) (b := b) (by omega)
  exact ret_ok (sg [(1, 1), (2, 2), (3, 3), (4, 4)]) h rfl rfl rfl ⟨⟨trivial, trivial, rfl, rfl, rfl, trivial⟩, trivial, trivial, trivial, trivial⟩ ⟨trivial, trivial, trivial⟩ rfl ⟨⟨⟨le_int (by (rw [hR]; dsimp only; omega)), trivial⟩, ⟨le_int (by (rw [hR]; done)), trivial⟩, trivial⟩, ⟨⟨_, rfl, .inl (by rw [hR, List.length_append]; rfl), ⟨trivial, trivial, rfl, rfl, rfl, trivial⟩⟩, ⟨_, rfl, .inr (ob_rows (by rw [hR, List.length_append]; rfl) (by intro j hj; rw [hR]; exact pR_up2 L k e b j hj)), trivial⟩, ⟨_, rfl, .inl rfl, trivial⟩, ⟨_, rfl, .inl rfl, trivial⟩, trivial⟩⟩
def rlenSp : Sp := ⟨[], mkE (α := Int) (fun n => [.p (.v (.int .i64 n))]) (fun n => []) (fun n => True) (fun n => [.own 1 0 ((lenF n).length)]) (fun n => [(1, ⟨5, 1, (lenF n).length, true, .bs (lenF n)⟩)])⟩
def S_rlen : FuncId -> Option Sp := fun _ => none
theorem S_rlen_ok : ∀ f s, S_rlen f = some s -> FOK Tryd.prog gl f s := fun f s h => by cases h
theorem rlen_ok : FOK Tryd.prog gl 74 rlenSp := by
 refine FOK.ofE (tyOf_ok Tryd.prog) (slots := [2]) (nt := 30) Tryd.func74 rfl rfl rfl rfl (by decide) 1 (fun _ => rfl) (by decide) (fun _ => ⟨trivial, trivial⟩) ?_
 rintro n kk hlen hpre h
 replace hpre : True := hpre
 show HT (cx Tryd.prog 30 (tyOf Tryd.prog) gl []) _ [(0, .p (.v (.int .i64 n)))] [] _
 refine HT.seq (HT.region S_rlen_ok (Sq (V.as (v := .p (.v (.slice none 0 0))) rfl (So.e (HT.seq (HT.seq (HT.region S_rlen_ok (Sq (V.mi rfl (Sq (V.bin (a := .v (.int .i64 _)) (b := .v (.int .i64 64)) (r := .v (.bool _)) rfl rfl rfl trivial (So.e ?_))))))))))))
 refine R.cd rfl rfl (fun h1 => ?_) (fun h1 => ?_)
 ·refine HT.seq (HT.region S_rlen_ok (Sq (V.mi rfl (Sq (V.cvN ty5 ty3 (a := .v (.int .i64 _)) (r := .u8 _) rfl rfl (So.n (lk rfl) (A.bsl 1 ty23 ty5 rfl (lk rfl) (lk rfl) (fun _ => rfl) rfl rfl trivial ⟨trivial, trivial⟩ rfl (N := 1) rfl (c := .bs [_]) rfl (Sq (V.as (v := .own 1 0 _) rfl (So.e ?_))))))))))
  refine HT.ret ?_
  exact ret_ok (sg [(1, 1)]) h rfl rfl rfl ⟨trivial, trivial⟩ ⟨rfl, trivial⟩ rfl ⟨⟨⟨le_own2 (by rfl) (by (unfold lenF; simp (disch := omega) only [if_pos, if_neg] <;> rfl)), rfl⟩, trivial⟩, ⟨⟨_, rfl, .inl (ob_bs (by unfold lenF; simp (disch := omega) only [if_pos, if_neg] <;> rfl) (by unfold lenF; simp (disch := omega) only [if_pos, if_neg] <;> first | rfl | (rw [u8_add64]) | (rw [u8_add128]))), trivial⟩, trivial⟩⟩
 ·refine HT.skip (HT.seq (HT.seq (HT.region S_rlen_ok (Sq (V.mi rfl (Sq (V.bin (a := .v (.int .i64 _)) (b := .v (.int .i64 16384)) (r := .v (.bool _)) rfl rfl rfl trivial (So.e ?_))))))))
  refine R.cd rfl rfl (fun h2 => ?_) (fun h2 => ?_)
  ·refine HT.seq (HT.region S_rlen_ok (Sq (V.mi rfl (Sq (V.shrI (n := 8) (M := 256) rfl rfl rfl (by decide) (Sq (V.cvN ty5 ty3 (a := .v (.int .i64 _)) (r := .u8 _) rfl rfl (Sq (V.bin (a := .u8 _) (b := .u8 64) (r := .u8 _) rfl rfl rfl trivial (Sq (V.mi rfl (Sq (V.cvN ty5 ty3 (a := .v (.int .i64 _)) (r := .u8 _) rfl rfl (So.n (lk rfl) (A.bsl 1 ty23 ty5 rfl (lk rfl) (lk rfl) (fun _ => rfl) rfl rfl trivial ⟨trivial, trivial, trivial⟩ rfl (N := 2) rfl (c := .bs [_, _]) rfl (Sq (V.as (v := .own 1 0 _) rfl (So.e ?_))))))))))))))))))
   refine HT.ret ?_
   exact ret_ok (sg [(1, 1)]) h rfl rfl rfl ⟨trivial, trivial⟩ ⟨rfl, trivial⟩ rfl ⟨⟨⟨le_own2 (by rfl) (by (unfold lenF; simp (disch := omega) only [if_pos, if_neg] <;> rfl)), rfl⟩, trivial⟩, ⟨⟨_, rfl, .inl (ob_bs (by unfold lenF; simp (disch := omega) only [if_pos, if_neg] <;> rfl) (by unfold lenF; simp (disch := omega) only [if_pos, if_neg] <;> (rw [u8_add64]))), trivial⟩, trivial⟩⟩
  ·refine HT.skip (HT.seq (HT.region S_rlen_ok (Sq (V.mi rfl (Sq (V.shrI (n := 24) (M := 16777216) rfl rfl rfl (by decide) (Sq (V.cvN ty5 ty3 (a := .v (.int .i64 _)) (r := .u8 _) rfl rfl (Sq (V.bin (a := .u8 _) (b := .u8 128) (r := .u8 _) rfl rfl rfl trivial (Sq (V.mi rfl (Sq (V.shrI (n := 16) (M := 65536) rfl rfl rfl (by decide) (Sq (V.cvN ty5 ty3 (a := .v (.int .i64 _)) (r := .u8 _) rfl rfl (Sq (V.mi rfl (Sq (V.shrI (n := 8) (M := 256) rfl rfl rfl (by decide) (Sq (V.cvN ty5 ty3 (a := .v (.int .i64 _)) (r := .u8 _) rfl rfl (Sq (V.mi rfl (Sq (V.cvN ty5 ty3 (a := .v (.int .i64 _)) (r := .u8 _) rfl rfl (So.n (lk rfl) (A.bsl 1 ty23 ty5 rfl (lk rfl) (lk rfl) (fun _ => rfl) rfl rfl trivial ⟨trivial, trivial, trivial, trivial, trivial⟩ rfl (N := 4) rfl (c := .bs [_, _, _, _]) rfl (Sq (V.as (v := .own 1 0 _) rfl (So.e ?_)))))))))))))))))))))))))))))))
   refine HT.ret ?_
   exact ret_ok (sg [(1, 1)]) h rfl rfl rfl ⟨trivial, trivial⟩ ⟨rfl, trivial⟩ rfl ⟨⟨⟨le_own2 (by rfl) (by (unfold lenF; simp (disch := omega) only [if_pos, if_neg] <;> rfl)), rfl⟩, trivial⟩, ⟨⟨_, rfl, .inl (ob_bs (by unfold lenF; simp (disch := omega) only [if_pos, if_neg] <;> rfl) (by unfold lenF; simp (disch := omega) only [if_pos, if_neg] <;> (rw [u8_add128]))), trivial⟩, trivial⟩⟩
def rgetSp : Sp := ⟨[], mkE (α := (List UInt8) × Int × Int) (fun (b, i, n) => [.p (.bs b), .p (.v (.int .i64 i)), .p (.v (.int .i64 n))]) (fun (b, i, n) => []) (fun (b, i, n) => True) (fun (b, i, n) => [.p (.v (.int .i64 ((getF b i n).1))), .p (.v (.int .i64 ((getF b i n).2.1))), .p (.v (.int .i64 ((getF b i n).2.2)))]) (fun (b, i, n) => [])⟩
def S_rget : FuncId -> Option Sp := fun _ => none
theorem S_rget_ok : ∀ f s, S_rget f = some s -> FOK Tryd.prog gl f s := fun f s h => by cases h
theorem rget_ok : FOK Tryd.prog gl 68 rgetSp := by
 refine FOK.ofE (tyOf_ok Tryd.prog) (slots := [6, 7, 8]) (nt := 63) Tryd.func68 rfl rfl rfl rfl (by decide) 3 (fun ⟨_, _, _⟩ => rfl) (by decide) (fun ⟨_, _, _⟩ => ⟨trivial, trivial, trivial, trivial⟩) ?_
 rintro ⟨b, i, n⟩ kk hlen hpre h
 have hl0 : (b).length <= 9223372036854775807 := hlen.1
 replace hpre : True := hpre
 show HT (cx Tryd.prog 63 (tyOf Tryd.prog) gl []) _ [(0, .p (.bs b)), (1, .p (.v (.int .i64 i))), (2, .p (.v (.int .i64 n)))] [] _
 refine HT.seq (HT.region S_rget_ok (Sq (V.as (v := .p (.v (.int .i64 0))) rfl (Sq (V.as (v := .p (.v (.int .i64 0))) rfl (Sq (V.as (v := .p (.v (.int .i64 0))) rfl (So.e ?_))))))))
 refine R.cut (0 <= i /\ i <= b.length /\ (n = 1 ∨ n = 2 ∨ n = 4 ∨ n = 8)) [] [] [0, 1, 2] [] (fr0 := [(0, .p (.bs _)), (1, .p (.v (.int .i64 _))), (2, .p (.v (.int .i64 _)))]) (O0 := []) rfl rfl ?_ (fun hphi => ?_)
 ·refine HT.seq ?_
  refine HT.region S_rget_ok (Sq (V.mi rfl (Sq (V.bin (a := .v (.int .i64 _)) (b := .v (.int .i64 0)) (r := .v (.bool _)) rfl rfl rfl trivial (Sq (V.mv (v := .p (.v (.bool _))) rfl ?_))))))
  refine So.gd rfl rfl (lk rfl) (lk rfl) (fun h1 => ?_) (fun h1 => ?_)
  ·have h1 := of_decide_eq_false h1
   refine A.v rfl (V.mi rfl (So.gy rfl rfl (lk rfl) (lk rfl) (A.v rfl (V.mv (v := .p (.bs _)) rfl (So.gy rfl rfl (lk rfl) (lk rfl) (A.v rfl (V.len ty23 (v := .p (.bs _)) rfl rfl (So.gy rfl rfl (lk rfl) (lk rfl) (A.v rfl (V.bin (a := .v (.int .i64 _)) (b := .v (.int .i64 _)) (r := .v (.bool _)) rfl rfl rfl trivial (Sq (V.pkFalse (u := .p (.v (.bool _))) rfl rfl (Sq (V.mv (v := .p (.v (.bool _))) rfl ?_))))))))))))))
   refine So.gd rfl rfl (lk rfl) (lk rfl) (fun h2 => ?_) (fun h2 => ?_)
   ·have h2 := of_decide_eq_false h2
    refine A.v rfl (V.mi rfl (So.gy rfl rfl (lk rfl) (lk rfl) (A.v rfl (V.bin (a := .v (.int .i64 _)) (b := .v (.int .i64 1)) (r := .v (.bool _)) rfl rfl rfl trivial (So.gy rfl rfl (lk rfl) (lk rfl) (A.v rfl (V.mv (v := .p (.v (.bool _))) rfl ?_)))))))
    refine So.gd rfl rfl (lk rfl) (lk rfl) (fun h3 => ?_) (fun h3 => ?_)
    ·have h3 := of_decide_eq_false (bnT h3)
     refine A.v rfl (V.mi rfl (So.gy rfl rfl (lk rfl) (lk rfl) (A.v rfl (V.bin (a := .v (.int .i64 _)) (b := .v (.int .i64 2)) (r := .v (.bool _)) rfl rfl rfl trivial (So.gy rfl rfl (lk rfl) (lk rfl) (A.v rfl (V.pkTrue (u := .p (.v (.bool _))) rfl rfl (So.gy rfl rfl (lk rfl) (lk rfl) (A.v rfl (V.mv (v := .p (.v (.bool _))) rfl ?_))))))))))
     refine So.gd rfl rfl (lk rfl) (lk rfl) (fun h4 => ?_) (fun h4 => ?_)
     ·have h4 := of_decide_eq_false (bnT h4)
      refine A.v rfl (V.mi rfl (So.gy rfl rfl (lk rfl) (lk rfl) (A.v rfl (V.bin (a := .v (.int .i64 _)) (b := .v (.int .i64 4)) (r := .v (.bool _)) rfl rfl rfl trivial (So.gy rfl rfl (lk rfl) (lk rfl) (A.v rfl (V.pkTrue (u := .p (.v (.bool _))) rfl rfl (So.gy rfl rfl (lk rfl) (lk rfl) (A.v rfl (V.mv (v := .p (.v (.bool _))) rfl ?_))))))))))
      refine So.gd rfl rfl (lk rfl) (lk rfl) (fun h5 => ?_) (fun h5 => ?_)
      ·have h5 := of_decide_eq_false (bnT h5)
       refine A.v rfl (V.mi rfl (So.gy rfl rfl (lk rfl) (lk rfl) (A.v rfl (V.bin (a := .v (.int .i64 _)) (b := .v (.int .i64 8)) (r := .v (.bool _)) rfl rfl rfl trivial (So.gy rfl rfl (lk rfl) (lk rfl) (A.v rfl (V.pkTrue (u := .p (.v (.bool _))) rfl rfl (Sq (V.pkFalse (u := .p (.v (.bool _))) rfl rfl (So.e ?_))))))))))
       refine R.cond rfl rfl (fun h6 => ?_) (fun h6 => ?_)
       ·have h6 := of_decide_eq_false (bnT h6)
        refine HT.seq (HT.region S_rget_ok (Sq (V.as (v := .p (.v (.int .i64 0))) rfl (Sq (V.as (v := .p (.v (.int .i64 0))) rfl (Sq (V.as (v := .p (.v (.int .i64 1))) rfl (So.e ?_))))))))
        refine HT.ret ?_
        exact rt3 h (le_int (by (rw [getF_arg (by omega)]; done))) (le_int (by (rw [getF_arg (by omega)]; done))) (le_int (by (rw [getF_arg (by omega)]; done)))
       ·have h6 := of_decide_eq_true (bnF h6)
        refine HT.skip ?_
        exact ⟨by omega, ⟨⟨⟨.refl _, trivial⟩, ⟨.refl _, trivial⟩, ⟨.refl _, trivial⟩, trivial⟩, trivial⟩⟩
      ·have h5 := of_decide_eq_true (bnF h5)
       refine So.gn (b := false) rfl rfl rfl (lk rfl) (lk rfl) (So.gy rfl rfl (lk rfl) (lk rfl) (A.v rfl (V.pkFalse (u := .p (.v (.bool false))) rfl rfl (Sq (V.pkFalse (u := .p (.v (.bool false))) rfl rfl (So.e ?_))))))
       refine R.condF rfl ?_
       refine HT.skip ?_
       exact ⟨by omega, ⟨⟨⟨.refl _, trivial⟩, ⟨.refl _, trivial⟩, ⟨.refl _, trivial⟩, trivial⟩, trivial⟩⟩
     ·have h4 := of_decide_eq_true (bnF h4)
      refine So.gn (b := false) rfl rfl rfl (lk rfl) (lk rfl) (So.gy rfl rfl (lk rfl) (lk rfl) (A.v rfl (V.pkFalse (u := .p (.v (.bool false))) rfl rfl (So.gy rfl rfl (lk rfl) (lk rfl) (A.v rfl (V.mv (v := .p (.v (.bool false))) rfl (So.gn (b := false) rfl rfl rfl (lk rfl) (lk rfl) (So.gn (b := false) rfl rfl rfl (lk rfl) (lk rfl) (So.gy rfl rfl (lk rfl) (lk rfl) (A.v rfl (V.pkFalse (u := .p (.v (.bool false))) rfl rfl (Sq (V.pkFalse (u := .p (.v (.bool false))) rfl rfl (So.e ?_))))))))))))))
      refine R.condF rfl ?_
      refine HT.skip ?_
      exact ⟨by omega, ⟨⟨⟨.refl _, trivial⟩, ⟨.refl _, trivial⟩, ⟨.refl _, trivial⟩, trivial⟩, trivial⟩⟩
    ·have h3 := of_decide_eq_true (bnF h3)
     refine So.gn (b := false) rfl rfl rfl (lk rfl) (lk rfl) (So.gy rfl rfl (lk rfl) (lk rfl) (A.v rfl (V.pkFalse (u := .p (.v (.bool false))) rfl rfl (So.gy rfl rfl (lk rfl) (lk rfl) (A.v rfl (V.mv (v := .p (.v (.bool false))) rfl (So.gn (b := false) rfl rfl rfl (lk rfl) (lk rfl) (So.gn (b := false) rfl rfl rfl (lk rfl) (lk rfl) (So.gy rfl rfl (lk rfl) (lk rfl) (A.v rfl (V.pkFalse (u := .p (.v (.bool false))) rfl rfl (So.gy rfl rfl (lk rfl) (lk rfl) (A.v rfl (V.mv (v := .p (.v (.bool false))) rfl (So.gn (b := false) rfl rfl rfl (lk rfl) (lk rfl) (So.gn (b := false) rfl rfl rfl (lk rfl) (lk rfl) (So.gy rfl rfl (lk rfl) (lk rfl) (A.v rfl (V.pkFalse (u := .p (.v (.bool false))) rfl rfl (Sq (V.pkFalse (u := .p (.v (.bool false))) rfl rfl (So.e ?_))))))))))))))))))))))
     refine R.condF rfl ?_
     refine HT.skip ?_
     exact ⟨by omega, ⟨⟨⟨.refl _, trivial⟩, ⟨.refl _, trivial⟩, ⟨.refl _, trivial⟩, trivial⟩, trivial⟩⟩
   ·have h2 := of_decide_eq_true h2
    refine So.gn (b := true) rfl rfl rfl (lk rfl) (lk rfl) (So.gn (b := true) rfl rfl rfl (lk rfl) (lk rfl) ?_)
    refine So.gu rfl rfl (lk rfl) ?_
    refine So.gu rfl rfl (lk rfl) ?_
    refine So.gn (b := true) rfl rfl rfl (lk rfl) (lk rfl) (So.gn (b := true) rfl rfl rfl (lk rfl) (lk rfl) ?_)
    refine So.gu rfl rfl (lk rfl) ?_
    refine So.gu rfl rfl (lk rfl) ?_
    refine So.gn (b := true) rfl rfl rfl (lk rfl) (lk rfl) (So.gn (b := true) rfl rfl rfl (lk rfl) (lk rfl) ?_)
    refine So.gu rfl rfl (lk rfl) ?_
    refine So.gu rfl rfl (lk rfl) ?_
    refine So.gn (b := true) rfl rfl rfl (lk rfl) (lk rfl) (Sq (V.pkTrue (u := .p (.v (.bool true))) rfl rfl (So.e ?_)))
    refine R.condT rfl ?_
    refine HT.seq (HT.region S_rget_ok (Sq (V.as (v := .p (.v (.int .i64 0))) rfl (Sq (V.as (v := .p (.v (.int .i64 0))) rfl (Sq (V.as (v := .p (.v (.int .i64 1))) rfl (So.e ?_))))))))
    refine HT.ret ?_
    exact rt3 h (le_int (by (rw [getF_arg (by omega)]; done))) (le_int (by (rw [getF_arg (by omega)]; done))) (le_int (by (rw [getF_arg (by omega)]; done)))
  ·have h1 := of_decide_eq_true h1
   refine So.gn (b := true) rfl rfl rfl (lk rfl) (lk rfl) (So.gn (b := true) rfl rfl rfl (lk rfl) (lk rfl) (So.gn (b := true) rfl rfl rfl (lk rfl) (lk rfl) (Sq (V.pkTrue (u := .p (.v (.bool true))) rfl rfl (Sq (V.mv (v := .p (.v (.bool true))) rfl (So.gn (b := true) rfl rfl rfl (lk rfl) (lk rfl) (So.gn (b := true) rfl rfl rfl (lk rfl) (lk rfl) (So.gn (b := true) rfl rfl rfl (lk rfl) (lk rfl) ?_)))))))))
   refine So.gu rfl rfl (lk rfl) ?_
   refine So.gu rfl rfl (lk rfl) ?_
   refine So.gn (b := true) rfl rfl rfl (lk rfl) (lk rfl) (So.gn (b := true) rfl rfl rfl (lk rfl) (lk rfl) ?_)
   refine So.gu rfl rfl (lk rfl) ?_
   refine So.gu rfl rfl (lk rfl) ?_
   refine So.gn (b := true) rfl rfl rfl (lk rfl) (lk rfl) (So.gn (b := true) rfl rfl rfl (lk rfl) (lk rfl) ?_)
   refine So.gu rfl rfl (lk rfl) ?_
   refine So.gu rfl rfl (lk rfl) ?_
   refine So.gn (b := true) rfl rfl rfl (lk rfl) (lk rfl) (Sq (V.pkTrue (u := .p (.v (.bool true))) rfl rfl (So.e ?_)))
   refine R.condT rfl ?_
   refine HT.seq (HT.region S_rget_ok (Sq (V.as (v := .p (.v (.int .i64 0))) rfl (Sq (V.as (v := .p (.v (.int .i64 0))) rfl (Sq (V.as (v := .p (.v (.int .i64 1))) rfl (So.e ?_))))))))
   refine HT.ret ?_
   exact rt3 h (le_int (by (rw [getF_arg (by omega)]; done))) (le_int (by (rw [getF_arg (by omega)]; done))) (le_int (by (rw [getF_arg (by omega)]; done)))
 ·refine HT.seq ?_
  refine HT.seq (HT.region S_rget_ok (Sq (V.mv (v := .p (.bs _)) rfl (Sq (V.len ty23 (v := .p (.bs _)) rfl rfl (Sq (V.mi rfl (Sq (V.subI rfl rfl (by omega) (Sq (V.mi rfl (Sq (V.bin (a := .v (.int .i64 _)) (b := .v (.int .i64 _)) (r := .v (.bool _)) rfl rfl rfl trivial (So.e ?_))))))))))))))
  refine R.cd rfl rfl (fun h7 => ?_) (fun h7 => ?_)
  ·refine HT.seq (HT.region S_rget_ok (Sq (V.as (v := .p (.v (.int .i64 0))) rfl (Sq (V.as (v := .p (.v (.int .i64 0))) rfl (Sq (V.as (v := .p (.v (.int .i64 111))) rfl (So.e ?_))))))))
   refine HT.ret ?_
   exact rt3 h (le_int (by (rw [getF_end (by omega) (by omega) (by omega) (by omega)]; done))) (le_int (by (rw [getF_end (by omega) (by omega) (by omega) (by omega)]; done))) (le_int (by (rw [getF_end (by omega) (by omega) (by omega) (by omega)]; done)))
  ·refine HT.skip (HT.seq (HT.region S_rget_ok (Sq (V.as (v := .p (.u64 0)) rfl (So.e (HT.seq (HT.seq (HT.region S_rget_ok (Sq (V.as (v := .p (.v (.int .i64 0))) rfl (So.e (HT.block ?_))))))))))))
   refine R.loop (σ := Nat) (fun s => [(9, .p (.u64 (UInt64.ofNat (beN (((b.take (i + n).toNat).drop i.toNat).take s))))), (10, .p (.v (.int .i64 ((s : Int)))))]) (fun s => []) [0, 1, 2] [] (fun s => s <= n.toNat) (fun s => n.toNat - s) (0) (fr0 := [(0, .p (.bs _)), (1, .p (.v (.int .i64 _))), (2, .p (.v (.int .i64 _)))]) (O0 := []) rfl rfl (by omega) ⟨⟨⟨le_u64 (by rfl), trivial⟩, ⟨le_int (by rfl), trivial⟩, ⟨.refl _, trivial⟩, ⟨.refl _, trivial⟩, ⟨.refl _, trivial⟩, trivial⟩, trivial⟩ (fun s hP0 => ?_)
   have hcl := @cut_len b i n (by omega) (by omega) (by omega)
   refine HT.seq (HT.seq (HT.region S_rget_ok (Sq (V.mv (v := .p (.v (.int .i64 ((_ : Nat) : Int)))) rfl (Sq (V.mi rfl (Sq (V.bin (a := (.v (.int .i64 ((_ : Nat) : Int)))) (b := .v (.int .i64 _)) (r := .v (.bool _)) rfl rfl rfl trivial (So.e ?_)))))))))
   refine R.cd rfl rfl (fun h8 => ?_) (fun h8 => ?_)
   ·refine HT.skip (HT.seq (HT.block (HT.region S_rget_ok (Sq (V.mv (v := .p (.u64 _)) rfl (Sq (V.shlC (n := 8) (a := .u64 _) (b := .u64 8) (r := .u64 (u64Shl _ 8)) rfl rfl rfl rfl (Sq (V.mv (v := .p (.bs _)) rfl (Sq (V.mi rfl (Sq (V.mv (v := .p (.v (.int .i64 ((_ : Nat) : Int)))) rfl (Sq (V.addI rfl rfl (by omega) (Sq (V.ixBs ty23 ty5 rfl rfl rfl (by omega) rfl (Sq (V.ldRp ty5 rfl rfl (lk rfl) (v := .u8 _) rfl (Sq (V.cvN ty117 ty5 (a := .u8 _) (r := .u64 _) rfl rfl (Sq (V.bin (a := .u64 _) (b := .u64 _) (r := .u64 _) rfl rfl rfl trivial (Sq (V.as (v := .p (.u64 _)) rfl (So.e (HT.region S_rget_ok (Sq (V.mv (v := .p (.v (.int .i64 ((_ : Nat) : Int)))) rfl (Sq (V.addI rfl rfl (by omega) (Sq (V.ai rfl (So.e ?_))))))))))))))))))))))))))))))))))
    refine ⟨s + 1, by omega, by omega, ⟨⟨⟨le_u64 (by (rw [cut_get (n := n) (by omega) (by omega) (by omega), u64_step, beN_take (by omega)])), trivial⟩, ⟨le_int (by rfl), trivial⟩, ⟨.refl _, trivial⟩, ⟨.refl _, trivial⟩, ⟨.refl _, trivial⟩, trivial⟩, trivial⟩⟩
   ·refine HT.exit ?_
    refine HT.seq (HT.seq (HT.region S_rget_ok ?_))
    replace hP0 : s = n.toNat := by omega
    rw [show ((b.take (i + n).toNat).drop i.toNat).take s = ((b.take (i + n).toNat).drop i.toNat) from List.take_of_length_le (by omega)]
    refine Sq (V.mv (v := .p (.u64 _)) rfl (Sq (V.bin (a := .u64 _) (b := .u64 9223372036854775807) (r := .v (.bool _)) rfl rfl rfl trivial (So.e ?_))))
    refine R.cond rfl rfl (fun h9 => ?_) (fun h9 => ?_)
    ·have h9 := UInt64.lt_iff_toNat_lt.1 (of_decide_eq_true h9)
     rw [show (9223372036854775807 : UInt64).toNat = 9223372036854775807 from rfl] at h9
     refine HT.seq (HT.region S_rget_ok (Sq (V.as (v := .p (.v (.int .i64 0))) rfl (Sq (V.as (v := .p (.v (.int .i64 0))) rfl (Sq (V.as (v := .p (.v (.int .i64 112))) rfl (So.e ?_))))))))
     refine HT.ret ?_
     exact rt3 h (le_int (by (rw [getF_longU (by omega) (by omega) (by omega) (by omega) (by omega)]; done))) (le_int (by (rw [getF_longU (by omega) (by omega) (by omega) (by omega) (by omega)]; done))) (le_int (by (rw [getF_longU (by omega) (by omega) (by omega) (by omega) (by omega)]; done)))
    ·have h9 := mt UInt64.lt_iff_toNat_lt.2 (of_decide_eq_false h9)
     rw [show (9223372036854775807 : UInt64).toNat = 9223372036854775807 from rfl] at h9
     refine HT.skip (HT.seq (HT.region S_rget_ok (Sq (V.mv (v := .p (.u64 _)) rfl (Sq (V.cvN ty2 ty117 (a := .u64 _) (r := .v (.int .i64 _)) rfl rfl (Sq (V.mi rfl (Sq (V.mi rfl (Sq (V.addI rfl rfl (by omega) (Sq (V.ai rfl (Sq (V.ai rfl (Sq (V.as (v := .p (.v (.int .i64 0))) rfl (So.e ?_)))))))))))))))))))
     refine HT.ret ?_
     exact rt3 h (le_int (by (rw [getF_okU (by omega) (by omega) (by omega) (by omega) (by omega)]; done))) (le_int (by (rw [getF_okU (by omega) (by omega) (by omega) (by omega) (by omega)]; done))) (le_int (by (rw [getF_okU (by omega) (by omega) (by omega) (by omega) (by omega)]; done)))
def rhdSp : Sp := ⟨[], mkE (α := (List UInt8) × Int) (fun (b, i) => [.p (.bs b), .p (.v (.int .i64 i))]) (fun (b, i) => []) (fun (b, i) => True) (fun (b, i) => [.p (.v (.int .i64 ((hdF b i).1))), .p (.v (.int .i64 ((hdF b i).2.1))), .p (.v (.int .i64 ((hdF b i).2.2)))]) (fun (b, i) => [])⟩
def S_rhd : FuncId -> Option Sp := fun f => if f = 74 then some rlenSp else none
theorem S_rhd_ok : ∀ f s, S_rhd f = some s -> FOK Tryd.prog gl f s := sI rlen_ok sN
theorem rhd_ok : FOK Tryd.prog gl 73 rhdSp := by
 refine FOK.ofE (tyOf_ok Tryd.prog) (slots := [4, 5, 6]) (nt := 83) Tryd.func73 rfl rfl rfl rfl (by decide) 2 (fun ⟨_, _⟩ => rfl) (by decide) (fun ⟨_, _⟩ => ⟨trivial, trivial, trivial⟩) ?_
 rintro ⟨b, i⟩ kk hlen hpre h
 have hl0 : (b).length <= 9223372036854775807 := hlen.1
 replace hpre : True := hpre
 show HT (cx Tryd.prog 83 (tyOf Tryd.prog) gl []) _ [(0, .p (.bs b)), (1, .p (.v (.int .i64 i)))] [] _
 refine HT.seq (HT.region S_rhd_ok (Sq (V.as (v := .p (.v (.int .i64 0))) rfl (Sq (V.as (v := .p (.v (.int .i64 0))) rfl (Sq (V.as (v := .p (.v (.int .i64 0))) rfl (So.e (HT.seq (HT.seq (HT.region S_rhd_ok (Sq (V.mi rfl (Sq (V.bin (a := .v (.int .i64 _)) (b := .v (.int .i64 0)) (r := .v (.bool _)) rfl rfl rfl trivial (Sq (V.mv (v := .p (.v (.bool _))) rfl ?_)))))))))))))))))
 refine So.gd rfl rfl (lk rfl) (lk rfl) (fun h1 => ?_) (fun h1 => ?_)
 ·have h1 := of_decide_eq_false h1
  refine A.v rfl (V.mi rfl (So.gy rfl rfl (lk rfl) (lk rfl) (A.v rfl (V.mv (v := .p (.bs _)) rfl (So.gy rfl rfl (lk rfl) (lk rfl) (A.v rfl (V.len ty23 (v := .p (.bs _)) rfl rfl (So.gy rfl rfl (lk rfl) (lk rfl) (A.v rfl (V.bin (a := .v (.int .i64 _)) (b := .v (.int .i64 _)) (r := .v (.bool _)) rfl rfl rfl trivial (Sq (V.pkFalse (u := .p (.v (.bool _))) rfl rfl (So.e ?_)))))))))))))
  refine R.cd rfl rfl (fun h2 => ?_) (fun h2 => ?_)
  ·refine HT.seq (HT.region S_rhd_ok (Sq (V.as (v := .p (.v (.int .i64 0))) rfl (Sq (V.as (v := .p (.v (.int .i64 0))) rfl (Sq (V.as (v := .p (.v (.int .i64 1))) rfl (So.e ?_))))))))
   refine HT.ret ?_
   exact rt3 h (le_int (by (rw [hd_arg (by omega)]; done))) (le_int (by (rw [hd_arg (by omega)]; done))) (le_int (by (rw [hd_arg (by omega)]; done)))
  ·refine HT.skip (HT.seq (HT.seq (HT.region S_rhd_ok (Sq (V.mi rfl (Sq (V.mv (v := .p (.bs _)) rfl (Sq (V.len ty23 (v := .p (.bs _)) rfl rfl (Sq (V.bin (a := .v (.int .i64 _)) (b := .v (.int .i64 _)) (r := .v (.bool _)) rfl rfl rfl trivial (So.e ?_))))))))))))
   refine R.cd rfl rfl (fun h3 => ?_) (fun h3 => ?_)
   ·refine HT.seq (HT.region S_rhd_ok (Sq (V.as (v := .p (.v (.int .i64 0))) rfl (Sq (V.as (v := .p (.v (.int .i64 0))) rfl (Sq (V.as (v := .p (.v (.int .i64 111))) rfl (So.e ?_))))))))
    refine HT.ret ?_
    exact rt3 h (le_int (by (rw [hd_end (by omega)]; done))) (le_int (by (rw [hd_end (by omega)]; done))) (le_int (by (rw [hd_end (by omega)]; done)))
   ·refine HT.skip (HT.seq (HT.region S_rhd_ok (Sq (V.as (v := .p (.v (.int .i64 1))) rfl (So.e (HT.seq (HT.seq (HT.region S_rhd_ok (Sq (V.mv (v := .p (.bs _)) rfl (Sq (V.mi rfl (Sq (V.ixBs ty23 ty5 rfl rfl rfl (by omega) rfl (Sq (V.ldRp ty5 rfl rfl (lk rfl) (v := .u8 _) rfl (Sq (V.bin (a := .u8 _) (b := .u8 192) (r := .v (.bool _)) rfl rfl rfl trivial (So.e ?_)))))))))))))))))))
    refine R.cond rfl rfl (fun h4 => ?_) (fun h4 => ?_)
    ·have h4 := UInt8.le_iff_toNat_le.1 (of_decide_eq_true h4)
     rw [show (192 : UInt8).toNat = 192 from rfl] at h4
     refine HT.seq (HT.region S_rhd_ok (Sq (V.as (v := .p (.v (.int .i64 0))) rfl (Sq (V.as (v := .p (.v (.int .i64 0))) rfl (Sq (V.as (v := .p (.v (.int .i64 112))) rfl (So.e ?_))))))))
     refine HT.ret ?_
     exact rt3 h (le_int (by (rw [hd_192 (by omega) (by omega) (by omega)]; done))) (le_int (by (rw [hd_192 (by omega) (by omega) (by omega)]; done))) (le_int (by (rw [hd_192 (by omega) (by omega) (by omega)]; done)))
    ·have h4 := mt UInt8.le_iff_toNat_le.2 (of_decide_eq_false h4)
     rw [show (192 : UInt8).toNat = 192 from rfl] at h4
     refine HT.skip ?_
     refine R.cut True [(7, .p (.v (.int .i64 (szOf (b.getD i.toNat 0)))))] [] [0, 1, 4, 5, 6] [] (fr0 := [(0, .p (.bs _)), (1, .p (.v (.int .i64 _))), (4, .p (.v (.int .i64 _))), (5, .p (.v (.int .i64 _))), (6, .p (.v (.int .i64 _)))]) (O0 := []) rfl rfl ?_ (fun hphi => ?_)
     ·refine HT.seq ?_
      refine HT.region S_rhd_ok (Sq (V.mv (v := .p (.bs _)) rfl (Sq (V.mi rfl (Sq (V.ixBs ty23 ty5 rfl rfl rfl (by omega) rfl (Sq (V.ldRp ty5 rfl rfl (lk rfl) (v := .u8 _) rfl (Sq (V.bin (a := .u8 _) (b := .u8 128) (r := .v (.bool _)) rfl rfl rfl trivial (So.e ?_)))))))))))
      refine R.cond rfl rfl (fun h5 => ?_) (fun h5 => ?_)
      ·have h5 := UInt8.le_iff_toNat_le.1 (of_decide_eq_true h5)
       rw [show (128 : UInt8).toNat = 128 from rfl] at h5
       refine HT.region S_rhd_ok (Sq (V.as (v := .p (.v (.int .i64 4))) rfl (So.e ?_)))
       exact ⟨by trivial, ⟨⟨⟨le_int (by (unfold szOf; simp (disch := omega) only [if_pos, if_neg])), trivial⟩, ⟨.refl _, trivial⟩, ⟨.refl _, trivial⟩, ⟨.refl _, trivial⟩, ⟨.refl _, trivial⟩, ⟨.refl _, trivial⟩, trivial⟩, trivial⟩⟩
      ·have h5 := mt UInt8.le_iff_toNat_le.2 (of_decide_eq_false h5)
       rw [show (128 : UInt8).toNat = 128 from rfl] at h5
       refine HT.seq (HT.region S_rhd_ok (Sq (V.mv (v := .p (.bs _)) rfl (Sq (V.mi rfl (Sq (V.ixBs ty23 ty5 rfl rfl rfl (by omega) rfl (Sq (V.ldRp ty5 rfl rfl (lk rfl) (v := .u8 _) rfl (Sq (V.bin (a := .u8 _) (b := .u8 64) (r := .v (.bool _)) rfl rfl rfl trivial (So.e ?_))))))))))))
       refine R.cond rfl rfl (fun h6 => ?_) (fun h6 => ?_)
       ·have h6 := UInt8.le_iff_toNat_le.1 (of_decide_eq_true h6)
        rw [show (64 : UInt8).toNat = 64 from rfl] at h6
        refine HT.region S_rhd_ok (Sq (V.as (v := .p (.v (.int .i64 2))) rfl (So.e ?_)))
        exact ⟨by trivial, ⟨⟨⟨le_int (by (unfold szOf; simp (disch := omega) only [if_pos, if_neg])), trivial⟩, ⟨.refl _, trivial⟩, ⟨.refl _, trivial⟩, ⟨.refl _, trivial⟩, ⟨.refl _, trivial⟩, ⟨.refl _, trivial⟩, trivial⟩, trivial⟩⟩
       ·have h6 := mt UInt8.le_iff_toNat_le.2 (of_decide_eq_false h6)
        rw [show (64 : UInt8).toNat = 64 from rfl] at h6
        refine HT.skip ?_
        exact ⟨by trivial, ⟨⟨⟨le_int (by (unfold szOf; simp (disch := omega) only [if_pos, if_neg])), trivial⟩, ⟨.refl _, trivial⟩, ⟨.refl _, trivial⟩, ⟨.refl _, trivial⟩, ⟨.refl _, trivial⟩, ⟨.refl _, trivial⟩, trivial⟩, trivial⟩⟩
     ·refine HT.seq ?_
      refine HT.seq (HT.region S_rhd_ok ?_)
      have hsz := szOf_v (b.getD i.toNat 0)
      refine Sq (V.mv (v := .p (.bs _)) rfl (Sq (V.len ty23 (v := .p (.bs _)) rfl rfl (Sq (V.mi rfl (Sq (V.subI rfl rfl (by omega) (Sq (V.mi rfl (Sq (V.bin (a := .v (.int .i64 _)) (b := .v (.int .i64 _)) (r := .v (.bool _)) rfl rfl rfl trivial (So.e ?_))))))))))))
      refine R.cd rfl rfl (fun h7 => ?_) (fun h7 => ?_)
      ·refine HT.seq (HT.region S_rhd_ok (Sq (V.as (v := .p (.v (.int .i64 0))) rfl (Sq (V.as (v := .p (.v (.int .i64 0))) rfl (Sq (V.as (v := .p (.v (.int .i64 111))) rfl (So.e ?_))))))))
       refine HT.ret ?_
       exact rt3 h (le_int (by (rw [hd_short (by omega) (by omega) (by omega) (by omega)]; done))) (le_int (by (rw [hd_short (by omega) (by omega) (by omega) (by omega)]; done))) (le_int (by (rw [hd_short (by omega) (by omega) (by omega) (by omega)]; done)))
      ·refine HT.skip (HT.seq (HT.region S_rhd_ok (Sq (V.mv (v := .p (.bs _)) rfl (Sq (V.mi rfl (Sq (V.ixBs ty23 ty5 rfl rfl rfl (by omega) rfl (Sq (V.ldRp ty5 rfl rfl (lk rfl) (v := .u8 _) rfl (Sq (V.cvN ty3 ty5 (a := .u8 _) (r := .v (.int .i64 _)) rfl rfl (Sq (V.remI rfl rfl (by omega) (Sq (V.ai rfl (So.e (HT.seq (HT.seq (HT.region S_rhd_ok (Sq (V.as (v := .p (.v (.int .i64 1))) rfl (So.e (HT.block ?_))))))))))))))))))))))))
       refine R.loop (σ := Nat) (fun s => [(8, .p (.v (.int .i64 ((lenN b i s : Int))))), (9, .p (.v (.int .i64 ((s : Int)))))]) (fun s => []) [0, 1, 4, 5, 6, 7] [] (fun s => 1 <= s /\ (s : Int) <= szOf (b.getD i.toNat 0)) (fun s => 4 - s) (1) (fr0 := [(0, .p (.bs _)), (1, .p (.v (.int .i64 _))), (4, .p (.v (.int .i64 _))), (5, .p (.v (.int .i64 _))), (6, .p (.v (.int .i64 _))), (7, .p (.v (.int .i64 _)))]) (O0 := []) rfl rfl (by omega) ⟨⟨⟨le_int (by (rw [lenN_one]; omega)), trivial⟩, ⟨le_int (by rfl), trivial⟩, ⟨.refl _, trivial⟩, ⟨.refl _, trivial⟩, ⟨.refl _, trivial⟩, ⟨.refl _, trivial⟩, ⟨.refl _, trivial⟩, ⟨.refl _, trivial⟩, trivial⟩, trivial⟩ (fun s hP0 => ?_)
       have hll := @lenN_lt b i s hP0.1
       have hlb := @lenN_b b i s (by omega) (by omega)
       refine HT.seq (HT.seq (HT.region S_rhd_ok (Sq (V.mv (v := .p (.v (.int .i64 ((_ : Nat) : Int)))) rfl (Sq (V.mi rfl (Sq (V.bin (a := (.v (.int .i64 ((_ : Nat) : Int)))) (b := .v (.int .i64 _)) (r := .v (.bool _)) rfl rfl rfl trivial (So.e ?_)))))))))
       refine R.cd rfl rfl (fun h8 => ?_) (fun h8 => ?_)
       ·refine HT.skip (HT.seq (HT.block (HT.region S_rhd_ok (Sq (V.mi rfl (Sq (V.shlI (n := 8) (M := 256) rfl rfl rfl (by decide) (by omega) (Sq (V.mv (v := .p (.bs _)) rfl (Sq (V.mi rfl (Sq (V.mv (v := .p (.v (.int .i64 ((_ : Nat) : Int)))) rfl (Sq (V.addI rfl rfl (by omega) (Sq (V.ixBs ty23 ty5 rfl rfl rfl (by omega) rfl (Sq (V.ldRp ty5 rfl rfl (lk rfl) (v := .u8 _) rfl (Sq (V.cvN ty3 ty5 (a := .u8 _) (r := .v (.int .i64 _)) rfl rfl (Sq (V.bin (a := .v (.int .i64 _)) (b := .v (.int .i64 _)) (r := .v (.int .i64 _)) rfl rfl rfl trivial (Sq (V.ai rfl (So.e (HT.region S_rhd_ok (Sq (V.mv (v := .p (.v (.int .i64 ((_ : Nat) : Int)))) rfl (Sq (V.addI rfl rfl (by omega) (Sq (V.ai rfl (So.e ?_))))))))))))))))))))))))))))))))))
        refine ⟨s + 1, by omega, by omega, ⟨⟨⟨le_int (by exact len_or (by omega) (by omega) (by omega) (by omega) hll), trivial⟩, ⟨le_int (by rfl), trivial⟩, ⟨.refl _, trivial⟩, ⟨.refl _, trivial⟩, ⟨.refl _, trivial⟩, ⟨.refl _, trivial⟩, ⟨.refl _, trivial⟩, ⟨.refl _, trivial⟩, trivial⟩, trivial⟩⟩
       ·refine HT.exit ?_
        refine HT.seq (HT.seq (HT.region S_rhd_ok (Sq (V.mv (v := .p (.v (.int .i64 _))) rfl ?_))))
        refine So.n (lk rfl) (A.call0 [.p (.v (.int .i64 _))] 1 rfl rfl rfl rfl ⟨trivial, trivial⟩ trivial _ ⟨.refl _, trivial⟩ trivial (by trivial) (Φ := fun n => (lenF n).length <= 4) (fun n _ => lenF_le n) (.inl rfl) (v := .own 2 0 _) rfl (O' := (2, ⟨5, 1, _, true, .bs _⟩) :: _) rfl (fun h9 => ?_))
        try dsimp only at h9
        refine Sq (V.len ty23 (v := .own 2 0 _) rfl rfl (Sq (V.mi rfl (Sq (V.bin (a := .v (.int .i64 _)) (b := .v (.int .i64 _)) (r := .v (.bool _)) rfl rfl rfl trivial (So.e ?_))))))
        refine R.cond rfl rfl (fun h10 => ?_) (fun h10 => ?_)
        ·have h10 := of_decide_eq_false (bnT h10)
         refine HT.seq (HT.region S_rhd_ok (Sq (V.as (v := .p (.v (.int .i64 0))) rfl (Sq (V.as (v := .p (.v (.int .i64 0))) rfl (Sq (V.as (v := .p (.v (.int .i64 112))) rfl (So.e ?_))))))))
         refine HT.ret ?_
         exact rt3 h (le_int (by (rw [(hd_val (s := s) (by omega) (by omega) (by omega) (by omega)).1 (by omega)]; done))) (le_int (by (rw [(hd_val (s := s) (by omega) (by omega) (by omega) (by omega)).1 (by omega)]; done))) (le_int (by (rw [(hd_val (s := s) (by omega) (by omega) (by omega) (by omega)).1 (by omega)]; done)))
        ·have h10 := of_decide_eq_true (bnF h10)
         refine HT.skip (HT.seq (HT.seq (HT.region S_rhd_ok (Sq (V.mi rfl (Sq (V.bin (a := .v (.int .i64 _)) (b := .v (.int .i64 1048576)) (r := .v (.bool _)) rfl rfl rfl trivial (So.e ?_))))))))
         refine R.cd rfl rfl (fun h11 => ?_) (fun h11 => ?_)
         ·refine HT.seq (HT.region S_rhd_ok (Sq (V.as (v := .p (.v (.int .i64 0))) rfl (Sq (V.as (v := .p (.v (.int .i64 0))) rfl (Sq (V.as (v := .p (.v (.int .i64 2))) rfl (So.e ?_))))))))
          refine HT.ret ?_
          exact rt3 h (le_int (by (rw [(hd_val (s := s) (by omega) (by omega) (by omega) (by omega)).2.1 (by omega) (by omega)]; done))) (le_int (by (rw [(hd_val (s := s) (by omega) (by omega) (by omega) (by omega)).2.1 (by omega) (by omega)]; done))) (le_int (by (rw [(hd_val (s := s) (by omega) (by omega) (by omega) (by omega)).2.1 (by omega) (by omega)]; done)))
         ·refine HT.skip (HT.seq (HT.seq (HT.region S_rhd_ok (Sq (V.mi rfl (Sq (V.mv (v := .p (.bs _)) rfl (Sq (V.len ty23 (v := .p (.bs _)) rfl rfl (Sq (V.mi rfl (Sq (V.subI rfl rfl (by omega) (Sq (V.mi rfl (Sq (V.subI rfl rfl (by omega) (Sq (V.bin (a := .v (.int .i64 _)) (b := .v (.int .i64 _)) (r := .v (.bool _)) rfl rfl rfl trivial (So.e ?_))))))))))))))))))))
          refine R.cd rfl rfl (fun h12 => ?_) (fun h12 => ?_)
          ·refine HT.seq (HT.region S_rhd_ok (Sq (V.as (v := .p (.v (.int .i64 0))) rfl (Sq (V.as (v := .p (.v (.int .i64 0))) rfl (Sq (V.as (v := .p (.v (.int .i64 111))) rfl (So.e ?_))))))))
           refine HT.ret ?_
           exact rt3 h (le_int (by (rw [(hd_val (s := s) (by omega) (by omega) (by omega) (by omega)).2.2.1 (by omega) (by omega) (by omega)]; done))) (le_int (by (rw [(hd_val (s := s) (by omega) (by omega) (by omega) (by omega)).2.2.1 (by omega) (by omega) (by omega)]; done))) (le_int (by (rw [(hd_val (s := s) (by omega) (by omega) (by omega) (by omega)).2.2.1 (by omega) (by omega) (by omega)]; done)))
          ·refine HT.skip (HT.seq (HT.region S_rhd_ok (Sq (V.mi rfl (Sq (V.mi rfl (Sq (V.mi rfl (Sq (V.addI rfl rfl (by omega) (Sq (V.ai rfl (Sq (V.ai rfl (Sq (V.as (v := .p (.v (.int .i64 0))) rfl (So.e ?_)))))))))))))))))
           refine HT.ret ?_
           exact rt3 h (le_int (by (rw [(hd_val (s := s) (by omega) (by omega) (by omega) (by omega)).2.2.2 (by omega) (by omega) (by omega)]; done))) (le_int (by (rw [(hd_val (s := s) (by omega) (by omega) (by omega) (by omega)).2.2.2 (by omega) (by omega) (by omega)]; (dsimp only; omega)))) (le_int (by (rw [(hd_val (s := s) (by omega) (by omega) (by omega) (by omega)).2.2.2 (by omega) (by omega) (by omega)]; done)))
 ·have h1 := of_decide_eq_true h1
  refine So.gn (b := true) rfl rfl rfl (lk rfl) (lk rfl) (So.gn (b := true) rfl rfl rfl (lk rfl) (lk rfl) (So.gn (b := true) rfl rfl rfl (lk rfl) (lk rfl) (Sq (V.pkTrue (u := .p (.v (.bool true))) rfl rfl (So.e ?_)))))
  refine R.condT rfl ?_
  refine HT.seq (HT.region S_rhd_ok (Sq (V.as (v := .p (.v (.int .i64 0))) rfl (Sq (V.as (v := .p (.v (.int .i64 0))) rfl (Sq (V.as (v := .p (.v (.int .i64 1))) rfl (So.e ?_))))))))
  refine HT.ret ?_
  exact rt3 h (le_int (by (rw [hd_arg (by omega)]; done))) (le_int (by (rw [hd_arg (by omega)]; done))) (le_int (by (rw [hd_arg (by omega)]; done)))
def rgetTextSp : Sp := ⟨[], mkE (α := (List UInt8) × Int) (fun (b, i) => [.p (.bs b), .p (.v (.int .i64 i))]) (fun (b, i) => []) (fun (b, i) => True) (fun (b, i) => [.own 1 0 ((getTextF b i).1.length), .p (.v (.int .i64 ((getTextF b i).2.1))), .p (.v (.int .i64 ((getTextF b i).2.2)))]) (fun (b, i) => [(1, ⟨5, 1, ((getTextF b i).1).length, true, .bs ((getTextF b i).1)⟩)])⟩
def S_rgetText : FuncId -> Option Sp := fun f => if f = 73 then some rhdSp else none
theorem S_rgetText_ok : ∀ f s, S_rgetText f = some s -> FOK Tryd.prog gl f s := sI rhd_ok sN
theorem rgetText_ok : FOK Tryd.prog gl 67 rgetTextSp := by
 refine FOK.ofE (tyOf_ok Tryd.prog) (slots := [4, 5, 6]) (nt := 31) Tryd.func67 rfl rfl rfl rfl (by decide) 2 (fun ⟨_, _⟩ => rfl) (by decide) (fun ⟨_, _⟩ => ⟨trivial, trivial, trivial⟩) ?_
 rintro ⟨b, i⟩ kk hlen hpre h
 have hl0 : (b).length <= 9223372036854775807 := hlen.1
 replace hpre : True := hpre
 show HT (cx Tryd.prog 31 (tyOf Tryd.prog) gl []) _ [(0, .p (.bs b)), (1, .p (.v (.int .i64 i)))] [] _
 refine HT.seq (HT.region S_rgetText_ok (Sq (V.as (v := .p (.v (.slice none 0 0))) rfl (Sq (V.as (v := .p (.v (.int .i64 0))) rfl (Sq (V.as (v := .p (.v (.int .i64 0))) rfl (So.e (HT.seq (HT.region S_rgetText_ok (Sq (V.mv (v := .p (.bs _)) rfl (Sq (V.mv (v := .p (.v (.int .i64 _))) rfl ?_))))))))))))))
 refine So.n (lk rfl) (A.call0 [.p (.bs _), .p (.v (.int .i64 _))] 1 rfl rfl rfl rfl ⟨trivial, trivial, trivial⟩ trivial (_, _) ⟨.refl _, .refl _, trivial⟩ trivial (by trivial) (Φ := fun (b, i) => (hdF b i).2.2 = 0 -> 0 <= i /\ i < (hdF b i).2.1 /\ 0 <= (hdF b i).1 /\ (hdF b i).2.1 + (hdF b i).1 <= b.length /\ (hdF b i).1 <= 1048576) (fun (b, i) _ => hdF_ok b i) (.inl rfl) (v := .tup 3 _) rfl (O' := _) rfl (fun h1 => ?_))
 try dsimp only at h1
 refine Sq (V.mv (v := .tup 3 _) rfl (Sq (V.ei rfl rfl (Sq (V.ei rfl rfl (Sq (V.ei rfl rfl (Sq (V.ai rfl (Sq (V.ai rfl (Sq (V.ai rfl (So.e (HT.seq (HT.seq (HT.region S_rgetText_ok ?_)))))))))))))))))
 have hhd : (hdF b i).2.2 = (spanF b i).2.2 := rfl
 refine Sq (V.mi rfl (Sq (V.bin (a := .v (.int .i64 _)) (b := .v (.int .i64 0)) (r := .v (.bool _)) rfl rfl rfl trivial (So.e ?_))))
 refine R.cond rfl rfl (fun h2 => ?_) (fun h2 => ?_)
 ·have h2 := of_decide_eq_false (bnT h2)
  refine HT.seq (HT.region S_rgetText_ok (Sq (V.mi rfl (Sq (V.as (v := .p (.v (.slice none 0 0))) rfl (Sq (V.as (v := .p (.v (.int .i64 0))) rfl (Sq (V.ai rfl (So.e ?_))))))))))
  refine R.phan 4 1 5 1 (.bs []) rfl rfl rfl ⟨rfl, rfl⟩ ?_
  refine HT.ret ?_
  exact ret_ok (sg [(1, 1)]) h rfl rfl rfl ⟨trivial, trivial⟩ ⟨rfl, trivial, trivial, trivial⟩ rfl ⟨⟨⟨le_own2 (by rfl) (by (unfold getTextF; simp (disch := omega) only [if_pos, if_neg, ne_eq, hd_to2, hd_from] <;> rfl)), rfl⟩, ⟨le_int (by (unfold getTextF; simp (disch := omega) only [if_pos, if_neg, ne_eq, hd_to2, hd_from] <;> first | rfl | (simp; done))), trivial⟩, ⟨le_int (by (unfold getTextF; simp (disch := omega) only [if_pos, if_neg, ne_eq, hd_to2, hd_from] <;> rfl)), trivial⟩, trivial⟩, ⟨⟨_, rfl, .inl (ob_bs (by unfold getTextF; simp (disch := omega) only [if_pos, if_neg, ne_eq, hd_to2, hd_from] <;> rfl) (by unfold getTextF; simp (disch := omega) only [if_pos, if_neg, ne_eq, hd_to2, hd_from] <;> first | rfl | (simp; done))), trivial⟩, trivial⟩⟩
 ·have h2 := of_decide_eq_true (bnF h2)
  refine HT.skip (HT.seq (HT.region S_rgetText_ok (So.n (lk rfl) (A.bsl 1 ty23 ty5 rfl (lk rfl) (lk rfl) (fun _ => rfl) rfl rfl trivial trivial rfl (N := 0) rfl (c := .bs []) rfl (Sq (V.mv (v := .p (.bs _)) rfl (Sq (V.mi rfl (Sq (V.mi rfl (Sq (V.mi rfl (Sq (V.addI rfl rfl (by omega) (Sq (V.cutBs ty23 ty5 rfl rfl rfl rfl (by omega) (.inl rfl) rfl (So.n (lk rfl) (A.apOwn ty23 ty5 rfl rfl rfl rfl (u := .p (.bs _)) rfl rfl rfl rfl (by (simp; omega)) rfl rfl rfl (Sq (V.mi rfl (Sq (V.mi rfl (Sq (V.addI rfl rfl (by omega) (Sq (V.as (v := .own 1 0 _) rfl (Sq (V.ai rfl (Sq (V.as (v := .p (.v (.int .i64 0))) rfl (So.e ?_)))))))))))))))))))))))))))))))
  refine HT.ret ?_
  exact ret_ok (sg [(1, 1)]) h rfl rfl rfl ⟨trivial, trivial⟩ ⟨rfl, trivial, trivial, trivial⟩ rfl ⟨⟨⟨le_own2 (by rfl) (by (unfold getTextF; simp (disch := omega) only [if_pos, if_neg, ne_eq, hd_to2, hd_from] <;> (simp; done))), rfl⟩, ⟨le_int (by (unfold getTextF; simp (disch := omega) only [if_pos, if_neg, ne_eq, hd_to2, hd_from] <;> first | rfl | (simp; done))), trivial⟩, ⟨le_int (by (unfold getTextF; simp (disch := omega) only [if_pos, if_neg, ne_eq, hd_to2, hd_from] <;> first | rfl | (simp; done))), trivial⟩, trivial⟩, ⟨⟨_, rfl, .inl (ob_bs (by unfold getTextF; simp (disch := omega) only [if_pos, if_neg, ne_eq, hd_to2, hd_from] <;> (simp; done)) (by unfold getTextF; simp (disch := omega) only [if_pos, if_neg, ne_eq, hd_to2, hd_from] <;> rfl)), trivial⟩, trivial⟩⟩
def rrtextSp : Sp := ⟨[1], mkE (α := (List UInt8) × Int × Int) (fun (b, p, e) => [.ptr 1 0]) (fun (b, p, e) => [(1, ⟨101, 1, 3, true, .rows (fun j => ([.bs b, .v (.int .i64 p), .v (.int .i64 e)] : List PV).getD j (.v undef))⟩)]) (fun (b, p, e) => True) (fun (b, p, e) => [.p (.bs ((rdT b p e).1))]) (fun (b, p, e) => [(1, ⟨101, 1, 3, true, .rows (fun j => ([.bs b, .v (.int .i64 (rdT b p e).2.1), .v (.int .i64 (rdT b p e).2.2)] : List PV).getD j (.v undef))⟩)])⟩
def S_rrtext : FuncId -> Option Sp := fun f => if f = 67 then some rgetTextSp else none
theorem S_rrtext_ok : ∀ f s, S_rrtext f = some s -> FOK Tryd.prog gl f s := sI rgetText_ok sN
theorem S_rrtext_det : ∀ f s, S_rrtext f = some s -> SpDet s.sp := dI dN
theorem rrtext_ok : FOK Tryd.prog gl 54 rrtextSp := by
 refine FOK.ofE (tyOf_ok Tryd.prog) (slots := [2]) (nt := 33) Tryd.func54 rfl rfl rfl rfl (by decide) 1 (fun ⟨_, _, _⟩ => rfl) (by decide) (fun ⟨_, _, _⟩ => ⟨rfl, trivial⟩) ?_
 rintro ⟨b, p, e⟩ kk hlen hpre h
 replace hpre : True := hpre
 show HT (cx Tryd.prog 33 (tyOf Tryd.prog) gl [1]) _ [(0, .ptr 1 0)] [(1, ⟨101, 1, 3, true, .rows (fun j => ([.bs b, .v (.int .i64 p), .v (.int .i64 e)] : List PV).getD j (.v undef))⟩)] _
 refine HT.seq (HT.region S_rrtext_ok (Sq (V.as (v := .p (.v (.slice none 0 0))) rfl (So.e (HT.seq (HT.seq (HT.region S_rrtext_ok (Sq (V.mv (v := .ptr 1 0) rfl (Sq (V.ncPtr rfl (Sq (V.fa ty101 rfl ty27 rfl rfl (Sq (V.ld ty27 rfl rfl rfl (v := .p (.v (.int .i64 _))) rfl (Sq (V.bin (a := .v (.int .i64 _)) (b := .v (.int .i64 0)) (r := .v (.bool _)) rfl rfl rfl trivial (So.e ?_))))))))))))))))))
 refine R.cond rfl rfl (fun h1 => ?_) (fun h1 => ?_)
 ·have h1 := of_decide_eq_false (bnT h1)
  refine HT.seq (HT.region S_rrtext_ok (Sq (V.as (v := .p (.v (.slice none 0 0))) rfl (So.e ?_))))
  refine HT.ret ?_
  exact ret_ok (sg [(1, 1)]) h rfl rfl rfl ⟨trivial, trivial⟩ ⟨trivial, trivial⟩ rfl ⟨⟨⟨le_nil (by (rw [rdT_1 (by assumption)]; done)), trivial⟩, trivial⟩, ⟨⟨_, rfl, .inr (ob_rows (by rfl) (by rw [rdT_1 (by assumption)]; (intro j hj; match j, hj with | 0, _ => rfl | 1, _ => rfl | 2, _ => rfl))), trivial⟩, trivial⟩⟩
 ·have h1 := of_decide_eq_true (bnF h1)
  refine HT.skip (HT.seq ?_)
  refine HT.drawn S_rrtext_ok S_rrtext_det mixed (by kernel_rfl) ?_
  refine Sd.n (lk rfl) (V.mv (v := .ptr 1 0) rfl (Sd.n (lk rfl) (V.ncPtr rfl (Sd.n (lk rfl) (V.fa ty101 rfl ty23 rfl rfl (Sd.n (lk rfl) (V.ld ty23 rfl rfl rfl (v := .p (.bs _)) rfl (Sd.n (lk rfl) (V.mv (v := .ptr 1 0) rfl (Sd.n (lk rfl) (V.ncPtr rfl (Sd.n (lk rfl) (V.fa ty101 rfl ty3 rfl rfl (Sd.n (lk rfl) (V.ld ty3 rfl rfl rfl (v := .p (.v (.int .i64 _))) rfl ?_)))))))))))))))
  refine Sd.n (lk rfl) (V.call [.p (.bs _), .p (.v (.int .i64 _))] 2 rfl rfl rfl rfl ⟨trivial, trivial, trivial⟩ ⟨lk rfl, trivial⟩ (_, _) ⟨.refl _, .refl _, trivial⟩ trivial (by trivial) (Φ := fun (b, i) => ((getTextF b i).2.2 = 0 -> 0 <= i /\ i < (getTextF b i).2.1 /\ (getTextF b i).2.1 <= b.length) /\ (getTextF b i).1.length <= 1048576) (fun (b, i) _ => ⟨getTextF_ok b i, getTextF_len b i⟩) (.inl ⟨trivial, trivial, trivial⟩) (v := .tup 3 _) rfl (fun h2 => ?_))
  try dsimp only at h2
  refine Sd.n (lk rfl) (V.mv (v := .tup 3 _) rfl (Sd.n (lk rfl) (V.ext rfl (lk rfl) (v := .p (.bs _)) rfl (Sd.n (lk rfl) (V.ei rfl rfl (Sd.n (lk rfl) (V.ei rfl rfl (Sd.n (lk rfl) (V.as (v := .p (.bs _)) rfl (Sd.n (lk rfl) (V.ai rfl (Sd.n (lk rfl) (V.ai rfl (Sd.e (HT.seq (HT.region S_rrtext_ok (Sq (V.mv (v := .ptr 1 0) rfl (Sq (V.mi rfl (Sq (V.ncPtr rfl (Sq (V.fa ty101 rfl ty3 rfl rfl (So.s (A.sto ty3 rfl rfl rfl (v := .p (.v (.int .i64 _))) rfl rfl rfl (lk rfl) rfl rfl (So.e (HT.seq (HT.region S_rrtext_ok (Sq (V.mv (v := .ptr 1 0) rfl (Sq (V.mi rfl (Sq (V.ncPtr rfl (Sq (V.fa ty101 rfl ty27 rfl rfl (So.s (A.sto ty27 rfl rfl rfl (v := .p (.v (.int .i64 _))) rfl rfl rfl (lk rfl) rfl rfl (So.e ?_))))))))))))))))))))))))))))))))))))))))
  refine HT.seq (HT.region S_rrtext_ok (Sq (V.mv (v := .p (.bs _)) rfl (Sq (V.as (v := .p (.bs _)) rfl (So.e ?_))))))
  refine HT.ret ?_
  exact ret_ok (sg [(1, 1)]) h rfl rfl rfl ⟨trivial, trivial⟩ ⟨trivial, trivial⟩ rfl ⟨⟨⟨le_bs (by (rw [rdT_0 (by assumption), take_full])), trivial⟩, trivial⟩, ⟨⟨_, rfl, .inr (ob_rows (by rfl) (by rw [rdT_0 (by assumption)]; (intro j hj; match j, hj with | 0, _ => rfl | 1, _ => rfl | 2, _ => rfl))), trivial⟩, trivial⟩⟩
def rrnumSp : Sp := ⟨[1], mkE (α := (List UInt8) × Int × Int × Int) (fun (b, p, e, k) => [.ptr 1 0, .p (.v (.int .i64 k))]) (fun (b, p, e, k) => [(1, ⟨101, 1, 3, true, .rows (fun j => ([.bs b, .v (.int .i64 p), .v (.int .i64 e)] : List PV).getD j (.v undef))⟩)]) (fun (b, p, e, k) => True) (fun (b, p, e, k) => [.p (.v (.int .i64 ((rdN b p e k).1)))]) (fun (b, p, e, k) => [(1, ⟨101, 1, 3, true, .rows (fun j => ([.bs b, .v (.int .i64 (rdN b p e k).2.1), .v (.int .i64 (rdN b p e k).2.2)] : List PV).getD j (.v undef))⟩)])⟩
def S_rrnum : FuncId -> Option Sp := fun f => if f = 68 then some rgetSp else none
theorem S_rrnum_ok : ∀ f s, S_rrnum f = some s -> FOK Tryd.prog gl f s := sI rget_ok sN
theorem S_rrnum_det : ∀ f s, S_rrnum f = some s -> SpDet s.sp := dI dN
theorem rrnum_ok : FOK Tryd.prog gl 55 rrnumSp := by
 refine FOK.ofE (tyOf_ok Tryd.prog) (slots := [4]) (nt := 36) Tryd.func55 rfl rfl rfl rfl (by decide) 2 (fun ⟨_, _, _, _⟩ => rfl) (by decide) (fun ⟨_, _, _, _⟩ => ⟨rfl, trivial, trivial⟩) ?_
 rintro ⟨b, p, e, k⟩ kk hlen hpre h
 replace hpre : True := hpre
 show HT (cx Tryd.prog 36 (tyOf Tryd.prog) gl [1]) _ [(0, .ptr 1 0), (1, .p (.v (.int .i64 k)))] [(1, ⟨101, 1, 3, true, .rows (fun j => ([.bs b, .v (.int .i64 p), .v (.int .i64 e)] : List PV).getD j (.v undef))⟩)] _
 refine HT.seq (HT.region S_rrnum_ok (Sq (V.as (v := .p (.v (.int .i64 0))) rfl (So.e (HT.seq (HT.seq (HT.region S_rrnum_ok (Sq (V.mv (v := .ptr 1 0) rfl (Sq (V.ncPtr rfl (Sq (V.fa ty101 rfl ty27 rfl rfl (Sq (V.ld ty27 rfl rfl rfl (v := .p (.v (.int .i64 _))) rfl (Sq (V.bin (a := .v (.int .i64 _)) (b := .v (.int .i64 0)) (r := .v (.bool _)) rfl rfl rfl trivial (So.e ?_))))))))))))))))))
 refine R.cond rfl rfl (fun h1 => ?_) (fun h1 => ?_)
 ·have h1 := of_decide_eq_false (bnT h1)
  refine HT.seq (HT.region S_rrnum_ok (Sq (V.as (v := .p (.v (.int .i64 0))) rfl (So.e ?_))))
  refine HT.ret ?_
  exact ret_ok (sg [(1, 1)]) h rfl rfl rfl ⟨trivial, trivial⟩ ⟨trivial, trivial⟩ rfl ⟨⟨⟨le_int (by (rw [rdN_1 (by assumption)]; done)), trivial⟩, trivial⟩, ⟨⟨_, rfl, .inr (ob_rows (by rfl) (by rw [rdN_1 (by assumption)]; (intro j hj; match j, hj with | 0, _ => rfl | 1, _ => rfl | 2, _ => rfl))), trivial⟩, trivial⟩⟩
 ·have h1 := of_decide_eq_true (bnF h1)
  refine HT.skip (HT.seq ?_)
  refine HT.drawn S_rrnum_ok S_rrnum_det mixed (by kernel_rfl) ?_
  refine Sd.n (lk rfl) (V.mv (v := .ptr 1 0) rfl (Sd.n (lk rfl) (V.ncPtr rfl (Sd.n (lk rfl) (V.fa ty101 rfl ty23 rfl rfl (Sd.n (lk rfl) (V.ld ty23 rfl rfl rfl (v := .p (.bs _)) rfl (Sd.n (lk rfl) (V.mv (v := .ptr 1 0) rfl (Sd.n (lk rfl) (V.ncPtr rfl (Sd.n (lk rfl) (V.fa ty101 rfl ty3 rfl rfl (Sd.n (lk rfl) (V.ld ty3 rfl rfl rfl (v := .p (.v (.int .i64 _))) rfl (Sd.n (lk rfl) (V.mv (v := .p (.v (.int .i64 _))) rfl ?_)))))))))))))))))
  refine Sd.n (lk rfl) (V.call [.p (.bs _), .p (.v (.int .i64 _)), .p (.v (.int .i64 _))] 2 rfl rfl rfl rfl ⟨trivial, trivial, trivial, trivial⟩ ⟨lk rfl, trivial⟩ (_, _, _) ⟨.refl _, .refl _, .refl _, trivial⟩ trivial (by trivial) tT (.inl ⟨trivial, trivial, trivial, trivial⟩) (v := .tup 3 _) rfl (fun h2 => ?_))
  refine Sd.n (lk rfl) (V.mv (v := .tup 3 _) rfl (Sd.n (lk rfl) (V.ei rfl rfl (Sd.n (lk rfl) (V.ei rfl rfl (Sd.n (lk rfl) (V.ei rfl rfl (Sd.n (lk rfl) (V.ai rfl (Sd.n (lk rfl) (V.ai rfl (Sd.n (lk rfl) (V.ai rfl (Sd.e (HT.seq (HT.region S_rrnum_ok (Sq (V.mv (v := .ptr 1 0) rfl (Sq (V.mi rfl (Sq (V.ncPtr rfl (Sq (V.fa ty101 rfl ty3 rfl rfl (So.s (A.sto ty3 rfl rfl rfl (v := .p (.v (.int .i64 _))) rfl rfl rfl (lk rfl) rfl rfl (So.e (HT.seq (HT.region S_rrnum_ok (Sq (V.mv (v := .ptr 1 0) rfl (Sq (V.mi rfl (Sq (V.ncPtr rfl (Sq (V.fa ty101 rfl ty27 rfl rfl (So.s (A.sto ty27 rfl rfl rfl (v := .p (.v (.int .i64 _))) rfl rfl rfl (lk rfl) rfl rfl (So.e ?_))))))))))))))))))))))))))))))))))))))))
  refine HT.seq (HT.region S_rrnum_ok (Sq (V.mi rfl (Sq (V.ai rfl (So.e ?_))))))
  refine HT.ret ?_
  exact ret_ok (sg [(1, 1)]) h rfl rfl rfl ⟨trivial, trivial⟩ ⟨trivial, trivial⟩ rfl ⟨⟨⟨le_int (by (rw [rdN_0 (by assumption)]; done)), trivial⟩, trivial⟩, ⟨⟨_, rfl, .inr (ob_rows (by rfl) (by rw [rdN_0 (by assumption)]; (intro j hj; match j, hj with | 0, _ => rfl | 1, _ => rfl | 2, _ => rfl))), trivial⟩, trivial⟩⟩
def rwhereSp : Sp := ⟨[], mkE (α := (List UInt8) × Int × Int) (fun (g, ep, fr) => [.p (.bs g), .p (.v (.int .i64 ep)), .p (.v (.int .i64 fr))]) (fun (g, ep, fr) => []) (fun (g, ep, fr) => True) (fun (g, ep, fr) => [.p (.v (.bool (decide (whereP g ep fr))))]) (fun (g, ep, fr) => [])⟩
def S_rwhere : FuncId -> Option Sp := fun _ => none
theorem S_rwhere_ok : ∀ f s, S_rwhere f = some s -> FOK Tryd.prog gl f s := fun f s h => by cases h
theorem rwhere_ok : FOK Tryd.prog gl 70 rwhereSp := by
 refine FOK.ofE (tyOf_ok Tryd.prog) (slots := [6]) (nt := 31) Tryd.func70 rfl rfl rfl rfl (by decide) 3 (fun ⟨_, _, _⟩ => rfl) (by decide) (fun ⟨_, _, _⟩ => ⟨trivial, trivial, trivial, trivial⟩) ?_
 rintro ⟨g, ep, fr⟩ kk hlen hpre h
 have hl0 : (g).length <= 9223372036854775807 := hlen.1
 replace hpre : True := hpre
 show HT (cx Tryd.prog 31 (tyOf Tryd.prog) gl []) _ [(0, .p (.bs g)), (1, .p (.v (.int .i64 ep))), (2, .p (.v (.int .i64 fr)))] [] _
 refine HT.seq (HT.region S_rwhere_ok (Sq (V.as (v := .p (.v (.bool false))) rfl (So.e (HT.seq (HT.region S_rwhere_ok (Sq (V.mv (v := .p (.bs _)) rfl (Sq (V.len ty23 (v := .p (.bs _)) rfl rfl (Sq (V.bin (a := .v (.int .i64 _)) (b := .v (.int .i64 1)) (r := .v (.bool _)) rfl rfl rfl trivial (Sq (V.mv (v := .p (.v (.bool _))) rfl ?_))))))))))))))
 refine So.gd rfl rfl (lk rfl) (lk rfl) (fun h1 => ?_) (fun h1 => ?_)
 ·have h1 := of_decide_eq_true h1
  refine A.v rfl (V.mv (v := .p (.bs _)) rfl (So.gy rfl rfl (lk rfl) (lk rfl) (A.v rfl (V.len ty23 (v := .p (.bs _)) rfl rfl (So.gy rfl rfl (lk rfl) (lk rfl) (A.v rfl (V.bin (a := .v (.int .i64 _)) (b := .v (.int .i64 32)) (r := .v (.bool _)) rfl rfl rfl trivial (Sq (V.pkTrue (u := .p (.v (.bool _))) rfl rfl (Sq (V.mv (v := .p (.v (.bool _))) rfl ?_)))))))))))
  refine So.gd rfl rfl (lk rfl) (lk rfl) (fun h2 => ?_) (fun h2 => ?_)
  ·have h2 := of_decide_eq_true h2
   refine A.v rfl (V.mi rfl (So.gy rfl rfl (lk rfl) (lk rfl) (A.v rfl (V.bin (a := .v (.int .i64 _)) (b := .v (.int .i64 0)) (r := .v (.bool _)) rfl rfl rfl trivial (Sq (V.pkTrue (u := .p (.v (.bool _))) rfl rfl (Sq (V.mv (v := .p (.v (.bool _))) rfl ?_))))))))
   refine So.gd rfl rfl (lk rfl) (lk rfl) (fun h3 => ?_) (fun h3 => ?_)
   ·have h3 := of_decide_eq_true h3
    refine A.v rfl (V.mi rfl (So.gy rfl rfl (lk rfl) (lk rfl) (A.v rfl (V.bin (a := .v (.int .i64 _)) (b := .v (.int .i64 1099511627776)) (r := .v (.bool _)) rfl rfl rfl trivial (Sq (V.pkTrue (u := .p (.v (.bool _))) rfl rfl (Sq (V.mv (v := .p (.v (.bool _))) rfl ?_))))))))
    refine So.gd rfl rfl (lk rfl) (lk rfl) (fun h4 => ?_) (fun h4 => ?_)
    ·have h4 := of_decide_eq_true h4
     refine A.v rfl (V.mi rfl (So.gy rfl rfl (lk rfl) (lk rfl) (A.v rfl (V.bin (a := .v (.int .i64 _)) (b := .v (.int .i64 0)) (r := .v (.bool _)) rfl rfl rfl trivial (Sq (V.pkTrue (u := .p (.v (.bool _))) rfl rfl (Sq (V.mv (v := .p (.v (.bool _))) rfl ?_))))))))
     refine So.gd rfl rfl (lk rfl) (lk rfl) (fun h5 => ?_) (fun h5 => ?_)
     ·have h5 := of_decide_eq_true h5
      refine A.v rfl (V.mi rfl (So.gy rfl rfl (lk rfl) (lk rfl) (A.v rfl (V.bin (a := .v (.int .i64 _)) (b := .v (.int .i64 65536)) (r := .v (.bool _)) rfl rfl rfl trivial (Sq (V.pkTrue (u := .p (.v (.bool _))) rfl rfl (Sq (V.as (v := .p (.v (.bool _))) rfl (So.e ?_)))))))))
      refine HT.ret ?_
      exact rt1 h (le_bool (by exact decide_eq_decide.2 (by unfold whereP; omega)))
     ·have h5 := of_decide_eq_false h5
      refine So.gn (b := false) rfl rfl rfl (lk rfl) (lk rfl) (Sq (V.pkFalse (u := .p (.v (.bool false))) rfl rfl (Sq (V.as (v := .p (.v (.bool false))) rfl (So.e ?_)))))
      refine HT.ret ?_
      exact rt1 h (le_bool (by exact (decide_eq_false (by unfold whereP; omega)).symm))
    ·have h4 := of_decide_eq_false h4
     refine So.gn (b := false) rfl rfl rfl (lk rfl) (lk rfl) (Sq (V.pkFalse (u := .p (.v (.bool false))) rfl rfl (Sq (V.mv (v := .p (.v (.bool false))) rfl (So.gn (b := false) rfl rfl rfl (lk rfl) (lk rfl) (So.gn (b := false) rfl rfl rfl (lk rfl) (lk rfl) (Sq (V.pkFalse (u := .p (.v (.bool false))) rfl rfl (Sq (V.as (v := .p (.v (.bool false))) rfl (So.e ?_)))))))))))
     refine HT.ret ?_
     exact rt1 h (le_bool (by exact (decide_eq_false (by unfold whereP; omega)).symm))
   ·have h3 := of_decide_eq_false h3
    refine So.gn (b := false) rfl rfl rfl (lk rfl) (lk rfl) (Sq (V.pkFalse (u := .p (.v (.bool false))) rfl rfl (Sq (V.mv (v := .p (.v (.bool false))) rfl (So.gn (b := false) rfl rfl rfl (lk rfl) (lk rfl) (So.gn (b := false) rfl rfl rfl (lk rfl) (lk rfl) (Sq (V.pkFalse (u := .p (.v (.bool false))) rfl rfl (Sq (V.mv (v := .p (.v (.bool false))) rfl (So.gn (b := false) rfl rfl rfl (lk rfl) (lk rfl) (So.gn (b := false) rfl rfl rfl (lk rfl) (lk rfl) (Sq (V.pkFalse (u := .p (.v (.bool false))) rfl rfl (Sq (V.as (v := .p (.v (.bool false))) rfl (So.e ?_)))))))))))))))))
    refine HT.ret ?_
    exact rt1 h (le_bool (by exact (decide_eq_false (by unfold whereP; omega)).symm))
  ·have h2 := of_decide_eq_false h2
   refine So.gn (b := false) rfl rfl rfl (lk rfl) (lk rfl) (Sq (V.pkFalse (u := .p (.v (.bool false))) rfl rfl (Sq (V.mv (v := .p (.v (.bool false))) rfl (So.gn (b := false) rfl rfl rfl (lk rfl) (lk rfl) (So.gn (b := false) rfl rfl rfl (lk rfl) (lk rfl) (Sq (V.pkFalse (u := .p (.v (.bool false))) rfl rfl (Sq (V.mv (v := .p (.v (.bool false))) rfl (So.gn (b := false) rfl rfl rfl (lk rfl) (lk rfl) (So.gn (b := false) rfl rfl rfl (lk rfl) (lk rfl) (Sq (V.pkFalse (u := .p (.v (.bool false))) rfl rfl (Sq (V.mv (v := .p (.v (.bool false))) rfl (So.gn (b := false) rfl rfl rfl (lk rfl) (lk rfl) (So.gn (b := false) rfl rfl rfl (lk rfl) (lk rfl) (Sq (V.pkFalse (u := .p (.v (.bool false))) rfl rfl (Sq (V.as (v := .p (.v (.bool false))) rfl (So.e ?_)))))))))))))))))))))))
   refine HT.ret ?_
   exact rt1 h (le_bool (by exact (decide_eq_false (by unfold whereP; omega)).symm))
 ·have h1 := of_decide_eq_false h1
  refine So.gn (b := false) rfl rfl rfl (lk rfl) (lk rfl) (So.gn (b := false) rfl rfl rfl (lk rfl) (lk rfl) (Sq (V.pkFalse (u := .p (.v (.bool false))) rfl rfl (Sq (V.mv (v := .p (.v (.bool false))) rfl (So.gn (b := false) rfl rfl rfl (lk rfl) (lk rfl) (So.gn (b := false) rfl rfl rfl (lk rfl) (lk rfl) (Sq (V.pkFalse (u := .p (.v (.bool false))) rfl rfl (Sq (V.mv (v := .p (.v (.bool false))) rfl (So.gn (b := false) rfl rfl rfl (lk rfl) (lk rfl) (So.gn (b := false) rfl rfl rfl (lk rfl) (lk rfl) (Sq (V.pkFalse (u := .p (.v (.bool false))) rfl rfl (Sq (V.mv (v := .p (.v (.bool false))) rfl (So.gn (b := false) rfl rfl rfl (lk rfl) (lk rfl) (So.gn (b := false) rfl rfl rfl (lk rfl) (lk rfl) (Sq (V.pkFalse (u := .p (.v (.bool false))) rfl rfl (Sq (V.mv (v := .p (.v (.bool false))) rfl (So.gn (b := false) rfl rfl rfl (lk rfl) (lk rfl) (So.gn (b := false) rfl rfl rfl (lk rfl) (lk rfl) (Sq (V.pkFalse (u := .p (.v (.bool false))) rfl rfl (Sq (V.as (v := .p (.v (.bool false))) rfl (So.e ?_))))))))))))))))))))))))))))))
  refine HT.ret ?_
  exact rt1 h (le_bool (by exact (decide_eq_false (by unfold whereP; omega)).symm))
def rrightSp : Sp := ⟨[], mkE (α := (List UInt8) × Int × Int × Int × (List UInt8)) (fun (g, ep, fr, kd, bd) => [.agg 5 (fun j => ([.bs g, .v (.int .i64 ep), .v (.int .i64 fr), .v (.int .i64 kd), .bs bd] : List PV).getD j (.v undef))]) (fun (g, ep, fr, kd, bd) => []) (fun (g, ep, fr, kd, bd) => True) (fun (g, ep, fr, kd, bd) => [.p (.v (.bool (decide (rightP g ep fr kd bd))))]) (fun (g, ep, fr, kd, bd) => [])⟩
def S_rright : FuncId -> Option Sp := fun f => if f = 70 then some rwhereSp else none
theorem S_rright_ok : ∀ f s, S_rright f = some s -> FOK Tryd.prog gl f s := sI rwhere_ok sN
theorem rright_ok : FOK Tryd.prog gl 69 rrightSp := by
 refine FOK.ofE (tyOf_ok Tryd.prog) (slots := [2]) (nt := 26) Tryd.func69 rfl rfl rfl rfl (by decide) 1 (fun ⟨_, _, _, _, _⟩ => rfl) (by decide) (fun ⟨_, _, _, _, _⟩ => ⟨trivial, trivial⟩) ?_
 rintro ⟨g, ep, fr, kd, bd⟩ kk hlen hpre h
 replace hpre : True := hpre
 show HT (cx Tryd.prog 26 (tyOf Tryd.prog) gl []) _ [(0, .agg 5 (fun j => ([.bs g, .v (.int .i64 ep), .v (.int .i64 fr), .v (.int .i64 kd), .bs bd] : List PV).getD j (.v undef)))] [] _
 refine HT.seq (HT.region S_rright_ok (So.n (lk rfl) (A.boxAg 1 1 (n := 5) rfl (by intro j hj; (match j, hj with | 0, _ => (trivial) | 1, _ => (trivial) | 2, _ => (trivial) | 3, _ => (trivial) | 4, _ => (trivial))) rfl trivial (Sq (V.as (v := .p (.v (.bool false))) rfl (So.e (HT.seq (HT.region S_rright_ok (Sq (V.fa ty36 rfl ty23 rfl rfl (Sq (V.ld ty23 rfl rfl rfl (v := .p (.bs _)) rfl (Sq (V.fa ty36 rfl ty2 rfl rfl (Sq (V.ld ty2 rfl rfl rfl (v := .p (.v (.int .i64 _))) rfl (Sq (V.fa ty36 rfl ty3 rfl rfl (Sq (V.ld ty3 rfl rfl rfl (v := .p (.v (.int .i64 _))) rfl ?_))))))))))))))))))))
 refine So.n (lk rfl) (A.call0 [.p (.bs _), .p (.v (.int .i64 _)), .p (.v (.int .i64 _))] 2 rfl rfl rfl rfl ⟨trivial, trivial, trivial, trivial⟩ trivial (g, ep, fr) ⟨.refl _, .refl _, .refl _, trivial⟩ trivial (by trivial) tT (.inl rfl) (v := .p (.v (.bool _))) rfl (O' := _) rfl (fun h1 => ?_))
 refine Sq (V.mv (v := .p (.v (.bool _))) rfl ?_)
 refine So.gd rfl rfl (lk rfl) (lk rfl) (fun h2 => ?_) (fun h2 => ?_)
 ·have h2 := of_decide_eq_true h2
  refine A.v rfl (V.fa ty36 rfl ty3 rfl rfl (So.gy rfl rfl (lk rfl) (lk rfl) (A.v rfl (V.ld ty3 rfl rfl rfl (v := .p (.v (.int .i64 _))) rfl (So.gy rfl rfl (lk rfl) (lk rfl) (A.v rfl (V.bin (a := .v (.int .i64 _)) (b := .v (.int .i64 1)) (r := .v (.bool _)) rfl rfl rfl trivial (Sq (V.pkTrue (u := .p (.v (.bool _))) rfl rfl (Sq (V.mv (v := .p (.v (.bool _))) rfl ?_)))))))))))
  refine So.gd rfl rfl (lk rfl) (lk rfl) (fun h3 => ?_) (fun h3 => ?_)
  ·have h3 := of_decide_eq_true h3
   refine A.v rfl (V.fa ty36 rfl ty3 rfl rfl (So.gy rfl rfl (lk rfl) (lk rfl) (A.v rfl (V.ld ty3 rfl rfl rfl (v := .p (.v (.int .i64 _))) rfl (So.gy rfl rfl (lk rfl) (lk rfl) (A.v rfl (V.bin (a := .v (.int .i64 _)) (b := .v (.int .i64 5)) (r := .v (.bool _)) rfl rfl rfl trivial (Sq (V.pkTrue (u := .p (.v (.bool _))) rfl rfl (Sq (V.mv (v := .p (.v (.bool _))) rfl ?_)))))))))))
   refine So.gd rfl rfl (lk rfl) (lk rfl) (fun h4 => ?_) (fun h4 => ?_)
   ·have h4 := of_decide_eq_true h4
    refine A.v rfl (V.fa ty36 rfl ty23 rfl rfl (So.gy rfl rfl (lk rfl) (lk rfl) (A.v rfl (V.ld ty23 rfl rfl rfl (v := .p (.bs _)) rfl (So.gy rfl rfl (lk rfl) (lk rfl) (A.v rfl (V.len ty23 (v := .p (.bs _)) rfl rfl (So.gy rfl rfl (lk rfl) (lk rfl) (A.v rfl (V.bin (a := .v (.int .i64 _)) (b := .v (.int .i64 30000)) (r := .v (.bool _)) rfl rfl rfl trivial (Sq (V.pkTrue (u := .p (.v (.bool _))) rfl rfl (Sq (V.as (v := .p (.v (.bool _))) rfl (So.e ?_)))))))))))))))
    refine HT.ret ?_
    exact rt1 h (le_bool (by exact decide_eq_decide.2 (by unfold rightP; (have q := ‹whereP g ep fr›; exact ⟨fun h9 => ⟨q, by omega⟩, fun h9 => by omega⟩))))
   ·have h4 := of_decide_eq_false h4
    refine So.gn (b := false) rfl rfl rfl (lk rfl) (lk rfl) (So.gn (b := false) rfl rfl rfl (lk rfl) (lk rfl) (So.gn (b := false) rfl rfl rfl (lk rfl) (lk rfl) (Sq (V.pkFalse (u := .p (.v (.bool false))) rfl rfl (Sq (V.as (v := .p (.v (.bool false))) rfl (So.e ?_)))))))
    refine HT.ret ?_
    exact rt1 h (le_bool (by exact (decide_eq_false (by unfold rightP; omega)).symm))
  ·have h3 := of_decide_eq_false h3
   refine So.gn (b := false) rfl rfl rfl (lk rfl) (lk rfl) (So.gn (b := false) rfl rfl rfl (lk rfl) (lk rfl) (Sq (V.pkFalse (u := .p (.v (.bool false))) rfl rfl (Sq (V.mv (v := .p (.v (.bool false))) rfl (So.gn (b := false) rfl rfl rfl (lk rfl) (lk rfl) (So.gn (b := false) rfl rfl rfl (lk rfl) (lk rfl) (So.gn (b := false) rfl rfl rfl (lk rfl) (lk rfl) (So.gn (b := false) rfl rfl rfl (lk rfl) (lk rfl) (Sq (V.pkFalse (u := .p (.v (.bool false))) rfl rfl (Sq (V.as (v := .p (.v (.bool false))) rfl (So.e ?_))))))))))))))
   refine HT.ret ?_
   exact rt1 h (le_bool (by exact (decide_eq_false (by unfold rightP; omega)).symm))
 ·have h2 := of_decide_eq_false h2
  refine So.gn (b := false) rfl rfl rfl (lk rfl) (lk rfl) (So.gn (b := false) rfl rfl rfl (lk rfl) (lk rfl) (Sq (V.pkFalse (u := .p (.v (.bool false))) rfl rfl (Sq (V.mv (v := .p (.v (.bool false))) rfl (So.gn (b := false) rfl rfl rfl (lk rfl) (lk rfl) (So.gn (b := false) rfl rfl rfl (lk rfl) (lk rfl) (So.gn (b := false) rfl rfl rfl (lk rfl) (lk rfl) (Sq (V.pkFalse (u := .p (.v (.bool false))) rfl rfl (Sq (V.mv (v := .p (.v (.bool false))) rfl (So.gn (b := false) rfl rfl rfl (lk rfl) (lk rfl) (So.gn (b := false) rfl rfl rfl (lk rfl) (lk rfl) (So.gn (b := false) rfl rfl rfl (lk rfl) (lk rfl) (So.gn (b := false) rfl rfl rfl (lk rfl) (lk rfl) (Sq (V.pkFalse (u := .p (.v (.bool false))) rfl rfl (Sq (V.as (v := .p (.v (.bool false))) rfl (So.e ?_)))))))))))))))))))))
  refine HT.ret ?_
  exact rt1 h (le_bool (by exact (decide_eq_false (by unfold rightP; (rintro ⟨q, _⟩; exact absurd q (by assumption)))).symm))
def rsealSp : Sp := ⟨[], mkE (α := (List UInt8) × Int × Int × Int × (List UInt8)) (fun (g, ep, fr, gn, cl) => [.agg 5 (fun j => ([.bs g, .v (.int .i64 ep), .v (.int .i64 fr), .v (.int .i64 gn), .bs cl] : List PV).getD j (.v undef))]) (fun (g, ep, fr, gn, cl) => []) (fun (g, ep, fr, gn, cl) => True) (fun (g, ep, fr, gn, cl) => [.p (.v (.bool (decide (sealP g ep fr gn cl))))]) (fun (g, ep, fr, gn, cl) => [])⟩
def S_rseal : FuncId -> Option Sp := fun f => if f = 70 then some rwhereSp else none
theorem S_rseal_ok : ∀ f s, S_rseal f = some s -> FOK Tryd.prog gl f s := sI rwhere_ok sN
theorem rseal_ok : FOK Tryd.prog gl 57 rsealSp := by
 refine FOK.ofE (tyOf_ok Tryd.prog) (slots := [2]) (nt := 26) Tryd.func57 rfl rfl rfl rfl (by decide) 1 (fun ⟨_, _, _, _, _⟩ => rfl) (by decide) (fun ⟨_, _, _, _, _⟩ => ⟨trivial, trivial⟩) ?_
 rintro ⟨g, ep, fr, gn, cl⟩ kk hlen hpre h
 replace hpre : True := hpre
 show HT (cx Tryd.prog 26 (tyOf Tryd.prog) gl []) _ [(0, .agg 5 (fun j => ([.bs g, .v (.int .i64 ep), .v (.int .i64 fr), .v (.int .i64 gn), .bs cl] : List PV).getD j (.v undef)))] [] _
 refine HT.seq (HT.region S_rseal_ok (So.n (lk rfl) (A.boxAg 1 1 (n := 5) rfl (by intro j hj; (match j, hj with | 0, _ => (trivial) | 1, _ => (trivial) | 2, _ => (trivial) | 3, _ => (trivial) | 4, _ => (trivial))) rfl trivial (Sq (V.as (v := .p (.v (.bool false))) rfl (So.e (HT.seq (HT.region S_rseal_ok (Sq (V.fa ty69 rfl ty23 rfl rfl (Sq (V.ld ty23 rfl rfl rfl (v := .p (.bs _)) rfl (Sq (V.fa ty69 rfl ty2 rfl rfl (Sq (V.ld ty2 rfl rfl rfl (v := .p (.v (.int .i64 _))) rfl (Sq (V.fa ty69 rfl ty3 rfl rfl (Sq (V.ld ty3 rfl rfl rfl (v := .p (.v (.int .i64 _))) rfl ?_))))))))))))))))))))
 refine So.n (lk rfl) (A.call0 [.p (.bs _), .p (.v (.int .i64 _)), .p (.v (.int .i64 _))] 2 rfl rfl rfl rfl ⟨trivial, trivial, trivial, trivial⟩ trivial (g, ep, fr) ⟨.refl _, .refl _, .refl _, trivial⟩ trivial (by trivial) tT (.inl rfl) (v := .p (.v (.bool _))) rfl (O' := _) rfl (fun h1 => ?_))
 refine Sq (V.mv (v := .p (.v (.bool _))) rfl ?_)
 refine So.gd rfl rfl (lk rfl) (lk rfl) (fun h2 => ?_) (fun h2 => ?_)
 ·have h2 := of_decide_eq_true h2
  refine A.v rfl (V.fa ty69 rfl ty2 rfl rfl (So.gy rfl rfl (lk rfl) (lk rfl) (A.v rfl (V.ld ty2 rfl rfl rfl (v := .p (.v (.int .i64 _))) rfl (So.gy rfl rfl (lk rfl) (lk rfl) (A.v rfl (V.bin (a := .v (.int .i64 _)) (b := .v (.int .i64 0)) (r := .v (.bool _)) rfl rfl rfl trivial (Sq (V.pkTrue (u := .p (.v (.bool _))) rfl rfl (Sq (V.mv (v := .p (.v (.bool _))) rfl ?_)))))))))))
  refine So.gd rfl rfl (lk rfl) (lk rfl) (fun h3 => ?_) (fun h3 => ?_)
  ·have h3 := of_decide_eq_true h3
   refine A.v rfl (V.fa ty69 rfl ty2 rfl rfl (So.gy rfl rfl (lk rfl) (lk rfl) (A.v rfl (V.ld ty2 rfl rfl rfl (v := .p (.v (.int .i64 _))) rfl (So.gy rfl rfl (lk rfl) (lk rfl) (A.v rfl (V.bin (a := .v (.int .i64 _)) (b := .v (.int .i64 1073741824)) (r := .v (.bool _)) rfl rfl rfl trivial (Sq (V.pkTrue (u := .p (.v (.bool _))) rfl rfl (Sq (V.mv (v := .p (.v (.bool _))) rfl ?_)))))))))))
   refine So.gd rfl rfl (lk rfl) (lk rfl) (fun h4 => ?_) (fun h4 => ?_)
   ·have h4 := of_decide_eq_true h4
    refine A.v rfl (V.fa ty69 rfl ty23 rfl rfl (So.gy rfl rfl (lk rfl) (lk rfl) (A.v rfl (V.ld ty23 rfl rfl rfl (v := .p (.bs _)) rfl (So.gy rfl rfl (lk rfl) (lk rfl) (A.v rfl (V.len ty23 (v := .p (.bs _)) rfl rfl (So.gy rfl rfl (lk rfl) (lk rfl) (A.v rfl (V.bin (a := .v (.int .i64 _)) (b := .v (.int .i64 32800)) (r := .v (.bool _)) rfl rfl rfl trivial (Sq (V.pkTrue (u := .p (.v (.bool _))) rfl rfl (Sq (V.as (v := .p (.v (.bool _))) rfl (So.e ?_)))))))))))))))
    refine HT.ret ?_
    exact rt1 h (le_bool (by exact decide_eq_decide.2 (by unfold sealP; (have q := ‹whereP g ep fr›; exact ⟨fun h9 => ⟨q, by omega⟩, fun h9 => by omega⟩))))
   ·have h4 := of_decide_eq_false h4
    refine So.gn (b := false) rfl rfl rfl (lk rfl) (lk rfl) (So.gn (b := false) rfl rfl rfl (lk rfl) (lk rfl) (So.gn (b := false) rfl rfl rfl (lk rfl) (lk rfl) (Sq (V.pkFalse (u := .p (.v (.bool false))) rfl rfl (Sq (V.as (v := .p (.v (.bool false))) rfl (So.e ?_)))))))
    refine HT.ret ?_
    exact rt1 h (le_bool (by exact (decide_eq_false (by unfold sealP; omega)).symm))
  ·have h3 := of_decide_eq_false h3
   refine So.gn (b := false) rfl rfl rfl (lk rfl) (lk rfl) (So.gn (b := false) rfl rfl rfl (lk rfl) (lk rfl) (Sq (V.pkFalse (u := .p (.v (.bool false))) rfl rfl (Sq (V.mv (v := .p (.v (.bool false))) rfl (So.gn (b := false) rfl rfl rfl (lk rfl) (lk rfl) (So.gn (b := false) rfl rfl rfl (lk rfl) (lk rfl) (So.gn (b := false) rfl rfl rfl (lk rfl) (lk rfl) (So.gn (b := false) rfl rfl rfl (lk rfl) (lk rfl) (Sq (V.pkFalse (u := .p (.v (.bool false))) rfl rfl (Sq (V.as (v := .p (.v (.bool false))) rfl (So.e ?_))))))))))))))
   refine HT.ret ?_
   exact rt1 h (le_bool (by exact (decide_eq_false (by unfold sealP; omega)).symm))
 ·have h2 := of_decide_eq_false h2
  refine So.gn (b := false) rfl rfl rfl (lk rfl) (lk rfl) (So.gn (b := false) rfl rfl rfl (lk rfl) (lk rfl) (Sq (V.pkFalse (u := .p (.v (.bool false))) rfl rfl (Sq (V.mv (v := .p (.v (.bool false))) rfl (So.gn (b := false) rfl rfl rfl (lk rfl) (lk rfl) (So.gn (b := false) rfl rfl rfl (lk rfl) (lk rfl) (So.gn (b := false) rfl rfl rfl (lk rfl) (lk rfl) (Sq (V.pkFalse (u := .p (.v (.bool false))) rfl rfl (Sq (V.mv (v := .p (.v (.bool false))) rfl (So.gn (b := false) rfl rfl rfl (lk rfl) (lk rfl) (So.gn (b := false) rfl rfl rfl (lk rfl) (lk rfl) (So.gn (b := false) rfl rfl rfl (lk rfl) (lk rfl) (So.gn (b := false) rfl rfl rfl (lk rfl) (lk rfl) (Sq (V.pkFalse (u := .p (.v (.bool false))) rfl rfl (Sq (V.as (v := .p (.v (.bool false))) rfl (So.e ?_)))))))))))))))))))))
  refine HT.ret ?_
  exact rt1 h (le_bool (by exact (decide_eq_false (by unfold sealP; (rintro ⟨q, _⟩; exact absurd q (by assumption)))).symm))
def rmsgSp : Sp := ⟨[], mkE (α := (List UInt8) × Int × Int × Int × (List UInt8) × (List UInt8) × (List UInt8) × (List UInt8)) (fun (g, ep, fr, kd, bd, sn, cf, mb) => [.agg 8 (fun j => ([.bs g, .v (.int .i64 ep), .v (.int .i64 fr), .v (.int .i64 kd), .bs bd, .bs sn, .bs cf, .bs mb] : List PV).getD j (.v undef))]) (fun (g, ep, fr, kd, bd, sn, cf, mb) => []) (fun (g, ep, fr, kd, bd, sn, cf, mb) => True) (fun (g, ep, fr, kd, bd, sn, cf, mb) => [.p (.v (.bool (decide (msgP g ep fr kd bd sn cf mb))))]) (fun (g, ep, fr, kd, bd, sn, cf, mb) => [])⟩
def S_rmsg : FuncId -> Option Sp := fun f => if f = 69 then some rrightSp else none
theorem S_rmsg_ok : ∀ f s, S_rmsg f = some s -> FOK Tryd.prog gl f s := sI rright_ok sN
theorem rmsg_ok : FOK Tryd.prog gl 56 rmsgSp := by
 refine FOK.ofE (tyOf_ok Tryd.prog) (slots := [2]) (nt := 36) Tryd.func56 rfl rfl rfl rfl (by decide) 1 (fun ⟨_, _, _, _, _, _, _, _⟩ => rfl) (by decide) (fun ⟨_, _, _, _, _, _, _, _⟩ => ⟨trivial, trivial⟩) ?_
 rintro ⟨g, ep, fr, kd, bd, sn, cf, mb⟩ kk hlen hpre h
 replace hpre : True := hpre
 show HT (cx Tryd.prog 36 (tyOf Tryd.prog) gl []) _ [(0, .agg 8 (fun j => ([.bs g, .v (.int .i64 ep), .v (.int .i64 fr), .v (.int .i64 kd), .bs bd, .bs sn, .bs cf, .bs mb] : List PV).getD j (.v undef)))] [] _
 refine HT.seq (HT.region S_rmsg_ok (So.n (lk rfl) (A.boxAg 1 1 (n := 8) rfl (by intro j hj; (match j, hj with | 0, _ => (trivial) | 1, _ => (trivial) | 2, _ => (trivial) | 3, _ => (trivial) | 4, _ => (trivial) | 5, _ => (trivial) | 6, _ => (trivial) | 7, _ => (trivial))) rfl trivial (Sq (V.as (v := .p (.v (.bool false))) rfl (So.e (HT.seq (HT.region S_rmsg_ok (Sq (V.fa ty49 rfl ty36 rfl rfl (Sq (V.ldPtrA ty36 rfl rfl rfl rfl (lk rfl) ?_))))))))))))
 refine So.n (lk rfl) (A.call0 [.agg 5 _] 2 rfl rfl rfl rfl ⟨trivial, trivial⟩ trivial (g, ep, fr, kd, bd) ⟨le_agg (fun j hj => by match j, hj with | 0, _ => rfl | 1, _ => rfl | 2, _ => rfl | 3, _ => rfl | 4, _ => rfl), trivial⟩ trivial (by trivial) tT (.inl rfl) (v := .p (.v (.bool _))) rfl (O' := _) rfl (fun h1 => ?_))
 refine Sq (V.mv (v := .p (.v (.bool _))) rfl ?_)
 refine So.gd rfl rfl (lk rfl) (lk rfl) (fun h2 => ?_) (fun h2 => ?_)
 ·have h2 := of_decide_eq_true h2
  refine A.v rfl (V.fa ty49 rfl ty23 rfl rfl (So.gy rfl rfl (lk rfl) (lk rfl) (A.v rfl (V.ld ty23 rfl rfl rfl (v := .p (.bs _)) rfl (So.gy rfl rfl (lk rfl) (lk rfl) (A.v rfl (V.len ty23 (v := .p (.bs _)) rfl rfl (So.gy rfl rfl (lk rfl) (lk rfl) (A.v rfl (V.bin (a := .v (.int .i64 _)) (b := .v (.int .i64 3309)) (r := .v (.bool _)) rfl rfl rfl trivial (Sq (V.pkTrue (u := .p (.v (.bool _))) rfl rfl (Sq (V.mv (v := .p (.v (.bool _))) rfl ?_))))))))))))))
  refine So.gd rfl rfl (lk rfl) (lk rfl) (fun h3 => ?_) (fun h3 => ?_)
  ·have h3 := of_decide_eq_true h3
   refine A.v rfl (V.fa ty49 rfl ty23 rfl rfl (So.gy rfl rfl (lk rfl) (lk rfl) (A.v rfl (V.ld ty23 rfl rfl rfl (v := .p (.bs _)) rfl (So.gy rfl rfl (lk rfl) (lk rfl) (A.v rfl (V.len ty23 (v := .p (.bs _)) rfl rfl (So.gy rfl rfl (lk rfl) (lk rfl) (A.v rfl (V.bin (a := .v (.int .i64 _)) (b := .v (.int .i64 0)) (r := .v (.bool _)) rfl rfl rfl trivial (So.gy rfl rfl (lk rfl) (lk rfl) (A.v rfl (V.mv (v := .p (.v (.bool _))) rfl ?_)))))))))))))
   refine So.gd rfl rfl (lk rfl) (lk rfl) (fun h4 => ?_) (fun h4 => ?_)
   ·have h4 := of_decide_eq_false h4
    refine A.v rfl (V.fa ty49 rfl ty23 rfl rfl (So.gy rfl rfl (lk rfl) (lk rfl) (A.v rfl (V.ld ty23 rfl rfl rfl (v := .p (.bs _)) rfl (So.gy rfl rfl (lk rfl) (lk rfl) (A.v rfl (V.len ty23 (v := .p (.bs _)) rfl rfl (So.gy rfl rfl (lk rfl) (lk rfl) (A.v rfl (V.bin (a := .v (.int .i64 _)) (b := .v (.int .i64 32)) (r := .v (.bool _)) rfl rfl rfl trivial (So.gy rfl rfl (lk rfl) (lk rfl) (A.v rfl (V.pkFalse (u := .p (.v (.bool _))) rfl rfl (Sq (V.pkTrue (u := .p (.v (.bool _))) rfl rfl (Sq (V.mv (v := .p (.v (.bool _))) rfl ?_)))))))))))))))))
    refine So.gd rfl rfl (lk rfl) (lk rfl) (fun h5 => ?_) (fun h5 => ?_)
    ·have h5 := of_decide_eq_true h5
     refine A.v rfl (V.fa ty49 rfl ty23 rfl rfl (So.gy rfl rfl (lk rfl) (lk rfl) (A.v rfl (V.ld ty23 rfl rfl rfl (v := .p (.bs _)) rfl (So.gy rfl rfl (lk rfl) (lk rfl) (A.v rfl (V.len ty23 (v := .p (.bs _)) rfl rfl (So.gy rfl rfl (lk rfl) (lk rfl) (A.v rfl (V.bin (a := .v (.int .i64 _)) (b := .v (.int .i64 0)) (r := .v (.bool _)) rfl rfl rfl trivial (So.gy rfl rfl (lk rfl) (lk rfl) (A.v rfl (V.mv (v := .p (.v (.bool _))) rfl ?_)))))))))))))
     refine So.gd rfl rfl (lk rfl) (lk rfl) (fun h6 => ?_) (fun h6 => ?_)
     ·have h6 := of_decide_eq_false h6
      refine A.v rfl (V.fa ty49 rfl ty23 rfl rfl (So.gy rfl rfl (lk rfl) (lk rfl) (A.v rfl (V.ld ty23 rfl rfl rfl (v := .p (.bs _)) rfl (So.gy rfl rfl (lk rfl) (lk rfl) (A.v rfl (V.len ty23 (v := .p (.bs _)) rfl rfl (So.gy rfl rfl (lk rfl) (lk rfl) (A.v rfl (V.bin (a := .v (.int .i64 _)) (b := .v (.int .i64 32)) (r := .v (.bool _)) rfl rfl rfl trivial (So.gy rfl rfl (lk rfl) (lk rfl) (A.v rfl (V.pkFalse (u := .p (.v (.bool _))) rfl rfl (Sq (V.pkTrue (u := .p (.v (.bool _))) rfl rfl (Sq (V.as (v := .p (.v (.bool _))) rfl (So.e ?_))))))))))))))))))
      refine HT.ret ?_
      exact rt1 h (le_bool (by exact msg_iff ⟨fun q => ⟨by assumption, by omega⟩, fun q => by have := q.2; omega⟩))
     ·have h6 := of_decide_eq_true h6
      refine So.gn (b := true) rfl rfl rfl (lk rfl) (lk rfl) (So.gn (b := true) rfl rfl rfl (lk rfl) (lk rfl) (So.gn (b := true) rfl rfl rfl (lk rfl) (lk rfl) (So.gy rfl rfl (lk rfl) (lk rfl) (A.v rfl (V.pkTrue (u := .p (.v (.bool true))) rfl rfl (Sq (V.pkTrue (u := .p (.v (.bool true))) rfl rfl (Sq (V.as (v := .p (.v (.bool true))) rfl (So.e ?_))))))))))
      refine HT.ret ?_
      exact rt1 h (le_bool (by exact msg_yes ⟨by assumption, by omega⟩))
    ·have h5 := of_decide_eq_false h5
     refine So.gn (b := false) rfl rfl rfl (lk rfl) (lk rfl) (So.gn (b := false) rfl rfl rfl (lk rfl) (lk rfl) (So.gn (b := false) rfl rfl rfl (lk rfl) (lk rfl) (So.gn (b := false) rfl rfl rfl (lk rfl) (lk rfl) ?_)))
     refine So.gu rfl rfl (lk rfl) ?_
     refine So.gu rfl rfl (lk rfl) ?_
     refine So.gu rfl rfl (lk rfl) ?_
     refine So.gu rfl rfl (lk rfl) ?_
     refine So.gn (b := false) rfl rfl rfl (lk rfl) (lk rfl) (Sq (V.pkFalse (u := .p (.v (.bool false))) rfl rfl (Sq (V.as (v := .p (.v (.bool false))) rfl (So.e ?_)))))
     refine HT.ret ?_
     exact rt1 h (le_bool (by exact msg_no (fun q => by have := q.2; omega)))
   ·have h4 := of_decide_eq_true h4
    refine So.gn (b := true) rfl rfl rfl (lk rfl) (lk rfl) (So.gn (b := true) rfl rfl rfl (lk rfl) (lk rfl) (So.gn (b := true) rfl rfl rfl (lk rfl) (lk rfl) (So.gy rfl rfl (lk rfl) (lk rfl) (A.v rfl (V.pkTrue (u := .p (.v (.bool true))) rfl rfl (Sq (V.pkTrue (u := .p (.v (.bool true))) rfl rfl (Sq (V.mv (v := .p (.v (.bool true))) rfl (So.gy rfl rfl (lk rfl) (lk rfl) (A.v rfl (V.fa ty49 rfl ty23 rfl rfl (So.gy rfl rfl (lk rfl) (lk rfl) (A.v rfl (V.ld ty23 rfl rfl rfl (v := .p (.bs _)) rfl (So.gy rfl rfl (lk rfl) (lk rfl) (A.v rfl (V.len ty23 (v := .p (.bs _)) rfl rfl (So.gy rfl rfl (lk rfl) (lk rfl) (A.v rfl (V.bin (a := .v (.int .i64 _)) (b := .v (.int .i64 0)) (r := .v (.bool _)) rfl rfl rfl trivial (So.gy rfl rfl (lk rfl) (lk rfl) (A.v rfl (V.mv (v := .p (.v (.bool _))) rfl ?_))))))))))))))))))))))))
    refine So.gd rfl rfl (lk rfl) (lk rfl) (fun h7 => ?_) (fun h7 => ?_)
    ·have h7 := of_decide_eq_false h7
     refine A.v rfl (V.fa ty49 rfl ty23 rfl rfl (So.gy rfl rfl (lk rfl) (lk rfl) (A.v rfl (V.ld ty23 rfl rfl rfl (v := .p (.bs _)) rfl (So.gy rfl rfl (lk rfl) (lk rfl) (A.v rfl (V.len ty23 (v := .p (.bs _)) rfl rfl (So.gy rfl rfl (lk rfl) (lk rfl) (A.v rfl (V.bin (a := .v (.int .i64 _)) (b := .v (.int .i64 32)) (r := .v (.bool _)) rfl rfl rfl trivial (So.gy rfl rfl (lk rfl) (lk rfl) (A.v rfl (V.pkFalse (u := .p (.v (.bool _))) rfl rfl (Sq (V.pkTrue (u := .p (.v (.bool _))) rfl rfl (Sq (V.as (v := .p (.v (.bool _))) rfl (So.e ?_))))))))))))))))))
     refine HT.ret ?_
     exact rt1 h (le_bool (by exact msg_iff ⟨fun q => ⟨by assumption, by omega⟩, fun q => by have := q.2; omega⟩))
    ·have h7 := of_decide_eq_true h7
     refine So.gn (b := true) rfl rfl rfl (lk rfl) (lk rfl) (So.gn (b := true) rfl rfl rfl (lk rfl) (lk rfl) (So.gn (b := true) rfl rfl rfl (lk rfl) (lk rfl) (So.gy rfl rfl (lk rfl) (lk rfl) (A.v rfl (V.pkTrue (u := .p (.v (.bool true))) rfl rfl (Sq (V.pkTrue (u := .p (.v (.bool true))) rfl rfl (Sq (V.as (v := .p (.v (.bool true))) rfl (So.e ?_))))))))))
     refine HT.ret ?_
     exact rt1 h (le_bool (by exact msg_yes ⟨by assumption, by omega⟩))
  ·have h3 := of_decide_eq_false h3
   refine So.gn (b := false) rfl rfl rfl (lk rfl) (lk rfl) (So.gn (b := false) rfl rfl rfl (lk rfl) (lk rfl) (So.gn (b := false) rfl rfl rfl (lk rfl) (lk rfl) (So.gn (b := false) rfl rfl rfl (lk rfl) (lk rfl) ?_)))
   refine So.gu rfl rfl (lk rfl) ?_
   refine So.gu rfl rfl (lk rfl) ?_
   refine So.gu rfl rfl (lk rfl) ?_
   refine So.gu rfl rfl (lk rfl) ?_
   refine So.gn (b := false) rfl rfl rfl (lk rfl) (lk rfl) (Sq (V.pkFalse (u := .p (.v (.bool false))) rfl rfl (Sq (V.mv (v := .p (.v (.bool false))) rfl (So.gn (b := false) rfl rfl rfl (lk rfl) (lk rfl) (So.gn (b := false) rfl rfl rfl (lk rfl) (lk rfl) (So.gn (b := false) rfl rfl rfl (lk rfl) (lk rfl) (So.gn (b := false) rfl rfl rfl (lk rfl) (lk rfl) (So.gn (b := false) rfl rfl rfl (lk rfl) (lk rfl) ?_)))))))))
   refine So.gu rfl rfl (lk rfl) ?_
   refine So.gu rfl rfl (lk rfl) ?_
   refine So.gu rfl rfl (lk rfl) ?_
   refine So.gu rfl rfl (lk rfl) ?_
   refine So.gn (b := false) rfl rfl rfl (lk rfl) (lk rfl) (Sq (V.pkFalse (u := .p (.v (.bool false))) rfl rfl (Sq (V.as (v := .p (.v (.bool false))) rfl (So.e ?_)))))
   refine HT.ret ?_
   exact rt1 h (le_bool (by exact msg_no (fun q => by have := q.2; omega)))
 ·have h2 := of_decide_eq_false h2
  refine So.gn (b := false) rfl rfl rfl (lk rfl) (lk rfl) (So.gn (b := false) rfl rfl rfl (lk rfl) (lk rfl) (So.gn (b := false) rfl rfl rfl (lk rfl) (lk rfl) (Sq (V.pkFalse (u := .p (.v (.bool false))) rfl rfl (Sq (V.mv (v := .p (.v (.bool false))) rfl (So.gn (b := false) rfl rfl rfl (lk rfl) (lk rfl) (So.gn (b := false) rfl rfl rfl (lk rfl) (lk rfl) (So.gn (b := false) rfl rfl rfl (lk rfl) (lk rfl) (So.gn (b := false) rfl rfl rfl (lk rfl) (lk rfl) (So.gn (b := false) rfl rfl rfl (lk rfl) (lk rfl) ?_)))))))))))
  refine So.gu rfl rfl (lk rfl) ?_
  refine So.gu rfl rfl (lk rfl) ?_
  refine So.gu rfl rfl (lk rfl) ?_
  refine So.gu rfl rfl (lk rfl) ?_
  refine So.gn (b := false) rfl rfl rfl (lk rfl) (lk rfl) (Sq (V.pkFalse (u := .p (.v (.bool false))) rfl rfl (Sq (V.mv (v := .p (.v (.bool false))) rfl (So.gn (b := false) rfl rfl rfl (lk rfl) (lk rfl) (So.gn (b := false) rfl rfl rfl (lk rfl) (lk rfl) (So.gn (b := false) rfl rfl rfl (lk rfl) (lk rfl) (So.gn (b := false) rfl rfl rfl (lk rfl) (lk rfl) (So.gn (b := false) rfl rfl rfl (lk rfl) (lk rfl) ?_)))))))))
  refine So.gu rfl rfl (lk rfl) ?_
  refine So.gu rfl rfl (lk rfl) ?_
  refine So.gu rfl rfl (lk rfl) ?_
  refine So.gu rfl rfl (lk rfl) ?_
  refine So.gn (b := false) rfl rfl rfl (lk rfl) (lk rfl) (Sq (V.pkFalse (u := .p (.v (.bool false))) rfl rfl (Sq (V.as (v := .p (.v (.bool false))) rfl (So.e ?_)))))
  refine HT.ret ?_
  exact rt1 h (le_bool (by exact msg_no (fun q => absurd q.1 (by assumption))))
def r18getSp : Sp := ⟨[], mkE (α := (List UInt8)) (fun b => [.p (.bs b)]) (fun b => []) (fun b => True) (fun b => [.agg 8 (fun j => ([.bs (gmG b), .v (.int .i64 (gmP b)), .v (.int .i64 (gmF b)), .v (.int .i64 (gmK b)), .bs (gmB b), .bs (gmS b), .bs (gmC b), .bs (gmM b)] : List PV).getD j (.v undef)), .p (.v (.int .i64 ((gmE b))))]) (fun b => [])⟩
def S_r18get : FuncId -> Option Sp := fun f => if f = 54 then some rrtextSp else if f = 55 then some rrnumSp else if f = 56 then some rmsgSp else none
theorem S_r18get_ok : ∀ f s, S_r18get f = some s -> FOK Tryd.prog gl f s := sI rrtext_ok (sI rrnum_ok (sI rmsg_ok sN))
theorem S_r18get_det : ∀ f s, S_r18get f = some s -> SpDet s.sp := dI (dI (dI dN))
theorem r18get_ok : FOK Tryd.prog gl 40 r18getSp := by
 refine FOK.ofEC (tyOf_ok Tryd.prog) (rvs := [.cell 2 49, .tmp 3]) (nt := 92) Tryd.func40 rfl rfl rfl rfl (by decide) 1 (fun _ => rfl) (by decide) (fun _ => ⟨trivial, trivial⟩) ?_
 rintro b kk hlen hpre h
 have hl0 : (b).length <= 9223372036854775807 := hlen.1
 replace hpre : True := hpre
 show HT (cx Tryd.prog 92 (tyOf Tryd.prog) gl []) _ [(0, .p (.bs b))] [] _
 refine HT.seq (HT.region S_r18get_ok (So.n (lk rfl) (A.alloc 1 1 ty49 rfl trivial (f := fun j => ([.v (.slice none 0 0), .v (.int .i64 0), .v (.int .i64 0), .v (.int .i64 0), .v (.slice none 0 0), .v (.slice none 0 0), .v (.slice none 0 0), .v (.slice none 0 0)] : List PV).getD j (.v undef)) (fun j hj => by match j, hj with | 0, _ => rfl | 1, _ => rfl | 2, _ => rfl | 3, _ => rfl | 4, _ => rfl | 5, _ => rfl | 6, _ => rfl | 7, _ => rfl) (Sq (V.as (v := .p (.v (.int .i64 0))) rfl (So.e (HT.seq (HT.region S_r18get_ok (Sq (V.mv (v := .p (.bs _)) rfl (So.n (lk rfl) (A.bldS ty101 rfl rfl ⟨by exact trivial, trivial⟩ rfl (f := fun j => ([.bs b, .v (.int .i64 0), .v (.int .i64 0)] : List PV).getD j (.v undef)) (by exact allP_spec (P := fun j => _ = _) ⟨⟨⟨trivial, rfl⟩, rfl⟩, rfl⟩) (So.n (lk rfl) (A.boxAg 2 1 (n := 3) rfl (by intro j hj; (match j, hj with | 0, _ => (trivial) | 1, _ => (trivial) | 2, _ => (trivial))) rfl trivial (Sq (V.as (v := .ptr 2 0) rfl (So.e (HT.seq (HT.region S_r18get_ok (So.n (lk rfl) (A.alloc 3 1 ty49 rfl trivial (f := fun j => ([.v (.slice none 0 0), .v (.int .i64 0), .v (.int .i64 0), .v (.int .i64 0), .v (.slice none 0 0), .v (.slice none 0 0), .v (.slice none 0 0), .v (.slice none 0 0)] : List PV).getD j (.v undef)) (fun j hj => by match j, hj with | 0, _ => rfl | 1, _ => rfl | 2, _ => rfl | 3, _ => rfl | 4, _ => rfl | 5, _ => rfl | 6, _ => rfl | 7, _ => rfl) (So.e (HT.seq (HT.region S_r18get_ok (Sq (V.mv (v := .ptr 2 0) rfl ?_))))))))))))))))))))))))))
 refine So.n (lk rfl) (A.call [.ptr 1 _] [(1, ⟨_, _, _, _, .rows _⟩)] (sg [(1, 2)]) 4 rfl rfl rfl rfl ⟨rfl, trivial⟩ rfl ⟨trivial, trivial⟩ ⟨rfl, trivial⟩ trivial rfl (b, 0, 0) ⟨.refl _, trivial⟩ ⟨⟨_, rfl, .inl rfl, trivial⟩, trivial⟩ (by trivial) tT ⟨⟨_, _, rfl, rfl, rfl, Nat.le_refl _⟩, trivial⟩ (.inl rfl) rfl (v := .p (.bs _)) rfl (O' := (2, ⟨_, _, _, _, .rows _⟩) :: _) rfl (fun h1 => ?_))
 refine Sq (V.as (v := .p (.bs _)) rfl (So.e (HT.seq (HT.region S_r18get_ok (Sq (V.mv (v := .ptr 2 0) rfl ?_))))))
 refine So.n (lk rfl) (A.call [.ptr 1 _] [(1, ⟨_, _, _, _, .rows _⟩)] (sg [(1, 2)]) 4 rfl rfl rfl rfl ⟨rfl, trivial⟩ rfl ⟨trivial, trivial⟩ ⟨rfl, trivial⟩ trivial rfl (b, (rdT b 0 0).2.1, (rdT b 0 0).2.2) ⟨.refl _, trivial⟩ ⟨⟨_, rfl, .inl rfl, trivial⟩, trivial⟩ (by trivial) tT ⟨⟨_, _, rfl, rfl, rfl, Nat.le_refl _⟩, trivial⟩ (.inl rfl) rfl (v := .p (.bs _)) rfl (O' := (2, ⟨_, _, _, _, .rows _⟩) :: _) rfl (fun h2 => ?_))
 refine Sq (V.fa ty49 rfl ty23 rfl rfl (So.s (A.sto ty23 rfl rfl rfl (v := .p (.bs _)) rfl trivial rfl (lk rfl) rfl rfl (So.e (HT.seq (HT.region S_r18get_ok (Sq (V.mv (v := .ptr 2 0) rfl ?_))))))))
 refine So.n (lk rfl) (A.call [.ptr 1 _] [(1, ⟨_, _, _, _, .rows _⟩)] (sg [(1, 2)]) 4 rfl rfl rfl rfl ⟨rfl, trivial⟩ rfl ⟨trivial, trivial⟩ ⟨rfl, trivial⟩ trivial rfl (b, (rd2 b 0 0).2.1, (rd2 b 0 0).2.2) ⟨.refl _, trivial⟩ ⟨⟨_, rfl, .inl rfl, trivial⟩, trivial⟩ (by trivial) tT ⟨⟨_, _, rfl, rfl, rfl, Nat.le_refl _⟩, trivial⟩ (.inl rfl) rfl (v := .p (.bs _)) rfl (O' := (2, ⟨_, _, _, _, .rows _⟩) :: _) rfl (fun h3 => ?_))
 refine Sq (V.fa ty49 rfl ty23 rfl rfl (So.s (A.sto ty23 rfl rfl rfl (v := .p (.bs _)) rfl trivial rfl (lk rfl) rfl rfl (So.e (HT.seq (HT.region S_r18get_ok (Sq (V.mv (v := .ptr 2 0) rfl ?_))))))))
 refine So.n (lk rfl) (A.call [.ptr 1 _] [(1, ⟨_, _, _, _, .rows _⟩)] (sg [(1, 2)]) 4 rfl rfl rfl rfl ⟨rfl, trivial⟩ rfl ⟨trivial, trivial⟩ ⟨rfl, trivial⟩ trivial rfl (b, (rd3 b 0 0).2.1, (rd3 b 0 0).2.2) ⟨.refl _, trivial⟩ ⟨⟨_, rfl, .inl rfl, trivial⟩, trivial⟩ (by trivial) tT ⟨⟨_, _, rfl, rfl, rfl, Nat.le_refl _⟩, trivial⟩ (.inl rfl) rfl (v := .p (.bs _)) rfl (O' := (2, ⟨_, _, _, _, .rows _⟩) :: _) rfl (fun h4 => ?_))
 refine Sq (V.fa ty49 rfl ty23 rfl rfl (So.s (A.sto ty23 rfl rfl rfl (v := .p (.bs _)) rfl trivial rfl (lk rfl) rfl rfl (So.e (HT.seq (HT.seq ?_))))))
 refine R.tell [] [(3, ⟨49, 1, 8, true, .rows (fun j => ([.v (.slice none 0 0), .v (.int .i64 0), .v (.int .i64 0), .v (.int .i64 0), .v (.slice none 0 0), .bs ((rd2 b 0 0).1), .bs ((rd3 b 0 0).1), .bs ((rd4 b 0 0).1)] : List PV).getD j (.v undef))⟩), (2, ⟨101, 1, 3, true, .rows (fun j => ([.bs b, .v (.int .i64 (rd4 b 0 0).2.1), .v (.int .i64 (rd4 b 0 0).2.2)] : List PV).getD j (.v undef))⟩)] [0, 2, 3, 4, 5, 6] [1] (fr0 := [(0, .p (.bs _)), (2, .ptr 1 0), (3, .p (.v (.int .i64 _))), (4, .ptr 2 0), (5, .ptr 3 0), (6, .p (.bs _))]) (O0 := [(1, ⟨_, _, _, _, .rows _⟩)]) rfl rfl ⟨⟨⟨.refl _, trivial⟩, ⟨.refl _, rfl⟩, ⟨.refl _, trivial⟩, ⟨.refl _, rfl⟩, ⟨.refl _, rfl⟩, ⟨.refl _, trivial⟩, trivial⟩, ⟨⟨_, rfl, .inr (ob_rowsL (by intro j hj; match j, hj with | 0, _ => exact .refl _ | 1, _ => exact .refl _ | 2, _ => exact .refl _ | 3, _ => exact .refl _ | 4, _ => exact .refl _ | 5, _ => exact .refl _ | 6, _ => exact .refl _ | 7, _ => exact .refl _)), trivial⟩, ⟨_, rfl, .inr (ob_rowsL (by intro j hj; match j, hj with | 0, _ => exact .refl _ | 1, _ => exact .refl _ | 2, _ => exact .refl _)), trivial⟩, ⟨_, rfl, .inl rfl, trivial⟩, trivial⟩⟩ ?_
 refine HT.region S_r18get_ok (Sq (V.mv (v := .ptr 2 0) rfl (Sq (V.ncPtr rfl (Sq (V.fa ty101 rfl ty27 rfl rfl (Sq (V.ld ty27 rfl rfl rfl (v := .p (.v (.int .i64 _))) rfl (Sq (V.bin (a := .v (.int .i64 _)) (b := .v (.int .i64 0)) (r := .v (.bool _)) rfl rfl rfl trivial (So.e ?_)))))))))))
 refine R.cond rfl rfl (fun h5 => ?_) (fun h5 => ?_)
 ·have h5 := of_decide_eq_false (bnT h5)
  refine HT.seq ?_
  refine HT.planS S_r18get_ok S_r18get_det mixed [1, 2, 3, 4, 6] [⟨[1, 2, 3, 4], 0, [1, 2, 3, 4]⟩, ⟨[1, 2, 3, 4], 5, [1, 2, 3, 4]⟩] (by kernel_rfl) ?_
  have hg : gmE b = (rd4 b 0 0).2.2 := gmE_1 (by assumption)
  have hg0 : ¬ gmE b = 0 := by rw [hg]; assumption
  refine Pl.lk ?_
  refine Sj rfl (V.mv (v := .ptr 2 0) rfl (Sj rfl (V.ncPtr rfl (Sj rfl (V.fa ty101 rfl ty27 rfl rfl (Sj rfl (V.ld ty27 rfl rfl rfl (v := .p (.v (.int .i64 _))) rfl (Si.e ?_))))))))
  refine ⟨flEq_nil, fun ff => ?_⟩
  refine Lo.n rfl (lk rfl) (A.bldS ty49 rfl rfl trivial rfl (f := fun j => ([.v (.slice none 0 0), .v (.int .i64 0), .v (.int .i64 0), .v (.int .i64 0), .v (.slice none 0 0), .v (.slice none 0 0), .v (.slice none 0 0), .v (.slice none 0 0)] : List PV).getD j (.v undef)) (by exact allP_spec (P := fun j => _ = _) ⟨⟨⟨⟨⟨⟨⟨⟨trivial, rfl⟩, rfl⟩, rfl⟩, rfl⟩, rfl⟩, rfl⟩, rfl⟩, rfl⟩) ?_)
  refine ⟨_, fun ff => ff, ap0d, rfl, FG.id, ?_⟩
  show planA _ _ _ _ _ [(1, .ptr 2 0), (2, .ptr 2 0), (3, .ptr 2 2), (4, .p (.v (.int .i64 _)))] _ _ _
  refine Pl.lk ?_
  refine Sj rfl (V.mv (v := .ptr 2 0) rfl (Sj rfl (V.ncPtr rfl (Sj rfl (V.fa ty101 rfl ty27 rfl rfl (Sj rfl (V.ld ty27 rfl rfl rfl (v := .p (.v (.int .i64 _))) rfl (Si.e ?_))))))))
  refine ⟨(flEq_cons rfl (flEq_cons rfl (flEq_cons rfl (flEq_cons rfl flEq_nil)))), fun ff => ?_⟩
  refine Lo.s rfl (A.stoAg ty49 rfl (n := 8) rfl (by decide) (by intro j hj; (match j, hj with | 0, _ => (trivial) | 1, _ => (trivial) | 2, _ => (trivial) | 3, _ => (trivial) | 4, _ => (trivial) | 5, _ => (trivial) | 6, _ => (trivial) | 7, _ => (trivial))) rfl rfl rfl ?_)
  refine ⟨_, fun ff => ff, ap0, rfl, FG.id, ?_⟩
  show planA _ _ _ _ _ [(1, .ptr 2 0), (2, .ptr 2 0), (3, .ptr 2 2), (4, .p (.v (.int .i64 _)))] _ _ _
  refine Pl.e ?_
  refine Sj rfl (V.mv (v := .ptr 2 0) rfl (Sj rfl (V.ncPtr rfl (Sj rfl (V.fa ty101 rfl ty27 rfl rfl (Sj rfl (V.ld ty27 rfl rfl rfl (v := .p (.v (.int .i64 _))) rfl (Sj rfl (V.ai rfl (Si.e ?_))))))))))
  refine ⟨(flEq_cons rfl (flEq_cons rfl (flEq_cons rfl (flEq_cons rfl flEq_nil)))), ?_⟩
  refine HT.ret ?_
  exact retC_ok (sg []) [(2, .ptr 1 0), (3, .p (.v (.int .i64 ((gmE b)))))] [(1, ⟨49, 1, 8, true, .rows (fun j => ([.bs (gmG b), .v (.int .i64 (gmP b)), .v (.int .i64 (gmF b)), .v (.int .i64 (gmK b)), .bs (gmB b), .bs (gmS b), .bs (gmC b), .bs (gmM b)] : List PV).getD j (.v undef))⟩)] h ⟨⟨⟨.refl _, rfl⟩, ⟨le_int (by exact hg.symm), trivial⟩, trivial⟩, ⟨⟨_, rfl, .inr (ob_rowsL (by intro j hj; match j, hj with | 0, _ => (exact gm_1 (b := b) hg0 0 (by decide)) | 1, _ => (exact gm_1 (b := b) hg0 1 (by decide)) | 2, _ => (exact gm_1 (b := b) hg0 2 (by decide)) | 3, _ => (exact gm_1 (b := b) hg0 3 (by decide)) | 4, _ => (exact gm_1 (b := b) hg0 4 (by decide)) | 5, _ => (exact gm_1 (b := b) hg0 5 (by decide)) | 6, _ => (exact gm_1 (b := b) hg0 6 (by decide)) | 7, _ => (exact gm_1 (b := b) hg0 7 (by decide)))), trivial⟩, trivial⟩⟩ ⟨rvA_cell ty49 rfl rfl rfl rfl (Nat.le_refl _) (le_agg (fun j _ => by (dsimp only; rw [Nat.zero_add]))), .refl _, trivial⟩ trivial rfl trivial ⟨trivial, trivial, trivial⟩ rfl
 ·have h5 := of_decide_eq_true (bnF h5)
  refine HT.skip (HT.seq (HT.region S_r18get_ok (Sq (V.mv (v := .p (.bs _)) rfl (So.n (lk rfl) (A.bldS ty101 rfl rfl ⟨by exact trivial, trivial⟩ rfl (f := fun j => ([.bs (rdT b 0 0).1, .v (.int .i64 0), .v (.int .i64 0)] : List PV).getD j (.v undef)) (by exact allP_spec (P := fun j => _ = _) ⟨⟨⟨trivial, rfl⟩, rfl⟩, rfl⟩) (So.n (lk rfl) (A.boxAg 4 1 (n := 3) rfl (by intro j hj; (match j, hj with | 0, _ => (trivial) | 1, _ => (trivial) | 2, _ => (trivial))) rfl trivial (Sq (V.as (v := .ptr 4 0) rfl (So.e (HT.seq (HT.region S_r18get_ok (Sq (V.mv (v := .ptr 4 0) rfl ?_)))))))))))))))
  refine So.n (lk rfl) (A.call [.ptr 1 _] [(1, ⟨_, _, _, _, .rows _⟩)] (sg [(1, 4)]) 5 rfl rfl rfl rfl ⟨rfl, trivial⟩ rfl ⟨trivial, trivial⟩ ⟨rfl, trivial⟩ trivial rfl ((rdT b 0 0).1, 0, 0) ⟨.refl _, trivial⟩ ⟨⟨_, rfl, .inl rfl, trivial⟩, trivial⟩ (by trivial) tT ⟨⟨_, _, rfl, rfl, rfl, Nat.le_refl _⟩, trivial⟩ (.inl rfl) rfl (v := .p (.bs _)) rfl (O' := (4, ⟨_, _, _, _, .rows _⟩) :: _) rfl (fun h6 => ?_))
  refine Sq (V.fa ty49 rfl ty36 rfl rfl (Sq (V.fa ty36 rfl ty23 rfl rfl (So.s (A.sto ty23 rfl rfl rfl (v := .p (.bs _)) rfl trivial rfl (lk rfl) rfl rfl (So.e (HT.seq (HT.region S_r18get_ok (Sq (V.mv (v := .ptr 4 0) rfl ?_))))))))))
  refine So.n (lk rfl) (A.call [.ptr 1 _, .p (.v (.int .i64 _))] [(1, ⟨_, _, _, _, .rows _⟩)] (sg [(1, 4)]) 5 rfl rfl rfl rfl ⟨rfl, trivial⟩ rfl ⟨trivial, trivial⟩ ⟨rfl, trivial, trivial⟩ trivial rfl ((rdT b 0 0).1, (pl1 (rdT b 0 0).1 0 0).2.1, (pl1 (rdT b 0 0).1 0 0).2.2, 8) ⟨.refl _, .refl _, trivial⟩ ⟨⟨_, rfl, .inl rfl, trivial⟩, trivial⟩ (by trivial) tT ⟨⟨_, _, rfl, rfl, rfl, Nat.le_refl _⟩, trivial⟩ (.inl rfl) rfl (v := .p (.v (.int .i64 _))) rfl (O' := (4, ⟨_, _, _, _, .rows _⟩) :: _) rfl (fun h7 => ?_))
  refine Sq (V.fa ty49 rfl ty36 rfl rfl (Sq (V.fa ty36 rfl ty2 rfl rfl (So.s (A.sto ty2 rfl rfl rfl (v := .p (.v (.int .i64 _))) rfl rfl rfl (lk rfl) rfl rfl (So.e (HT.seq (HT.region S_r18get_ok (Sq (V.mv (v := .ptr 4 0) rfl ?_))))))))))
  refine So.n (lk rfl) (A.call [.ptr 1 _, .p (.v (.int .i64 _))] [(1, ⟨_, _, _, _, .rows _⟩)] (sg [(1, 4)]) 5 rfl rfl rfl rfl ⟨rfl, trivial⟩ rfl ⟨trivial, trivial⟩ ⟨rfl, trivial, trivial⟩ trivial rfl ((rdT b 0 0).1, (pl2 (rdT b 0 0).1 0 0).2.1, (pl2 (rdT b 0 0).1 0 0).2.2, 4) ⟨.refl _, .refl _, trivial⟩ ⟨⟨_, rfl, .inl rfl, trivial⟩, trivial⟩ (by trivial) tT ⟨⟨_, _, rfl, rfl, rfl, Nat.le_refl _⟩, trivial⟩ (.inl rfl) rfl (v := .p (.v (.int .i64 _))) rfl (O' := (4, ⟨_, _, _, _, .rows _⟩) :: _) rfl (fun h8 => ?_))
  refine Sq (V.ai rfl (So.e (HT.seq (HT.region S_r18get_ok (Sq (V.mv (v := .ptr 4 0) rfl ?_))))))
  refine So.n (lk rfl) (A.call [.ptr 1 _, .p (.v (.int .i64 _))] [(1, ⟨_, _, _, _, .rows _⟩)] (sg [(1, 4)]) 5 rfl rfl rfl rfl ⟨rfl, trivial⟩ rfl ⟨trivial, trivial⟩ ⟨rfl, trivial, trivial⟩ trivial rfl ((rdT b 0 0).1, (pl3 (rdT b 0 0).1 0 0).2.1, (pl3 (rdT b 0 0).1 0 0).2.2, 1) ⟨.refl _, .refl _, trivial⟩ ⟨⟨_, rfl, .inl rfl, trivial⟩, trivial⟩ (by trivial) tT ⟨⟨_, _, rfl, rfl, rfl, Nat.le_refl _⟩, trivial⟩ (.inl rfl) rfl (v := .p (.v (.int .i64 _))) rfl (O' := (4, ⟨_, _, _, _, .rows _⟩) :: _) rfl (fun h9 => ?_))
  refine Sq (V.ai rfl (So.e (HT.seq (HT.region S_r18get_ok (Sq (V.mv (v := .ptr 4 0) rfl ?_))))))
  refine So.n (lk rfl) (A.call [.ptr 1 _] [(1, ⟨_, _, _, _, .rows _⟩)] (sg [(1, 4)]) 5 rfl rfl rfl rfl ⟨rfl, trivial⟩ rfl ⟨trivial, trivial⟩ ⟨rfl, trivial⟩ trivial rfl ((rdT b 0 0).1, (gm4 b).2.1, (gm4 b).2.2) ⟨.refl _, trivial⟩ ⟨⟨_, rfl, .inl rfl, trivial⟩, trivial⟩ (by trivial) tT ⟨⟨_, _, rfl, rfl, rfl, Nat.le_refl _⟩, trivial⟩ (.inl rfl) rfl (v := .p (.bs _)) rfl (O' := (4, ⟨_, _, _, _, .rows _⟩) :: _) rfl (fun h10 => ?_))
  refine Sq (V.fa ty49 rfl ty36 rfl rfl (Sq (V.fa ty36 rfl ty23 rfl rfl (So.s (A.sto ty23 rfl rfl rfl (v := .p (.bs _)) rfl trivial rfl (lk rfl) rfl rfl (So.e (HT.seq (HT.region S_r18get_ok (Sq (V.mi rfl (Sq (V.fa ty49 rfl ty36 rfl rfl (Sq (V.fa ty36 rfl ty3 rfl rfl (So.s (A.sto ty3 rfl rfl rfl (v := .p (.v (.int .i64 _))) rfl rfl rfl (lk rfl) rfl rfl (So.e (HT.seq (HT.region S_r18get_ok (Sq (V.mi rfl (Sq (V.fa ty49 rfl ty36 rfl rfl (Sq (V.fa ty36 rfl ty3 rfl rfl (So.s (A.sto ty3 rfl rfl rfl (v := .p (.v (.int .i64 _))) rfl rfl rfl (lk rfl) rfl rfl (So.e (HT.seq (HT.seq ?_))))))))))))))))))))))))))))))
  refine R.tell [] [(3, ⟨49, 1, 8, true, .rows (fun j => ([.bs ((pl1 (rdT b 0 0).1 0 0).1), .v (.int .i64 ((pl2 (rdT b 0 0).1 0 0).1)), .v (.int .i64 ((pl3 (rdT b 0 0).1 0 0).1)), .v (.int .i64 ((gm4 b).1)), .bs ((gm5 b).1), .bs ((rd2 b 0 0).1), .bs ((rd3 b 0 0).1), .bs ((rd4 b 0 0).1)] : List PV).getD j (.v undef))⟩), (4, ⟨101, 1, 3, true, .rows (fun j => ([.bs ((rdT b 0 0).1), .v (.int .i64 (gm5 b).2.1), .v (.int .i64 (gm5 b).2.2)] : List PV).getD j (.v undef))⟩)] [0, 2, 3, 4, 5, 6, 7] [1, 2] (fr0 := [(0, .p (.bs _)), (2, .ptr 1 0), (3, .p (.v (.int .i64 _))), (4, .ptr 2 0), (5, .ptr 3 0), (6, .p (.bs _)), (7, .ptr 4 0)]) (O0 := [(1, ⟨_, _, _, _, .rows _⟩), (2, ⟨_, _, _, _, .rows _⟩)]) rfl rfl ⟨⟨⟨.refl _, trivial⟩, ⟨.refl _, rfl⟩, ⟨.refl _, trivial⟩, ⟨.refl _, rfl⟩, ⟨.refl _, rfl⟩, ⟨.refl _, trivial⟩, ⟨.refl _, rfl⟩, trivial⟩, ⟨⟨_, rfl, .inr (ob_rowsL (by intro j hj; match j, hj with | 0, _ => exact .refl _ | 1, _ => exact .refl _ | 2, _ => exact .refl _ | 3, _ => exact .refl _ | 4, _ => exact .refl _ | 5, _ => exact .refl _ | 6, _ => exact .refl _ | 7, _ => exact .refl _)), trivial⟩, ⟨_, rfl, .inr (ob_rowsL (by intro j hj; match j, hj with | 0, _ => exact .refl _ | 1, _ => exact .refl _ | 2, _ => exact .refl _)), trivial⟩, ⟨_, rfl, .inl rfl, trivial⟩, ⟨_, rfl, .inl rfl, trivial⟩, trivial⟩⟩ ?_
  refine HT.region S_r18get_ok (Sq (V.mv (v := .ptr 4 0) rfl (Sq (V.ncPtr rfl (Sq (V.fa ty101 rfl ty27 rfl rfl (Sq (V.ld ty27 rfl rfl rfl (v := .p (.v (.int .i64 _))) rfl (Sq (V.bin (a := .v (.int .i64 _)) (b := .v (.int .i64 0)) (r := .v (.bool _)) rfl rfl rfl trivial (So.e ?_)))))))))))
  refine R.cond rfl rfl (fun h11 => ?_) (fun h11 => ?_)
  ·have h11 := of_decide_eq_false (bnT h11)
   refine HT.seq ?_
   refine HT.planS S_r18get_ok S_r18get_det mixed [1, 2, 3, 4, 6] [⟨[1, 2, 3, 4], 0, [1, 2, 3, 4]⟩, ⟨[1, 2, 3, 4], 5, [1, 2, 3, 4]⟩] (by kernel_rfl) ?_
   have hg : gmE b = (gm5 b).2.2 := gm_in (by assumption) (by assumption)
   have hg0 : ¬ gmE b = 0 := by rw [hg]; assumption
   refine Pl.lk ?_
   refine Sj rfl (V.mv (v := .ptr 4 0) rfl (Sj rfl (V.ncPtr rfl (Sj rfl (V.fa ty101 rfl ty27 rfl rfl (Sj rfl (V.ld ty27 rfl rfl rfl (v := .p (.v (.int .i64 _))) rfl (Si.e ?_))))))))
   refine ⟨flEq_nil, fun ff => ?_⟩
   refine Lo.n rfl (lk rfl) (A.bldS ty49 rfl rfl trivial rfl (f := fun j => ([.v (.slice none 0 0), .v (.int .i64 0), .v (.int .i64 0), .v (.int .i64 0), .v (.slice none 0 0), .v (.slice none 0 0), .v (.slice none 0 0), .v (.slice none 0 0)] : List PV).getD j (.v undef)) (by exact allP_spec (P := fun j => _ = _) ⟨⟨⟨⟨⟨⟨⟨⟨trivial, rfl⟩, rfl⟩, rfl⟩, rfl⟩, rfl⟩, rfl⟩, rfl⟩, rfl⟩) ?_)
   refine ⟨_, fun ff => ff, ap0d, rfl, FG.id, ?_⟩
   show planA _ _ _ _ _ [(1, .ptr 4 0), (2, .ptr 4 0), (3, .ptr 4 2), (4, .p (.v (.int .i64 _)))] _ _ _
   refine Pl.lk ?_
   refine Sj rfl (V.mv (v := .ptr 4 0) rfl (Sj rfl (V.ncPtr rfl (Sj rfl (V.fa ty101 rfl ty27 rfl rfl (Sj rfl (V.ld ty27 rfl rfl rfl (v := .p (.v (.int .i64 _))) rfl (Si.e ?_))))))))
   refine ⟨(flEq_cons rfl (flEq_cons rfl (flEq_cons rfl (flEq_cons rfl flEq_nil)))), fun ff => ?_⟩
   refine Lo.s rfl (A.stoAg ty49 rfl (n := 8) rfl (by decide) (by intro j hj; (match j, hj with | 0, _ => (trivial) | 1, _ => (trivial) | 2, _ => (trivial) | 3, _ => (trivial) | 4, _ => (trivial) | 5, _ => (trivial) | 6, _ => (trivial) | 7, _ => (trivial))) rfl rfl rfl ?_)
   refine ⟨_, fun ff => ff, ap0, rfl, FG.id, ?_⟩
   show planA _ _ _ _ _ [(1, .ptr 4 0), (2, .ptr 4 0), (3, .ptr 4 2), (4, .p (.v (.int .i64 _)))] _ _ _
   refine Pl.e ?_
   refine Sj rfl (V.mv (v := .ptr 4 0) rfl (Sj rfl (V.ncPtr rfl (Sj rfl (V.fa ty101 rfl ty27 rfl rfl (Sj rfl (V.ld ty27 rfl rfl rfl (v := .p (.v (.int .i64 _))) rfl (Sj rfl (V.ai rfl (Si.e ?_))))))))))
   refine ⟨(flEq_cons rfl (flEq_cons rfl (flEq_cons rfl (flEq_cons rfl flEq_nil)))), ?_⟩
   refine HT.ret ?_
   exact retC_ok (sg []) [(2, .ptr 1 0), (3, .p (.v (.int .i64 ((gmE b)))))] [(1, ⟨49, 1, 8, true, .rows (fun j => ([.bs (gmG b), .v (.int .i64 (gmP b)), .v (.int .i64 (gmF b)), .v (.int .i64 (gmK b)), .bs (gmB b), .bs (gmS b), .bs (gmC b), .bs (gmM b)] : List PV).getD j (.v undef))⟩)] h ⟨⟨⟨.refl _, rfl⟩, ⟨le_int (by exact hg.symm), trivial⟩, trivial⟩, ⟨⟨_, rfl, .inr (ob_rowsL (by intro j hj; match j, hj with | 0, _ => (exact gm_1 (b := b) hg0 0 (by decide)) | 1, _ => (exact gm_1 (b := b) hg0 1 (by decide)) | 2, _ => (exact gm_1 (b := b) hg0 2 (by decide)) | 3, _ => (exact gm_1 (b := b) hg0 3 (by decide)) | 4, _ => (exact gm_1 (b := b) hg0 4 (by decide)) | 5, _ => (exact gm_1 (b := b) hg0 5 (by decide)) | 6, _ => (exact gm_1 (b := b) hg0 6 (by decide)) | 7, _ => (exact gm_1 (b := b) hg0 7 (by decide)))), trivial⟩, trivial⟩⟩ ⟨rvA_cell ty49 rfl rfl rfl rfl (Nat.le_refl _) (le_agg (fun j _ => by (dsimp only; rw [Nat.zero_add]))), .refl _, trivial⟩ trivial rfl trivial ⟨trivial, trivial, trivial⟩ rfl
  ·have h11 := of_decide_eq_true (bnF h11)
   refine HT.skip (HT.seq (HT.seq (HT.region S_r18get_ok (Sq (V.mv (v := .ptr 2 0) rfl (Sq (V.ncPtr rfl (Sq (V.fa ty101 rfl ty3 rfl rfl (Sq (V.ld ty3 rfl rfl rfl (v := .p (.v (.int .i64 _))) rfl (Sq (V.mv (v := .p (.bs _)) rfl (Sq (V.len ty23 (v := .p (.bs _)) rfl rfl (Sq (V.bin (a := .v (.int .i64 _)) (b := .v (.int .i64 _)) (r := .v (.bool _)) rfl rfl rfl trivial (Sq (V.mv (v := .p (.v (.bool _))) rfl ?_)))))))))))))))))))
   refine So.gd rfl rfl (lk rfl) (lk rfl) (fun h12 => ?_) (fun h12 => ?_)
   ·have h12 := of_decide_eq_true (bnF h12)
    refine A.v rfl (V.mv (v := .ptr 4 0) rfl (So.gy rfl rfl (lk rfl) (lk rfl) (A.v rfl (V.ncPtr rfl (So.gy rfl rfl (lk rfl) (lk rfl) (A.v rfl (V.fa ty101 rfl ty3 rfl rfl (So.gy rfl rfl (lk rfl) (lk rfl) (A.v rfl (V.ld ty3 rfl rfl rfl (v := .p (.v (.int .i64 _))) rfl (So.gy rfl rfl (lk rfl) (lk rfl) (A.v rfl (V.mv (v := .p (.bs _)) rfl (So.gy rfl rfl (lk rfl) (lk rfl) (A.v rfl (V.len ty23 (v := .p (.bs _)) rfl rfl (So.gy rfl rfl (lk rfl) (lk rfl) (A.v rfl (V.bin (a := .v (.int .i64 _)) (b := .v (.int .i64 _)) (r := .v (.bool _)) rfl rfl rfl trivial (Sq (V.pkFalse (u := .p (.v (.bool _))) rfl rfl (Sq (V.mv (v := .p (.v (.bool _))) rfl ?_)))))))))))))))))))))))
    refine So.gd rfl rfl (lk rfl) (lk rfl) (fun h13 => ?_) (fun h13 => ?_)
    ·have h13 := of_decide_eq_true (bnF h13)
     refine A.v rfl (V.ldPtrA ty49 rfl rfl rfl rfl (lk rfl) (So.gy rfl rfl (lk rfl) (lk rfl) ?_))
     refine A.call0 [.agg 8 _] 5 rfl rfl rfl rfl ⟨trivial, trivial⟩ trivial ((pl1 (rdT b 0 0).1 0 0).1, ((pl2 (rdT b 0 0).1 0 0).1), ((pl3 (rdT b 0 0).1 0 0).1), ((gm4 b).1), (gm5 b).1, (rd2 b 0 0).1, (rd3 b 0 0).1, (rd4 b 0 0).1) ⟨le_agg (fun j hj => by match j, hj with | 0, _ => rfl | 1, _ => rfl | 2, _ => rfl | 3, _ => rfl | 4, _ => rfl | 5, _ => rfl | 6, _ => rfl | 7, _ => rfl), trivial⟩ trivial (by trivial) tT (.inl rfl) (v := .p (.v (.bool _))) rfl (O' := _) rfl (fun h14 => ?_)
     refine So.gy rfl rfl (lk rfl) (lk rfl) (A.v rfl (V.not rfl (Sq (V.pkFalse (u := .p (.v (.bool _))) rfl rfl (So.e ?_)))))
     refine R.cond rfl rfl (fun h15 => ?_) (fun h15 => ?_)
     ·have h15 := of_decide_eq_false (bnT h15)
      refine HT.seq (HT.region S_r18get_ok ?_)
      have hg : gmE b = 181 := gm_bad (by omega) (by omega) (by exact .inr (.inr (by assumption)))
      have hg0 : ¬ gmE b = 0 := by rw [hg]; decide
      refine So.n (lk rfl) (A.bldS ty49 rfl rfl trivial rfl (f := fun j => ([.v (.slice none 0 0), .v (.int .i64 0), .v (.int .i64 0), .v (.int .i64 0), .v (.slice none 0 0), .v (.slice none 0 0), .v (.slice none 0 0), .v (.slice none 0 0)] : List PV).getD j (.v undef)) (by exact allP_spec (P := fun j => _ = _) ⟨⟨⟨⟨⟨⟨⟨⟨trivial, rfl⟩, rfl⟩, rfl⟩, rfl⟩, rfl⟩, rfl⟩, rfl⟩, rfl⟩) (So.s (A.stoAg ty49 rfl (n := 8) rfl (by decide) (by intro j hj; (match j, hj with | 0, _ => (trivial) | 1, _ => (trivial) | 2, _ => (trivial) | 3, _ => (trivial) | 4, _ => (trivial) | 5, _ => (trivial) | 6, _ => (trivial) | 7, _ => (trivial))) rfl rfl rfl (Sq (V.as (v := .p (.v (.int .i64 181))) rfl (So.e ?_))))))
      refine HT.ret ?_
      exact retC_ok (sg []) [(2, .ptr 1 0), (3, .p (.v (.int .i64 ((gmE b)))))] [(1, ⟨49, 1, 8, true, .rows (fun j => ([.bs (gmG b), .v (.int .i64 (gmP b)), .v (.int .i64 (gmF b)), .v (.int .i64 (gmK b)), .bs (gmB b), .bs (gmS b), .bs (gmC b), .bs (gmM b)] : List PV).getD j (.v undef))⟩)] h ⟨⟨⟨.refl _, rfl⟩, ⟨le_int (by exact hg.symm), trivial⟩, trivial⟩, ⟨⟨_, rfl, .inr (ob_rowsL (by intro j hj; match j, hj with | 0, _ => (exact gm_1 (b := b) hg0 0 (by decide)) | 1, _ => (exact gm_1 (b := b) hg0 1 (by decide)) | 2, _ => (exact gm_1 (b := b) hg0 2 (by decide)) | 3, _ => (exact gm_1 (b := b) hg0 3 (by decide)) | 4, _ => (exact gm_1 (b := b) hg0 4 (by decide)) | 5, _ => (exact gm_1 (b := b) hg0 5 (by decide)) | 6, _ => (exact gm_1 (b := b) hg0 6 (by decide)) | 7, _ => (exact gm_1 (b := b) hg0 7 (by decide)))), trivial⟩, trivial⟩⟩ ⟨rvA_cell ty49 rfl rfl rfl rfl (Nat.le_refl _) (le_agg (fun j _ => by (dsimp only; rw [Nat.zero_add]))), .refl _, trivial⟩ trivial rfl trivial ⟨trivial, trivial, trivial⟩ rfl
     ·have h15 := of_decide_eq_true (bnF h15)
      refine HT.skip (HT.seq (HT.region S_r18get_ok ?_))
      have hg0 : gmE b = 0 := gm_good (by omega) (by omega) (by omega) (by omega) (by assumption)
      refine Sq (V.ldPtrA ty49 rfl rfl rfl rfl (lk rfl) (So.s (A.stoAg ty49 rfl (n := 8) rfl (by decide) (by intro j hj; (match j, hj with | 0, _ => (trivial) | 1, _ => (trivial) | 2, _ => (trivial) | 3, _ => (trivial) | 4, _ => (trivial) | 5, _ => (trivial) | 6, _ => (trivial) | 7, _ => (trivial))) rfl rfl rfl (Sq (V.as (v := .p (.v (.int .i64 0))) rfl (So.e ?_))))))
      refine HT.ret ?_
      exact retC_ok (sg []) [(2, .ptr 1 0), (3, .p (.v (.int .i64 ((gmE b)))))] [(1, ⟨49, 1, 8, true, .rows (fun j => ([.bs (gmG b), .v (.int .i64 (gmP b)), .v (.int .i64 (gmF b)), .v (.int .i64 (gmK b)), .bs (gmB b), .bs (gmS b), .bs (gmC b), .bs (gmM b)] : List PV).getD j (.v undef))⟩)] h ⟨⟨⟨.refl _, rfl⟩, ⟨le_int (by exact hg0.symm), trivial⟩, trivial⟩, ⟨⟨_, rfl, .inr (ob_rowsL (by intro j hj; match j, hj with | 0, _ => (exact gm_0 (b := b) hg0 0 (by decide)) | 1, _ => (exact gm_0 (b := b) hg0 1 (by decide)) | 2, _ => (exact gm_0 (b := b) hg0 2 (by decide)) | 3, _ => (exact gm_0 (b := b) hg0 3 (by decide)) | 4, _ => (exact gm_0 (b := b) hg0 4 (by decide)) | 5, _ => (exact gm_0 (b := b) hg0 5 (by decide)) | 6, _ => (exact gm_0 (b := b) hg0 6 (by decide)) | 7, _ => (exact gm_0 (b := b) hg0 7 (by decide)))), trivial⟩, trivial⟩⟩ ⟨rvA_cell ty49 rfl rfl rfl rfl (Nat.le_refl _) (le_agg (fun j _ => by (dsimp only; rw [Nat.zero_add]))), .refl _, trivial⟩ trivial rfl trivial ⟨trivial, trivial, trivial⟩ rfl
    ·have h13 := of_decide_eq_false (bnT h13)
     refine So.gn (b := true) rfl rfl rfl (lk rfl) (lk rfl) (So.gn (b := true) rfl rfl rfl (lk rfl) (lk rfl) (Sq (V.pkTrue (u := .p (.v (.bool true))) rfl rfl (So.e ?_))))
     refine R.condT rfl ?_
     refine HT.seq (HT.region S_r18get_ok ?_)
     have hg : gmE b = 181 := gm_bad (by omega) (by omega) (by exact .inr (.inl (by assumption)))
     have hg0 : ¬ gmE b = 0 := by rw [hg]; decide
     refine So.n (lk rfl) (A.bldS ty49 rfl rfl trivial rfl (f := fun j => ([.v (.slice none 0 0), .v (.int .i64 0), .v (.int .i64 0), .v (.int .i64 0), .v (.slice none 0 0), .v (.slice none 0 0), .v (.slice none 0 0), .v (.slice none 0 0)] : List PV).getD j (.v undef)) (by exact allP_spec (P := fun j => _ = _) ⟨⟨⟨⟨⟨⟨⟨⟨trivial, rfl⟩, rfl⟩, rfl⟩, rfl⟩, rfl⟩, rfl⟩, rfl⟩, rfl⟩) (So.s (A.stoAg ty49 rfl (n := 8) rfl (by decide) (by intro j hj; (match j, hj with | 0, _ => (trivial) | 1, _ => (trivial) | 2, _ => (trivial) | 3, _ => (trivial) | 4, _ => (trivial) | 5, _ => (trivial) | 6, _ => (trivial) | 7, _ => (trivial))) rfl rfl rfl (Sq (V.as (v := .p (.v (.int .i64 181))) rfl (So.e ?_))))))
     refine HT.ret ?_
     exact retC_ok (sg []) [(2, .ptr 1 0), (3, .p (.v (.int .i64 ((gmE b)))))] [(1, ⟨49, 1, 8, true, .rows (fun j => ([.bs (gmG b), .v (.int .i64 (gmP b)), .v (.int .i64 (gmF b)), .v (.int .i64 (gmK b)), .bs (gmB b), .bs (gmS b), .bs (gmC b), .bs (gmM b)] : List PV).getD j (.v undef))⟩)] h ⟨⟨⟨.refl _, rfl⟩, ⟨le_int (by exact hg.symm), trivial⟩, trivial⟩, ⟨⟨_, rfl, .inr (ob_rowsL (by intro j hj; match j, hj with | 0, _ => (exact gm_1 (b := b) hg0 0 (by decide)) | 1, _ => (exact gm_1 (b := b) hg0 1 (by decide)) | 2, _ => (exact gm_1 (b := b) hg0 2 (by decide)) | 3, _ => (exact gm_1 (b := b) hg0 3 (by decide)) | 4, _ => (exact gm_1 (b := b) hg0 4 (by decide)) | 5, _ => (exact gm_1 (b := b) hg0 5 (by decide)) | 6, _ => (exact gm_1 (b := b) hg0 6 (by decide)) | 7, _ => (exact gm_1 (b := b) hg0 7 (by decide)))), trivial⟩, trivial⟩⟩ ⟨rvA_cell ty49 rfl rfl rfl rfl (Nat.le_refl _) (le_agg (fun j _ => by (dsimp only; rw [Nat.zero_add]))), .refl _, trivial⟩ trivial rfl trivial ⟨trivial, trivial, trivial⟩ rfl
   ·have h12 := of_decide_eq_false (bnT h12)
    refine So.gn (b := true) rfl rfl rfl (lk rfl) (lk rfl) (So.gn (b := true) rfl rfl rfl (lk rfl) (lk rfl) (So.gn (b := true) rfl rfl rfl (lk rfl) (lk rfl) (So.gn (b := true) rfl rfl rfl (lk rfl) (lk rfl) (So.gn (b := true) rfl rfl rfl (lk rfl) (lk rfl) (So.gn (b := true) rfl rfl rfl (lk rfl) (lk rfl) (Sq (V.pkTrue (u := .p (.v (.bool true))) rfl rfl (Sq (V.mv (v := .p (.v (.bool true))) rfl (So.gn (b := true) rfl rfl rfl (lk rfl) (lk rfl) (So.gn (b := true) rfl rfl rfl (lk rfl) (lk rfl) (So.gn (b := true) rfl rfl rfl (lk rfl) (lk rfl) (Sq (V.pkTrue (u := .p (.v (.bool true))) rfl rfl (So.e ?_)))))))))))))))
    refine R.condT rfl ?_
    refine HT.seq (HT.region S_r18get_ok ?_)
    have hg : gmE b = 181 := gm_bad (by omega) (by omega) (by exact .inl (by assumption))
    have hg0 : ¬ gmE b = 0 := by rw [hg]; decide
    refine So.n (lk rfl) (A.bldS ty49 rfl rfl trivial rfl (f := fun j => ([.v (.slice none 0 0), .v (.int .i64 0), .v (.int .i64 0), .v (.int .i64 0), .v (.slice none 0 0), .v (.slice none 0 0), .v (.slice none 0 0), .v (.slice none 0 0)] : List PV).getD j (.v undef)) (by exact allP_spec (P := fun j => _ = _) ⟨⟨⟨⟨⟨⟨⟨⟨trivial, rfl⟩, rfl⟩, rfl⟩, rfl⟩, rfl⟩, rfl⟩, rfl⟩, rfl⟩) (So.s (A.stoAg ty49 rfl (n := 8) rfl (by decide) (by intro j hj; (match j, hj with | 0, _ => (trivial) | 1, _ => (trivial) | 2, _ => (trivial) | 3, _ => (trivial) | 4, _ => (trivial) | 5, _ => (trivial) | 6, _ => (trivial) | 7, _ => (trivial))) rfl rfl rfl (Sq (V.as (v := .p (.v (.int .i64 181))) rfl (So.e ?_))))))
    refine HT.ret ?_
    exact retC_ok (sg []) [(2, .ptr 1 0), (3, .p (.v (.int .i64 ((gmE b)))))] [(1, ⟨49, 1, 8, true, .rows (fun j => ([.bs (gmG b), .v (.int .i64 (gmP b)), .v (.int .i64 (gmF b)), .v (.int .i64 (gmK b)), .bs (gmB b), .bs (gmS b), .bs (gmC b), .bs (gmM b)] : List PV).getD j (.v undef))⟩)] h ⟨⟨⟨.refl _, rfl⟩, ⟨le_int (by exact hg.symm), trivial⟩, trivial⟩, ⟨⟨_, rfl, .inr (ob_rowsL (by intro j hj; match j, hj with | 0, _ => (exact gm_1 (b := b) hg0 0 (by decide)) | 1, _ => (exact gm_1 (b := b) hg0 1 (by decide)) | 2, _ => (exact gm_1 (b := b) hg0 2 (by decide)) | 3, _ => (exact gm_1 (b := b) hg0 3 (by decide)) | 4, _ => (exact gm_1 (b := b) hg0 4 (by decide)) | 5, _ => (exact gm_1 (b := b) hg0 5 (by decide)) | 6, _ => (exact gm_1 (b := b) hg0 6 (by decide)) | 7, _ => (exact gm_1 (b := b) hg0 7 (by decide)))), trivial⟩, trivial⟩⟩ ⟨rvA_cell ty49 rfl rfl rfl rfl (Nat.le_refl _) (le_agg (fun j _ => by (dsimp only; rw [Nat.zero_add]))), .refl _, trivial⟩ trivial rfl trivial ⟨trivial, trivial, trivial⟩ rfl
def dPostSp : Sp := ⟨[1, 3, 4], mkE (α := (List UInt8) × Int × PLs × (List (List UInt8)) × PKs × (List UInt8)) (fun (G, e, L, W, p, b) => [.ptr 1 0, .p (.bs b)]) (fun (G, e, L, W, p, b) => [(1, ⟨58, 1, 5, true, .cells [.p (.bs G), .p (.v (.int .i64 e)), .own 2 0 ((L).length), .own 3 0 (W.length), .own 4 0 (W.length)]⟩), (2, ⟨45, 3, (L).length * 3, true, .rows (pR L)⟩), (3, ⟨23, 1, W.length, true, .rows (tV W)⟩), (4, ⟨4, 1, W.length, true, .rows (fdV p)⟩)]) (fun (G, e, L, W, p, b) => L.length <= 1000 /\ 0 <= e /\ e <= 1000000 /\ b.length <= 1000000000) (fun (G, e, L, W, p, b) => [.p (.v (.int .i64 ((takeH e L 1 b (lookM G e b)).n))), .p (.v (.int .i64 ((takeH e L 1 b (lookM G e b)).r)))]) (fun (G, e, L, W, p, b) => [(1, ⟨58, 1, 5, true, .cells [.p (.bs G), .p (.v (.int .i64 ((takeH e L 1 b (lookM G e b)).e))), .own 2 0 (((takeH e L 1 b (lookM G e b)).L).length), .own 3 0 (W.length), .own 4 0 (W.length)]⟩), (2, ⟨45, 3, ((takeH e L 1 b (lookM G e b)).L).length * 3, true, .rows (pR ((takeH e L 1 b (lookM G e b)).L))⟩), (3, ⟨23, 1, W.length, true, .rows (tV W)⟩), (4, ⟨4, 1, W.length, true, .rows (fdV p)⟩)])⟩
def S_dPost : FuncId -> Option Sp := fun f => if f = 40 then some r18getSp else if f = 41 then some dputSp else none
theorem S_dPost_ok : ∀ f s, S_dPost f = some s -> FOK Tryd.prog gl f s := sI r18get_ok (sI dput_ok sN)
theorem S_dPost_det : ∀ f s, S_dPost f = some s -> SpDet s.sp := dI (dI dN)
theorem dPost_ok : FOK Tryd.prog gl 21 dPostSp := by
 refine FOK.ofE (tyOf_ok Tryd.prog) (slots := [4, 5]) (nt := 63) Tryd.func21 rfl rfl rfl rfl (by decide) 2 (fun ⟨_, _, _, _, _, _⟩ => rfl) (by decide) (fun ⟨_, _, _, _, _, _⟩ => ⟨rfl, trivial, trivial⟩) ?_
 rintro ⟨G, e, L, W, p, b⟩ kk hlen hpre h
 have hl1 : (b).length <= 9223372036854775807 := hlen.2.1
 replace hpre : L.length <= 1000 /\ 0 <= e /\ e <= 1000000 /\ b.length <= 1000000000 := hpre
 show HT (cx Tryd.prog 63 (tyOf Tryd.prog) gl [1, 3, 4]) _ [(0, .ptr 1 0), (1, .p (.bs b))] [(1, ⟨58, 1, 5, true, .cells [.p (.bs G), .p (.v (.int .i64 e)), .own 2 0 ((L).length), .own 3 0 (W.length), .own 4 0 (W.length)]⟩), (2, ⟨45, 3, (L).length * 3, true, .rows (pR L)⟩), (3, ⟨23, 1, W.length, true, .rows (tV W)⟩), (4, ⟨4, 1, W.length, true, .rows (fdV p)⟩)] _
 refine HT.seq (HT.region S_dPost_ok (Sq (V.as (v := .p (.v (.int .i64 0))) rfl (Sq (V.as (v := .p (.v (.int .i64 0))) rfl (So.e (HT.seq (HT.region S_dPost_ok (Sq (V.mv (v := .p (.bs _)) rfl ?_))))))))))
 refine So.n (lk rfl) (A.call0 [.p (.bs _)] 5 rfl rfl rfl rfl ⟨trivial, trivial⟩ ⟨lk rfl, lk rfl, lk rfl, trivial⟩ _ ⟨.refl _, trivial⟩ trivial (by trivial) tT (.inl rfl) (v := .tup 2 _) rfl (O' := _) rfl (fun h1 => ?_))
 refine Sq (V.mv (v := .tup 2 _) rfl (Sq (V.ext rfl (lk rfl) (v := .agg 8 _) rfl (Sq (V.ei rfl rfl (So.n (lk rfl) (A.alloc 5 1 ty49 rfl ⟨lk rfl, lk rfl, lk rfl, trivial⟩ (f := fun j => ([.v (.slice none 0 0), .v (.int .i64 0), .v (.int .i64 0), .v (.int .i64 0), .v (.slice none 0 0), .v (.slice none 0 0), .v (.slice none 0 0), .v (.slice none 0 0)] : List PV).getD j (.v undef)) (fun j hj => by match j, hj with | 0, _ => rfl | 1, _ => rfl | 2, _ => rfl | 3, _ => rfl | 4, _ => rfl | 5, _ => rfl | 6, _ => rfl | 7, _ => rfl) (So.s (A.stoAg ty49 rfl (n := 8) rfl (by decide) (by intro j hj; (match j, hj with | 0, _ => (trivial) | 1, _ => (trivial) | 2, _ => (trivial) | 3, _ => (trivial) | 4, _ => (trivial) | 5, _ => (trivial) | 6, _ => (trivial) | 7, _ => (trivial))) rfl rfl rfl (Sq (V.ai rfl (So.e (HT.seq (HT.seq (HT.region S_dPost_ok (Sq (V.mi rfl (Sq (V.bin (a := .v (.int .i64 _)) (b := .v (.int .i64 0)) (r := .v (.bool _)) rfl rfl rfl trivial (So.e ?_))))))))))))))))))))
 refine R.cond rfl rfl (fun h2 => ?_) (fun h2 => ?_)
 ·have h2 := of_decide_eq_false (bnT h2)
  refine HT.seq (HT.region S_dPost_ok (Sq (V.mi rfl (Sq (V.as (v := .p (.v (.int .i64 0))) rfl (Sq (V.ai rfl (So.e ?_))))))))
  refine HT.ret ?_
  skip
  have hR := rp_1 (G := G) (e := e) (L := L) (b := b) (by assumption)
  exact ret_ok (sg [(1, 1), (2, 2), (3, 3), (4, 4)]) h rfl rfl rfl ⟨⟨trivial, trivial, rfl, rfl, rfl, trivial⟩, trivial, trivial, trivial, trivial⟩ ⟨trivial, trivial, trivial⟩ rfl ⟨⟨⟨le_int (by (rw [hR]; done)), trivial⟩, ⟨le_int (by (rw [hR]; done)), trivial⟩, trivial⟩, ⟨⟨_, rfl, .inl (by rw [hR]; rfl), ⟨trivial, trivial, rfl, rfl, rfl, trivial⟩⟩, ⟨_, rfl, .inr (ob_rows (by rw [hR]; done) (by intro j hj; rw [hR]; done)), trivial⟩, ⟨_, rfl, .inl rfl, trivial⟩, ⟨_, rfl, .inl rfl, trivial⟩, trivial⟩⟩
 ·have h2 := of_decide_eq_true (bnF h2)
  refine HT.skip (HT.seq (HT.region S_dPost_ok (Sq (V.fa ty49 rfl ty36 rfl rfl (Sq (V.ldPtrA ty36 rfl rfl rfl rfl (lk rfl) (So.n (lk rfl) (A.alloc 6 1 ty36 rfl ⟨lk rfl, lk rfl, lk rfl, trivial⟩ (f := fun j => ([.v (.slice none 0 0), .v (.int .i64 0), .v (.int .i64 0), .v (.int .i64 0), .v (.slice none 0 0)] : List PV).getD j (.v undef)) (fun j hj => by match j, hj with | 0, _ => rfl | 1, _ => rfl | 2, _ => rfl | 3, _ => rfl | 4, _ => rfl) (So.s (A.stoAg ty36 rfl (n := 5) rfl (by decide) (by intro j hj; (match j, hj with | 0, _ => (trivial) | 1, _ => (trivial) | 2, _ => (trivial) | 3, _ => (trivial) | 4, _ => (trivial))) rfl rfl rfl (So.e (HT.seq (HT.seq (HT.region S_dPost_ok (Sq (V.fa ty36 rfl ty3 rfl rfl (Sq (V.ld ty3 rfl rfl rfl (v := .p (.v (.int .i64 _))) rfl (Sq (V.bin (a := .v (.int .i64 _)) (b := .v (.int .i64 5)) (r := .v (.bool _)) rfl rfl rfl trivial (So.e ?_)))))))))))))))))))))
  refine R.cd rfl rfl (fun h3 => ?_) (fun h3 => ?_)
  ·refine HT.seq (HT.region S_dPost_ok (Sq (V.as (v := .p (.v (.int .i64 0))) rfl (Sq (V.as (v := .p (.v (.int .i64 181))) rfl (So.e ?_))))))
   refine HT.ret ?_
   skip
   have hR := rp_2 (G := G) (e := e) (L := L) (b := b) (by assumption) (by assumption)
   exact ret_ok (sg [(1, 1), (2, 2), (3, 3), (4, 4)]) h rfl rfl rfl ⟨⟨trivial, trivial, rfl, rfl, rfl, trivial⟩, trivial, trivial, trivial, trivial⟩ ⟨trivial, trivial, trivial⟩ rfl ⟨⟨⟨le_int (by (rw [hR]; done)), trivial⟩, ⟨le_int (by (rw [hR]; done)), trivial⟩, trivial⟩, ⟨⟨_, rfl, .inl (by rw [hR]; rfl), ⟨trivial, trivial, rfl, rfl, rfl, trivial⟩⟩, ⟨_, rfl, .inr (ob_rows (by rw [hR]; done) (by intro j hj; rw [hR]; done)), trivial⟩, ⟨_, rfl, .inl rfl, trivial⟩, ⟨_, rfl, .inl rfl, trivial⟩, trivial⟩⟩
  ·refine HT.skip (HT.seq (HT.seq ?_))
   refine HT.drawn S_dPost_ok S_dPost_det mixed (by kernel_rfl) ?_
   refine Sd.n (lk rfl) (V.fa ty36 rfl ty23 rfl rfl (Sd.n (lk rfl) (V.ld ty23 rfl rfl rfl (v := .p (.bs _)) rfl (Sd.n (lk rfl) (V.cvBs ty9 rfl rfl (Sd.n (lk rfl) (V.mv (v := .ptr 1 0) rfl (Sd.n (lk rfl) (V.ncPtr rfl (Sd.n (lk rfl) (V.fa ty58 rfl ty23 rfl rfl (Sd.n (lk rfl) (V.ld ty23 rfl rfl rfl (v := .p (.bs _)) rfl (Sd.n (lk rfl) (V.cvBs ty9 rfl rfl (Sd.n (lk rfl) (V.bin (a := .str _) (b := .str _) (r := .v (.bool _)) rfl rfl rfl trivial (Sd.n (lk rfl) (V.mv (v := .p (.v (.bool _))) rfl ?_)))))))))))))))))))
   refine Sd.gd rfl rfl (lk rfl) (lk rfl) (fun h4 => ?_) (fun h4 => ?_)
   ·have h4 := of_decide_eq_true (bnF h4)
    refine V.faPtr ty36 rfl ty2 (lk rfl) rfl rfl (lk rfl) ?_
    refine Sd.gy rfl rfl (lk rfl) (lk rfl) ?_
    refine V.ld ty2 rfl rfl rfl (v := .p (.v (.int .i64 _))) rfl ?_
    refine Sd.gy rfl rfl (lk rfl) (lk rfl) ?_
    refine V.mv (v := .ptr 1 0) rfl ?_
    refine Sd.gy rfl rfl (lk rfl) (lk rfl) ?_
    refine V.ncPtr rfl ?_
    refine Sd.gy rfl rfl (lk rfl) (lk rfl) ?_
    refine V.faPtr ty58 rfl ty2 (lk rfl) rfl rfl (lk rfl) ?_
    refine Sd.gy rfl rfl (lk rfl) (lk rfl) ?_
    refine V.ld ty2 rfl rfl rfl (v := .p (.v (.int .i64 _))) rfl ?_
    refine Sd.gy rfl rfl (lk rfl) (lk rfl) ?_
    refine V.bin (a := .v (.int .i64 _)) (b := .v (.int .i64 _)) (r := .v (.bool _)) rfl rfl rfl trivial ?_
    refine Sd.n (lk rfl) (V.pkFalse (u := .p (.v (.bool _))) rfl rfl (Sd.e ?_))
    refine R.cond rfl rfl (fun h5 => ?_) (fun h5 => ?_)
    ·have h5 := of_decide_eq_false (bnT h5)
     refine HT.seq (HT.region S_dPost_ok (Sq (V.as (v := .p (.v (.int .i64 0))) rfl (Sq (V.as (v := .p (.v (.int .i64 221))) rfl (So.e ?_))))))
     refine HT.ret ?_
     skip
     have hR := rp_3 (G := G) (e := e) (L := L) (b := b) (by assumption) (by assumption) (fun q9 => by exact absurd q9.2 (by assumption))
     exact ret_ok (sg [(1, 1), (2, 2), (3, 3), (4, 4)]) h rfl rfl rfl ⟨⟨trivial, trivial, rfl, rfl, rfl, trivial⟩, trivial, trivial, trivial, trivial⟩ ⟨trivial, trivial, trivial⟩ rfl ⟨⟨⟨le_int (by (rw [hR]; done)), trivial⟩, ⟨le_int (by (rw [hR]; done)), trivial⟩, trivial⟩, ⟨⟨_, rfl, .inl (by rw [hR]; rfl), ⟨trivial, trivial, rfl, rfl, rfl, trivial⟩⟩, ⟨_, rfl, .inr (ob_rows (by rw [hR]; done) (by intro j hj; rw [hR]; done)), trivial⟩, ⟨_, rfl, .inl rfl, trivial⟩, ⟨_, rfl, .inl rfl, trivial⟩, trivial⟩⟩
    ·have h5 := of_decide_eq_true (bnF h5)
     refine HT.skip (HT.seq (HT.region S_dPost_ok (Sq (V.mv (v := .ptr 1 0) rfl (Sq (V.mv (v := .p (.bs _)) rfl ?_))))))
     refine So.n (lk rfl) (A.call [.ptr 1 _, .p (.v (.int .i64 _)), .p (.bs _)] [(1, ⟨_, _, _, _, .cells [.p (.bs _), .p (.v (.int .i64 _)), .own 2 0 _, .own 3 0 _, .own 4 0 _]⟩), (2, ⟨_, _, _, _, .rows _⟩), (3, ⟨_, _, _, _, .rows _⟩), (4, ⟨_, _, _, _, .rows _⟩)] (sg [(1, 1), (2, 2), (3, 3), (4, 4)]) 7 rfl rfl rfl rfl ⟨rfl, rfl, rfl, rfl, trivial⟩ rfl ⟨⟨trivial, trivial, rfl, rfl, rfl, trivial⟩, trivial, trivial, trivial, trivial⟩ ⟨rfl, trivial, trivial, trivial⟩ ⟨lk rfl, lk rfl, lk rfl, trivial⟩ rfl (G, e, L, W, p, 1, b) ⟨.refl _, .refl _, .refl _, trivial⟩ ⟨⟨_, rfl, .inl rfl, ⟨trivial, trivial, rfl, rfl, rfl, trivial⟩⟩, ⟨_, rfl, .inl rfl, trivial⟩, ⟨_, rfl, .inl rfl, trivial⟩, ⟨_, rfl, .inl rfl, trivial⟩, trivial⟩ (by omega) tT ⟨⟨_, _, rfl, rfl, rfl, Nat.le_refl _⟩, ⟨_, _, rfl, rfl, rfl, Nat.le_refl _⟩, ⟨_, _, rfl, rfl, rfl, Nat.le_refl _⟩, trivial⟩ (.inl rfl) rfl (v := .tup 2 _) rfl (O' := (1, ⟨_, _, _, _, .cells _⟩) :: (9, ⟨_, _, _, _, .rows _⟩) :: (3, ⟨_, _, _, _, .rows _⟩) :: (4, ⟨_, _, _, _, .rows _⟩) :: _) rfl (fun h6 => ?_))
     refine Sq (V.mv (v := .tup 2 _) rfl (Sq (V.ei rfl rfl (Sq (V.ei rfl rfl (Sq (V.ai rfl (Sq (V.ai rfl (So.e (HT.seq (HT.seq (HT.region S_dPost_ok ?_)))))))))))))
     skip
     refine Sq (V.mi rfl (Sq (V.bin (a := .v (.int .i64 _)) (b := .v (.int .i64 0)) (r := .v (.bool _)) rfl rfl rfl trivial (Sq (V.mv (v := .p (.v (.bool _))) rfl ?_)))))
     refine So.gd rfl rfl (lk rfl) (lk rfl) (fun h7 => ?_) (fun h7 => ?_)
     ·have h7 := of_decide_eq_true h7
      refine A.v rfl (V.fa ty36 rfl ty3 rfl rfl (So.gy rfl rfl (lk rfl) (lk rfl) (A.v rfl (V.ld ty3 rfl rfl rfl (v := .p (.v (.int .i64 _))) rfl (So.gy rfl rfl (lk rfl) (lk rfl) (A.v rfl (V.bin (a := .v (.int .i64 _)) (b := .v (.int .i64 4)) (r := .v (.bool _)) rfl rfl rfl trivial (Sq (V.pkTrue (u := .p (.v (.bool _))) rfl rfl (So.e ?_))))))))))
      refine R.cd rfl rfl (fun h8 => ?_) (fun h8 => ?_)
      ·refine HT.region S_dPost_ok (Sq (V.mv (v := .ptr 1 0) rfl (Sq (V.ncPtr rfl (Sq (V.fa ty58 rfl ty2 rfl rfl (Sq (V.ld ty2 rfl rfl rfl (v := .p (.v (.int .i64 _))) rfl (Sq (V.addI rfl rfl (by omega) (Sq (V.ncPtr rfl (Sq (V.fa ty58 rfl ty2 rfl rfl (So.s (A.sto ty2 rfl rfl rfl (v := .p (.v (.int .i64 _))) rfl rfl rfl (lk rfl) rfl rfl (So.e (HT.seq (HT.region S_dPost_ok (Sq (V.mi rfl (Sq (V.mi rfl (Sq (V.ai rfl (Sq (V.ai rfl (So.e ?_))))))))))))))))))))))))))))
       refine HT.ret ?_
       have hP := pl_yes (e := e) (L := L) (k := 1) (b := b) (by assumption)
       have hR := rp_5 (G := G) (e := e) (L := L) (b := b) (by assumption) (by assumption) (by assumption) (by assumption) (by assumption) (by assumption)
       exact ret_ok (sg [(1, 1), (2, 9), (3, 3), (4, 4)]) h rfl rfl rfl ⟨⟨trivial, trivial, rfl, rfl, rfl, trivial⟩, trivial, trivial, trivial, trivial⟩ ⟨trivial, trivial, trivial⟩ rfl ⟨⟨⟨le_int (by (rw [hR, hP]; done)), trivial⟩, ⟨le_int (by (rw [hR, hP]; done)), trivial⟩, trivial⟩, ⟨⟨_, rfl, .inl (by rw [hR, hP]; rfl), ⟨trivial, trivial, rfl, rfl, rfl, trivial⟩⟩, ⟨_, rfl, .inr (ob_rows (by rw [hR, hP]; done) (by intro j hj; rw [hR, hP]; done)), trivial⟩, ⟨_, rfl, .inl rfl, trivial⟩, ⟨_, rfl, .inl rfl, trivial⟩, trivial⟩⟩
      ·refine HT.skip (HT.seq (HT.region S_dPost_ok (Sq (V.mi rfl (Sq (V.mi rfl (Sq (V.ai rfl (Sq (V.ai rfl (So.e ?_)))))))))))
       refine HT.ret ?_
       have hP := pl_yes (e := e) (L := L) (k := 1) (b := b) (by assumption)
       have hR := rp_6 (G := G) (e := e) (L := L) (b := b) (by assumption) (by assumption) (by assumption) (by assumption) (by assumption) (by assumption)
       exact ret_ok (sg [(1, 1), (2, 9), (3, 3), (4, 4)]) h rfl rfl rfl ⟨⟨trivial, trivial, rfl, rfl, rfl, trivial⟩, trivial, trivial, trivial, trivial⟩ ⟨trivial, trivial, trivial⟩ rfl ⟨⟨⟨le_int (by (rw [hR, hP]; done)), trivial⟩, ⟨le_int (by (rw [hR, hP]; done)), trivial⟩, trivial⟩, ⟨⟨_, rfl, .inl (by rw [hR, hP]; rfl), ⟨trivial, trivial, rfl, rfl, rfl, trivial⟩⟩, ⟨_, rfl, .inr (ob_rows (by rw [hR, hP]; done) (by intro j hj; rw [hR, hP]; done)), trivial⟩, ⟨_, rfl, .inl rfl, trivial⟩, ⟨_, rfl, .inl rfl, trivial⟩, trivial⟩⟩
     ·have h7 := of_decide_eq_false h7
      refine So.gn (b := false) rfl rfl rfl (lk rfl) (lk rfl) (So.gn (b := false) rfl rfl rfl (lk rfl) (lk rfl) (Sq (V.pkFalse (u := .p (.v (.bool false))) rfl rfl (So.e ?_))))
      refine R.condF rfl ?_
      refine HT.skip (HT.seq (HT.region S_dPost_ok (Sq (V.mi rfl (Sq (V.mi rfl (Sq (V.ai rfl (Sq (V.ai rfl (So.e ?_)))))))))))
      refine HT.ret ?_
      have hP := pl_no (e := e) (L := L) (k := 1) (b := b) (by assumption)
      have hR := rp_4 (G := G) (e := e) (L := L) (b := b) (by assumption) (by assumption) (by assumption) (by assumption) (by assumption)
      exact ret_ok (sg [(1, 1), (2, 9), (3, 3), (4, 4)]) h rfl rfl rfl ⟨⟨trivial, trivial, rfl, rfl, rfl, trivial⟩, trivial, trivial, trivial, trivial⟩ ⟨trivial, trivial, trivial⟩ rfl ⟨⟨⟨le_int (by (rw [hR, hP]; done)), trivial⟩, ⟨le_int (by (rw [hR, hP]; done)), trivial⟩, trivial⟩, ⟨⟨_, rfl, .inl (by rw [hR, hP]; rfl), ⟨trivial, trivial, rfl, rfl, rfl, trivial⟩⟩, ⟨_, rfl, .inr (ob_rows (by rw [hR, hP]; done) (by intro j hj; rw [hR, hP]; done)), trivial⟩, ⟨_, rfl, .inl rfl, trivial⟩, ⟨_, rfl, .inl rfl, trivial⟩, trivial⟩⟩
   ·have h4 := of_decide_eq_false (bnT h4)
    refine Sd.gn (b := true) rfl rfl rfl (lk rfl) (lk rfl) (Sd.gn (b := true) rfl rfl rfl (lk rfl) (lk rfl) (Sd.gn (b := true) rfl rfl rfl (lk rfl) (lk rfl) (Sd.gn (b := true) rfl rfl rfl (lk rfl) (lk rfl) (Sd.gn (b := true) rfl rfl rfl (lk rfl) (lk rfl) (Sd.gn (b := true) rfl rfl rfl (lk rfl) (lk rfl) (Sd.n (lk rfl) (V.pkTrue (u := .p (.v (.bool true))) rfl rfl (Sd.e ?_))))))))
    refine R.condT rfl ?_
    refine HT.seq (HT.region S_dPost_ok (Sq (V.as (v := .p (.v (.int .i64 0))) rfl (Sq (V.as (v := .p (.v (.int .i64 221))) rfl (So.e ?_))))))
    refine HT.ret ?_
    skip
    have hR := rp_3 (G := G) (e := e) (L := L) (b := b) (by assumption) (by assumption) (fun q9 => by exact absurd q9.1 (by assumption))
    exact ret_ok (sg [(1, 1), (2, 2), (3, 3), (4, 4)]) h rfl rfl rfl ⟨⟨trivial, trivial, rfl, rfl, rfl, trivial⟩, trivial, trivial, trivial, trivial⟩ ⟨trivial, trivial, trivial⟩ rfl ⟨⟨⟨le_int (by (rw [hR]; done)), trivial⟩, ⟨le_int (by (rw [hR]; done)), trivial⟩, trivial⟩, ⟨⟨_, rfl, .inl (by rw [hR]; rfl), ⟨trivial, trivial, rfl, rfl, rfl, trivial⟩⟩, ⟨_, rfl, .inr (ob_rows (by rw [hR]; done) (by intro j hj; rw [hR]; done)), trivial⟩, ⟨_, rfl, .inl rfl, trivial⟩, ⟨_, rfl, .inl rfl, trivial⟩, trivial⟩⟩
def rgetsSp : Sp := ⟨[], mkE (α := (List UInt8)) (fun b => [.p (.bs b)]) (fun b => []) (fun b => True) (fun b => [.agg 5 (fun j => ([.bs (gs1 b), .v (.int .i64 (gs2 b)), .v (.int .i64 (gs3 b)), .v (.int .i64 (gs4 b)), .bs (gs5 b)] : List PV).getD j (.v undef)), .p (.v (.int .i64 ((gsE b))))]) (fun b => [])⟩
def S_rgets : FuncId -> Option Sp := fun f => if f = 54 then some rrtextSp else if f = 55 then some rrnumSp else if f = 57 then some rsealSp else none
theorem S_rgets_ok : ∀ f s, S_rgets f = some s -> FOK Tryd.prog gl f s := sI rrtext_ok (sI rrnum_ok (sI rseal_ok sN))
theorem S_rgets_det : ∀ f s, S_rgets f = some s -> SpDet s.sp := dI (dI (dI dN))
theorem rgets_ok : FOK Tryd.prog gl 42 rgetsSp := by
 refine FOK.ofEC (tyOf_ok Tryd.prog) (rvs := [.cell 2 69, .tmp 3]) (nt := 50) Tryd.func42 rfl rfl rfl rfl (by decide) 1 (fun _ => rfl) (by decide) (fun _ => ⟨trivial, trivial⟩) ?_
 rintro b kk hlen hpre h
 have hl0 : (b).length <= 9223372036854775807 := hlen.1
 replace hpre : True := hpre
 show HT (cx Tryd.prog 50 (tyOf Tryd.prog) gl []) _ [(0, .p (.bs b))] [] _
 refine HT.seq (HT.region S_rgets_ok (So.n (lk rfl) (A.alloc 1 1 ty69 rfl trivial (f := fun j => ([.v (.slice none 0 0), .v (.int .i64 0), .v (.int .i64 0), .v (.int .i64 0), .v (.slice none 0 0)] : List PV).getD j (.v undef)) (fun j hj => by match j, hj with | 0, _ => rfl | 1, _ => rfl | 2, _ => rfl | 3, _ => rfl | 4, _ => rfl) (Sq (V.as (v := .p (.v (.int .i64 0))) rfl (So.e (HT.seq (HT.region S_rgets_ok (Sq (V.mv (v := .p (.bs _)) rfl (So.n (lk rfl) (A.bldS ty101 rfl rfl ⟨by exact trivial, trivial⟩ rfl (f := fun j => ([.bs b, .v (.int .i64 0), .v (.int .i64 0)] : List PV).getD j (.v undef)) (by exact allP_spec (P := fun j => _ = _) ⟨⟨⟨trivial, rfl⟩, rfl⟩, rfl⟩) (So.n (lk rfl) (A.boxAg 2 1 (n := 3) rfl (by intro j hj; (match j, hj with | 0, _ => (trivial) | 1, _ => (trivial) | 2, _ => (trivial))) rfl trivial (Sq (V.as (v := .ptr 2 0) rfl (So.e (HT.seq (HT.region S_rgets_ok (So.n (lk rfl) (A.alloc 3 1 ty69 rfl trivial (f := fun j => ([.v (.slice none 0 0), .v (.int .i64 0), .v (.int .i64 0), .v (.int .i64 0), .v (.slice none 0 0)] : List PV).getD j (.v undef)) (fun j hj => by match j, hj with | 0, _ => rfl | 1, _ => rfl | 2, _ => rfl | 3, _ => rfl | 4, _ => rfl) (So.e (HT.seq (HT.region S_rgets_ok (Sq (V.mv (v := .ptr 2 0) rfl ?_))))))))))))))))))))))))))
 refine So.n (lk rfl) (A.call [.ptr 1 _] [(1, ⟨_, _, _, _, .rows _⟩)] (sg [(1, 2)]) 4 rfl rfl rfl rfl ⟨rfl, trivial⟩ rfl ⟨trivial, trivial⟩ ⟨rfl, trivial⟩ trivial rfl (b, 0, 0) ⟨.refl _, trivial⟩ ⟨⟨_, rfl, .inl rfl, trivial⟩, trivial⟩ (by trivial) tT ⟨⟨_, _, rfl, rfl, rfl, Nat.le_refl _⟩, trivial⟩ (.inl rfl) rfl (v := .p (.bs _)) rfl (O' := (2, ⟨_, _, _, _, .rows _⟩) :: _) rfl (fun h1 => ?_))
 refine Sq (V.fa ty69 rfl ty23 rfl rfl (So.s (A.sto ty23 rfl rfl rfl (v := .p (.bs _)) rfl trivial rfl (lk rfl) rfl rfl (So.e (HT.seq (HT.region S_rgets_ok (Sq (V.mv (v := .ptr 2 0) rfl ?_))))))))
 refine So.n (lk rfl) (A.call [.ptr 1 _, .p (.v (.int .i64 _))] [(1, ⟨_, _, _, _, .rows _⟩)] (sg [(1, 2)]) 4 rfl rfl rfl rfl ⟨rfl, trivial⟩ rfl ⟨trivial, trivial⟩ ⟨rfl, trivial, trivial⟩ trivial rfl (b, (pl1 b 0 0).2.1, (pl1 b 0 0).2.2, 8) ⟨.refl _, .refl _, trivial⟩ ⟨⟨_, rfl, .inl rfl, trivial⟩, trivial⟩ (by trivial) tT ⟨⟨_, _, rfl, rfl, rfl, Nat.le_refl _⟩, trivial⟩ (.inl rfl) rfl (v := .p (.v (.int .i64 _))) rfl (O' := (2, ⟨_, _, _, _, .rows _⟩) :: _) rfl (fun h2 => ?_))
 refine Sq (V.fa ty69 rfl ty2 rfl rfl (So.s (A.sto ty2 rfl rfl rfl (v := .p (.v (.int .i64 _))) rfl rfl rfl (lk rfl) rfl rfl (So.e (HT.seq (HT.region S_rgets_ok (Sq (V.mv (v := .ptr 2 0) rfl ?_))))))))
 refine So.n (lk rfl) (A.call [.ptr 1 _, .p (.v (.int .i64 _))] [(1, ⟨_, _, _, _, .rows _⟩)] (sg [(1, 2)]) 4 rfl rfl rfl rfl ⟨rfl, trivial⟩ rfl ⟨trivial, trivial⟩ ⟨rfl, trivial, trivial⟩ trivial rfl (b, (pl2 b 0 0).2.1, (pl2 b 0 0).2.2, 4) ⟨.refl _, .refl _, trivial⟩ ⟨⟨_, rfl, .inl rfl, trivial⟩, trivial⟩ (by trivial) tT ⟨⟨_, _, rfl, rfl, rfl, Nat.le_refl _⟩, trivial⟩ (.inl rfl) rfl (v := .p (.v (.int .i64 _))) rfl (O' := (2, ⟨_, _, _, _, .rows _⟩) :: _) rfl (fun h3 => ?_))
 refine Sq (V.ai rfl (So.e (HT.seq (HT.region S_rgets_ok (Sq (V.mv (v := .ptr 2 0) rfl ?_))))))
 refine So.n (lk rfl) (A.call [.ptr 1 _, .p (.v (.int .i64 _))] [(1, ⟨_, _, _, _, .rows _⟩)] (sg [(1, 2)]) 4 rfl rfl rfl rfl ⟨rfl, trivial⟩ rfl ⟨trivial, trivial⟩ ⟨rfl, trivial, trivial⟩ trivial rfl (b, (pl3 b 0 0).2.1, (pl3 b 0 0).2.2, 4) ⟨.refl _, .refl _, trivial⟩ ⟨⟨_, rfl, .inl rfl, trivial⟩, trivial⟩ (by trivial) tT ⟨⟨_, _, rfl, rfl, rfl, Nat.le_refl _⟩, trivial⟩ (.inl rfl) rfl (v := .p (.v (.int .i64 _))) rfl (O' := (2, ⟨_, _, _, _, .rows _⟩) :: _) rfl (fun h4 => ?_))
 refine Sq (V.fa ty69 rfl ty2 rfl rfl (So.s (A.sto ty2 rfl rfl rfl (v := .p (.v (.int .i64 _))) rfl rfl rfl (lk rfl) rfl rfl (So.e (HT.seq (HT.region S_rgets_ok (Sq (V.mv (v := .ptr 2 0) rfl ?_))))))))
 refine So.n (lk rfl) (A.call [.ptr 1 _] [(1, ⟨_, _, _, _, .rows _⟩)] (sg [(1, 2)]) 4 rfl rfl rfl rfl ⟨rfl, trivial⟩ rfl ⟨trivial, trivial⟩ ⟨rfl, trivial⟩ trivial rfl (b, (sg4 b).2.1, (sg4 b).2.2) ⟨.refl _, trivial⟩ ⟨⟨_, rfl, .inl rfl, trivial⟩, trivial⟩ (by trivial) tT ⟨⟨_, _, rfl, rfl, rfl, Nat.le_refl _⟩, trivial⟩ (.inl rfl) rfl (v := .p (.bs _)) rfl (O' := (2, ⟨_, _, _, _, .rows _⟩) :: _) rfl (fun h5 => ?_))
 refine Sq (V.fa ty69 rfl ty23 rfl rfl (So.s (A.sto ty23 rfl rfl rfl (v := .p (.bs _)) rfl trivial rfl (lk rfl) rfl rfl (So.e (HT.seq (HT.region S_rgets_ok (Sq (V.mi rfl (Sq (V.fa ty69 rfl ty3 rfl rfl (So.s (A.sto ty3 rfl rfl rfl (v := .p (.v (.int .i64 _))) rfl rfl rfl (lk rfl) rfl rfl (So.e (HT.seq (HT.seq ?_)))))))))))))))
 refine R.tell [] [(3, ⟨69, 1, 5, true, .rows (fun j => ([.bs (pl1 b 0 0).1, .v (.int .i64 ((pl2 b 0 0).1)), .v (.int .i64 ((pl3 b 0 0).1)), .v (.int .i64 ((sg4 b).1)), .bs (sg5 b).1] : List PV).getD j (.v undef))⟩), (2, ⟨101, 1, 3, true, .rows (fun j => ([.bs b, .v (.int .i64 (sg5 b).2.1), .v (.int .i64 (sg5 b).2.2)] : List PV).getD j (.v undef))⟩)] [0, 2, 3, 4, 5] [1] (fr0 := [(0, .p (.bs _)), (2, .ptr 1 0), (3, .p (.v (.int .i64 _))), (4, .ptr 2 0), (5, .ptr 3 0)]) (O0 := [(1, ⟨_, _, _, _, .rows _⟩)]) rfl rfl ⟨⟨⟨.refl _, trivial⟩, ⟨.refl _, rfl⟩, ⟨.refl _, trivial⟩, ⟨.refl _, rfl⟩, ⟨.refl _, rfl⟩, trivial⟩, ⟨⟨_, rfl, .inr (ob_rowsL (by intro j hj; match j, hj with | 0, _ => exact .refl _ | 1, _ => exact .refl _ | 2, _ => exact .refl _ | 3, _ => exact .refl _ | 4, _ => exact .refl _)), trivial⟩, ⟨_, rfl, .inr (ob_rows (by rfl) (by intro j hj; match j, hj with | 0, _ => rfl | 1, _ => rfl | 2, _ => rfl)), trivial⟩, ⟨_, rfl, .inl rfl, trivial⟩, trivial⟩⟩ ?_
 refine HT.region S_rgets_ok (Sq (V.mv (v := .ptr 2 0) rfl (Sq (V.ncPtr rfl (Sq (V.fa ty101 rfl ty27 rfl rfl (Sq (V.ld ty27 rfl rfl rfl (v := .p (.v (.int .i64 _))) rfl (Sq (V.bin (a := .v (.int .i64 _)) (b := .v (.int .i64 0)) (r := .v (.bool _)) rfl rfl rfl trivial (So.e ?_)))))))))))
 refine R.cond rfl rfl (fun h6 => ?_) (fun h6 => ?_)
 ·have h6 := of_decide_eq_false (bnT h6)
  refine HT.seq ?_
  refine HT.planS S_rgets_ok S_rgets_det mixed [1, 2, 3, 4, 6] [⟨[1, 2, 3, 4], 0, [1, 2, 3, 4]⟩, ⟨[1, 2, 3, 4], 5, [1, 2, 3, 4]⟩] (by kernel_rfl) ?_
  have hg : gsE b = (sg5 b).2.2 := endF_4 (by assumption)
  have hg0 : ¬ gsE b = 0 := by rw [hg]; assumption
  refine Pl.lk ?_
  refine Sj rfl (V.mv (v := .ptr 2 0) rfl (Sj rfl (V.ncPtr rfl (Sj rfl (V.fa ty101 rfl ty27 rfl rfl (Sj rfl (V.ld ty27 rfl rfl rfl (v := .p (.v (.int .i64 _))) rfl (Si.e ?_))))))))
  refine ⟨flEq_nil, fun ff => ?_⟩
  refine Lo.n rfl (lk rfl) (A.bldS ty69 rfl rfl trivial rfl (f := fun j => ([.v (.slice none 0 0), .v (.int .i64 0), .v (.int .i64 0), .v (.int .i64 0), .v (.slice none 0 0)] : List PV).getD j (.v undef)) (by exact allP_spec (P := fun j => _ = _) ⟨⟨⟨⟨⟨trivial, rfl⟩, rfl⟩, rfl⟩, rfl⟩, rfl⟩) ?_)
  refine ⟨_, fun ff => ff, ap0d, rfl, FG.id, ?_⟩
  show planA _ _ _ _ _ [(1, .ptr 2 0), (2, .ptr 2 0), (3, .ptr 2 2), (4, .p (.v (.int .i64 _)))] _ _ _
  refine Pl.lk ?_
  refine Sj rfl (V.mv (v := .ptr 2 0) rfl (Sj rfl (V.ncPtr rfl (Sj rfl (V.fa ty101 rfl ty27 rfl rfl (Sj rfl (V.ld ty27 rfl rfl rfl (v := .p (.v (.int .i64 _))) rfl (Si.e ?_))))))))
  refine ⟨(flEq_cons rfl (flEq_cons rfl (flEq_cons rfl (flEq_cons rfl flEq_nil)))), fun ff => ?_⟩
  refine Lo.s rfl (A.stoAg ty69 rfl (n := 5) rfl (by decide) (by intro j hj; (match j, hj with | 0, _ => (trivial) | 1, _ => (trivial) | 2, _ => (trivial) | 3, _ => (trivial) | 4, _ => (trivial))) rfl rfl rfl ?_)
  refine ⟨_, fun ff => ff, ap0, rfl, FG.id, ?_⟩
  show planA _ _ _ _ _ [(1, .ptr 2 0), (2, .ptr 2 0), (3, .ptr 2 2), (4, .p (.v (.int .i64 _)))] _ _ _
  refine Pl.e ?_
  refine Sj rfl (V.mv (v := .ptr 2 0) rfl (Sj rfl (V.ncPtr rfl (Sj rfl (V.fa ty101 rfl ty27 rfl rfl (Sj rfl (V.ld ty27 rfl rfl rfl (v := .p (.v (.int .i64 _))) rfl (Sj rfl (V.ai rfl (Si.e ?_))))))))))
  refine ⟨(flEq_cons rfl (flEq_cons rfl (flEq_cons rfl (flEq_cons rfl flEq_nil)))), ?_⟩
  refine HT.ret ?_
  exact retC_ok (sg []) [(2, .ptr 1 0), (3, .p (.v (.int .i64 ((gsE b)))))] [(1, ⟨69, 1, 5, true, .rows (fun j => ([.bs (gs1 b), .v (.int .i64 (gs2 b)), .v (.int .i64 (gs3 b)), .v (.int .i64 (gs4 b)), .bs (gs5 b)] : List PV).getD j (.v undef))⟩)] h ⟨⟨⟨.refl _, rfl⟩, ⟨le_int (by exact hg.symm), trivial⟩, trivial⟩, ⟨⟨_, rfl, .inr (ob_rowsL (by intro j hj; match j, hj with | 0, _ => (exact gs_1 (b := b) hg0 0 (by decide)) | 1, _ => (exact gs_1 (b := b) hg0 1 (by decide)) | 2, _ => (exact gs_1 (b := b) hg0 2 (by decide)) | 3, _ => (exact gs_1 (b := b) hg0 3 (by decide)) | 4, _ => (exact gs_1 (b := b) hg0 4 (by decide)))), trivial⟩, trivial⟩⟩ ⟨rvA_cell ty69 rfl rfl rfl rfl (Nat.le_refl _) (le_agg (fun j _ => by (dsimp only; rw [Nat.zero_add]))), .refl _, trivial⟩ trivial rfl trivial ⟨trivial, trivial, trivial⟩ rfl
 ·have h6 := of_decide_eq_true (bnF h6)
  refine HT.skip (HT.seq (HT.seq (HT.region S_rgets_ok (Sq (V.mv (v := .ptr 2 0) rfl (Sq (V.ncPtr rfl (Sq (V.fa ty101 rfl ty3 rfl rfl (Sq (V.ld ty3 rfl rfl rfl (v := .p (.v (.int .i64 _))) rfl (Sq (V.mv (v := .p (.bs _)) rfl (Sq (V.len ty23 (v := .p (.bs _)) rfl rfl (Sq (V.bin (a := .v (.int .i64 _)) (b := .v (.int .i64 _)) (r := .v (.bool _)) rfl rfl rfl trivial (Sq (V.mv (v := .p (.v (.bool _))) rfl ?_)))))))))))))))))))
  refine So.gd rfl rfl (lk rfl) (lk rfl) (fun h7 => ?_) (fun h7 => ?_)
  ·have h7 := of_decide_eq_true (bnF h7)
   refine A.v rfl (V.ldPtrA ty69 rfl rfl rfl rfl (lk rfl) (So.gy rfl rfl (lk rfl) (lk rfl) ?_))
   refine A.call0 [.agg 5 _] 4 rfl rfl rfl rfl ⟨trivial, trivial⟩ trivial ((pl1 b 0 0).1, (pl2 b 0 0).1, (pl3 b 0 0).1, (sg4 b).1, (sg5 b).1) ⟨le_agg (fun j hj => by match j, hj with | 0, _ => rfl | 1, _ => rfl | 2, _ => rfl | 3, _ => rfl | 4, _ => rfl), trivial⟩ trivial (by trivial) tT (.inl rfl) (v := .p (.v (.bool _))) rfl (O' := _) rfl (fun h8 => ?_)
   refine So.gy rfl rfl (lk rfl) (lk rfl) (A.v rfl (V.not rfl (Sq (V.pkFalse (u := .p (.v (.bool _))) rfl rfl (So.e ?_)))))
   refine R.cond rfl rfl (fun h9 => ?_) (fun h9 => ?_)
   ·have h9 := of_decide_eq_false (bnT h9)
    refine HT.seq (HT.region S_rgets_ok ?_)
    have hg : gsE b = 181 := by unfold gsE; exact endF_2 (by omega) (decide_eq_false (by assumption))
    have hg0 : ¬ gsE b = 0 := by rw [hg]; decide
    refine So.n (lk rfl) (A.bldS ty69 rfl rfl trivial rfl (f := fun j => ([.v (.slice none 0 0), .v (.int .i64 0), .v (.int .i64 0), .v (.int .i64 0), .v (.slice none 0 0)] : List PV).getD j (.v undef)) (by exact allP_spec (P := fun j => _ = _) ⟨⟨⟨⟨⟨trivial, rfl⟩, rfl⟩, rfl⟩, rfl⟩, rfl⟩) (So.s (A.stoAg ty69 rfl (n := 5) rfl (by decide) (by intro j hj; (match j, hj with | 0, _ => (trivial) | 1, _ => (trivial) | 2, _ => (trivial) | 3, _ => (trivial) | 4, _ => (trivial))) rfl rfl rfl (Sq (V.as (v := .p (.v (.int .i64 181))) rfl (So.e ?_))))))
    refine HT.ret ?_
    exact retC_ok (sg []) [(2, .ptr 1 0), (3, .p (.v (.int .i64 ((gsE b)))))] [(1, ⟨69, 1, 5, true, .rows (fun j => ([.bs (gs1 b), .v (.int .i64 (gs2 b)), .v (.int .i64 (gs3 b)), .v (.int .i64 (gs4 b)), .bs (gs5 b)] : List PV).getD j (.v undef))⟩)] h ⟨⟨⟨.refl _, rfl⟩, ⟨le_int (by exact hg.symm), trivial⟩, trivial⟩, ⟨⟨_, rfl, .inr (ob_rowsL (by intro j hj; match j, hj with | 0, _ => (exact gs_1 (b := b) hg0 0 (by decide)) | 1, _ => (exact gs_1 (b := b) hg0 1 (by decide)) | 2, _ => (exact gs_1 (b := b) hg0 2 (by decide)) | 3, _ => (exact gs_1 (b := b) hg0 3 (by decide)) | 4, _ => (exact gs_1 (b := b) hg0 4 (by decide)))), trivial⟩, trivial⟩⟩ ⟨rvA_cell ty69 rfl rfl rfl rfl (Nat.le_refl _) (le_agg (fun j _ => by (dsimp only; rw [Nat.zero_add]))), .refl _, trivial⟩ trivial rfl trivial ⟨trivial, trivial, trivial⟩ rfl
   ·have h9 := of_decide_eq_true (bnF h9)
    refine HT.skip (HT.seq (HT.region S_rgets_ok ?_))
    have hg0 : gsE b = 0 := by unfold gsE; rw [endF_3 (by omega) (by omega) (decide_eq_true (by assumption))]; omega
    refine Sq (V.ldPtrA ty69 rfl rfl rfl rfl (lk rfl) (So.s (A.stoAg ty69 rfl (n := 5) rfl (by decide) (by intro j hj; (match j, hj with | 0, _ => (trivial) | 1, _ => (trivial) | 2, _ => (trivial) | 3, _ => (trivial) | 4, _ => (trivial))) rfl rfl rfl (Sq (V.as (v := .p (.v (.int .i64 0))) rfl (So.e ?_))))))
    refine HT.ret ?_
    exact retC_ok (sg []) [(2, .ptr 1 0), (3, .p (.v (.int .i64 ((gsE b)))))] [(1, ⟨69, 1, 5, true, .rows (fun j => ([.bs (gs1 b), .v (.int .i64 (gs2 b)), .v (.int .i64 (gs3 b)), .v (.int .i64 (gs4 b)), .bs (gs5 b)] : List PV).getD j (.v undef))⟩)] h ⟨⟨⟨.refl _, rfl⟩, ⟨le_int (by exact hg0.symm), trivial⟩, trivial⟩, ⟨⟨_, rfl, .inr (ob_rowsL (by intro j hj; match j, hj with | 0, _ => (exact gs_0 (b := b) hg0 0 (by decide)) | 1, _ => (exact gs_0 (b := b) hg0 1 (by decide)) | 2, _ => (exact gs_0 (b := b) hg0 2 (by decide)) | 3, _ => (exact gs_0 (b := b) hg0 3 (by decide)) | 4, _ => (exact gs_0 (b := b) hg0 4 (by decide)))), trivial⟩, trivial⟩⟩ ⟨rvA_cell ty69 rfl rfl rfl rfl (Nat.le_refl _) (le_agg (fun j _ => by (dsimp only; rw [Nat.zero_add]))), .refl _, trivial⟩ trivial rfl trivial ⟨trivial, trivial, trivial⟩ rfl
  ·have h7 := of_decide_eq_false (bnT h7)
   refine So.gn (b := true) rfl rfl rfl (lk rfl) (lk rfl) (So.gn (b := true) rfl rfl rfl (lk rfl) (lk rfl) (Sq (V.pkTrue (u := .p (.v (.bool true))) rfl rfl (So.e ?_))))
   refine R.condT rfl ?_
   refine HT.seq (HT.region S_rgets_ok ?_)
   have hg : gsE b = 181 := by unfold gsE; exact endF_1 (by omega) (by assumption)
   have hg0 : ¬ gsE b = 0 := by rw [hg]; decide
   refine So.n (lk rfl) (A.bldS ty69 rfl rfl trivial rfl (f := fun j => ([.v (.slice none 0 0), .v (.int .i64 0), .v (.int .i64 0), .v (.int .i64 0), .v (.slice none 0 0)] : List PV).getD j (.v undef)) (by exact allP_spec (P := fun j => _ = _) ⟨⟨⟨⟨⟨trivial, rfl⟩, rfl⟩, rfl⟩, rfl⟩, rfl⟩) (So.s (A.stoAg ty69 rfl (n := 5) rfl (by decide) (by intro j hj; (match j, hj with | 0, _ => (trivial) | 1, _ => (trivial) | 2, _ => (trivial) | 3, _ => (trivial) | 4, _ => (trivial))) rfl rfl rfl (Sq (V.as (v := .p (.v (.int .i64 181))) rfl (So.e ?_))))))
   refine HT.ret ?_
   exact retC_ok (sg []) [(2, .ptr 1 0), (3, .p (.v (.int .i64 ((gsE b)))))] [(1, ⟨69, 1, 5, true, .rows (fun j => ([.bs (gs1 b), .v (.int .i64 (gs2 b)), .v (.int .i64 (gs3 b)), .v (.int .i64 (gs4 b)), .bs (gs5 b)] : List PV).getD j (.v undef))⟩)] h ⟨⟨⟨.refl _, rfl⟩, ⟨le_int (by exact hg.symm), trivial⟩, trivial⟩, ⟨⟨_, rfl, .inr (ob_rowsL (by intro j hj; match j, hj with | 0, _ => (exact gs_1 (b := b) hg0 0 (by decide)) | 1, _ => (exact gs_1 (b := b) hg0 1 (by decide)) | 2, _ => (exact gs_1 (b := b) hg0 2 (by decide)) | 3, _ => (exact gs_1 (b := b) hg0 3 (by decide)) | 4, _ => (exact gs_1 (b := b) hg0 4 (by decide)))), trivial⟩, trivial⟩⟩ ⟨rvA_cell ty69 rfl rfl rfl rfl (Nat.le_refl _) (le_agg (fun j _ => by (dsimp only; rw [Nat.zero_add]))), .refl _, trivial⟩ trivial rfl trivial ⟨trivial, trivial, trivial⟩ rfl
def dTextSp : Sp := ⟨[1, 3, 4], mkE (α := (List UInt8) × Int × PLs × (List (List UInt8)) × PKs × (List UInt8)) (fun (G, e, L, W, p, b) => [.ptr 1 0, .p (.bs b)]) (fun (G, e, L, W, p, b) => [(1, ⟨58, 1, 5, true, .cells [.p (.bs G), .p (.v (.int .i64 e)), .own 2 0 ((L).length), .own 3 0 (W.length), .own 4 0 (W.length)]⟩), (2, ⟨45, 3, (L).length * 3, true, .rows (pR L)⟩), (3, ⟨23, 1, W.length, true, .rows (tV W)⟩), (4, ⟨4, 1, W.length, true, .rows (fdV p)⟩)]) (fun (G, e, L, W, p, b) => L.length <= 1000 /\ 0 <= e /\ e <= 1000000 /\ b.length <= 1000000000) (fun (G, e, L, W, p, b) => [.p (.v (.int .i64 ((takeH e L 3 b (lookT G e b)).n))), .p (.v (.int .i64 ((takeH e L 3 b (lookT G e b)).r)))]) (fun (G, e, L, W, p, b) => [(1, ⟨58, 1, 5, true, .cells [.p (.bs G), .p (.v (.int .i64 ((takeH e L 3 b (lookT G e b)).e))), .own 2 0 (((takeH e L 3 b (lookT G e b)).L).length), .own 3 0 (W.length), .own 4 0 (W.length)]⟩), (2, ⟨45, 3, ((takeH e L 3 b (lookT G e b)).L).length * 3, true, .rows (pR ((takeH e L 3 b (lookT G e b)).L))⟩), (3, ⟨23, 1, W.length, true, .rows (tV W)⟩), (4, ⟨4, 1, W.length, true, .rows (fdV p)⟩)])⟩
def S_dText : FuncId -> Option Sp := fun f => if f = 42 then some rgetsSp else if f = 41 then some dputSp else none
theorem S_dText_ok : ∀ f s, S_dText f = some s -> FOK Tryd.prog gl f s := sI rgets_ok (sI dput_ok sN)
theorem S_dText_det : ∀ f s, S_dText f = some s -> SpDet s.sp := dI (dI dN)
theorem dText_ok : FOK Tryd.prog gl 22 dTextSp := by
 refine FOK.ofE (tyOf_ok Tryd.prog) (slots := [4, 5]) (nt := 39) Tryd.func22 rfl rfl rfl rfl (by decide) 2 (fun ⟨_, _, _, _, _, _⟩ => rfl) (by decide) (fun ⟨_, _, _, _, _, _⟩ => ⟨rfl, trivial, trivial⟩) ?_
 rintro ⟨G, e, L, W, p, b⟩ kk hlen hpre h
 have hl1 : (b).length <= 9223372036854775807 := hlen.2.1
 replace hpre : L.length <= 1000 /\ 0 <= e /\ e <= 1000000 /\ b.length <= 1000000000 := hpre
 show HT (cx Tryd.prog 39 (tyOf Tryd.prog) gl [1, 3, 4]) _ [(0, .ptr 1 0), (1, .p (.bs b))] [(1, ⟨58, 1, 5, true, .cells [.p (.bs G), .p (.v (.int .i64 e)), .own 2 0 ((L).length), .own 3 0 (W.length), .own 4 0 (W.length)]⟩), (2, ⟨45, 3, (L).length * 3, true, .rows (pR L)⟩), (3, ⟨23, 1, W.length, true, .rows (tV W)⟩), (4, ⟨4, 1, W.length, true, .rows (fdV p)⟩)] _
 have hpe := pl_e e L 3 b
 refine HT.seq (HT.region S_dText_ok (Sq (V.as (v := .p (.v (.int .i64 0))) rfl (Sq (V.as (v := .p (.v (.int .i64 0))) rfl (So.e (HT.seq (HT.region S_dText_ok (Sq (V.mv (v := .p (.bs _)) rfl ?_))))))))))
 refine So.n (lk rfl) (A.call0 [.p (.bs _)] 5 rfl rfl rfl rfl ⟨trivial, trivial⟩ ⟨lk rfl, lk rfl, lk rfl, trivial⟩ _ ⟨.refl _, trivial⟩ trivial (by trivial) tT (.inl rfl) (v := .tup 2 _) rfl (O' := _) rfl (fun h1 => ?_))
 refine Sq (V.mv (v := .tup 2 _) rfl (Sq (V.ext rfl (lk rfl) (v := .agg 5 _) rfl (Sq (V.ei rfl rfl (So.n (lk rfl) (A.alloc 5 1 ty69 rfl ⟨lk rfl, lk rfl, lk rfl, trivial⟩ (f := fun j => ([.v (.slice none 0 0), .v (.int .i64 0), .v (.int .i64 0), .v (.int .i64 0), .v (.slice none 0 0)] : List PV).getD j (.v undef)) (fun j hj => by match j, hj with | 0, _ => rfl | 1, _ => rfl | 2, _ => rfl | 3, _ => rfl | 4, _ => rfl) (So.s (A.stoAg ty69 rfl (n := 5) rfl (by decide) (by intro j hj; (match j, hj with | 0, _ => (trivial) | 1, _ => (trivial) | 2, _ => (trivial) | 3, _ => (trivial) | 4, _ => (trivial))) rfl rfl rfl (Sq (V.ai rfl (So.e (HT.seq (HT.seq (HT.region S_dText_ok (Sq (V.mi rfl (Sq (V.bin (a := .v (.int .i64 _)) (b := .v (.int .i64 0)) (r := .v (.bool _)) rfl rfl rfl trivial (So.e ?_))))))))))))))))))))
 refine R.cond rfl rfl (fun h2 => ?_) (fun h2 => ?_)
 ·have h2 := of_decide_eq_false (bnT h2)
  refine HT.seq (HT.region S_dText_ok (Sq (V.mi rfl (Sq (V.as (v := .p (.v (.int .i64 0))) rfl (Sq (V.ai rfl (So.e ?_))))))))
  refine HT.ret ?_
  have hR := rt_1 (G := G) (e := e) (L := L) (b := b) (by assumption)
  exact ret_ok (sg [(1, 1), (2, 2), (3, 3), (4, 4)]) h rfl rfl rfl ⟨⟨trivial, trivial, rfl, rfl, rfl, trivial⟩, trivial, trivial, trivial, trivial⟩ ⟨trivial, trivial, trivial⟩ rfl ⟨⟨⟨le_int (by (rw [hR]; done)), trivial⟩, ⟨le_int (by (rw [hR]; done)), trivial⟩, trivial⟩, ⟨⟨_, rfl, .inl (by rw [hR]; rfl), ⟨trivial, trivial, rfl, rfl, rfl, trivial⟩⟩, ⟨_, rfl, .inr (ob_rows (by rw [hR]; done) (by intro j hj; rw [hR]; done)), trivial⟩, ⟨_, rfl, .inl rfl, trivial⟩, ⟨_, rfl, .inl rfl, trivial⟩, trivial⟩⟩
 ·have h2 := of_decide_eq_true (bnF h2)
  refine HT.skip (HT.seq (HT.seq ?_))
  refine HT.drawn S_dText_ok S_dText_det mixed (by kernel_rfl) ?_
  refine Sd.n (lk rfl) (V.fa ty69 rfl ty23 rfl rfl (Sd.n (lk rfl) (V.ld ty23 rfl rfl rfl (v := .p (.bs _)) rfl (Sd.n (lk rfl) (V.cvBs ty9 rfl rfl (Sd.n (lk rfl) (V.mv (v := .ptr 1 0) rfl (Sd.n (lk rfl) (V.ncPtr rfl (Sd.n (lk rfl) (V.fa ty58 rfl ty23 rfl rfl (Sd.n (lk rfl) (V.ld ty23 rfl rfl rfl (v := .p (.bs _)) rfl (Sd.n (lk rfl) (V.cvBs ty9 rfl rfl (Sd.n (lk rfl) (V.bin (a := .str _) (b := .str _) (r := .v (.bool _)) rfl rfl rfl trivial (Sd.n (lk rfl) (V.mv (v := .p (.v (.bool _))) rfl ?_)))))))))))))))))))
  refine Sd.gd rfl rfl (lk rfl) (lk rfl) (fun h3 => ?_) (fun h3 => ?_)
  ·have h3 := of_decide_eq_true (bnF h3)
   refine V.faPtr ty69 rfl ty2 (lk rfl) rfl rfl (lk rfl) ?_
   refine Sd.gy rfl rfl (lk rfl) (lk rfl) ?_
   refine V.ld ty2 rfl rfl rfl (v := .p (.v (.int .i64 _))) rfl ?_
   refine Sd.gy rfl rfl (lk rfl) (lk rfl) ?_
   refine V.mv (v := .ptr 1 0) rfl ?_
   refine Sd.gy rfl rfl (lk rfl) (lk rfl) ?_
   refine V.ncPtr rfl ?_
   refine Sd.gy rfl rfl (lk rfl) (lk rfl) ?_
   refine V.faPtr ty58 rfl ty2 (lk rfl) rfl rfl (lk rfl) ?_
   refine Sd.gy rfl rfl (lk rfl) (lk rfl) ?_
   refine V.ld ty2 rfl rfl rfl (v := .p (.v (.int .i64 _))) rfl ?_
   refine Sd.gy rfl rfl (lk rfl) (lk rfl) ?_
   refine V.bin (a := .v (.int .i64 _)) (b := .v (.int .i64 _)) (r := .v (.bool _)) rfl rfl rfl trivial ?_
   refine Sd.n (lk rfl) (V.pkFalse (u := .p (.v (.bool _))) rfl rfl (Sd.e ?_))
   refine R.cond rfl rfl (fun h4 => ?_) (fun h4 => ?_)
   ·have h4 := of_decide_eq_false (bnT h4)
    refine HT.seq (HT.region S_dText_ok (Sq (V.as (v := .p (.v (.int .i64 0))) rfl (Sq (V.as (v := .p (.v (.int .i64 221))) rfl (So.e ?_))))))
    refine HT.ret ?_
    have hR := rt_2 (G := G) (e := e) (L := L) (b := b) (by assumption) (fun q9 => by exact absurd q9.2 (by assumption))
    exact ret_ok (sg [(1, 1), (2, 2), (3, 3), (4, 4)]) h rfl rfl rfl ⟨⟨trivial, trivial, rfl, rfl, rfl, trivial⟩, trivial, trivial, trivial, trivial⟩ ⟨trivial, trivial, trivial⟩ rfl ⟨⟨⟨le_int (by (rw [hR]; done)), trivial⟩, ⟨le_int (by (rw [hR]; done)), trivial⟩, trivial⟩, ⟨⟨_, rfl, .inl (by rw [hR]; rfl), ⟨trivial, trivial, rfl, rfl, rfl, trivial⟩⟩, ⟨_, rfl, .inr (ob_rows (by rw [hR]; done) (by intro j hj; rw [hR]; done)), trivial⟩, ⟨_, rfl, .inl rfl, trivial⟩, ⟨_, rfl, .inl rfl, trivial⟩, trivial⟩⟩
   ·have h4 := of_decide_eq_true (bnF h4)
    refine HT.skip (HT.seq (HT.region S_dText_ok (Sq (V.mv (v := .ptr 1 0) rfl (Sq (V.mv (v := .p (.bs _)) rfl ?_))))))
    refine So.n (lk rfl) (A.call [.ptr 1 _, .p (.v (.int .i64 _)), .p (.bs _)] [(1, ⟨_, _, _, _, .cells [.p (.bs _), .p (.v (.int .i64 _)), .own 2 0 _, .own 3 0 _, .own 4 0 _]⟩), (2, ⟨_, _, _, _, .rows _⟩), (3, ⟨_, _, _, _, .rows _⟩), (4, ⟨_, _, _, _, .rows _⟩)] (sg [(1, 1), (2, 2), (3, 3), (4, 4)]) 6 rfl rfl rfl rfl ⟨rfl, rfl, rfl, rfl, trivial⟩ rfl ⟨⟨trivial, trivial, rfl, rfl, rfl, trivial⟩, trivial, trivial, trivial, trivial⟩ ⟨rfl, trivial, trivial, trivial⟩ ⟨lk rfl, lk rfl, lk rfl, trivial⟩ rfl (G, e, L, W, p, 3, b) ⟨.refl _, .refl _, .refl _, trivial⟩ ⟨⟨_, rfl, .inl rfl, ⟨trivial, trivial, rfl, rfl, rfl, trivial⟩⟩, ⟨_, rfl, .inl rfl, trivial⟩, ⟨_, rfl, .inl rfl, trivial⟩, ⟨_, rfl, .inl rfl, trivial⟩, trivial⟩ (by omega) tT ⟨⟨_, _, rfl, rfl, rfl, Nat.le_refl _⟩, ⟨_, _, rfl, rfl, rfl, Nat.le_refl _⟩, ⟨_, _, rfl, rfl, rfl, Nat.le_refl _⟩, trivial⟩ (.inl rfl) rfl (v := .tup 2 _) rfl (O' := (1, ⟨_, _, _, _, .cells _⟩) :: (8, ⟨_, _, _, _, .rows _⟩) :: (3, ⟨_, _, _, _, .rows _⟩) :: (4, ⟨_, _, _, _, .rows _⟩) :: _) rfl (fun h5 => ?_))
    refine Sq (V.ei rfl rfl (Sq (V.ei rfl rfl (Sq (V.ai rfl (Sq (V.ai rfl (So.e ?_))))))))
    refine HT.ret ?_
    have hR := rt_3 (G := G) (e := e) (L := L) (b := b) (by assumption) (by assumption) (by assumption)
    exact ret_ok (sg [(1, 1), (2, 8), (3, 3), (4, 4)]) h rfl rfl rfl ⟨⟨trivial, trivial, rfl, rfl, rfl, trivial⟩, trivial, trivial, trivial, trivial⟩ ⟨trivial, trivial, trivial⟩ rfl ⟨⟨⟨le_int (by (rw [hR]; done)), trivial⟩, ⟨le_int (by (rw [hR]; done)), trivial⟩, trivial⟩, ⟨⟨_, rfl, .inl (by rw [hR, hpe]; rfl), ⟨trivial, trivial, rfl, rfl, rfl, trivial⟩⟩, ⟨_, rfl, .inr (ob_rows (by rw [hR]; done) (by intro j hj; rw [hR]; done)), trivial⟩, ⟨_, rfl, .inl rfl, trivial⟩, ⟨_, rfl, .inl rfl, trivial⟩, trivial⟩⟩
  ·have h3 := of_decide_eq_false (bnT h3)
   refine Sd.gn (b := true) rfl rfl rfl (lk rfl) (lk rfl) (Sd.gn (b := true) rfl rfl rfl (lk rfl) (lk rfl) (Sd.gn (b := true) rfl rfl rfl (lk rfl) (lk rfl) (Sd.gn (b := true) rfl rfl rfl (lk rfl) (lk rfl) (Sd.gn (b := true) rfl rfl rfl (lk rfl) (lk rfl) (Sd.gn (b := true) rfl rfl rfl (lk rfl) (lk rfl) (Sd.n (lk rfl) (V.pkTrue (u := .p (.v (.bool true))) rfl rfl (Sd.e ?_))))))))
   refine R.condT rfl ?_
   refine HT.seq (HT.region S_dText_ok (Sq (V.as (v := .p (.v (.int .i64 0))) rfl (Sq (V.as (v := .p (.v (.int .i64 221))) rfl (So.e ?_))))))
   refine HT.ret ?_
   have hR := rt_2 (G := G) (e := e) (L := L) (b := b) (by assumption) (fun q9 => by exact absurd q9.1 (by assumption))
   exact ret_ok (sg [(1, 1), (2, 2), (3, 3), (4, 4)]) h rfl rfl rfl ⟨⟨trivial, trivial, rfl, rfl, rfl, trivial⟩, trivial, trivial, trivial, trivial⟩ ⟨trivial, trivial, trivial⟩ rfl ⟨⟨⟨le_int (by (rw [hR]; done)), trivial⟩, ⟨le_int (by (rw [hR]; done)), trivial⟩, trivial⟩, ⟨⟨_, rfl, .inl (by rw [hR]; rfl), ⟨trivial, trivial, rfl, rfl, rfl, trivial⟩⟩, ⟨_, rfl, .inr (ob_rows (by rw [hR]; done) (by intro j hj; rw [hR]; done)), trivial⟩, ⟨_, rfl, .inl rfl, trivial⟩, ⟨_, rfl, .inl rfl, trivial⟩, trivial⟩⟩
def dWelcomeSp : Sp := ⟨[1, 3, 4], mkE (α := (List UInt8) × Int × PLs × (List (List UInt8)) × PKs × (List UInt8)) (fun (G, e, L, W, p, b) => [.ptr 1 0, .p (.bs b)]) (fun (G, e, L, W, p, b) => [(1, ⟨58, 1, 5, true, .cells [.p (.bs G), .p (.v (.int .i64 e)), .own 2 0 ((L).length), .own 3 0 (W.length), .own 4 0 (W.length)]⟩), (2, ⟨45, 3, (L).length * 3, true, .rows (pR L)⟩), (3, ⟨23, 1, W.length, true, .rows (tV W)⟩), (4, ⟨4, 1, W.length, true, .rows (fdV p)⟩)]) (fun (G, e, L, W, p, b) => L.length <= 1000 /\ 0 <= e /\ e <= 1000000 /\ b.length <= 1000000000) (fun (G, e, L, W, p, b) => [.p (.v (.int .i64 ((takeH e L 2 b (lookA b)).n))), .p (.v (.int .i64 ((takeH e L 2 b (lookA b)).r)))]) (fun (G, e, L, W, p, b) => [(1, ⟨58, 1, 5, true, .cells [.p (.bs G), .p (.v (.int .i64 ((takeH e L 2 b (lookA b)).e))), .own 2 0 (((takeH e L 2 b (lookA b)).L).length), .own 3 0 (W.length), .own 4 0 (W.length)]⟩), (2, ⟨45, 3, ((takeH e L 2 b (lookA b)).L).length * 3, true, .rows (pR ((takeH e L 2 b (lookA b)).L))⟩), (3, ⟨23, 1, W.length, true, .rows (tV W)⟩), (4, ⟨4, 1, W.length, true, .rows (fdV p)⟩)])⟩
def S_dWelcome : FuncId -> Option Sp := fun f => if f = 41 then some dputSp else none
theorem S_dWelcome_ok : ∀ f s, S_dWelcome f = some s -> FOK Tryd.prog gl f s := sI dput_ok sN
theorem dWelcome_ok : FOK Tryd.prog gl 24 dWelcomeSp := by
 refine FOK.ofE (tyOf_ok Tryd.prog) (slots := [4, 5]) (nt := 19) Tryd.func24 rfl rfl rfl rfl (by decide) 2 (fun ⟨_, _, _, _, _, _⟩ => rfl) (by decide) (fun ⟨_, _, _, _, _, _⟩ => ⟨rfl, trivial, trivial⟩) ?_
 rintro ⟨G, e, L, W, p, b⟩ kk hlen hpre h
 have hl1 : (b).length <= 9223372036854775807 := hlen.2.1
 replace hpre : L.length <= 1000 /\ 0 <= e /\ e <= 1000000 /\ b.length <= 1000000000 := hpre
 show HT (cx Tryd.prog 19 (tyOf Tryd.prog) gl [1, 3, 4]) _ [(0, .ptr 1 0), (1, .p (.bs b))] [(1, ⟨58, 1, 5, true, .cells [.p (.bs G), .p (.v (.int .i64 e)), .own 2 0 ((L).length), .own 3 0 (W.length), .own 4 0 (W.length)]⟩), (2, ⟨45, 3, (L).length * 3, true, .rows (pR L)⟩), (3, ⟨23, 1, W.length, true, .rows (tV W)⟩), (4, ⟨4, 1, W.length, true, .rows (fdV p)⟩)] _
 have hpe := pl_e e L 2 b
 refine HT.seq (HT.region S_dWelcome_ok (Sq (V.as (v := .p (.v (.int .i64 0))) rfl (Sq (V.as (v := .p (.v (.int .i64 0))) rfl (So.e (HT.seq (HT.seq (HT.region S_dWelcome_ok (Sq (V.mv (v := .p (.bs _)) rfl (Sq (V.len ty23 (v := .p (.bs _)) rfl rfl (Sq (V.bin (a := .v (.int .i64 _)) (b := .v (.int .i64 0)) (r := .v (.bool _)) rfl rfl rfl trivial (Sq (V.mv (v := .p (.v (.bool _))) rfl ?_)))))))))))))))))
 refine So.gd rfl rfl (lk rfl) (lk rfl) (fun h1 => ?_) (fun h1 => ?_)
 ·have h1 := of_decide_eq_false h1
  refine A.v rfl (V.mv (v := .p (.bs _)) rfl (So.gy rfl rfl (lk rfl) (lk rfl) (A.v rfl (V.len ty23 (v := .p (.bs _)) rfl rfl (So.gy rfl rfl (lk rfl) (lk rfl) (A.v rfl (V.bin (a := .v (.int .i64 _)) (b := .v (.int .i64 1048576)) (r := .v (.bool _)) rfl rfl rfl trivial (Sq (V.pkFalse (u := .p (.v (.bool _))) rfl rfl (So.e ?_))))))))))
  refine R.cd rfl rfl (fun h2 => ?_) (fun h2 => ?_)
  ·refine HT.seq (HT.region S_dWelcome_ok (Sq (V.as (v := .p (.v (.int .i64 0))) rfl (Sq (V.as (v := .p (.v (.int .i64 1))) rfl (So.e ?_))))))
   refine HT.ret ?_
   have hR := rw_1 (e := e) (L := L) (b := b) (by omega)
   exact ret_ok (sg [(1, 1), (2, 2), (3, 3), (4, 4)]) h rfl rfl rfl ⟨⟨trivial, trivial, rfl, rfl, rfl, trivial⟩, trivial, trivial, trivial, trivial⟩ ⟨trivial, trivial, trivial⟩ rfl ⟨⟨⟨le_int (by (rw [hR]; done)), trivial⟩, ⟨le_int (by (rw [hR]; done)), trivial⟩, trivial⟩, ⟨⟨_, rfl, .inl (by rw [hR]; rfl), ⟨trivial, trivial, rfl, rfl, rfl, trivial⟩⟩, ⟨_, rfl, .inr (ob_rows (by rw [hR]; done) (by intro j hj; rw [hR]; done)), trivial⟩, ⟨_, rfl, .inl rfl, trivial⟩, ⟨_, rfl, .inl rfl, trivial⟩, trivial⟩⟩
  ·refine HT.skip (HT.seq (HT.region S_dWelcome_ok (Sq (V.mv (v := .ptr 1 0) rfl (Sq (V.mv (v := .p (.bs _)) rfl ?_))))))
   refine So.n (lk rfl) (A.call [.ptr 1 _, .p (.v (.int .i64 _)), .p (.bs _)] [(1, ⟨_, _, _, _, .cells [.p (.bs _), .p (.v (.int .i64 _)), .own 2 0 _, .own 3 0 _, .own 4 0 _]⟩), (2, ⟨_, _, _, _, .rows _⟩), (3, ⟨_, _, _, _, .rows _⟩), (4, ⟨_, _, _, _, .rows _⟩)] (sg [(1, 1), (2, 2), (3, 3), (4, 4)]) 5 rfl rfl rfl rfl ⟨rfl, rfl, rfl, rfl, trivial⟩ rfl ⟨⟨trivial, trivial, rfl, rfl, rfl, trivial⟩, trivial, trivial, trivial, trivial⟩ ⟨rfl, trivial, trivial, trivial⟩ ⟨lk rfl, lk rfl, lk rfl, trivial⟩ rfl (G, e, L, W, p, 2, b) ⟨.refl _, .refl _, .refl _, trivial⟩ ⟨⟨_, rfl, .inl rfl, ⟨trivial, trivial, rfl, rfl, rfl, trivial⟩⟩, ⟨_, rfl, .inl rfl, trivial⟩, ⟨_, rfl, .inl rfl, trivial⟩, ⟨_, rfl, .inl rfl, trivial⟩, trivial⟩ (by omega) tT ⟨⟨_, _, rfl, rfl, rfl, Nat.le_refl _⟩, ⟨_, _, rfl, rfl, rfl, Nat.le_refl _⟩, ⟨_, _, rfl, rfl, rfl, Nat.le_refl _⟩, trivial⟩ (.inl rfl) rfl (v := .tup 2 _) rfl (O' := (1, ⟨_, _, _, _, .cells _⟩) :: (7, ⟨_, _, _, _, .rows _⟩) :: (3, ⟨_, _, _, _, .rows _⟩) :: (4, ⟨_, _, _, _, .rows _⟩) :: _) rfl (fun h3 => ?_))
   refine Sq (V.ei rfl rfl (Sq (V.ei rfl rfl (Sq (V.ai rfl (Sq (V.ai rfl (So.e ?_))))))))
   refine HT.ret ?_
   have hR := rw_2 (e := e) (L := L) (b := b) (by omega)
   exact ret_ok (sg [(1, 1), (2, 7), (3, 3), (4, 4)]) h rfl rfl rfl ⟨⟨trivial, trivial, rfl, rfl, rfl, trivial⟩, trivial, trivial, trivial, trivial⟩ ⟨trivial, trivial, trivial⟩ rfl ⟨⟨⟨le_int (by (rw [hR]; done)), trivial⟩, ⟨le_int (by (rw [hR]; done)), trivial⟩, trivial⟩, ⟨⟨_, rfl, .inl (by rw [hR, hpe]; rfl), ⟨trivial, trivial, rfl, rfl, rfl, trivial⟩⟩, ⟨_, rfl, .inr (ob_rows (by rw [hR]; done) (by intro j hj; rw [hR]; done)), trivial⟩, ⟨_, rfl, .inl rfl, trivial⟩, ⟨_, rfl, .inl rfl, trivial⟩, trivial⟩⟩
 ·have h1 := of_decide_eq_true h1
  refine So.gn (b := true) rfl rfl rfl (lk rfl) (lk rfl) (So.gn (b := true) rfl rfl rfl (lk rfl) (lk rfl) (Sq (V.pkTrue (u := .p (.v (.bool true))) rfl rfl (So.e ?_))))
  refine R.condT rfl ?_
  refine HT.seq (HT.region S_dWelcome_ok (Sq (V.as (v := .p (.v (.int .i64 0))) rfl (Sq (V.as (v := .p (.v (.int .i64 1))) rfl (So.e ?_))))))
  refine HT.ret ?_
  have hR := rw_1 (e := e) (L := L) (b := b) (by omega)
  exact ret_ok (sg [(1, 1), (2, 2), (3, 3), (4, 4)]) h rfl rfl rfl ⟨⟨trivial, trivial, rfl, rfl, rfl, trivial⟩, trivial, trivial, trivial, trivial⟩ ⟨trivial, trivial, trivial⟩ rfl ⟨⟨⟨le_int (by (rw [hR]; done)), trivial⟩, ⟨le_int (by (rw [hR]; done)), trivial⟩, trivial⟩, ⟨⟨_, rfl, .inl (by rw [hR]; rfl), ⟨trivial, trivial, rfl, rfl, rfl, trivial⟩⟩, ⟨_, rfl, .inr (ob_rows (by rw [hR]; done) (by intro j hj; rw [hR]; done)), trivial⟩, ⟨_, rfl, .inl rfl, trivial⟩, ⟨_, rfl, .inl rfl, trivial⟩, trivial⟩⟩
def dleaveSp : Sp := ⟨[1, 2], mkE (α := (List UInt8) × Int × PLs × (List (List UInt8)) × PKs × (List UInt8)) (fun (G, e, L, W, p, b) => [.ptr 1 0, .p (.bs b)]) (fun (G, e, L, W, p, b) => [(1, ⟨58, 1, 5, true, .cells [.p (.bs G), .p (.v (.int .i64 e)), .own 2 0 ((L).length), .own 3 0 (W.length), .own 4 0 (W.length)]⟩), (2, ⟨45, 3, (L).length * 3, true, .rows (pR L)⟩), (3, ⟨23, 1, W.length, true, .rows (tV W)⟩), (4, ⟨4, 1, W.length, true, .rows (fdV p)⟩)]) (fun (G, e, L, W, p, b) => W.length = p.length /\ p.length <= 64) (fun (G, e, L, W, p, b) => [.p (.v (.int .i64 ((leaveH p b).n))), .p (.v (.int .i64 ((leaveH p b).r)))]) (fun (G, e, L, W, p, b) => [(1, ⟨58, 1, 5, true, .cells [.p (.bs G), .p (.v (.int .i64 e)), .own 2 0 ((L).length), .own 3 0 ((leaveW W p b).length), .own 4 0 ((leaveW W p b).length)]⟩), (2, ⟨45, 3, (L).length * 3, true, .rows (pR L)⟩), (3, ⟨23, 1, (leaveW W p b).length, true, .rows (tV ((leaveW W p b)))⟩), (4, ⟨4, 1, (leaveW W p b).length, true, .rows (fdV ((leaveH p b).p))⟩)])⟩
def S_dleave : FuncId -> Option Sp := fun _ => none
theorem S_dleave_ok : ∀ f s, S_dleave f = some s -> FOK Tryd.prog gl f s := fun f s h => by cases h
theorem S_dleave_det : ∀ f s, S_dleave f = some s -> SpDet s.sp := fun f s h => by cases h
theorem dleave_ok : FOK Tryd.prog gl 25 dleaveSp := by
 refine FOK.ofE (tyOf_ok Tryd.prog) (slots := [4, 5]) (nt := 47) Tryd.func25 rfl rfl rfl rfl (by decide) 2 (fun ⟨_, _, _, _, _, _⟩ => rfl) (by decide) (fun ⟨_, _, _, _, _, _⟩ => ⟨rfl, trivial, trivial⟩) ?_
 rintro ⟨G, e, L, W, p, b⟩ kk hlen hpre h
 have hl1 : (b).length <= 9223372036854775807 := hlen.2.1
 replace hpre : W.length = p.length /\ p.length <= 64 := hpre
 show HT (cx Tryd.prog 47 (tyOf Tryd.prog) gl [1, 2]) _ [(0, .ptr 1 0), (1, .p (.bs b))] [(1, ⟨58, 1, 5, true, .cells [.p (.bs G), .p (.v (.int .i64 e)), .own 2 0 ((L).length), .own 3 0 (W.length), .own 4 0 (W.length)]⟩), (2, ⟨45, 3, (L).length * 3, true, .rows (pR L)⟩), (3, ⟨23, 1, W.length, true, .rows (tV W)⟩), (4, ⟨4, 1, W.length, true, .rows (fdV p)⟩)] _
 refine HT.seq (HT.region S_dleave_ok (Sq (V.as (v := .p (.v (.int .i64 0))) rfl (Sq (V.as (v := .p (.v (.int .i64 0))) rfl (So.e (HT.seq (HT.seq (HT.region S_dleave_ok (Sq (V.mv (v := .p (.bs _)) rfl (Sq (V.len ty23 (v := .p (.bs _)) rfl rfl (Sq (V.bin (a := .v (.int .i64 _)) (b := .v (.int .i64 0)) (r := .v (.bool _)) rfl rfl rfl trivial (Sq (V.mv (v := .p (.v (.bool _))) rfl ?_)))))))))))))))))
 refine So.gd rfl rfl (lk rfl) (lk rfl) (fun h1 => ?_) (fun h1 => ?_)
 ·have h1 := of_decide_eq_false h1
  refine A.v rfl (V.mv (v := .p (.bs _)) rfl (So.gy rfl rfl (lk rfl) (lk rfl) (A.v rfl (V.len ty23 (v := .p (.bs _)) rfl rfl (So.gy rfl rfl (lk rfl) (lk rfl) (A.v rfl (V.bin (a := .v (.int .i64 _)) (b := .v (.int .i64 10000)) (r := .v (.bool _)) rfl rfl rfl trivial (Sq (V.pkFalse (u := .p (.v (.bool _))) rfl rfl (So.e ?_))))))))))
  refine R.cd rfl rfl (fun h2 => ?_) (fun h2 => ?_)
  ·refine HT.seq (HT.region S_dleave_ok (Sq (V.as (v := .p (.v (.int .i64 0))) rfl (Sq (V.as (v := .p (.v (.int .i64 1))) rfl (So.e ?_))))))
   refine HT.ret ?_
   have hR9 := lw_1 (W := W) (p := p) (b := b) (by omega)
   obtain ⟨hR, hW⟩ := hR9
   exact ret_ok (sg [(1, 1), (2, 2), (3, 3), (4, 4)]) h rfl rfl rfl ⟨⟨trivial, trivial, rfl, rfl, rfl, trivial⟩, trivial, trivial, trivial, trivial⟩ ⟨trivial, trivial, trivial⟩ rfl ⟨⟨⟨le_int (by (rw [hR]; done)), trivial⟩, ⟨le_int (by (rw [hR]; done)), trivial⟩, trivial⟩, ⟨⟨_, rfl, .inl (by rw [hW]; rfl), ⟨trivial, trivial, rfl, rfl, rfl, trivial⟩⟩, ⟨_, rfl, .inl rfl, trivial⟩, ⟨_, rfl, .inr (ob_rows (by rw [hW]; done) (by intro j hj; rw [hW]; done)), trivial⟩, ⟨_, rfl, .inr (ob_rows (by rw [hW]; done) (by intro j hj; rw [hR]; done)), trivial⟩, trivial⟩⟩
  ·refine HT.skip (HT.seq (HT.seq (HT.region S_dleave_ok (Sq (V.mv (v := .ptr 1 0) rfl (Sq (V.ncPtr rfl (Sq (V.fa ty58 rfl ty22 rfl rfl (Sq (V.ld ty22 rfl rfl rfl (v := .own 3 0 _) rfl (Sq (V.len ty22 (v := .own 3 0 _) rfl rfl (Sq (V.bin (a := .v (.int .i64 _)) (b := .v (.int .i64 64)) (r := .v (.bool _)) rfl rfl rfl trivial (So.e ?_))))))))))))))))
   refine R.cd rfl rfl (fun h3 => ?_) (fun h3 => ?_)
   ·refine HT.seq (HT.region S_dleave_ok (Sq (V.as (v := .p (.v (.int .i64 0))) rfl (Sq (V.as (v := .p (.v (.int .i64 2))) rfl (So.e ?_))))))
    refine HT.ret ?_
    have hR9 := lw_2 (W := W) (p := p) (b := b) (by omega) (by omega)
    obtain ⟨hR, hW⟩ := hR9
    exact ret_ok (sg [(1, 1), (2, 2), (3, 3), (4, 4)]) h rfl rfl rfl ⟨⟨trivial, trivial, rfl, rfl, rfl, trivial⟩, trivial, trivial, trivial, trivial⟩ ⟨trivial, trivial, trivial⟩ rfl ⟨⟨⟨le_int (by (rw [hR]; done)), trivial⟩, ⟨le_int (by (rw [hR]; done)), trivial⟩, trivial⟩, ⟨⟨_, rfl, .inl (by rw [hW]; rfl), ⟨trivial, trivial, rfl, rfl, rfl, trivial⟩⟩, ⟨_, rfl, .inl rfl, trivial⟩, ⟨_, rfl, .inr (ob_rows (by rw [hW]; done) (by intro j hj; rw [hW]; done)), trivial⟩, ⟨_, rfl, .inr (ob_rows (by rw [hW]; done) (by intro j hj; rw [hR]; done)), trivial⟩, trivial⟩⟩
   ·refine HT.skip (HT.seq ?_)
    refine HT.planS S_dleave_ok S_dleave_det mixed [] [⟨[0, 1, 2, 3, 4, 6], 5, [0, 1, 2, 3, 4, 6]⟩, ⟨[0, 1, 2, 3, 4, 6], 7, [0, 1, 2, 3, 4]⟩, ⟨[0, 1, 2, 3, 4], 8, [0, 1, 2, 3, 4]⟩, ⟨[0, 1, 2, 3, 4], 9, [0]⟩, ⟨[0, 10, 11], 12, []⟩] (by kernel_rfl) ?_
    refine Pl.lk ?_
    refine Sj rfl (V.mv (v := .ptr 1 0) rfl (Sj rfl (V.mv (v := .ptr 1 0) rfl (Sj rfl (V.ncPtr rfl (Sj rfl (V.fa ty58 rfl ty22 rfl rfl (Sj rfl (V.ld ty22 rfl rfl rfl (v := .own 3 0 _) rfl (Sj rfl (V.mv (v := .p (.bs _)) rfl (Si.e ?_))))))))))))
    refine ⟨flEq_nil, fun ff => ?_⟩
    refine Lo.n rfl (lk rfl) (A.bsl 5 ty23 ty5 rfl (lk rfl) (lk rfl) (fun _ => rfl) rfl rfl ⟨lk rfl, lk rfl, trivial⟩ trivial rfl (N := 0) rfl (c := .bs []) rfl ?_)
    refine ⟨_, fun ff => ff, ap0d, rfl, FG.id, ?_⟩
    show planA _ _ _ _ _ [(0, .ptr 1 0), (1, .ptr 1 0), (2, .ptr 1 0), (3, .ptr 1 3), (4, .own 3 0 _), (6, .p (.bs _))] _ _ _
    refine Pl.lk ?_
    refine Sj rfl (V.mv (v := .ptr 1 0) rfl (Sj rfl (V.mv (v := .ptr 1 0) rfl (Sj rfl (V.ncPtr rfl (Sj rfl (V.fa ty58 rfl ty22 rfl rfl (Sj rfl (V.ld ty22 rfl rfl rfl (v := .own 3 0 _) rfl (Sj rfl (V.mv (v := .p (.bs _)) rfl (Si.e ?_))))))))))))
    refine ⟨(flEq_cons rfl (flEq_cons rfl (flEq_cons rfl (flEq_cons rfl (flEq_cons rfl (flEq_cons rfl flEq_nil)))))), fun ff => ?_⟩
    refine Lo.n rfl (lk rfl) (A.apOwn ty23 ty5 rfl rfl rfl rfl (u := .p (.bs _)) rfl rfl rfl rfl (by omega) rfl rfl rfl ?_)
    refine ⟨_, fun ff => Fr.kill 5 ff, ap1d, rfl, (FG.kill 5 (flP_cons rfl (flP_cons rfl (flP_cons rfl (flP_cons rfl (flP_cons rfl flP_nil)))))), ?_⟩
    show planA _ _ _ _ _ [(0, .ptr 1 0), (1, .ptr 1 0), (2, .ptr 1 0), (3, .ptr 1 3), (4, .own 3 0 _)] _ _ _
    refine Pl.lk ?_
    refine Sj rfl (V.mv (v := .ptr 1 0) rfl (Sj rfl (V.mv (v := .ptr 1 0) rfl (Sj rfl (V.ncPtr rfl (Sj rfl (V.fa ty58 rfl ty22 rfl rfl (Sj rfl (V.ld ty22 rfl rfl rfl (v := .own 3 0 _) rfl (Si.e ?_))))))))))
    refine ⟨(flEq_cons rfl (flEq_cons rfl (flEq_cons rfl (flEq_cons rfl (flEq_cons rfl flEq_nil))))), fun ff => ?_⟩
    refine Lo.n rfl (lk rfl) (A.bsl 5 ty22 ty23 rfl (lk rfl) (lk rfl) (fun _ => rfl) rfl rfl ⟨lk rfl, lk rfl, trivial⟩ ⟨trivial, trivial⟩ rfl (N := 1) rfl (c := .rows _) rfl ?_)
    refine ⟨_, fun ff => Fr.frz 5 _ ff, az1d, rfl, (FG.frz 5 _ (flP_cons rfl (flP_cons rfl (flP_cons rfl (flP_cons rfl (flP_cons rfl flP_nil)))))), ?_⟩
    show planA _ _ _ _ _ [(0, .ptr 1 0), (1, .ptr 1 0), (2, .ptr 1 0), (3, .ptr 1 3), (4, .own 3 0 _)] _ _ _
    refine Pl.lk ?_
    refine Sj rfl (V.mv (v := .ptr 1 0) rfl (Sj rfl (V.mv (v := .ptr 1 0) rfl (Sj rfl (V.ncPtr rfl (Sj rfl (V.fa ty58 rfl ty22 rfl rfl (Sj rfl (V.ld ty22 rfl rfl rfl (v := .own 3 0 _) rfl (Si.e ?_))))))))))
    refine ⟨(flEq_cons rfl (flEq_cons rfl (flEq_cons rfl (flEq_cons rfl (flEq_cons rfl flEq_nil))))), fun ff => ?_⟩
    refine Lo.n rfl (lk rfl) (A.apRows1 ty22 ty23 rfl rfl rfl rfl (lk rfl) rfl rfl (u := .own 5 0 _) rfl rfl (by intro j hj; match j, hj with | 0, _ => trivial) rfl (by (simp; omega)) rfl rfl rfl ?_)
    refine ⟨_, fun ff => Fr.kill 3 ff, ap1d, rfl, (FG.kill 3 (flP_cons rfl flP_nil)), ?_⟩
    show planA _ _ _ _ _ [(0, .ptr 1 0)] _ _ _
    refine Pl.l0 ?_
    refine Sj rfl (V.mv (v := .ptr 1 0) rfl (Sj rfl (V.ncPtr rfl (Sj rfl (V.fa ty58 rfl ty22 rfl rfl (Si.e ?_))))))
    refine ⟨(flEq_cons rfl flEq_nil), ?_⟩
    refine Lo.s rfl (A.sto ty22 rfl rfl rfl (v := .own 3 0 _) rfl trivial rfl (lk rfl) rfl rfl ?_)
    refine Pl.e ?_
    refine Si.e ?_
    refine ⟨flEq_nil, ?_⟩
    refine HT.seq (HT.region S_dleave_ok (Sq (V.mv (v := .ptr 1 0) rfl (Sq (V.mv (v := .ptr 1 0) rfl (Sq (V.ncPtr rfl (Sq (V.fa ty58 rfl ty30 rfl rfl (Sq (V.ld ty30 rfl rfl rfl (v := .own 4 0 _) rfl (So.n (lk rfl) (A.bsl 6 ty30 ty4 rfl (lk rfl) (lk rfl) (fun _ => rfl) rfl rfl ⟨lk rfl, lk rfl, trivial⟩ ⟨rfl, trivial⟩ rfl (N := 1) rfl (c := .rows _) rfl (So.n (lk rfl) (A.apRows1 ty30 ty4 rfl rfl rfl rfl (lk rfl) rfl rfl (u := .own 6 0 _) rfl rfl (by intro j hj; match j, hj with | 0, _ => rfl) rfl (by (simp; omega)) rfl rfl rfl (Sq (V.ncPtr rfl (Sq (V.fa ty58 rfl ty30 rfl rfl (So.s (A.sto ty30 rfl rfl rfl (v := .own 4 0 _) rfl trivial rfl (lk rfl) rfl rfl (So.e (HT.seq (HT.region S_dleave_ok (Sq (V.mv (v := .ptr 1 0) rfl (Sq (V.ncPtr rfl (Sq (V.fa ty58 rfl ty22 rfl rfl (Sq (V.ld ty22 rfl rfl rfl (v := .own 3 0 _) rfl (Sq (V.len ty22 (v := .own 3 0 _) rfl rfl (Sq (V.subI rfl rfl (by omega) (Sq (V.ai rfl (Sq (V.as (v := .p (.v (.int .i64 0))) rfl (So.e ?_)))))))))))))))))))))))))))))))))))))))))
    refine HT.ret ?_
    have hR9 := lw_3 (W := W) (p := p) (b := b) (by omega) (by omega)
    obtain ⟨hR, hW⟩ := hR9
    exact ret_ok (sg [(1, 1), (2, 2), (3, 3), (4, 4)]) h rfl rfl rfl ⟨⟨trivial, trivial, rfl, rfl, rfl, trivial⟩, trivial, trivial, trivial, trivial⟩ ⟨trivial, trivial, trivial⟩ rfl ⟨⟨⟨le_int (by (rw [hR]; dsimp only; omega)), trivial⟩, ⟨le_int (by (rw [hR]; done)), trivial⟩, trivial⟩, ⟨⟨_, rfl, .inl (by rw [hW, List.length_append]; rfl), ⟨trivial, trivial, rfl, rfl, rfl, trivial⟩⟩, ⟨_, rfl, .inl rfl, trivial⟩, ⟨_, rfl, .inr (ob_rows (by rw [hW, List.length_append]; rfl) (by intro j hj; rw [hW, tkn]; exact tV_up W b j hj)), trivial⟩, ⟨_, rfl, .inr (ob_rows (by rw [hW, List.length_append]; rfl) (by intro j hj; rw [hR]; exact fdV_up2 hpre.1 b j hj)), trivial⟩, trivial⟩⟩
 ·have h1 := of_decide_eq_true h1
  refine So.gn (b := true) rfl rfl rfl (lk rfl) (lk rfl) (So.gn (b := true) rfl rfl rfl (lk rfl) (lk rfl) (Sq (V.pkTrue (u := .p (.v (.bool true))) rfl rfl (So.e ?_))))
  refine R.condT rfl ?_
  refine HT.seq (HT.region S_dleave_ok (Sq (V.as (v := .p (.v (.int .i64 0))) rfl (Sq (V.as (v := .p (.v (.int .i64 1))) rfl (So.e ?_))))))
  refine HT.ret ?_
  have hR9 := lw_1 (W := W) (p := p) (b := b) (by omega)
  obtain ⟨hR, hW⟩ := hR9
  exact ret_ok (sg [(1, 1), (2, 2), (3, 3), (4, 4)]) h rfl rfl rfl ⟨⟨trivial, trivial, rfl, rfl, rfl, trivial⟩, trivial, trivial, trivial, trivial⟩ ⟨trivial, trivial, trivial⟩ rfl ⟨⟨⟨le_int (by (rw [hR]; done)), trivial⟩, ⟨le_int (by (rw [hR]; done)), trivial⟩, trivial⟩, ⟨⟨_, rfl, .inl (by rw [hW]; rfl), ⟨trivial, trivial, rfl, rfl, rfl, trivial⟩⟩, ⟨_, rfl, .inl rfl, trivial⟩, ⟨_, rfl, .inr (ob_rows (by rw [hW]; done) (by intro j hj; rw [hW]; done)), trivial⟩, ⟨_, rfl, .inr (ob_rows (by rw [hW]; done) (by intro j hj; rw [hR]; done)), trivial⟩, trivial⟩⟩
end Go.Vh
