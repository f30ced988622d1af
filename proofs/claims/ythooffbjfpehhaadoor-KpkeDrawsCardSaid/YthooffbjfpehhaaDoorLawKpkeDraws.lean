/- What is proved: the law KpkeDraws answers true whatever comes in, and what came in reads as it did; conditions: those of the given row alone. -/
import Derived.Test.YthooffbjfpehhaaDoorCards
import Derived.Test.YthooffbjfpehhaaDoorTie
import Derived.Test.YthooffbjfpehhaaDoorWalk1
import Derived.Test.YthooffbjfpehhaaDoorFrame2
import Derived.SevenTiedAt
set_option linter.unusedVariables false
set_option linter.unusedSimpArgs false
set_option linter.unusedVariables false
namespace Go.Proofs.YthooffbjfpehhaaDoor
open Go.ChangeShapes Go.WideShapes Go.ChangeAt Go.RowKit Go.Vc

abbrev laid1 : List (String × DataW Unit) := [("sodality/keccak.constants", Rows.laid_sodality_keccak_constants), ("sodality/keccak.turns", Rows.laid_sodality_keccak_turns), ("sodality/keccak.places", Rows.laid_sodality_keccak_places)]
theorem own : ownKnob Tryd.prog.godebug = none := by kernel_rfl
theorem laidOut : laidOutB Tryd.prog = true := by kernel_rfl
theorem door_met (os : Os) (args : Array Value) : laidMetH Tryd.prog laid1 ((World.doorLaid Tryd.prog 400 os).forCall (fun _ _ => 0) ⟨#[], args, []⟩).memory :=
  laidMetH_of_parts3 (fuel := 8) (laidMet_of_run' 8 (by kernel_rfl) (by kernel_rfl)) (by kernel_rfl) (by kernel_rfl)
theorem gTab0 : Tryd.prog.globalNamed "sodality/keccak.constants" = some 0 := by kernel_rfl
theorem tTab0 : (Tryd.prog.globals[0]?).map (·.type) = some 68 := by kernel_rfl
theorem gTab1 : Tryd.prog.globalNamed "sodality/keccak.turns" = some 2 := by kernel_rfl
theorem tTab1 : (Tryd.prog.globals[2]?).map (·.type) = some 72 := by kernel_rfl
theorem gTab2 : Tryd.prog.globalNamed "sodality/keccak.places" = some 1 := by kernel_rfl
theorem tTab2 : (Tryd.prog.globals[1]?).map (·.type) = some 72 := by kernel_rfl
theorem kmap32 (l : List UInt32) : ∀ j, (l.map fun x => ((x.toNat : Nat) : Int)).getD j 0 = (((l.getD j 0).toNat : Nat) : Int) := fun j => by
  simp only [List.getD_eq_getElem?_getD, List.getElem?_map]
  cases l[j]? <;> rfl
theorem kmap64 (l : List UInt64) : ∀ j, (l.map fun x => ((x.toNat : Nat) : Int)).getD j 0 = (((l.getD j 0).toNat : Nat) : Int) := fun j => by
  simp only [List.getD_eq_getElem?_getD, List.getElem?_map]
  cases l[j]? <;> rfl
theorem kmapN (l : List Nat) : ∀ j, (l.map fun x => ((x : Nat) : Int)).getD j 0 = ((l.getD j 0 : Nat) : Int) := fun j => by
  simp only [List.getD_eq_getElem?_getD, List.getElem?_map]
  cases l[j]? <;> rfl
theorem of_laid {W : World} (h : laidMetH Tryd.prog laid1 W) : ∀ g m h, Vh.gl g = some (m, h) → ∀ j, j < m → W.cell? ⟨g, j, none⟩ = some (h j).val := by
  rw [MakeChecks.laidMetH_plain _ _ _ (by kernel_rfl)] at h
  obtain ⟨ps, ⟨g0, t0, cs0, f0, p0, q0, hg0, ht0, hv0, hd0, ⟨g1, t1, cs1, f1, p1, q1, hg1, ht1, hv1, hd1, ⟨g2, t2, cs2, f2, p2, q2, hg2, ht2, hv2, hd2, _, _⟩, _⟩, _⟩, _⟩ := h
  obtain rfl := Option.some.inj (gTab0.symm.trans hg0)
  obtain rfl := Option.some.inj (tTab0.symm.trans ht0)
  obtain rfl := Option.some.inj (gTab1.symm.trans hg1)
  obtain rfl := Option.some.inj (tTab1.symm.trans ht1)
  obtain rfl := Option.some.inj (gTab2.symm.trans hg2)
  obtain rfl := Option.some.inj (tTab2.symm.trans ht2)
  have hh0 := gl_ints (l := (Go.Vh.constL).map fun x => ((x.toNat : Nat) : Int)) hg0 hv0 Tryd.underlying68 Tryd.underlying53 (by kernel_rfl) (by kernel_rfl) hd0 (by kernel_rfl)
  have hh1 := gl_ints (l := (Go.Vh.turnsL).map fun x => ((x : Nat) : Int)) hg1 hv1 Tryd.underlying72 Tryd.underlying3 (by kernel_rfl) (by kernel_rfl) hd1 (by kernel_rfl)
  have hh2 := gl_ints (l := (Go.Vh.placesL).map fun x => ((x : Nat) : Int)) hg2 hv2 Tryd.underlying72 Tryd.underlying3 (by kernel_rfl) (by kernel_rfl) hd2 (by kernel_rfl)
  intro g m h hg j hj
  unfold Vh.gl at hg
  by_cases e0 : g = 0
  · subst e0
    rw [if_pos rfl] at hg
    simp only [Option.some.injEq, Prod.mk.injEq] at hg
    obtain ⟨rfl, rfl⟩ := hg
    rw [hh0 j (by first | exact hj | (rw [List.length_map]; exact hj)), kmap64]; rfl
  rw [if_neg e0] at hg
  by_cases e2 : g = 1
  · subst e2
    rw [if_pos rfl] at hg
    simp only [Option.some.injEq, Prod.mk.injEq] at hg
    obtain ⟨rfl, rfl⟩ := hg
    rw [hh2 j (by first | exact hj | (rw [List.length_map]; exact hj)), kmapN]; rfl
  rw [if_neg e2] at hg
  by_cases e1 : g = 2
  · subst e1
    rw [if_pos rfl] at hg
    simp only [Option.some.injEq, Prod.mk.injEq] at hg
    obtain ⟨rfl, rfl⟩ := hg
    rw [hh1 j (by first | exact hj | (rw [List.length_map]; exact hj)), kmapN]; rfl
  rw [if_neg e1] at hg
  cases hg

set_option maxRecDepth 100000 in
theorem kpkeDraws_lifted (os : Os) (started : os.Started) (H : Type) (enc : TypeId × Value → H) :
    ReturnsInHanded {} Tryd.checked os 4 .any (fun w args => (Rows.kpkeDrawsSpec.pre enc Tryd.prog Tryd.f4 [] false w args ∧ laidMetH Tryd.prog laid1 w) ∧ sizedMet enc Tryd.prog Tryd.f4 (OpenSpec.ofChange Rows.kpkeDrawsSpec) false w args)
      (Rows.kpkeDrawsSpec.post enc Tryd.prog Tryd.f4 false true false false) := by
  refine returnsInHanded_of_change_and (C := Tryd.checked) (X := fun w _ => laidMetH Tryd.prog laid1 w) (fun _ _ _ hh h => h.of_heap hh) own started (by kernel_rfl) Tryd.func4
    (ChangeSpec.witness_shaped (enc := enc) (C := Tryd.checked) (os := os) (X := fun w _ => laidMetH Tryd.prog laid1 w) false (World.doorLaid Tryd.prog 400 os) #[.slice none 0 0, .slice none 0 0] 8 rfl (World.shaped_of_RefB (by kernel_rfl) (by kernel_rfl)) (by kernel_rfl) (by kernel_rfl) (by kernel_rfl) (door_met os _)) ?_
  intro W base args ds gs before hval0 hW _ hWt hL _
  have hval : ∀ (j : Nat) t v, Tryd.f4.params[j]? = some t → args[j]? = some v → Value.okWide Tryd.prog W .any base t v := hval0
  have hW' := hW
  obtain ⟨p, q, hA0, hV, rfl, hfz, hnd⟩ := hW
  have hA : DataW.TrodAll enc Tryd.prog W 0 (fun _ => true) true Tryd.f4.params.toList args.toList ds p := hA0
  rw [Tryd.params4] at hA hval
  obtain ⟨v0, v1, d0, d1, p0, p1, rfl, rfl, rfl, h0, h1⟩ := trodAll_two hA
  obtain ⟨rfl, rfl⟩ := trodVars_none hV
  obtain ⟨a0, r0⟩ := rd_bs (U := fun _ => False) (fun _ h => h) Tryd.underlying22 Tryd.underlying5 (by kernel_rfl) (hval 0 22 v0 rfl rfl) h0
  obtain ⟨a1, r1⟩ := rd_bs (U := fun _ => False) (fun _ h => h) Tryd.underlying22 Tryd.underlying5 (by kernel_rfl) (hval 1 22 v1 rfl rfl) h1
  refine (law_run Go.Vh.lawDraws_ok (a0, a1) trivial rfl (of_laid hL) rfl (fun i x hx => ?_)).mono fun e W' ⟨he, hb⟩ => ?_
  · match i, hx with
    | 0, hx => cases hx; exact ⟨_, rfl, r0⟩
    | 1, hx => cases hx; exact ⟨_, rfl, r1⟩
  · subst he
    exact ⟨_, rfl, law_post laidOut (by rw [Tryd.params4]; exact of_decide_eq_true (by kernel_rfl)) (by kernel_rfl) Tryd.underlying4 rfl rfl hW' hb⟩

theorem kpkeDraws_said : Rows.KpkeDrawsSaid :=
  OpenClaim.holds_of_wide 4 Tryd.f4 rfl rfl rfl rfl rfl rfl rfl ⟨rfl, rfl, rfl, rfl, rfl⟩ rfl rfl rfl rfl rfl (by kernel_rfl) Tryd.func4 (by kernel_rfl)
    (of_decide_eq_true (by kernel_rfl)) (by unfold Func.isWrapper; first | (rw [if_pos (by decide +kernel)]; kernel_rfl) | (rw [if_neg (by decide +kernel)]; exact ⟨rfl, rfl⟩))
    (fun os started H enc _ => kpkeDraws_lifted os started H enc)

theorem kpkeDraws_card : Rows.KpkeDrawsCardSaid :=
  Claim7.holds_tied_plain_at .later [] [.data, .data, .data] true (true, "c67c0aff633ed4c507a2c8775f992e10df3bfbebc11d8310177f958875f64b6b") false
    kpkeDraws_said (fun _ h => by cases h) (by kernel_rfl) (fun _ h => by cases h) kpkeDraws_row_tie rfl ⟨rfl, rfl⟩ (by kernel_rfl) rfl
    (fun f fn hf hfn => by
      obtain rfl : f = 4 := Option.some.inj ((show Tryd.prog.funcNamed "sodality/sodalitylaw05.KpkeDraws" = some 4 by kernel_rfl).symm.trans hf) |>.symm
      obtain rfl : fn = Tryd.f4 := (Option.some.inj (Tryd.func4.symm.trans hfn)).symm
      exact ⟨by kernel_rfl, fun j t ht => by
        rw [Tryd.params4] at ht
        have hm : t ∈ [22, 22] := by simpa using Array.mem_of_getElem? ht
        have hall : ([22, 22].all fun u => !Tryd.prog.wantsStandIn u) = true := by kernel_rfl
        exact (show Tryd.prog.wantsStandIn t = false by simpa using List.all_eq_true.1 hall t hm)⟩)
    (by kernel_rfl)
#print axioms kpkeDraws_card
end Go.Proofs.YthooffbjfpehhaaDoor
