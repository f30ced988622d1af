/- What is proved: the law SchedSums answers true whatever comes in, and what came in reads as it did; conditions: those of the given row alone. -/
import Derived.Test.YtmlkellnophlaaaDoorCards
import Derived.Test.YtmlkellnophlaaaDoorTie
import Derived.Test.YtmlkellnophlaaaDoorWalk2
import Derived.Test.YtmlkellnophlaaaDoorFrame2
import Derived.SevenTiedAt
set_option linter.unusedVariables false
set_option linter.unusedSimpArgs false
set_option linter.unusedVariables false
namespace Go.Proofs.YtmlkellnophlaaaDoor
open Go.ChangeShapes Go.WideShapes Go.ChangeAt Go.RowKit Go.Vc

abbrev laid1 : List (String × DataW Unit) := [("sodality/sha2.constants", Rows.laid_sodality_sha2_constants), ("sodality/wire.classes", Rows.laid_sodality_wire_classes)]
theorem own : ownKnob Tryd.prog.godebug = none := by kernel_rfl
theorem laidOut : laidOutB Tryd.prog = true := by kernel_rfl
theorem door_met (os : Os) (args : Array Value) : laidMetH Tryd.prog laid1 ((World.doorLaid Tryd.prog 400 os).forCall (fun _ _ => 0) ⟨#[], args, []⟩).memory :=
  laidMetH_of_parts3 (fuel := 8) (laidMet_of_run' 8 (by kernel_rfl) (by kernel_rfl)) (by kernel_rfl) (by kernel_rfl)
theorem gTab : Tryd.prog.globalNamed "sodality/sha2.constants" = some 0 := by kernel_rfl
theorem tTab : (Tryd.prog.globals[0]?).map (·.type) = some 70 := by kernel_rfl
theorem gTab2 : Tryd.prog.globalNamed "sodality/wire.classes" = some 1 := by kernel_rfl
theorem tTab2 : (Tryd.prog.globals[1]?).map (·.type) = some 75 := by kernel_rfl
theorem kmap (l : List UInt32) : ∀ j, (l.map fun x => ((x.toNat : Nat) : Int)).getD j 0 = (((l.getD j 0).toNat : Nat) : Int) := fun j => by
  simp only [List.getD_eq_getElem?_getD, List.getElem?_map]
  cases l[j]? <;> rfl
theorem of_laid {W : World} (h : laidMetH Tryd.prog laid1 W) : ∀ g m h, Vh.gl g = some (m, h) → ∀ j, j < m → W.cell? ⟨g, j, none⟩ = some (h j).val := by
  rw [MakeChecks.laidMetH_plain _ _ _ (by kernel_rfl)] at h
  obtain ⟨ps, ⟨g0, t0, cs0, f0, p0, q0, hg0, ht0, hv0, hd0, ⟨g1, t1, cs1, f1, p1, q1, hg1, ht1, hv1, hd1, _, _⟩, _⟩, _, _⟩ := h
  obtain rfl := Option.some.inj (gTab.symm.trans hg0)
  obtain rfl := Option.some.inj (tTab.symm.trans ht0)
  obtain rfl := Option.some.inj (gTab2.symm.trans hg1)
  obtain rfl := Option.some.inj (tTab2.symm.trans ht1)
  have hh := gl_ints (l := Vh.K256.map fun x => ((x.toNat : Nat) : Int)) hg0 hv0 Tryd.underlying70 Tryd.underlying57 (by kernel_rfl) (by kernel_rfl) hd0 (by kernel_rfl)
  have hk := gl_ints (l := [6, 14, 30]) hg1 hv1 Tryd.underlying75 Tryd.underlying3 (by kernel_rfl) (by kernel_rfl) hd1 rfl
  intro g m h hg j hj
  unfold Vh.gl at hg
  by_cases e : g = 0
  · subst e
    rw [if_pos rfl] at hg
    simp only [Option.some.injEq, Prod.mk.injEq] at hg
    obtain ⟨rfl, rfl⟩ := hg
    rw [hh j (by rw [List.length_map]; exact hj), kmap]
    rfl
  · rw [if_neg e] at hg
    by_cases e2 : g = 1
    · subst e2
      rw [if_pos rfl] at hg
      simp only [Option.some.injEq, Prod.mk.injEq] at hg
      obtain ⟨rfl, rfl⟩ := hg
      exact hk j hj
    · rw [if_neg e2] at hg
      cases hg

set_option maxRecDepth 100000 in
theorem schedSums_lifted (os : Os) (started : os.Started) (H : Type) (enc : TypeId × Value → H) :
    ReturnsInHanded {} Tryd.checked os 4 .any (fun w args => (Rows.schedSumsSpec.pre enc Tryd.prog Tryd.f4 [] false w args ∧ laidMetH Tryd.prog laid1 w) ∧ sizedMet enc Tryd.prog Tryd.f4 (OpenSpec.ofChange Rows.schedSumsSpec) false w args)
      (Rows.schedSumsSpec.post enc Tryd.prog Tryd.f4 false true false false) := by
  refine returnsInHanded_of_change_and (C := Tryd.checked) (X := fun w _ => laidMetH Tryd.prog laid1 w) (fun _ _ _ hh h => h.of_heap hh) own started (by kernel_rfl) Tryd.func4
    (ChangeSpec.witness_shaped (enc := enc) (C := Tryd.checked) (os := os) (X := fun w _ => laidMetH Tryd.prog laid1 w) false (World.doorLaid Tryd.prog 400 os) #[.slice none 0 0, .slice none 0 0, .agg #[.slice none 0 0, .slice none 0 0, .slice none 0 0, .slice none 0 0, .slice none 0 0, .slice none 0 0, .slice none 0 0], .string ⟨#[]⟩, .int .i64 0] 8 rfl (World.shaped_of_RefB (by kernel_rfl) (by kernel_rfl)) (by kernel_rfl) (by kernel_rfl) (by kernel_rfl) (door_met os _)) ?_
  intro W base args ds gs before hval0 hW _ hWt hL _
  have hval : ∀ (j : Nat) t v, Tryd.f4.params[j]? = some t → args[j]? = some v → Value.okWide Tryd.prog W .any base t v := hval0
  have hW' := hW
  obtain ⟨p, q, hA0, hV, rfl, hfz, hnd⟩ := hW
  have hA : DataW.TrodAll enc Tryd.prog W 0 (fun _ => true) true Tryd.f4.params.toList args.toList ds p := hA0
  rw [Tryd.params4] at hA hval
  obtain ⟨v0, v1, v2, v3, v4, d0, d1, d2, d3, d4, p0, p1, p2, p3, p4, rfl, rfl, rfl, h0, h1, h2, h3, h4⟩ := trodAll_five5 hA
  obtain ⟨rfl, rfl⟩ := trodVars_none hV
  obtain ⟨a0, r0⟩ := rd_bs (U := fun _ => False) (fun _ h => h) Tryd.underlying22 Tryd.underlying5 (by kernel_rfl) (hval 0 22 v0 rfl rfl) h0
  obtain ⟨a1, r1⟩ := rd_bs (U := fun _ => False) (fun _ h => h) Tryd.underlying22 Tryd.underlying5 (by kernel_rfl) (hval 1 22 v1 rfl rfl) h1
  obtain ⟨cs2, rfl, sz2⟩ := Go.Vc.okWide_struct Tryd.underlying28 (hval 2 28 v2 rfl rfl)
  obtain ⟨fu2, fd2⟩ := h2
  have ln2 : (Value.agg cs2).cells.toList.length = 7 := by show cs2.toList.length = 7; rw [Array.length_toList, sz2]; kernel_rfl
  obtain ⟨m2_0, x2_0, e2_0⟩ := st_part Tryd.underlying28 fd2 (i := 0) rfl
  obtain ⟨a2_0, r2_0⟩ := lf_bs (U := fun _ => False) e2_0 (fun _ h => h) Tryd.underlying22 Tryd.underlying5 (by kernel_rfl) (by kernel_rfl) (by rw [ln2]; decide)
  obtain ⟨m2_1, x2_1, e2_1⟩ := st_part Tryd.underlying28 fd2 (i := 1) rfl
  obtain ⟨a2_1, r2_1⟩ := lf_bs (U := fun _ => False) e2_1 (fun _ h => h) Tryd.underlying22 Tryd.underlying5 (by kernel_rfl) (by kernel_rfl) (by rw [ln2]; decide)
  obtain ⟨m2_2, x2_2, e2_2⟩ := st_part Tryd.underlying28 fd2 (i := 2) rfl
  obtain ⟨a2_2, r2_2⟩ := lf_bs (U := fun _ => False) e2_2 (fun _ h => h) Tryd.underlying22 Tryd.underlying5 (by kernel_rfl) (by kernel_rfl) (by rw [ln2]; decide)
  obtain ⟨m2_3, x2_3, e2_3⟩ := st_part Tryd.underlying28 fd2 (i := 3) rfl
  obtain ⟨a2_3, r2_3⟩ := lf_bs (U := fun _ => False) e2_3 (fun _ h => h) Tryd.underlying22 Tryd.underlying5 (by kernel_rfl) (by kernel_rfl) (by rw [ln2]; decide)
  obtain ⟨m2_4, x2_4, e2_4⟩ := st_part Tryd.underlying28 fd2 (i := 4) rfl
  obtain ⟨a2_4, r2_4⟩ := lf_bs (U := fun _ => False) e2_4 (fun _ h => h) Tryd.underlying22 Tryd.underlying5 (by kernel_rfl) (by kernel_rfl) (by rw [ln2]; decide)
  obtain ⟨m2_5, x2_5, e2_5⟩ := st_part Tryd.underlying28 fd2 (i := 5) rfl
  obtain ⟨a2_5, r2_5⟩ := lf_bs (U := fun _ => False) e2_5 (fun _ h => h) Tryd.underlying22 Tryd.underlying5 (by kernel_rfl) (by kernel_rfl) (by rw [ln2]; decide)
  obtain ⟨m2_6, x2_6, e2_6⟩ := st_part Tryd.underlying28 fd2 (i := 6) rfl
  obtain ⟨a2_6, r2_6⟩ := lf_bs (U := fun _ => False) e2_6 (fun _ h => h) Tryd.underlying22 Tryd.underlying5 (by kernel_rfl) (by kernel_rfl) (by rw [ln2]; decide)
  have r2 := rd_agg (N := 7) (ps := [.bs a2_0, .bs a2_1, .bs a2_2, .bs a2_3, .bs a2_4, .bs a2_5, .bs a2_6]) (by rw [sz2]; kernel_rfl) (fun i hi => by match i, hi with | 0, _ => exact r2_0 | 1, _ => exact r2_1 | 2, _ => exact r2_2 | 3, _ => exact r2_3 | 4, _ => exact r2_4 | 5, _ => exact r2_5 | 6, _ => exact r2_6)
  have r2 := (le_agg (g := fun j => .bs (([a2_0, a2_1, a2_2, a2_3, a2_4, a2_5, a2_6] : List (List UInt8)).getD j [])) (fun i hi => by match i, hi with | 0, _ => rfl | 1, _ => rfl | 2, _ => rfl | 3, _ => rfl | 4, _ => rfl | 5, _ => rfl | 6, _ => rfl)).rep r2
  obtain ⟨a3, r3⟩ := rd_str (U := fun _ => False) Tryd.underlying9 (hval 3 9 v3 rfl rfl) h3
  obtain ⟨a4, _, r4⟩ := rd_int (U := fun _ => False) Tryd.underlying3 (hval 4 3 v4 rfl rfl) h4
  by_cases hcs : a3.length ≤ 40
  · refine (law_run Go.Vh.lawSums1_ok (a0, a1, [a2_0, a2_1, a2_2, a2_3, a2_4, a2_5, a2_6], a3, a4) hcs rfl (of_laid hL) rfl (fun i x hx => ?_)).mono fun e W' ⟨he, hb⟩ => ?_
    · match i, hx with
      | 0, hx => cases hx; exact ⟨_, rfl, r0⟩
      | 1, hx => cases hx; exact ⟨_, rfl, r1⟩
      | 2, hx => cases hx; exact ⟨_, rfl, r2⟩
      | 3, hx => cases hx; exact ⟨_, rfl, r3⟩
      | 4, hx => cases hx; exact ⟨_, rfl, r4⟩
    · subst he
      exact ⟨_, rfl, law_post laidOut (by rw [Tryd.params4]; exact of_decide_eq_true (by kernel_rfl)) (by kernel_rfl) Tryd.underlying4 rfl rfl hW' hb⟩
  · refine (law_run Go.Vh.lawSums0_ok (a0, a1, [a2_0, a2_1, a2_2, a2_3, a2_4, a2_5, a2_6], a3, a4) (by show 40 < a3.length; omega) rfl (of_laid hL) rfl (fun i x hx => ?_)).mono fun e W' ⟨he, hb⟩ => ?_
    · match i, hx with
      | 0, hx => cases hx; exact ⟨_, rfl, r0⟩
      | 1, hx => cases hx; exact ⟨_, rfl, r1⟩
      | 2, hx => cases hx; exact ⟨_, rfl, r2⟩
      | 3, hx => cases hx; exact ⟨_, rfl, r3⟩
      | 4, hx => cases hx; exact ⟨_, rfl, r4⟩
    · subst he
      exact ⟨_, rfl, law_post laidOut (by rw [Tryd.params4]; exact of_decide_eq_true (by kernel_rfl)) (by kernel_rfl) Tryd.underlying4 rfl rfl hW' hb⟩

theorem schedSums_said : Rows.SchedSumsSaid :=
  OpenClaim.holds_of_wide 4 Tryd.f4 rfl rfl rfl rfl rfl rfl rfl ⟨rfl, rfl, rfl, rfl, rfl⟩ rfl rfl rfl rfl rfl (by kernel_rfl) Tryd.func4 (by kernel_rfl)
    (of_decide_eq_true (by kernel_rfl)) (by unfold Func.isWrapper; first | (rw [if_pos (by decide +kernel)]; kernel_rfl) | (rw [if_neg (by decide +kernel)]; exact ⟨rfl, rfl⟩))
    (fun os started H enc _ => schedSums_lifted os started H enc)

theorem schedSums_card : Rows.SchedSumsCardSaid :=
  Claim7.holds_tied_plain_at .later [] [.data, .data] true (true, "3a449ef76c068e13ef117ddf34225928544114984651af7680177c755906150b") false
    schedSums_said (fun _ h => by cases h) (by kernel_rfl) (fun _ h => by cases h) schedSums_row_tie rfl ⟨rfl, rfl⟩ (by kernel_rfl) rfl
    (fun f fn hf hfn => by
      obtain rfl : f = 4 := Option.some.inj ((show Tryd.prog.funcNamed "sodality/sodalitylaw16.SchedSums" = some 4 by kernel_rfl).symm.trans hf) |>.symm
      obtain rfl : fn = Tryd.f4 := (Option.some.inj (Tryd.func4.symm.trans hfn)).symm
      exact ⟨by kernel_rfl, fun j t ht => by
        rw [Tryd.params4] at ht
        have hm : t ∈ [22, 22, 28, 9, 3] := by simpa using Array.mem_of_getElem? ht
        have hall : ([22, 22, 28, 9, 3].all fun u => !Tryd.prog.wantsStandIn u) = true := by kernel_rfl
        exact (show Tryd.prog.wantsStandIn t = false by simpa using List.all_eq_true.1 hall t hm)⟩)
    (by kernel_rfl)
#print axioms schedSums_card
end Go.Proofs.YtmlkellnophlaaaDoor
