/- What is proved: the law FrameTags answers true whatever comes in, and what came in reads as it did; conditions: those of the given row alone. -/
import Derived.Test.YtkabppmmdhkmiaaDoorCards
import Derived.Test.YtkabppmmdhkmiaaDoorTie
import Derived.Test.YtkabppmmdhkmiaaDoorWalk2
import Derived.Test.YtkabppmmdhkmiaaDoorFrame2
import Derived.SevenTiedAt
set_option linter.unusedVariables false
set_option linter.unusedSimpArgs false
set_option linter.unusedVariables false
namespace Go.Proofs.YtkabppmmdhkmiaaDoor
open Go.ChangeShapes Go.WideShapes Go.ChangeAt Go.RowKit Go.Vc

abbrev laid1 : List (String × DataW Unit) := [("sodality/sha2.constants", Rows.laid_sodality_sha2_constants), ("sodality/wire.classes", Rows.laid_sodality_wire_classes)]
theorem own : ownKnob Tryd.prog.godebug = none := by kernel_rfl
theorem laidOut : laidOutB Tryd.prog = true := by kernel_rfl
theorem door_met (os : Os) (args : Array Value) : laidMetH Tryd.prog laid1 ((World.doorLaid Tryd.prog 400 os).forCall (fun _ _ => 0) ⟨#[], args, []⟩).memory :=
  laidMetH_of_parts3 (fuel := 8) (laidMet_of_run' 8 (by kernel_rfl) (by kernel_rfl)) (by kernel_rfl) (by kernel_rfl)
theorem gTab : Tryd.prog.globalNamed "sodality/sha2.constants" = some 1 := by kernel_rfl
theorem tTab : (Tryd.prog.globals[1]?).map (·.type) = some 104 := by kernel_rfl
theorem gTab2 : Tryd.prog.globalNamed "sodality/wire.classes" = some 0 := by kernel_rfl
theorem tTab2 : (Tryd.prog.globals[0]?).map (·.type) = some 102 := by kernel_rfl
theorem kmap (l : List UInt32) : ∀ j, (l.map fun x => ((x.toNat : Nat) : Int)).getD j 0 = (((l.getD j 0).toNat : Nat) : Int) := fun j => by
  simp only [List.getD_eq_getElem?_getD, List.getElem?_map]
  cases l[j]? <;> rfl
theorem of_laid {W : World} (h : laidMetH Tryd.prog laid1 W) : ∀ g m h, Vh.gl g = some (m, h) → ∀ j, j < m → W.cell? ⟨g, j, none⟩ = some (h j).val := by
  rw [MakeChecks.laidMetH_plain _ _ _ (by kernel_rfl)] at h
  obtain ⟨ps, ⟨g0, t0, cs0, f0, p0, q0, hg0, ht0, hv0, hd0, ⟨g1, t1, cs1, f1, p1, q1, hg1, ht1, hv1, hd1, _, _⟩, _⟩, _, _⟩ := h
  obtain rfl := Option.some.inj (gTab.symm.trans hg0)
  obtain rfl := Option.some.inj (tTab.symm.trans ht0)
  obtain rfl := Option.some.inj (gTab2.symm.trans hg1)
  obtain rfl := Option.some.inj (tTab2.symm.trans ht1)
  have hh := gl_ints (l := Vh.K256.map fun x => ((x.toNat : Nat) : Int)) hg0 hv0 Tryd.underlying104 Tryd.underlying96 (by kernel_rfl) (by kernel_rfl) hd0 (by kernel_rfl)
  have hk := gl_ints (l := [6, 14, 30]) hg1 hv1 Tryd.underlying102 Tryd.underlying3 (by kernel_rfl) (by kernel_rfl) hd1 rfl
  intro g m h hg j hj
  unfold Vh.gl at hg
  by_cases e : g = 1
  · subst e
    rw [if_pos rfl] at hg
    simp only [Option.some.injEq, Prod.mk.injEq] at hg
    obtain ⟨rfl, rfl⟩ := hg
    rw [hh j (by rw [List.length_map]; exact hj), kmap]
    rfl
  · rw [if_neg e] at hg
    by_cases e2 : g = 0
    · subst e2
      rw [if_pos rfl] at hg
      simp only [Option.some.injEq, Prod.mk.injEq] at hg
      obtain ⟨rfl, rfl⟩ := hg
      exact hk j hj
    · rw [if_neg e2] at hg
      cases hg

set_option maxRecDepth 100000 in
theorem frameTags_lifted (os : Os) (started : os.Started) (H : Type) (enc : TypeId × Value → H) :
    ReturnsInHanded {} Tryd.checked os 7 .any (fun w args => (Rows.frameTagsSpec.pre enc Tryd.prog Tryd.f7 [] false w args ∧ laidMetH Tryd.prog laid1 w) ∧ sizedMet enc Tryd.prog Tryd.f7 (OpenSpec.ofChange Rows.frameTagsSpec) false w args)
      (Rows.frameTagsSpec.post enc Tryd.prog Tryd.f7 false true false false) := by
  refine returnsInHanded_of_change_and (C := Tryd.checked) (X := fun w _ => laidMetH Tryd.prog laid1 w) (fun _ _ _ hh h => h.of_heap hh) own started (by kernel_rfl) Tryd.func7
    (ChangeSpec.witness_shaped (enc := enc) (C := Tryd.checked) (os := os) (X := fun w _ => laidMetH Tryd.prog laid1 w) false (World.doorLaid Tryd.prog 400 os) #[.slice none 0 0, .agg #[.slice none 0 0, .int .i64 0, .int .i64 0, .int .i64 0, .slice none 0 0, .slice none 0 0, .slice none 0 0, .slice none 0 0], .agg (Array.replicate 32 (.int .u8 0))] 8 rfl (World.shaped_of_RefB (by kernel_rfl) (by kernel_rfl)) (by kernel_rfl) (by kernel_rfl) (by kernel_rfl) (door_met os _)) ?_
  intro W base args ds gs before hval0 hW _ hWt hL _
  have hval : ∀ (j : Nat) t v, Tryd.f7.params[j]? = some t → args[j]? = some v → Value.okWide Tryd.prog W .any base t v := hval0
  have hW' := hW
  obtain ⟨p, q, hA0, hV, rfl, hfz, hnd⟩ := hW
  have hA : DataW.TrodAll enc Tryd.prog W 0 (fun _ => true) true Tryd.f7.params.toList args.toList ds p := hA0
  rw [Tryd.params7] at hA hval
  obtain ⟨v0, v1, v2, d0, d1, d2, p0, p1, p2, rfl, rfl, rfl, h0, h1, h2⟩ := trodAll_three hA
  obtain ⟨rfl, rfl⟩ := trodVars_none hV
  obtain ⟨a0, r0⟩ := rd_bs (U := fun _ => False) (fun _ h => h) Tryd.underlying22 Tryd.underlying5 (by kernel_rfl) (hval 0 22 v0 rfl rfl) h0
  obtain ⟨cs1, rfl, sz1⟩ := Go.Vc.okWide_struct Tryd.underlying26 (hval 1 26 v1 rfl rfl)
  obtain ⟨fu1, fd1⟩ := h1
  have ln1 : (Value.agg cs1).cells.toList.length = 8 := by show cs1.toList.length = 8; rw [Array.length_toList, sz1]; kernel_rfl
  obtain ⟨m1_0, x1_0, e1_0⟩ := st_part Tryd.underlying26 fd1 (i := 0) rfl
  have ln1_0 : (List.take (Tryd.prog.cellsOf 24) (List.drop 0 (Value.agg cs1).cells.toList)).length = 5 := by rw [List.length_take, List.length_drop, ln1]; kernel_rfl
  obtain ⟨m1_0_0, x1_0_0, e1_0_0⟩ := st_part Tryd.underlying24 e1_0 (i := 0) rfl
  obtain ⟨a1_0, r1_0_0⟩ := lf_bs (U := fun _ => False) e1_0_0 (fun _ h => h) Tryd.underlying22 Tryd.underlying5 (by kernel_rfl) (by kernel_rfl) (by show 0 < List.length ((List.take (Tryd.prog.cellsOf 24) (List.drop 0 (Value.agg cs1).cells.toList))); rw [ln1_0]; decide)
  replace r1_0_0 := sub_get r1_0_0
  obtain ⟨m1_0_1, x1_0_1, e1_0_1⟩ := st_part Tryd.underlying24 e1_0 (i := 1) rfl
  obtain ⟨a1_1, w1_1, r1_0_1⟩ := lf_int (U := fun _ => False) e1_0_1 Tryd.underlying2 (by kernel_rfl) (by show 1 < List.length ((List.take (Tryd.prog.cellsOf 24) (List.drop 0 (Value.agg cs1).cells.toList))); rw [ln1_0]; decide)
  replace r1_0_1 := sub_get r1_0_1
  obtain ⟨m1_0_2, x1_0_2, e1_0_2⟩ := st_part Tryd.underlying24 e1_0 (i := 2) rfl
  obtain ⟨a1_2, w1_2, r1_0_2⟩ := lf_int (U := fun _ => False) e1_0_2 Tryd.underlying3 (by kernel_rfl) (by show 2 < List.length ((List.take (Tryd.prog.cellsOf 24) (List.drop 0 (Value.agg cs1).cells.toList))); rw [ln1_0]; decide)
  replace r1_0_2 := sub_get r1_0_2
  obtain ⟨m1_0_3, x1_0_3, e1_0_3⟩ := st_part Tryd.underlying24 e1_0 (i := 3) rfl
  obtain ⟨a1_3, w1_3, r1_0_3⟩ := lf_int (U := fun _ => False) e1_0_3 Tryd.underlying3 (by kernel_rfl) (by show 3 < List.length ((List.take (Tryd.prog.cellsOf 24) (List.drop 0 (Value.agg cs1).cells.toList))); rw [ln1_0]; decide)
  replace r1_0_3 := sub_get r1_0_3
  obtain ⟨m1_0_4, x1_0_4, e1_0_4⟩ := st_part Tryd.underlying24 e1_0 (i := 4) rfl
  obtain ⟨a1_4, r1_0_4⟩ := lf_bs (U := fun _ => False) e1_0_4 (fun _ h => h) Tryd.underlying22 Tryd.underlying5 (by kernel_rfl) (by kernel_rfl) (by show 4 < List.length ((List.take (Tryd.prog.cellsOf 24) (List.drop 0 (Value.agg cs1).cells.toList))); rw [ln1_0]; decide)
  replace r1_0_4 := sub_get r1_0_4
  obtain ⟨m1_1, x1_1, e1_1⟩ := st_part Tryd.underlying26 fd1 (i := 1) rfl
  obtain ⟨a1_5, r1_1⟩ := lf_bs (U := fun _ => False) e1_1 (fun _ h => h) Tryd.underlying22 Tryd.underlying5 (by kernel_rfl) (by kernel_rfl) (by show 5 < List.length ((Value.agg cs1).cells.toList); rw [ln1]; decide)
  obtain ⟨m1_2, x1_2, e1_2⟩ := st_part Tryd.underlying26 fd1 (i := 2) rfl
  obtain ⟨a1_6, r1_2⟩ := lf_bs (U := fun _ => False) e1_2 (fun _ h => h) Tryd.underlying22 Tryd.underlying5 (by kernel_rfl) (by kernel_rfl) (by show 6 < List.length ((Value.agg cs1).cells.toList); rw [ln1]; decide)
  obtain ⟨m1_3, x1_3, e1_3⟩ := st_part Tryd.underlying26 fd1 (i := 3) rfl
  obtain ⟨a1_7, r1_3⟩ := lf_bs (U := fun _ => False) e1_3 (fun _ h => h) Tryd.underlying22 Tryd.underlying5 (by kernel_rfl) (by kernel_rfl) (by show 7 < List.length ((Value.agg cs1).cells.toList); rw [ln1]; decide)
  have r1 := rd_agg (N := 8) (ps := [.bs a1_0, .v (.int .i64 a1_1), .v (.int .i64 a1_2), .v (.int .i64 a1_3), .bs a1_4, .bs a1_5, .bs a1_6, .bs a1_7]) (by rw [sz1]; kernel_rfl) (fun i hi => by match i, hi with | 0, _ => exact r1_0_0 | 1, _ => exact r1_0_1 | 2, _ => exact r1_0_2 | 3, _ => exact r1_0_3 | 4, _ => exact r1_0_4 | 5, _ => exact r1_1 | 6, _ => exact r1_2 | 7, _ => exact r1_3)
  obtain ⟨a2, w2, r2⟩ := rd_arrB (U := fun _ => False) Tryd.underlying47 Tryd.underlying5 (by kernel_rfl) (by kernel_rfl) (hval 2 47 v2 rfl rfl) h2
  refine (law_run Go.Vh.lawTags_ok (a0, a1_0, a1_1, a1_2, a1_3, a1_4, a1_5, a1_6, a1_7, a2) w2 rfl (of_laid hL) rfl (fun i x hx => ?_)).mono fun e W' ⟨he, hb⟩ => ?_
  · match i, hx with
    | 0, hx => cases hx; exact ⟨_, rfl, r0⟩
    | 1, hx => cases hx; exact ⟨_, rfl, r1⟩
    | 2, hx => cases hx; exact ⟨_, rfl, r2⟩
  · subst he
    exact ⟨_, rfl, law_post laidOut (by rw [Tryd.params7]; exact of_decide_eq_true (by kernel_rfl)) (by kernel_rfl) Tryd.underlying4 rfl rfl hW' hb⟩

theorem frameTags_said : Rows.FrameTagsSaid :=
  OpenClaim.holds_of_wide 7 Tryd.f7 rfl rfl rfl rfl rfl rfl rfl ⟨rfl, rfl, rfl, rfl, rfl⟩ rfl rfl rfl rfl rfl (by kernel_rfl) Tryd.func7 (by kernel_rfl)
    (of_decide_eq_true (by kernel_rfl)) (by unfold Func.isWrapper; first | (rw [if_pos (by decide +kernel)]; kernel_rfl) | (rw [if_neg (by decide +kernel)]; exact ⟨rfl, rfl⟩))
    (fun os started H enc _ => frameTags_lifted os started H enc)

theorem frameTags_card : Rows.FrameTagsCardSaid :=
  Claim7.holds_tied_plain_at .later [] [.data, .data] true (true, "3ebc37cffedab7016c08d9363ace5a4a6b93cc0c5efbafa7227ca6e8bb339532") false
    frameTags_said (fun _ h => by cases h) (by kernel_rfl) (fun _ h => by cases h) frameTags_row_tie rfl ⟨rfl, rfl⟩ (by kernel_rfl) rfl
    (fun f fn hf hfn => by
      obtain rfl : f = 7 := Option.some.inj ((show Tryd.prog.funcNamed "sodality/sodalitylaw18.FrameTags" = some 7 by kernel_rfl).symm.trans hf) |>.symm
      obtain rfl : fn = Tryd.f7 := (Option.some.inj (Tryd.func7.symm.trans hfn)).symm
      exact ⟨by kernel_rfl, fun j t ht => by
        rw [Tryd.params7] at ht
        have hm : t ∈ [22, 26, 47] := by simpa using Array.mem_of_getElem? ht
        have hall : ([22, 26, 47].all fun u => !Tryd.prog.wantsStandIn u) = true := by kernel_rfl
        exact (show Tryd.prog.wantsStandIn t = false by simpa using List.all_eq_true.1 hall t hm)⟩)
    (by kernel_rfl)
#print axioms frameTags_card
end Go.Proofs.YtkabppmmdhkmiaaDoor
