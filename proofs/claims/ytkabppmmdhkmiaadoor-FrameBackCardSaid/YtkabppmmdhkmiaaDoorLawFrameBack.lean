/- What is proved: the law FrameBack answers true whatever comes in, and what came in reads as it did; conditions: those of the given row alone. -/
import Derived.Test.YtkabppmmdhkmiaaDoorCards
import Derived.Test.YtkabppmmdhkmiaaDoorTie
import Derived.Test.YtkabppmmdhkmiaaDoorWalk2
import Derived.Test.YtkabppmmdhkmiaaDoorFrame2
import Derived.SevenTiedAt
set_option linter.unusedVariables false
set_option linter.unusedSimpArgs false
set_option linter.unusedVariables false
namespace Go.Proofs.YtkabppmmdhkmiaaDoor
open Go.ChangeShapes Go.WideShapes Go.ChangeAt Go.RowKit Go.Vc

abbrev laid1 : List (String × DataW Unit) := [("sodality/wire.classes", Rows.laid_sodality_wire_classes)]
theorem own : ownKnob Tryd.prog.godebug = none := by kernel_rfl
theorem laidOut : laidOutB Tryd.prog = true := by kernel_rfl
theorem door_met (os : Os) (args : Array Value) : laidMetH Tryd.prog laid1 ((World.doorLaid Tryd.prog 400 os).forCall (fun _ _ => 0) ⟨#[], args, []⟩).memory :=
  laidMetH_of_parts3 (fuel := 8) (laidMet_of_run' 8 (by kernel_rfl) (by kernel_rfl)) (by kernel_rfl) (by kernel_rfl)
theorem gTab : Tryd.prog.globalNamed "sodality/wire.classes" = some 0 := by kernel_rfl
theorem tTab : (Tryd.prog.globals[0]?).map (·.type) = some 102 := by kernel_rfl
theorem of_laid {W : World} (h : laidMetH Tryd.prog laid1 W) : ∀ g m h, Vh.gl g = some (m, h) → ∀ j, j < m → W.cell? ⟨g, j, none⟩ = some (h j).val := by
  rw [MakeChecks.laidMetH_plain _ _ _ (by kernel_rfl)] at h
  obtain ⟨ps, ⟨g0, t0, cs0, f0, p0, q0, hg0, ht0, hv0, hd0, _, _⟩, _, _⟩ := h
  obtain rfl := Option.some.inj (gTab.symm.trans hg0)
  obtain rfl := Option.some.inj (tTab.symm.trans ht0)
  have hk := gl_ints (l := [6, 14, 30]) hg0 hv0 Tryd.underlying102 Tryd.underlying3 (by kernel_rfl) (by kernel_rfl) hd0 rfl
  intro g m h hg j hj
  unfold Vh.gl at hg
  by_cases e : g = 0
  · subst e
    rw [if_pos rfl] at hg
    simp only [Option.some.injEq, Prod.mk.injEq] at hg
    obtain ⟨rfl, rfl⟩ := hg
    exact hk j hj
  · rw [if_neg e] at hg
    cases hg

set_option maxRecDepth 100000 in
theorem frameBack_lifted (os : Os) (started : os.Started) (H : Type) (enc : TypeId × Value → H) :
    ReturnsInHanded {} Tryd.checked os 5 .any (fun w args => (Rows.frameBackSpec.pre enc Tryd.prog Tryd.f5 [] false w args ∧ laidMetH Tryd.prog laid1 w) ∧ sizedMet enc Tryd.prog Tryd.f5 (OpenSpec.ofChange Rows.frameBackSpec) false w args)
      (Rows.frameBackSpec.post enc Tryd.prog Tryd.f5 false true false false) := by
  refine returnsInHanded_of_change_and (C := Tryd.checked) (X := fun w _ => laidMetH Tryd.prog laid1 w) (fun _ _ _ hh h => h.of_heap hh) own started (by kernel_rfl) Tryd.func5
    (ChangeSpec.witness_shaped (enc := enc) (C := Tryd.checked) (os := os) (X := fun w _ => laidMetH Tryd.prog laid1 w) false (World.doorLaid Tryd.prog 400 os) #[.agg #[.slice none 0 0, .int .i64 0, .int .i64 0, .int .i64 0, .slice none 0 0, .slice none 0 0, .slice none 0 0, .slice none 0 0], .agg #[.slice none 0 0, .int .i64 0, .int .i64 0, .int .i64 0, .slice none 0 0, .slice none 0 0, .slice none 0 0, .slice none 0 0], .agg #[.slice none 0 0, .int .i64 0, .int .i64 0, .int .i64 0, .slice none 0 0], .agg #[.slice none 0 0, .int .i64 0, .int .i64 0, .int .i64 0, .slice none 0 0]] 8 rfl (World.shaped_of_RefB (by kernel_rfl) (by kernel_rfl)) (by kernel_rfl) (by kernel_rfl) (by kernel_rfl) (door_met os _)) ?_
  intro W base args ds gs before hval0 hW _ hWt hL _
  have hval : ∀ (j : Nat) t v, Tryd.f5.params[j]? = some t → args[j]? = some v → Value.okWide Tryd.prog W .any base t v := hval0
  have hW' := hW
  obtain ⟨p, q, hA0, hV, rfl, hfz, hnd⟩ := hW
  have hA : DataW.TrodAll enc Tryd.prog W 0 (fun _ => true) true Tryd.f5.params.toList args.toList ds p := hA0
  rw [Tryd.params5] at hA hval
  obtain ⟨v0, v1, v2, v3, d0, d1, d2, d3, p0, p1, p2, p3, rfl, rfl, rfl, h0, h1, h2, h3⟩ := trodAll_four hA
  obtain ⟨rfl, rfl⟩ := trodVars_none hV
  obtain ⟨cs0, rfl, sz0⟩ := Go.Vc.okWide_struct Tryd.underlying26 (hval 0 26 v0 rfl rfl)
  obtain ⟨fu0, fd0⟩ := h0
  have ln0 : (Value.agg cs0).cells.toList.length = 8 := by show cs0.toList.length = 8; rw [Array.length_toList, sz0]; kernel_rfl
  obtain ⟨m0_0, x0_0, e0_0⟩ := st_part Tryd.underlying26 fd0 (i := 0) rfl
  have ln0_0 : (List.take (Tryd.prog.cellsOf 24) (List.drop 0 (Value.agg cs0).cells.toList)).length = 5 := by rw [List.length_take, List.length_drop, ln0]; kernel_rfl
  obtain ⟨m0_0_0, x0_0_0, e0_0_0⟩ := st_part Tryd.underlying24 e0_0 (i := 0) rfl
  obtain ⟨a0_0, r0_0_0⟩ := lf_bs (U := fun _ => False) e0_0_0 (fun _ h => h) Tryd.underlying22 Tryd.underlying5 (by kernel_rfl) (by kernel_rfl) (by show 0 < List.length ((List.take (Tryd.prog.cellsOf 24) (List.drop 0 (Value.agg cs0).cells.toList))); rw [ln0_0]; decide)
  replace r0_0_0 := sub_get r0_0_0
  obtain ⟨m0_0_1, x0_0_1, e0_0_1⟩ := st_part Tryd.underlying24 e0_0 (i := 1) rfl
  obtain ⟨a0_1, w0_1, r0_0_1⟩ := lf_int (U := fun _ => False) e0_0_1 Tryd.underlying2 (by kernel_rfl) (by show 1 < List.length ((List.take (Tryd.prog.cellsOf 24) (List.drop 0 (Value.agg cs0).cells.toList))); rw [ln0_0]; decide)
  replace r0_0_1 := sub_get r0_0_1
  obtain ⟨m0_0_2, x0_0_2, e0_0_2⟩ := st_part Tryd.underlying24 e0_0 (i := 2) rfl
  obtain ⟨a0_2, w0_2, r0_0_2⟩ := lf_int (U := fun _ => False) e0_0_2 Tryd.underlying3 (by kernel_rfl) (by show 2 < List.length ((List.take (Tryd.prog.cellsOf 24) (List.drop 0 (Value.agg cs0).cells.toList))); rw [ln0_0]; decide)
  replace r0_0_2 := sub_get r0_0_2
  obtain ⟨m0_0_3, x0_0_3, e0_0_3⟩ := st_part Tryd.underlying24 e0_0 (i := 3) rfl
  obtain ⟨a0_3, w0_3, r0_0_3⟩ := lf_int (U := fun _ => False) e0_0_3 Tryd.underlying3 (by kernel_rfl) (by show 3 < List.length ((List.take (Tryd.prog.cellsOf 24) (List.drop 0 (Value.agg cs0).cells.toList))); rw [ln0_0]; decide)
  replace r0_0_3 := sub_get r0_0_3
  obtain ⟨m0_0_4, x0_0_4, e0_0_4⟩ := st_part Tryd.underlying24 e0_0 (i := 4) rfl
  obtain ⟨a0_4, r0_0_4⟩ := lf_bs (U := fun _ => False) e0_0_4 (fun _ h => h) Tryd.underlying22 Tryd.underlying5 (by kernel_rfl) (by kernel_rfl) (by show 4 < List.length ((List.take (Tryd.prog.cellsOf 24) (List.drop 0 (Value.agg cs0).cells.toList))); rw [ln0_0]; decide)
  replace r0_0_4 := sub_get r0_0_4
  obtain ⟨m0_1, x0_1, e0_1⟩ := st_part Tryd.underlying26 fd0 (i := 1) rfl
  obtain ⟨a0_5, r0_1⟩ := lf_bs (U := fun _ => False) e0_1 (fun _ h => h) Tryd.underlying22 Tryd.underlying5 (by kernel_rfl) (by kernel_rfl) (by show 5 < List.length ((Value.agg cs0).cells.toList); rw [ln0]; decide)
  obtain ⟨m0_2, x0_2, e0_2⟩ := st_part Tryd.underlying26 fd0 (i := 2) rfl
  obtain ⟨a0_6, r0_2⟩ := lf_bs (U := fun _ => False) e0_2 (fun _ h => h) Tryd.underlying22 Tryd.underlying5 (by kernel_rfl) (by kernel_rfl) (by show 6 < List.length ((Value.agg cs0).cells.toList); rw [ln0]; decide)
  obtain ⟨m0_3, x0_3, e0_3⟩ := st_part Tryd.underlying26 fd0 (i := 3) rfl
  obtain ⟨a0_7, r0_3⟩ := lf_bs (U := fun _ => False) e0_3 (fun _ h => h) Tryd.underlying22 Tryd.underlying5 (by kernel_rfl) (by kernel_rfl) (by show 7 < List.length ((Value.agg cs0).cells.toList); rw [ln0]; decide)
  have r0 := rd_agg (N := 8) (ps := [.bs a0_0, .v (.int .i64 a0_1), .v (.int .i64 a0_2), .v (.int .i64 a0_3), .bs a0_4, .bs a0_5, .bs a0_6, .bs a0_7]) (by rw [sz0]; kernel_rfl) (fun i hi => by match i, hi with | 0, _ => exact r0_0_0 | 1, _ => exact r0_0_1 | 2, _ => exact r0_0_2 | 3, _ => exact r0_0_3 | 4, _ => exact r0_0_4 | 5, _ => exact r0_1 | 6, _ => exact r0_2 | 7, _ => exact r0_3)
  obtain ⟨cs1, rfl, sz1⟩ := Go.Vc.okWide_struct Tryd.underlying26 (hval 1 26 v1 rfl rfl)
  obtain ⟨fu1, fd1⟩ := h1
  have ln1 : (Value.agg cs1).cells.toList.length = 8 := by show cs1.toList.length = 8; rw [Array.length_toList, sz1]; kernel_rfl
  obtain ⟨m1_0, x1_0, e1_0⟩ := st_part Tryd.underlying26 fd1 (i := 0) rfl
  have ln1_0 : (List.take (Tryd.prog.cellsOf 24) (List.drop 0 (Value.agg cs1).cells.toList)).length = 5 := by rw [List.length_take, List.length_drop, ln1]; kernel_rfl
  obtain ⟨m1_0_0, x1_0_0, e1_0_0⟩ := st_part Tryd.underlying24 e1_0 (i := 0) rfl
  obtain ⟨a1_0, r1_0_0⟩ := lf_bs (U := fun _ => False) e1_0_0 (fun _ h => h) Tryd.underlying22 Tryd.underlying5 (by kernel_rfl) (by kernel_rfl) (by show 0 < List.length ((List.take (Tryd.prog.cellsOf 24) (List.drop 0 (Value.agg cs1).cells.toList))); rw [ln1_0]; decide)
  replace r1_0_0 := sub_get r1_0_0
  obtain ⟨m1_0_1, x1_0_1, e1_0_1⟩ := st_part Tryd.underlying24 e1_0 (i := 1) rfl
  obtain ⟨a1_1, w1_1, r1_0_1⟩ := lf_int (U := fun _ => False) e1_0_1 Tryd.underlying2 (by kernel_rfl) (by show 1 < List.length ((List.take (Tryd.prog.cellsOf 24) (List.drop 0 (Value.agg cs1).cells.toList))); rw [ln1_0]; decide)
  replace r1_0_1 := sub_get r1_0_1
  obtain ⟨m1_0_2, x1_0_2, e1_0_2⟩ := st_part Tryd.underlying24 e1_0 (i := 2) rfl
  obtain ⟨a1_2, w1_2, r1_0_2⟩ := lf_int (U := fun _ => False) e1_0_2 Tryd.underlying3 (by kernel_rfl) (by show 2 < List.length ((List.take (Tryd.prog.cellsOf 24) (List.drop 0 (Value.agg cs1).cells.toList))); rw [ln1_0]; decide)
  replace r1_0_2 := sub_get r1_0_2
  obtain ⟨m1_0_3, x1_0_3, e1_0_3⟩ := st_part Tryd.underlying24 e1_0 (i := 3) rfl
  obtain ⟨a1_3, w1_3, r1_0_3⟩ := lf_int (U := fun _ => False) e1_0_3 Tryd.underlying3 (by kernel_rfl) (by show 3 < List.length ((List.take (Tryd.prog.cellsOf 24) (List.drop 0 (Value.agg cs1).cells.toList))); rw [ln1_0]; decide)
  replace r1_0_3 := sub_get r1_0_3
  obtain ⟨m1_0_4, x1_0_4, e1_0_4⟩ := st_part Tryd.underlying24 e1_0 (i := 4) rfl
  obtain ⟨a1_4, r1_0_4⟩ := lf_bs (U := fun _ => False) e1_0_4 (fun _ h => h) Tryd.underlying22 Tryd.underlying5 (by kernel_rfl) (by kernel_rfl) (by show 4 < List.length ((List.take (Tryd.prog.cellsOf 24) (List.drop 0 (Value.agg cs1).cells.toList))); rw [ln1_0]; decide)
  replace r1_0_4 := sub_get r1_0_4
  obtain ⟨m1_1, x1_1, e1_1⟩ := st_part Tryd.underlying26 fd1 (i := 1) rfl
  obtain ⟨a1_5, r1_1⟩ := lf_bs (U := fun _ => False) e1_1 (fun _ h => h) Tryd.underlying22 Tryd.underlying5 (by kernel_rfl) (by kernel_rfl) (by show 5 < List.length ((Value.agg cs1).cells.toList); rw [ln1]; decide)
  obtain ⟨m1_2, x1_2, e1_2⟩ := st_part Tryd.underlying26 fd1 (i := 2) rfl
  obtain ⟨a1_6, r1_2⟩ := lf_bs (U := fun _ => False) e1_2 (fun _ h => h) Tryd.underlying22 Tryd.underlying5 (by kernel_rfl) (by kernel_rfl) (by show 6 < List.length ((Value.agg cs1).cells.toList); rw [ln1]; decide)
  obtain ⟨m1_3, x1_3, e1_3⟩ := st_part Tryd.underlying26 fd1 (i := 3) rfl
  obtain ⟨a1_7, r1_3⟩ := lf_bs (U := fun _ => False) e1_3 (fun _ h => h) Tryd.underlying22 Tryd.underlying5 (by kernel_rfl) (by kernel_rfl) (by show 7 < List.length ((Value.agg cs1).cells.toList); rw [ln1]; decide)
  have r1 := rd_agg (N := 8) (ps := [.bs a1_0, .v (.int .i64 a1_1), .v (.int .i64 a1_2), .v (.int .i64 a1_3), .bs a1_4, .bs a1_5, .bs a1_6, .bs a1_7]) (by rw [sz1]; kernel_rfl) (fun i hi => by match i, hi with | 0, _ => exact r1_0_0 | 1, _ => exact r1_0_1 | 2, _ => exact r1_0_2 | 3, _ => exact r1_0_3 | 4, _ => exact r1_0_4 | 5, _ => exact r1_1 | 6, _ => exact r1_2 | 7, _ => exact r1_3)
  obtain ⟨cs2, rfl, sz2⟩ := Go.Vc.okWide_struct Tryd.underlying35 (hval 2 35 v2 rfl rfl)
  obtain ⟨fu2, fd2⟩ := h2
  have ln2 : (Value.agg cs2).cells.toList.length = 5 := by show cs2.toList.length = 5; rw [Array.length_toList, sz2]; kernel_rfl
  obtain ⟨m2_0, x2_0, e2_0⟩ := st_part Tryd.underlying35 fd2 (i := 0) rfl
  obtain ⟨a2_0, r2_0⟩ := lf_bs (U := fun _ => False) e2_0 (fun _ h => h) Tryd.underlying22 Tryd.underlying5 (by kernel_rfl) (by kernel_rfl) (by show 0 < List.length ((Value.agg cs2).cells.toList); rw [ln2]; decide)
  obtain ⟨m2_1, x2_1, e2_1⟩ := st_part Tryd.underlying35 fd2 (i := 1) rfl
  obtain ⟨a2_1, w2_1, r2_1⟩ := lf_int (U := fun _ => False) e2_1 Tryd.underlying2 (by kernel_rfl) (by show 1 < List.length ((Value.agg cs2).cells.toList); rw [ln2]; decide)
  obtain ⟨m2_2, x2_2, e2_2⟩ := st_part Tryd.underlying35 fd2 (i := 2) rfl
  obtain ⟨a2_2, w2_2, r2_2⟩ := lf_int (U := fun _ => False) e2_2 Tryd.underlying3 (by kernel_rfl) (by show 2 < List.length ((Value.agg cs2).cells.toList); rw [ln2]; decide)
  obtain ⟨m2_3, x2_3, e2_3⟩ := st_part Tryd.underlying35 fd2 (i := 3) rfl
  obtain ⟨a2_3, w2_3, r2_3⟩ := lf_int (U := fun _ => False) e2_3 Tryd.underlying2 (by kernel_rfl) (by show 3 < List.length ((Value.agg cs2).cells.toList); rw [ln2]; decide)
  obtain ⟨m2_4, x2_4, e2_4⟩ := st_part Tryd.underlying35 fd2 (i := 4) rfl
  obtain ⟨a2_4, r2_4⟩ := lf_bs (U := fun _ => False) e2_4 (fun _ h => h) Tryd.underlying22 Tryd.underlying5 (by kernel_rfl) (by kernel_rfl) (by show 4 < List.length ((Value.agg cs2).cells.toList); rw [ln2]; decide)
  have r2 := rd_agg (N := 5) (ps := [.bs a2_0, .v (.int .i64 a2_1), .v (.int .i64 a2_2), .v (.int .i64 a2_3), .bs a2_4]) (by rw [sz2]; kernel_rfl) (fun i hi => by match i, hi with | 0, _ => exact r2_0 | 1, _ => exact r2_1 | 2, _ => exact r2_2 | 3, _ => exact r2_3 | 4, _ => exact r2_4)
  obtain ⟨cs3, rfl, sz3⟩ := Go.Vc.okWide_struct Tryd.underlying35 (hval 3 35 v3 rfl rfl)
  obtain ⟨fu3, fd3⟩ := h3
  have ln3 : (Value.agg cs3).cells.toList.length = 5 := by show cs3.toList.length = 5; rw [Array.length_toList, sz3]; kernel_rfl
  obtain ⟨m3_0, x3_0, e3_0⟩ := st_part Tryd.underlying35 fd3 (i := 0) rfl
  obtain ⟨a3_0, r3_0⟩ := lf_bs (U := fun _ => False) e3_0 (fun _ h => h) Tryd.underlying22 Tryd.underlying5 (by kernel_rfl) (by kernel_rfl) (by show 0 < List.length ((Value.agg cs3).cells.toList); rw [ln3]; decide)
  obtain ⟨m3_1, x3_1, e3_1⟩ := st_part Tryd.underlying35 fd3 (i := 1) rfl
  obtain ⟨a3_1, w3_1, r3_1⟩ := lf_int (U := fun _ => False) e3_1 Tryd.underlying2 (by kernel_rfl) (by show 1 < List.length ((Value.agg cs3).cells.toList); rw [ln3]; decide)
  obtain ⟨m3_2, x3_2, e3_2⟩ := st_part Tryd.underlying35 fd3 (i := 2) rfl
  obtain ⟨a3_2, w3_2, r3_2⟩ := lf_int (U := fun _ => False) e3_2 Tryd.underlying3 (by kernel_rfl) (by show 2 < List.length ((Value.agg cs3).cells.toList); rw [ln3]; decide)
  obtain ⟨m3_3, x3_3, e3_3⟩ := st_part Tryd.underlying35 fd3 (i := 3) rfl
  obtain ⟨a3_3, w3_3, r3_3⟩ := lf_int (U := fun _ => False) e3_3 Tryd.underlying2 (by kernel_rfl) (by show 3 < List.length ((Value.agg cs3).cells.toList); rw [ln3]; decide)
  obtain ⟨m3_4, x3_4, e3_4⟩ := st_part Tryd.underlying35 fd3 (i := 4) rfl
  obtain ⟨a3_4, r3_4⟩ := lf_bs (U := fun _ => False) e3_4 (fun _ h => h) Tryd.underlying22 Tryd.underlying5 (by kernel_rfl) (by kernel_rfl) (by show 4 < List.length ((Value.agg cs3).cells.toList); rw [ln3]; decide)
  have r3 := rd_agg (N := 5) (ps := [.bs a3_0, .v (.int .i64 a3_1), .v (.int .i64 a3_2), .v (.int .i64 a3_3), .bs a3_4]) (by rw [sz3]; kernel_rfl) (fun i hi => by match i, hi with | 0, _ => exact r3_0 | 1, _ => exact r3_1 | 2, _ => exact r3_2 | 3, _ => exact r3_3 | 4, _ => exact r3_4)
  refine (law_run Go.Vh.lawBack_ok (a0_0, a0_1, a0_2, a0_3, a0_4, a0_5, a0_6, a0_7, a1_0, a1_1, a1_2, a1_3, a1_4, a1_5, a1_6, a1_7, a2_0, a2_1, a2_2, a2_3, a2_4, a3_0, a3_1, a3_2, a3_3, a3_4) trivial rfl (of_laid hL) rfl (fun i x hx => ?_)).mono fun e W' ⟨he, hb⟩ => ?_
  · match i, hx with
    | 0, hx => cases hx; exact ⟨_, rfl, r0⟩
    | 1, hx => cases hx; exact ⟨_, rfl, r1⟩
    | 2, hx => cases hx; exact ⟨_, rfl, r2⟩
    | 3, hx => cases hx; exact ⟨_, rfl, r3⟩
  · subst he
    exact ⟨_, rfl, law_post laidOut (by rw [Tryd.params5]; exact of_decide_eq_true (by kernel_rfl)) (by kernel_rfl) Tryd.underlying4 rfl rfl hW' hb⟩

theorem frameBack_said : Rows.FrameBackSaid :=
  OpenClaim.holds_of_wide 5 Tryd.f5 rfl rfl rfl rfl rfl rfl rfl ⟨rfl, rfl, rfl, rfl, rfl⟩ rfl rfl rfl rfl rfl (by kernel_rfl) Tryd.func5 (by kernel_rfl)
    (of_decide_eq_true (by kernel_rfl)) (by unfold Func.isWrapper; first | (rw [if_pos (by decide +kernel)]; kernel_rfl) | (rw [if_neg (by decide +kernel)]; exact ⟨rfl, rfl⟩))
    (fun os started H enc _ => frameBack_lifted os started H enc)

theorem frameBack_card : Rows.FrameBackCardSaid :=
  Claim7.holds_tied_plain_at .later [] [.data] true (true, "3ebc37cffedab7016c08d9363ace5a4a6b93cc0c5efbafa7227ca6e8bb339532") false
    frameBack_said (fun _ h => by cases h) (by kernel_rfl) (fun _ h => by cases h) frameBack_row_tie rfl ⟨rfl, rfl⟩ (by kernel_rfl) rfl
    (fun f fn hf hfn => by
      obtain rfl : f = 5 := Option.some.inj ((show Tryd.prog.funcNamed "sodality/sodalitylaw18.FrameBack" = some 5 by kernel_rfl).symm.trans hf) |>.symm
      obtain rfl : fn = Tryd.f5 := (Option.some.inj (Tryd.func5.symm.trans hfn)).symm
      exact ⟨by kernel_rfl, fun j t ht => by
        rw [Tryd.params5] at ht
        have hm : t ∈ [26, 26, 35, 35] := by simpa using Array.mem_of_getElem? ht
        have hall : ([26, 26, 35, 35].all fun u => !Tryd.prog.wantsStandIn u) = true := by kernel_rfl
        exact (show Tryd.prog.wantsStandIn t = false by simpa using List.all_eq_true.1 hall t hm)⟩)
    (by kernel_rfl)
#print axioms frameBack_card
end Go.Proofs.YtkabppmmdhkmiaaDoor
