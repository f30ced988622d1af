/- What is proved: the law FrameSeals answers true whatever comes in, and what came in reads as it did; conditions: those of the given row alone. -/
import Derived.Test.YtkabppmmdhkmiaaDoorCards
import Derived.Test.YtkabppmmdhkmiaaDoorTie
import Derived.Test.YtkabppmmdhkmiaaDoorWalk2
import Derived.Test.YtkabppmmdhkmiaaDoorFrame2
import Derived.SevenTiedAt
set_option linter.unusedVariables false
set_option linter.unusedSimpArgs false
set_option linter.unusedVariables false
namespace Go.Proofs.YtkabppmmdhkmiaaDoor
open Go.ChangeShapes Go.WideShapes Go.ChangeAt Go.RowKit Go.Vc

abbrev laid1 : List (String × DataW Unit) := [("sodality/wire.classes", Rows.laid_sodality_wire_classes)]
theorem own : ownKnob Tryd.prog.godebug = none := by kernel_rfl
theorem laidOut : laidOutB Tryd.prog = true := by kernel_rfl
theorem door_met (os : Os) (args : Array Value) : laidMetH Tryd.prog laid1 ((World.doorLaid Tryd.prog 400 os).forCall (fun _ _ => 0) ⟨#[], args, []⟩).memory :=
  laidMetH_of_parts3 (fuel := 8) (laidMet_of_run' 8 (by kernel_rfl) (by kernel_rfl)) (by kernel_rfl) (by kernel_rfl)
theorem gTab : Tryd.prog.globalNamed "sodality/wire.classes" = some 0 := by kernel_rfl
theorem tTab : (Tryd.prog.globals[0]?).map (·.type) = some 102 := by kernel_rfl
theorem of_laid {W : World} (h : laidMetH Tryd.prog laid1 W) : ∀ g m h, Vh.gl g = some (m, h) → ∀ j, j < m → W.cell? ⟨g, j, none⟩ = some (h j).val := by
  rw [MakeChecks.laidMetH_plain _ _ _ (by kernel_rfl)] at h
  obtain ⟨ps, ⟨g0, t0, cs0, f0, p0, q0, hg0, ht0, hv0, hd0, _, _⟩, _, _⟩ := h
  obtain rfl := Option.some.inj (gTab.symm.trans hg0)
  obtain rfl := Option.some.inj (tTab.symm.trans ht0)
  have hk := gl_ints (l := [6, 14, 30]) hg0 hv0 Tryd.underlying102 Tryd.underlying3 (by kernel_rfl) (by kernel_rfl) hd0 rfl
  intro g m h hg j hj
  unfold Vh.gl at hg
  by_cases e : g = 0
  · subst e
    rw [if_pos rfl] at hg
    simp only [Option.some.injEq, Prod.mk.injEq] at hg
    obtain ⟨rfl, rfl⟩ := hg
    exact hk j hj
  · rw [if_neg e] at hg
    cases hg

set_option maxRecDepth 100000 in
theorem frameSeals_lifted (os : Os) (started : os.Started) (H : Type) (enc : TypeId × Value → H) :
    ReturnsInHanded {} Tryd.checked os 4 .any (fun w args => (Rows.frameSealsSpec.pre enc Tryd.prog Tryd.f4 [] false w args ∧ laidMetH Tryd.prog laid1 w) ∧ sizedMet enc Tryd.prog Tryd.f4 (OpenSpec.ofChange Rows.frameSealsSpec) false w args)
      (Rows.frameSealsSpec.post enc Tryd.prog Tryd.f4 false true false false) := by
  refine returnsInHanded_of_change_and (C := Tryd.checked) (X := fun w _ => laidMetH Tryd.prog laid1 w) (fun _ _ _ hh h => h.of_heap hh) own started (by kernel_rfl) Tryd.func4
    (ChangeSpec.witness_shaped (enc := enc) (C := Tryd.checked) (os := os) (X := fun w _ => laidMetH Tryd.prog laid1 w) false (World.doorLaid Tryd.prog 400 os) #[.agg #[.slice none 0 0, .int .i64 0, .int .i64 0, .int .i64 0, .slice none 0 0], .slice none 0 0] 8 rfl (World.shaped_of_RefB (by kernel_rfl) (by kernel_rfl)) (by kernel_rfl) (by kernel_rfl) (by kernel_rfl) (door_met os _)) ?_
  intro W base args ds gs before hval0 hW _ hWt hL _
  have hval : ∀ (j : Nat) t v, Tryd.f4.params[j]? = some t → args[j]? = some v → Value.okWide Tryd.prog W .any base t v := hval0
  have hW' := hW
  obtain ⟨p, q, hA0, hV, rfl, hfz, hnd⟩ := hW
  have hA : DataW.TrodAll enc Tryd.prog W 0 (fun _ => true) true Tryd.f4.params.toList args.toList ds p := hA0
  rw [Tryd.params4] at hA hval
  obtain ⟨v0, v1, d0, d1, p0, p1, rfl, rfl, rfl, h0, h1⟩ := trodAll_two hA
  obtain ⟨rfl, rfl⟩ := trodVars_none hV
  obtain ⟨cs0, rfl, sz0⟩ := Go.Vc.okWide_struct Tryd.underlying35 (hval 0 35 v0 rfl rfl)
  obtain ⟨fu0, fd0⟩ := h0
  have ln0 : (Value.agg cs0).cells.toList.length = 5 := by show cs0.toList.length = 5; rw [Array.length_toList, sz0]; kernel_rfl
  obtain ⟨m0_0, x0_0, e0_0⟩ := st_part Tryd.underlying35 fd0 (i := 0) rfl
  obtain ⟨a0_0, r0_0⟩ := lf_bs (U := fun _ => False) e0_0 (fun _ h => h) Tryd.underlying22 Tryd.underlying5 (by kernel_rfl) (by kernel_rfl) (by show 0 < List.length ((Value.agg cs0).cells.toList); rw [ln0]; decide)
  obtain ⟨m0_1, x0_1, e0_1⟩ := st_part Tryd.underlying35 fd0 (i := 1) rfl
  obtain ⟨a0_1, w0_1, r0_1⟩ := lf_int (U := fun _ => False) e0_1 Tryd.underlying2 (by kernel_rfl) (by show 1 < List.length ((Value.agg cs0).cells.toList); rw [ln0]; decide)
  obtain ⟨m0_2, x0_2, e0_2⟩ := st_part Tryd.underlying35 fd0 (i := 2) rfl
  obtain ⟨a0_2, w0_2, r0_2⟩ := lf_int (U := fun _ => False) e0_2 Tryd.underlying3 (by kernel_rfl) (by show 2 < List.length ((Value.agg cs0).cells.toList); rw [ln0]; decide)
  obtain ⟨m0_3, x0_3, e0_3⟩ := st_part Tryd.underlying35 fd0 (i := 3) rfl
  obtain ⟨a0_3, w0_3, r0_3⟩ := lf_int (U := fun _ => False) e0_3 Tryd.underlying2 (by kernel_rfl) (by show 3 < List.length ((Value.agg cs0).cells.toList); rw [ln0]; decide)
  obtain ⟨m0_4, x0_4, e0_4⟩ := st_part Tryd.underlying35 fd0 (i := 4) rfl
  obtain ⟨a0_4, r0_4⟩ := lf_bs (U := fun _ => False) e0_4 (fun _ h => h) Tryd.underlying22 Tryd.underlying5 (by kernel_rfl) (by kernel_rfl) (by show 4 < List.length ((Value.agg cs0).cells.toList); rw [ln0]; decide)
  have r0 := rd_agg (N := 5) (ps := [.bs a0_0, .v (.int .i64 a0_1), .v (.int .i64 a0_2), .v (.int .i64 a0_3), .bs a0_4]) (by rw [sz0]; kernel_rfl) (fun i hi => by match i, hi with | 0, _ => exact r0_0 | 1, _ => exact r0_1 | 2, _ => exact r0_2 | 3, _ => exact r0_3 | 4, _ => exact r0_4)
  obtain ⟨a1, r1⟩ := rd_bs (U := fun _ => False) (fun _ h => h) Tryd.underlying22 Tryd.underlying5 (by kernel_rfl) (hval 1 22 v1 rfl rfl) h1
  refine (law_run Go.Vh.lawSeals_ok (a0_0, a0_1, a0_2, a0_3, a0_4, a1) trivial rfl (of_laid hL) rfl (fun i x hx => ?_)).mono fun e W' ⟨he, hb⟩ => ?_
  · match i, hx with
    | 0, hx => cases hx; exact ⟨_, rfl, r0⟩
    | 1, hx => cases hx; exact ⟨_, rfl, r1⟩
  · subst he
    exact ⟨_, rfl, law_post laidOut (by rw [Tryd.params4]; exact of_decide_eq_true (by kernel_rfl)) (by kernel_rfl) Tryd.underlying4 rfl rfl hW' hb⟩

theorem frameSeals_said : Rows.FrameSealsSaid :=
  OpenClaim.holds_of_wide 4 Tryd.f4 rfl rfl rfl rfl rfl rfl rfl ⟨rfl, rfl, rfl, rfl, rfl⟩ rfl rfl rfl rfl rfl (by kernel_rfl) Tryd.func4 (by kernel_rfl)
    (of_decide_eq_true (by kernel_rfl)) (by unfold Func.isWrapper; first | (rw [if_pos (by decide +kernel)]; kernel_rfl) | (rw [if_neg (by decide +kernel)]; exact ⟨rfl, rfl⟩))
    (fun os started H enc _ => frameSeals_lifted os started H enc)

theorem frameSeals_card : Rows.FrameSealsCardSaid :=
  Claim7.holds_tied_plain_at .later [] [.data] true (true, "3ebc37cffedab7016c08d9363ace5a4a6b93cc0c5efbafa7227ca6e8bb339532") false
    frameSeals_said (fun _ h => by cases h) (by kernel_rfl) (fun _ h => by cases h) frameSeals_row_tie rfl ⟨rfl, rfl⟩ (by kernel_rfl) rfl
    (fun f fn hf hfn => by
      obtain rfl : f = 4 := Option.some.inj ((show Tryd.prog.funcNamed "sodality/sodalitylaw18.FrameSeals" = some 4 by kernel_rfl).symm.trans hf) |>.symm
      obtain rfl : fn = Tryd.f4 := (Option.some.inj (Tryd.func4.symm.trans hfn)).symm
      exact ⟨by kernel_rfl, fun j t ht => by
        rw [Tryd.params4] at ht
        have hm : t ∈ [35, 22] := by simpa using Array.mem_of_getElem? ht
        have hall : ([35, 22].all fun u => !Tryd.prog.wantsStandIn u) = true := by kernel_rfl
        exact (show Tryd.prog.wantsStandIn t = false by simpa using List.all_eq_true.1 hall t hm)⟩)
    (by kernel_rfl)
#print axioms frameSeals_card
end Go.Proofs.YtkabppmmdhkmiaaDoor
