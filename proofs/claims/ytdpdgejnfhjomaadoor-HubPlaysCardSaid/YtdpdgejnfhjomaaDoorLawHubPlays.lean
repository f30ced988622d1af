/- What is proved: the law HubPlays answers true whatever comes in, and what came in reads as it did; conditions: those of the given row alone. -/
import Derived.Test.YtdpdgejnfhjomaaDoorCards
import Derived.Test.YtdpdgejnfhjomaaDoorTie
import Derived.Test.YtdpdgejnfhjomaaDoorWalk1
import Derived.Test.YtdpdgejnfhjomaaDoorWalk3
import Derived.Test.YtdpdgejnfhjomaaDoorFrame2
import Derived.SevenTiedAt
set_option linter.unusedVariables false
set_option linter.unusedSimpArgs false
namespace Go.Proofs.YtdpdgejnfhjomaaDoor
open Go.ChangeShapes Go.WideShapes Go.ChangeAt Go.RowKit Go.Vc

abbrev laid1 : List (String × DataW Unit) := [("sodality/wire.classes", Rows.laid_sodality_wire_classes)]
theorem own : ownKnob Tryd.prog.godebug = none := by kernel_rfl
theorem laidOut : laidOutB Tryd.prog = true := by kernel_rfl
theorem door_met (os : Os) (args : Array Value) : laidMetH Tryd.prog laid1 ((World.doorLaid Tryd.prog 400 os).forCall (fun _ _ => 0) ⟨#[], args, []⟩).memory :=
  laidMetH_of_parts3 (fuel := 8) (laidMet_of_run' 8 (by kernel_rfl) (by kernel_rfl)) (by kernel_rfl) (by kernel_rfl)
theorem gTab : Tryd.prog.globalNamed "sodality/wire.classes" = some 0 := by kernel_rfl
theorem tTab : (Tryd.prog.globals[0]?).map (·.type) = some 116 := by kernel_rfl
theorem of_laid {W : World} (h : laidMetH Tryd.prog laid1 W) : ∀ g m h, Vh.gl g = some (m, h) -> ∀ j, j < m -> W.cell? ⟨g, j, none⟩ = some (h j).val := by
  rw [MakeChecks.laidMetH_plain _ _ _ (by kernel_rfl)] at h
  obtain ⟨ps, ⟨g0, t0, cs0, f0, p0, q0, hg0, ht0, hv0, hd0, _, _⟩, _, _⟩ := h
  obtain rfl := Option.some.inj (gTab.symm.trans hg0)
  obtain rfl := Option.some.inj (tTab.symm.trans ht0)
  have hk := gl_ints (l := [6, 14, 30]) hg0 hv0 Tryd.underlying116 Tryd.underlying3 (by kernel_rfl) (by kernel_rfl) hd0 rfl
  intro g m h hg j hj
  unfold Vh.gl at hg
  by_cases e : g = 0
  · subst e
    rw [if_pos rfl] at hg
    simp only [Option.some.injEq, Prod.mk.injEq] at hg
    obtain ⟨rfl, rfl⟩ := hg
    exact hk j hj
  · rw [if_neg e] at hg
    cases hg

set_option maxRecDepth 100000 in
theorem hubPlays_lifted (os : Os) (started : os.Started) (H : Type) (enc : TypeId × Value -> H) :
    ReturnsInHanded {} Tryd.checked os 6 .any (fun w args => (Rows.hubPlaysSpec.pre enc Tryd.prog Tryd.f6 [] false w args /\ laidMetH Tryd.prog laid1 w) /\ sizedMet enc Tryd.prog Tryd.f6 (OpenSpec.ofChange Rows.hubPlaysSpec) false w args)
      (Rows.hubPlaysSpec.post enc Tryd.prog Tryd.f6 false true false false) := by
  refine returnsInHanded_of_change_and (C := Tryd.checked) (X := fun w _ => laidMetH Tryd.prog laid1 w) (fun _ _ _ hh h => h.of_heap hh) own started (by kernel_rfl) Tryd.func6
    (ChangeSpec.witness_shaped (enc := enc) (C := Tryd.checked) (os := os) (X := fun w _ => laidMetH Tryd.prog laid1 w) false (World.doorLaid Tryd.prog 400 os) #[.slice none 0 0, .slice none 0 0] 8 rfl (World.shaped_of_RefB (by kernel_rfl) (by kernel_rfl)) (by kernel_rfl) (by kernel_rfl) (by kernel_rfl) (door_met os _)) ?_
  intro W base args ds gs before hval0 hW _ hWt hL _
  have hval : ∀ (j : Nat) t v, Tryd.f6.params[j]? = some t -> args[j]? = some v -> Value.okWide Tryd.prog W .any base t v := hval0
  have hW' := hW
  obtain ⟨p, q, hA0, hV, rfl, hfz, hnd⟩ := hW
  have hA : DataW.TrodAll enc Tryd.prog W 0 (fun _ => true) true Tryd.f6.params.toList args.toList ds p := hA0
  rw [Tryd.params6] at hA hval
  obtain ⟨v0, v1, d0, d1, p0, p1, rfl, rfl, rfl, h0, h1⟩ := trodAll_two hA
  obtain ⟨rfl, rfl⟩ := trodVars_none hV
  obtain ⟨a0, r0⟩ := rd_bs (U := fun _ => False) (fun _ h => h) Tryd.underlying23 Tryd.underlying5 (by kernel_rfl) (hval 0 23 v0 rfl rfl) h0
  obtain ⟨a1, r1⟩ := rd_slN (U := fun _ => False) (s := 8) (emb := fun a j => (Go.Vh.oPs a).getD j (.v undef)) (fun _ h => h) Tryd.underlying39 (by kernel_rfl) (fun n l x hl hq => by
    obtain ⟨m1e_0, x1e_0, e1e_0⟩ := st_part Tryd.underlying42 hq (i := 0) rfl
    obtain ⟨a1_0, w1_0, r1e_0⟩ := lf_int (U := fun _ => False) e1e_0 Tryd.underlying3 (by kernel_rfl) (by show 0 < List.length (l); rw [hl]; decide)
    obtain ⟨m1e_1, x1e_1, e1e_1⟩ := st_part Tryd.underlying42 hq (i := 1) rfl
    have ln1e_1 : (List.take (Tryd.prog.cellsOf 36) (List.drop 1 l)).length = 5 := by rw [List.length_take, List.length_drop, hl]; kernel_rfl
    obtain ⟨m1e_1_0, x1e_1_0, e1e_1_0⟩ := st_part Tryd.underlying36 e1e_1 (i := 0) rfl
    obtain ⟨a1_1, r1e_1_0⟩ := lf_bs (U := fun _ => False) e1e_1_0 (fun _ h => h) Tryd.underlying23 Tryd.underlying5 (by kernel_rfl) (by kernel_rfl) (by show 0 < List.length ((List.take (Tryd.prog.cellsOf 36) (List.drop 1 l))); rw [ln1e_1]; decide)
    replace r1e_1_0 := sub_get r1e_1_0
    obtain ⟨m1e_1_1, x1e_1_1, e1e_1_1⟩ := st_part Tryd.underlying36 e1e_1 (i := 1) rfl
    obtain ⟨a1_2, w1_2, r1e_1_1⟩ := lf_int (U := fun _ => False) e1e_1_1 Tryd.underlying2 (by kernel_rfl) (by show 1 < List.length ((List.take (Tryd.prog.cellsOf 36) (List.drop 1 l))); rw [ln1e_1]; decide)
    replace r1e_1_1 := sub_get r1e_1_1
    obtain ⟨m1e_1_2, x1e_1_2, e1e_1_2⟩ := st_part Tryd.underlying36 e1e_1 (i := 2) rfl
    obtain ⟨a1_3, w1_3, r1e_1_2⟩ := lf_int (U := fun _ => False) e1e_1_2 Tryd.underlying3 (by kernel_rfl) (by show 2 < List.length ((List.take (Tryd.prog.cellsOf 36) (List.drop 1 l))); rw [ln1e_1]; decide)
    replace r1e_1_2 := sub_get r1e_1_2
    obtain ⟨m1e_1_3, x1e_1_3, e1e_1_3⟩ := st_part Tryd.underlying36 e1e_1 (i := 3) rfl
    obtain ⟨a1_4, w1_4, r1e_1_3⟩ := lf_int (U := fun _ => False) e1e_1_3 Tryd.underlying3 (by kernel_rfl) (by show 3 < List.length ((List.take (Tryd.prog.cellsOf 36) (List.drop 1 l))); rw [ln1e_1]; decide)
    replace r1e_1_3 := sub_get r1e_1_3
    obtain ⟨m1e_1_4, x1e_1_4, e1e_1_4⟩ := st_part Tryd.underlying36 e1e_1 (i := 4) rfl
    obtain ⟨a1_5, r1e_1_4⟩ := lf_bs (U := fun _ => False) e1e_1_4 (fun _ h => h) Tryd.underlying23 Tryd.underlying5 (by kernel_rfl) (by kernel_rfl) (by show 4 < List.length ((List.take (Tryd.prog.cellsOf 36) (List.drop 1 l))); rw [ln1e_1]; decide)
    replace r1e_1_4 := sub_get r1e_1_4
    obtain ⟨m1e_2, x1e_2, e1e_2⟩ := st_part Tryd.underlying42 hq (i := 2) rfl
    obtain ⟨a1_6, r1e_2⟩ := lf_bs (U := fun _ => False) e1e_2 (fun _ h => h) Tryd.underlying23 Tryd.underlying5 (by kernel_rfl) (by kernel_rfl) (by show 6 < List.length (l); rw [hl]; decide)
    obtain ⟨m1e_3, x1e_3, e1e_3⟩ := st_part Tryd.underlying42 hq (i := 3) rfl
    obtain ⟨a1_7, w1_7, r1e_3⟩ := lf_int (U := fun _ => False) e1e_3 Tryd.underlying3 (by kernel_rfl) (by show 7 < List.length (l); rw [hl]; decide)
    exact ⟨(a1_0, a1_1, a1_2, a1_3, a1_4, a1_5, a1_6, a1_7), fun j hj => by match j, hj with | 0, _ => exact r1e_0 | 1, _ => exact r1e_1_0 | 2, _ => exact r1e_1_1 | 3, _ => exact r1e_1_2 | 4, _ => exact r1e_1_3 | 5, _ => exact r1e_1_4 | 6, _ => exact r1e_2 | 7, _ => exact r1e_3⟩) (hval 1 39 v1 rfl rfl) h1
  by_cases hcs : 0 < a0.length /\ a0.length <= 32
  · refine (law_run Go.Vh.lawPlays1_ok (a0, a1) hcs rfl (of_laid hL) rfl (fun i x hx => ?_)).mono fun e W' ⟨he, hb⟩ => ?_
    · match i, hx with
      | 0, hx => cases hx; exact ⟨_, rfl, r0⟩
      | 1, hx => cases hx; exact ⟨_, rfl, r1⟩
    · subst he
      exact ⟨_, rfl, law_post laidOut (by rw [Tryd.params6]; exact of_decide_eq_true (by kernel_rfl)) (by kernel_rfl) Tryd.underlying4 rfl rfl hW' hb⟩
  · refine (law_run Go.Vh.lawPlays0_ok (a0, a1) hcs rfl (of_laid hL) rfl (fun i x hx => ?_)).mono fun e W' ⟨he, hb⟩ => ?_
    · match i, hx with
      | 0, hx => cases hx; exact ⟨_, rfl, r0⟩
      | 1, hx => cases hx; exact ⟨_, rfl, r1⟩
    · subst he
      exact ⟨_, rfl, law_post laidOut (by rw [Tryd.params6]; exact of_decide_eq_true (by kernel_rfl)) (by kernel_rfl) Tryd.underlying4 rfl rfl hW' hb⟩

theorem hubPlays_said : Rows.HubPlaysSaid :=
  OpenClaim.holds_of_wide 6 Tryd.f6 rfl rfl rfl rfl rfl rfl rfl ⟨rfl, rfl, rfl, rfl, rfl⟩ rfl rfl rfl rfl rfl (by kernel_rfl) Tryd.func6 (by kernel_rfl)
    (of_decide_eq_true (by kernel_rfl)) (by unfold Func.isWrapper; first | (rw [if_pos (by decide +kernel)]; kernel_rfl) | (rw [if_neg (by decide +kernel)]; exact ⟨rfl, rfl⟩))
    (fun os started H enc _ => hubPlays_lifted os started H enc)

theorem hubPlays_card : Rows.HubPlaysCardSaid :=
  Claim7.holds_tied_plain_at .later [] [.data] true (true, "be99ef1ce38322a9d9710c496ecdca00432f0d7ecebe1e4670e4c51304c68d4c") false
    hubPlays_said (fun _ h => by cases h) (by kernel_rfl) (fun _ h => by cases h) hubPlays_row_tie rfl ⟨rfl, rfl⟩ (by kernel_rfl) rfl
    (fun f fn hf hfn => by
      obtain rfl : f = 6 := Option.some.inj ((show Tryd.prog.funcNamed "sodality/sodalitylaw22.HubPlays" = some 6 by kernel_rfl).symm.trans hf) |>.symm
      obtain rfl : fn = Tryd.f6 := (Option.some.inj (Tryd.func6.symm.trans hfn)).symm
      exact ⟨by kernel_rfl, fun j t ht => by
        rw [Tryd.params6] at ht
        have hm : t ∈ [23, 39] := by simpa using Array.mem_of_getElem? ht
        have hall : ([23, 39].all fun u => !Tryd.prog.wantsStandIn u) = true := by kernel_rfl
        exact (show Tryd.prog.wantsStandIn t = false by simpa using List.all_eq_true.1 hall t hm)⟩)
    (by kernel_rfl)
#print axioms hubPlays_card
end Go.Proofs.YtdpdgejnfhjomaaDoor
