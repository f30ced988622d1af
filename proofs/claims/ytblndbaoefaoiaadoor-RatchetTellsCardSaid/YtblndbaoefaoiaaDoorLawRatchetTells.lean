/- What is proved: the law RatchetTells answers true whatever comes in, and what came in reads as it did; conditions: those of the given row alone. -/
import Derived.Test.YtblndbaoefaoiaaDoorCards
import Derived.Test.YtblndbaoefaoiaaDoorTie
import Derived.Test.YtblndbaoefaoiaaDoorWalk3
import Derived.Test.YtblndbaoefaoiaaDoorFrame2
import Derived.SevenTiedAt
set_option linter.unusedVariables false
set_option linter.unusedSimpArgs false
namespace Go.Proofs.YtblndbaoefaoiaaDoor
open Go.ChangeShapes Go.WideShapes Go.ChangeAt Go.RowKit Go.Vc

abbrev laid1 : List (String × DataW Unit) := [("sodality/sha2.constants", Rows.laid_sodality_sha2_constants)]
theorem own : ownKnob Tryd.prog.godebug = none := by kernel_rfl
theorem laidOut : laidOutB Tryd.prog = true := by kernel_rfl
theorem door_met (os : Os) (args : Array Value) : laidMetH Tryd.prog laid1 ((World.doorLaid Tryd.prog 400 os).forCall (fun _ _ => 0) ⟨#[], args, []⟩).memory :=
  laidMetH_of_parts3 (fuel := 8) (laidMet_of_run' 8 (by kernel_rfl) (by kernel_rfl)) (by kernel_rfl) (by kernel_rfl)
theorem gTab : Tryd.prog.globalNamed "sodality/sha2.constants" = some 0 := by kernel_rfl
theorem tTab : (Tryd.prog.globals[0]?).map (·.type) = some 90 := by kernel_rfl
theorem kmap (l : List UInt32) : ∀ j, (l.map fun x => ((x.toNat : Nat) : Int)).getD j 0 = (((l.getD j 0).toNat : Nat) : Int) := fun j => by
  simp only [List.getD_eq_getElem?_getD, List.getElem?_map]
  cases l[j]? <;> rfl
theorem of_laid {W : World} (h : laidMetH Tryd.prog laid1 W) : ∀ g m h, Vh.gl g = some (m, h) → ∀ j, j < m → W.cell? ⟨g, j, none⟩ = some (h j).val := by
  rw [MakeChecks.laidMetH_plain _ _ _ (by kernel_rfl)] at h
  obtain ⟨ps, ⟨g0, t0, cs0, f0, p0, q0, hg0, ht0, hv0, hd0, _, _⟩, _, _⟩ := h
  obtain rfl := Option.some.inj (gTab.symm.trans hg0)
  obtain rfl := Option.some.inj (tTab.symm.trans ht0)
  have hh := gl_ints (l := Vh.K256.map fun x => ((x.toNat : Nat) : Int)) hg0 hv0 Tryd.underlying90 Tryd.underlying83 (by kernel_rfl) (by kernel_rfl) hd0 (by kernel_rfl)
  intro g m h hg j hj
  unfold Vh.gl at hg
  by_cases e : g = 0
  · subst e
    rw [if_pos rfl] at hg
    simp only [Option.some.injEq, Prod.mk.injEq] at hg
    obtain ⟨rfl, rfl⟩ := hg
    rw [hh j (by rw [List.length_map]; exact hj), kmap]
    rfl
  · rw [if_neg e] at hg
    cases hg

set_option maxRecDepth 100000 in
theorem ratchetTells_lifted (os : Os) (started : os.Started) (H : Type) (enc : TypeId × Value → H) :
    ReturnsInHanded {} Tryd.checked os 6 .any (fun w args => (Rows.ratchetTellsSpec.pre enc Tryd.prog Tryd.f6 [] false w args ∧ laidMetH Tryd.prog laid1 w) ∧ sizedMet enc Tryd.prog Tryd.f6 (OpenSpec.ofChange Rows.ratchetTellsSpec) false w args)
      (Rows.ratchetTellsSpec.post enc Tryd.prog Tryd.f6 false true false false) := by
  refine returnsInHanded_of_change_and (C := Tryd.checked) (X := fun w _ => laidMetH Tryd.prog laid1 w) (fun _ _ _ hh h => h.of_heap hh) own started (by kernel_rfl) Tryd.func6
    (ChangeSpec.witness_shaped (enc := enc) (C := Tryd.checked) (os := os) (X := fun w _ => laidMetH Tryd.prog laid1 w) false (World.doorLaid Tryd.prog 400 os) #[.slice none 0 0, .int .i64 0, .int .i64 0, .agg #[.int .i64 0, .slice none 0 0, .slice none 0 0], .int .i64 0] 8 rfl (World.shaped_of_RefB (by kernel_rfl) (by kernel_rfl)) (by kernel_rfl) (by kernel_rfl) (by kernel_rfl) (door_met os _)) ?_
  intro W base args ds gs before hval0 hW _ hWt hL _
  have hval : ∀ (j : Nat) t v, Tryd.f6.params[j]? = some t → args[j]? = some v → Value.okWide Tryd.prog W .any base t v := hval0
  have hW' := hW
  obtain ⟨p, q, hA0, hV, rfl, hfz, hnd⟩ := hW
  have hA : DataW.TrodAll enc Tryd.prog W 0 (fun _ => true) true Tryd.f6.params.toList args.toList ds p := hA0
  rw [Tryd.params6] at hA hval
  obtain ⟨v0, v1, v2, v3, v4, d0, d1, d2, d3, d4, p0, p1, p2, p3, p4, rfl, rfl, rfl, h0, h1, h2, h3, h4⟩ := trodAll_five5 hA
  obtain ⟨rfl, rfl⟩ := trodVars_none hV
  obtain ⟨a0, r0⟩ := rd_bs (U := fun _ => False) (fun _ h => h) Tryd.underlying22 Tryd.underlying5 (by kernel_rfl) (hval 0 22 v0 rfl rfl) h0
  obtain ⟨a1, w1, r1⟩ := rd_int (U := fun _ => False) Tryd.underlying3 (hval 1 3 v1 rfl rfl) h1
  obtain ⟨a2, w2, r2⟩ := rd_int (U := fun _ => False) Tryd.underlying3 (hval 2 3 v2 rfl rfl) h2
  obtain ⟨cs3, rfl, sz3⟩ := Go.Vc.okWide_struct Tryd.underlying26 (hval 3 26 v3 rfl rfl)
  obtain ⟨fu3, fd3⟩ := h3
  have ln3 : (Value.agg cs3).cells.toList.length = 3 := by show cs3.toList.length = 3; rw [Array.length_toList, sz3]; kernel_rfl
  obtain ⟨m3_0, x3_0, e3_0⟩ := st_part Tryd.underlying26 fd3 (i := 0) rfl
  obtain ⟨a3_0, w3_0, r3_0⟩ := lf_int (U := fun _ => False) e3_0 Tryd.underlying2 (by kernel_rfl) (by show 0 < List.length ((Value.agg cs3).cells.toList); rw [ln3]; decide)
  obtain ⟨m3_1, x3_1, e3_1⟩ := st_part Tryd.underlying26 fd3 (i := 1) rfl
  obtain ⟨a3_1, r3_1⟩ := lf_bs (U := fun _ => False) e3_1 (fun _ h => h) Tryd.underlying22 Tryd.underlying5 (by kernel_rfl) (by kernel_rfl) (by show 1 < List.length ((Value.agg cs3).cells.toList); rw [ln3]; decide)
  obtain ⟨m3_2, x3_2, e3_2⟩ := st_part Tryd.underlying26 fd3 (i := 2) rfl
  obtain ⟨a3_2, r3_2⟩ := lf_slIB (U := fun _ => False) e3_2 (fun _ h => h) Tryd.underlying24 Tryd.underlying35 (by kernel_rfl) rfl rfl rfl rfl Tryd.underlying2 Tryd.underlying22 Tryd.underlying5 (by kernel_rfl) (by kernel_rfl) (by kernel_rfl) (by kernel_rfl) (by show 2 < List.length ((Value.agg cs3).cells.toList); rw [ln3]; decide)
  have r3 := rd_agg (N := 3) (ps := [.v (.int .i64 a3_0), .bs a3_1, .sl a3_2.length 2 (Go.Vh.kR a3_2)]) (by rw [sz3]; kernel_rfl) (fun i hi => by match i, hi with | 0, _ => exact r3_0 | 1, _ => exact r3_1 | 2, _ => exact r3_2)
  obtain ⟨a4, w4, r4⟩ := rd_int (U := fun _ => False) Tryd.underlying2 (hval 4 2 v4 rfl rfl) h4
  refine (law_run Go.Vh.lawTells_ok (a0, a1, a2, a3_0, a3_1, a3_2, a4) (by have h := w4; simp only [Lit.wf, Bool.and_eq_true, decide_eq_true_eq] at h; have e1 : IntKind.max .i64 = 9223372036854775807 := rfl; show a4 ≤ 9223372036854775807; omega) rfl (of_laid hL) rfl (fun i x hx => ?_)).mono fun e W' ⟨he, hb⟩ => ?_
  · match i, hx with
    | 0, hx => cases hx; exact ⟨_, rfl, r0⟩
    | 1, hx => cases hx; exact ⟨_, rfl, r1⟩
    | 2, hx => cases hx; exact ⟨_, rfl, r2⟩
    | 3, hx => cases hx; exact ⟨_, rfl, r3⟩
    | 4, hx => cases hx; exact ⟨_, rfl, r4⟩
  · subst he
    exact ⟨_, rfl, law_post laidOut (by rw [Tryd.params6]; exact of_decide_eq_true (by kernel_rfl)) (by kernel_rfl) Tryd.underlying4 rfl rfl hW' hb⟩

theorem ratchetTells_said : Rows.RatchetTellsSaid :=
  OpenClaim.holds_of_wide 6 Tryd.f6 rfl rfl rfl rfl rfl rfl rfl ⟨rfl, rfl, rfl, rfl, rfl⟩ rfl rfl rfl rfl rfl (by kernel_rfl) Tryd.func6 (by kernel_rfl)
    (of_decide_eq_true (by kernel_rfl)) (by unfold Func.isWrapper; first | (rw [if_pos (by decide +kernel)]; kernel_rfl) | (rw [if_neg (by decide +kernel)]; exact ⟨rfl, rfl⟩))
    (fun os started H enc _ => ratchetTells_lifted os started H enc)

theorem ratchetTells_card : Rows.RatchetTellsCardSaid :=
  Claim7.holds_tied_plain_at .later [] [.data] true (true, "aefa68786d40fcc68d187936a8b712309d44a41cbc255c6b1ad3ae12fb4beff3") false
    ratchetTells_said (fun _ h => by cases h) (by kernel_rfl) (fun _ h => by cases h) ratchetTells_row_tie rfl ⟨rfl, rfl⟩ (by kernel_rfl) rfl
    (fun f fn hf hfn => by
      obtain rfl : f = 6 := Option.some.inj ((show Tryd.prog.funcNamed "sodality/sodalitylaw17.RatchetTells" = some 6 by kernel_rfl).symm.trans hf) |>.symm
      obtain rfl : fn = Tryd.f6 := (Option.some.inj (Tryd.func6.symm.trans hfn)).symm
      exact ⟨by kernel_rfl, fun j t ht => by
        rw [Tryd.params6] at ht
        have hm : t ∈ [22, 3, 3, 26, 2] := by simpa using Array.mem_of_getElem? ht
        have hall : ([22, 3, 3, 26, 2].all fun u => !Tryd.prog.wantsStandIn u) = true := by kernel_rfl
        exact (show Tryd.prog.wantsStandIn t = false by simpa using List.all_eq_true.1 hall t hm)⟩)
    (by kernel_rfl)
#print axioms ratchetTells_card
end Go.Proofs.YtblndbaoefaoiaaDoor
