/-
  DERIVED. GIVEN WITH THE SEED: THE CARDS: each row of YtkabppmmdhkmiaaDoorRows.lean that lists a variable, with what it lists TIED to the program's text (the seventh form; the later family's looks); each row that meets fmt, with fmt's text TOLD by the authors' own Lean function (tested against real Go, not proved from fmt's source: count such statements apart). THE CARD IS WHAT COUNTS. Prove the row's statement (the work); the ties are given (YtkabppmmdhkmiaaDoorTie.lean); close each card by the builder's one call (the guide's Derived/Test/ToyasCard.lean, 'card_holds'). Laid BY PROGRAM, IN A SANDBOX (cutbox-door.mjs). By AI agents, Wed Nov 11 2026. No macro, syntax, notation, axiom, sorry.
-/
import Derived.Test.YtkabppmmdhkmiaaDoorRows
import GoSem.ClaimSeven
namespace Go.Proofs.YtkabppmmdhkmiaaDoor
namespace Rows

/-- THE TIED CARD OF 'sodalitylaw18.FrameLimits'. -/
def frameLimitsCard : Claim7 := { stood := { row := frameLimitsRow, standIns := [], harness := (true, "3ebc37cffedab7016c08d9363ace5a4a6b93cc0c5efbafa7227ca6e8bb339532"), looks := false }, kinds := [], alts := [], laidByText := true, laidKinds := [.data], laidTests := true, laidLooks := .later }
def FrameLimitsCardSaid : Prop := Claim7.holds Tryd.pinned (.plain (OpenSpec.ofChange frameLimitsSpec)) frameLimitsCard

/-- THE TIED CARD OF 'sodalitylaw18.FrameSeals'. -/
def frameSealsCard : Claim7 := { stood := { row := frameSealsRow, standIns := [], harness := (true, "3ebc37cffedab7016c08d9363ace5a4a6b93cc0c5efbafa7227ca6e8bb339532"), looks := false }, kinds := [], alts := [], laidByText := true, laidKinds := [.data], laidTests := true, laidLooks := .later }
def FrameSealsCardSaid : Prop := Claim7.holds Tryd.pinned (.plain (OpenSpec.ofChange frameSealsSpec)) frameSealsCard

/-- THE TIED CARD OF 'sodalitylaw18.FrameBack'. -/
def frameBackCard : Claim7 := { stood := { row := frameBackRow, standIns := [], harness := (true, "3ebc37cffedab7016c08d9363ace5a4a6b93cc0c5efbafa7227ca6e8bb339532"), looks := false }, kinds := [], alts := [], laidByText := true, laidKinds := [.data], laidTests := true, laidLooks := .later }
def FrameBackCardSaid : Prop := Claim7.holds Tryd.pinned (.plain (OpenSpec.ofChange frameBackSpec)) frameBackCard

/-- THE TIED CARD OF 'sodalitylaw18.FrameKept'. -/
def frameKeptCard : Claim7 := { stood := { row := frameKeptRow, standIns := [], harness := (true, "3ebc37cffedab7016c08d9363ace5a4a6b93cc0c5efbafa7227ca6e8bb339532"), looks := false }, kinds := [], alts := [], laidByText := true, laidKinds := [.data], laidTests := true, laidLooks := .later }
def FrameKeptCardSaid : Prop := Claim7.holds Tryd.pinned (.plain (OpenSpec.ofChange frameKeptSpec)) frameKeptCard

/-- THE TIED CARD OF 'sodalitylaw18.FrameTags'. -/
def frameTagsCard : Claim7 := { stood := { row := frameTagsRow, standIns := [], harness := (true, "3ebc37cffedab7016c08d9363ace5a4a6b93cc0c5efbafa7227ca6e8bb339532"), looks := false }, kinds := [], alts := [], laidByText := true, laidKinds := [.data, .data], laidTests := true, laidLooks := .later }
def FrameTagsCardSaid : Prop := Claim7.holds Tryd.pinned (.plain (OpenSpec.ofChange frameTagsSpec)) frameTagsCard

/-- THE SECOND FORM's CARD OF 'sodalitylaw18.FrameLimits'. -/
def frameLimitsUptoCard : Claim7 := { stood := { row := frameLimitsUptoRow, standIns := [], harness := (true, "3ebc37cffedab7016c08d9363ace5a4a6b93cc0c5efbafa7227ca6e8bb339532"), looks := false }, kinds := [], alts := [], laidByText := true, laidKinds := [.data], laidTests := true, laidLooks := .later }
def FrameLimitsUptoCardSaid : Prop := Claim7.holds Tryd.pinned (.plain (OpenSpec.upto frameLimitsSpec)) frameLimitsUptoCard

/-- THE SECOND FORM's CARD OF 'sodalitylaw18.FrameSeals'. -/
def frameSealsUptoCard : Claim7 := { stood := { row := frameSealsUptoRow, standIns := [], harness := (true, "3ebc37cffedab7016c08d9363ace5a4a6b93cc0c5efbafa7227ca6e8bb339532"), looks := false }, kinds := [], alts := [], laidByText := true, laidKinds := [.data], laidTests := true, laidLooks := .later }
def FrameSealsUptoCardSaid : Prop := Claim7.holds Tryd.pinned (.plain (OpenSpec.upto frameSealsSpec)) frameSealsUptoCard

/-- THE SECOND FORM's CARD OF 'sodalitylaw18.FrameBack'. -/
def frameBackUptoCard : Claim7 := { stood := { row := frameBackUptoRow, standIns := [], harness := (true, "3ebc37cffedab7016c08d9363ace5a4a6b93cc0c5efbafa7227ca6e8bb339532"), looks := false }, kinds := [], alts := [], laidByText := true, laidKinds := [.data], laidTests := true, laidLooks := .later }
def FrameBackUptoCardSaid : Prop := Claim7.holds Tryd.pinned (.plain (OpenSpec.upto frameBackSpec)) frameBackUptoCard

/-- THE SECOND FORM's CARD OF 'sodalitylaw18.FrameKept'. -/
def frameKeptUptoCard : Claim7 := { stood := { row := frameKeptUptoRow, standIns := [], harness := (true, "3ebc37cffedab7016c08d9363ace5a4a6b93cc0c5efbafa7227ca6e8bb339532"), looks := false }, kinds := [], alts := [], laidByText := true, laidKinds := [.data], laidTests := true, laidLooks := .later }
def FrameKeptUptoCardSaid : Prop := Claim7.holds Tryd.pinned (.plain (OpenSpec.upto frameKeptSpec)) frameKeptUptoCard

/-- THE SECOND FORM's CARD OF 'sodalitylaw18.FrameTags'. -/
def frameTagsUptoCard : Claim7 := { stood := { row := frameTagsUptoRow, standIns := [], harness := (true, "3ebc37cffedab7016c08d9363ace5a4a6b93cc0c5efbafa7227ca6e8bb339532"), looks := false }, kinds := [], alts := [], laidByText := true, laidKinds := [.data, .data], laidTests := true, laidLooks := .later }
def FrameTagsUptoCardSaid : Prop := Claim7.holds Tryd.pinned (.plain (OpenSpec.upto frameTagsSpec)) frameTagsUptoCard
end Rows
end Go.Proofs.YtkabppmmdhkmiaaDoor
