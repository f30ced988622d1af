/-
  DERIVED. GIVEN WITH THE SEED: THE CARDS: each row of YtnmdiehdchfelaaDoorRows.lean that lists a variable, with what it lists TIED to the program's text (the seventh form; the later family's looks); each row that meets fmt, with fmt's text TOLD by the authors' own Lean function (tested against real Go, not proved from fmt's source: count such statements apart). THE CARD IS WHAT COUNTS. Prove the row's statement (the work); the ties are given (YtnmdiehdchfelaaDoorTie.lean); close each card by the builder's one call (the guide's Derived/Test/ToyasCard.lean, 'card_holds'). Laid BY PROGRAM, IN A SANDBOX (cutbox-door.mjs). By AI agents, Wed Nov 11 2026. No macro, syntax, notation, axiom, sorry.
-/
import Derived.Test.YtnmdiehdchfelaaDoorRows
import GoSem.ClaimSeven
namespace Go.Proofs.YtnmdiehdchfelaaDoor
namespace Rows

/-- THE TIED CARD OF 'sodalitylaw03.HkdfEqual'. -/
def hkdfEqualCard : Claim7 := { stood := { row := hkdfEqualRow, standIns := [], harness := (true, "7a2076530ba92d65fe4ec3dcfbf1b7274a3447f47697fc85664380798685e97e"), looks := false }, kinds := [], alts := [], laidByText := true, laidKinds := [.data], laidTests := true, laidLooks := .later }
def HkdfEqualCardSaid : Prop := Claim7.holds Tryd.pinned (.plain (OpenSpec.ofChange hkdfEqualSpec)) hkdfEqualCard

/-- THE TIED CARD OF 'sodalitylaw03.HkdfBeginnings'. -/
def hkdfBeginningsCard : Claim7 := { stood := { row := hkdfBeginningsRow, standIns := [], harness := (true, "7a2076530ba92d65fe4ec3dcfbf1b7274a3447f47697fc85664380798685e97e"), looks := false }, kinds := [], alts := [], laidByText := true, laidKinds := [.data], laidTests := true, laidLooks := .later }
def HkdfBeginningsCardSaid : Prop := Claim7.holds Tryd.pinned (.plain (OpenSpec.ofChange hkdfBeginningsSpec)) hkdfBeginningsCard

/-- THE TIED CARD OF 'sodalitylaw03.HkdfInfos'. -/
def hkdfInfosCard : Claim7 := { stood := { row := hkdfInfosRow, standIns := [], harness := (true, "7a2076530ba92d65fe4ec3dcfbf1b7274a3447f47697fc85664380798685e97e"), looks := false }, kinds := [], alts := [], laidByText := true, laidKinds := [.data], laidTests := true, laidLooks := .later }
def HkdfInfosCardSaid : Prop := Claim7.holds Tryd.pinned (.plain (OpenSpec.ofChange hkdfInfosSpec)) hkdfInfosCard

/-- THE TIED CARD OF 'sodalitylaw03.HkdfTells'. -/
def hkdfTellsCard : Claim7 := { stood := { row := hkdfTellsRow, standIns := [], harness := (true, "7a2076530ba92d65fe4ec3dcfbf1b7274a3447f47697fc85664380798685e97e"), looks := false }, kinds := [], alts := [], laidByText := true, laidKinds := [.data], laidTests := true, laidLooks := .later }
def HkdfTellsCardSaid : Prop := Claim7.holds Tryd.pinned (.plain (OpenSpec.ofChange hkdfTellsSpec)) hkdfTellsCard

/-- THE TIED CARD OF 'sodalitylaw03.HkdfKeys'. -/
def hkdfKeysCard : Claim7 := { stood := { row := hkdfKeysRow, standIns := [], harness := (true, "7a2076530ba92d65fe4ec3dcfbf1b7274a3447f47697fc85664380798685e97e"), looks := false }, kinds := [], alts := [], laidByText := true, laidKinds := [.data], laidTests := true, laidLooks := .later }
def HkdfKeysCardSaid : Prop := Claim7.holds Tryd.pinned (.plain (OpenSpec.ofChange hkdfKeysSpec)) hkdfKeysCard

/-- THE TIED CARD OF 'sodalitylaw03.HkdfParts'. -/
def hkdfPartsCard : Claim7 := { stood := { row := hkdfPartsRow, standIns := [], harness := (true, "7a2076530ba92d65fe4ec3dcfbf1b7274a3447f47697fc85664380798685e97e"), looks := false }, kinds := [], alts := [], laidByText := true, laidKinds := [.data], laidTests := true, laidLooks := .later }
def HkdfPartsCardSaid : Prop := Claim7.holds Tryd.pinned (.plain (OpenSpec.ofChange hkdfPartsSpec)) hkdfPartsCard

/-- THE SECOND FORM's CARD OF 'sodalitylaw03.HkdfEqual'. -/
def hkdfEqualUptoCard : Claim7 := { stood := { row := hkdfEqualUptoRow, standIns := [], harness := (true, "7a2076530ba92d65fe4ec3dcfbf1b7274a3447f47697fc85664380798685e97e"), looks := false }, kinds := [], alts := [], laidByText := true, laidKinds := [.data], laidTests := true, laidLooks := .later }
def HkdfEqualUptoCardSaid : Prop := Claim7.holds Tryd.pinned (.plain (OpenSpec.upto hkdfEqualSpec)) hkdfEqualUptoCard

/-- THE SECOND FORM's CARD OF 'sodalitylaw03.HkdfBeginnings'. -/
def hkdfBeginningsUptoCard : Claim7 := { stood := { row := hkdfBeginningsUptoRow, standIns := [], harness := (true, "7a2076530ba92d65fe4ec3dcfbf1b7274a3447f47697fc85664380798685e97e"), looks := false }, kinds := [], alts := [], laidByText := true, laidKinds := [.data], laidTests := true, laidLooks := .later }
def HkdfBeginningsUptoCardSaid : Prop := Claim7.holds Tryd.pinned (.plain (OpenSpec.upto hkdfBeginningsSpec)) hkdfBeginningsUptoCard

/-- THE SECOND FORM's CARD OF 'sodalitylaw03.HkdfInfos'. -/
def hkdfInfosUptoCard : Claim7 := { stood := { row := hkdfInfosUptoRow, standIns := [], harness := (true, "7a2076530ba92d65fe4ec3dcfbf1b7274a3447f47697fc85664380798685e97e"), looks := false }, kinds := [], alts := [], laidByText := true, laidKinds := [.data], laidTests := true, laidLooks := .later }
def HkdfInfosUptoCardSaid : Prop := Claim7.holds Tryd.pinned (.plain (OpenSpec.upto hkdfInfosSpec)) hkdfInfosUptoCard

/-- THE SECOND FORM's CARD OF 'sodalitylaw03.HkdfTells'. -/
def hkdfTellsUptoCard : Claim7 := { stood := { row := hkdfTellsUptoRow, standIns := [], harness := (true, "7a2076530ba92d65fe4ec3dcfbf1b7274a3447f47697fc85664380798685e97e"), looks := false }, kinds := [], alts := [], laidByText := true, laidKinds := [.data], laidTests := true, laidLooks := .later }
def HkdfTellsUptoCardSaid : Prop := Claim7.holds Tryd.pinned (.plain (OpenSpec.upto hkdfTellsSpec)) hkdfTellsUptoCard

/-- THE SECOND FORM's CARD OF 'sodalitylaw03.HkdfKeys'. -/
def hkdfKeysUptoCard : Claim7 := { stood := { row := hkdfKeysUptoRow, standIns := [], harness := (true, "7a2076530ba92d65fe4ec3dcfbf1b7274a3447f47697fc85664380798685e97e"), looks := false }, kinds := [], alts := [], laidByText := true, laidKinds := [.data], laidTests := true, laidLooks := .later }
def HkdfKeysUptoCardSaid : Prop := Claim7.holds Tryd.pinned (.plain (OpenSpec.upto hkdfKeysSpec)) hkdfKeysUptoCard

/-- THE SECOND FORM's CARD OF 'sodalitylaw03.HkdfParts'. -/
def hkdfPartsUptoCard : Claim7 := { stood := { row := hkdfPartsUptoRow, standIns := [], harness := (true, "7a2076530ba92d65fe4ec3dcfbf1b7274a3447f47697fc85664380798685e97e"), looks := false }, kinds := [], alts := [], laidByText := true, laidKinds := [.data], laidTests := true, laidLooks := .later }
def HkdfPartsUptoCardSaid : Prop := Claim7.holds Tryd.pinned (.plain (OpenSpec.upto hkdfPartsSpec)) hkdfPartsUptoCard
end Rows
end Go.Proofs.YtnmdiehdchfelaaDoor
