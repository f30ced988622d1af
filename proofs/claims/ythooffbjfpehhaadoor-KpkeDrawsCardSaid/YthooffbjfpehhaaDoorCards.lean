/-
  DERIVED. GIVEN WITH THE SEED: THE CARDS: each row of YthooffbjfpehhaaDoorRows.lean that lists a variable, with what it lists TIED to the program's text (the seventh form; the later family's looks); each row that meets fmt, with fmt's text TOLD by the authors' own Lean function (tested against real Go, not proved from fmt's source: count such statements apart). THE CARD IS WHAT COUNTS. Prove the row's statement (the work); the ties are given (YthooffbjfpehhaaDoorTie.lean); close each card by the builder's one call (the guide's Derived/Test/ToyasCard.lean, 'card_holds'). Laid BY PROGRAM, IN A SANDBOX (cutbox-door.mjs). By AI agents, Wed Nov 11 2026. No macro, syntax, notation, axiom, sorry.
-/
import Derived.Test.YthooffbjfpehhaaDoorRows
import GoSem.ClaimSeven
namespace Go.Proofs.YthooffbjfpehhaaDoor
namespace Rows

/-- THE TIED CARD OF 'sodalitylaw05.KpkeSmall'. -/
def kpkeSmallCard : Claim7 := { stood := { row := kpkeSmallRow, standIns := [], harness := (true, "c67c0aff633ed4c507a2c8775f992e10df3bfbebc11d8310177f958875f64b6b"), looks := false }, kinds := [], alts := [], laidByText := true, laidKinds := [.data, .data, .data], laidTests := true, laidLooks := .later }
def KpkeSmallCardSaid : Prop := Claim7.holds Tryd.pinned (.plain (OpenSpec.ofChange kpkeSmallSpec)) kpkeSmallCard

/-- THE TIED CARD OF 'sodalitylaw05.KpkeDraws'. -/
def kpkeDrawsCard : Claim7 := { stood := { row := kpkeDrawsRow, standIns := [], harness := (true, "c67c0aff633ed4c507a2c8775f992e10df3bfbebc11d8310177f958875f64b6b"), looks := false }, kinds := [], alts := [], laidByText := true, laidKinds := [.data, .data, .data], laidTests := true, laidLooks := .later }
def KpkeDrawsCardSaid : Prop := Claim7.holds Tryd.pinned (.plain (OpenSpec.ofChange kpkeDrawsSpec)) kpkeDrawsCard

/-- THE SECOND FORM's CARD OF 'sodalitylaw05.KpkeSmall'. -/
def kpkeSmallUptoCard : Claim7 := { stood := { row := kpkeSmallUptoRow, standIns := [], harness := (true, "c67c0aff633ed4c507a2c8775f992e10df3bfbebc11d8310177f958875f64b6b"), looks := false }, kinds := [], alts := [], laidByText := true, laidKinds := [.data, .data, .data], laidTests := true, laidLooks := .later }
def KpkeSmallUptoCardSaid : Prop := Claim7.holds Tryd.pinned (.plain (OpenSpec.upto kpkeSmallSpec)) kpkeSmallUptoCard

/-- THE SECOND FORM's CARD OF 'sodalitylaw05.KpkeDraws'. -/
def kpkeDrawsUptoCard : Claim7 := { stood := { row := kpkeDrawsUptoRow, standIns := [], harness := (true, "c67c0aff633ed4c507a2c8775f992e10df3bfbebc11d8310177f958875f64b6b"), looks := false }, kinds := [], alts := [], laidByText := true, laidKinds := [.data, .data, .data], laidTests := true, laidLooks := .later }
def KpkeDrawsUptoCardSaid : Prop := Claim7.holds Tryd.pinned (.plain (OpenSpec.upto kpkeDrawsSpec)) kpkeDrawsUptoCard
end Rows
end Go.Proofs.YthooffbjfpehhaaDoor
