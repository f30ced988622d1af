/-
  NARROWER THAN 'FOR EVERY INPUT', by the rows' own cells (each row's printed sentence says how): HubPacks: laid · HubStale: laid · HubOrder: laid · HubPlays: laid.
  DERIVED. THE GIVEN ROWS OF THIS SEAT. 4 by the template 'for every input the law returns true; each argument reads behind the call as it read before'; 0 by the template 'total and deterministic' (their statements: YtdpdgejnfhjomaaDoorTotals.lean).
  GIVEN WITH THE SEED: the statements are not yours to turn. If you find one false, say at which input.
  Laid BY PROGRAM, IN A SANDBOX (cutbox-rows.mjs): the forced cells as the released guide's own fill.sh prints them over the translation 469c2c7407d33f28… (all of the seat's roots in one cut). By AI agents, Wed Nov 11 2026. No macro, syntax, notation, axiom, sorry.
-/
import Derived.Test.YtdpdgejnfhjomaaDoorChecked
import GoSem.Claim
import GoSem.ClaimJoined
import GoSem.ClaimMapViews
import Derived.JoinedTies
import Derived.KernelRfl
namespace Go.Proofs.YtdpdgejnfhjomaaDoor
/- THE CELL 'sum', in the pinned program and in every row, IS THE sha256 OF THE DUMP (.gsa) THAT YtdpdgejnfhjomaaDoorProg.lean LOADS. Nothing in Lean hashes anything: it is a label: what it is worth is what the hold of that sum in a sandbox is worth. -/
noncomputable def Tryd.pinned : Pinned := { name := "ytdpdgejnfhjomaadoor", sum := "469c2c7407d33f2860f22daba4acf08a6a42bd123d8b7b4c27eeffbf4cd180cd", checked := Tryd.checked }
namespace Rows
def none {H : Type} : Left H := { results := [], args := [] }

/- WHAT THE LISTED PACKAGE-LEVEL VARIABLES READ AS WHEN THE CALL BEGINS. Each datum BY PROGRAM (the guide's laid-datum.mjs) off the statement by which the dump's own 'gosem.cut.vars' lays the variable. In a bare row this is a premise. The card (YtdpdgejnfhjomaaDoorCards.lean) ties it to the program's text. -/
def laid_sodality_wire_classes {H : Type} : DataW H := .agg [.lit (.int .i64 6), .lit (.int .i64 14), .lit (.int .i64 30)]

/-- 'sodalitylaw22.HubPacks': WHATEVER THE INPUT: true; the input reads as it did. -/
def hubPacksSpec : ChangeSpec := { name := "hubPacks", fn := fun _ => fun
  | [d1, d2] => { results := [.lit (.bool true)], args := [d1, d2] }
  | _ => none }
def hubPacksRow : OpenClaim := { program := "ytdpdgejnfhjomaadoor", sum := "469c2c7407d33f2860f22daba4acf08a6a42bd123d8b7b4c27eeffbf4cd180cd", func := "sodality/sodalitylaw22.HubPacks", spec := "hubPacks", unfollowed := true, recurses := true, named := ["sodality/wire.classes"], apart := false, laid := [("sodality/wire.classes", laid_sodality_wire_classes)] }
def HubPacksSaid : Prop := hubPacksRow.holds Tryd.pinned (OpenSpec.ofChange hubPacksSpec)

/-- ITS FALSE NEIGHBOUR: 'it returns false'. Refute it at one input. -/
def hubPacksWrong : ChangeSpec := { name := "hubPacks", fn := fun _ => fun
  | [d1, d2] => { results := [.lit (.bool false)], args := [d1, d2] }
  | _ => none }
def HubPacksWrongFalsely : Prop := hubPacksRow.holds Tryd.pinned (OpenSpec.ofChange hubPacksWrong)

/-- 'sodalitylaw22.HubStale': WHATEVER THE INPUT: true; the input reads as it did. -/
def hubStaleSpec : ChangeSpec := { name := "hubStale", fn := fun _ => fun
  | [d1, d2, d3] => { results := [.lit (.bool true)], args := [d1, d2, d3] }
  | _ => none }
def hubStaleRow : OpenClaim := { program := "ytdpdgejnfhjomaadoor", sum := "469c2c7407d33f2860f22daba4acf08a6a42bd123d8b7b4c27eeffbf4cd180cd", func := "sodality/sodalitylaw22.HubStale", spec := "hubStale", unfollowed := true, recurses := true, named := ["sodality/wire.classes"], apart := false, laid := [("sodality/wire.classes", laid_sodality_wire_classes)] }
def HubStaleSaid : Prop := hubStaleRow.holds Tryd.pinned (OpenSpec.ofChange hubStaleSpec)

/-- ITS FALSE NEIGHBOUR: 'it returns false'. Refute it at one input. -/
def hubStaleWrong : ChangeSpec := { name := "hubStale", fn := fun _ => fun
  | [d1, d2, d3] => { results := [.lit (.bool false)], args := [d1, d2, d3] }
  | _ => none }
def HubStaleWrongFalsely : Prop := hubStaleRow.holds Tryd.pinned (OpenSpec.ofChange hubStaleWrong)

/-- 'sodalitylaw22.HubOrder': WHATEVER THE INPUT: true; the input reads as it did. -/
def hubOrderSpec : ChangeSpec := { name := "hubOrder", fn := fun _ => fun
  | [d1, d2] => { results := [.lit (.bool true)], args := [d1, d2] }
  | _ => none }
def hubOrderRow : OpenClaim := { program := "ytdpdgejnfhjomaadoor", sum := "469c2c7407d33f2860f22daba4acf08a6a42bd123d8b7b4c27eeffbf4cd180cd", func := "sodality/sodalitylaw22.HubOrder", spec := "hubOrder", unfollowed := true, recurses := true, named := ["sodality/wire.classes"], apart := false, laid := [("sodality/wire.classes", laid_sodality_wire_classes)] }
def HubOrderSaid : Prop := hubOrderRow.holds Tryd.pinned (OpenSpec.ofChange hubOrderSpec)

/-- ITS FALSE NEIGHBOUR: 'it returns false'. Refute it at one input. -/
def hubOrderWrong : ChangeSpec := { name := "hubOrder", fn := fun _ => fun
  | [d1, d2] => { results := [.lit (.bool false)], args := [d1, d2] }
  | _ => none }
def HubOrderWrongFalsely : Prop := hubOrderRow.holds Tryd.pinned (OpenSpec.ofChange hubOrderWrong)

/-- 'sodalitylaw22.HubPlays': WHATEVER THE INPUT: true; the input reads as it did. -/
def hubPlaysSpec : ChangeSpec := { name := "hubPlays", fn := fun _ => fun
  | [d1, d2] => { results := [.lit (.bool true)], args := [d1, d2] }
  | _ => none }
def hubPlaysRow : OpenClaim := { program := "ytdpdgejnfhjomaadoor", sum := "469c2c7407d33f2860f22daba4acf08a6a42bd123d8b7b4c27eeffbf4cd180cd", func := "sodality/sodalitylaw22.HubPlays", spec := "hubPlays", unfollowed := true, recurses := true, named := ["sodality/wire.classes"], apart := false, laid := [("sodality/wire.classes", laid_sodality_wire_classes)] }
def HubPlaysSaid : Prop := hubPlaysRow.holds Tryd.pinned (OpenSpec.ofChange hubPlaysSpec)

/-- ITS FALSE NEIGHBOUR: 'it returns false'. Refute it at one input. -/
def hubPlaysWrong : ChangeSpec := { name := "hubPlays", fn := fun _ => fun
  | [d1, d2] => { results := [.lit (.bool false)], args := [d1, d2] }
  | _ => none }
def HubPlaysWrongFalsely : Prop := hubPlaysRow.holds Tryd.pinned (OpenSpec.ofChange hubPlaysWrong)

/- THE SECOND FORM. 'bulk': how many values and letters a reading holds, each counted each time it is reached (what is shared counts as often as it is met; a slice's spare places count too). A statement '..UptoSaid' is the law's where the arguments, and the package variables that the reading takes, are together of bulk at most 1048576: NARROWER than '..Said'. Prove '..Said' where nothing that the law and all that it calls make is longer than what came in: it says more and counts as full. Else prove '..UptoSaid'. A law counts once. -/
mutual
def uptoBulk {H : Type} : DataW H → Nat
  | .lit (.string bytes) => bytes.length + 1
  | .lit _ => 1
  | .nil => 1
  | .ptr d => uptoBulk d + 1
  | .slice elems spare => uptoBulkAll elems + uptoBulkAll spare + 1
  | .agg parts => uptoBulkAll parts + 1
  | .iface _ d => uptoBulk d + 1
  | .map entries => uptoBulkEntries entries + 1
  | .held _ => 1
def uptoBulkAll {H : Type} : List (DataW H) → Nat
  | [] => 0
  | d :: r => uptoBulk d + uptoBulkAll r
def uptoBulkEntries {H : Type} : List (Lit × DataW H) → Nat
  | [] => 0
  | x :: r => uptoBulkEntry x + uptoBulkEntries r
def uptoBulkEntry {H : Type} : Lit × DataW H → Nat
  | (.string bytes, d) => bytes.length + uptoBulk d + 1
  | (_, d) => uptoBulk d + 1
 end
def uptoSmall : (H : Type) → List (DataW H) → Bool := fun _ ds => decide (uptoBulkAll ds ≤ 1048576)
def OpenSpec.upto (s : _root_.Go.ChangeSpec) : _root_.Go.OpenSpec := { _root_.Go.OpenSpec.ofChange s with cond := some uptoSmall }

/-- 'sodalitylaw22.HubPacks', WHERE WHAT IT READS IS OF BULK AT MOST 1048576: true; the input reads as it did. -/
def hubPacksUptoRow : OpenClaim := { program := "ytdpdgejnfhjomaadoor", sum := "469c2c7407d33f2860f22daba4acf08a6a42bd123d8b7b4c27eeffbf4cd180cd", func := "sodality/sodalitylaw22.HubPacks", spec := "hubPacks", unfollowed := true, recurses := true, named := ["sodality/wire.classes"], apart := false, laid := [("sodality/wire.classes", laid_sodality_wire_classes)], narrowed := true }
def HubPacksUptoSaid : Prop := hubPacksUptoRow.holds Tryd.pinned (OpenSpec.upto hubPacksSpec)

/-- 'sodalitylaw22.HubStale', WHERE WHAT IT READS IS OF BULK AT MOST 1048576: true; the input reads as it did. -/
def hubStaleUptoRow : OpenClaim := { program := "ytdpdgejnfhjomaadoor", sum := "469c2c7407d33f2860f22daba4acf08a6a42bd123d8b7b4c27eeffbf4cd180cd", func := "sodality/sodalitylaw22.HubStale", spec := "hubStale", unfollowed := true, recurses := true, named := ["sodality/wire.classes"], apart := false, laid := [("sodality/wire.classes", laid_sodality_wire_classes)], narrowed := true }
def HubStaleUptoSaid : Prop := hubStaleUptoRow.holds Tryd.pinned (OpenSpec.upto hubStaleSpec)

/-- 'sodalitylaw22.HubOrder', WHERE WHAT IT READS IS OF BULK AT MOST 1048576: true; the input reads as it did. -/
def hubOrderUptoRow : OpenClaim := { program := "ytdpdgejnfhjomaadoor", sum := "469c2c7407d33f2860f22daba4acf08a6a42bd123d8b7b4c27eeffbf4cd180cd", func := "sodality/sodalitylaw22.HubOrder", spec := "hubOrder", unfollowed := true, recurses := true, named := ["sodality/wire.classes"], apart := false, laid := [("sodality/wire.classes", laid_sodality_wire_classes)], narrowed := true }
def HubOrderUptoSaid : Prop := hubOrderUptoRow.holds Tryd.pinned (OpenSpec.upto hubOrderSpec)

/-- 'sodalitylaw22.HubPlays', WHERE WHAT IT READS IS OF BULK AT MOST 1048576: true; the input reads as it did. -/
def hubPlaysUptoRow : OpenClaim := { program := "ytdpdgejnfhjomaadoor", sum := "469c2c7407d33f2860f22daba4acf08a6a42bd123d8b7b4c27eeffbf4cd180cd", func := "sodality/sodalitylaw22.HubPlays", spec := "hubPlays", unfollowed := true, recurses := true, named := ["sodality/wire.classes"], apart := false, laid := [("sodality/wire.classes", laid_sodality_wire_classes)], narrowed := true }
def HubPlaysUptoSaid : Prop := hubPlaysUptoRow.holds Tryd.pinned (OpenSpec.upto hubPlaysSpec)

end Rows
end Go.Proofs.YtdpdgejnfhjomaaDoor
