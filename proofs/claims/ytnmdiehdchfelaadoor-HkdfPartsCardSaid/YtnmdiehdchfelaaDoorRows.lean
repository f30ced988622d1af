/-
  NARROWER THAN 'FOR EVERY INPUT', by the rows' own cells (each row's printed sentence says how): HkdfEqual: laid · HkdfBeginnings: laid · HkdfInfos: laid · HkdfTells: laid · HkdfKeys: laid · HkdfParts: laid.
  DERIVED. THE GIVEN ROWS OF THIS SEAT. 6 by the template 'for every input the law returns true; each argument reads behind the call as it read before'; 0 by the template 'total and deterministic' (their statements: YtnmdiehdchfelaaDoorTotals.lean).
  GIVEN WITH THE SEED: the statements are not yours to turn. If you find one false, say at which input.
  Laid BY PROGRAM, IN A SANDBOX (cutbox-rows.mjs): the forced cells as the released guide's own fill.sh prints them over the translation 10c177fa8d906584… (all of the seat's roots in one cut). By AI agents, Wed Nov 11 2026. No macro, syntax, notation, axiom, sorry.
-/
import Derived.Test.YtnmdiehdchfelaaDoorChecked
import GoSem.Claim
import GoSem.ClaimJoined
import GoSem.ClaimMapViews
import Derived.JoinedTies
import Derived.KernelRfl
namespace Go.Proofs.YtnmdiehdchfelaaDoor
/- THE CELL 'sum', in the pinned program and in every row, IS THE sha256 OF THE DUMP (.gsa) THAT YtnmdiehdchfelaaDoorProg.lean LOADS. Nothing in Lean hashes anything: it is a label: what it is worth is what the hold of that sum in a sandbox is worth. -/
noncomputable def Tryd.pinned : Pinned := { name := "ytnmdiehdchfelaadoor", sum := "10c177fa8d9065848215ecde49c1a853cc939b6fc8f7df5d424b0b17248e7a23", checked := Tryd.checked }
namespace Rows
def none {H : Type} : Left H := { results := [], args := [] }

/- WHAT THE LISTED PACKAGE-LEVEL VARIABLES READ AS WHEN THE CALL BEGINS. Each datum BY PROGRAM (the guide's laid-datum.mjs) off the statement by which the dump's own 'gosem.cut.vars' lays the variable. In a bare row this is a premise. The card (YtnmdiehdchfelaaDoorCards.lean) ties it to the program's text. -/
def laid_sodality_sha2_constants {H : Type} : DataW H := .agg [.lit (.int .u32 1116352408), .lit (.int .u32 1899447441), .lit (.int .u32 3049323471), .lit (.int .u32 3921009573), .lit (.int .u32 961987163), .lit (.int .u32 1508970993), .lit (.int .u32 2453635748), .lit (.int .u32 2870763221), .lit (.int .u32 3624381080), .lit (.int .u32 310598401), .lit (.int .u32 607225278), .lit (.int .u32 1426881987), .lit (.int .u32 1925078388), .lit (.int .u32 2162078206), .lit (.int .u32 2614888103), .lit (.int .u32 3248222580), .lit (.int .u32 3835390401), .lit (.int .u32 4022224774), .lit (.int .u32 264347078), .lit (.int .u32 604807628), .lit (.int .u32 770255983), .lit (.int .u32 1249150122), .lit (.int .u32 1555081692), .lit (.int .u32 1996064986), .lit (.int .u32 2554220882), .lit (.int .u32 2821834349), .lit (.int .u32 2952996808), .lit (.int .u32 3210313671), .lit (.int .u32 3336571891), .lit (.int .u32 3584528711), .lit (.int .u32 113926993), .lit (.int .u32 338241895), .lit (.int .u32 666307205), .lit (.int .u32 773529912), .lit (.int .u32 1294757372), .lit (.int .u32 1396182291), .lit (.int .u32 1695183700), .lit (.int .u32 1986661051), .lit (.int .u32 2177026350), .lit (.int .u32 2456956037), .lit (.int .u32 2730485921), .lit (.int .u32 2820302411), .lit (.int .u32 3259730800), .lit (.int .u32 3345764771), .lit (.int .u32 3516065817), .lit (.int .u32 3600352804), .lit (.int .u32 4094571909), .lit (.int .u32 275423344), .lit (.int .u32 430227734), .lit (.int .u32 506948616), .lit (.int .u32 659060556), .lit (.int .u32 883997877), .lit (.int .u32 958139571), .lit (.int .u32 1322822218), .lit (.int .u32 1537002063), .lit (.int .u32 1747873779), .lit (.int .u32 1955562222), .lit (.int .u32 2024104815), .lit (.int .u32 2227730452), .lit (.int .u32 2361852424), .lit (.int .u32 2428436474), .lit (.int .u32 2756734187), .lit (.int .u32 3204031479), .lit (.int .u32 3329325298)]

/-- 'sodalitylaw03.HkdfEqual': WHATEVER THE INPUT: true; the input reads as it did. -/
def hkdfEqualSpec : ChangeSpec := { name := "hkdfEqual", fn := fun _ => fun
  | [d1, d2, d3, d4] => { results := [.lit (.bool true)], args := [d1, d2, d3, d4] }
  | _ => none }
def hkdfEqualRow : OpenClaim := { program := "ytnmdiehdchfelaadoor", sum := "10c177fa8d9065848215ecde49c1a853cc939b6fc8f7df5d424b0b17248e7a23", func := "sodality/sodalitylaw03.HkdfEqual", spec := "hkdfEqual", unfollowed := true, recurses := true, named := ["sodality/sha2.constants"], apart := false, laid := [("sodality/sha2.constants", laid_sodality_sha2_constants)] }
def HkdfEqualSaid : Prop := hkdfEqualRow.holds Tryd.pinned (OpenSpec.ofChange hkdfEqualSpec)

/-- ITS FALSE NEIGHBOUR: 'it returns false'. Refute it at one input. -/
def hkdfEqualWrong : ChangeSpec := { name := "hkdfEqual", fn := fun _ => fun
  | [d1, d2, d3, d4] => { results := [.lit (.bool false)], args := [d1, d2, d3, d4] }
  | _ => none }
def HkdfEqualWrongFalsely : Prop := hkdfEqualRow.holds Tryd.pinned (OpenSpec.ofChange hkdfEqualWrong)

/-- 'sodalitylaw03.HkdfBeginnings': WHATEVER THE INPUT: true; the input reads as it did. -/
def hkdfBeginningsSpec : ChangeSpec := { name := "hkdfBeginnings", fn := fun _ => fun
  | [d1, d2, d3, d4] => { results := [.lit (.bool true)], args := [d1, d2, d3, d4] }
  | _ => none }
def hkdfBeginningsRow : OpenClaim := { program := "ytnmdiehdchfelaadoor", sum := "10c177fa8d9065848215ecde49c1a853cc939b6fc8f7df5d424b0b17248e7a23", func := "sodality/sodalitylaw03.HkdfBeginnings", spec := "hkdfBeginnings", unfollowed := true, recurses := true, named := ["sodality/sha2.constants"], apart := false, laid := [("sodality/sha2.constants", laid_sodality_sha2_constants)] }
def HkdfBeginningsSaid : Prop := hkdfBeginningsRow.holds Tryd.pinned (OpenSpec.ofChange hkdfBeginningsSpec)

/-- ITS FALSE NEIGHBOUR: 'it returns false'. Refute it at one input. -/
def hkdfBeginningsWrong : ChangeSpec := { name := "hkdfBeginnings", fn := fun _ => fun
  | [d1, d2, d3, d4] => { results := [.lit (.bool false)], args := [d1, d2, d3, d4] }
  | _ => none }
def HkdfBeginningsWrongFalsely : Prop := hkdfBeginningsRow.holds Tryd.pinned (OpenSpec.ofChange hkdfBeginningsWrong)

/-- 'sodalitylaw03.HkdfInfos': WHATEVER THE INPUT: true; the input reads as it did. -/
def hkdfInfosSpec : ChangeSpec := { name := "hkdfInfos", fn := fun _ => fun
  | [d1, d2, d3, d4, d5, d6, d7] => { results := [.lit (.bool true)], args := [d1, d2, d3, d4, d5, d6, d7] }
  | _ => none }
def hkdfInfosRow : OpenClaim := { program := "ytnmdiehdchfelaadoor", sum := "10c177fa8d9065848215ecde49c1a853cc939b6fc8f7df5d424b0b17248e7a23", func := "sodality/sodalitylaw03.HkdfInfos", spec := "hkdfInfos", unfollowed := true, recurses := true, named := ["sodality/sha2.constants"], apart := false, laid := [("sodality/sha2.constants", laid_sodality_sha2_constants)] }
def HkdfInfosSaid : Prop := hkdfInfosRow.holds Tryd.pinned (OpenSpec.ofChange hkdfInfosSpec)

/-- ITS FALSE NEIGHBOUR: 'it returns false'. Refute it at one input. -/
def hkdfInfosWrong : ChangeSpec := { name := "hkdfInfos", fn := fun _ => fun
  | [d1, d2, d3, d4, d5, d6, d7] => { results := [.lit (.bool false)], args := [d1, d2, d3, d4, d5, d6, d7] }
  | _ => none }
def HkdfInfosWrongFalsely : Prop := hkdfInfosRow.holds Tryd.pinned (OpenSpec.ofChange hkdfInfosWrong)

/-- 'sodalitylaw03.HkdfTells': WHATEVER THE INPUT: true; the input reads as it did. -/
def hkdfTellsSpec : ChangeSpec := { name := "hkdfTells", fn := fun _ => fun
  | [d1, d2, d3, d4] => { results := [.lit (.bool true)], args := [d1, d2, d3, d4] }
  | _ => none }
def hkdfTellsRow : OpenClaim := { program := "ytnmdiehdchfelaadoor", sum := "10c177fa8d9065848215ecde49c1a853cc939b6fc8f7df5d424b0b17248e7a23", func := "sodality/sodalitylaw03.HkdfTells", spec := "hkdfTells", unfollowed := true, recurses := true, named := ["sodality/sha2.constants"], apart := false, laid := [("sodality/sha2.constants", laid_sodality_sha2_constants)] }
def HkdfTellsSaid : Prop := hkdfTellsRow.holds Tryd.pinned (OpenSpec.ofChange hkdfTellsSpec)

/-- ITS FALSE NEIGHBOUR: 'it returns false'. Refute it at one input. -/
def hkdfTellsWrong : ChangeSpec := { name := "hkdfTells", fn := fun _ => fun
  | [d1, d2, d3, d4] => { results := [.lit (.bool false)], args := [d1, d2, d3, d4] }
  | _ => none }
def HkdfTellsWrongFalsely : Prop := hkdfTellsRow.holds Tryd.pinned (OpenSpec.ofChange hkdfTellsWrong)

/-- 'sodalitylaw03.HkdfKeys': WHATEVER THE INPUT: true; the input reads as it did. -/
def hkdfKeysSpec : ChangeSpec := { name := "hkdfKeys", fn := fun _ => fun
  | [d1, d2, d3] => { results := [.lit (.bool true)], args := [d1, d2, d3] }
  | _ => none }
def hkdfKeysRow : OpenClaim := { program := "ytnmdiehdchfelaadoor", sum := "10c177fa8d9065848215ecde49c1a853cc939b6fc8f7df5d424b0b17248e7a23", func := "sodality/sodalitylaw03.HkdfKeys", spec := "hkdfKeys", unfollowed := true, recurses := true, named := ["sodality/sha2.constants"], apart := false, laid := [("sodality/sha2.constants", laid_sodality_sha2_constants)] }
def HkdfKeysSaid : Prop := hkdfKeysRow.holds Tryd.pinned (OpenSpec.ofChange hkdfKeysSpec)

/-- ITS FALSE NEIGHBOUR: 'it returns false'. Refute it at one input. -/
def hkdfKeysWrong : ChangeSpec := { name := "hkdfKeys", fn := fun _ => fun
  | [d1, d2, d3] => { results := [.lit (.bool false)], args := [d1, d2, d3] }
  | _ => none }
def HkdfKeysWrongFalsely : Prop := hkdfKeysRow.holds Tryd.pinned (OpenSpec.ofChange hkdfKeysWrong)

/-- 'sodalitylaw03.HkdfParts': WHATEVER THE INPUT: true; the input reads as it did. -/
def hkdfPartsSpec : ChangeSpec := { name := "hkdfParts", fn := fun _ => fun
  | [d1, d2] => { results := [.lit (.bool true)], args := [d1, d2] }
  | _ => none }
def hkdfPartsRow : OpenClaim := { program := "ytnmdiehdchfelaadoor", sum := "10c177fa8d9065848215ecde49c1a853cc939b6fc8f7df5d424b0b17248e7a23", func := "sodality/sodalitylaw03.HkdfParts", spec := "hkdfParts", unfollowed := true, recurses := true, named := ["sodality/sha2.constants"], apart := false, laid := [("sodality/sha2.constants", laid_sodality_sha2_constants)] }
def HkdfPartsSaid : Prop := hkdfPartsRow.holds Tryd.pinned (OpenSpec.ofChange hkdfPartsSpec)

/-- ITS FALSE NEIGHBOUR: 'it returns false'. Refute it at one input. -/
def hkdfPartsWrong : ChangeSpec := { name := "hkdfParts", fn := fun _ => fun
  | [d1, d2] => { results := [.lit (.bool false)], args := [d1, d2] }
  | _ => none }
def HkdfPartsWrongFalsely : Prop := hkdfPartsRow.holds Tryd.pinned (OpenSpec.ofChange hkdfPartsWrong)

/- THE SECOND FORM. 'bulk': how many values and letters a reading holds, each counted each time it is reached (what is shared counts as often as it is met; a slice's spare places count too). A statement '..UptoSaid' is the law's where the arguments, and the package variables that the reading takes, are together of bulk at most 1048576: NARROWER than '..Said'. Prove '..Said' where nothing that the law and all that it calls make is longer than what came in: it says more and counts as full. Else prove '..UptoSaid'. A law counts once. -/
mutual
def uptoBulk {H : Type} : DataW H → Nat
  | .lit (.string bytes) => bytes.length + 1
  | .lit _ => 1
  | .nil => 1
  | .ptr d => uptoBulk d + 1
  | .slice elems spare => uptoBulkAll elems + uptoBulkAll spare + 1
  | .agg parts => uptoBulkAll parts + 1
  | .iface _ d => uptoBulk d + 1
  | .map entries => uptoBulkEntries entries + 1
  | .held _ => 1
def uptoBulkAll {H : Type} : List (DataW H) → Nat
  | [] => 0
  | d :: r => uptoBulk d + uptoBulkAll r
def uptoBulkEntries {H : Type} : List (Lit × DataW H) → Nat
  | [] => 0
  | x :: r => uptoBulkEntry x + uptoBulkEntries r
def uptoBulkEntry {H : Type} : Lit × DataW H → Nat
  | (.string bytes, d) => bytes.length + uptoBulk d + 1
  | (_, d) => uptoBulk d + 1
 end
def uptoSmall : (H : Type) → List (DataW H) → Bool := fun _ ds => decide (uptoBulkAll ds ≤ 1048576)
def OpenSpec.upto (s : _root_.Go.ChangeSpec) : _root_.Go.OpenSpec := { _root_.Go.OpenSpec.ofChange s with cond := some uptoSmall }

/-- 'sodalitylaw03.HkdfEqual', WHERE WHAT IT READS IS OF BULK AT MOST 1048576: true; the input reads as it did. -/
def hkdfEqualUptoRow : OpenClaim := { program := "ytnmdiehdchfelaadoor", sum := "10c177fa8d9065848215ecde49c1a853cc939b6fc8f7df5d424b0b17248e7a23", func := "sodality/sodalitylaw03.HkdfEqual", spec := "hkdfEqual", unfollowed := true, recurses := true, named := ["sodality/sha2.constants"], apart := false, laid := [("sodality/sha2.constants", laid_sodality_sha2_constants)], narrowed := true }
def HkdfEqualUptoSaid : Prop := hkdfEqualUptoRow.holds Tryd.pinned (OpenSpec.upto hkdfEqualSpec)

/-- 'sodalitylaw03.HkdfBeginnings', WHERE WHAT IT READS IS OF BULK AT MOST 1048576: true; the input reads as it did. -/
def hkdfBeginningsUptoRow : OpenClaim := { program := "ytnmdiehdchfelaadoor", sum := "10c177fa8d9065848215ecde49c1a853cc939b6fc8f7df5d424b0b17248e7a23", func := "sodality/sodalitylaw03.HkdfBeginnings", spec := "hkdfBeginnings", unfollowed := true, recurses := true, named := ["sodality/sha2.constants"], apart := false, laid := [("sodality/sha2.constants", laid_sodality_sha2_constants)], narrowed := true }
def HkdfBeginningsUptoSaid : Prop := hkdfBeginningsUptoRow.holds Tryd.pinned (OpenSpec.upto hkdfBeginningsSpec)

/-- 'sodalitylaw03.HkdfInfos', WHERE WHAT IT READS IS OF BULK AT MOST 1048576: true; the input reads as it did. -/
def hkdfInfosUptoRow : OpenClaim := { program := "ytnmdiehdchfelaadoor", sum := "10c177fa8d9065848215ecde49c1a853cc939b6fc8f7df5d424b0b17248e7a23", func := "sodality/sodalitylaw03.HkdfInfos", spec := "hkdfInfos", unfollowed := true, recurses := true, named := ["sodality/sha2.constants"], apart := false, laid := [("sodality/sha2.constants", laid_sodality_sha2_constants)], narrowed := true }
def HkdfInfosUptoSaid : Prop := hkdfInfosUptoRow.holds Tryd.pinned (OpenSpec.upto hkdfInfosSpec)

/-- 'sodalitylaw03.HkdfTells', WHERE WHAT IT READS IS OF BULK AT MOST 1048576: true; the input reads as it did. -/
def hkdfTellsUptoRow : OpenClaim := { program := "ytnmdiehdchfelaadoor", sum := "10c177fa8d9065848215ecde49c1a853cc939b6fc8f7df5d424b0b17248e7a23", func := "sodality/sodalitylaw03.HkdfTells", spec := "hkdfTells", unfollowed := true, recurses := true, named := ["sodality/sha2.constants"], apart := false, laid := [("sodality/sha2.constants", laid_sodality_sha2_constants)], narrowed := true }
def HkdfTellsUptoSaid : Prop := hkdfTellsUptoRow.holds Tryd.pinned (OpenSpec.upto hkdfTellsSpec)

/-- 'sodalitylaw03.HkdfKeys', WHERE WHAT IT READS IS OF BULK AT MOST 1048576: true; the input reads as it did. -/
def hkdfKeysUptoRow : OpenClaim := { program := "ytnmdiehdchfelaadoor", sum := "10c177fa8d9065848215ecde49c1a853cc939b6fc8f7df5d424b0b17248e7a23", func := "sodality/sodalitylaw03.HkdfKeys", spec := "hkdfKeys", unfollowed := true, recurses := true, named := ["sodality/sha2.constants"], apart := false, laid := [("sodality/sha2.constants", laid_sodality_sha2_constants)], narrowed := true }
def HkdfKeysUptoSaid : Prop := hkdfKeysUptoRow.holds Tryd.pinned (OpenSpec.upto hkdfKeysSpec)

/-- 'sodalitylaw03.HkdfParts', WHERE WHAT IT READS IS OF BULK AT MOST 1048576: true; the input reads as it did. -/
def hkdfPartsUptoRow : OpenClaim := { program := "ytnmdiehdchfelaadoor", sum := "10c177fa8d9065848215ecde49c1a853cc939b6fc8f7df5d424b0b17248e7a23", func := "sodality/sodalitylaw03.HkdfParts", spec := "hkdfParts", unfollowed := true, recurses := true, named := ["sodality/sha2.constants"], apart := false, laid := [("sodality/sha2.constants", laid_sodality_sha2_constants)], narrowed := true }
def HkdfPartsUptoSaid : Prop := hkdfPartsUptoRow.holds Tryd.pinned (OpenSpec.upto hkdfPartsSpec)

end Rows
end Go.Proofs.YtnmdiehdchfelaaDoor
