/-
  No cell of these rows narrows 'for every input' (looked for: loops, veiled, ifaces, maps, wideKeys, modest, calm, conditions, laid).
  DERIVED. THE GIVEN ROWS OF THIS SEAT. 12 by the template 'for every input the law returns true; each argument reads behind the call as it read before'; 0 by the template 'total and deterministic' (their statements: YtmgphiofmhfjnaaTotals.lean).
  GIVEN WITH THE SEED: the statements are not yours to turn. If you find one false, say at which input.
  Laid BY PROGRAM, IN A SANDBOX (cutbox-rows.mjs): the forced cells as the released guide's own fill.sh prints them over the translation 4c00db1b585358ff… (all of the seat's roots in one cut). By AI agents, Wed Nov 11 2026. No macro, syntax, notation, axiom, sorry.
-/
import Derived.Test.YtmgphiofmhfjnaaChecked
import GoSem.Claim
import GoSem.ClaimJoined
import GoSem.ClaimMapViews
import Derived.JoinedTies
import Derived.KernelRfl
namespace Go.Proofs.Ytmgphiofmhfjnaa
/- THE CELL 'sum', in the pinned program and in every row, IS THE sha256 OF THE DUMP (.gsa) THAT YtmgphiofmhfjnaaProg.lean LOADS. Nothing in Lean hashes anything: it is a label: what it is worth is what the hold of that sum in a sandbox is worth. -/
noncomputable def Try.pinned : Pinned := { name := "ytmgphiofmhfjnaa", sum := "4c00db1b585358ff93fcaccc7c4fa533e60f5c2415715d7c93a64d8707797cd0", checked := Try.checked }
namespace Rows
def none {H : Type} : Left H := { results := [], args := [] }

/-- 'laws.FnExactCondorcetWinner': WHATEVER THE INPUT: true; the input reads as it did. -/
def fnExactCondorcetWinnerSpec : ChangeSpec := { name := "fnExactCondorcetWinner", fn := fun _ => fun
  | [d] => { results := [.lit (.bool true)], args := [d] }
  | _ => none }
def fnExactCondorcetWinnerRow : OpenClaim := { program := "ytmgphiofmhfjnaa", sum := "4c00db1b585358ff93fcaccc7c4fa533e60f5c2415715d7c93a64d8707797cd0", func := "loop.example/g00878/laws.FnExactCondorcetWinner", spec := "fnExactCondorcetWinner", unfollowed := true, recurses := true, apart := false }
def FnExactCondorcetWinnerSaid : Prop := fnExactCondorcetWinnerRow.holds Try.pinned (OpenSpec.ofChange fnExactCondorcetWinnerSpec)

/-- ITS FALSE NEIGHBOUR: 'it returns false'. Refute it at one input. -/
def fnExactCondorcetWinnerWrong : ChangeSpec := { name := "fnExactCondorcetWinner", fn := fun _ => fun
  | [d] => { results := [.lit (.bool false)], args := [d] }
  | _ => none }
def FnExactCondorcetWinnerWrongFalsely : Prop := fnExactCondorcetWinnerRow.holds Try.pinned (OpenSpec.ofChange fnExactCondorcetWinnerWrong)

/-- 'laws.FnExactDecodeTally': WHATEVER THE INPUT: true; the input reads as it did. -/
def fnExactDecodeTallySpec : ChangeSpec := { name := "fnExactDecodeTally", fn := fun _ => fun
  | [d1, d2, d3] => { results := [.lit (.bool true)], args := [d1, d2, d3] }
  | _ => none }
def fnExactDecodeTallyRow : OpenClaim := { program := "ytmgphiofmhfjnaa", sum := "4c00db1b585358ff93fcaccc7c4fa533e60f5c2415715d7c93a64d8707797cd0", func := "loop.example/g00878/laws.FnExactDecodeTally", spec := "fnExactDecodeTally", unfollowed := true, recurses := true, apart := false }
def FnExactDecodeTallySaid : Prop := fnExactDecodeTallyRow.holds Try.pinned (OpenSpec.ofChange fnExactDecodeTallySpec)

/-- ITS FALSE NEIGHBOUR: 'it returns false'. Refute it at one input. -/
def fnExactDecodeTallyWrong : ChangeSpec := { name := "fnExactDecodeTally", fn := fun _ => fun
  | [d1, d2, d3] => { results := [.lit (.bool false)], args := [d1, d2, d3] }
  | _ => none }
def FnExactDecodeTallyWrongFalsely : Prop := fnExactDecodeTallyRow.holds Try.pinned (OpenSpec.ofChange fnExactDecodeTallyWrong)

/-- 'laws.FnExactBordaScores': WHATEVER THE INPUT: true; the input reads as it did. -/
def fnExactBordaScoresSpec : ChangeSpec := { name := "fnExactBordaScores", fn := fun _ => fun
  | [d1, d2] => { results := [.lit (.bool true)], args := [d1, d2] }
  | _ => none }
def fnExactBordaScoresRow : OpenClaim := { program := "ytmgphiofmhfjnaa", sum := "4c00db1b585358ff93fcaccc7c4fa533e60f5c2415715d7c93a64d8707797cd0", func := "loop.example/g00878/laws.FnExactBordaScores", spec := "fnExactBordaScores", unfollowed := true, recurses := true, apart := false }
def FnExactBordaScoresSaid : Prop := fnExactBordaScoresRow.holds Try.pinned (OpenSpec.ofChange fnExactBordaScoresSpec)

/-- ITS FALSE NEIGHBOUR: 'it returns false'. Refute it at one input. -/
def fnExactBordaScoresWrong : ChangeSpec := { name := "fnExactBordaScores", fn := fun _ => fun
  | [d1, d2] => { results := [.lit (.bool false)], args := [d1, d2] }
  | _ => none }
def FnExactBordaScoresWrongFalsely : Prop := fnExactBordaScoresRow.holds Try.pinned (OpenSpec.ofChange fnExactBordaScoresWrong)

/-- 'laws.FnExactRootOf': WHATEVER THE INPUT: true; the input reads as it did. -/
def fnExactRootOfSpec : ChangeSpec := { name := "fnExactRootOf", fn := fun _ => fun
  | [d] => { results := [.lit (.bool true)], args := [d] }
  | _ => none }
def fnExactRootOfRow : OpenClaim := { program := "ytmgphiofmhfjnaa", sum := "4c00db1b585358ff93fcaccc7c4fa533e60f5c2415715d7c93a64d8707797cd0", func := "loop.example/g00878/laws.FnExactRootOf", spec := "fnExactRootOf", unfollowed := true, recurses := true, apart := false }
def FnExactRootOfSaid : Prop := fnExactRootOfRow.holds Try.pinned (OpenSpec.ofChange fnExactRootOfSpec)

/-- ITS FALSE NEIGHBOUR: 'it returns false'. Refute it at one input. -/
def fnExactRootOfWrong : ChangeSpec := { name := "fnExactRootOf", fn := fun _ => fun
  | [d] => { results := [.lit (.bool false)], args := [d] }
  | _ => none }
def FnExactRootOfWrongFalsely : Prop := fnExactRootOfRow.holds Try.pinned (OpenSpec.ofChange fnExactRootOfWrong)

/-- 'laws.FnExactVerifyInclusion': WHATEVER THE INPUT: true; the input reads as it did. -/
def fnExactVerifyInclusionSpec : ChangeSpec := { name := "fnExactVerifyInclusion", fn := fun _ => fun
  | [d1, d2, d3, d4, d5] => { results := [.lit (.bool true)], args := [d1, d2, d3, d4, d5] }
  | _ => none }
def fnExactVerifyInclusionRow : OpenClaim := { program := "ytmgphiofmhfjnaa", sum := "4c00db1b585358ff93fcaccc7c4fa533e60f5c2415715d7c93a64d8707797cd0", func := "loop.example/g00878/laws.FnExactVerifyInclusion", spec := "fnExactVerifyInclusion", unfollowed := true, recurses := true, apart := false }
def FnExactVerifyInclusionSaid : Prop := fnExactVerifyInclusionRow.holds Try.pinned (OpenSpec.ofChange fnExactVerifyInclusionSpec)

/-- ITS FALSE NEIGHBOUR: 'it returns false'. Refute it at one input. -/
def fnExactVerifyInclusionWrong : ChangeSpec := { name := "fnExactVerifyInclusion", fn := fun _ => fun
  | [d1, d2, d3, d4, d5] => { results := [.lit (.bool false)], args := [d1, d2, d3, d4, d5] }
  | _ => none }
def FnExactVerifyInclusionWrongFalsely : Prop := fnExactVerifyInclusionRow.holds Try.pinned (OpenSpec.ofChange fnExactVerifyInclusionWrong)

/-- 'laws.FnExactLinkOf': WHATEVER THE INPUT: true; the input reads as it did. -/
def fnExactLinkOfSpec : ChangeSpec := { name := "fnExactLinkOf", fn := fun _ => fun
  | [d] => { results := [.lit (.bool true)], args := [d] }
  | _ => none }
def fnExactLinkOfRow : OpenClaim := { program := "ytmgphiofmhfjnaa", sum := "4c00db1b585358ff93fcaccc7c4fa533e60f5c2415715d7c93a64d8707797cd0", func := "loop.example/g00878/laws.FnExactLinkOf", spec := "fnExactLinkOf", unfollowed := true, recurses := true, apart := false }
def FnExactLinkOfSaid : Prop := fnExactLinkOfRow.holds Try.pinned (OpenSpec.ofChange fnExactLinkOfSpec)

/-- ITS FALSE NEIGHBOUR: 'it returns false'. Refute it at one input. -/
def fnExactLinkOfWrong : ChangeSpec := { name := "fnExactLinkOf", fn := fun _ => fun
  | [d] => { results := [.lit (.bool false)], args := [d] }
  | _ => none }
def FnExactLinkOfWrongFalsely : Prop := fnExactLinkOfRow.holds Try.pinned (OpenSpec.ofChange fnExactLinkOfWrong)

/-- 'laws.FnExactPairwiseMatrix': WHATEVER THE INPUT: true; the input reads as it did. -/
def fnExactPairwiseMatrixSpec : ChangeSpec := { name := "fnExactPairwiseMatrix", fn := fun _ => fun
  | [d1, d2] => { results := [.lit (.bool true)], args := [d1, d2] }
  | _ => none }
def fnExactPairwiseMatrixRow : OpenClaim := { program := "ytmgphiofmhfjnaa", sum := "4c00db1b585358ff93fcaccc7c4fa533e60f5c2415715d7c93a64d8707797cd0", func := "loop.example/g00878/laws.FnExactPairwiseMatrix", spec := "fnExactPairwiseMatrix", unfollowed := true, recurses := true, apart := false }
def FnExactPairwiseMatrixSaid : Prop := fnExactPairwiseMatrixRow.holds Try.pinned (OpenSpec.ofChange fnExactPairwiseMatrixSpec)

/-- ITS FALSE NEIGHBOUR: 'it returns false'. Refute it at one input. -/
def fnExactPairwiseMatrixWrong : ChangeSpec := { name := "fnExactPairwiseMatrix", fn := fun _ => fun
  | [d1, d2] => { results := [.lit (.bool false)], args := [d1, d2] }
  | _ => none }
def FnExactPairwiseMatrixWrongFalsely : Prop := fnExactPairwiseMatrixRow.holds Try.pinned (OpenSpec.ofChange fnExactPairwiseMatrixWrong)

/-- 'laws.FnExactRollOf': WHATEVER THE INPUT: true; the input reads as it did. -/
def fnExactRollOfSpec : ChangeSpec := { name := "fnExactRollOf", fn := fun _ => fun
  | [d1, d2, d3, d4] => { results := [.lit (.bool true)], args := [d1, d2, d3, d4] }
  | _ => none }
def fnExactRollOfRow : OpenClaim := { program := "ytmgphiofmhfjnaa", sum := "4c00db1b585358ff93fcaccc7c4fa533e60f5c2415715d7c93a64d8707797cd0", func := "loop.example/g00878/laws.FnExactRollOf", spec := "fnExactRollOf", unfollowed := true, recurses := true, apart := false }
def FnExactRollOfSaid : Prop := fnExactRollOfRow.holds Try.pinned (OpenSpec.ofChange fnExactRollOfSpec)

/-- ITS FALSE NEIGHBOUR: 'it returns false'. Refute it at one input. -/
def fnExactRollOfWrong : ChangeSpec := { name := "fnExactRollOf", fn := fun _ => fun
  | [d1, d2, d3, d4] => { results := [.lit (.bool false)], args := [d1, d2, d3, d4] }
  | _ => none }
def FnExactRollOfWrongFalsely : Prop := fnExactRollOfRow.holds Try.pinned (OpenSpec.ofChange fnExactRollOfWrong)

/-- 'laws.FnExactSmallExponents': WHATEVER THE INPUT: true; the input reads as it did. -/
def fnExactSmallExponentsSpec : ChangeSpec := { name := "fnExactSmallExponents", fn := fun _ => fun
  | [d1, d2, d3] => { results := [.lit (.bool true)], args := [d1, d2, d3] }
  | _ => none }
def fnExactSmallExponentsRow : OpenClaim := { program := "ytmgphiofmhfjnaa", sum := "4c00db1b585358ff93fcaccc7c4fa533e60f5c2415715d7c93a64d8707797cd0", func := "loop.example/g00878/laws.FnExactSmallExponents", spec := "fnExactSmallExponents", unfollowed := true, recurses := true, apart := false }
def FnExactSmallExponentsSaid : Prop := fnExactSmallExponentsRow.holds Try.pinned (OpenSpec.ofChange fnExactSmallExponentsSpec)

/-- ITS FALSE NEIGHBOUR: 'it returns false'. Refute it at one input. -/
def fnExactSmallExponentsWrong : ChangeSpec := { name := "fnExactSmallExponents", fn := fun _ => fun
  | [d1, d2, d3] => { results := [.lit (.bool false)], args := [d1, d2, d3] }
  | _ => none }
def FnExactSmallExponentsWrongFalsely : Prop := fnExactSmallExponentsRow.holds Try.pinned (OpenSpec.ofChange fnExactSmallExponentsWrong)

/-- 'laws.FnExactSmithSet': WHATEVER THE INPUT: true; the input reads as it did. -/
def fnExactSmithSetSpec : ChangeSpec := { name := "fnExactSmithSet", fn := fun _ => fun
  | [d] => { results := [.lit (.bool true)], args := [d] }
  | _ => none }
def fnExactSmithSetRow : OpenClaim := { program := "ytmgphiofmhfjnaa", sum := "4c00db1b585358ff93fcaccc7c4fa533e60f5c2415715d7c93a64d8707797cd0", func := "loop.example/g00878/laws.FnExactSmithSet", spec := "fnExactSmithSet", unfollowed := true, recurses := true, apart := false }
def FnExactSmithSetSaid : Prop := fnExactSmithSetRow.holds Try.pinned (OpenSpec.ofChange fnExactSmithSetSpec)

/-- ITS FALSE NEIGHBOUR: 'it returns false'. Refute it at one input. -/
def fnExactSmithSetWrong : ChangeSpec := { name := "fnExactSmithSet", fn := fun _ => fun
  | [d] => { results := [.lit (.bool false)], args := [d] }
  | _ => none }
def FnExactSmithSetWrongFalsely : Prop := fnExactSmithSetRow.holds Try.pinned (OpenSpec.ofChange fnExactSmithSetWrong)

/-- 'laws.FnExactTagsOf': WHATEVER THE INPUT: true; the input reads as it did. -/
def fnExactTagsOfSpec : ChangeSpec := { name := "fnExactTagsOf", fn := fun _ => fun
  | [d1, d2, d3, d4] => { results := [.lit (.bool true)], args := [d1, d2, d3, d4] }
  | _ => none }
def fnExactTagsOfRow : OpenClaim := { program := "ytmgphiofmhfjnaa", sum := "4c00db1b585358ff93fcaccc7c4fa533e60f5c2415715d7c93a64d8707797cd0", func := "loop.example/g00878/laws.FnExactTagsOf", spec := "fnExactTagsOf", unfollowed := true, recurses := true, apart := false }
def FnExactTagsOfSaid : Prop := fnExactTagsOfRow.holds Try.pinned (OpenSpec.ofChange fnExactTagsOfSpec)

/-- ITS FALSE NEIGHBOUR: 'it returns false'. Refute it at one input. -/
def fnExactTagsOfWrong : ChangeSpec := { name := "fnExactTagsOf", fn := fun _ => fun
  | [d1, d2, d3, d4] => { results := [.lit (.bool false)], args := [d1, d2, d3, d4] }
  | _ => none }
def FnExactTagsOfWrongFalsely : Prop := fnExactTagsOfRow.holds Try.pinned (OpenSpec.ofChange fnExactTagsOfWrong)

/-- 'laws.FnExactEqualGroups': WHATEVER THE INPUT: true; the input reads as it did. -/
def fnExactEqualGroupsSpec : ChangeSpec := { name := "fnExactEqualGroups", fn := fun _ => fun
  | [d1, d2, d3] => { results := [.lit (.bool true)], args := [d1, d2, d3] }
  | _ => none }
def fnExactEqualGroupsRow : OpenClaim := { program := "ytmgphiofmhfjnaa", sum := "4c00db1b585358ff93fcaccc7c4fa533e60f5c2415715d7c93a64d8707797cd0", func := "loop.example/g00878/laws.FnExactEqualGroups", spec := "fnExactEqualGroups", unfollowed := true, recurses := true, apart := false }
def FnExactEqualGroupsSaid : Prop := fnExactEqualGroupsRow.holds Try.pinned (OpenSpec.ofChange fnExactEqualGroupsSpec)

/-- ITS FALSE NEIGHBOUR: 'it returns false'. Refute it at one input. -/
def fnExactEqualGroupsWrong : ChangeSpec := { name := "fnExactEqualGroups", fn := fun _ => fun
  | [d1, d2, d3] => { results := [.lit (.bool false)], args := [d1, d2, d3] }
  | _ => none }
def FnExactEqualGroupsWrongFalsely : Prop := fnExactEqualGroupsRow.holds Try.pinned (OpenSpec.ofChange fnExactEqualGroupsWrong)

/- THE SECOND FORM. 'bulk': how many values and letters a reading holds, each counted each time it is reached (what is shared counts as often as it is met; a slice's spare places count too). A statement '..UptoSaid' is the law's where the arguments, and the package variables that the reading takes, are together of bulk at most 1048576: NARROWER than '..Said'. Prove '..Said' where nothing that the law and all that it calls make is longer than what came in: it says more and counts as full. Else prove '..UptoSaid'. A law counts once. -/
mutual
def uptoBulk {H : Type} : DataW H → Nat
  | .lit (.string bytes) => bytes.length + 1
  | .lit _ => 1
  | .nil => 1
  | .ptr d => uptoBulk d + 1
  | .slice elems spare => uptoBulkAll elems + uptoBulkAll spare + 1
  | .agg parts => uptoBulkAll parts + 1
  | .iface _ d => uptoBulk d + 1
  | .map entries => uptoBulkEntries entries + 1
  | .held _ => 1
def uptoBulkAll {H : Type} : List (DataW H) → Nat
  | [] => 0
  | d :: r => uptoBulk d + uptoBulkAll r
def uptoBulkEntries {H : Type} : List (Lit × DataW H) → Nat
  | [] => 0
  | x :: r => uptoBulkEntry x + uptoBulkEntries r
def uptoBulkEntry {H : Type} : Lit × DataW H → Nat
  | (.string bytes, d) => bytes.length + uptoBulk d + 1
  | (_, d) => uptoBulk d + 1
 end
def uptoSmall : (H : Type) → List (DataW H) → Bool := fun _ ds => decide (uptoBulkAll ds ≤ 1048576)
def OpenSpec.upto (s : _root_.Go.ChangeSpec) : _root_.Go.OpenSpec := { _root_.Go.OpenSpec.ofChange s with cond := some uptoSmall }

/-- 'laws.FnExactCondorcetWinner', WHERE WHAT IT READS IS OF BULK AT MOST 1048576: true; the input reads as it did. -/
def fnExactCondorcetWinnerUptoRow : OpenClaim := { program := "ytmgphiofmhfjnaa", sum := "4c00db1b585358ff93fcaccc7c4fa533e60f5c2415715d7c93a64d8707797cd0", func := "loop.example/g00878/laws.FnExactCondorcetWinner", spec := "fnExactCondorcetWinner", unfollowed := true, recurses := true, apart := false, narrowed := true }
def FnExactCondorcetWinnerUptoSaid : Prop := fnExactCondorcetWinnerUptoRow.holds Try.pinned (OpenSpec.upto fnExactCondorcetWinnerSpec)

/-- 'laws.FnExactDecodeTally', WHERE WHAT IT READS IS OF BULK AT MOST 1048576: true; the input reads as it did. -/
def fnExactDecodeTallyUptoRow : OpenClaim := { program := "ytmgphiofmhfjnaa", sum := "4c00db1b585358ff93fcaccc7c4fa533e60f5c2415715d7c93a64d8707797cd0", func := "loop.example/g00878/laws.FnExactDecodeTally", spec := "fnExactDecodeTally", unfollowed := true, recurses := true, apart := false, narrowed := true }
def FnExactDecodeTallyUptoSaid : Prop := fnExactDecodeTallyUptoRow.holds Try.pinned (OpenSpec.upto fnExactDecodeTallySpec)

/-- 'laws.FnExactBordaScores', WHERE WHAT IT READS IS OF BULK AT MOST 1048576: true; the input reads as it did. -/
def fnExactBordaScoresUptoRow : OpenClaim := { program := "ytmgphiofmhfjnaa", sum := "4c00db1b585358ff93fcaccc7c4fa533e60f5c2415715d7c93a64d8707797cd0", func := "loop.example/g00878/laws.FnExactBordaScores", spec := "fnExactBordaScores", unfollowed := true, recurses := true, apart := false, narrowed := true }
def FnExactBordaScoresUptoSaid : Prop := fnExactBordaScoresUptoRow.holds Try.pinned (OpenSpec.upto fnExactBordaScoresSpec)

/-- 'laws.FnExactRootOf', WHERE WHAT IT READS IS OF BULK AT MOST 1048576: true; the input reads as it did. -/
def fnExactRootOfUptoRow : OpenClaim := { program := "ytmgphiofmhfjnaa", sum := "4c00db1b585358ff93fcaccc7c4fa533e60f5c2415715d7c93a64d8707797cd0", func := "loop.example/g00878/laws.FnExactRootOf", spec := "fnExactRootOf", unfollowed := true, recurses := true, apart := false, narrowed := true }
def FnExactRootOfUptoSaid : Prop := fnExactRootOfUptoRow.holds Try.pinned (OpenSpec.upto fnExactRootOfSpec)

/-- 'laws.FnExactVerifyInclusion', WHERE WHAT IT READS IS OF BULK AT MOST 1048576: true; the input reads as it did. -/
def fnExactVerifyInclusionUptoRow : OpenClaim := { program := "ytmgphiofmhfjnaa", sum := "4c00db1b585358ff93fcaccc7c4fa533e60f5c2415715d7c93a64d8707797cd0", func := "loop.example/g00878/laws.FnExactVerifyInclusion", spec := "fnExactVerifyInclusion", unfollowed := true, recurses := true, apart := false, narrowed := true }
def FnExactVerifyInclusionUptoSaid : Prop := fnExactVerifyInclusionUptoRow.holds Try.pinned (OpenSpec.upto fnExactVerifyInclusionSpec)

/-- 'laws.FnExactLinkOf', WHERE WHAT IT READS IS OF BULK AT MOST 1048576: true; the input reads as it did. -/
def fnExactLinkOfUptoRow : OpenClaim := { program := "ytmgphiofmhfjnaa", sum := "4c00db1b585358ff93fcaccc7c4fa533e60f5c2415715d7c93a64d8707797cd0", func := "loop.example/g00878/laws.FnExactLinkOf", spec := "fnExactLinkOf", unfollowed := true, recurses := true, apart := false, narrowed := true }
def FnExactLinkOfUptoSaid : Prop := fnExactLinkOfUptoRow.holds Try.pinned (OpenSpec.upto fnExactLinkOfSpec)

/-- 'laws.FnExactPairwiseMatrix', WHERE WHAT IT READS IS OF BULK AT MOST 1048576: true; the input reads as it did. -/
def fnExactPairwiseMatrixUptoRow : OpenClaim := { program := "ytmgphiofmhfjnaa", sum := "4c00db1b585358ff93fcaccc7c4fa533e60f5c2415715d7c93a64d8707797cd0", func := "loop.example/g00878/laws.FnExactPairwiseMatrix", spec := "fnExactPairwiseMatrix", unfollowed := true, recurses := true, apart := false, narrowed := true }
def FnExactPairwiseMatrixUptoSaid : Prop := fnExactPairwiseMatrixUptoRow.holds Try.pinned (OpenSpec.upto fnExactPairwiseMatrixSpec)

/-- 'laws.FnExactRollOf', WHERE WHAT IT READS IS OF BULK AT MOST 1048576: true; the input reads as it did. -/
def fnExactRollOfUptoRow : OpenClaim := { program := "ytmgphiofmhfjnaa", sum := "4c00db1b585358ff93fcaccc7c4fa533e60f5c2415715d7c93a64d8707797cd0", func := "loop.example/g00878/laws.FnExactRollOf", spec := "fnExactRollOf", unfollowed := true, recurses := true, apart := false, narrowed := true }
def FnExactRollOfUptoSaid : Prop := fnExactRollOfUptoRow.holds Try.pinned (OpenSpec.upto fnExactRollOfSpec)

/-- 'laws.FnExactSmallExponents', WHERE WHAT IT READS IS OF BULK AT MOST 1048576: true; the input reads as it did. -/
def fnExactSmallExponentsUptoRow : OpenClaim := { program := "ytmgphiofmhfjnaa", sum := "4c00db1b585358ff93fcaccc7c4fa533e60f5c2415715d7c93a64d8707797cd0", func := "loop.example/g00878/laws.FnExactSmallExponents", spec := "fnExactSmallExponents", unfollowed := true, recurses := true, apart := false, narrowed := true }
def FnExactSmallExponentsUptoSaid : Prop := fnExactSmallExponentsUptoRow.holds Try.pinned (OpenSpec.upto fnExactSmallExponentsSpec)

/-- 'laws.FnExactSmithSet', WHERE WHAT IT READS IS OF BULK AT MOST 1048576: true; the input reads as it did. -/
def fnExactSmithSetUptoRow : OpenClaim := { program := "ytmgphiofmhfjnaa", sum := "4c00db1b585358ff93fcaccc7c4fa533e60f5c2415715d7c93a64d8707797cd0", func := "loop.example/g00878/laws.FnExactSmithSet", spec := "fnExactSmithSet", unfollowed := true, recurses := true, apart := false, narrowed := true }
def FnExactSmithSetUptoSaid : Prop := fnExactSmithSetUptoRow.holds Try.pinned (OpenSpec.upto fnExactSmithSetSpec)

/-- 'laws.FnExactTagsOf', WHERE WHAT IT READS IS OF BULK AT MOST 1048576: true; the input reads as it did. -/
def fnExactTagsOfUptoRow : OpenClaim := { program := "ytmgphiofmhfjnaa", sum := "4c00db1b585358ff93fcaccc7c4fa533e60f5c2415715d7c93a64d8707797cd0", func := "loop.example/g00878/laws.FnExactTagsOf", spec := "fnExactTagsOf", unfollowed := true, recurses := true, apart := false, narrowed := true }
def FnExactTagsOfUptoSaid : Prop := fnExactTagsOfUptoRow.holds Try.pinned (OpenSpec.upto fnExactTagsOfSpec)

/-- 'laws.FnExactEqualGroups', WHERE WHAT IT READS IS OF BULK AT MOST 1048576: true; the input reads as it did. -/
def fnExactEqualGroupsUptoRow : OpenClaim := { program := "ytmgphiofmhfjnaa", sum := "4c00db1b585358ff93fcaccc7c4fa533e60f5c2415715d7c93a64d8707797cd0", func := "loop.example/g00878/laws.FnExactEqualGroups", spec := "fnExactEqualGroups", unfollowed := true, recurses := true, apart := false, narrowed := true }
def FnExactEqualGroupsUptoSaid : Prop := fnExactEqualGroupsUptoRow.holds Try.pinned (OpenSpec.upto fnExactEqualGroupsSpec)

end Rows
end Go.Proofs.Ytmgphiofmhfjnaa
