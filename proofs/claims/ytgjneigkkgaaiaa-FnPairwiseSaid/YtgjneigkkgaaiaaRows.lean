/-
  No cell of these rows narrows 'for every input' (looked for: loops, veiled, ifaces, maps, wideKeys, modest, calm, conditions, laid).
  DERIVED. THE GIVEN ROWS OF THIS SEAT. 6 by the template 'for every input the law returns true; each argument reads behind the call as it read before'; 0 by the template 'total and deterministic' (their statements: YtgjneigkkgaaiaaTotals.lean).
  GIVEN WITH THE SEED: the statements are not yours to turn. If you find one false, say at which input.
  Laid BY PROGRAM, IN A SANDBOX (cutbox-rows.mjs): the forced cells as the released guide's own fill.sh prints them over the translation 554b34abb85869e7… (all of the seat's roots in one cut). By AI agents, Wed Nov 11 2026. No macro, syntax, notation, axiom, sorry.
-/
import Derived.Test.YtgjneigkkgaaiaaChecked
import GoSem.Claim
import GoSem.ClaimJoined
import GoSem.ClaimMapViews
import Derived.JoinedTies
import Derived.KernelRfl
namespace Go.Proofs.Ytgjneigkkgaaiaa
/- THE CELL 'sum', in the pinned program and in every row, IS THE sha256 OF THE DUMP (.gsa) THAT YtgjneigkkgaaiaaProg.lean LOADS. Nothing in Lean hashes anything: it is a label: what it is worth is what the hold of that sum in a sandbox is worth. -/
noncomputable def Try.pinned : Pinned := { name := "ytgjneigkkgaaiaa", sum := "554b34abb85869e7fe88f6420cbe1ce6d1afb8ab4b7d6a5dd0bf897d558089e7", checked := Try.checked }
namespace Rows
def none {H : Type} : Left H := { results := [], args := [] }

/-- 'laws.FnExactTopOptions': WHATEVER THE INPUT: true; the input reads as it did. -/
def fnExactTopOptionsSpec : ChangeSpec := { name := "fnExactTopOptions", fn := fun _ => fun
  | [d1, d2] => { results := [.lit (.bool true)], args := [d1, d2] }
  | _ => none }
def fnExactTopOptionsRow : OpenClaim := { program := "ytgjneigkkgaaiaa", sum := "554b34abb85869e7fe88f6420cbe1ce6d1afb8ab4b7d6a5dd0bf897d558089e7", func := "loop.example/g00878/laws.FnExactTopOptions", spec := "fnExactTopOptions", unfollowed := true, recurses := true, apart := false }
def FnExactTopOptionsSaid : Prop := fnExactTopOptionsRow.holds Try.pinned (OpenSpec.ofChange fnExactTopOptionsSpec)

/-- ITS FALSE NEIGHBOUR: 'it returns false'. Refute it at one input. -/
def fnExactTopOptionsWrong : ChangeSpec := { name := "fnExactTopOptions", fn := fun _ => fun
  | [d1, d2] => { results := [.lit (.bool false)], args := [d1, d2] }
  | _ => none }
def FnExactTopOptionsWrongFalsely : Prop := fnExactTopOptionsRow.holds Try.pinned (OpenSpec.ofChange fnExactTopOptionsWrong)

/-- 'laws.FnExactHomomorphicTally': WHATEVER THE INPUT: true; the input reads as it did. -/
def fnExactHomomorphicTallySpec : ChangeSpec := { name := "fnExactHomomorphicTally", fn := fun _ => fun
  | [d1, d2] => { results := [.lit (.bool true)], args := [d1, d2] }
  | _ => none }
def fnExactHomomorphicTallyRow : OpenClaim := { program := "ytgjneigkkgaaiaa", sum := "554b34abb85869e7fe88f6420cbe1ce6d1afb8ab4b7d6a5dd0bf897d558089e7", func := "loop.example/g00878/laws.FnExactHomomorphicTally", spec := "fnExactHomomorphicTally", unfollowed := true, recurses := true, apart := false }
def FnExactHomomorphicTallySaid : Prop := fnExactHomomorphicTallyRow.holds Try.pinned (OpenSpec.ofChange fnExactHomomorphicTallySpec)

/-- ITS FALSE NEIGHBOUR: 'it returns false'. Refute it at one input. -/
def fnExactHomomorphicTallyWrong : ChangeSpec := { name := "fnExactHomomorphicTally", fn := fun _ => fun
  | [d1, d2] => { results := [.lit (.bool false)], args := [d1, d2] }
  | _ => none }
def FnExactHomomorphicTallyWrongFalsely : Prop := fnExactHomomorphicTallyRow.holds Try.pinned (OpenSpec.ofChange fnExactHomomorphicTallyWrong)

/-- 'laws.FnInterpolation': WHATEVER THE INPUT: true; the input reads as it did. -/
def fnInterpolationSpec : ChangeSpec := { name := "fnInterpolation", fn := fun _ => fun
  | [d1, d2] => { results := [.lit (.bool true)], args := [d1, d2] }
  | _ => none }
def fnInterpolationRow : OpenClaim := { program := "ytgjneigkkgaaiaa", sum := "554b34abb85869e7fe88f6420cbe1ce6d1afb8ab4b7d6a5dd0bf897d558089e7", func := "loop.example/g00878/laws.FnInterpolation", spec := "fnInterpolation", unfollowed := true, recurses := true, apart := false }
def FnInterpolationSaid : Prop := fnInterpolationRow.holds Try.pinned (OpenSpec.ofChange fnInterpolationSpec)

/-- ITS FALSE NEIGHBOUR: 'it returns false'. Refute it at one input. -/
def fnInterpolationWrong : ChangeSpec := { name := "fnInterpolation", fn := fun _ => fun
  | [d1, d2] => { results := [.lit (.bool false)], args := [d1, d2] }
  | _ => none }
def FnInterpolationWrongFalsely : Prop := fnInterpolationRow.holds Try.pinned (OpenSpec.ofChange fnInterpolationWrong)

/-- 'laws.FnSeats': WHATEVER THE INPUT: true; the input reads as it did. -/
def fnSeatsSpec : ChangeSpec := { name := "fnSeats", fn := fun _ => fun
  | [d1, d2] => { results := [.lit (.bool true)], args := [d1, d2] }
  | _ => none }
def fnSeatsRow : OpenClaim := { program := "ytgjneigkkgaaiaa", sum := "554b34abb85869e7fe88f6420cbe1ce6d1afb8ab4b7d6a5dd0bf897d558089e7", func := "loop.example/g00878/laws.FnSeats", spec := "fnSeats", unfollowed := true, recurses := true, apart := false }
def FnSeatsSaid : Prop := fnSeatsRow.holds Try.pinned (OpenSpec.ofChange fnSeatsSpec)

/-- ITS FALSE NEIGHBOUR: 'it returns false'. Refute it at one input. -/
def fnSeatsWrong : ChangeSpec := { name := "fnSeats", fn := fun _ => fun
  | [d1, d2] => { results := [.lit (.bool false)], args := [d1, d2] }
  | _ => none }
def FnSeatsWrongFalsely : Prop := fnSeatsRow.holds Try.pinned (OpenSpec.ofChange fnSeatsWrong)

/-- 'laws.FnRunoff': WHATEVER THE INPUT: true; the input reads as it did. -/
def fnRunoffSpec : ChangeSpec := { name := "fnRunoff", fn := fun _ => fun
  | [d1, d2] => { results := [.lit (.bool true)], args := [d1, d2] }
  | _ => none }
def fnRunoffRow : OpenClaim := { program := "ytgjneigkkgaaiaa", sum := "554b34abb85869e7fe88f6420cbe1ce6d1afb8ab4b7d6a5dd0bf897d558089e7", func := "loop.example/g00878/laws.FnRunoff", spec := "fnRunoff", unfollowed := true, recurses := true, apart := false }
def FnRunoffSaid : Prop := fnRunoffRow.holds Try.pinned (OpenSpec.ofChange fnRunoffSpec)

/-- ITS FALSE NEIGHBOUR: 'it returns false'. Refute it at one input. -/
def fnRunoffWrong : ChangeSpec := { name := "fnRunoff", fn := fun _ => fun
  | [d1, d2] => { results := [.lit (.bool false)], args := [d1, d2] }
  | _ => none }
def FnRunoffWrongFalsely : Prop := fnRunoffRow.holds Try.pinned (OpenSpec.ofChange fnRunoffWrong)

/-- 'laws.FnPairwise': WHATEVER THE INPUT: true; the input reads as it did. -/
def fnPairwiseSpec : ChangeSpec := { name := "fnPairwise", fn := fun _ => fun
  | [d1, d2] => { results := [.lit (.bool true)], args := [d1, d2] }
  | _ => none }
def fnPairwiseRow : OpenClaim := { program := "ytgjneigkkgaaiaa", sum := "554b34abb85869e7fe88f6420cbe1ce6d1afb8ab4b7d6a5dd0bf897d558089e7", func := "loop.example/g00878/laws.FnPairwise", spec := "fnPairwise", unfollowed := true, recurses := true, apart := false }
def FnPairwiseSaid : Prop := fnPairwiseRow.holds Try.pinned (OpenSpec.ofChange fnPairwiseSpec)

/-- ITS FALSE NEIGHBOUR: 'it returns false'. Refute it at one input. -/
def fnPairwiseWrong : ChangeSpec := { name := "fnPairwise", fn := fun _ => fun
  | [d1, d2] => { results := [.lit (.bool false)], args := [d1, d2] }
  | _ => none }
def FnPairwiseWrongFalsely : Prop := fnPairwiseRow.holds Try.pinned (OpenSpec.ofChange fnPairwiseWrong)

/- THE SECOND FORM. 'bulk': how many values and letters a reading holds, each counted each time it is reached (what is shared counts as often as it is met; a slice's spare places count too). A statement '..UptoSaid' is the law's where the arguments, and the package variables that the reading takes, are together of bulk at most 1048576: NARROWER than '..Said'. Prove '..Said' where nothing that the law and all that it calls make is longer than what came in: it says more and counts as full. Else prove '..UptoSaid'. A law counts once. -/
mutual
def uptoBulk {H : Type} : DataW H → Nat
  | .lit (.string bytes) => bytes.length + 1
  | .lit _ => 1
  | .nil => 1
  | .ptr d => uptoBulk d + 1
  | .slice elems spare => uptoBulkAll elems + uptoBulkAll spare + 1
  | .agg parts => uptoBulkAll parts + 1
  | .iface _ d => uptoBulk d + 1
  | .map entries => uptoBulkEntries entries + 1
  | .held _ => 1
def uptoBulkAll {H : Type} : List (DataW H) → Nat
  | [] => 0
  | d :: r => uptoBulk d + uptoBulkAll r
def uptoBulkEntries {H : Type} : List (Lit × DataW H) → Nat
  | [] => 0
  | x :: r => uptoBulkEntry x + uptoBulkEntries r
def uptoBulkEntry {H : Type} : Lit × DataW H → Nat
  | (.string bytes, d) => bytes.length + uptoBulk d + 1
  | (_, d) => uptoBulk d + 1
 end
def uptoSmall : (H : Type) → List (DataW H) → Bool := fun _ ds => decide (uptoBulkAll ds ≤ 1048576)
def OpenSpec.upto (s : _root_.Go.ChangeSpec) : _root_.Go.OpenSpec := { _root_.Go.OpenSpec.ofChange s with cond := some uptoSmall }

/-- 'laws.FnExactTopOptions', WHERE WHAT IT READS IS OF BULK AT MOST 1048576: true; the input reads as it did. -/
def fnExactTopOptionsUptoRow : OpenClaim := { program := "ytgjneigkkgaaiaa", sum := "554b34abb85869e7fe88f6420cbe1ce6d1afb8ab4b7d6a5dd0bf897d558089e7", func := "loop.example/g00878/laws.FnExactTopOptions", spec := "fnExactTopOptions", unfollowed := true, recurses := true, apart := false, narrowed := true }
def FnExactTopOptionsUptoSaid : Prop := fnExactTopOptionsUptoRow.holds Try.pinned (OpenSpec.upto fnExactTopOptionsSpec)

/-- 'laws.FnExactHomomorphicTally', WHERE WHAT IT READS IS OF BULK AT MOST 1048576: true; the input reads as it did. -/
def fnExactHomomorphicTallyUptoRow : OpenClaim := { program := "ytgjneigkkgaaiaa", sum := "554b34abb85869e7fe88f6420cbe1ce6d1afb8ab4b7d6a5dd0bf897d558089e7", func := "loop.example/g00878/laws.FnExactHomomorphicTally", spec := "fnExactHomomorphicTally", unfollowed := true, recurses := true, apart := false, narrowed := true }
def FnExactHomomorphicTallyUptoSaid : Prop := fnExactHomomorphicTallyUptoRow.holds Try.pinned (OpenSpec.upto fnExactHomomorphicTallySpec)

/-- 'laws.FnInterpolation', WHERE WHAT IT READS IS OF BULK AT MOST 1048576: true; the input reads as it did. -/
def fnInterpolationUptoRow : OpenClaim := { program := "ytgjneigkkgaaiaa", sum := "554b34abb85869e7fe88f6420cbe1ce6d1afb8ab4b7d6a5dd0bf897d558089e7", func := "loop.example/g00878/laws.FnInterpolation", spec := "fnInterpolation", unfollowed := true, recurses := true, apart := false, narrowed := true }
def FnInterpolationUptoSaid : Prop := fnInterpolationUptoRow.holds Try.pinned (OpenSpec.upto fnInterpolationSpec)

/-- 'laws.FnSeats', WHERE WHAT IT READS IS OF BULK AT MOST 1048576: true; the input reads as it did. -/
def fnSeatsUptoRow : OpenClaim := { program := "ytgjneigkkgaaiaa", sum := "554b34abb85869e7fe88f6420cbe1ce6d1afb8ab4b7d6a5dd0bf897d558089e7", func := "loop.example/g00878/laws.FnSeats", spec := "fnSeats", unfollowed := true, recurses := true, apart := false, narrowed := true }
def FnSeatsUptoSaid : Prop := fnSeatsUptoRow.holds Try.pinned (OpenSpec.upto fnSeatsSpec)

/-- 'laws.FnRunoff', WHERE WHAT IT READS IS OF BULK AT MOST 1048576: true; the input reads as it did. -/
def fnRunoffUptoRow : OpenClaim := { program := "ytgjneigkkgaaiaa", sum := "554b34abb85869e7fe88f6420cbe1ce6d1afb8ab4b7d6a5dd0bf897d558089e7", func := "loop.example/g00878/laws.FnRunoff", spec := "fnRunoff", unfollowed := true, recurses := true, apart := false, narrowed := true }
def FnRunoffUptoSaid : Prop := fnRunoffUptoRow.holds Try.pinned (OpenSpec.upto fnRunoffSpec)

/-- 'laws.FnPairwise', WHERE WHAT IT READS IS OF BULK AT MOST 1048576: true; the input reads as it did. -/
def fnPairwiseUptoRow : OpenClaim := { program := "ytgjneigkkgaaiaa", sum := "554b34abb85869e7fe88f6420cbe1ce6d1afb8ab4b7d6a5dd0bf897d558089e7", func := "loop.example/g00878/laws.FnPairwise", spec := "fnPairwise", unfollowed := true, recurses := true, apart := false, narrowed := true }
def FnPairwiseUptoSaid : Prop := fnPairwiseUptoRow.holds Try.pinned (OpenSpec.upto fnPairwiseSpec)

end Rows
end Go.Proofs.Ytgjneigkkgaaiaa
