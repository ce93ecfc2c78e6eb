/-
  No cell of these rows narrows 'for every input' (looked for: loops, veiled, ifaces, maps, wideKeys, modest, calm, conditions, laid).
  DERIVED. THE GIVEN ROWS OF THIS SEAT. 12 by the template 'for every input the law returns true; each argument reads behind the call as it read before'; 0 by the template 'total and deterministic' (their statements: YtikmcaegilhfeaaTotals.lean).
  GIVEN WITH THE SEED: the statements are not yours to turn. If you find one false, say at which input.
  Laid BY PROGRAM, IN A SANDBOX (cutbox-rows.mjs): the forced cells as the released guide's own fill.sh prints them over the translation 14448f59d2d671ca… (all of the seat's roots in one cut). By AI agents, Wed Nov 11 2026. No macro, syntax, notation, axiom, sorry.
-/
import Derived.Test.YtikmcaegilhfeaaChecked
import GoSem.Claim
import GoSem.ClaimJoined
import GoSem.ClaimMapViews
import Derived.JoinedTies
import Derived.KernelRfl
namespace Go.Proofs.Ytikmcaegilhfeaa
/- THE CELL 'sum', in the pinned program and in every row, IS THE sha256 OF THE DUMP (.gsa) THAT YtikmcaegilhfeaaProg.lean LOADS. Nothing in Lean hashes anything: it is a label: what it is worth is what the hold of that sum in a sandbox is worth. -/
noncomputable def Try.pinned : Pinned := { name := "ytikmcaegilhfeaa", sum := "14448f59d2d671ca6042b21f0f522f52b35780256cb962c9236f73f2cc5d5baa", checked := Try.checked }
namespace Rows
def none {H : Type} : Left H := { results := [], args := [] }

/-- 'laws.FnExactRunoffWinner': WHATEVER THE INPUT: true; the input reads as it did. -/
def fnExactRunoffWinnerSpec : ChangeSpec := { name := "fnExactRunoffWinner", fn := fun _ => fun
  | [d1, d2] => { results := [.lit (.bool true)], args := [d1, d2] }
  | _ => none }
def fnExactRunoffWinnerRow : OpenClaim := { program := "ytikmcaegilhfeaa", sum := "14448f59d2d671ca6042b21f0f522f52b35780256cb962c9236f73f2cc5d5baa", func := "loop.example/g00878/laws.FnExactRunoffWinner", spec := "fnExactRunoffWinner", unfollowed := true, recurses := true, apart := false }
def FnExactRunoffWinnerSaid : Prop := fnExactRunoffWinnerRow.holds Try.pinned (OpenSpec.ofChange fnExactRunoffWinnerSpec)

/-- ITS FALSE NEIGHBOUR: 'it returns false'. Refute it at one input. -/
def fnExactRunoffWinnerWrong : ChangeSpec := { name := "fnExactRunoffWinner", fn := fun _ => fun
  | [d1, d2] => { results := [.lit (.bool false)], args := [d1, d2] }
  | _ => none }
def FnExactRunoffWinnerWrongFalsely : Prop := fnExactRunoffWinnerRow.holds Try.pinned (OpenSpec.ofChange fnExactRunoffWinnerWrong)

/-- 'laws.FnExactRunoffRounds': WHATEVER THE INPUT: true; the input reads as it did. -/
def fnExactRunoffRoundsSpec : ChangeSpec := { name := "fnExactRunoffRounds", fn := fun _ => fun
  | [d1, d2] => { results := [.lit (.bool true)], args := [d1, d2] }
  | _ => none }
def fnExactRunoffRoundsRow : OpenClaim := { program := "ytikmcaegilhfeaa", sum := "14448f59d2d671ca6042b21f0f522f52b35780256cb962c9236f73f2cc5d5baa", func := "loop.example/g00878/laws.FnExactRunoffRounds", spec := "fnExactRunoffRounds", unfollowed := true, recurses := true, apart := false }
def FnExactRunoffRoundsSaid : Prop := fnExactRunoffRoundsRow.holds Try.pinned (OpenSpec.ofChange fnExactRunoffRoundsSpec)

/-- ITS FALSE NEIGHBOUR: 'it returns false'. Refute it at one input. -/
def fnExactRunoffRoundsWrong : ChangeSpec := { name := "fnExactRunoffRounds", fn := fun _ => fun
  | [d1, d2] => { results := [.lit (.bool false)], args := [d1, d2] }
  | _ => none }
def FnExactRunoffRoundsWrongFalsely : Prop := fnExactRunoffRoundsRow.holds Try.pinned (OpenSpec.ofChange fnExactRunoffRoundsWrong)

/-- 'laws.FnExactTopOptions': WHATEVER THE INPUT: true; the input reads as it did. -/
def fnExactTopOptionsSpec : ChangeSpec := { name := "fnExactTopOptions", fn := fun _ => fun
  | [d1, d2] => { results := [.lit (.bool true)], args := [d1, d2] }
  | _ => none }
def fnExactTopOptionsRow : OpenClaim := { program := "ytikmcaegilhfeaa", sum := "14448f59d2d671ca6042b21f0f522f52b35780256cb962c9236f73f2cc5d5baa", func := "loop.example/g00878/laws.FnExactTopOptions", spec := "fnExactTopOptions", unfollowed := true, recurses := true, apart := false }
def FnExactTopOptionsSaid : Prop := fnExactTopOptionsRow.holds Try.pinned (OpenSpec.ofChange fnExactTopOptionsSpec)

/-- ITS FALSE NEIGHBOUR: 'it returns false'. Refute it at one input. -/
def fnExactTopOptionsWrong : ChangeSpec := { name := "fnExactTopOptions", fn := fun _ => fun
  | [d1, d2] => { results := [.lit (.bool false)], args := [d1, d2] }
  | _ => none }
def FnExactTopOptionsWrongFalsely : Prop := fnExactTopOptionsRow.holds Try.pinned (OpenSpec.ofChange fnExactTopOptionsWrong)

/-- 'laws.FnExactHomomorphicTally': WHATEVER THE INPUT: true; the input reads as it did. -/
def fnExactHomomorphicTallySpec : ChangeSpec := { name := "fnExactHomomorphicTally", fn := fun _ => fun
  | [d1, d2] => { results := [.lit (.bool true)], args := [d1, d2] }
  | _ => none }
def fnExactHomomorphicTallyRow : OpenClaim := { program := "ytikmcaegilhfeaa", sum := "14448f59d2d671ca6042b21f0f522f52b35780256cb962c9236f73f2cc5d5baa", func := "loop.example/g00878/laws.FnExactHomomorphicTally", spec := "fnExactHomomorphicTally", unfollowed := true, recurses := true, apart := false }
def FnExactHomomorphicTallySaid : Prop := fnExactHomomorphicTallyRow.holds Try.pinned (OpenSpec.ofChange fnExactHomomorphicTallySpec)

/-- ITS FALSE NEIGHBOUR: 'it returns false'. Refute it at one input. -/
def fnExactHomomorphicTallyWrong : ChangeSpec := { name := "fnExactHomomorphicTally", fn := fun _ => fun
  | [d1, d2] => { results := [.lit (.bool false)], args := [d1, d2] }
  | _ => none }
def FnExactHomomorphicTallyWrongFalsely : Prop := fnExactHomomorphicTallyRow.holds Try.pinned (OpenSpec.ofChange fnExactHomomorphicTallyWrong)

/-- 'laws.FnRunoff': WHATEVER THE INPUT: true; the input reads as it did. -/
def fnRunoffSpec : ChangeSpec := { name := "fnRunoff", fn := fun _ => fun
  | [d1, d2] => { results := [.lit (.bool true)], args := [d1, d2] }
  | _ => none }
def fnRunoffRow : OpenClaim := { program := "ytikmcaegilhfeaa", sum := "14448f59d2d671ca6042b21f0f522f52b35780256cb962c9236f73f2cc5d5baa", func := "loop.example/g00878/laws.FnRunoff", spec := "fnRunoff", unfollowed := true, recurses := true, apart := false }
def FnRunoffSaid : Prop := fnRunoffRow.holds Try.pinned (OpenSpec.ofChange fnRunoffSpec)

/-- ITS FALSE NEIGHBOUR: 'it returns false'. Refute it at one input. -/
def fnRunoffWrong : ChangeSpec := { name := "fnRunoff", fn := fun _ => fun
  | [d1, d2] => { results := [.lit (.bool false)], args := [d1, d2] }
  | _ => none }
def FnRunoffWrongFalsely : Prop := fnRunoffRow.holds Try.pinned (OpenSpec.ofChange fnRunoffWrong)

/-- 'laws.FnExactPlaceChallenge': WHATEVER THE INPUT: true; the input reads as it did. -/
def fnExactPlaceChallengeSpec : ChangeSpec := { name := "fnExactPlaceChallenge", fn := fun _ => fun
  | [d1, d2, d3, d4, d5] => { results := [.lit (.bool true)], args := [d1, d2, d3, d4, d5] }
  | _ => none }
def fnExactPlaceChallengeRow : OpenClaim := { program := "ytikmcaegilhfeaa", sum := "14448f59d2d671ca6042b21f0f522f52b35780256cb962c9236f73f2cc5d5baa", func := "loop.example/g00878/laws.FnExactPlaceChallenge", spec := "fnExactPlaceChallenge", unfollowed := true, recurses := true, apart := false }
def FnExactPlaceChallengeSaid : Prop := fnExactPlaceChallengeRow.holds Try.pinned (OpenSpec.ofChange fnExactPlaceChallengeSpec)

/-- ITS FALSE NEIGHBOUR: 'it returns false'. Refute it at one input. -/
def fnExactPlaceChallengeWrong : ChangeSpec := { name := "fnExactPlaceChallenge", fn := fun _ => fun
  | [d1, d2, d3, d4, d5] => { results := [.lit (.bool false)], args := [d1, d2, d3, d4, d5] }
  | _ => none }
def FnExactPlaceChallengeWrongFalsely : Prop := fnExactPlaceChallengeRow.holds Try.pinned (OpenSpec.ofChange fnExactPlaceChallengeWrong)

/-- 'laws.FnExactBatchSums': WHATEVER THE INPUT: true; the input reads as it did. -/
def fnExactBatchSumsSpec : ChangeSpec := { name := "fnExactBatchSums", fn := fun _ => fun
  | [d1, d2, d3, d4] => { results := [.lit (.bool true)], args := [d1, d2, d3, d4] }
  | _ => none }
def fnExactBatchSumsRow : OpenClaim := { program := "ytikmcaegilhfeaa", sum := "14448f59d2d671ca6042b21f0f522f52b35780256cb962c9236f73f2cc5d5baa", func := "loop.example/g00878/laws.FnExactBatchSums", spec := "fnExactBatchSums", unfollowed := true, recurses := true, apart := false }
def FnExactBatchSumsSaid : Prop := fnExactBatchSumsRow.holds Try.pinned (OpenSpec.ofChange fnExactBatchSumsSpec)

/-- ITS FALSE NEIGHBOUR: 'it returns false'. Refute it at one input. -/
def fnExactBatchSumsWrong : ChangeSpec := { name := "fnExactBatchSums", fn := fun _ => fun
  | [d1, d2, d3, d4] => { results := [.lit (.bool false)], args := [d1, d2, d3, d4] }
  | _ => none }
def FnExactBatchSumsWrongFalsely : Prop := fnExactBatchSumsRow.holds Try.pinned (OpenSpec.ofChange fnExactBatchSumsWrong)

/-- 'laws.FnExactCastVote': WHATEVER THE INPUT: true; the input reads as it did. -/
def fnExactCastVoteSpec : ChangeSpec := { name := "fnExactCastVote", fn := fun _ => fun
  | [d1, d2, d3, d4, d5] => { results := [.lit (.bool true)], args := [d1, d2, d3, d4, d5] }
  | _ => none }
def fnExactCastVoteRow : OpenClaim := { program := "ytikmcaegilhfeaa", sum := "14448f59d2d671ca6042b21f0f522f52b35780256cb962c9236f73f2cc5d5baa", func := "loop.example/g00878/laws.FnExactCastVote", spec := "fnExactCastVote", unfollowed := true, recurses := true, apart := false }
def FnExactCastVoteSaid : Prop := fnExactCastVoteRow.holds Try.pinned (OpenSpec.ofChange fnExactCastVoteSpec)

/-- ITS FALSE NEIGHBOUR: 'it returns false'. Refute it at one input. -/
def fnExactCastVoteWrong : ChangeSpec := { name := "fnExactCastVote", fn := fun _ => fun
  | [d1, d2, d3, d4, d5] => { results := [.lit (.bool false)], args := [d1, d2, d3, d4, d5] }
  | _ => none }
def FnExactCastVoteWrongFalsely : Prop := fnExactCastVoteRow.holds Try.pinned (OpenSpec.ofChange fnExactCastVoteWrong)

/-- 'laws.FnExactPointChallenges': WHATEVER THE INPUT: true; the input reads as it did. -/
def fnExactPointChallengesSpec : ChangeSpec := { name := "fnExactPointChallenges", fn := fun _ => fun
  | [d1, d2, d3, d4, d5, d6] => { results := [.lit (.bool true)], args := [d1, d2, d3, d4, d5, d6] }
  | _ => none }
def fnExactPointChallengesRow : OpenClaim := { program := "ytikmcaegilhfeaa", sum := "14448f59d2d671ca6042b21f0f522f52b35780256cb962c9236f73f2cc5d5baa", func := "loop.example/g00878/laws.FnExactPointChallenges", spec := "fnExactPointChallenges", unfollowed := true, recurses := true, apart := false }
def FnExactPointChallengesSaid : Prop := fnExactPointChallengesRow.holds Try.pinned (OpenSpec.ofChange fnExactPointChallengesSpec)

/-- ITS FALSE NEIGHBOUR: 'it returns false'. Refute it at one input. -/
def fnExactPointChallengesWrong : ChangeSpec := { name := "fnExactPointChallenges", fn := fun _ => fun
  | [d1, d2, d3, d4, d5, d6] => { results := [.lit (.bool false)], args := [d1, d2, d3, d4, d5, d6] }
  | _ => none }
def FnExactPointChallengesWrongFalsely : Prop := fnExactPointChallengesRow.holds Try.pinned (OpenSpec.ofChange fnExactPointChallengesWrong)

/-- 'laws.FnSeats': WHATEVER THE INPUT: true; the input reads as it did. -/
def fnSeatsSpec : ChangeSpec := { name := "fnSeats", fn := fun _ => fun
  | [d1, d2] => { results := [.lit (.bool true)], args := [d1, d2] }
  | _ => none }
def fnSeatsRow : OpenClaim := { program := "ytikmcaegilhfeaa", sum := "14448f59d2d671ca6042b21f0f522f52b35780256cb962c9236f73f2cc5d5baa", func := "loop.example/g00878/laws.FnSeats", spec := "fnSeats", unfollowed := true, recurses := true, apart := false }
def FnSeatsSaid : Prop := fnSeatsRow.holds Try.pinned (OpenSpec.ofChange fnSeatsSpec)

/-- ITS FALSE NEIGHBOUR: 'it returns false'. Refute it at one input. -/
def fnSeatsWrong : ChangeSpec := { name := "fnSeats", fn := fun _ => fun
  | [d1, d2] => { results := [.lit (.bool false)], args := [d1, d2] }
  | _ => none }
def FnSeatsWrongFalsely : Prop := fnSeatsRow.holds Try.pinned (OpenSpec.ofChange fnSeatsWrong)

/-- 'laws.FnExactVerifyCast': WHATEVER THE INPUT: true; the input reads as it did. -/
def fnExactVerifyCastSpec : ChangeSpec := { name := "fnExactVerifyCast", fn := fun _ => fun
  | [d1, d2] => { results := [.lit (.bool true)], args := [d1, d2] }
  | _ => none }
def fnExactVerifyCastRow : OpenClaim := { program := "ytikmcaegilhfeaa", sum := "14448f59d2d671ca6042b21f0f522f52b35780256cb962c9236f73f2cc5d5baa", func := "loop.example/g00878/laws.FnExactVerifyCast", spec := "fnExactVerifyCast", unfollowed := true, recurses := true, apart := false }
def FnExactVerifyCastSaid : Prop := fnExactVerifyCastRow.holds Try.pinned (OpenSpec.ofChange fnExactVerifyCastSpec)

/-- ITS FALSE NEIGHBOUR: 'it returns false'. Refute it at one input. -/
def fnExactVerifyCastWrong : ChangeSpec := { name := "fnExactVerifyCast", fn := fun _ => fun
  | [d1, d2] => { results := [.lit (.bool false)], args := [d1, d2] }
  | _ => none }
def FnExactVerifyCastWrongFalsely : Prop := fnExactVerifyCastRow.holds Try.pinned (OpenSpec.ofChange fnExactVerifyCastWrong)

/-- 'laws.FnExactPlaceCommits': WHATEVER THE INPUT: true; the input reads as it did. -/
def fnExactPlaceCommitsSpec : ChangeSpec := { name := "fnExactPlaceCommits", fn := fun _ => fun
  | [d1, d2, d3] => { results := [.lit (.bool true)], args := [d1, d2, d3] }
  | _ => none }
def fnExactPlaceCommitsRow : OpenClaim := { program := "ytikmcaegilhfeaa", sum := "14448f59d2d671ca6042b21f0f522f52b35780256cb962c9236f73f2cc5d5baa", func := "loop.example/g00878/laws.FnExactPlaceCommits", spec := "fnExactPlaceCommits", unfollowed := true, recurses := true, apart := false }
def FnExactPlaceCommitsSaid : Prop := fnExactPlaceCommitsRow.holds Try.pinned (OpenSpec.ofChange fnExactPlaceCommitsSpec)

/-- ITS FALSE NEIGHBOUR: 'it returns false'. Refute it at one input. -/
def fnExactPlaceCommitsWrong : ChangeSpec := { name := "fnExactPlaceCommits", fn := fun _ => fun
  | [d1, d2, d3] => { results := [.lit (.bool false)], args := [d1, d2, d3] }
  | _ => none }
def FnExactPlaceCommitsWrongFalsely : Prop := fnExactPlaceCommitsRow.holds Try.pinned (OpenSpec.ofChange fnExactPlaceCommitsWrong)

/- THE SECOND FORM. 'bulk': how many values and letters a reading holds, each counted each time it is reached (what is shared counts as often as it is met; a slice's spare places count too). A statement '..UptoSaid' is the law's where the arguments, and the package variables that the reading takes, are together of bulk at most 1048576: NARROWER than '..Said'. Prove '..Said' where nothing that the law and all that it calls make is longer than what came in: it says more and counts as full. Else prove '..UptoSaid'. A law counts once. -/
mutual
def uptoBulk {H : Type} : DataW H → Nat
  | .lit (.string bytes) => bytes.length + 1
  | .lit _ => 1
  | .nil => 1
  | .ptr d => uptoBulk d + 1
  | .slice elems spare => uptoBulkAll elems + uptoBulkAll spare + 1
  | .agg parts => uptoBulkAll parts + 1
  | .iface _ d => uptoBulk d + 1
  | .map entries => uptoBulkEntries entries + 1
  | .held _ => 1
def uptoBulkAll {H : Type} : List (DataW H) → Nat
  | [] => 0
  | d :: r => uptoBulk d + uptoBulkAll r
def uptoBulkEntries {H : Type} : List (Lit × DataW H) → Nat
  | [] => 0
  | x :: r => uptoBulkEntry x + uptoBulkEntries r
def uptoBulkEntry {H : Type} : Lit × DataW H → Nat
  | (.string bytes, d) => bytes.length + uptoBulk d + 1
  | (_, d) => uptoBulk d + 1
 end
def uptoSmall : (H : Type) → List (DataW H) → Bool := fun _ ds => decide (uptoBulkAll ds ≤ 1048576)
def OpenSpec.upto (s : _root_.Go.ChangeSpec) : _root_.Go.OpenSpec := { _root_.Go.OpenSpec.ofChange s with cond := some uptoSmall }

/-- 'laws.FnExactRunoffWinner', WHERE WHAT IT READS IS OF BULK AT MOST 1048576: true; the input reads as it did. -/
def fnExactRunoffWinnerUptoRow : OpenClaim := { program := "ytikmcaegilhfeaa", sum := "14448f59d2d671ca6042b21f0f522f52b35780256cb962c9236f73f2cc5d5baa", func := "loop.example/g00878/laws.FnExactRunoffWinner", spec := "fnExactRunoffWinner", unfollowed := true, recurses := true, apart := false, narrowed := true }
def FnExactRunoffWinnerUptoSaid : Prop := fnExactRunoffWinnerUptoRow.holds Try.pinned (OpenSpec.upto fnExactRunoffWinnerSpec)

/-- 'laws.FnExactRunoffRounds', WHERE WHAT IT READS IS OF BULK AT MOST 1048576: true; the input reads as it did. -/
def fnExactRunoffRoundsUptoRow : OpenClaim := { program := "ytikmcaegilhfeaa", sum := "14448f59d2d671ca6042b21f0f522f52b35780256cb962c9236f73f2cc5d5baa", func := "loop.example/g00878/laws.FnExactRunoffRounds", spec := "fnExactRunoffRounds", unfollowed := true, recurses := true, apart := false, narrowed := true }
def FnExactRunoffRoundsUptoSaid : Prop := fnExactRunoffRoundsUptoRow.holds Try.pinned (OpenSpec.upto fnExactRunoffRoundsSpec)

/-- 'laws.FnExactTopOptions', WHERE WHAT IT READS IS OF BULK AT MOST 1048576: true; the input reads as it did. -/
def fnExactTopOptionsUptoRow : OpenClaim := { program := "ytikmcaegilhfeaa", sum := "14448f59d2d671ca6042b21f0f522f52b35780256cb962c9236f73f2cc5d5baa", func := "loop.example/g00878/laws.FnExactTopOptions", spec := "fnExactTopOptions", unfollowed := true, recurses := true, apart := false, narrowed := true }
def FnExactTopOptionsUptoSaid : Prop := fnExactTopOptionsUptoRow.holds Try.pinned (OpenSpec.upto fnExactTopOptionsSpec)

/-- 'laws.FnExactHomomorphicTally', WHERE WHAT IT READS IS OF BULK AT MOST 1048576: true; the input reads as it did. -/
def fnExactHomomorphicTallyUptoRow : OpenClaim := { program := "ytikmcaegilhfeaa", sum := "14448f59d2d671ca6042b21f0f522f52b35780256cb962c9236f73f2cc5d5baa", func := "loop.example/g00878/laws.FnExactHomomorphicTally", spec := "fnExactHomomorphicTally", unfollowed := true, recurses := true, apart := false, narrowed := true }
def FnExactHomomorphicTallyUptoSaid : Prop := fnExactHomomorphicTallyUptoRow.holds Try.pinned (OpenSpec.upto fnExactHomomorphicTallySpec)

/-- 'laws.FnRunoff', WHERE WHAT IT READS IS OF BULK AT MOST 1048576: true; the input reads as it did. -/
def fnRunoffUptoRow : OpenClaim := { program := "ytikmcaegilhfeaa", sum := "14448f59d2d671ca6042b21f0f522f52b35780256cb962c9236f73f2cc5d5baa", func := "loop.example/g00878/laws.FnRunoff", spec := "fnRunoff", unfollowed := true, recurses := true, apart := false, narrowed := true }
def FnRunoffUptoSaid : Prop := fnRunoffUptoRow.holds Try.pinned (OpenSpec.upto fnRunoffSpec)

/-- 'laws.FnExactPlaceChallenge', WHERE WHAT IT READS IS OF BULK AT MOST 1048576: true; the input reads as it did. -/
def fnExactPlaceChallengeUptoRow : OpenClaim := { program := "ytikmcaegilhfeaa", sum := "14448f59d2d671ca6042b21f0f522f52b35780256cb962c9236f73f2cc5d5baa", func := "loop.example/g00878/laws.FnExactPlaceChallenge", spec := "fnExactPlaceChallenge", unfollowed := true, recurses := true, apart := false, narrowed := true }
def FnExactPlaceChallengeUptoSaid : Prop := fnExactPlaceChallengeUptoRow.holds Try.pinned (OpenSpec.upto fnExactPlaceChallengeSpec)

/-- 'laws.FnExactBatchSums', WHERE WHAT IT READS IS OF BULK AT MOST 1048576: true; the input reads as it did. -/
def fnExactBatchSumsUptoRow : OpenClaim := { program := "ytikmcaegilhfeaa", sum := "14448f59d2d671ca6042b21f0f522f52b35780256cb962c9236f73f2cc5d5baa", func := "loop.example/g00878/laws.FnExactBatchSums", spec := "fnExactBatchSums", unfollowed := true, recurses := true, apart := false, narrowed := true }
def FnExactBatchSumsUptoSaid : Prop := fnExactBatchSumsUptoRow.holds Try.pinned (OpenSpec.upto fnExactBatchSumsSpec)

/-- 'laws.FnExactCastVote', WHERE WHAT IT READS IS OF BULK AT MOST 1048576: true; the input reads as it did. -/
def fnExactCastVoteUptoRow : OpenClaim := { program := "ytikmcaegilhfeaa", sum := "14448f59d2d671ca6042b21f0f522f52b35780256cb962c9236f73f2cc5d5baa", func := "loop.example/g00878/laws.FnExactCastVote", spec := "fnExactCastVote", unfollowed := true, recurses := true, apart := false, narrowed := true }
def FnExactCastVoteUptoSaid : Prop := fnExactCastVoteUptoRow.holds Try.pinned (OpenSpec.upto fnExactCastVoteSpec)

/-- 'laws.FnExactPointChallenges', WHERE WHAT IT READS IS OF BULK AT MOST 1048576: true; the input reads as it did. -/
def fnExactPointChallengesUptoRow : OpenClaim := { program := "ytikmcaegilhfeaa", sum := "14448f59d2d671ca6042b21f0f522f52b35780256cb962c9236f73f2cc5d5baa", func := "loop.example/g00878/laws.FnExactPointChallenges", spec := "fnExactPointChallenges", unfollowed := true, recurses := true, apart := false, narrowed := true }
def FnExactPointChallengesUptoSaid : Prop := fnExactPointChallengesUptoRow.holds Try.pinned (OpenSpec.upto fnExactPointChallengesSpec)

/-- 'laws.FnSeats', WHERE WHAT IT READS IS OF BULK AT MOST 1048576: true; the input reads as it did. -/
def fnSeatsUptoRow : OpenClaim := { program := "ytikmcaegilhfeaa", sum := "14448f59d2d671ca6042b21f0f522f52b35780256cb962c9236f73f2cc5d5baa", func := "loop.example/g00878/laws.FnSeats", spec := "fnSeats", unfollowed := true, recurses := true, apart := false, narrowed := true }
def FnSeatsUptoSaid : Prop := fnSeatsUptoRow.holds Try.pinned (OpenSpec.upto fnSeatsSpec)

/-- 'laws.FnExactVerifyCast', WHERE WHAT IT READS IS OF BULK AT MOST 1048576: true; the input reads as it did. -/
def fnExactVerifyCastUptoRow : OpenClaim := { program := "ytikmcaegilhfeaa", sum := "14448f59d2d671ca6042b21f0f522f52b35780256cb962c9236f73f2cc5d5baa", func := "loop.example/g00878/laws.FnExactVerifyCast", spec := "fnExactVerifyCast", unfollowed := true, recurses := true, apart := false, narrowed := true }
def FnExactVerifyCastUptoSaid : Prop := fnExactVerifyCastUptoRow.holds Try.pinned (OpenSpec.upto fnExactVerifyCastSpec)

/-- 'laws.FnExactPlaceCommits', WHERE WHAT IT READS IS OF BULK AT MOST 1048576: true; the input reads as it did. -/
def fnExactPlaceCommitsUptoRow : OpenClaim := { program := "ytikmcaegilhfeaa", sum := "14448f59d2d671ca6042b21f0f522f52b35780256cb962c9236f73f2cc5d5baa", func := "loop.example/g00878/laws.FnExactPlaceCommits", spec := "fnExactPlaceCommits", unfollowed := true, recurses := true, apart := false, narrowed := true }
def FnExactPlaceCommitsUptoSaid : Prop := fnExactPlaceCommitsUptoRow.holds Try.pinned (OpenSpec.upto fnExactPlaceCommitsSpec)

end Rows
end Go.Proofs.Ytikmcaegilhfeaa
