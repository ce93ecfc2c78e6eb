/-
  No cell of these rows narrows 'for every input' (looked for: loops, veiled, ifaces, maps, wideKeys, modest, calm, conditions, laid).
  DERIVED. THE GIVEN ROWS OF THIS SEAT. 6 by the template 'for every input the law returns true; each argument reads behind the call as it read before'; 0 by the template 'total and deterministic' (their statements: YtffknfalfklleaaTotals.lean).
  GIVEN WITH THE SEED: the statements are not yours to turn. If you find one false, say at which input.
  Laid BY PROGRAM, IN A SANDBOX (cutbox-rows.mjs): the forced cells as the released guide's own fill.sh prints them over the translation 7943a52c4d77f50c… (all of the seat's roots in one cut). By AI agents, Wed Nov 11 2026. No macro, syntax, notation, axiom, sorry.
-/
import Derived.Test.YtffknfalfklleaaChecked
import GoSem.Claim
import GoSem.ClaimJoined
import GoSem.ClaimMapViews
import Derived.JoinedTies
import Derived.KernelRfl
namespace Go.Proofs.Ytffknfalfklleaa
/- THE CELL 'sum', in the pinned program and in every row, IS THE sha256 OF THE DUMP (.gsa) THAT YtffknfalfklleaaProg.lean LOADS. Nothing in Lean hashes anything: it is a label: what it is worth is what the hold of that sum in a sandbox is worth. -/
noncomputable def Try.pinned : Pinned := { name := "ytffknfalfklleaa", sum := "7943a52c4d77f50c93c15fc0767a677cfa86af4df8f8f91553c8929e6597b080", checked := Try.checked }
namespace Rows
def none {H : Type} : Left H := { results := [], args := [] }

/-- 'laws.FnExactBatchBits': WHATEVER THE INPUT: true; the input reads as it did. -/
def fnExactBatchBitsSpec : ChangeSpec := { name := "fnExactBatchBits", fn := fun _ => fun
  | [d1, d2, d3, d4] => { results := [.lit (.bool true)], args := [d1, d2, d3, d4] }
  | _ => none }
def fnExactBatchBitsRow : OpenClaim := { program := "ytffknfalfklleaa", sum := "7943a52c4d77f50c93c15fc0767a677cfa86af4df8f8f91553c8929e6597b080", func := "loop.example/g00878/laws.FnExactBatchBits", spec := "fnExactBatchBits", unfollowed := true, recurses := true, apart := false }
def FnExactBatchBitsSaid : Prop := fnExactBatchBitsRow.holds Try.pinned (OpenSpec.ofChange fnExactBatchBitsSpec)

/-- ITS FALSE NEIGHBOUR: 'it returns false'. Refute it at one input. -/
def fnExactBatchBitsWrong : ChangeSpec := { name := "fnExactBatchBits", fn := fun _ => fun
  | [d1, d2, d3, d4] => { results := [.lit (.bool false)], args := [d1, d2, d3, d4] }
  | _ => none }
def FnExactBatchBitsWrongFalsely : Prop := fnExactBatchBitsRow.holds Try.pinned (OpenSpec.ofChange fnExactBatchBitsWrong)

/-- 'laws.FnExactVerifySame': WHATEVER THE INPUT: true; the input reads as it did. -/
def fnExactVerifySameSpec : ChangeSpec := { name := "fnExactVerifySame", fn := fun _ => fun
  | [d1, d2, d3, d4, d5] => { results := [.lit (.bool true)], args := [d1, d2, d3, d4, d5] }
  | _ => none }
def fnExactVerifySameRow : OpenClaim := { program := "ytffknfalfklleaa", sum := "7943a52c4d77f50c93c15fc0767a677cfa86af4df8f8f91553c8929e6597b080", func := "loop.example/g00878/laws.FnExactVerifySame", spec := "fnExactVerifySame", unfollowed := true, recurses := true, apart := false }
def FnExactVerifySameSaid : Prop := fnExactVerifySameRow.holds Try.pinned (OpenSpec.ofChange fnExactVerifySameSpec)

/-- ITS FALSE NEIGHBOUR: 'it returns false'. Refute it at one input. -/
def fnExactVerifySameWrong : ChangeSpec := { name := "fnExactVerifySame", fn := fun _ => fun
  | [d1, d2, d3, d4, d5] => { results := [.lit (.bool false)], args := [d1, d2, d3, d4, d5] }
  | _ => none }
def FnExactVerifySameWrongFalsely : Prop := fnExactVerifySameRow.holds Try.pinned (OpenSpec.ofChange fnExactVerifySameWrong)

/-- 'laws.FnExactBatchKnowledge': WHATEVER THE INPUT: true; the input reads as it did. -/
def fnExactBatchKnowledgeSpec : ChangeSpec := { name := "fnExactBatchKnowledge", fn := fun _ => fun
  | [d1, d2, d3, d4, d5] => { results := [.lit (.bool true)], args := [d1, d2, d3, d4, d5] }
  | _ => none }
def fnExactBatchKnowledgeRow : OpenClaim := { program := "ytffknfalfklleaa", sum := "7943a52c4d77f50c93c15fc0767a677cfa86af4df8f8f91553c8929e6597b080", func := "loop.example/g00878/laws.FnExactBatchKnowledge", spec := "fnExactBatchKnowledge", unfollowed := true, recurses := true, apart := false }
def FnExactBatchKnowledgeSaid : Prop := fnExactBatchKnowledgeRow.holds Try.pinned (OpenSpec.ofChange fnExactBatchKnowledgeSpec)

/-- ITS FALSE NEIGHBOUR: 'it returns false'. Refute it at one input. -/
def fnExactBatchKnowledgeWrong : ChangeSpec := { name := "fnExactBatchKnowledge", fn := fun _ => fun
  | [d1, d2, d3, d4, d5] => { results := [.lit (.bool false)], args := [d1, d2, d3, d4, d5] }
  | _ => none }
def FnExactBatchKnowledgeWrongFalsely : Prop := fnExactBatchKnowledgeRow.holds Try.pinned (OpenSpec.ofChange fnExactBatchKnowledgeWrong)

/-- 'laws.FnExactBlindBy': WHATEVER THE INPUT: true; the input reads as it did. -/
def fnExactBlindBySpec : ChangeSpec := { name := "fnExactBlindBy", fn := fun _ => fun
  | [d1, d2, d3, d4, d5] => { results := [.lit (.bool true)], args := [d1, d2, d3, d4, d5] }
  | _ => none }
def fnExactBlindByRow : OpenClaim := { program := "ytffknfalfklleaa", sum := "7943a52c4d77f50c93c15fc0767a677cfa86af4df8f8f91553c8929e6597b080", func := "loop.example/g00878/laws.FnExactBlindBy", spec := "fnExactBlindBy", unfollowed := true, recurses := true, apart := false }
def FnExactBlindBySaid : Prop := fnExactBlindByRow.holds Try.pinned (OpenSpec.ofChange fnExactBlindBySpec)

/-- ITS FALSE NEIGHBOUR: 'it returns false'. Refute it at one input. -/
def fnExactBlindByWrong : ChangeSpec := { name := "fnExactBlindBy", fn := fun _ => fun
  | [d1, d2, d3, d4, d5] => { results := [.lit (.bool false)], args := [d1, d2, d3, d4, d5] }
  | _ => none }
def FnExactBlindByWrongFalsely : Prop := fnExactBlindByRow.holds Try.pinned (OpenSpec.ofChange fnExactBlindByWrong)

/-- 'laws.FnExactVerifyBlind': WHATEVER THE INPUT: true; the input reads as it did. -/
def fnExactVerifyBlindSpec : ChangeSpec := { name := "fnExactVerifyBlind", fn := fun _ => fun
  | [d1, d2, d3] => { results := [.lit (.bool true)], args := [d1, d2, d3] }
  | _ => none }
def fnExactVerifyBlindRow : OpenClaim := { program := "ytffknfalfklleaa", sum := "7943a52c4d77f50c93c15fc0767a677cfa86af4df8f8f91553c8929e6597b080", func := "loop.example/g00878/laws.FnExactVerifyBlind", spec := "fnExactVerifyBlind", unfollowed := true, recurses := true, apart := false }
def FnExactVerifyBlindSaid : Prop := fnExactVerifyBlindRow.holds Try.pinned (OpenSpec.ofChange fnExactVerifyBlindSpec)

/-- ITS FALSE NEIGHBOUR: 'it returns false'. Refute it at one input. -/
def fnExactVerifyBlindWrong : ChangeSpec := { name := "fnExactVerifyBlind", fn := fun _ => fun
  | [d1, d2, d3] => { results := [.lit (.bool false)], args := [d1, d2, d3] }
  | _ => none }
def FnExactVerifyBlindWrongFalsely : Prop := fnExactVerifyBlindRow.holds Try.pinned (OpenSpec.ofChange fnExactVerifyBlindWrong)

/-- 'laws.FnExactProveSame': WHATEVER THE INPUT: true; the input reads as it did. -/
def fnExactProveSameSpec : ChangeSpec := { name := "fnExactProveSame", fn := fun _ => fun
  | [d1, d2, d3, d4, d5] => { results := [.lit (.bool true)], args := [d1, d2, d3, d4, d5] }
  | _ => none }
def fnExactProveSameRow : OpenClaim := { program := "ytffknfalfklleaa", sum := "7943a52c4d77f50c93c15fc0767a677cfa86af4df8f8f91553c8929e6597b080", func := "loop.example/g00878/laws.FnExactProveSame", spec := "fnExactProveSame", unfollowed := true, recurses := true, apart := false }
def FnExactProveSameSaid : Prop := fnExactProveSameRow.holds Try.pinned (OpenSpec.ofChange fnExactProveSameSpec)

/-- ITS FALSE NEIGHBOUR: 'it returns false'. Refute it at one input. -/
def fnExactProveSameWrong : ChangeSpec := { name := "fnExactProveSame", fn := fun _ => fun
  | [d1, d2, d3, d4, d5] => { results := [.lit (.bool false)], args := [d1, d2, d3, d4, d5] }
  | _ => none }
def FnExactProveSameWrongFalsely : Prop := fnExactProveSameRow.holds Try.pinned (OpenSpec.ofChange fnExactProveSameWrong)

/- THE SECOND FORM. 'bulk': how many values and letters a reading holds, each counted each time it is reached (what is shared counts as often as it is met; a slice's spare places count too). A statement '..UptoSaid' is the law's where the arguments, and the package variables that the reading takes, are together of bulk at most 1048576: NARROWER than '..Said'. Prove '..Said' where nothing that the law and all that it calls make is longer than what came in: it says more and counts as full. Else prove '..UptoSaid'. A law counts once. -/
mutual
def uptoBulk {H : Type} : DataW H → Nat
  | .lit (.string bytes) => bytes.length + 1
  | .lit _ => 1
  | .nil => 1
  | .ptr d => uptoBulk d + 1
  | .slice elems spare => uptoBulkAll elems + uptoBulkAll spare + 1
  | .agg parts => uptoBulkAll parts + 1
  | .iface _ d => uptoBulk d + 1
  | .map entries => uptoBulkEntries entries + 1
  | .held _ => 1
def uptoBulkAll {H : Type} : List (DataW H) → Nat
  | [] => 0
  | d :: r => uptoBulk d + uptoBulkAll r
def uptoBulkEntries {H : Type} : List (Lit × DataW H) → Nat
  | [] => 0
  | x :: r => uptoBulkEntry x + uptoBulkEntries r
def uptoBulkEntry {H : Type} : Lit × DataW H → Nat
  | (.string bytes, d) => bytes.length + uptoBulk d + 1
  | (_, d) => uptoBulk d + 1
 end
def uptoSmall : (H : Type) → List (DataW H) → Bool := fun _ ds => decide (uptoBulkAll ds ≤ 1048576)
def OpenSpec.upto (s : _root_.Go.ChangeSpec) : _root_.Go.OpenSpec := { _root_.Go.OpenSpec.ofChange s with cond := some uptoSmall }

/-- 'laws.FnExactBatchBits', WHERE WHAT IT READS IS OF BULK AT MOST 1048576: true; the input reads as it did. -/
def fnExactBatchBitsUptoRow : OpenClaim := { program := "ytffknfalfklleaa", sum := "7943a52c4d77f50c93c15fc0767a677cfa86af4df8f8f91553c8929e6597b080", func := "loop.example/g00878/laws.FnExactBatchBits", spec := "fnExactBatchBits", unfollowed := true, recurses := true, apart := false, narrowed := true }
def FnExactBatchBitsUptoSaid : Prop := fnExactBatchBitsUptoRow.holds Try.pinned (OpenSpec.upto fnExactBatchBitsSpec)

/-- 'laws.FnExactVerifySame', WHERE WHAT IT READS IS OF BULK AT MOST 1048576: true; the input reads as it did. -/
def fnExactVerifySameUptoRow : OpenClaim := { program := "ytffknfalfklleaa", sum := "7943a52c4d77f50c93c15fc0767a677cfa86af4df8f8f91553c8929e6597b080", func := "loop.example/g00878/laws.FnExactVerifySame", spec := "fnExactVerifySame", unfollowed := true, recurses := true, apart := false, narrowed := true }
def FnExactVerifySameUptoSaid : Prop := fnExactVerifySameUptoRow.holds Try.pinned (OpenSpec.upto fnExactVerifySameSpec)

/-- 'laws.FnExactBatchKnowledge', WHERE WHAT IT READS IS OF BULK AT MOST 1048576: true; the input reads as it did. -/
def fnExactBatchKnowledgeUptoRow : OpenClaim := { program := "ytffknfalfklleaa", sum := "7943a52c4d77f50c93c15fc0767a677cfa86af4df8f8f91553c8929e6597b080", func := "loop.example/g00878/laws.FnExactBatchKnowledge", spec := "fnExactBatchKnowledge", unfollowed := true, recurses := true, apart := false, narrowed := true }
def FnExactBatchKnowledgeUptoSaid : Prop := fnExactBatchKnowledgeUptoRow.holds Try.pinned (OpenSpec.upto fnExactBatchKnowledgeSpec)

/-- 'laws.FnExactBlindBy', WHERE WHAT IT READS IS OF BULK AT MOST 1048576: true; the input reads as it did. -/
def fnExactBlindByUptoRow : OpenClaim := { program := "ytffknfalfklleaa", sum := "7943a52c4d77f50c93c15fc0767a677cfa86af4df8f8f91553c8929e6597b080", func := "loop.example/g00878/laws.FnExactBlindBy", spec := "fnExactBlindBy", unfollowed := true, recurses := true, apart := false, narrowed := true }
def FnExactBlindByUptoSaid : Prop := fnExactBlindByUptoRow.holds Try.pinned (OpenSpec.upto fnExactBlindBySpec)

/-- 'laws.FnExactVerifyBlind', WHERE WHAT IT READS IS OF BULK AT MOST 1048576: true; the input reads as it did. -/
def fnExactVerifyBlindUptoRow : OpenClaim := { program := "ytffknfalfklleaa", sum := "7943a52c4d77f50c93c15fc0767a677cfa86af4df8f8f91553c8929e6597b080", func := "loop.example/g00878/laws.FnExactVerifyBlind", spec := "fnExactVerifyBlind", unfollowed := true, recurses := true, apart := false, narrowed := true }
def FnExactVerifyBlindUptoSaid : Prop := fnExactVerifyBlindUptoRow.holds Try.pinned (OpenSpec.upto fnExactVerifyBlindSpec)

/-- 'laws.FnExactProveSame', WHERE WHAT IT READS IS OF BULK AT MOST 1048576: true; the input reads as it did. -/
def fnExactProveSameUptoRow : OpenClaim := { program := "ytffknfalfklleaa", sum := "7943a52c4d77f50c93c15fc0767a677cfa86af4df8f8f91553c8929e6597b080", func := "loop.example/g00878/laws.FnExactProveSame", spec := "fnExactProveSame", unfollowed := true, recurses := true, apart := false, narrowed := true }
def FnExactProveSameUptoSaid : Prop := fnExactProveSameUptoRow.holds Try.pinned (OpenSpec.upto fnExactProveSameSpec)

end Rows
end Go.Proofs.Ytffknfalfklleaa
