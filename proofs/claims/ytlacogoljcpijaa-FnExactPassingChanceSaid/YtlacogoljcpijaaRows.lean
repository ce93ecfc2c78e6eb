/-
  No cell of these rows narrows 'for every input' (looked for: loops, veiled, ifaces, maps, wideKeys, modest, calm, conditions, laid).
  DERIVED. THE GIVEN ROWS OF THIS SEAT. 11 by the template 'for every input the law returns true; each argument reads behind the call as it read before'; 0 by the template 'total and deterministic' (their statements: YtlacogoljcpijaaTotals.lean).
  GIVEN WITH THE SEED: the statements are not yours to turn. If you find one false, say at which input.
  Laid BY PROGRAM, IN A SANDBOX (cutbox-rows.mjs): the forced cells as the released guide's own fill.sh prints them over the translation 2c2d45891b902bd0… (all of the seat's roots in one cut). By AI agents, Wed Nov 11 2026. No macro, syntax, notation, axiom, sorry.
-/
import Derived.Test.YtlacogoljcpijaaChecked
import GoSem.Claim
import GoSem.ClaimJoined
import GoSem.ClaimMapViews
import Derived.JoinedTies
import Derived.KernelRfl
namespace Go.Proofs.Ytlacogoljcpijaa
/- THE CELL 'sum', in the pinned program and in every row, IS THE sha256 OF THE DUMP (.gsa) THAT YtlacogoljcpijaaProg.lean LOADS. Nothing in Lean hashes anything: it is a label: what it is worth is what the hold of that sum in a sandbox is worth. -/
noncomputable def Try.pinned : Pinned := { name := "ytlacogoljcpijaa", sum := "2c2d45891b902bd0865868e1bde30b539d5b59cdc58344cffb2a0438bc17485b", checked := Try.checked }
namespace Rows
def none {H : Type} : Left H := { results := [], args := [] }

/-- 'laws.FnExactFalseEqualCount': WHATEVER THE INPUT: true; the input reads as it did. -/
def fnExactFalseEqualCountSpec : ChangeSpec := { name := "fnExactFalseEqualCount", fn := fun _ => fun
  | [d1, d2] => { results := [.lit (.bool true)], args := [d1, d2] }
  | _ => none }
def fnExactFalseEqualCountRow : OpenClaim := { program := "ytlacogoljcpijaa", sum := "2c2d45891b902bd0865868e1bde30b539d5b59cdc58344cffb2a0438bc17485b", func := "loop.example/g00878/laws.FnExactFalseEqualCount", spec := "fnExactFalseEqualCount", apart := false }
def FnExactFalseEqualCountSaid : Prop := fnExactFalseEqualCountRow.holds Try.pinned (OpenSpec.ofChange fnExactFalseEqualCountSpec)

/-- ITS FALSE NEIGHBOUR: 'it returns false'. Refute it at one input. -/
def fnExactFalseEqualCountWrong : ChangeSpec := { name := "fnExactFalseEqualCount", fn := fun _ => fun
  | [d1, d2] => { results := [.lit (.bool false)], args := [d1, d2] }
  | _ => none }
def FnExactFalseEqualCountWrongFalsely : Prop := fnExactFalseEqualCountRow.holds Try.pinned (OpenSpec.ofChange fnExactFalseEqualCountWrong)

/-- 'laws.FnExactLastOfEach': WHATEVER THE INPUT: true; the input reads as it did. -/
def fnExactLastOfEachSpec : ChangeSpec := { name := "fnExactLastOfEach", fn := fun _ => fun
  | [d] => { results := [.lit (.bool true)], args := [d] }
  | _ => none }
def fnExactLastOfEachRow : OpenClaim := { program := "ytlacogoljcpijaa", sum := "2c2d45891b902bd0865868e1bde30b539d5b59cdc58344cffb2a0438bc17485b", func := "loop.example/g00878/laws.FnExactLastOfEach", spec := "fnExactLastOfEach", apart := false }
def FnExactLastOfEachSaid : Prop := fnExactLastOfEachRow.holds Try.pinned (OpenSpec.ofChange fnExactLastOfEachSpec)

/-- ITS FALSE NEIGHBOUR: 'it returns false'. Refute it at one input. -/
def fnExactLastOfEachWrong : ChangeSpec := { name := "fnExactLastOfEach", fn := fun _ => fun
  | [d] => { results := [.lit (.bool false)], args := [d] }
  | _ => none }
def FnExactLastOfEachWrongFalsely : Prop := fnExactLastOfEachRow.holds Try.pinned (OpenSpec.ofChange fnExactLastOfEachWrong)

/-- 'laws.FnExactCredentialOf': WHATEVER THE INPUT: true; the input reads as it did. -/
def fnExactCredentialOfSpec : ChangeSpec := { name := "fnExactCredentialOf", fn := fun _ => fun
  | [d1, d2] => { results := [.lit (.bool true)], args := [d1, d2] }
  | _ => none }
def fnExactCredentialOfRow : OpenClaim := { program := "ytlacogoljcpijaa", sum := "2c2d45891b902bd0865868e1bde30b539d5b59cdc58344cffb2a0438bc17485b", func := "loop.example/g00878/laws.FnExactCredentialOf", spec := "fnExactCredentialOf", apart := false }
def FnExactCredentialOfSaid : Prop := fnExactCredentialOfRow.holds Try.pinned (OpenSpec.ofChange fnExactCredentialOfSpec)

/-- ITS FALSE NEIGHBOUR: 'it returns false'. Refute it at one input. -/
def fnExactCredentialOfWrong : ChangeSpec := { name := "fnExactCredentialOf", fn := fun _ => fun
  | [d1, d2] => { results := [.lit (.bool false)], args := [d1, d2] }
  | _ => none }
def FnExactCredentialOfWrongFalsely : Prop := fnExactCredentialOfRow.holds Try.pinned (OpenSpec.ofChange fnExactCredentialOfWrong)

/-- 'laws.FnExactDivisorSeats': WHATEVER THE INPUT: true; the input reads as it did. -/
def fnExactDivisorSeatsSpec : ChangeSpec := { name := "fnExactDivisorSeats", fn := fun _ => fun
  | [d1, d2] => { results := [.lit (.bool true)], args := [d1, d2] }
  | _ => none }
def fnExactDivisorSeatsRow : OpenClaim := { program := "ytlacogoljcpijaa", sum := "2c2d45891b902bd0865868e1bde30b539d5b59cdc58344cffb2a0438bc17485b", func := "loop.example/g00878/laws.FnExactDivisorSeats", spec := "fnExactDivisorSeats", unfollowed := true, recurses := true, apart := false }
def FnExactDivisorSeatsSaid : Prop := fnExactDivisorSeatsRow.holds Try.pinned (OpenSpec.ofChange fnExactDivisorSeatsSpec)

/-- ITS FALSE NEIGHBOUR: 'it returns false'. Refute it at one input. -/
def fnExactDivisorSeatsWrong : ChangeSpec := { name := "fnExactDivisorSeats", fn := fun _ => fun
  | [d1, d2] => { results := [.lit (.bool false)], args := [d1, d2] }
  | _ => none }
def FnExactDivisorSeatsWrongFalsely : Prop := fnExactDivisorSeatsRow.holds Try.pinned (OpenSpec.ofChange fnExactDivisorSeatsWrong)

/-- 'laws.FnExactNodeDigest': WHATEVER THE INPUT: true; the input reads as it did. -/
def fnExactNodeDigestSpec : ChangeSpec := { name := "fnExactNodeDigest", fn := fun _ => fun
  | [d1, d2] => { results := [.lit (.bool true)], args := [d1, d2] }
  | _ => none }
def fnExactNodeDigestRow : OpenClaim := { program := "ytlacogoljcpijaa", sum := "2c2d45891b902bd0865868e1bde30b539d5b59cdc58344cffb2a0438bc17485b", func := "loop.example/g00878/laws.FnExactNodeDigest", spec := "fnExactNodeDigest", unfollowed := true, recurses := true, apart := false }
def FnExactNodeDigestSaid : Prop := fnExactNodeDigestRow.holds Try.pinned (OpenSpec.ofChange fnExactNodeDigestSpec)

/-- ITS FALSE NEIGHBOUR: 'it returns false'. Refute it at one input. -/
def fnExactNodeDigestWrong : ChangeSpec := { name := "fnExactNodeDigest", fn := fun _ => fun
  | [d1, d2] => { results := [.lit (.bool false)], args := [d1, d2] }
  | _ => none }
def FnExactNodeDigestWrongFalsely : Prop := fnExactNodeDigestRow.holds Try.pinned (OpenSpec.ofChange fnExactNodeDigestWrong)

/-- 'laws.FnExactPossibleLinks': WHATEVER THE INPUT: true; the input reads as it did. -/
def fnExactPossibleLinksSpec : ChangeSpec := { name := "fnExactPossibleLinks", fn := fun _ => fun
  | [d1, d2, d3] => { results := [.lit (.bool true)], args := [d1, d2, d3] }
  | _ => none }
def fnExactPossibleLinksRow : OpenClaim := { program := "ytlacogoljcpijaa", sum := "2c2d45891b902bd0865868e1bde30b539d5b59cdc58344cffb2a0438bc17485b", func := "loop.example/g00878/laws.FnExactPossibleLinks", spec := "fnExactPossibleLinks", unfollowed := true, recurses := true, apart := false }
def FnExactPossibleLinksSaid : Prop := fnExactPossibleLinksRow.holds Try.pinned (OpenSpec.ofChange fnExactPossibleLinksSpec)

/-- ITS FALSE NEIGHBOUR: 'it returns false'. Refute it at one input. -/
def fnExactPossibleLinksWrong : ChangeSpec := { name := "fnExactPossibleLinks", fn := fun _ => fun
  | [d1, d2, d3] => { results := [.lit (.bool false)], args := [d1, d2, d3] }
  | _ => none }
def FnExactPossibleLinksWrongFalsely : Prop := fnExactPossibleLinksRow.holds Try.pinned (OpenSpec.ofChange fnExactPossibleLinksWrong)

/-- 'laws.FnExactLeafDigest': WHATEVER THE INPUT: true; the input reads as it did. -/
def fnExactLeafDigestSpec : ChangeSpec := { name := "fnExactLeafDigest", fn := fun _ => fun
  | [d] => { results := [.lit (.bool true)], args := [d] }
  | _ => none }
def fnExactLeafDigestRow : OpenClaim := { program := "ytlacogoljcpijaa", sum := "2c2d45891b902bd0865868e1bde30b539d5b59cdc58344cffb2a0438bc17485b", func := "loop.example/g00878/laws.FnExactLeafDigest", spec := "fnExactLeafDigest", unfollowed := true, recurses := true, apart := false }
def FnExactLeafDigestSaid : Prop := fnExactLeafDigestRow.holds Try.pinned (OpenSpec.ofChange fnExactLeafDigestSpec)

/-- ITS FALSE NEIGHBOUR: 'it returns false'. Refute it at one input. -/
def fnExactLeafDigestWrong : ChangeSpec := { name := "fnExactLeafDigest", fn := fun _ => fun
  | [d] => { results := [.lit (.bool false)], args := [d] }
  | _ => none }
def FnExactLeafDigestWrongFalsely : Prop := fnExactLeafDigestRow.holds Try.pinned (OpenSpec.ofChange fnExactLeafDigestWrong)

/-- 'laws.FnExactCountPassing': WHATEVER THE INPUT: true; the input reads as it did. -/
def fnExactCountPassingSpec : ChangeSpec := { name := "fnExactCountPassing", fn := fun _ => fun
  | [d1, d2] => { results := [.lit (.bool true)], args := [d1, d2] }
  | _ => none }
def fnExactCountPassingRow : OpenClaim := { program := "ytlacogoljcpijaa", sum := "2c2d45891b902bd0865868e1bde30b539d5b59cdc58344cffb2a0438bc17485b", func := "loop.example/g00878/laws.FnExactCountPassing", spec := "fnExactCountPassing", unfollowed := true, recurses := true, apart := false }
def FnExactCountPassingSaid : Prop := fnExactCountPassingRow.holds Try.pinned (OpenSpec.ofChange fnExactCountPassingSpec)

/-- ITS FALSE NEIGHBOUR: 'it returns false'. Refute it at one input. -/
def fnExactCountPassingWrong : ChangeSpec := { name := "fnExactCountPassing", fn := fun _ => fun
  | [d1, d2] => { results := [.lit (.bool false)], args := [d1, d2] }
  | _ => none }
def FnExactCountPassingWrongFalsely : Prop := fnExactCountPassingRow.holds Try.pinned (OpenSpec.ofChange fnExactCountPassingWrong)

/-- 'laws.FnExactFakeCredential': WHATEVER THE INPUT: true; the input reads as it did. -/
def fnExactFakeCredentialSpec : ChangeSpec := { name := "fnExactFakeCredential", fn := fun _ => fun
  | [d1, d2, d3] => { results := [.lit (.bool true)], args := [d1, d2, d3] }
  | _ => none }
def fnExactFakeCredentialRow : OpenClaim := { program := "ytlacogoljcpijaa", sum := "2c2d45891b902bd0865868e1bde30b539d5b59cdc58344cffb2a0438bc17485b", func := "loop.example/g00878/laws.FnExactFakeCredential", spec := "fnExactFakeCredential", apart := false }
def FnExactFakeCredentialSaid : Prop := fnExactFakeCredentialRow.holds Try.pinned (OpenSpec.ofChange fnExactFakeCredentialSpec)

/-- ITS FALSE NEIGHBOUR: 'it returns false'. Refute it at one input. -/
def fnExactFakeCredentialWrong : ChangeSpec := { name := "fnExactFakeCredential", fn := fun _ => fun
  | [d1, d2, d3] => { results := [.lit (.bool false)], args := [d1, d2, d3] }
  | _ => none }
def FnExactFakeCredentialWrongFalsely : Prop := fnExactFakeCredentialRow.holds Try.pinned (OpenSpec.ofChange fnExactFakeCredentialWrong)

/-- 'laws.FnExactQuotientOf': WHATEVER THE INPUT: true; the input reads as it did. -/
def fnExactQuotientOfSpec : ChangeSpec := { name := "fnExactQuotientOf", fn := fun _ => fun
  | [d1, d2, d3] => { results := [.lit (.bool true)], args := [d1, d2, d3] }
  | _ => none }
def fnExactQuotientOfRow : OpenClaim := { program := "ytlacogoljcpijaa", sum := "2c2d45891b902bd0865868e1bde30b539d5b59cdc58344cffb2a0438bc17485b", func := "loop.example/g00878/laws.FnExactQuotientOf", spec := "fnExactQuotientOf", apart := false }
def FnExactQuotientOfSaid : Prop := fnExactQuotientOfRow.holds Try.pinned (OpenSpec.ofChange fnExactQuotientOfSpec)

/-- ITS FALSE NEIGHBOUR: 'it returns false'. Refute it at one input. -/
def fnExactQuotientOfWrong : ChangeSpec := { name := "fnExactQuotientOf", fn := fun _ => fun
  | [d1, d2, d3] => { results := [.lit (.bool false)], args := [d1, d2, d3] }
  | _ => none }
def FnExactQuotientOfWrongFalsely : Prop := fnExactQuotientOfRow.holds Try.pinned (OpenSpec.ofChange fnExactQuotientOfWrong)

/-- 'laws.FnExactPassingChance': WHATEVER THE INPUT: true; the input reads as it did. -/
def fnExactPassingChanceSpec : ChangeSpec := { name := "fnExactPassingChance", fn := fun _ => fun
  | [d1, d2] => { results := [.lit (.bool true)], args := [d1, d2] }
  | _ => none }
def fnExactPassingChanceRow : OpenClaim := { program := "ytlacogoljcpijaa", sum := "2c2d45891b902bd0865868e1bde30b539d5b59cdc58344cffb2a0438bc17485b", func := "loop.example/g00878/laws.FnExactPassingChance", spec := "fnExactPassingChance", unfollowed := true, recurses := true, apart := false }
def FnExactPassingChanceSaid : Prop := fnExactPassingChanceRow.holds Try.pinned (OpenSpec.ofChange fnExactPassingChanceSpec)

/-- ITS FALSE NEIGHBOUR: 'it returns false'. Refute it at one input. -/
def fnExactPassingChanceWrong : ChangeSpec := { name := "fnExactPassingChance", fn := fun _ => fun
  | [d1, d2] => { results := [.lit (.bool false)], args := [d1, d2] }
  | _ => none }
def FnExactPassingChanceWrongFalsely : Prop := fnExactPassingChanceRow.holds Try.pinned (OpenSpec.ofChange fnExactPassingChanceWrong)

/- THE SECOND FORM. 'bulk': how many values and letters a reading holds, each counted each time it is reached (what is shared counts as often as it is met; a slice's spare places count too). A statement '..UptoSaid' is the law's where the arguments, and the package variables that the reading takes, are together of bulk at most 1048576: NARROWER than '..Said'. Prove '..Said' where nothing that the law and all that it calls make is longer than what came in: it says more and counts as full. Else prove '..UptoSaid'. A law counts once. -/
mutual
def uptoBulk {H : Type} : DataW H → Nat
  | .lit (.string bytes) => bytes.length + 1
  | .lit _ => 1
  | .nil => 1
  | .ptr d => uptoBulk d + 1
  | .slice elems spare => uptoBulkAll elems + uptoBulkAll spare + 1
  | .agg parts => uptoBulkAll parts + 1
  | .iface _ d => uptoBulk d + 1
  | .map entries => uptoBulkEntries entries + 1
  | .held _ => 1
def uptoBulkAll {H : Type} : List (DataW H) → Nat
  | [] => 0
  | d :: r => uptoBulk d + uptoBulkAll r
def uptoBulkEntries {H : Type} : List (Lit × DataW H) → Nat
  | [] => 0
  | x :: r => uptoBulkEntry x + uptoBulkEntries r
def uptoBulkEntry {H : Type} : Lit × DataW H → Nat
  | (.string bytes, d) => bytes.length + uptoBulk d + 1
  | (_, d) => uptoBulk d + 1
 end
def uptoSmall : (H : Type) → List (DataW H) → Bool := fun _ ds => decide (uptoBulkAll ds ≤ 1048576)
def OpenSpec.upto (s : _root_.Go.ChangeSpec) : _root_.Go.OpenSpec := { _root_.Go.OpenSpec.ofChange s with cond := some uptoSmall }

/-- 'laws.FnExactFalseEqualCount', WHERE WHAT IT READS IS OF BULK AT MOST 1048576: true; the input reads as it did. -/
def fnExactFalseEqualCountUptoRow : OpenClaim := { program := "ytlacogoljcpijaa", sum := "2c2d45891b902bd0865868e1bde30b539d5b59cdc58344cffb2a0438bc17485b", func := "loop.example/g00878/laws.FnExactFalseEqualCount", spec := "fnExactFalseEqualCount", apart := false, narrowed := true }
def FnExactFalseEqualCountUptoSaid : Prop := fnExactFalseEqualCountUptoRow.holds Try.pinned (OpenSpec.upto fnExactFalseEqualCountSpec)

/-- 'laws.FnExactLastOfEach', WHERE WHAT IT READS IS OF BULK AT MOST 1048576: true; the input reads as it did. -/
def fnExactLastOfEachUptoRow : OpenClaim := { program := "ytlacogoljcpijaa", sum := "2c2d45891b902bd0865868e1bde30b539d5b59cdc58344cffb2a0438bc17485b", func := "loop.example/g00878/laws.FnExactLastOfEach", spec := "fnExactLastOfEach", apart := false, narrowed := true }
def FnExactLastOfEachUptoSaid : Prop := fnExactLastOfEachUptoRow.holds Try.pinned (OpenSpec.upto fnExactLastOfEachSpec)

/-- 'laws.FnExactCredentialOf', WHERE WHAT IT READS IS OF BULK AT MOST 1048576: true; the input reads as it did. -/
def fnExactCredentialOfUptoRow : OpenClaim := { program := "ytlacogoljcpijaa", sum := "2c2d45891b902bd0865868e1bde30b539d5b59cdc58344cffb2a0438bc17485b", func := "loop.example/g00878/laws.FnExactCredentialOf", spec := "fnExactCredentialOf", apart := false, narrowed := true }
def FnExactCredentialOfUptoSaid : Prop := fnExactCredentialOfUptoRow.holds Try.pinned (OpenSpec.upto fnExactCredentialOfSpec)

/-- 'laws.FnExactDivisorSeats', WHERE WHAT IT READS IS OF BULK AT MOST 1048576: true; the input reads as it did. -/
def fnExactDivisorSeatsUptoRow : OpenClaim := { program := "ytlacogoljcpijaa", sum := "2c2d45891b902bd0865868e1bde30b539d5b59cdc58344cffb2a0438bc17485b", func := "loop.example/g00878/laws.FnExactDivisorSeats", spec := "fnExactDivisorSeats", unfollowed := true, recurses := true, apart := false, narrowed := true }
def FnExactDivisorSeatsUptoSaid : Prop := fnExactDivisorSeatsUptoRow.holds Try.pinned (OpenSpec.upto fnExactDivisorSeatsSpec)

/-- 'laws.FnExactNodeDigest', WHERE WHAT IT READS IS OF BULK AT MOST 1048576: true; the input reads as it did. -/
def fnExactNodeDigestUptoRow : OpenClaim := { program := "ytlacogoljcpijaa", sum := "2c2d45891b902bd0865868e1bde30b539d5b59cdc58344cffb2a0438bc17485b", func := "loop.example/g00878/laws.FnExactNodeDigest", spec := "fnExactNodeDigest", unfollowed := true, recurses := true, apart := false, narrowed := true }
def FnExactNodeDigestUptoSaid : Prop := fnExactNodeDigestUptoRow.holds Try.pinned (OpenSpec.upto fnExactNodeDigestSpec)

/-- 'laws.FnExactPossibleLinks', WHERE WHAT IT READS IS OF BULK AT MOST 1048576: true; the input reads as it did. -/
def fnExactPossibleLinksUptoRow : OpenClaim := { program := "ytlacogoljcpijaa", sum := "2c2d45891b902bd0865868e1bde30b539d5b59cdc58344cffb2a0438bc17485b", func := "loop.example/g00878/laws.FnExactPossibleLinks", spec := "fnExactPossibleLinks", unfollowed := true, recurses := true, apart := false, narrowed := true }
def FnExactPossibleLinksUptoSaid : Prop := fnExactPossibleLinksUptoRow.holds Try.pinned (OpenSpec.upto fnExactPossibleLinksSpec)

/-- 'laws.FnExactLeafDigest', WHERE WHAT IT READS IS OF BULK AT MOST 1048576: true; the input reads as it did. -/
def fnExactLeafDigestUptoRow : OpenClaim := { program := "ytlacogoljcpijaa", sum := "2c2d45891b902bd0865868e1bde30b539d5b59cdc58344cffb2a0438bc17485b", func := "loop.example/g00878/laws.FnExactLeafDigest", spec := "fnExactLeafDigest", unfollowed := true, recurses := true, apart := false, narrowed := true }
def FnExactLeafDigestUptoSaid : Prop := fnExactLeafDigestUptoRow.holds Try.pinned (OpenSpec.upto fnExactLeafDigestSpec)

/-- 'laws.FnExactCountPassing', WHERE WHAT IT READS IS OF BULK AT MOST 1048576: true; the input reads as it did. -/
def fnExactCountPassingUptoRow : OpenClaim := { program := "ytlacogoljcpijaa", sum := "2c2d45891b902bd0865868e1bde30b539d5b59cdc58344cffb2a0438bc17485b", func := "loop.example/g00878/laws.FnExactCountPassing", spec := "fnExactCountPassing", unfollowed := true, recurses := true, apart := false, narrowed := true }
def FnExactCountPassingUptoSaid : Prop := fnExactCountPassingUptoRow.holds Try.pinned (OpenSpec.upto fnExactCountPassingSpec)

/-- 'laws.FnExactFakeCredential', WHERE WHAT IT READS IS OF BULK AT MOST 1048576: true; the input reads as it did. -/
def fnExactFakeCredentialUptoRow : OpenClaim := { program := "ytlacogoljcpijaa", sum := "2c2d45891b902bd0865868e1bde30b539d5b59cdc58344cffb2a0438bc17485b", func := "loop.example/g00878/laws.FnExactFakeCredential", spec := "fnExactFakeCredential", apart := false, narrowed := true }
def FnExactFakeCredentialUptoSaid : Prop := fnExactFakeCredentialUptoRow.holds Try.pinned (OpenSpec.upto fnExactFakeCredentialSpec)

/-- 'laws.FnExactQuotientOf', WHERE WHAT IT READS IS OF BULK AT MOST 1048576: true; the input reads as it did. -/
def fnExactQuotientOfUptoRow : OpenClaim := { program := "ytlacogoljcpijaa", sum := "2c2d45891b902bd0865868e1bde30b539d5b59cdc58344cffb2a0438bc17485b", func := "loop.example/g00878/laws.FnExactQuotientOf", spec := "fnExactQuotientOf", apart := false, narrowed := true }
def FnExactQuotientOfUptoSaid : Prop := fnExactQuotientOfUptoRow.holds Try.pinned (OpenSpec.upto fnExactQuotientOfSpec)

/-- 'laws.FnExactPassingChance', WHERE WHAT IT READS IS OF BULK AT MOST 1048576: true; the input reads as it did. -/
def fnExactPassingChanceUptoRow : OpenClaim := { program := "ytlacogoljcpijaa", sum := "2c2d45891b902bd0865868e1bde30b539d5b59cdc58344cffb2a0438bc17485b", func := "loop.example/g00878/laws.FnExactPassingChance", spec := "fnExactPassingChance", unfollowed := true, recurses := true, apart := false, narrowed := true }
def FnExactPassingChanceUptoSaid : Prop := fnExactPassingChanceUptoRow.holds Try.pinned (OpenSpec.upto fnExactPassingChanceSpec)

end Rows
end Go.Proofs.Ytlacogoljcpijaa
