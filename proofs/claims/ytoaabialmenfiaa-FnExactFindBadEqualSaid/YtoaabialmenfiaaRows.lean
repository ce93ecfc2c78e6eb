/-
  No cell of these rows narrows 'for every input' (looked for: loops, veiled, ifaces, maps, wideKeys, modest, calm, conditions, laid).
  DERIVED. THE GIVEN ROWS OF THIS SEAT. 4 by the template 'for every input the law returns true; each argument reads behind the call as it read before'; 0 by the template 'total and deterministic' (their statements: YtoaabialmenfiaaTotals.lean).
  GIVEN WITH THE SEED: the statements are not yours to turn. If you find one false, say at which input.
  Laid BY PROGRAM, IN A SANDBOX (cutbox-rows.mjs): the forced cells as the released guide's own fill.sh prints them over the translation 1ac5462ebaa4f8dd… (all of the seat's roots in one cut). By AI agents, Wed Nov 11 2026. No macro, syntax, notation, axiom, sorry.
-/
import Derived.Test.YtoaabialmenfiaaChecked
import GoSem.Claim
import GoSem.ClaimJoined
import GoSem.ClaimMapViews
import Derived.JoinedTies
import Derived.KernelRfl
namespace Go.Proofs.Ytoaabialmenfiaa
/- THE CELL 'sum', in the pinned program and in every row, IS THE sha256 OF THE DUMP (.gsa) THAT YtoaabialmenfiaaProg.lean LOADS. Nothing in Lean hashes anything: it is a label: what it is worth is what the hold of that sum in a sandbox is worth. -/
noncomputable def Try.pinned : Pinned := { name := "ytoaabialmenfiaa", sum := "1ac5462ebaa4f8dd4ca3be1a289babd8e984940e125a3b8308813bfd8bbedcec", checked := Try.checked }
namespace Rows
def none {H : Type} : Left H := { results := [], args := [] }

/-- 'laws.FnExactCombineBlinds': WHATEVER THE INPUT: true; the input reads as it did. -/
def fnExactCombineBlindsSpec : ChangeSpec := { name := "fnExactCombineBlinds", fn := fun _ => fun
  | [d1, d2, d3] => { results := [.lit (.bool true)], args := [d1, d2, d3] }
  | _ => none }
def fnExactCombineBlindsRow : OpenClaim := { program := "ytoaabialmenfiaa", sum := "1ac5462ebaa4f8dd4ca3be1a289babd8e984940e125a3b8308813bfd8bbedcec", func := "loop.example/g00878/laws.FnExactCombineBlinds", spec := "fnExactCombineBlinds", unfollowed := true, recurses := true, apart := false }
def FnExactCombineBlindsSaid : Prop := fnExactCombineBlindsRow.holds Try.pinned (OpenSpec.ofChange fnExactCombineBlindsSpec)

/-- ITS FALSE NEIGHBOUR: 'it returns false'. Refute it at one input. -/
def fnExactCombineBlindsWrong : ChangeSpec := { name := "fnExactCombineBlinds", fn := fun _ => fun
  | [d1, d2, d3] => { results := [.lit (.bool false)], args := [d1, d2, d3] }
  | _ => none }
def FnExactCombineBlindsWrongFalsely : Prop := fnExactCombineBlindsRow.holds Try.pinned (OpenSpec.ofChange fnExactCombineBlindsWrong)

/-- 'laws.FnExactBatchEqual': WHATEVER THE INPUT: true; the input reads as it did. -/
def fnExactBatchEqualSpec : ChangeSpec := { name := "fnExactBatchEqual", fn := fun _ => fun
  | [d1, d2, d3, d4] => { results := [.lit (.bool true)], args := [d1, d2, d3, d4] }
  | _ => none }
def fnExactBatchEqualRow : OpenClaim := { program := "ytoaabialmenfiaa", sum := "1ac5462ebaa4f8dd4ca3be1a289babd8e984940e125a3b8308813bfd8bbedcec", func := "loop.example/g00878/laws.FnExactBatchEqual", spec := "fnExactBatchEqual", unfollowed := true, recurses := true, apart := false }
def FnExactBatchEqualSaid : Prop := fnExactBatchEqualRow.holds Try.pinned (OpenSpec.ofChange fnExactBatchEqualSpec)

/-- ITS FALSE NEIGHBOUR: 'it returns false'. Refute it at one input. -/
def fnExactBatchEqualWrong : ChangeSpec := { name := "fnExactBatchEqual", fn := fun _ => fun
  | [d1, d2, d3, d4] => { results := [.lit (.bool false)], args := [d1, d2, d3, d4] }
  | _ => none }
def FnExactBatchEqualWrongFalsely : Prop := fnExactBatchEqualRow.holds Try.pinned (OpenSpec.ofChange fnExactBatchEqualWrong)

/-- 'laws.FnExactFindBadEqual': WHATEVER THE INPUT: true; the input reads as it did. -/
def fnExactFindBadEqualSpec : ChangeSpec := { name := "fnExactFindBadEqual", fn := fun _ => fun
  | [d1, d2, d3, d4] => { results := [.lit (.bool true)], args := [d1, d2, d3, d4] }
  | _ => none }
def fnExactFindBadEqualRow : OpenClaim := { program := "ytoaabialmenfiaa", sum := "1ac5462ebaa4f8dd4ca3be1a289babd8e984940e125a3b8308813bfd8bbedcec", func := "loop.example/g00878/laws.FnExactFindBadEqual", spec := "fnExactFindBadEqual", unfollowed := true, recurses := true, apart := false }
def FnExactFindBadEqualSaid : Prop := fnExactFindBadEqualRow.holds Try.pinned (OpenSpec.ofChange fnExactFindBadEqualSpec)

/-- ITS FALSE NEIGHBOUR: 'it returns false'. Refute it at one input. -/
def fnExactFindBadEqualWrong : ChangeSpec := { name := "fnExactFindBadEqual", fn := fun _ => fun
  | [d1, d2, d3, d4] => { results := [.lit (.bool false)], args := [d1, d2, d3, d4] }
  | _ => none }
def FnExactFindBadEqualWrongFalsely : Prop := fnExactFindBadEqualRow.holds Try.pinned (OpenSpec.ofChange fnExactFindBadEqualWrong)

/-- 'laws.FnExactWeedCasts': WHATEVER THE INPUT: true; the input reads as it did. -/
def fnExactWeedCastsSpec : ChangeSpec := { name := "fnExactWeedCasts", fn := fun _ => fun
  | [d1, d2, d3, d4, d5] => { results := [.lit (.bool true)], args := [d1, d2, d3, d4, d5] }
  | _ => none }
def fnExactWeedCastsRow : OpenClaim := { program := "ytoaabialmenfiaa", sum := "1ac5462ebaa4f8dd4ca3be1a289babd8e984940e125a3b8308813bfd8bbedcec", func := "loop.example/g00878/laws.FnExactWeedCasts", spec := "fnExactWeedCasts", unfollowed := true, recurses := true, apart := false }
def FnExactWeedCastsSaid : Prop := fnExactWeedCastsRow.holds Try.pinned (OpenSpec.ofChange fnExactWeedCastsSpec)

/-- ITS FALSE NEIGHBOUR: 'it returns false'. Refute it at one input. -/
def fnExactWeedCastsWrong : ChangeSpec := { name := "fnExactWeedCasts", fn := fun _ => fun
  | [d1, d2, d3, d4, d5] => { results := [.lit (.bool false)], args := [d1, d2, d3, d4, d5] }
  | _ => none }
def FnExactWeedCastsWrongFalsely : Prop := fnExactWeedCastsRow.holds Try.pinned (OpenSpec.ofChange fnExactWeedCastsWrong)

/- THE SECOND FORM. 'bulk': how many values and letters a reading holds, each counted each time it is reached (what is shared counts as often as it is met; a slice's spare places count too). A statement '..UptoSaid' is the law's where the arguments, and the package variables that the reading takes, are together of bulk at most 1048576: NARROWER than '..Said'. Prove '..Said' where nothing that the law and all that it calls make is longer than what came in: it says more and counts as full. Else prove '..UptoSaid'. A law counts once. -/
mutual
def uptoBulk {H : Type} : DataW H → Nat
  | .lit (.string bytes) => bytes.length + 1
  | .lit _ => 1
  | .nil => 1
  | .ptr d => uptoBulk d + 1
  | .slice elems spare => uptoBulkAll elems + uptoBulkAll spare + 1
  | .agg parts => uptoBulkAll parts + 1
  | .iface _ d => uptoBulk d + 1
  | .map entries => uptoBulkEntries entries + 1
  | .held _ => 1
def uptoBulkAll {H : Type} : List (DataW H) → Nat
  | [] => 0
  | d :: r => uptoBulk d + uptoBulkAll r
def uptoBulkEntries {H : Type} : List (Lit × DataW H) → Nat
  | [] => 0
  | x :: r => uptoBulkEntry x + uptoBulkEntries r
def uptoBulkEntry {H : Type} : Lit × DataW H → Nat
  | (.string bytes, d) => bytes.length + uptoBulk d + 1
  | (_, d) => uptoBulk d + 1
 end
def uptoSmall : (H : Type) → List (DataW H) → Bool := fun _ ds => decide (uptoBulkAll ds ≤ 1048576)
def OpenSpec.upto (s : _root_.Go.ChangeSpec) : _root_.Go.OpenSpec := { _root_.Go.OpenSpec.ofChange s with cond := some uptoSmall }

/-- 'laws.FnExactCombineBlinds', WHERE WHAT IT READS IS OF BULK AT MOST 1048576: true; the input reads as it did. -/
def fnExactCombineBlindsUptoRow : OpenClaim := { program := "ytoaabialmenfiaa", sum := "1ac5462ebaa4f8dd4ca3be1a289babd8e984940e125a3b8308813bfd8bbedcec", func := "loop.example/g00878/laws.FnExactCombineBlinds", spec := "fnExactCombineBlinds", unfollowed := true, recurses := true, apart := false, narrowed := true }
def FnExactCombineBlindsUptoSaid : Prop := fnExactCombineBlindsUptoRow.holds Try.pinned (OpenSpec.upto fnExactCombineBlindsSpec)

/-- 'laws.FnExactBatchEqual', WHERE WHAT IT READS IS OF BULK AT MOST 1048576: true; the input reads as it did. -/
def fnExactBatchEqualUptoRow : OpenClaim := { program := "ytoaabialmenfiaa", sum := "1ac5462ebaa4f8dd4ca3be1a289babd8e984940e125a3b8308813bfd8bbedcec", func := "loop.example/g00878/laws.FnExactBatchEqual", spec := "fnExactBatchEqual", unfollowed := true, recurses := true, apart := false, narrowed := true }
def FnExactBatchEqualUptoSaid : Prop := fnExactBatchEqualUptoRow.holds Try.pinned (OpenSpec.upto fnExactBatchEqualSpec)

/-- 'laws.FnExactFindBadEqual', WHERE WHAT IT READS IS OF BULK AT MOST 1048576: true; the input reads as it did. -/
def fnExactFindBadEqualUptoRow : OpenClaim := { program := "ytoaabialmenfiaa", sum := "1ac5462ebaa4f8dd4ca3be1a289babd8e984940e125a3b8308813bfd8bbedcec", func := "loop.example/g00878/laws.FnExactFindBadEqual", spec := "fnExactFindBadEqual", unfollowed := true, recurses := true, apart := false, narrowed := true }
def FnExactFindBadEqualUptoSaid : Prop := fnExactFindBadEqualUptoRow.holds Try.pinned (OpenSpec.upto fnExactFindBadEqualSpec)

/-- 'laws.FnExactWeedCasts', WHERE WHAT IT READS IS OF BULK AT MOST 1048576: true; the input reads as it did. -/
def fnExactWeedCastsUptoRow : OpenClaim := { program := "ytoaabialmenfiaa", sum := "1ac5462ebaa4f8dd4ca3be1a289babd8e984940e125a3b8308813bfd8bbedcec", func := "loop.example/g00878/laws.FnExactWeedCasts", spec := "fnExactWeedCasts", unfollowed := true, recurses := true, apart := false, narrowed := true }
def FnExactWeedCastsUptoSaid : Prop := fnExactWeedCastsUptoRow.holds Try.pinned (OpenSpec.upto fnExactWeedCastsSpec)

end Rows
end Go.Proofs.Ytoaabialmenfiaa
