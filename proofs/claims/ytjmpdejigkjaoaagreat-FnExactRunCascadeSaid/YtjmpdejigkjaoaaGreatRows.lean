/-
  No cell of these rows narrows 'for every input' (looked for: loops, veiled, ifaces, maps, wideKeys, modest, calm, conditions, laid).
  DERIVED. THE GIVEN ROWS OF THIS SEAT. 5 by the template 'for every input the law returns true; each argument reads behind the call as it read before'; 0 by the template 'total and deterministic' (their statements: YtjmpdejigkjaoaaGreatTotals.lean).
  GIVEN WITH THE SEED: the statements are not yours to turn. If you find one false, say at which input.
  Laid BY PROGRAM, IN A SANDBOX (cutbox-rows.mjs): the forced cells as the released guide's own fill.sh prints them over the translation cb660825ba58ec1b… (all of the seat's roots in one cut). By AI agents, Wed Nov 11 2026. No macro, syntax, notation, axiom, sorry.
-/
import Derived.Test.YtjmpdejigkjaoaaGreatChecked
import GoSem.Claim
import GoSem.ClaimJoined
import GoSem.ClaimMapViews
import Derived.JoinedTies
import Derived.KernelRfl
namespace Go.Proofs.YtjmpdejigkjaoaaGreat
/- THE CELL 'sum', in the pinned program and in every row, IS THE sha256 OF THE DUMP (.gsa) THAT YtjmpdejigkjaoaaGreatProg.lean LOADS. Nothing in Lean hashes anything: it is a label: what it is worth is what the hold of that sum in a sandbox is worth. -/
noncomputable def Tryz.pinned : Pinned := { name := "ytjmpdejigkjaoaagreat", sum := "cb660825ba58ec1bcbb55ac294f6c9abfcbea57b7c75e6a484f2c2ee86ccbb68", checked := Tryz.checked }
namespace Rows
def none {H : Type} : Left H := { results := [], args := [] }

/-- 'laws.FnExactAcceptedStages': WHATEVER THE INPUT: true; the input reads as it did. -/
def fnExactAcceptedStagesSpec : ChangeSpec := { name := "fnExactAcceptedStages", fn := fun _ => fun
  | [d1, d2, d3, d4] => { results := [.lit (.bool true)], args := [d1, d2, d3, d4] }
  | _ => none }
def fnExactAcceptedStagesRow : OpenClaim := { program := "ytjmpdejigkjaoaagreat", sum := "cb660825ba58ec1bcbb55ac294f6c9abfcbea57b7c75e6a484f2c2ee86ccbb68", func := "loop.example/g00878/laws.FnExactAcceptedStages", spec := "fnExactAcceptedStages", unfollowed := true, recurses := true, apart := false }
def FnExactAcceptedStagesSaid : Prop := fnExactAcceptedStagesRow.holds Tryz.pinned (OpenSpec.ofChange fnExactAcceptedStagesSpec)

/-- ITS FALSE NEIGHBOUR: 'it returns false'. Refute it at one input. -/
def fnExactAcceptedStagesWrong : ChangeSpec := { name := "fnExactAcceptedStages", fn := fun _ => fun
  | [d1, d2, d3, d4] => { results := [.lit (.bool false)], args := [d1, d2, d3, d4] }
  | _ => none }
def FnExactAcceptedStagesWrongFalsely : Prop := fnExactAcceptedStagesRow.holds Tryz.pinned (OpenSpec.ofChange fnExactAcceptedStagesWrong)

/-- 'laws.FnExactVerifyStage': WHATEVER THE INPUT: true; the input reads as it did. -/
def fnExactVerifyStageSpec : ChangeSpec := { name := "fnExactVerifyStage", fn := fun _ => fun
  | [d1, d2, d3, d4] => { results := [.lit (.bool true)], args := [d1, d2, d3, d4] }
  | _ => none }
def fnExactVerifyStageRow : OpenClaim := { program := "ytjmpdejigkjaoaagreat", sum := "cb660825ba58ec1bcbb55ac294f6c9abfcbea57b7c75e6a484f2c2ee86ccbb68", func := "loop.example/g00878/laws.FnExactVerifyStage", spec := "fnExactVerifyStage", unfollowed := true, recurses := true, apart := false }
def FnExactVerifyStageSaid : Prop := fnExactVerifyStageRow.holds Tryz.pinned (OpenSpec.ofChange fnExactVerifyStageSpec)

/-- ITS FALSE NEIGHBOUR: 'it returns false'. Refute it at one input. -/
def fnExactVerifyStageWrong : ChangeSpec := { name := "fnExactVerifyStage", fn := fun _ => fun
  | [d1, d2, d3, d4] => { results := [.lit (.bool false)], args := [d1, d2, d3, d4] }
  | _ => none }
def FnExactVerifyStageWrongFalsely : Prop := fnExactVerifyStageRow.holds Tryz.pinned (OpenSpec.ofChange fnExactVerifyStageWrong)

/-- 'laws.FnExactFirstBadStage': WHATEVER THE INPUT: true; the input reads as it did. -/
def fnExactFirstBadStageSpec : ChangeSpec := { name := "fnExactFirstBadStage", fn := fun _ => fun
  | [d1, d2, d3, d4] => { results := [.lit (.bool true)], args := [d1, d2, d3, d4] }
  | _ => none }
def fnExactFirstBadStageRow : OpenClaim := { program := "ytjmpdejigkjaoaagreat", sum := "cb660825ba58ec1bcbb55ac294f6c9abfcbea57b7c75e6a484f2c2ee86ccbb68", func := "loop.example/g00878/laws.FnExactFirstBadStage", spec := "fnExactFirstBadStage", unfollowed := true, recurses := true, apart := false }
def FnExactFirstBadStageSaid : Prop := fnExactFirstBadStageRow.holds Tryz.pinned (OpenSpec.ofChange fnExactFirstBadStageSpec)

/-- ITS FALSE NEIGHBOUR: 'it returns false'. Refute it at one input. -/
def fnExactFirstBadStageWrong : ChangeSpec := { name := "fnExactFirstBadStage", fn := fun _ => fun
  | [d1, d2, d3, d4] => { results := [.lit (.bool false)], args := [d1, d2, d3, d4] }
  | _ => none }
def FnExactFirstBadStageWrongFalsely : Prop := fnExactFirstBadStageRow.holds Tryz.pinned (OpenSpec.ofChange fnExactFirstBadStageWrong)

/-- 'laws.FnExactRunStage': WHATEVER THE INPUT: true; the input reads as it did. -/
def fnExactRunStageSpec : ChangeSpec := { name := "fnExactRunStage", fn := fun _ => fun
  | [d1, d2, d3, d4, d5, d6] => { results := [.lit (.bool true)], args := [d1, d2, d3, d4, d5, d6] }
  | _ => none }
def fnExactRunStageRow : OpenClaim := { program := "ytjmpdejigkjaoaagreat", sum := "cb660825ba58ec1bcbb55ac294f6c9abfcbea57b7c75e6a484f2c2ee86ccbb68", func := "loop.example/g00878/laws.FnExactRunStage", spec := "fnExactRunStage", unfollowed := true, recurses := true, apart := false }
def FnExactRunStageSaid : Prop := fnExactRunStageRow.holds Tryz.pinned (OpenSpec.ofChange fnExactRunStageSpec)

/-- ITS FALSE NEIGHBOUR: 'it returns false'. Refute it at one input. -/
def fnExactRunStageWrong : ChangeSpec := { name := "fnExactRunStage", fn := fun _ => fun
  | [d1, d2, d3, d4, d5, d6] => { results := [.lit (.bool false)], args := [d1, d2, d3, d4, d5, d6] }
  | _ => none }
def FnExactRunStageWrongFalsely : Prop := fnExactRunStageRow.holds Tryz.pinned (OpenSpec.ofChange fnExactRunStageWrong)

/-- 'laws.FnExactRunCascade': WHATEVER THE INPUT: true; the input reads as it did. -/
def fnExactRunCascadeSpec : ChangeSpec := { name := "fnExactRunCascade", fn := fun _ => fun
  | [d1, d2, d3, d4, d5, d6] => { results := [.lit (.bool true)], args := [d1, d2, d3, d4, d5, d6] }
  | _ => none }
def fnExactRunCascadeRow : OpenClaim := { program := "ytjmpdejigkjaoaagreat", sum := "cb660825ba58ec1bcbb55ac294f6c9abfcbea57b7c75e6a484f2c2ee86ccbb68", func := "loop.example/g00878/laws.FnExactRunCascade", spec := "fnExactRunCascade", unfollowed := true, recurses := true, apart := false }
def FnExactRunCascadeSaid : Prop := fnExactRunCascadeRow.holds Tryz.pinned (OpenSpec.ofChange fnExactRunCascadeSpec)

/-- ITS FALSE NEIGHBOUR: 'it returns false'. Refute it at one input. -/
def fnExactRunCascadeWrong : ChangeSpec := { name := "fnExactRunCascade", fn := fun _ => fun
  | [d1, d2, d3, d4, d5, d6] => { results := [.lit (.bool false)], args := [d1, d2, d3, d4, d5, d6] }
  | _ => none }
def FnExactRunCascadeWrongFalsely : Prop := fnExactRunCascadeRow.holds Tryz.pinned (OpenSpec.ofChange fnExactRunCascadeWrong)

/- THE SECOND FORM. 'bulk': how many values and letters a reading holds, each counted each time it is reached (what is shared counts as often as it is met; a slice's spare places count too). A statement '..UptoSaid' is the law's where the arguments, and the package variables that the reading takes, are together of bulk at most 1048576: NARROWER than '..Said'. Prove '..Said' where nothing that the law and all that it calls make is longer than what came in: it says more and counts as full. Else prove '..UptoSaid'. A law counts once. -/
mutual
def uptoBulk {H : Type} : DataW H → Nat
  | .lit (.string bytes) => bytes.length + 1
  | .lit _ => 1
  | .nil => 1
  | .ptr d => uptoBulk d + 1
  | .slice elems spare => uptoBulkAll elems + uptoBulkAll spare + 1
  | .agg parts => uptoBulkAll parts + 1
  | .iface _ d => uptoBulk d + 1
  | .map entries => uptoBulkEntries entries + 1
  | .held _ => 1
def uptoBulkAll {H : Type} : List (DataW H) → Nat
  | [] => 0
  | d :: r => uptoBulk d + uptoBulkAll r
def uptoBulkEntries {H : Type} : List (Lit × DataW H) → Nat
  | [] => 0
  | x :: r => uptoBulkEntry x + uptoBulkEntries r
def uptoBulkEntry {H : Type} : Lit × DataW H → Nat
  | (.string bytes, d) => bytes.length + uptoBulk d + 1
  | (_, d) => uptoBulk d + 1
 end
def uptoSmall : (H : Type) → List (DataW H) → Bool := fun _ ds => decide (uptoBulkAll ds ≤ 1048576)
def OpenSpec.upto (s : _root_.Go.ChangeSpec) : _root_.Go.OpenSpec := { _root_.Go.OpenSpec.ofChange s with cond := some uptoSmall }

/-- 'laws.FnExactAcceptedStages', WHERE WHAT IT READS IS OF BULK AT MOST 1048576: true; the input reads as it did. -/
def fnExactAcceptedStagesUptoRow : OpenClaim := { program := "ytjmpdejigkjaoaagreat", sum := "cb660825ba58ec1bcbb55ac294f6c9abfcbea57b7c75e6a484f2c2ee86ccbb68", func := "loop.example/g00878/laws.FnExactAcceptedStages", spec := "fnExactAcceptedStages", unfollowed := true, recurses := true, apart := false, narrowed := true }
def FnExactAcceptedStagesUptoSaid : Prop := fnExactAcceptedStagesUptoRow.holds Tryz.pinned (OpenSpec.upto fnExactAcceptedStagesSpec)

/-- 'laws.FnExactVerifyStage', WHERE WHAT IT READS IS OF BULK AT MOST 1048576: true; the input reads as it did. -/
def fnExactVerifyStageUptoRow : OpenClaim := { program := "ytjmpdejigkjaoaagreat", sum := "cb660825ba58ec1bcbb55ac294f6c9abfcbea57b7c75e6a484f2c2ee86ccbb68", func := "loop.example/g00878/laws.FnExactVerifyStage", spec := "fnExactVerifyStage", unfollowed := true, recurses := true, apart := false, narrowed := true }
def FnExactVerifyStageUptoSaid : Prop := fnExactVerifyStageUptoRow.holds Tryz.pinned (OpenSpec.upto fnExactVerifyStageSpec)

/-- 'laws.FnExactFirstBadStage', WHERE WHAT IT READS IS OF BULK AT MOST 1048576: true; the input reads as it did. -/
def fnExactFirstBadStageUptoRow : OpenClaim := { program := "ytjmpdejigkjaoaagreat", sum := "cb660825ba58ec1bcbb55ac294f6c9abfcbea57b7c75e6a484f2c2ee86ccbb68", func := "loop.example/g00878/laws.FnExactFirstBadStage", spec := "fnExactFirstBadStage", unfollowed := true, recurses := true, apart := false, narrowed := true }
def FnExactFirstBadStageUptoSaid : Prop := fnExactFirstBadStageUptoRow.holds Tryz.pinned (OpenSpec.upto fnExactFirstBadStageSpec)

/-- 'laws.FnExactRunStage', WHERE WHAT IT READS IS OF BULK AT MOST 1048576: true; the input reads as it did. -/
def fnExactRunStageUptoRow : OpenClaim := { program := "ytjmpdejigkjaoaagreat", sum := "cb660825ba58ec1bcbb55ac294f6c9abfcbea57b7c75e6a484f2c2ee86ccbb68", func := "loop.example/g00878/laws.FnExactRunStage", spec := "fnExactRunStage", unfollowed := true, recurses := true, apart := false, narrowed := true }
def FnExactRunStageUptoSaid : Prop := fnExactRunStageUptoRow.holds Tryz.pinned (OpenSpec.upto fnExactRunStageSpec)

/-- 'laws.FnExactRunCascade', WHERE WHAT IT READS IS OF BULK AT MOST 1048576: true; the input reads as it did. -/
def fnExactRunCascadeUptoRow : OpenClaim := { program := "ytjmpdejigkjaoaagreat", sum := "cb660825ba58ec1bcbb55ac294f6c9abfcbea57b7c75e6a484f2c2ee86ccbb68", func := "loop.example/g00878/laws.FnExactRunCascade", spec := "fnExactRunCascade", unfollowed := true, recurses := true, apart := false, narrowed := true }
def FnExactRunCascadeUptoSaid : Prop := fnExactRunCascadeUptoRow.holds Tryz.pinned (OpenSpec.upto fnExactRunCascadeSpec)

end Rows
end Go.Proofs.YtjmpdejigkjaoaaGreat
