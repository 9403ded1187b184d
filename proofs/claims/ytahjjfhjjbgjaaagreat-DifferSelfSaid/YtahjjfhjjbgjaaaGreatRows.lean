/-
  No cell of these rows narrows 'for every input' (looked for: loops, veiled, ifaces, maps, wideKeys, modest, calm, conditions, laid).
  DERIVED. THE GIVEN ROWS OF THIS SEAT. 17 by the template 'for every input the law returns true; each argument reads behind the call as it read before'; 0 by the template 'total and deterministic' (their statements: YtahjjfhjjbgjaaaGreatTotals.lean).
  GIVEN WITH THE SEED: the statements are not yours to turn. If you find one false, say at which input.
  Laid BY PROGRAM, IN A SANDBOX (cutbox-rows.mjs): the forced cells as the released guide's own fill.sh prints them over the translation 9555f9364d82a9d7… (all of the seat's roots in one cut). By AI agents, Wed Nov 11 2026. No macro, syntax, notation, axiom, sorry.
-/
import Derived.Test.YtahjjfhjjbgjaaaGreatChecked
import GoSem.Claim
import GoSem.ClaimJoined
import GoSem.ClaimMapViews
import Derived.JoinedTies
import Derived.KernelRfl
namespace Go.Proofs.YtahjjfhjjbgjaaaGreat
/- THE CELL 'sum', in the pinned program and in every row, IS THE sha256 OF THE DUMP (.gsa) THAT YtahjjfhjjbgjaaaGreatProg.lean LOADS. Nothing in Lean hashes anything: it is a label: what it is worth is what the hold of that sum in a sandbox is worth. -/
noncomputable def Tryz.pinned : Pinned := { name := "ytahjjfhjjbgjaaagreat", sum := "9555f9364d82a9d75dd98d5b369f5b0ce9828d5a49beab800af58e14d719f555", checked := Tryz.checked }
namespace Rows
def none {H : Type} : Left H := { results := [], args := [] }

/-- 'customhouselaw28.DifferFinds': WHATEVER THE INPUT: true; the input reads as it did. -/
def differFindsSpec : ChangeSpec := { name := "differFinds", fn := fun _ => fun
  | [d1, d2, d3, d4, d5] => { results := [.lit (.bool true)], args := [d1, d2, d3, d4, d5] }
  | _ => none }
def differFindsRow : OpenClaim := { program := "ytahjjfhjjbgjaaagreat", sum := "9555f9364d82a9d75dd98d5b369f5b0ce9828d5a49beab800af58e14d719f555", func := "customhouse/customhouselaw28.DifferFinds", spec := "differFinds", inPlace := ["math/bits.Sub64"], unfollowed := true, recurses := true, plainKeys := false, apart := false }
def DifferFindsSaid : Prop := differFindsRow.holds Tryz.pinned (OpenSpec.ofChange differFindsSpec)

/-- ITS FALSE NEIGHBOUR: 'it returns false'. Refute it at one input. -/
def differFindsWrong : ChangeSpec := { name := "differFinds", fn := fun _ => fun
  | [d1, d2, d3, d4, d5] => { results := [.lit (.bool false)], args := [d1, d2, d3, d4, d5] }
  | _ => none }
def DifferFindsWrongFalsely : Prop := differFindsRow.holds Tryz.pinned (OpenSpec.ofChange differFindsWrong)

/-- 'customhouselaw28.DifferNear': WHATEVER THE INPUT: true; the input reads as it did. -/
def differNearSpec : ChangeSpec := { name := "differNear", fn := fun _ => fun
  | [d1, d2, d3, d4, d5, d6, d7] => { results := [.lit (.bool true)], args := [d1, d2, d3, d4, d5, d6, d7] }
  | _ => none }
def differNearRow : OpenClaim := { program := "ytahjjfhjjbgjaaagreat", sum := "9555f9364d82a9d75dd98d5b369f5b0ce9828d5a49beab800af58e14d719f555", func := "customhouse/customhouselaw28.DifferNear", spec := "differNear", inPlace := ["math/bits.Sub64"], unfollowed := true, recurses := true, plainKeys := false, apart := false }
def DifferNearSaid : Prop := differNearRow.holds Tryz.pinned (OpenSpec.ofChange differNearSpec)

/-- ITS FALSE NEIGHBOUR: 'it returns false'. Refute it at one input. -/
def differNearWrong : ChangeSpec := { name := "differNear", fn := fun _ => fun
  | [d1, d2, d3, d4, d5, d6, d7] => { results := [.lit (.bool false)], args := [d1, d2, d3, d4, d5, d6, d7] }
  | _ => none }
def DifferNearWrongFalsely : Prop := differNearRow.holds Tryz.pinned (OpenSpec.ofChange differNearWrong)

/-- 'customhouselaw28.DifferSelf': WHATEVER THE INPUT: true; the input reads as it did. -/
def differSelfSpec : ChangeSpec := { name := "differSelf", fn := fun _ => fun
  | [d1, d2, d3] => { results := [.lit (.bool true)], args := [d1, d2, d3] }
  | _ => none }
def differSelfRow : OpenClaim := { program := "ytahjjfhjjbgjaaagreat", sum := "9555f9364d82a9d75dd98d5b369f5b0ce9828d5a49beab800af58e14d719f555", func := "customhouse/customhouselaw28.DifferSelf", spec := "differSelf", inPlace := ["math/bits.Sub64"], unfollowed := true, recurses := true, plainKeys := false, apart := false }
def DifferSelfSaid : Prop := differSelfRow.holds Tryz.pinned (OpenSpec.ofChange differSelfSpec)

/-- ITS FALSE NEIGHBOUR: 'it returns false'. Refute it at one input. -/
def differSelfWrong : ChangeSpec := { name := "differSelf", fn := fun _ => fun
  | [d1, d2, d3] => { results := [.lit (.bool false)], args := [d1, d2, d3] }
  | _ => none }
def DifferSelfWrongFalsely : Prop := differSelfRow.holds Tryz.pinned (OpenSpec.ofChange differSelfWrong)

/-- 'customhouselaw28.DifferEnds': WHATEVER THE INPUT: true; the input reads as it did. -/
def differEndsSpec : ChangeSpec := { name := "differEnds", fn := fun _ => fun
  | [d1, d2] => { results := [.lit (.bool true)], args := [d1, d2] }
  | _ => none }
def differEndsRow : OpenClaim := { program := "ytahjjfhjjbgjaaagreat", sum := "9555f9364d82a9d75dd98d5b369f5b0ce9828d5a49beab800af58e14d719f555", func := "customhouse/customhouselaw28.DifferEnds", spec := "differEnds", inPlace := ["math/bits.Sub64"], unfollowed := true, recurses := true, plainKeys := false, apart := false }
def DifferEndsSaid : Prop := differEndsRow.holds Tryz.pinned (OpenSpec.ofChange differEndsSpec)

/-- ITS FALSE NEIGHBOUR: 'it returns false'. Refute it at one input. -/
def differEndsWrong : ChangeSpec := { name := "differEnds", fn := fun _ => fun
  | [d1, d2] => { results := [.lit (.bool false)], args := [d1, d2] }
  | _ => none }
def DifferEndsWrongFalsely : Prop := differEndsRow.holds Tryz.pinned (OpenSpec.ofChange differEndsWrong)

/-- 'customhouselaw15.JudgeWrong': WHATEVER THE INPUT: true; the input reads as it did. -/
def judgeWrongSpec : ChangeSpec := { name := "judgeWrong", fn := fun _ => fun
  | [d1, d2, d3] => { results := [.lit (.bool true)], args := [d1, d2, d3] }
  | _ => none }
def judgeWrongRow : OpenClaim := { program := "ytahjjfhjjbgjaaagreat", sum := "9555f9364d82a9d75dd98d5b369f5b0ce9828d5a49beab800af58e14d719f555", func := "customhouse/customhouselaw15.JudgeWrong", spec := "judgeWrong", inPlace := ["math/bits.Sub64"], unfollowed := true, recurses := true, plainKeys := false, apart := false }
def JudgeWrongSaid : Prop := judgeWrongRow.holds Tryz.pinned (OpenSpec.ofChange judgeWrongSpec)

/-- ITS FALSE NEIGHBOUR: 'it returns false'. Refute it at one input. -/
def judgeWrongWrong : ChangeSpec := { name := "judgeWrong", fn := fun _ => fun
  | [d1, d2, d3] => { results := [.lit (.bool false)], args := [d1, d2, d3] }
  | _ => none }
def JudgeWrongWrongFalsely : Prop := judgeWrongRow.holds Tryz.pinned (OpenSpec.ofChange judgeWrongWrong)

/-- 'customhouselaw15.JudgeSafe': WHATEVER THE INPUT: true; the input reads as it did. -/
def judgeSafeSpec : ChangeSpec := { name := "judgeSafe", fn := fun _ => fun
  | [d1, d2, d3, d4] => { results := [.lit (.bool true)], args := [d1, d2, d3, d4] }
  | _ => none }
def judgeSafeRow : OpenClaim := { program := "ytahjjfhjjbgjaaagreat", sum := "9555f9364d82a9d75dd98d5b369f5b0ce9828d5a49beab800af58e14d719f555", func := "customhouse/customhouselaw15.JudgeSafe", spec := "judgeSafe", inPlace := ["math/bits.Sub64"], unfollowed := true, recurses := true, plainKeys := false, apart := false }
def JudgeSafeSaid : Prop := judgeSafeRow.holds Tryz.pinned (OpenSpec.ofChange judgeSafeSpec)

/-- ITS FALSE NEIGHBOUR: 'it returns false'. Refute it at one input. -/
def judgeSafeWrong : ChangeSpec := { name := "judgeSafe", fn := fun _ => fun
  | [d1, d2, d3, d4] => { results := [.lit (.bool false)], args := [d1, d2, d3, d4] }
  | _ => none }
def JudgeSafeWrongFalsely : Prop := judgeSafeRow.holds Tryz.pinned (OpenSpec.ofChange judgeSafeWrong)

/-- 'customhouselaw15.JudgeFinds': WHATEVER THE INPUT: true; the input reads as it did. -/
def judgeFindsSpec : ChangeSpec := { name := "judgeFinds", fn := fun _ => fun
  | [d1, d2, d3, d4] => { results := [.lit (.bool true)], args := [d1, d2, d3, d4] }
  | _ => none }
def judgeFindsRow : OpenClaim := { program := "ytahjjfhjjbgjaaagreat", sum := "9555f9364d82a9d75dd98d5b369f5b0ce9828d5a49beab800af58e14d719f555", func := "customhouse/customhouselaw15.JudgeFinds", spec := "judgeFinds", inPlace := ["math/bits.Sub64"], unfollowed := true, recurses := true, plainKeys := false, apart := false }
def JudgeFindsSaid : Prop := judgeFindsRow.holds Tryz.pinned (OpenSpec.ofChange judgeFindsSpec)

/-- ITS FALSE NEIGHBOUR: 'it returns false'. Refute it at one input. -/
def judgeFindsWrong : ChangeSpec := { name := "judgeFinds", fn := fun _ => fun
  | [d1, d2, d3, d4] => { results := [.lit (.bool false)], args := [d1, d2, d3, d4] }
  | _ => none }
def JudgeFindsWrongFalsely : Prop := judgeFindsRow.holds Tryz.pinned (OpenSpec.ofChange judgeFindsWrong)

/-- 'customhouselaw15.JudgeOver': WHATEVER THE INPUT: true; the input reads as it did. -/
def judgeOverSpec : ChangeSpec := { name := "judgeOver", fn := fun _ => fun
  | [d1, d2, d3] => { results := [.lit (.bool true)], args := [d1, d2, d3] }
  | _ => none }
def judgeOverRow : OpenClaim := { program := "ytahjjfhjjbgjaaagreat", sum := "9555f9364d82a9d75dd98d5b369f5b0ce9828d5a49beab800af58e14d719f555", func := "customhouse/customhouselaw15.JudgeOver", spec := "judgeOver", inPlace := ["math/bits.Sub64"], unfollowed := true, recurses := true, plainKeys := false, apart := false }
def JudgeOverSaid : Prop := judgeOverRow.holds Tryz.pinned (OpenSpec.ofChange judgeOverSpec)

/-- ITS FALSE NEIGHBOUR: 'it returns false'. Refute it at one input. -/
def judgeOverWrong : ChangeSpec := { name := "judgeOver", fn := fun _ => fun
  | [d1, d2, d3] => { results := [.lit (.bool false)], args := [d1, d2, d3] }
  | _ => none }
def JudgeOverWrongFalsely : Prop := judgeOverRow.holds Tryz.pinned (OpenSpec.ofChange judgeOverWrong)

/-- 'customhouselaw15.JudgeDrops': WHATEVER THE INPUT: true; the input reads as it did. -/
def judgeDropsSpec : ChangeSpec := { name := "judgeDrops", fn := fun _ => fun
  | [d1, d2, d3] => { results := [.lit (.bool true)], args := [d1, d2, d3] }
  | _ => none }
def judgeDropsRow : OpenClaim := { program := "ytahjjfhjjbgjaaagreat", sum := "9555f9364d82a9d75dd98d5b369f5b0ce9828d5a49beab800af58e14d719f555", func := "customhouse/customhouselaw15.JudgeDrops", spec := "judgeDrops", inPlace := ["math/bits.Sub64"], unfollowed := true, recurses := true, plainKeys := false, apart := false }
def JudgeDropsSaid : Prop := judgeDropsRow.holds Tryz.pinned (OpenSpec.ofChange judgeDropsSpec)

/-- ITS FALSE NEIGHBOUR: 'it returns false'. Refute it at one input. -/
def judgeDropsWrong : ChangeSpec := { name := "judgeDrops", fn := fun _ => fun
  | [d1, d2, d3] => { results := [.lit (.bool false)], args := [d1, d2, d3] }
  | _ => none }
def JudgeDropsWrongFalsely : Prop := judgeDropsRow.holds Tryz.pinned (OpenSpec.ofChange judgeDropsWrong)

/-- 'customhouselaw30.ReachPairs': WHATEVER THE INPUT: true; the input reads as it did. -/
def reachPairsSpec : ChangeSpec := { name := "reachPairs", fn := fun _ => fun
  | [d1, d2, d3, d4] => { results := [.lit (.bool true)], args := [d1, d2, d3, d4] }
  | _ => none }
def reachPairsRow : OpenClaim := { program := "ytahjjfhjjbgjaaagreat", sum := "9555f9364d82a9d75dd98d5b369f5b0ce9828d5a49beab800af58e14d719f555", func := "customhouse/customhouselaw30.ReachPairs", spec := "reachPairs", inPlace := ["math/bits.Sub64"], unfollowed := true, recurses := true, plainKeys := false, apart := false }
def ReachPairsSaid : Prop := reachPairsRow.holds Tryz.pinned (OpenSpec.ofChange reachPairsSpec)

/-- ITS FALSE NEIGHBOUR: 'it returns false'. Refute it at one input. -/
def reachPairsWrong : ChangeSpec := { name := "reachPairs", fn := fun _ => fun
  | [d1, d2, d3, d4] => { results := [.lit (.bool false)], args := [d1, d2, d3, d4] }
  | _ => none }
def ReachPairsWrongFalsely : Prop := reachPairsRow.holds Tryz.pinned (OpenSpec.ofChange reachPairsWrong)

/-- 'customhouselaw30.ReachFrom': WHATEVER THE INPUT: true; the input reads as it did. -/
def reachFromSpec : ChangeSpec := { name := "reachFrom", fn := fun _ => fun
  | [d1, d2, d3] => { results := [.lit (.bool true)], args := [d1, d2, d3] }
  | _ => none }
def reachFromRow : OpenClaim := { program := "ytahjjfhjjbgjaaagreat", sum := "9555f9364d82a9d75dd98d5b369f5b0ce9828d5a49beab800af58e14d719f555", func := "customhouse/customhouselaw30.ReachFrom", spec := "reachFrom", inPlace := ["math/bits.Sub64"], unfollowed := true, recurses := true, plainKeys := false, apart := false }
def ReachFromSaid : Prop := reachFromRow.holds Tryz.pinned (OpenSpec.ofChange reachFromSpec)

/-- ITS FALSE NEIGHBOUR: 'it returns false'. Refute it at one input. -/
def reachFromWrong : ChangeSpec := { name := "reachFrom", fn := fun _ => fun
  | [d1, d2, d3] => { results := [.lit (.bool false)], args := [d1, d2, d3] }
  | _ => none }
def ReachFromWrongFalsely : Prop := reachFromRow.holds Tryz.pinned (OpenSpec.ofChange reachFromWrong)

/-- 'customhouselaw30.ReachUsed': WHATEVER THE INPUT: true; the input reads as it did. -/
def reachUsedSpec : ChangeSpec := { name := "reachUsed", fn := fun _ => fun
  | [d1, d2, d3, d4] => { results := [.lit (.bool true)], args := [d1, d2, d3, d4] }
  | _ => none }
def reachUsedRow : OpenClaim := { program := "ytahjjfhjjbgjaaagreat", sum := "9555f9364d82a9d75dd98d5b369f5b0ce9828d5a49beab800af58e14d719f555", func := "customhouse/customhouselaw30.ReachUsed", spec := "reachUsed", inPlace := ["math/bits.Sub64"], unfollowed := true, recurses := true, plainKeys := false, apart := false }
def ReachUsedSaid : Prop := reachUsedRow.holds Tryz.pinned (OpenSpec.ofChange reachUsedSpec)

/-- ITS FALSE NEIGHBOUR: 'it returns false'. Refute it at one input. -/
def reachUsedWrong : ChangeSpec := { name := "reachUsed", fn := fun _ => fun
  | [d1, d2, d3, d4] => { results := [.lit (.bool false)], args := [d1, d2, d3, d4] }
  | _ => none }
def ReachUsedWrongFalsely : Prop := reachUsedRow.holds Tryz.pinned (OpenSpec.ofChange reachUsedWrong)

/-- 'customhouselaw30.ReachSpare': WHATEVER THE INPUT: true; the input reads as it did. -/
def reachSpareSpec : ChangeSpec := { name := "reachSpare", fn := fun _ => fun
  | [d1, d2, d3, d4] => { results := [.lit (.bool true)], args := [d1, d2, d3, d4] }
  | _ => none }
def reachSpareRow : OpenClaim := { program := "ytahjjfhjjbgjaaagreat", sum := "9555f9364d82a9d75dd98d5b369f5b0ce9828d5a49beab800af58e14d719f555", func := "customhouse/customhouselaw30.ReachSpare", spec := "reachSpare", inPlace := ["math/bits.Sub64"], unfollowed := true, recurses := true, plainKeys := false, apart := false }
def ReachSpareSaid : Prop := reachSpareRow.holds Tryz.pinned (OpenSpec.ofChange reachSpareSpec)

/-- ITS FALSE NEIGHBOUR: 'it returns false'. Refute it at one input. -/
def reachSpareWrong : ChangeSpec := { name := "reachSpare", fn := fun _ => fun
  | [d1, d2, d3, d4] => { results := [.lit (.bool false)], args := [d1, d2, d3, d4] }
  | _ => none }
def ReachSpareWrongFalsely : Prop := reachSpareRow.holds Tryz.pinned (OpenSpec.ofChange reachSpareWrong)

/-- 'customhouselaw16.ProofTraces': WHATEVER THE INPUT: true; the input reads as it did. -/
def proofTracesSpec : ChangeSpec := { name := "proofTraces", fn := fun _ => fun
  | [d1, d2, d3, d4, d5] => { results := [.lit (.bool true)], args := [d1, d2, d3, d4, d5] }
  | _ => none }
def proofTracesRow : OpenClaim := { program := "ytahjjfhjjbgjaaagreat", sum := "9555f9364d82a9d75dd98d5b369f5b0ce9828d5a49beab800af58e14d719f555", func := "customhouse/customhouselaw16.ProofTraces", spec := "proofTraces", inPlace := ["math/bits.Sub64"], unfollowed := true, recurses := true, plainKeys := false, apart := false }
def ProofTracesSaid : Prop := proofTracesRow.holds Tryz.pinned (OpenSpec.ofChange proofTracesSpec)

/-- ITS FALSE NEIGHBOUR: 'it returns false'. Refute it at one input. -/
def proofTracesWrong : ChangeSpec := { name := "proofTraces", fn := fun _ => fun
  | [d1, d2, d3, d4, d5] => { results := [.lit (.bool false)], args := [d1, d2, d3, d4, d5] }
  | _ => none }
def ProofTracesWrongFalsely : Prop := proofTracesRow.holds Tryz.pinned (OpenSpec.ofChange proofTracesWrong)

/-- 'customhouselaw16.ProofSpoilt': WHATEVER THE INPUT: true; the input reads as it did. -/
def proofSpoiltSpec : ChangeSpec := { name := "proofSpoilt", fn := fun _ => fun
  | [d1, d2, d3, d4, d5, d6, d7] => { results := [.lit (.bool true)], args := [d1, d2, d3, d4, d5, d6, d7] }
  | _ => none }
def proofSpoiltRow : OpenClaim := { program := "ytahjjfhjjbgjaaagreat", sum := "9555f9364d82a9d75dd98d5b369f5b0ce9828d5a49beab800af58e14d719f555", func := "customhouse/customhouselaw16.ProofSpoilt", spec := "proofSpoilt", inPlace := ["math/bits.Sub64"], unfollowed := true, recurses := true, plainKeys := false, apart := false }
def ProofSpoiltSaid : Prop := proofSpoiltRow.holds Tryz.pinned (OpenSpec.ofChange proofSpoiltSpec)

/-- ITS FALSE NEIGHBOUR: 'it returns false'. Refute it at one input. -/
def proofSpoiltWrong : ChangeSpec := { name := "proofSpoilt", fn := fun _ => fun
  | [d1, d2, d3, d4, d5, d6, d7] => { results := [.lit (.bool false)], args := [d1, d2, d3, d4, d5, d6, d7] }
  | _ => none }
def ProofSpoiltWrongFalsely : Prop := proofSpoiltRow.holds Tryz.pinned (OpenSpec.ofChange proofSpoiltWrong)

/-- 'customhouselaw16.ProofHolds': WHATEVER THE INPUT: true; the input reads as it did. -/
def proofHoldsSpec : ChangeSpec := { name := "proofHolds", fn := fun _ => fun
  | [d1, d2, d3] => { results := [.lit (.bool true)], args := [d1, d2, d3] }
  | _ => none }
def proofHoldsRow : OpenClaim := { program := "ytahjjfhjjbgjaaagreat", sum := "9555f9364d82a9d75dd98d5b369f5b0ce9828d5a49beab800af58e14d719f555", func := "customhouse/customhouselaw16.ProofHolds", spec := "proofHolds", inPlace := ["math/bits.Sub64"], unfollowed := true, recurses := true, plainKeys := false, apart := false }
def ProofHoldsSaid : Prop := proofHoldsRow.holds Tryz.pinned (OpenSpec.ofChange proofHoldsSpec)

/-- ITS FALSE NEIGHBOUR: 'it returns false'. Refute it at one input. -/
def proofHoldsWrong : ChangeSpec := { name := "proofHolds", fn := fun _ => fun
  | [d1, d2, d3] => { results := [.lit (.bool false)], args := [d1, d2, d3] }
  | _ => none }
def ProofHoldsWrongFalsely : Prop := proofHoldsRow.holds Tryz.pinned (OpenSpec.ofChange proofHoldsWrong)

/-- 'customhouselaw16.ProofJudged': WHATEVER THE INPUT: true; the input reads as it did. -/
def proofJudgedSpec : ChangeSpec := { name := "proofJudged", fn := fun _ => fun
  | [d1, d2] => { results := [.lit (.bool true)], args := [d1, d2] }
  | _ => none }
def proofJudgedRow : OpenClaim := { program := "ytahjjfhjjbgjaaagreat", sum := "9555f9364d82a9d75dd98d5b369f5b0ce9828d5a49beab800af58e14d719f555", func := "customhouse/customhouselaw16.ProofJudged", spec := "proofJudged", inPlace := ["math/bits.Sub64"], unfollowed := true, recurses := true, plainKeys := false, apart := false }
def ProofJudgedSaid : Prop := proofJudgedRow.holds Tryz.pinned (OpenSpec.ofChange proofJudgedSpec)

/-- ITS FALSE NEIGHBOUR: 'it returns false'. Refute it at one input. -/
def proofJudgedWrong : ChangeSpec := { name := "proofJudged", fn := fun _ => fun
  | [d1, d2] => { results := [.lit (.bool false)], args := [d1, d2] }
  | _ => none }
def ProofJudgedWrongFalsely : Prop := proofJudgedRow.holds Tryz.pinned (OpenSpec.ofChange proofJudgedWrong)

/- THE SECOND FORM. 'bulk': how many values and letters a reading holds, each counted each time it is reached (what is shared counts as often as it is met; a slice's spare places count too). A statement '..UptoSaid' is the law's where the arguments, and the package variables that the reading takes, are together of bulk at most 1048576: NARROWER than '..Said'. Prove '..Said' where nothing that the law and all that it calls make is longer than what came in: it says more and counts as full. Else prove '..UptoSaid'. A law counts once. -/
mutual
def uptoBulk {H : Type} : DataW H → Nat
  | .lit (.string bytes) => bytes.length + 1
  | .lit _ => 1
  | .nil => 1
  | .ptr d => uptoBulk d + 1
  | .slice elems spare => uptoBulkAll elems + uptoBulkAll spare + 1
  | .agg parts => uptoBulkAll parts + 1
  | .iface _ d => uptoBulk d + 1
  | .map entries => uptoBulkEntries entries + 1
  | .held _ => 1
def uptoBulkAll {H : Type} : List (DataW H) → Nat
  | [] => 0
  | d :: r => uptoBulk d + uptoBulkAll r
def uptoBulkEntries {H : Type} : List (Lit × DataW H) → Nat
  | [] => 0
  | x :: r => uptoBulkEntry x + uptoBulkEntries r
def uptoBulkEntry {H : Type} : Lit × DataW H → Nat
  | (.string bytes, d) => bytes.length + uptoBulk d + 1
  | (_, d) => uptoBulk d + 1
 end
def uptoSmall : (H : Type) → List (DataW H) → Bool := fun _ ds => decide (uptoBulkAll ds ≤ 1048576)
def OpenSpec.upto (s : _root_.Go.ChangeSpec) : _root_.Go.OpenSpec := { _root_.Go.OpenSpec.ofChange s with cond := some uptoSmall }

/-- 'customhouselaw28.DifferFinds', WHERE WHAT IT READS IS OF BULK AT MOST 1048576: true; the input reads as it did. -/
def differFindsUptoRow : OpenClaim := { program := "ytahjjfhjjbgjaaagreat", sum := "9555f9364d82a9d75dd98d5b369f5b0ce9828d5a49beab800af58e14d719f555", func := "customhouse/customhouselaw28.DifferFinds", spec := "differFinds", inPlace := ["math/bits.Sub64"], unfollowed := true, recurses := true, plainKeys := false, apart := false, narrowed := true }
def DifferFindsUptoSaid : Prop := differFindsUptoRow.holds Tryz.pinned (OpenSpec.upto differFindsSpec)

/-- 'customhouselaw28.DifferNear', WHERE WHAT IT READS IS OF BULK AT MOST 1048576: true; the input reads as it did. -/
def differNearUptoRow : OpenClaim := { program := "ytahjjfhjjbgjaaagreat", sum := "9555f9364d82a9d75dd98d5b369f5b0ce9828d5a49beab800af58e14d719f555", func := "customhouse/customhouselaw28.DifferNear", spec := "differNear", inPlace := ["math/bits.Sub64"], unfollowed := true, recurses := true, plainKeys := false, apart := false, narrowed := true }
def DifferNearUptoSaid : Prop := differNearUptoRow.holds Tryz.pinned (OpenSpec.upto differNearSpec)

/-- 'customhouselaw28.DifferSelf', WHERE WHAT IT READS IS OF BULK AT MOST 1048576: true; the input reads as it did. -/
def differSelfUptoRow : OpenClaim := { program := "ytahjjfhjjbgjaaagreat", sum := "9555f9364d82a9d75dd98d5b369f5b0ce9828d5a49beab800af58e14d719f555", func := "customhouse/customhouselaw28.DifferSelf", spec := "differSelf", inPlace := ["math/bits.Sub64"], unfollowed := true, recurses := true, plainKeys := false, apart := false, narrowed := true }
def DifferSelfUptoSaid : Prop := differSelfUptoRow.holds Tryz.pinned (OpenSpec.upto differSelfSpec)

/-- 'customhouselaw28.DifferEnds', WHERE WHAT IT READS IS OF BULK AT MOST 1048576: true; the input reads as it did. -/
def differEndsUptoRow : OpenClaim := { program := "ytahjjfhjjbgjaaagreat", sum := "9555f9364d82a9d75dd98d5b369f5b0ce9828d5a49beab800af58e14d719f555", func := "customhouse/customhouselaw28.DifferEnds", spec := "differEnds", inPlace := ["math/bits.Sub64"], unfollowed := true, recurses := true, plainKeys := false, apart := false, narrowed := true }
def DifferEndsUptoSaid : Prop := differEndsUptoRow.holds Tryz.pinned (OpenSpec.upto differEndsSpec)

/-- 'customhouselaw15.JudgeWrong', WHERE WHAT IT READS IS OF BULK AT MOST 1048576: true; the input reads as it did. -/
def judgeWrongUptoRow : OpenClaim := { program := "ytahjjfhjjbgjaaagreat", sum := "9555f9364d82a9d75dd98d5b369f5b0ce9828d5a49beab800af58e14d719f555", func := "customhouse/customhouselaw15.JudgeWrong", spec := "judgeWrong", inPlace := ["math/bits.Sub64"], unfollowed := true, recurses := true, plainKeys := false, apart := false, narrowed := true }
def JudgeWrongUptoSaid : Prop := judgeWrongUptoRow.holds Tryz.pinned (OpenSpec.upto judgeWrongSpec)

/-- 'customhouselaw15.JudgeSafe', WHERE WHAT IT READS IS OF BULK AT MOST 1048576: true; the input reads as it did. -/
def judgeSafeUptoRow : OpenClaim := { program := "ytahjjfhjjbgjaaagreat", sum := "9555f9364d82a9d75dd98d5b369f5b0ce9828d5a49beab800af58e14d719f555", func := "customhouse/customhouselaw15.JudgeSafe", spec := "judgeSafe", inPlace := ["math/bits.Sub64"], unfollowed := true, recurses := true, plainKeys := false, apart := false, narrowed := true }
def JudgeSafeUptoSaid : Prop := judgeSafeUptoRow.holds Tryz.pinned (OpenSpec.upto judgeSafeSpec)

/-- 'customhouselaw15.JudgeFinds', WHERE WHAT IT READS IS OF BULK AT MOST 1048576: true; the input reads as it did. -/
def judgeFindsUptoRow : OpenClaim := { program := "ytahjjfhjjbgjaaagreat", sum := "9555f9364d82a9d75dd98d5b369f5b0ce9828d5a49beab800af58e14d719f555", func := "customhouse/customhouselaw15.JudgeFinds", spec := "judgeFinds", inPlace := ["math/bits.Sub64"], unfollowed := true, recurses := true, plainKeys := false, apart := false, narrowed := true }
def JudgeFindsUptoSaid : Prop := judgeFindsUptoRow.holds Tryz.pinned (OpenSpec.upto judgeFindsSpec)

/-- 'customhouselaw15.JudgeOver', WHERE WHAT IT READS IS OF BULK AT MOST 1048576: true; the input reads as it did. -/
def judgeOverUptoRow : OpenClaim := { program := "ytahjjfhjjbgjaaagreat", sum := "9555f9364d82a9d75dd98d5b369f5b0ce9828d5a49beab800af58e14d719f555", func := "customhouse/customhouselaw15.JudgeOver", spec := "judgeOver", inPlace := ["math/bits.Sub64"], unfollowed := true, recurses := true, plainKeys := false, apart := false, narrowed := true }
def JudgeOverUptoSaid : Prop := judgeOverUptoRow.holds Tryz.pinned (OpenSpec.upto judgeOverSpec)

/-- 'customhouselaw15.JudgeDrops', WHERE WHAT IT READS IS OF BULK AT MOST 1048576: true; the input reads as it did. -/
def judgeDropsUptoRow : OpenClaim := { program := "ytahjjfhjjbgjaaagreat", sum := "9555f9364d82a9d75dd98d5b369f5b0ce9828d5a49beab800af58e14d719f555", func := "customhouse/customhouselaw15.JudgeDrops", spec := "judgeDrops", inPlace := ["math/bits.Sub64"], unfollowed := true, recurses := true, plainKeys := false, apart := false, narrowed := true }
def JudgeDropsUptoSaid : Prop := judgeDropsUptoRow.holds Tryz.pinned (OpenSpec.upto judgeDropsSpec)

/-- 'customhouselaw30.ReachPairs', WHERE WHAT IT READS IS OF BULK AT MOST 1048576: true; the input reads as it did. -/
def reachPairsUptoRow : OpenClaim := { program := "ytahjjfhjjbgjaaagreat", sum := "9555f9364d82a9d75dd98d5b369f5b0ce9828d5a49beab800af58e14d719f555", func := "customhouse/customhouselaw30.ReachPairs", spec := "reachPairs", inPlace := ["math/bits.Sub64"], unfollowed := true, recurses := true, plainKeys := false, apart := false, narrowed := true }
def ReachPairsUptoSaid : Prop := reachPairsUptoRow.holds Tryz.pinned (OpenSpec.upto reachPairsSpec)

/-- 'customhouselaw30.ReachFrom', WHERE WHAT IT READS IS OF BULK AT MOST 1048576: true; the input reads as it did. -/
def reachFromUptoRow : OpenClaim := { program := "ytahjjfhjjbgjaaagreat", sum := "9555f9364d82a9d75dd98d5b369f5b0ce9828d5a49beab800af58e14d719f555", func := "customhouse/customhouselaw30.ReachFrom", spec := "reachFrom", inPlace := ["math/bits.Sub64"], unfollowed := true, recurses := true, plainKeys := false, apart := false, narrowed := true }
def ReachFromUptoSaid : Prop := reachFromUptoRow.holds Tryz.pinned (OpenSpec.upto reachFromSpec)

/-- 'customhouselaw30.ReachUsed', WHERE WHAT IT READS IS OF BULK AT MOST 1048576: true; the input reads as it did. -/
def reachUsedUptoRow : OpenClaim := { program := "ytahjjfhjjbgjaaagreat", sum := "9555f9364d82a9d75dd98d5b369f5b0ce9828d5a49beab800af58e14d719f555", func := "customhouse/customhouselaw30.ReachUsed", spec := "reachUsed", inPlace := ["math/bits.Sub64"], unfollowed := true, recurses := true, plainKeys := false, apart := false, narrowed := true }
def ReachUsedUptoSaid : Prop := reachUsedUptoRow.holds Tryz.pinned (OpenSpec.upto reachUsedSpec)

/-- 'customhouselaw30.ReachSpare', WHERE WHAT IT READS IS OF BULK AT MOST 1048576: true; the input reads as it did. -/
def reachSpareUptoRow : OpenClaim := { program := "ytahjjfhjjbgjaaagreat", sum := "9555f9364d82a9d75dd98d5b369f5b0ce9828d5a49beab800af58e14d719f555", func := "customhouse/customhouselaw30.ReachSpare", spec := "reachSpare", inPlace := ["math/bits.Sub64"], unfollowed := true, recurses := true, plainKeys := false, apart := false, narrowed := true }
def ReachSpareUptoSaid : Prop := reachSpareUptoRow.holds Tryz.pinned (OpenSpec.upto reachSpareSpec)

/-- 'customhouselaw16.ProofTraces', WHERE WHAT IT READS IS OF BULK AT MOST 1048576: true; the input reads as it did. -/
def proofTracesUptoRow : OpenClaim := { program := "ytahjjfhjjbgjaaagreat", sum := "9555f9364d82a9d75dd98d5b369f5b0ce9828d5a49beab800af58e14d719f555", func := "customhouse/customhouselaw16.ProofTraces", spec := "proofTraces", inPlace := ["math/bits.Sub64"], unfollowed := true, recurses := true, plainKeys := false, apart := false, narrowed := true }
def ProofTracesUptoSaid : Prop := proofTracesUptoRow.holds Tryz.pinned (OpenSpec.upto proofTracesSpec)

/-- 'customhouselaw16.ProofSpoilt', WHERE WHAT IT READS IS OF BULK AT MOST 1048576: true; the input reads as it did. -/
def proofSpoiltUptoRow : OpenClaim := { program := "ytahjjfhjjbgjaaagreat", sum := "9555f9364d82a9d75dd98d5b369f5b0ce9828d5a49beab800af58e14d719f555", func := "customhouse/customhouselaw16.ProofSpoilt", spec := "proofSpoilt", inPlace := ["math/bits.Sub64"], unfollowed := true, recurses := true, plainKeys := false, apart := false, narrowed := true }
def ProofSpoiltUptoSaid : Prop := proofSpoiltUptoRow.holds Tryz.pinned (OpenSpec.upto proofSpoiltSpec)

/-- 'customhouselaw16.ProofHolds', WHERE WHAT IT READS IS OF BULK AT MOST 1048576: true; the input reads as it did. -/
def proofHoldsUptoRow : OpenClaim := { program := "ytahjjfhjjbgjaaagreat", sum := "9555f9364d82a9d75dd98d5b369f5b0ce9828d5a49beab800af58e14d719f555", func := "customhouse/customhouselaw16.ProofHolds", spec := "proofHolds", inPlace := ["math/bits.Sub64"], unfollowed := true, recurses := true, plainKeys := false, apart := false, narrowed := true }
def ProofHoldsUptoSaid : Prop := proofHoldsUptoRow.holds Tryz.pinned (OpenSpec.upto proofHoldsSpec)

/-- 'customhouselaw16.ProofJudged', WHERE WHAT IT READS IS OF BULK AT MOST 1048576: true; the input reads as it did. -/
def proofJudgedUptoRow : OpenClaim := { program := "ytahjjfhjjbgjaaagreat", sum := "9555f9364d82a9d75dd98d5b369f5b0ce9828d5a49beab800af58e14d719f555", func := "customhouse/customhouselaw16.ProofJudged", spec := "proofJudged", inPlace := ["math/bits.Sub64"], unfollowed := true, recurses := true, plainKeys := false, apart := false, narrowed := true }
def ProofJudgedUptoSaid : Prop := proofJudgedUptoRow.holds Tryz.pinned (OpenSpec.upto proofJudgedSpec)

end Rows
end Go.Proofs.YtahjjfhjjbgjaaaGreat
