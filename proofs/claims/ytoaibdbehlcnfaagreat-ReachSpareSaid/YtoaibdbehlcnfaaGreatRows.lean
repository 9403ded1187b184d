/-
  No cell of these rows narrows 'for every input' (looked for: loops, veiled, ifaces, maps, wideKeys, modest, calm, conditions, laid).
  DERIVED. THE GIVEN ROWS OF THIS SEAT. 11 by the template 'for every input the law returns true; each argument reads behind the call as it read before'; 0 by the template 'total and deterministic' (their statements: YtoaibdbehlcnfaaGreatTotals.lean).
  GIVEN WITH THE SEED: the statements are not yours to turn. If you find one false, say at which input.
  Laid BY PROGRAM, IN A SANDBOX (cutbox-rows.mjs): the forced cells as the released guide's own fill.sh prints them over the translation 730ba2711167c92c… (all of the seat's roots in one cut). By AI agents, Wed Nov 11 2026. No macro, syntax, notation, axiom, sorry.
-/
import Derived.Test.YtoaibdbehlcnfaaGreatChecked
import GoSem.Claim
import GoSem.ClaimJoined
import GoSem.ClaimMapViews
import Derived.JoinedTies
import Derived.KernelRfl
namespace Go.Proofs.YtoaibdbehlcnfaaGreat
/- THE CELL 'sum', in the pinned program and in every row, IS THE sha256 OF THE DUMP (.gsa) THAT YtoaibdbehlcnfaaGreatProg.lean LOADS. Nothing in Lean hashes anything: it is a label: what it is worth is what the hold of that sum in a sandbox is worth. -/
noncomputable def Tryz.pinned : Pinned := { name := "ytoaibdbehlcnfaagreat", sum := "730ba2711167c92ccdbefff09f056239285f5653f1d4ca7c8d0bf745ad5edda1", checked := Tryz.checked }
namespace Rows
def none {H : Type} : Left H := { results := [], args := [] }

/-- 'customhouselaw28.DifferNear': WHATEVER THE INPUT: true; the input reads as it did. -/
def differNearSpec : ChangeSpec := { name := "differNear", fn := fun _ => fun
  | [d1, d2, d3, d4, d5, d6, d7] => { results := [.lit (.bool true)], args := [d1, d2, d3, d4, d5, d6, d7] }
  | _ => none }
def differNearRow : OpenClaim := { program := "ytoaibdbehlcnfaagreat", sum := "730ba2711167c92ccdbefff09f056239285f5653f1d4ca7c8d0bf745ad5edda1", func := "customhouse/customhouselaw28.DifferNear", spec := "differNear", inPlace := ["math/bits.Sub64"], unfollowed := true, recurses := true, plainKeys := false, apart := false }
def DifferNearSaid : Prop := differNearRow.holds Tryz.pinned (OpenSpec.ofChange differNearSpec)

/-- ITS FALSE NEIGHBOUR: 'it returns false'. Refute it at one input. -/
def differNearWrong : ChangeSpec := { name := "differNear", fn := fun _ => fun
  | [d1, d2, d3, d4, d5, d6, d7] => { results := [.lit (.bool false)], args := [d1, d2, d3, d4, d5, d6, d7] }
  | _ => none }
def DifferNearWrongFalsely : Prop := differNearRow.holds Tryz.pinned (OpenSpec.ofChange differNearWrong)

/-- 'customhouselaw15.JudgeDrops': WHATEVER THE INPUT: true; the input reads as it did. -/
def judgeDropsSpec : ChangeSpec := { name := "judgeDrops", fn := fun _ => fun
  | [d1, d2, d3] => { results := [.lit (.bool true)], args := [d1, d2, d3] }
  | _ => none }
def judgeDropsRow : OpenClaim := { program := "ytoaibdbehlcnfaagreat", sum := "730ba2711167c92ccdbefff09f056239285f5653f1d4ca7c8d0bf745ad5edda1", func := "customhouse/customhouselaw15.JudgeDrops", spec := "judgeDrops", inPlace := ["math/bits.Sub64"], unfollowed := true, recurses := true, plainKeys := false, apart := false }
def JudgeDropsSaid : Prop := judgeDropsRow.holds Tryz.pinned (OpenSpec.ofChange judgeDropsSpec)

/-- ITS FALSE NEIGHBOUR: 'it returns false'. Refute it at one input. -/
def judgeDropsWrong : ChangeSpec := { name := "judgeDrops", fn := fun _ => fun
  | [d1, d2, d3] => { results := [.lit (.bool false)], args := [d1, d2, d3] }
  | _ => none }
def JudgeDropsWrongFalsely : Prop := judgeDropsRow.holds Tryz.pinned (OpenSpec.ofChange judgeDropsWrong)

/-- 'customhouselaw30.ReachPairs': WHATEVER THE INPUT: true; the input reads as it did. -/
def reachPairsSpec : ChangeSpec := { name := "reachPairs", fn := fun _ => fun
  | [d1, d2, d3, d4] => { results := [.lit (.bool true)], args := [d1, d2, d3, d4] }
  | _ => none }
def reachPairsRow : OpenClaim := { program := "ytoaibdbehlcnfaagreat", sum := "730ba2711167c92ccdbefff09f056239285f5653f1d4ca7c8d0bf745ad5edda1", func := "customhouse/customhouselaw30.ReachPairs", spec := "reachPairs", inPlace := ["math/bits.Sub64"], unfollowed := true, recurses := true, plainKeys := false, apart := false }
def ReachPairsSaid : Prop := reachPairsRow.holds Tryz.pinned (OpenSpec.ofChange reachPairsSpec)

/-- ITS FALSE NEIGHBOUR: 'it returns false'. Refute it at one input. -/
def reachPairsWrong : ChangeSpec := { name := "reachPairs", fn := fun _ => fun
  | [d1, d2, d3, d4] => { results := [.lit (.bool false)], args := [d1, d2, d3, d4] }
  | _ => none }
def ReachPairsWrongFalsely : Prop := reachPairsRow.holds Tryz.pinned (OpenSpec.ofChange reachPairsWrong)

/-- 'customhouselaw30.ReachFrom': WHATEVER THE INPUT: true; the input reads as it did. -/
def reachFromSpec : ChangeSpec := { name := "reachFrom", fn := fun _ => fun
  | [d1, d2, d3] => { results := [.lit (.bool true)], args := [d1, d2, d3] }
  | _ => none }
def reachFromRow : OpenClaim := { program := "ytoaibdbehlcnfaagreat", sum := "730ba2711167c92ccdbefff09f056239285f5653f1d4ca7c8d0bf745ad5edda1", func := "customhouse/customhouselaw30.ReachFrom", spec := "reachFrom", inPlace := ["math/bits.Sub64"], unfollowed := true, recurses := true, plainKeys := false, apart := false }
def ReachFromSaid : Prop := reachFromRow.holds Tryz.pinned (OpenSpec.ofChange reachFromSpec)

/-- ITS FALSE NEIGHBOUR: 'it returns false'. Refute it at one input. -/
def reachFromWrong : ChangeSpec := { name := "reachFrom", fn := fun _ => fun
  | [d1, d2, d3] => { results := [.lit (.bool false)], args := [d1, d2, d3] }
  | _ => none }
def ReachFromWrongFalsely : Prop := reachFromRow.holds Tryz.pinned (OpenSpec.ofChange reachFromWrong)

/-- 'customhouselaw30.ReachUsed': WHATEVER THE INPUT: true; the input reads as it did. -/
def reachUsedSpec : ChangeSpec := { name := "reachUsed", fn := fun _ => fun
  | [d1, d2, d3, d4] => { results := [.lit (.bool true)], args := [d1, d2, d3, d4] }
  | _ => none }
def reachUsedRow : OpenClaim := { program := "ytoaibdbehlcnfaagreat", sum := "730ba2711167c92ccdbefff09f056239285f5653f1d4ca7c8d0bf745ad5edda1", func := "customhouse/customhouselaw30.ReachUsed", spec := "reachUsed", inPlace := ["math/bits.Sub64"], unfollowed := true, recurses := true, plainKeys := false, apart := false }
def ReachUsedSaid : Prop := reachUsedRow.holds Tryz.pinned (OpenSpec.ofChange reachUsedSpec)

/-- ITS FALSE NEIGHBOUR: 'it returns false'. Refute it at one input. -/
def reachUsedWrong : ChangeSpec := { name := "reachUsed", fn := fun _ => fun
  | [d1, d2, d3, d4] => { results := [.lit (.bool false)], args := [d1, d2, d3, d4] }
  | _ => none }
def ReachUsedWrongFalsely : Prop := reachUsedRow.holds Tryz.pinned (OpenSpec.ofChange reachUsedWrong)

/-- 'customhouselaw30.ReachSpare': WHATEVER THE INPUT: true; the input reads as it did. -/
def reachSpareSpec : ChangeSpec := { name := "reachSpare", fn := fun _ => fun
  | [d1, d2, d3, d4] => { results := [.lit (.bool true)], args := [d1, d2, d3, d4] }
  | _ => none }
def reachSpareRow : OpenClaim := { program := "ytoaibdbehlcnfaagreat", sum := "730ba2711167c92ccdbefff09f056239285f5653f1d4ca7c8d0bf745ad5edda1", func := "customhouse/customhouselaw30.ReachSpare", spec := "reachSpare", inPlace := ["math/bits.Sub64"], unfollowed := true, recurses := true, plainKeys := false, apart := false }
def ReachSpareSaid : Prop := reachSpareRow.holds Tryz.pinned (OpenSpec.ofChange reachSpareSpec)

/-- ITS FALSE NEIGHBOUR: 'it returns false'. Refute it at one input. -/
def reachSpareWrong : ChangeSpec := { name := "reachSpare", fn := fun _ => fun
  | [d1, d2, d3, d4] => { results := [.lit (.bool false)], args := [d1, d2, d3, d4] }
  | _ => none }
def ReachSpareWrongFalsely : Prop := reachSpareRow.holds Tryz.pinned (OpenSpec.ofChange reachSpareWrong)

/-- 'customhouselaw17.LiveNear': WHATEVER THE INPUT: true; the input reads as it did. -/
def liveNearSpec : ChangeSpec := { name := "liveNear", fn := fun _ => fun
  | [d1, d2] => { results := [.lit (.bool true)], args := [d1, d2] }
  | _ => none }
def liveNearRow : OpenClaim := { program := "ytoaibdbehlcnfaagreat", sum := "730ba2711167c92ccdbefff09f056239285f5653f1d4ca7c8d0bf745ad5edda1", func := "customhouse/customhouselaw17.LiveNear", spec := "liveNear", inPlace := ["math/bits.Sub64", "slices.overlaps[customhouse/api.Rule]", "maps.clone"], unfollowed := true, recurses := true, plainKeys := false, apart := false }
def LiveNearSaid : Prop := liveNearRow.holds Tryz.pinned (OpenSpec.ofChange liveNearSpec)

/-- ITS FALSE NEIGHBOUR: 'it returns false'. Refute it at one input. -/
def liveNearWrong : ChangeSpec := { name := "liveNear", fn := fun _ => fun
  | [d1, d2] => { results := [.lit (.bool false)], args := [d1, d2] }
  | _ => none }
def LiveNearWrongFalsely : Prop := liveNearRow.holds Tryz.pinned (OpenSpec.ofChange liveNearWrong)

/-- 'customhouselaw17.LiveBack': WHATEVER THE INPUT: true; the input reads as it did. -/
def liveBackSpec : ChangeSpec := { name := "liveBack", fn := fun _ => fun
  | [d1, d2] => { results := [.lit (.bool true)], args := [d1, d2] }
  | _ => none }
def liveBackRow : OpenClaim := { program := "ytoaibdbehlcnfaagreat", sum := "730ba2711167c92ccdbefff09f056239285f5653f1d4ca7c8d0bf745ad5edda1", func := "customhouse/customhouselaw17.LiveBack", spec := "liveBack", inPlace := ["math/bits.Sub64", "slices.overlaps[customhouse/api.Rule]", "maps.clone"], unfollowed := true, recurses := true, plainKeys := false, apart := false }
def LiveBackSaid : Prop := liveBackRow.holds Tryz.pinned (OpenSpec.ofChange liveBackSpec)

/-- ITS FALSE NEIGHBOUR: 'it returns false'. Refute it at one input. -/
def liveBackWrong : ChangeSpec := { name := "liveBack", fn := fun _ => fun
  | [d1, d2] => { results := [.lit (.bool false)], args := [d1, d2] }
  | _ => none }
def LiveBackWrongFalsely : Prop := liveBackRow.holds Tryz.pinned (OpenSpec.ofChange liveBackWrong)

/-- 'customhouselaw17.LiveAtoms': WHATEVER THE INPUT: true; the input reads as it did. -/
def liveAtomsSpec : ChangeSpec := { name := "liveAtoms", fn := fun _ => fun
  | [d1, d2, d3, d4, d5] => { results := [.lit (.bool true)], args := [d1, d2, d3, d4, d5] }
  | _ => none }
def liveAtomsRow : OpenClaim := { program := "ytoaibdbehlcnfaagreat", sum := "730ba2711167c92ccdbefff09f056239285f5653f1d4ca7c8d0bf745ad5edda1", func := "customhouse/customhouselaw17.LiveAtoms", spec := "liveAtoms", inPlace := ["math/bits.Sub64", "slices.overlaps[customhouse/api.Rule]", "maps.clone"], unfollowed := true, recurses := true, plainKeys := false, apart := false }
def LiveAtomsSaid : Prop := liveAtomsRow.holds Tryz.pinned (OpenSpec.ofChange liveAtomsSpec)

/-- ITS FALSE NEIGHBOUR: 'it returns false'. Refute it at one input. -/
def liveAtomsWrong : ChangeSpec := { name := "liveAtoms", fn := fun _ => fun
  | [d1, d2, d3, d4, d5] => { results := [.lit (.bool false)], args := [d1, d2, d3, d4, d5] }
  | _ => none }
def LiveAtomsWrongFalsely : Prop := liveAtomsRow.holds Tryz.pinned (OpenSpec.ofChange liveAtomsWrong)

/-- 'customhouselaw17.LiveNone': WHATEVER THE INPUT: true; the input reads as it did. -/
def liveNoneSpec : ChangeSpec := { name := "liveNone", fn := fun _ => fun
  | [d1, d2] => { results := [.lit (.bool true)], args := [d1, d2] }
  | _ => none }
def liveNoneRow : OpenClaim := { program := "ytoaibdbehlcnfaagreat", sum := "730ba2711167c92ccdbefff09f056239285f5653f1d4ca7c8d0bf745ad5edda1", func := "customhouse/customhouselaw17.LiveNone", spec := "liveNone", inPlace := ["slices.overlaps[customhouse/api.Rule]", "math/bits.Sub64", "maps.clone"], unfollowed := true, recurses := true, plainKeys := false, apart := false }
def LiveNoneSaid : Prop := liveNoneRow.holds Tryz.pinned (OpenSpec.ofChange liveNoneSpec)

/-- ITS FALSE NEIGHBOUR: 'it returns false'. Refute it at one input. -/
def liveNoneWrong : ChangeSpec := { name := "liveNone", fn := fun _ => fun
  | [d1, d2] => { results := [.lit (.bool false)], args := [d1, d2] }
  | _ => none }
def LiveNoneWrongFalsely : Prop := liveNoneRow.holds Tryz.pinned (OpenSpec.ofChange liveNoneWrong)

/-- 'customhouselaw17.LiveTries': WHATEVER THE INPUT: true; the input reads as it did. -/
def liveTriesSpec : ChangeSpec := { name := "liveTries", fn := fun _ => fun
  | [d1, d2, d3, d4] => { results := [.lit (.bool true)], args := [d1, d2, d3, d4] }
  | _ => none }
def liveTriesRow : OpenClaim := { program := "ytoaibdbehlcnfaagreat", sum := "730ba2711167c92ccdbefff09f056239285f5653f1d4ca7c8d0bf745ad5edda1", func := "customhouse/customhouselaw17.LiveTries", spec := "liveTries", inPlace := ["math/bits.Sub64", "slices.overlaps[customhouse/api.Rule]", "maps.clone"], unfollowed := true, recurses := true, plainKeys := false, apart := false }
def LiveTriesSaid : Prop := liveTriesRow.holds Tryz.pinned (OpenSpec.ofChange liveTriesSpec)

/-- ITS FALSE NEIGHBOUR: 'it returns false'. Refute it at one input. -/
def liveTriesWrong : ChangeSpec := { name := "liveTries", fn := fun _ => fun
  | [d1, d2, d3, d4] => { results := [.lit (.bool false)], args := [d1, d2, d3, d4] }
  | _ => none }
def LiveTriesWrongFalsely : Prop := liveTriesRow.holds Tryz.pinned (OpenSpec.ofChange liveTriesWrong)

/- THE SECOND FORM. 'bulk': how many values and letters a reading holds, each counted each time it is reached (what is shared counts as often as it is met; a slice's spare places count too). A statement '..UptoSaid' is the law's where the arguments, and the package variables that the reading takes, are together of bulk at most 1048576: NARROWER than '..Said'. Prove '..Said' where nothing that the law and all that it calls make is longer than what came in: it says more and counts as full. Else prove '..UptoSaid'. A law counts once. -/
mutual
def uptoBulk {H : Type} : DataW H → Nat
  | .lit (.string bytes) => bytes.length + 1
  | .lit _ => 1
  | .nil => 1
  | .ptr d => uptoBulk d + 1
  | .slice elems spare => uptoBulkAll elems + uptoBulkAll spare + 1
  | .agg parts => uptoBulkAll parts + 1
  | .iface _ d => uptoBulk d + 1
  | .map entries => uptoBulkEntries entries + 1
  | .held _ => 1
def uptoBulkAll {H : Type} : List (DataW H) → Nat
  | [] => 0
  | d :: r => uptoBulk d + uptoBulkAll r
def uptoBulkEntries {H : Type} : List (Lit × DataW H) → Nat
  | [] => 0
  | x :: r => uptoBulkEntry x + uptoBulkEntries r
def uptoBulkEntry {H : Type} : Lit × DataW H → Nat
  | (.string bytes, d) => bytes.length + uptoBulk d + 1
  | (_, d) => uptoBulk d + 1
 end
def uptoSmall : (H : Type) → List (DataW H) → Bool := fun _ ds => decide (uptoBulkAll ds ≤ 1048576)
def OpenSpec.upto (s : _root_.Go.ChangeSpec) : _root_.Go.OpenSpec := { _root_.Go.OpenSpec.ofChange s with cond := some uptoSmall }

/-- 'customhouselaw28.DifferNear', WHERE WHAT IT READS IS OF BULK AT MOST 1048576: true; the input reads as it did. -/
def differNearUptoRow : OpenClaim := { program := "ytoaibdbehlcnfaagreat", sum := "730ba2711167c92ccdbefff09f056239285f5653f1d4ca7c8d0bf745ad5edda1", func := "customhouse/customhouselaw28.DifferNear", spec := "differNear", inPlace := ["math/bits.Sub64"], unfollowed := true, recurses := true, plainKeys := false, apart := false, narrowed := true }
def DifferNearUptoSaid : Prop := differNearUptoRow.holds Tryz.pinned (OpenSpec.upto differNearSpec)

/-- 'customhouselaw15.JudgeDrops', WHERE WHAT IT READS IS OF BULK AT MOST 1048576: true; the input reads as it did. -/
def judgeDropsUptoRow : OpenClaim := { program := "ytoaibdbehlcnfaagreat", sum := "730ba2711167c92ccdbefff09f056239285f5653f1d4ca7c8d0bf745ad5edda1", func := "customhouse/customhouselaw15.JudgeDrops", spec := "judgeDrops", inPlace := ["math/bits.Sub64"], unfollowed := true, recurses := true, plainKeys := false, apart := false, narrowed := true }
def JudgeDropsUptoSaid : Prop := judgeDropsUptoRow.holds Tryz.pinned (OpenSpec.upto judgeDropsSpec)

/-- 'customhouselaw30.ReachPairs', WHERE WHAT IT READS IS OF BULK AT MOST 1048576: true; the input reads as it did. -/
def reachPairsUptoRow : OpenClaim := { program := "ytoaibdbehlcnfaagreat", sum := "730ba2711167c92ccdbefff09f056239285f5653f1d4ca7c8d0bf745ad5edda1", func := "customhouse/customhouselaw30.ReachPairs", spec := "reachPairs", inPlace := ["math/bits.Sub64"], unfollowed := true, recurses := true, plainKeys := false, apart := false, narrowed := true }
def ReachPairsUptoSaid : Prop := reachPairsUptoRow.holds Tryz.pinned (OpenSpec.upto reachPairsSpec)

/-- 'customhouselaw30.ReachFrom', WHERE WHAT IT READS IS OF BULK AT MOST 1048576: true; the input reads as it did. -/
def reachFromUptoRow : OpenClaim := { program := "ytoaibdbehlcnfaagreat", sum := "730ba2711167c92ccdbefff09f056239285f5653f1d4ca7c8d0bf745ad5edda1", func := "customhouse/customhouselaw30.ReachFrom", spec := "reachFrom", inPlace := ["math/bits.Sub64"], unfollowed := true, recurses := true, plainKeys := false, apart := false, narrowed := true }
def ReachFromUptoSaid : Prop := reachFromUptoRow.holds Tryz.pinned (OpenSpec.upto reachFromSpec)

/-- 'customhouselaw30.ReachUsed', WHERE WHAT IT READS IS OF BULK AT MOST 1048576: true; the input reads as it did. -/
def reachUsedUptoRow : OpenClaim := { program := "ytoaibdbehlcnfaagreat", sum := "730ba2711167c92ccdbefff09f056239285f5653f1d4ca7c8d0bf745ad5edda1", func := "customhouse/customhouselaw30.ReachUsed", spec := "reachUsed", inPlace := ["math/bits.Sub64"], unfollowed := true, recurses := true, plainKeys := false, apart := false, narrowed := true }
def ReachUsedUptoSaid : Prop := reachUsedUptoRow.holds Tryz.pinned (OpenSpec.upto reachUsedSpec)

/-- 'customhouselaw30.ReachSpare', WHERE WHAT IT READS IS OF BULK AT MOST 1048576: true; the input reads as it did. -/
def reachSpareUptoRow : OpenClaim := { program := "ytoaibdbehlcnfaagreat", sum := "730ba2711167c92ccdbefff09f056239285f5653f1d4ca7c8d0bf745ad5edda1", func := "customhouse/customhouselaw30.ReachSpare", spec := "reachSpare", inPlace := ["math/bits.Sub64"], unfollowed := true, recurses := true, plainKeys := false, apart := false, narrowed := true }
def ReachSpareUptoSaid : Prop := reachSpareUptoRow.holds Tryz.pinned (OpenSpec.upto reachSpareSpec)

/-- 'customhouselaw17.LiveNear', WHERE WHAT IT READS IS OF BULK AT MOST 1048576: true; the input reads as it did. -/
def liveNearUptoRow : OpenClaim := { program := "ytoaibdbehlcnfaagreat", sum := "730ba2711167c92ccdbefff09f056239285f5653f1d4ca7c8d0bf745ad5edda1", func := "customhouse/customhouselaw17.LiveNear", spec := "liveNear", inPlace := ["math/bits.Sub64", "slices.overlaps[customhouse/api.Rule]", "maps.clone"], unfollowed := true, recurses := true, plainKeys := false, apart := false, narrowed := true }
def LiveNearUptoSaid : Prop := liveNearUptoRow.holds Tryz.pinned (OpenSpec.upto liveNearSpec)

/-- 'customhouselaw17.LiveBack', WHERE WHAT IT READS IS OF BULK AT MOST 1048576: true; the input reads as it did. -/
def liveBackUptoRow : OpenClaim := { program := "ytoaibdbehlcnfaagreat", sum := "730ba2711167c92ccdbefff09f056239285f5653f1d4ca7c8d0bf745ad5edda1", func := "customhouse/customhouselaw17.LiveBack", spec := "liveBack", inPlace := ["math/bits.Sub64", "slices.overlaps[customhouse/api.Rule]", "maps.clone"], unfollowed := true, recurses := true, plainKeys := false, apart := false, narrowed := true }
def LiveBackUptoSaid : Prop := liveBackUptoRow.holds Tryz.pinned (OpenSpec.upto liveBackSpec)

/-- 'customhouselaw17.LiveAtoms', WHERE WHAT IT READS IS OF BULK AT MOST 1048576: true; the input reads as it did. -/
def liveAtomsUptoRow : OpenClaim := { program := "ytoaibdbehlcnfaagreat", sum := "730ba2711167c92ccdbefff09f056239285f5653f1d4ca7c8d0bf745ad5edda1", func := "customhouse/customhouselaw17.LiveAtoms", spec := "liveAtoms", inPlace := ["math/bits.Sub64", "slices.overlaps[customhouse/api.Rule]", "maps.clone"], unfollowed := true, recurses := true, plainKeys := false, apart := false, narrowed := true }
def LiveAtomsUptoSaid : Prop := liveAtomsUptoRow.holds Tryz.pinned (OpenSpec.upto liveAtomsSpec)

/-- 'customhouselaw17.LiveNone', WHERE WHAT IT READS IS OF BULK AT MOST 1048576: true; the input reads as it did. -/
def liveNoneUptoRow : OpenClaim := { program := "ytoaibdbehlcnfaagreat", sum := "730ba2711167c92ccdbefff09f056239285f5653f1d4ca7c8d0bf745ad5edda1", func := "customhouse/customhouselaw17.LiveNone", spec := "liveNone", inPlace := ["slices.overlaps[customhouse/api.Rule]", "math/bits.Sub64", "maps.clone"], unfollowed := true, recurses := true, plainKeys := false, apart := false, narrowed := true }
def LiveNoneUptoSaid : Prop := liveNoneUptoRow.holds Tryz.pinned (OpenSpec.upto liveNoneSpec)

/-- 'customhouselaw17.LiveTries', WHERE WHAT IT READS IS OF BULK AT MOST 1048576: true; the input reads as it did. -/
def liveTriesUptoRow : OpenClaim := { program := "ytoaibdbehlcnfaagreat", sum := "730ba2711167c92ccdbefff09f056239285f5653f1d4ca7c8d0bf745ad5edda1", func := "customhouse/customhouselaw17.LiveTries", spec := "liveTries", inPlace := ["math/bits.Sub64", "slices.overlaps[customhouse/api.Rule]", "maps.clone"], unfollowed := true, recurses := true, plainKeys := false, apart := false, narrowed := true }
def LiveTriesUptoSaid : Prop := liveTriesUptoRow.holds Tryz.pinned (OpenSpec.upto liveTriesSpec)

end Rows
end Go.Proofs.YtoaibdbehlcnfaaGreat
