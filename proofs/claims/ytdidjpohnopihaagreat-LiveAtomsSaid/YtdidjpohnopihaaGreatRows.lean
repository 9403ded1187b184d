/-
  No cell of these rows narrows 'for every input' (looked for: loops, veiled, ifaces, maps, wideKeys, modest, calm, conditions, laid).
  DERIVED. THE GIVEN ROWS OF THIS SEAT. 5 by the template 'for every input the law returns true; each argument reads behind the call as it read before'; 0 by the template 'total and deterministic' (their statements: YtdidjpohnopihaaGreatTotals.lean).
  GIVEN WITH THE SEED: the statements are not yours to turn. If you find one false, say at which input.
  Laid BY PROGRAM, IN A SANDBOX (cutbox-rows.mjs): the forced cells as the released guide's own fill.sh prints them over the translation b830d892382edfa1… (all of the seat's roots in one cut). By AI agents, Wed Nov 11 2026. No macro, syntax, notation, axiom, sorry.
-/
import Derived.Test.YtdidjpohnopihaaGreatChecked
import GoSem.Claim
import GoSem.ClaimJoined
import GoSem.ClaimMapViews
import Derived.JoinedTies
import Derived.KernelRfl
namespace Go.Proofs.YtdidjpohnopihaaGreat
/- THE CELL 'sum', in the pinned program and in every row, IS THE sha256 OF THE DUMP (.gsa) THAT YtdidjpohnopihaaGreatProg.lean LOADS. Nothing in Lean hashes anything: it is a label: what it is worth is what the hold of that sum in a sandbox is worth. -/
noncomputable def Tryz.pinned : Pinned := { name := "ytdidjpohnopihaagreat", sum := "b830d892382edfa158dfeb09783492248eb613b4fa5bd7a9626ea1bca79910bb", checked := Tryz.checked }
namespace Rows
def none {H : Type} : Left H := { results := [], args := [] }

/-- 'customhouselaw17.LiveNear': WHATEVER THE INPUT: true; the input reads as it did. -/
def liveNearSpec : ChangeSpec := { name := "liveNear", fn := fun _ => fun
  | [d1, d2] => { results := [.lit (.bool true)], args := [d1, d2] }
  | _ => none }
def liveNearRow : OpenClaim := { program := "ytdidjpohnopihaagreat", sum := "b830d892382edfa158dfeb09783492248eb613b4fa5bd7a9626ea1bca79910bb", func := "customhouse/customhouselaw17.LiveNear", spec := "liveNear", inPlace := ["math/bits.Sub64", "slices.overlaps[customhouse/api.Rule]", "maps.clone"], unfollowed := true, recurses := true, plainKeys := false, apart := false }
def LiveNearSaid : Prop := liveNearRow.holds Tryz.pinned (OpenSpec.ofChange liveNearSpec)

/-- ITS FALSE NEIGHBOUR: 'it returns false'. Refute it at one input. -/
def liveNearWrong : ChangeSpec := { name := "liveNear", fn := fun _ => fun
  | [d1, d2] => { results := [.lit (.bool false)], args := [d1, d2] }
  | _ => none }
def LiveNearWrongFalsely : Prop := liveNearRow.holds Tryz.pinned (OpenSpec.ofChange liveNearWrong)

/-- 'customhouselaw17.LiveBack': WHATEVER THE INPUT: true; the input reads as it did. -/
def liveBackSpec : ChangeSpec := { name := "liveBack", fn := fun _ => fun
  | [d1, d2] => { results := [.lit (.bool true)], args := [d1, d2] }
  | _ => none }
def liveBackRow : OpenClaim := { program := "ytdidjpohnopihaagreat", sum := "b830d892382edfa158dfeb09783492248eb613b4fa5bd7a9626ea1bca79910bb", func := "customhouse/customhouselaw17.LiveBack", spec := "liveBack", inPlace := ["math/bits.Sub64", "slices.overlaps[customhouse/api.Rule]", "maps.clone"], unfollowed := true, recurses := true, plainKeys := false, apart := false }
def LiveBackSaid : Prop := liveBackRow.holds Tryz.pinned (OpenSpec.ofChange liveBackSpec)

/-- ITS FALSE NEIGHBOUR: 'it returns false'. Refute it at one input. -/
def liveBackWrong : ChangeSpec := { name := "liveBack", fn := fun _ => fun
  | [d1, d2] => { results := [.lit (.bool false)], args := [d1, d2] }
  | _ => none }
def LiveBackWrongFalsely : Prop := liveBackRow.holds Tryz.pinned (OpenSpec.ofChange liveBackWrong)

/-- 'customhouselaw17.LiveAtoms': WHATEVER THE INPUT: true; the input reads as it did. -/
def liveAtomsSpec : ChangeSpec := { name := "liveAtoms", fn := fun _ => fun
  | [d1, d2, d3, d4, d5] => { results := [.lit (.bool true)], args := [d1, d2, d3, d4, d5] }
  | _ => none }
def liveAtomsRow : OpenClaim := { program := "ytdidjpohnopihaagreat", sum := "b830d892382edfa158dfeb09783492248eb613b4fa5bd7a9626ea1bca79910bb", func := "customhouse/customhouselaw17.LiveAtoms", spec := "liveAtoms", inPlace := ["math/bits.Sub64", "slices.overlaps[customhouse/api.Rule]", "maps.clone"], unfollowed := true, recurses := true, plainKeys := false, apart := false }
def LiveAtomsSaid : Prop := liveAtomsRow.holds Tryz.pinned (OpenSpec.ofChange liveAtomsSpec)

/-- ITS FALSE NEIGHBOUR: 'it returns false'. Refute it at one input. -/
def liveAtomsWrong : ChangeSpec := { name := "liveAtoms", fn := fun _ => fun
  | [d1, d2, d3, d4, d5] => { results := [.lit (.bool false)], args := [d1, d2, d3, d4, d5] }
  | _ => none }
def LiveAtomsWrongFalsely : Prop := liveAtomsRow.holds Tryz.pinned (OpenSpec.ofChange liveAtomsWrong)

/-- 'customhouselaw17.LiveNone': WHATEVER THE INPUT: true; the input reads as it did. -/
def liveNoneSpec : ChangeSpec := { name := "liveNone", fn := fun _ => fun
  | [d1, d2] => { results := [.lit (.bool true)], args := [d1, d2] }
  | _ => none }
def liveNoneRow : OpenClaim := { program := "ytdidjpohnopihaagreat", sum := "b830d892382edfa158dfeb09783492248eb613b4fa5bd7a9626ea1bca79910bb", func := "customhouse/customhouselaw17.LiveNone", spec := "liveNone", inPlace := ["slices.overlaps[customhouse/api.Rule]", "math/bits.Sub64", "maps.clone"], unfollowed := true, recurses := true, plainKeys := false, apart := false }
def LiveNoneSaid : Prop := liveNoneRow.holds Tryz.pinned (OpenSpec.ofChange liveNoneSpec)

/-- ITS FALSE NEIGHBOUR: 'it returns false'. Refute it at one input. -/
def liveNoneWrong : ChangeSpec := { name := "liveNone", fn := fun _ => fun
  | [d1, d2] => { results := [.lit (.bool false)], args := [d1, d2] }
  | _ => none }
def LiveNoneWrongFalsely : Prop := liveNoneRow.holds Tryz.pinned (OpenSpec.ofChange liveNoneWrong)

/-- 'customhouselaw17.LiveTries': WHATEVER THE INPUT: true; the input reads as it did. -/
def liveTriesSpec : ChangeSpec := { name := "liveTries", fn := fun _ => fun
  | [d1, d2, d3, d4] => { results := [.lit (.bool true)], args := [d1, d2, d3, d4] }
  | _ => none }
def liveTriesRow : OpenClaim := { program := "ytdidjpohnopihaagreat", sum := "b830d892382edfa158dfeb09783492248eb613b4fa5bd7a9626ea1bca79910bb", func := "customhouse/customhouselaw17.LiveTries", spec := "liveTries", inPlace := ["math/bits.Sub64", "slices.overlaps[customhouse/api.Rule]", "maps.clone"], unfollowed := true, recurses := true, plainKeys := false, apart := false }
def LiveTriesSaid : Prop := liveTriesRow.holds Tryz.pinned (OpenSpec.ofChange liveTriesSpec)

/-- ITS FALSE NEIGHBOUR: 'it returns false'. Refute it at one input. -/
def liveTriesWrong : ChangeSpec := { name := "liveTries", fn := fun _ => fun
  | [d1, d2, d3, d4] => { results := [.lit (.bool false)], args := [d1, d2, d3, d4] }
  | _ => none }
def LiveTriesWrongFalsely : Prop := liveTriesRow.holds Tryz.pinned (OpenSpec.ofChange liveTriesWrong)

/- THE SECOND FORM. 'bulk': how many values and letters a reading holds, each counted each time it is reached (what is shared counts as often as it is met; a slice's spare places count too). A statement '..UptoSaid' is the law's where the arguments, and the package variables that the reading takes, are together of bulk at most 1048576: NARROWER than '..Said'. Prove '..Said' where nothing that the law and all that it calls make is longer than what came in: it says more and counts as full. Else prove '..UptoSaid'. A law counts once. -/
mutual
def uptoBulk {H : Type} : DataW H → Nat
  | .lit (.string bytes) => bytes.length + 1
  | .lit _ => 1
  | .nil => 1
  | .ptr d => uptoBulk d + 1
  | .slice elems spare => uptoBulkAll elems + uptoBulkAll spare + 1
  | .agg parts => uptoBulkAll parts + 1
  | .iface _ d => uptoBulk d + 1
  | .map entries => uptoBulkEntries entries + 1
  | .held _ => 1
def uptoBulkAll {H : Type} : List (DataW H) → Nat
  | [] => 0
  | d :: r => uptoBulk d + uptoBulkAll r
def uptoBulkEntries {H : Type} : List (Lit × DataW H) → Nat
  | [] => 0
  | x :: r => uptoBulkEntry x + uptoBulkEntries r
def uptoBulkEntry {H : Type} : Lit × DataW H → Nat
  | (.string bytes, d) => bytes.length + uptoBulk d + 1
  | (_, d) => uptoBulk d + 1
 end
def uptoSmall : (H : Type) → List (DataW H) → Bool := fun _ ds => decide (uptoBulkAll ds ≤ 1048576)
def OpenSpec.upto (s : _root_.Go.ChangeSpec) : _root_.Go.OpenSpec := { _root_.Go.OpenSpec.ofChange s with cond := some uptoSmall }

/-- 'customhouselaw17.LiveNear', WHERE WHAT IT READS IS OF BULK AT MOST 1048576: true; the input reads as it did. -/
def liveNearUptoRow : OpenClaim := { program := "ytdidjpohnopihaagreat", sum := "b830d892382edfa158dfeb09783492248eb613b4fa5bd7a9626ea1bca79910bb", func := "customhouse/customhouselaw17.LiveNear", spec := "liveNear", inPlace := ["math/bits.Sub64", "slices.overlaps[customhouse/api.Rule]", "maps.clone"], unfollowed := true, recurses := true, plainKeys := false, apart := false, narrowed := true }
def LiveNearUptoSaid : Prop := liveNearUptoRow.holds Tryz.pinned (OpenSpec.upto liveNearSpec)

/-- 'customhouselaw17.LiveBack', WHERE WHAT IT READS IS OF BULK AT MOST 1048576: true; the input reads as it did. -/
def liveBackUptoRow : OpenClaim := { program := "ytdidjpohnopihaagreat", sum := "b830d892382edfa158dfeb09783492248eb613b4fa5bd7a9626ea1bca79910bb", func := "customhouse/customhouselaw17.LiveBack", spec := "liveBack", inPlace := ["math/bits.Sub64", "slices.overlaps[customhouse/api.Rule]", "maps.clone"], unfollowed := true, recurses := true, plainKeys := false, apart := false, narrowed := true }
def LiveBackUptoSaid : Prop := liveBackUptoRow.holds Tryz.pinned (OpenSpec.upto liveBackSpec)

/-- 'customhouselaw17.LiveAtoms', WHERE WHAT IT READS IS OF BULK AT MOST 1048576: true; the input reads as it did. -/
def liveAtomsUptoRow : OpenClaim := { program := "ytdidjpohnopihaagreat", sum := "b830d892382edfa158dfeb09783492248eb613b4fa5bd7a9626ea1bca79910bb", func := "customhouse/customhouselaw17.LiveAtoms", spec := "liveAtoms", inPlace := ["math/bits.Sub64", "slices.overlaps[customhouse/api.Rule]", "maps.clone"], unfollowed := true, recurses := true, plainKeys := false, apart := false, narrowed := true }
def LiveAtomsUptoSaid : Prop := liveAtomsUptoRow.holds Tryz.pinned (OpenSpec.upto liveAtomsSpec)

/-- 'customhouselaw17.LiveNone', WHERE WHAT IT READS IS OF BULK AT MOST 1048576: true; the input reads as it did. -/
def liveNoneUptoRow : OpenClaim := { program := "ytdidjpohnopihaagreat", sum := "b830d892382edfa158dfeb09783492248eb613b4fa5bd7a9626ea1bca79910bb", func := "customhouse/customhouselaw17.LiveNone", spec := "liveNone", inPlace := ["slices.overlaps[customhouse/api.Rule]", "math/bits.Sub64", "maps.clone"], unfollowed := true, recurses := true, plainKeys := false, apart := false, narrowed := true }
def LiveNoneUptoSaid : Prop := liveNoneUptoRow.holds Tryz.pinned (OpenSpec.upto liveNoneSpec)

/-- 'customhouselaw17.LiveTries', WHERE WHAT IT READS IS OF BULK AT MOST 1048576: true; the input reads as it did. -/
def liveTriesUptoRow : OpenClaim := { program := "ytdidjpohnopihaagreat", sum := "b830d892382edfa158dfeb09783492248eb613b4fa5bd7a9626ea1bca79910bb", func := "customhouse/customhouselaw17.LiveTries", spec := "liveTries", inPlace := ["math/bits.Sub64", "slices.overlaps[customhouse/api.Rule]", "maps.clone"], unfollowed := true, recurses := true, plainKeys := false, apart := false, narrowed := true }
def LiveTriesUptoSaid : Prop := liveTriesUptoRow.holds Tryz.pinned (OpenSpec.upto liveTriesSpec)

end Rows
end Go.Proofs.YtdidjpohnopihaaGreat
