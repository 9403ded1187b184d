/-
  No cell of these rows narrows 'for every input' (looked for: loops, veiled, ifaces, maps, wideKeys, modest, calm, conditions, laid).
  DERIVED. THE GIVEN ROWS OF THIS SEAT. 9 by the template 'for every input the law returns true; each argument reads behind the call as it read before'; 0 by the template 'total and deterministic' (their statements: YtpaldbejnbcokaaTotals.lean).
  GIVEN WITH THE SEED: the statements are not yours to turn. If you find one false, say at which input.
  Laid BY PROGRAM, IN A SANDBOX (cutbox-rows.mjs): the forced cells as the released guide's own fill.sh prints them over the translation 0b014ae47b44f683… (all of the seat's roots in one cut). By AI agents, Wed Nov 11 2026. No macro, syntax, notation, axiom, sorry.
-/
import Derived.Test.YtpaldbejnbcokaaChecked
import GoSem.Claim
import GoSem.ClaimJoined
import GoSem.ClaimMapViews
import Derived.JoinedTies
import Derived.KernelRfl
namespace Go.Proofs.Ytpaldbejnbcokaa
/- THE CELL 'sum', in the pinned program and in every row, IS THE sha256 OF THE DUMP (.gsa) THAT YtpaldbejnbcokaaProg.lean LOADS. Nothing in Lean hashes anything: it is a label: what it is worth is what the hold of that sum in a sandbox is worth. -/
noncomputable def Try.pinned : Pinned := { name := "ytpaldbejnbcokaa", sum := "0b014ae47b44f683f4954a0299a9c63e7ec39649f0359aa9e29a9b2c184f369b", checked := Try.checked }
namespace Rows
def none {H : Type} : Left H := { results := [], args := [] }

/-- 'customhouselaw21.WireConfigs': WHATEVER THE INPUT: true; the input reads as it did. -/
def wireConfigsSpec : ChangeSpec := { name := "wireConfigs", fn := fun _ => fun
  | [d1, d2] => { results := [.lit (.bool true)], args := [d1, d2] }
  | _ => none }
def wireConfigsRow : OpenClaim := { program := "ytpaldbejnbcokaa", sum := "0b014ae47b44f683f4954a0299a9c63e7ec39649f0359aa9e29a9b2c184f369b", func := "customhouse/customhouselaw21.WireConfigs", spec := "wireConfigs", unfollowed := true, recurses := true, apart := false }
def WireConfigsSaid : Prop := wireConfigsRow.holds Try.pinned (OpenSpec.ofChange wireConfigsSpec)

/-- ITS FALSE NEIGHBOUR: 'it returns false'. Refute it at one input. -/
def wireConfigsWrong : ChangeSpec := { name := "wireConfigs", fn := fun _ => fun
  | [d1, d2] => { results := [.lit (.bool false)], args := [d1, d2] }
  | _ => none }
def WireConfigsWrongFalsely : Prop := wireConfigsRow.holds Try.pinned (OpenSpec.ofChange wireConfigsWrong)

/-- 'customhouselaw21.WireLetters': WHATEVER THE INPUT: true; the input reads as it did. -/
def wireLettersSpec : ChangeSpec := { name := "wireLetters", fn := fun _ => fun
  | [d1, d2] => { results := [.lit (.bool true)], args := [d1, d2] }
  | _ => none }
def wireLettersRow : OpenClaim := { program := "ytpaldbejnbcokaa", sum := "0b014ae47b44f683f4954a0299a9c63e7ec39649f0359aa9e29a9b2c184f369b", func := "customhouse/customhouselaw21.WireLetters", spec := "wireLetters", unfollowed := true, recurses := true, apart := false }
def WireLettersSaid : Prop := wireLettersRow.holds Try.pinned (OpenSpec.ofChange wireLettersSpec)

/-- ITS FALSE NEIGHBOUR: 'it returns false'. Refute it at one input. -/
def wireLettersWrong : ChangeSpec := { name := "wireLetters", fn := fun _ => fun
  | [d1, d2] => { results := [.lit (.bool false)], args := [d1, d2] }
  | _ => none }
def WireLettersWrongFalsely : Prop := wireLettersRow.holds Try.pinned (OpenSpec.ofChange wireLettersWrong)

/-- 'customhouselaw21.WireApart': WHATEVER THE INPUT: true; the input reads as it did. -/
def wireApartSpec : ChangeSpec := { name := "wireApart", fn := fun _ => fun
  | [d1, d2, d3, d4] => { results := [.lit (.bool true)], args := [d1, d2, d3, d4] }
  | _ => none }
def wireApartRow : OpenClaim := { program := "ytpaldbejnbcokaa", sum := "0b014ae47b44f683f4954a0299a9c63e7ec39649f0359aa9e29a9b2c184f369b", func := "customhouse/customhouselaw21.WireApart", spec := "wireApart", unfollowed := true, recurses := true, apart := false }
def WireApartSaid : Prop := wireApartRow.holds Try.pinned (OpenSpec.ofChange wireApartSpec)

/-- ITS FALSE NEIGHBOUR: 'it returns false'. Refute it at one input. -/
def wireApartWrong : ChangeSpec := { name := "wireApart", fn := fun _ => fun
  | [d1, d2, d3, d4] => { results := [.lit (.bool false)], args := [d1, d2, d3, d4] }
  | _ => none }
def WireApartWrongFalsely : Prop := wireApartRow.holds Try.pinned (OpenSpec.ofChange wireApartWrong)

/-- 'customhouselaw21.WireEntries': WHATEVER THE INPUT: true; the input reads as it did. -/
def wireEntriesSpec : ChangeSpec := { name := "wireEntries", fn := fun _ => fun
  | [d1, d2] => { results := [.lit (.bool true)], args := [d1, d2] }
  | _ => none }
def wireEntriesRow : OpenClaim := { program := "ytpaldbejnbcokaa", sum := "0b014ae47b44f683f4954a0299a9c63e7ec39649f0359aa9e29a9b2c184f369b", func := "customhouse/customhouselaw21.WireEntries", spec := "wireEntries", unfollowed := true, recurses := true, apart := false }
def WireEntriesSaid : Prop := wireEntriesRow.holds Try.pinned (OpenSpec.ofChange wireEntriesSpec)

/-- ITS FALSE NEIGHBOUR: 'it returns false'. Refute it at one input. -/
def wireEntriesWrong : ChangeSpec := { name := "wireEntries", fn := fun _ => fun
  | [d1, d2] => { results := [.lit (.bool false)], args := [d1, d2] }
  | _ => none }
def WireEntriesWrongFalsely : Prop := wireEntriesRow.holds Try.pinned (OpenSpec.ofChange wireEntriesWrong)

/-- 'customhouselaw21.WireOnce': WHATEVER THE INPUT: true; the input reads as it did. -/
def wireOnceSpec : ChangeSpec := { name := "wireOnce", fn := fun _ => fun
  | [d1, d2, d3, d4, d5] => { results := [.lit (.bool true)], args := [d1, d2, d3, d4, d5] }
  | _ => none }
def wireOnceRow : OpenClaim := { program := "ytpaldbejnbcokaa", sum := "0b014ae47b44f683f4954a0299a9c63e7ec39649f0359aa9e29a9b2c184f369b", func := "customhouse/customhouselaw21.WireOnce", spec := "wireOnce", unfollowed := true, recurses := true, apart := false }
def WireOnceSaid : Prop := wireOnceRow.holds Try.pinned (OpenSpec.ofChange wireOnceSpec)

/-- ITS FALSE NEIGHBOUR: 'it returns false'. Refute it at one input. -/
def wireOnceWrong : ChangeSpec := { name := "wireOnce", fn := fun _ => fun
  | [d1, d2, d3, d4, d5] => { results := [.lit (.bool false)], args := [d1, d2, d3, d4, d5] }
  | _ => none }
def WireOnceWrongFalsely : Prop := wireOnceRow.holds Try.pinned (OpenSpec.ofChange wireOnceWrong)

/-- 'customhouselaw22.BookPlays': WHATEVER THE INPUT: true; the input reads as it did. -/
def bookPlaysSpec : ChangeSpec := { name := "bookPlays", fn := fun _ => fun
  | [d] => { results := [.lit (.bool true)], args := [d] }
  | _ => none }
def bookPlaysRow : OpenClaim := { program := "ytpaldbejnbcokaa", sum := "0b014ae47b44f683f4954a0299a9c63e7ec39649f0359aa9e29a9b2c184f369b", func := "customhouse/customhouselaw22.BookPlays", spec := "bookPlays", unfollowed := true, recurses := true, apart := false }
def BookPlaysSaid : Prop := bookPlaysRow.holds Try.pinned (OpenSpec.ofChange bookPlaysSpec)

/-- ITS FALSE NEIGHBOUR: 'it returns false'. Refute it at one input. -/
def bookPlaysWrong : ChangeSpec := { name := "bookPlays", fn := fun _ => fun
  | [d] => { results := [.lit (.bool false)], args := [d] }
  | _ => none }
def BookPlaysWrongFalsely : Prop := bookPlaysRow.holds Try.pinned (OpenSpec.ofChange bookPlaysWrong)

/-- 'customhouselaw22.BookSizes': WHATEVER THE INPUT: true; the input reads as it did. -/
def bookSizesSpec : ChangeSpec := { name := "bookSizes", fn := fun _ => fun
  | [d1, d2, d3] => { results := [.lit (.bool true)], args := [d1, d2, d3] }
  | _ => none }
def bookSizesRow : OpenClaim := { program := "ytpaldbejnbcokaa", sum := "0b014ae47b44f683f4954a0299a9c63e7ec39649f0359aa9e29a9b2c184f369b", func := "customhouse/customhouselaw22.BookSizes", spec := "bookSizes", unfollowed := true, recurses := true, apart := false }
def BookSizesSaid : Prop := bookSizesRow.holds Try.pinned (OpenSpec.ofChange bookSizesSpec)

/-- ITS FALSE NEIGHBOUR: 'it returns false'. Refute it at one input. -/
def bookSizesWrong : ChangeSpec := { name := "bookSizes", fn := fun _ => fun
  | [d1, d2, d3] => { results := [.lit (.bool false)], args := [d1, d2, d3] }
  | _ => none }
def BookSizesWrongFalsely : Prop := bookSizesRow.holds Try.pinned (OpenSpec.ofChange bookSizesWrong)

/-- 'customhouselaw22.BookNone': WHATEVER THE INPUT: true; the input reads as it did. -/
def bookNoneSpec : ChangeSpec := { name := "bookNone", fn := fun _ => fun
  | [d1, d2] => { results := [.lit (.bool true)], args := [d1, d2] }
  | _ => none }
def bookNoneRow : OpenClaim := { program := "ytpaldbejnbcokaa", sum := "0b014ae47b44f683f4954a0299a9c63e7ec39649f0359aa9e29a9b2c184f369b", func := "customhouse/customhouselaw22.BookNone", spec := "bookNone", unfollowed := true, recurses := true, apart := false }
def BookNoneSaid : Prop := bookNoneRow.holds Try.pinned (OpenSpec.ofChange bookNoneSpec)

/-- ITS FALSE NEIGHBOUR: 'it returns false'. Refute it at one input. -/
def bookNoneWrong : ChangeSpec := { name := "bookNone", fn := fun _ => fun
  | [d1, d2] => { results := [.lit (.bool false)], args := [d1, d2] }
  | _ => none }
def BookNoneWrongFalsely : Prop := bookNoneRow.holds Try.pinned (OpenSpec.ofChange bookNoneWrong)

/-- 'customhouselaw22.BookOrder': WHATEVER THE INPUT: true; the input reads as it did. -/
def bookOrderSpec : ChangeSpec := { name := "bookOrder", fn := fun _ => fun
  | [d1, d2] => { results := [.lit (.bool true)], args := [d1, d2] }
  | _ => none }
def bookOrderRow : OpenClaim := { program := "ytpaldbejnbcokaa", sum := "0b014ae47b44f683f4954a0299a9c63e7ec39649f0359aa9e29a9b2c184f369b", func := "customhouse/customhouselaw22.BookOrder", spec := "bookOrder", unfollowed := true, recurses := true, apart := false }
def BookOrderSaid : Prop := bookOrderRow.holds Try.pinned (OpenSpec.ofChange bookOrderSpec)

/-- ITS FALSE NEIGHBOUR: 'it returns false'. Refute it at one input. -/
def bookOrderWrong : ChangeSpec := { name := "bookOrder", fn := fun _ => fun
  | [d1, d2] => { results := [.lit (.bool false)], args := [d1, d2] }
  | _ => none }
def BookOrderWrongFalsely : Prop := bookOrderRow.holds Try.pinned (OpenSpec.ofChange bookOrderWrong)

/- THE SECOND FORM. 'bulk': how many values and letters a reading holds, each counted each time it is reached (what is shared counts as often as it is met; a slice's spare places count too). A statement '..UptoSaid' is the law's where the arguments, and the package variables that the reading takes, are together of bulk at most 1048576: NARROWER than '..Said'. Prove '..Said' where nothing that the law and all that it calls make is longer than what came in: it says more and counts as full. Else prove '..UptoSaid'. A law counts once. -/
mutual
def uptoBulk {H : Type} : DataW H → Nat
  | .lit (.string bytes) => bytes.length + 1
  | .lit _ => 1
  | .nil => 1
  | .ptr d => uptoBulk d + 1
  | .slice elems spare => uptoBulkAll elems + uptoBulkAll spare + 1
  | .agg parts => uptoBulkAll parts + 1
  | .iface _ d => uptoBulk d + 1
  | .map entries => uptoBulkEntries entries + 1
  | .held _ => 1
def uptoBulkAll {H : Type} : List (DataW H) → Nat
  | [] => 0
  | d :: r => uptoBulk d + uptoBulkAll r
def uptoBulkEntries {H : Type} : List (Lit × DataW H) → Nat
  | [] => 0
  | x :: r => uptoBulkEntry x + uptoBulkEntries r
def uptoBulkEntry {H : Type} : Lit × DataW H → Nat
  | (.string bytes, d) => bytes.length + uptoBulk d + 1
  | (_, d) => uptoBulk d + 1
 end
def uptoSmall : (H : Type) → List (DataW H) → Bool := fun _ ds => decide (uptoBulkAll ds ≤ 1048576)
def OpenSpec.upto (s : _root_.Go.ChangeSpec) : _root_.Go.OpenSpec := { _root_.Go.OpenSpec.ofChange s with cond := some uptoSmall }

/-- 'customhouselaw21.WireConfigs', WHERE WHAT IT READS IS OF BULK AT MOST 1048576: true; the input reads as it did. -/
def wireConfigsUptoRow : OpenClaim := { program := "ytpaldbejnbcokaa", sum := "0b014ae47b44f683f4954a0299a9c63e7ec39649f0359aa9e29a9b2c184f369b", func := "customhouse/customhouselaw21.WireConfigs", spec := "wireConfigs", unfollowed := true, recurses := true, apart := false, narrowed := true }
def WireConfigsUptoSaid : Prop := wireConfigsUptoRow.holds Try.pinned (OpenSpec.upto wireConfigsSpec)

/-- 'customhouselaw21.WireLetters', WHERE WHAT IT READS IS OF BULK AT MOST 1048576: true; the input reads as it did. -/
def wireLettersUptoRow : OpenClaim := { program := "ytpaldbejnbcokaa", sum := "0b014ae47b44f683f4954a0299a9c63e7ec39649f0359aa9e29a9b2c184f369b", func := "customhouse/customhouselaw21.WireLetters", spec := "wireLetters", unfollowed := true, recurses := true, apart := false, narrowed := true }
def WireLettersUptoSaid : Prop := wireLettersUptoRow.holds Try.pinned (OpenSpec.upto wireLettersSpec)

/-- 'customhouselaw21.WireApart', WHERE WHAT IT READS IS OF BULK AT MOST 1048576: true; the input reads as it did. -/
def wireApartUptoRow : OpenClaim := { program := "ytpaldbejnbcokaa", sum := "0b014ae47b44f683f4954a0299a9c63e7ec39649f0359aa9e29a9b2c184f369b", func := "customhouse/customhouselaw21.WireApart", spec := "wireApart", unfollowed := true, recurses := true, apart := false, narrowed := true }
def WireApartUptoSaid : Prop := wireApartUptoRow.holds Try.pinned (OpenSpec.upto wireApartSpec)

/-- 'customhouselaw21.WireEntries', WHERE WHAT IT READS IS OF BULK AT MOST 1048576: true; the input reads as it did. -/
def wireEntriesUptoRow : OpenClaim := { program := "ytpaldbejnbcokaa", sum := "0b014ae47b44f683f4954a0299a9c63e7ec39649f0359aa9e29a9b2c184f369b", func := "customhouse/customhouselaw21.WireEntries", spec := "wireEntries", unfollowed := true, recurses := true, apart := false, narrowed := true }
def WireEntriesUptoSaid : Prop := wireEntriesUptoRow.holds Try.pinned (OpenSpec.upto wireEntriesSpec)

/-- 'customhouselaw21.WireOnce', WHERE WHAT IT READS IS OF BULK AT MOST 1048576: true; the input reads as it did. -/
def wireOnceUptoRow : OpenClaim := { program := "ytpaldbejnbcokaa", sum := "0b014ae47b44f683f4954a0299a9c63e7ec39649f0359aa9e29a9b2c184f369b", func := "customhouse/customhouselaw21.WireOnce", spec := "wireOnce", unfollowed := true, recurses := true, apart := false, narrowed := true }
def WireOnceUptoSaid : Prop := wireOnceUptoRow.holds Try.pinned (OpenSpec.upto wireOnceSpec)

/-- 'customhouselaw22.BookPlays', WHERE WHAT IT READS IS OF BULK AT MOST 1048576: true; the input reads as it did. -/
def bookPlaysUptoRow : OpenClaim := { program := "ytpaldbejnbcokaa", sum := "0b014ae47b44f683f4954a0299a9c63e7ec39649f0359aa9e29a9b2c184f369b", func := "customhouse/customhouselaw22.BookPlays", spec := "bookPlays", unfollowed := true, recurses := true, apart := false, narrowed := true }
def BookPlaysUptoSaid : Prop := bookPlaysUptoRow.holds Try.pinned (OpenSpec.upto bookPlaysSpec)

/-- 'customhouselaw22.BookSizes', WHERE WHAT IT READS IS OF BULK AT MOST 1048576: true; the input reads as it did. -/
def bookSizesUptoRow : OpenClaim := { program := "ytpaldbejnbcokaa", sum := "0b014ae47b44f683f4954a0299a9c63e7ec39649f0359aa9e29a9b2c184f369b", func := "customhouse/customhouselaw22.BookSizes", spec := "bookSizes", unfollowed := true, recurses := true, apart := false, narrowed := true }
def BookSizesUptoSaid : Prop := bookSizesUptoRow.holds Try.pinned (OpenSpec.upto bookSizesSpec)

/-- 'customhouselaw22.BookNone', WHERE WHAT IT READS IS OF BULK AT MOST 1048576: true; the input reads as it did. -/
def bookNoneUptoRow : OpenClaim := { program := "ytpaldbejnbcokaa", sum := "0b014ae47b44f683f4954a0299a9c63e7ec39649f0359aa9e29a9b2c184f369b", func := "customhouse/customhouselaw22.BookNone", spec := "bookNone", unfollowed := true, recurses := true, apart := false, narrowed := true }
def BookNoneUptoSaid : Prop := bookNoneUptoRow.holds Try.pinned (OpenSpec.upto bookNoneSpec)

/-- 'customhouselaw22.BookOrder', WHERE WHAT IT READS IS OF BULK AT MOST 1048576: true; the input reads as it did. -/
def bookOrderUptoRow : OpenClaim := { program := "ytpaldbejnbcokaa", sum := "0b014ae47b44f683f4954a0299a9c63e7ec39649f0359aa9e29a9b2c184f369b", func := "customhouse/customhouselaw22.BookOrder", spec := "bookOrder", unfollowed := true, recurses := true, apart := false, narrowed := true }
def BookOrderUptoSaid : Prop := bookOrderUptoRow.holds Try.pinned (OpenSpec.upto bookOrderSpec)

end Rows
end Go.Proofs.Ytpaldbejnbcokaa
