/- Stretches of a function's code, found by their number: so that a loop of a great function can be walked in a theorem of its own. -/
import Derived.Test.YtpaldbejnbcokaaRead
namespace Go.Proofs.Ytpaldbejnbcokaa
open Go.RowKit

/-- The block of a number in a code (skip: there is none). -/
def secBlock (n : Nat) : Code → Code
  | .block i b => match i == n with | true => .block i b | false => secBlock n b
  | .seq a b => match secBlock n a with | .skip => secBlock n b | c => c
  | .cond _ a b => match secBlock n a with | .skip => secBlock n b | c => c
  | .loop b => secBlock n b
  | .scope b => secBlock n b
  | _ => .skip
/-- The region of a number in a code (skip: there is none). -/
def secRegion (n : Nat) : Code → Code
  | .region i o d => match i == n with | true => .region i o d | false => .skip
  | .seq a b => match secRegion n a with | .skip => secRegion n b | c => c
  | .cond _ a b => match secRegion n a with | .skip => secRegion n b | c => c
  | .block _ b => secRegion n b
  | .loop b => secRegion n b
  | .scope b => secRegion n b
  | _ => .skip
end Go.Proofs.Ytpaldbejnbcokaa
