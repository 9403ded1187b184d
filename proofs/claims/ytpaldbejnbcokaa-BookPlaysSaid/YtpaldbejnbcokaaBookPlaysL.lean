/- The law BookPlays: from its contract to what its row needs. No condition beyond the reach of the arguments. -/
import Derived.Test.YtpaldbejnbcokaaBp
namespace Go.Proofs.Ytpaldbejnbcokaa
open Go.RowKit Go.WideShapes Go.ChangeShapes Go.Deep Sm
set_option linter.unusedVariables false
set_option maxRecDepth 100000
theorem BookPlays_law {H : Type} {e : TypeId × Value → H} (W : World) (b0 : Nat)
    (v0 : Value) (d0 : DataW H) (p0 : List MemPlace) (ok0 : Value.okWide Try.prog W .any b0 63 v0) (h0 : DataW.Trod e Try.prog W 0 (fun _ => true) true 63 v0 d0 p0)
    : Calls Try.prog 8 #[v0] W fun e W' => e = .returned (.bool true) ∧ Kp No W W' := by
  obtain ⟨a0, r0⟩ := rd_Sps.arg_slice Try.underlying63 ok0 h0
  exact (BookPlays_d a0).law (vs := [v0]) rfl (pw_cons r0 (pw_nil))
end Go.Proofs.Ytpaldbejnbcokaa
