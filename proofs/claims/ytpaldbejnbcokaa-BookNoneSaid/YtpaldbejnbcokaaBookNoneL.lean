/- The law BookNone: from its contract to what its row needs. No condition beyond the reach of the arguments. -/
import Derived.Test.YtpaldbejnbcokaaBp
namespace Go.Proofs.Ytpaldbejnbcokaa
open Go.RowKit Go.WideShapes Go.ChangeShapes Go.Deep Sm
set_option linter.unusedVariables false
set_option maxRecDepth 100000
theorem BookNone_law {H : Type} {e : TypeId × Value → H} (W : World) (b0 : Nat)
    (v0 : Value) (d0 : DataW H) (p0 : List MemPlace) (ok0 : Value.okWide Try.prog W .any b0 57 v0) (h0 : DataW.Trod e Try.prog W 0 (fun _ => true) true 57 v0 d0 p0)
    (v1 : Value) (d1 : DataW H) (p1 : List MemPlace) (ok1 : Value.okWide Try.prog W .any b0 3 v1) (h1 : DataW.Trod e Try.prog W 0 (fun _ => true) true 3 v1 d1 p1)
    : Calls Try.prog 10 #[v0, v1] W fun e W' => e = .returned (.bool true) ∧ Kp No W W' := by
  obtain ⟨a0, r0⟩ := rd_En.arg_struct Try.underlying57 ok0 h0
  obtain ⟨a1, r1⟩ := rd_int.arg_int Try.underlying3 ok1 h1
  exact (BookNone_d a0 (i64of a1)).law (vs := [v0, v1]) rfl (pw_cons r0 (pw_cons r1 (pw_nil)))
end Go.Proofs.Ytpaldbejnbcokaa
