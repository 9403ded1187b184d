/- The law WireApart: from its contract to what its row needs. No condition beyond the reach of the arguments. -/
import Derived.Test.YtpaldbejnbcokaaWaD
import Derived.Test.YtpaldbejnbcokaaRdw
namespace Go.Proofs.Ytpaldbejnbcokaa
open Go.RowKit Go.WideShapes Go.ChangeShapes Go.Deep Sm
set_option linter.unusedVariables false
set_option maxRecDepth 100000
theorem WireApart_law {H : Type} {e : TypeId × Value → H} (W : World) (b0 : Nat)
    (v0 : Value) (d0 : DataW H) (p0 : List MemPlace) (ok0 : Value.okWide Try.prog W .any b0 31 v0) (h0 : DataW.Trod e Try.prog W 0 (fun _ => true) true 31 v0 d0 p0)
    (v1 : Value) (d1 : DataW H) (p1 : List MemPlace) (ok1 : Value.okWide Try.prog W .any b0 31 v1) (h1 : DataW.Trod e Try.prog W 0 (fun _ => true) true 31 v1 d1 p1)
    (v2 : Value) (d2 : DataW H) (p2 : List MemPlace) (ok2 : Value.okWide Try.prog W .any b0 46 v2) (h2 : DataW.Trod e Try.prog W 0 (fun _ => true) true 46 v2 d2 p2)
    (v3 : Value) (d3 : DataW H) (p3 : List MemPlace) (ok3 : Value.okWide Try.prog W .any b0 46 v3) (h3 : DataW.Trod e Try.prog W 0 (fun _ => true) true 46 v3 d3 p3)
    : Calls Try.prog 5 #[v0, v1, v2, v3] W fun e W' => e = .returned (.bool true) ∧ Kp No W W' := by
  obtain ⟨a0, r0⟩ := rd_Cfg.arg_struct Try.underlying31 ok0 h0
  obtain ⟨a1, r1⟩ := rd_Cfg.arg_struct Try.underlying31 ok1 h1
  obtain ⟨a2, r2⟩ := rd_Lt.arg_struct Try.underlying46 ok2 h2
  obtain ⟨a3, r3⟩ := rd_Lt.arg_struct Try.underlying46 ok3 h3
  exact (WireApart_d a0 a1 a2 a3).law (vs := [v0, v1, v2, v3]) rfl (pw_cons r0 (pw_cons r1 (pw_cons r2 (pw_cons r3 (pw_nil)))))
end Go.Proofs.Ytpaldbejnbcokaa
