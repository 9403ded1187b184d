/- The law WireOnce: from its contract to what its row needs. No condition beyond the reach of the arguments. -/
import Derived.Test.YtpaldbejnbcokaaWoD
import Derived.Test.YtpaldbejnbcokaaRdw
namespace Go.Proofs.Ytpaldbejnbcokaa
open Go.RowKit Go.WideShapes Go.ChangeShapes Go.Deep Sm
set_option linter.unusedVariables false
set_option maxRecDepth 100000
theorem WireOnce_law {H : Type} {e : TypeId × Value → H} (W : World) (b0 : Nat)
    (v0 : Value) (d0 : DataW H) (p0 : List MemPlace) (ok0 : Value.okWide Try.prog W .any b0 31 v0) (h0 : DataW.Trod e Try.prog W 0 (fun _ => true) true 31 v0 d0 p0)
    (v1 : Value) (d1 : DataW H) (p1 : List MemPlace) (ok1 : Value.okWide Try.prog W .any b0 5 v1) (h1 : DataW.Trod e Try.prog W 0 (fun _ => true) true 5 v1 d1 p1)
    (v2 : Value) (d2 : DataW H) (p2 : List MemPlace) (ok2 : Value.okWide Try.prog W .any b0 3 v2) (h2 : DataW.Trod e Try.prog W 0 (fun _ => true) true 3 v2 d2 p2)
    (v3 : Value) (d3 : DataW H) (p3 : List MemPlace) (ok3 : Value.okWide Try.prog W .any b0 3 v3) (h3 : DataW.Trod e Try.prog W 0 (fun _ => true) true 3 v3 d3 p3)
    (v4 : Value) (d4 : DataW H) (p4 : List MemPlace) (ok4 : Value.okWide Try.prog W .any b0 3 v4) (h4 : DataW.Trod e Try.prog W 0 (fun _ => true) true 3 v4 d4 p4)
    : Calls Try.prog 7 #[v0, v1, v2, v3, v4] W fun e W' => e = .returned (.bool true) ∧ Kp No W W' := by
  obtain ⟨a0, r0⟩ := rd_Cfg.arg_struct Try.underlying31 ok0 h0
  obtain ⟨a1, r1⟩ := rd_u8.arg_int Try.underlying5 ok1 h1
  obtain ⟨a2, r2⟩ := rd_int.arg_int Try.underlying3 ok2 h2
  obtain ⟨a3, r3⟩ := rd_int.arg_int Try.underlying3 ok3 h3
  obtain ⟨a4, r4⟩ := rd_int.arg_int Try.underlying3 ok4 h4
  exact (WireOnce_d a0 a1 a2 a3 a4).law (vs := [v0, v1, v2, v3, v4]) rfl (pw_cons r0 (pw_cons r1 (pw_cons r2 (pw_cons r3 (pw_cons r4 (pw_nil))))))
end Go.Proofs.Ytpaldbejnbcokaa
