/- The law PackReads, of what is read. -/
import Derived.Test.YtifnghjkbdnkmaaPackRd
import Derived.Test.YtifnghjkbdnkmaaSized
namespace Go.Proofs.Ytifnghjkbdnkmaa
open Go.RowKit Go.WideShapes Go.ChangeShapes

theorem PackReads_law {H : Type} {enc : TypeId × Value → H} {ts : List TypeId} {rest : List (DataW H)} (W : World) (b0 : Nat) (v0 : Value) (d0 : DataW H) (p0 : List MemPlace) (ok0 : Value.okWide Try.prog W .any b0 34 v0)
    (h0 : DataW.Trod enc Try.prog W 0 (fun _ => true) true 34 v0 d0 p0) (v1 : Value) (d1 : DataW H) (p1 : List MemPlace) (ok1 : Value.okWide Try.prog W .any b0 34 v1)
    (h1 : DataW.Trod enc Try.prog W 0 (fun _ => true) true 34 v1 d1 p1)
    (hsz : (DataW.weightsEach Try.prog (34 :: ts) (d0 :: rest)).all (· ≤ reachBytes) = true) : Calls Try.prog 4 #[v0, v1] W fun e W' => e = .returned (.bool true) ∧ Kp No W W' := by
  have hR : Readable Try.prog 34 u8R.slice := (readable_u8 Try.underlying5).slice Try.underlying34 (by kernel_rfl) (by decide)
  obtain ⟨xs, hx, hl⟩ := hR.arg_reach Try.underlying34 hsz 0 rfl rfl ok0 h0
  obtain ⟨ys, hy⟩ := hR.arg Try.underlying34 ok1 h1
  have hb : Try.prog.bytesOf 5 = 1 := by kernel_rfl
  rw [hb, Nat.mul_one] at hl
  exact PackReads_walk W xs ys v0 v1 hx hy hl
end Go.Proofs.Ytifnghjkbdnkmaa
