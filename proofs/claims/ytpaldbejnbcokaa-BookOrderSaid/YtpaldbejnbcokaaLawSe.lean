/- Package customhouseref04's Sealed, over a list of bytes. -/
import Derived.Test.YtpaldbejnbcokaaPackRef
import Derived.Test.YtpaldbejnbcokaaPackM
namespace Go.Proofs.Ytpaldbejnbcokaa
open Go.RowKit

theorem sealF_bs (l : List UInt8) : sealF (bs l) = bs (l ++ putF (sumF l) 8) := by
  rw [sealF, bs_append]
  rfl
theorem ref_Sealed_l (w : World) (l : List UInt8) (hl : l.length + 8 ≤ 9223372036854775807) :
    Calls Try.prog 14 #[.string (bs l)] w fun e w' => e = .returned (.string (bs (l ++ putF (sumF l) 8))) ∧ Kp No w w' := by
  have h := ref_Sealed w (bs l) (by rw [bs_size]; exact hl)
  rw [sealF_bs] at h
  exact h
end Go.Proofs.Ytpaldbejnbcokaa
