/- How the walk's integers read as UInt64, UInt8, Int64. No program. -/
import Derived.Test.YtpaldbejnbcokaaBase
namespace Go.Proofs.Ytpaldbejnbcokaa
open Go.RowKit

theorem u64_lt (x : UInt64) : x.toNat < 18446744073709551616 := x.toNat_lt
theorem u8_lt (x : UInt8) : x.toNat < 256 := x.toNat_lt
theorem u64_wrap (n : Nat) : IntKind.u64.wrap (n : Int) = ((UInt64.ofNat n).toNat : Int) := by
  rw [IntKind.wrap_u64, UInt64.toNat_ofNat']
  omega
theorem u8_wrap (n : Nat) : IntKind.u8.wrap (n : Int) = ((UInt8.ofNat n).toNat : Int) := by
  rw [IntKind.wrap_u8', UInt8.toNat_ofNat']
  omega
theorem u64_small {n : Nat} (h : n < 18446744073709551616) : (n : Int) = ((UInt64.ofNat n).toNat : Int) := by
  rw [UInt64.toNat_ofNat']
  omega
theorem u64_wrap_self (x : UInt64) : IntKind.u64.wrap (x.toNat : Int) = (x.toNat : Int) := by rw [u64_wrap, UInt64.ofNat_toNat]
theorem u64_wrap_u8 (x : UInt8) : IntKind.u64.wrap (x.toNat : Int) = (x.toUInt64.toNat : Int) := by
  rw [IntKind.wrap_u64, UInt8.toNat_toUInt64]
  have := u8_lt x
  omega
theorem u64_mul (x y : UInt64) : IntKind.u64.wrap ((x.toNat : Int) * (y.toNat : Int)) = ((x * y).toNat : Int) := by
  rw [IntKind.wrap_u64, UInt64.toNat_mul, ← Int.natCast_mul]
  omega
theorem u64_add (x y : UInt64) : IntKind.u64.wrap ((x.toNat : Int) + (y.toNat : Int)) = ((x + y).toNat : Int) := by
  rw [IntKind.wrap_u64, UInt64.toNat_add]
  omega
theorem u64_xor (x y : UInt64) : bits .xor .u64 (x.toNat : Int) (y.toNat : Int) = ((x ^^^ y).toNat : Int) := by
  rw [u64_xor_nat _ _ (u64_lt x) (u64_lt y), UInt64.toNat_xor]
theorem u64_or (x y : UInt64) : bits .or .u64 (x.toNat : Int) (y.toNat : Int) = ((x ||| y).toNat : Int) := by
  rw [u64_or_nat _ _ (u64_lt x) (u64_lt y), UInt64.toNat_or]
theorem u64_and (x y : UInt64) : bits .and .u64 (x.toNat : Int) (y.toNat : Int) = ((x &&& y).toNat : Int) := by
  rw [u64_and_nat _ _ (u64_lt x) (u64_lt y), UInt64.toNat_and]

/-! ### Representations of plain values -/
/-- A value without memory, of which something is asked beside. -/
def Rep.plainIf {α : Type} (n : Nat) (enc : α → List Value) (ok : α → Prop) (hn : ∀ x, (enc x).length = n) (h1 : ∀ x, ∀ u ∈ enc x, u.oneCell' = true) : Rep α where
  n := n
  rel := fun _ _ x cs => cs = enc x ∧ ok x
  len := fun h => by rw [h.1]; exact hn _
  one := fun h => by rw [h.1]; exact h1 _
  keep := fun h _ => h
  mono := fun h _ => h
/-- A number that an int holds. -/
def IsInt (n : Int) : Prop := -9223372036854775808 ≤ n ∧ n ≤ 9223372036854775807
def u8R : Rep UInt8 := Rep.plain 1 (fun x => [.int .u8 x.toNat]) (fun _ => rfl) (by simp [Value.oneCell'])
def u64R : Rep UInt64 := Rep.plain 1 (fun x => [.int .u64 x.toNat]) (fun _ => rfl) (by simp [Value.oneCell'])
def intR : Rep Int := Rep.plain 1 (fun x => [.int .i64 x]) (fun _ => rfl) (by simp [Value.oneCell'])
def strR : Rep ByteArray := Rep.plain 1 (fun x => [.string x]) (fun _ => rfl) (by simp [Value.oneCell'])

theorem SliceAt.get_u8 {w : World} {F : Nat → Prop} {xs : List UInt8} {A : Option Addr} {n c k : Nat} {x : UInt8} (h : SliceAt u8R w F xs (.slice A n c)) (hk : xs[k]? = some x) :
    ∃ b off, A = some ⟨b, off, none⟩ ∧ w.cell? ⟨b, off + k, none⟩ = some (.int .u8 x.toNat) := by
  obtain ⟨b, off, cs, rfl, _, _, hr, hc⟩ := h.get hk
  have hr' : cs = [.int .u8 x.toNat] := hr
  subst hr'
  refine ⟨b, off, rfl, ?_⟩
  have h := hc 0 _ rfl
  rwa [show k * u8R.n + 0 = k from Nat.mul_one k] at h
theorem take_snoc {α : Type} {l : List α} {k : Nat} {x : α} (h : l[k]? = some x) : l.take (k + 1) = l.take k ++ [x] := by
  rw [List.take_add_one, h]; rfl
theorem ret_int {k : IntKind} {a b : Int} (h : a = b) : Ending.returned (.int k a) = .returned (.int k b) := by rw [h]
end Go.Proofs.Ytpaldbejnbcokaa
