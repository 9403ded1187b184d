/- How the data of package api lie in cells. No function of the program. -/
import Derived.Test.YtpaldbejnbcokaaCfg
namespace Go.Proofs.Ytpaldbejnbcokaa
open Go.RowKit

def ptR : Rep Pt := Rep.plain 5 (fun x => [.int .i64 (i64of x.kind), .int .i64 (i64of x.tenant), .int .i64 (i64of x.peer), .int .i64 (i64of x.at_), .int .i64 (i64of x.cost)]) (fun _ => rfl) (by simp [Value.oneCell'])
theorem SliceAt.get_Pt {w : World} {F : Nat → Prop} {xs : List Pt} {A : Option Addr} {n c k : Nat} {x : Pt} (h : SliceAt ptR w F xs (.slice A n c)) (hk : xs[k]? = some x) :
    ∃ b off, A = some ⟨b, off, none⟩ ∧ F b ∧ w.cell? ⟨b, off + k * 5, none⟩ = some (.int .i64 (i64of x.kind)) ∧ w.cell? ⟨b, off + k * 5 + 1, none⟩ = some (.int .i64 (i64of x.tenant)) ∧ w.cell? ⟨b, off + k * 5 + 2, none⟩ = some (.int .i64 (i64of x.peer)) ∧ w.cell? ⟨b, off + k * 5 + 3, none⟩ = some (.int .i64 (i64of x.at_)) ∧ w.cell? ⟨b, off + k * 5 + 4, none⟩ = some (.int .i64 (i64of x.cost)) := by
  obtain ⟨b, off, cs, rfl, hF, _, hr, hc⟩ := h.get hk
  obtain rfl : cs = _ := hr
  exact ⟨b, off, rfl, hF, hc 0 _ rfl, hc 1 _ rfl, hc 2 _ rfl, hc 3 _ rfl, hc 4 _ rfl⟩
def wyR : Rep Wy := Rep.plain 3 (fun x => [.int .i64 (i64of x.fro), .int .i64 (i64of x.to), .int .i64 (i64of x.via)]) (fun _ => rfl) (by simp [Value.oneCell'])
theorem SliceAt.get_Wy {w : World} {F : Nat → Prop} {xs : List Wy} {A : Option Addr} {n c k : Nat} {x : Wy} (h : SliceAt wyR w F xs (.slice A n c)) (hk : xs[k]? = some x) :
    ∃ b off, A = some ⟨b, off, none⟩ ∧ F b ∧ w.cell? ⟨b, off + k * 3, none⟩ = some (.int .i64 (i64of x.fro)) ∧ w.cell? ⟨b, off + k * 3 + 1, none⟩ = some (.int .i64 (i64of x.to)) ∧ w.cell? ⟨b, off + k * 3 + 2, none⟩ = some (.int .i64 (i64of x.via)) := by
  obtain ⟨b, off, cs, rfl, hF, _, hr, hc⟩ := h.get hk
  obtain rfl : cs = _ := hr
  exact ⟨b, off, rfl, hF, hc 0 _ rfl, hc 1 _ rfl, hc 2 _ rfl⟩
def prR : Rep Pr := Rep.plain 2 (fun x => [.int .i64 (i64of x.a), .int .i64 (i64of x.b)]) (fun _ => rfl) (by simp [Value.oneCell'])
theorem SliceAt.get_Pr {w : World} {F : Nat → Prop} {xs : List Pr} {A : Option Addr} {n c k : Nat} {x : Pr} (h : SliceAt prR w F xs (.slice A n c)) (hk : xs[k]? = some x) :
    ∃ b off, A = some ⟨b, off, none⟩ ∧ F b ∧ w.cell? ⟨b, off + k * 2, none⟩ = some (.int .i64 (i64of x.a)) ∧ w.cell? ⟨b, off + k * 2 + 1, none⟩ = some (.int .i64 (i64of x.b)) := by
  obtain ⟨b, off, cs, rfl, hF, _, hr, hc⟩ := h.get hk
  obtain rfl : cs = _ := hr
  exact ⟨b, off, rfl, hF, hc 0 _ rfl, hc 1 _ rfl⟩
def rlR : Rep Rl := Rep.plain 12 (fun x => [.int .i64 (i64of x.prio), .int .u64 x.mat.value.hi.toNat, .int .u64 x.mat.value.lo.toNat, .int .u64 x.mat.care.hi.toNat, .int .u64 x.mat.care.lo.toNat, .int .i64 (i64of x.act.kind), .int .i64 (i64of x.act.port), .int .i64 (i64of x.act.table), .int .u64 x.act.set.value.hi.toNat, .int .u64 x.act.set.value.lo.toNat, .int .u64 x.act.set.care.hi.toNat, .int .u64 x.act.set.care.lo.toNat]) (fun _ => rfl) (by simp [Value.oneCell'])
theorem SliceAt.get_Rl {w : World} {F : Nat → Prop} {xs : List Rl} {A : Option Addr} {n c k : Nat} {x : Rl} (h : SliceAt rlR w F xs (.slice A n c)) (hk : xs[k]? = some x) :
    ∃ b off, A = some ⟨b, off, none⟩ ∧ F b ∧ w.cell? ⟨b, off + k * 12, none⟩ = some (.int .i64 (i64of x.prio)) ∧ w.cell? ⟨b, off + k * 12 + 1, none⟩ = some (.int .u64 x.mat.value.hi.toNat) ∧ w.cell? ⟨b, off + k * 12 + 2, none⟩ = some (.int .u64 x.mat.value.lo.toNat) ∧ w.cell? ⟨b, off + k * 12 + 3, none⟩ = some (.int .u64 x.mat.care.hi.toNat) ∧ w.cell? ⟨b, off + k * 12 + 4, none⟩ = some (.int .u64 x.mat.care.lo.toNat) ∧ w.cell? ⟨b, off + k * 12 + 5, none⟩ = some (.int .i64 (i64of x.act.kind)) ∧ w.cell? ⟨b, off + k * 12 + 6, none⟩ = some (.int .i64 (i64of x.act.port)) ∧ w.cell? ⟨b, off + k * 12 + 7, none⟩ = some (.int .i64 (i64of x.act.table)) ∧ w.cell? ⟨b, off + k * 12 + 8, none⟩ = some (.int .u64 x.act.set.value.hi.toNat) ∧ w.cell? ⟨b, off + k * 12 + 9, none⟩ = some (.int .u64 x.act.set.value.lo.toNat) ∧ w.cell? ⟨b, off + k * 12 + 10, none⟩ = some (.int .u64 x.act.set.care.hi.toNat) ∧ w.cell? ⟨b, off + k * 12 + 11, none⟩ = some (.int .u64 x.act.set.care.lo.toNat) := by
  obtain ⟨b, off, cs, rfl, hF, _, hr, hc⟩ := h.get hk
  obtain rfl : cs = _ := hr
  exact ⟨b, off, rfl, hF, hc 0 _ rfl, hc 1 _ rfl, hc 2 _ rfl, hc 3 _ rfl, hc 4 _ rfl, hc 5 _ rfl, hc 6 _ rfl, hc 7 _ rfl, hc 8 _ rfl, hc 9 _ rfl, hc 10 _ rfl, hc 11 _ rfl⟩
def cbR : Rep Cb := Rep.plain 4 (fun x => [.int .u64 x.value.hi.toNat, .int .u64 x.value.lo.toNat, .int .u64 x.care.hi.toNat, .int .u64 x.care.lo.toNat]) (fun _ => rfl) (by simp [Value.oneCell'])
theorem SliceAt.get_Cb {w : World} {F : Nat → Prop} {xs : List Cb} {A : Option Addr} {n c k : Nat} {x : Cb} (h : SliceAt cbR w F xs (.slice A n c)) (hk : xs[k]? = some x) :
    ∃ b off, A = some ⟨b, off, none⟩ ∧ F b ∧ w.cell? ⟨b, off + k * 4, none⟩ = some (.int .u64 x.value.hi.toNat) ∧ w.cell? ⟨b, off + k * 4 + 1, none⟩ = some (.int .u64 x.value.lo.toNat) ∧ w.cell? ⟨b, off + k * 4 + 2, none⟩ = some (.int .u64 x.care.hi.toNat) ∧ w.cell? ⟨b, off + k * 4 + 3, none⟩ = some (.int .u64 x.care.lo.toNat) := by
  obtain ⟨b, off, cs, rfl, hF, _, hr, hc⟩ := h.get hk
  obtain rfl : cs = _ := hr
  exact ⟨b, off, rfl, hF, hc 0 _ rfl, hc 1 _ rfl, hc 2 _ rfl, hc 3 _ rfl⟩
def hdR : Rep Hd := Rep.plain 2 (fun x => [.int .u64 x.hi.toNat, .int .u64 x.lo.toNat]) (fun _ => rfl) (by simp [Value.oneCell'])
theorem SliceAt.get_Hd {w : World} {F : Nat → Prop} {xs : List Hd} {A : Option Addr} {n c k : Nat} {x : Hd} (h : SliceAt hdR w F xs (.slice A n c)) (hk : xs[k]? = some x) :
    ∃ b off, A = some ⟨b, off, none⟩ ∧ F b ∧ w.cell? ⟨b, off + k * 2, none⟩ = some (.int .u64 x.hi.toNat) ∧ w.cell? ⟨b, off + k * 2 + 1, none⟩ = some (.int .u64 x.lo.toNat) := by
  obtain ⟨b, off, cs, rfl, hF, _, hr, hc⟩ := h.get hk
  obtain rfl : cs = _ := hr
  exact ⟨b, off, rfl, hF, hc 0 _ rfl, hc 1 _ rfl⟩
/-- A slice within a slice. -/
theorem SliceAt.get_slice {α : Type} {R : Rep α} {w : World} {F : Nat → Prop} {xs : List (List α)} {A : Option Addr} {n c k : Nat} {x : List α} (h : SliceAt R.slice w F xs (.slice A n c)) (hk : xs[k]? = some x) :
    ∃ b off v, A = some ⟨b, off, none⟩ ∧ F b ∧ w.cell? ⟨b, off + k, none⟩ = some v ∧ SliceAt R w F x v := by
  obtain ⟨b, off, cs, rfl, hF, _, hr, hc⟩ := h.get hk
  obtain ⟨v, rfl, hs⟩ := hr
  have h0 := hc 0 _ rfl
  exact ⟨b, off, v, rfl, hF, by rwa [show k * R.slice.n + 0 = k from Nat.mul_one k] at h0, hs⟩
end Go.Proofs.Ytpaldbejnbcokaa
