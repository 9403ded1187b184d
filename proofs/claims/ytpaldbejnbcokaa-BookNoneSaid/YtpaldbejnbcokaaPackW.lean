/- Contracts of package pack: the Writer. -/
import Derived.Test.YtpaldbejnbcokaaPack
namespace Go.Proofs.Ytpaldbejnbcokaa
open Go.RowKit

/-- A Writer at block p that has collected bytes; X: its blocks. -/
def WriterAt (w : World) (X : Nat → Prop) (l : List UInt8) (p : Nat) : Prop :=
  X p ∧ ∃ sv, w.heap[p]? = some (.cells #[sv] 160 (0, 0)) ∧ OwnAt u8R 5 w No (fun g => X g ∧ g ≠ p) l sv

theorem WriterAt.kp {w w' : World} {X S : Nat → Prop} {l : List UInt8} {p : Nat} (h : WriterAt w X l p) (hk : Kp S w w') (hd : ∀ b, X b → ¬ S b) : WriterAt w' X l p := by
  obtain ⟨hp, sv, hh, ho⟩ := h
  exact ⟨hp, sv, hk.heap hh (hd p hp), ho.kp hk (fun _ h => h.elim) (fun b hb => hd b hb.1)⟩
theorem WriterAt.mono {w : World} {X X' : Nat → Prop} {l : List UInt8} {p : Nat} (h : WriterAt w X l p) (hd : ∀ b, X b → X' b) : WriterAt w X' l p := by
  obtain ⟨hp, sv, hh, ho⟩ := h
  exact ⟨hd p hp, sv, hh, ho.mono fun b _ hb => ⟨hd b hb.1, hb.2⟩⟩

theorem pack_New (w : World) : Calls Try.prog 57 #[] w fun e w' => e = .returned (.pointer (some ⟨w.heap.size, 0, none⟩)) ∧ w.alloc (.cells #[.slice none 0 0] 160) = w' := by
  go_enter Try.func57, Try.ntmps57
  go_wp2
  go_ret
  exact ⟨rfl, rfl⟩
theorem WriterAt.new (w : World) : WriterAt (w.alloc (.cells #[.slice none 0 0] 160)) (From w.heap.size) [] w.heap.size :=
  ⟨Nat.le_refl _, _, heap_alloc_new w _, OwnAt.nil _ _ _ _ _⟩

theorem own_store {w w1 : World} {X : Nat → Prop} {p : Nat} {l : List UInt8} {v u : Value} (h : OwnAt u8R 5 w1 No (Or (fun g => X g ∧ g ≠ p) w.heap.size) l v) (hlt : p < w.heap.size) :
    OwnAt u8R 5 (w1.setCell ⟨p, 0, none⟩ u) No (fun g => Or X w.heap.size g ∧ g ≠ p) l v := by
  refine (h.mono (O' := fun g => Or X w.heap.size g ∧ g ≠ p) fun b hb ho => ?_).kp ((Kp.refl (fun b => b = p) w1).setCell (p := ⟨p, 0, none⟩) (.inl rfl) _) (fun _ h => h.elim) (fun b hb => (hb : _ ∧ _).2)
  rcases ho with ho | ho
  · exact ⟨.inl ho.1, ho.2⟩
  · exact ⟨.inr ho, fun e => by omega⟩

set_option maxHeartbeats 400000 in
theorem Writer_Wide (w : World) (X : Nat → Prop) (l : List UInt8) (p : Nat) (n : UInt64) (h : WriterAt w X l p) (hb : l.length + 8 ≤ 140737488355328) :
    Calls Try.prog 96 #[.pointer (some ⟨p, 0, none⟩), .int .u64 n.toNat] w fun e w' => e = .returned (.pointer (some ⟨p, 0, none⟩)) ∧ WriterAt w' (Or X w.heap.size) (l ++ putF n 8) p ∧ Kp X w w' := by
  obtain ⟨hp, sv, hh, ho⟩ := h
  have hc : w.cell? ⟨p, 0, none⟩ = some sv := cell_of_row w p 0 _ _ _ hh
  have hlt := (Array.getElem?_eq_some_iff.1 hh).1
  have Ho := Lib.hid ho
  have Hh := Lib.hid hh
  have Hb := Lib.hid hb
  have Hp := Lib.hid hp
  clear ho hh hb hp
  go_enter Try.func96, Try.ntmps96
  go_wp2_with fail
  refine (pack_put _ _ _ _ n 8 (by omega) Ho.out Hb.out).mono ?_
  rintro e w1 ⟨v1, rfl, ho1, hk1⟩
  have hh1 := hk1.heap Hh.out (fun h => h.2 rfl)
  have hc1 : w1.cell? ⟨p, 0, none⟩ = some sv := cell_of_row w1 p 0 _ _ _ hh1
  have hf1 : w1.frozen? ⟨p, 0, none⟩ = false := by simp [World.frozen?, hh1]
  obtain ⟨A, m, c, rfl, _, _, _⟩ := ho1.form'
  have Ho1 := Lib.hid ho1
  have Hh1 := Lib.hid hh1
  have Hk1 := Lib.hid hk1
  clear ho1 hh1 hk1
  go_wp2
  go_ret
  exact ⟨rfl, ⟨.inl Hp.out, _, one_setCell Hh1.out, own_store Ho1.out hlt⟩, (Hk1.out.mono fun b _ hb => hb.1).setCell (p := ⟨p, 0, none⟩) (.inl Hp.out) _⟩

theorem u64_ofInt (n : Int) : IntKind.u64.wrap n = ((UInt64.ofInt n).toNat : Int) := by
  rw [IntKind.wrap_u64]
  have h : (UInt64.ofInt n).toNat = (n % 18446744073709551616).toNat := by
    have := Int.emod_lt_of_pos n (show (0 : Int) < 18446744073709551616 by omega)
    have := Int.emod_nonneg n (show (18446744073709551616 : Int) ≠ 0 by omega)
    simp [UInt64.ofInt]
    omega
  rw [h]
  have := Int.emod_nonneg n (show (18446744073709551616 : Int) ≠ 0 by omega)
  omega

set_option maxHeartbeats 400000 in
theorem Writer_Num (w : World) (X : Nat → Prop) (l : List UInt8) (p : Nat) (n : Int) (h : WriterAt w X l p) (hb : l.length + 8 ≤ 140737488355328) :
    Calls Try.prog 84 #[.pointer (some ⟨p, 0, none⟩), .int .i64 n] w fun e w' => e = .returned (.pointer (some ⟨p, 0, none⟩)) ∧ WriterAt w' (Or X w.heap.size) (l ++ putF (UInt64.ofInt n) 8) p ∧ Kp X w w' := by
  go_enter Try.func84, Try.ntmps84
  have H := Lib.hid h
  have Hb := Lib.hid hb
  clear h hb
  go_wp2_with fail
  rw [u64_ofInt]
  refine (Writer_Wide _ _ _ _ _ H.out Hb.out).mono ?_
  rintro e w1 ⟨rfl, h1, h2⟩
  have H1 := Lib.hid h1
  have H2 := Lib.hid h2
  clear h1 h2
  go_wp2
  go_ret
  exact ⟨rfl, H1.out, H2.out⟩

def fitS (s : ByteArray) : ByteArray := if 16777216 < s.size then ⟨#[]⟩ else s
def textF (s : ByteArray) : List UInt8 := putF (UInt64.ofNat (fitS s).size) 4 ++ (fitS s).data.toList

theorem fitS_size (s : ByteArray) : (fitS s).size ≤ 16777216 := by
  unfold fitS
  split
  · exact Nat.zero_le _
  · omega
theorem Try.u8zero : (Try.prog.info? 5).bind (·.zero) = some (.int .u8 0) := by kernel_rfl


theorem pack_put' (w : World) (O : Nat → Prop) (v : Value) (l : List UInt8) (n : UInt64) (m : Int) (hm : m = (n.toNat : Int)) (s : Nat) (hs : s ≤ 8) (h : OwnAt u8R 5 w No O l v) (hb : l.length + s ≤ 140737488355328) :
    Calls Try.prog 81 #[v, .int .u64 m, .int .i64 s] w fun e w' => ∃ v', e = .returned v' ∧ OwnAt u8R 5 w' No (Or O w.heap.size) (l ++ putF n s) v' ∧ Kp O w w' := by
  rw [hm]
  exact pack_put w O v l n s hs h hb
end Go.Proofs.Ytpaldbejnbcokaa
