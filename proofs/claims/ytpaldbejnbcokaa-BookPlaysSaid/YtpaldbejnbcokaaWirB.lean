/- Contracts of package wire: the writer, its numbers. -/
import Derived.Test.YtpaldbejnbcokaaCfg
namespace Go.Proofs.Ytpaldbejnbcokaa
open Go.RowKit

theorem ofInt_i64of (u : UInt64) : UInt64.ofInt (i64of u) = u := by
  have h := u64_ofInt (i64of u)
  apply UInt64.toNat_inj.1
  have h1 := u64_lt u
  have h2 := u64_lt (UInt64.ofInt (i64of u))
  rw [IntKind.wrap_u64] at h
  unfold i64of wrap64 at h ⊢
  omega
def i64w : Rep UInt64 := Rep.plain 1 (fun u => [.int .i64 (i64of u)]) (fun _ => rfl) (by simp [Value.oneCell'])
theorem SliceAt.get_i64 {w : World} {F : Nat → Prop} {xs : List UInt64} {A : Option Addr} {n c k : Nat} {x : UInt64} (h : SliceAt i64w w F xs (.slice A n c)) (hk : xs[k]? = some x) :
    ∃ b off, A = some ⟨b, off, none⟩ ∧ w.cell? ⟨b, off + k, none⟩ = some (.int .i64 (i64of x)) := by
  obtain ⟨b, off, cs, rfl, _, _, hr, hc⟩ := h.get hk
  have hr' : cs = [.int .i64 (i64of x)] := hr
  subst hr'
  refine ⟨b, off, rfl, ?_⟩
  have h := hc 0 _ rfl
  rwa [show k * i64w.n + 0 = k from Nat.mul_one k] at h

/-- A writer of package wire at block q: what it has collected, and whether a list was too long; X: its blocks. -/
def WirAt (w : World) (X : Nat → Prop) (l : List UInt8) (lg : Bool) (q : Nat) : Prop :=
  ∃ p, w.heap[q]? = some (.cells #[.pointer (some ⟨p, 0, none⟩), .bool lg] 133 (0, 0)) ∧ X q ∧ WriterAt w (fun b => X b ∧ b ≠ q) l p
theorem WirAt.kp {w w' : World} {X S : Nat → Prop} {l : List UInt8} {lg : Bool} {q : Nat} (h : WirAt w X l lg q) (hk : Kp S w w') (hd : ∀ b, X b → ¬ S b) : WirAt w' X l lg q := by
  obtain ⟨p, h1, h2, h3⟩ := h
  exact ⟨p, hk.heap h1 (hd q h2), h2, h3.kp hk fun b hb => hd b hb.1⟩
theorem WirAt.mono {w : World} {X X' : Nat → Prop} {l : List UInt8} {lg : Bool} {q : Nat} (h : WirAt w X l lg q) (hd : ∀ b, X b → X' b) : WirAt w X' l lg q := by
  obtain ⟨p, h1, h2, h3⟩ := h
  exact ⟨p, h1, hd q h2, h3.mono fun b hb => ⟨hd b hb.1, hb.2⟩⟩
theorem WriterAt.clip {w : World} {X : Nat → Prop} {l : List UInt8} {p : Nat} (h : WriterAt w X l p) : WriterAt w (fun b => X b ∧ b < w.heap.size) l p := by
  obtain ⟨hp, sv, hh, ho⟩ := h
  exact ⟨⟨hp, (Array.getElem?_eq_some_iff.1 hh).1⟩, sv, hh, ho.mono fun b hb h => ⟨⟨h.1, hb⟩, h.2⟩⟩
theorem WirAt.clip {w : World} {X : Nat → Prop} {l : List UInt8} {lg : Bool} {q : Nat} (h : WirAt w X l lg q) : WirAt w (fun b => X b ∧ b < w.heap.size) l lg q := by
  obtain ⟨p, h1, h2, h3⟩ := h
  exact ⟨p, h1, ⟨h2, (Array.getElem?_eq_some_iff.1 h1).1⟩, h3.clip.mono fun b hb => ⟨⟨hb.1.1, hb.2⟩, hb.1.2⟩⟩
/-- All that is laid anew is X's. -/
def New (w : World) (X : Nat → Prop) : Prop := ∀ b, w.heap.size ≤ b → X b
theorem New.kp {w w' : World} {X S : Nat → Prop} (h : New w X) (hk : Kp S w w') : New w' X := fun b hb => h b (Nat.le_trans hk.size hb)
theorem WirAt.put {w w1 : World} {X : Nat → Prop} {l' : List UInt8} {lg : Bool} {q p : Nat} (hq : w.heap[q]? = some (.cells #[.pointer (some ⟨p, 0, none⟩), .bool lg] 133 (0, 0))) (hXq : X q) (hX : New w X)
    (h1 : WriterAt w1 (Or (fun b => X b ∧ b ≠ q) w.heap.size) l' p) (hk : Kp (fun b => X b ∧ b ≠ q) w w1) : WirAt w1 X l' lg q ∧ Kp X w w1 := by
  have hlt : q < w.heap.size := (Array.getElem?_eq_some_iff.1 hq).1
  exact ⟨⟨p, hk.heap hq (fun h => h.2 rfl), hXq, h1.mono fun b hb => hb.elim id fun h => ⟨hX b h, fun e => by omega⟩⟩, hk.mono fun _ _ h => h.1⟩
theorem WirAt.long {w : World} {X : Nat → Prop} {l : List UInt8} {lg : Bool} {q : Nat} (h : WirAt w X l lg q) : WirAt (w.setCell ⟨q, 1, none⟩ (.bool true)) X l true q ∧ Kp X w (w.setCell ⟨q, 1, none⟩ (.bool true)) := by
  obtain ⟨p, h1, h2, h3⟩ := h
  have hk : Kp (fun b => b = q) w (w.setCell ⟨q, 1, none⟩ (.bool true)) := Kp.set1 _ _ _ _
  exact ⟨⟨p, heap_setCell_same w q 1 _ _ _ h1, h2, h3.kp hk fun b hb e => hb.2 e⟩, hk.mono fun b _ e => by subst e; exact h2⟩

set_option maxHeartbeats 400000 in
theorem wir_nums (w : World) (X F : Nat → Prop) (l : List UInt8) (lg : Bool) (q : Nat) (v : Value) (ns : List UInt64) (h : WirAt w X l lg q) (hX : New w X) (hv : SliceAt i64w w F ns v) (hF : ∀ b, F b → ¬ X b) (hb : l.length + 8 * ns.length ≤ 140737488355328) :
    Calls Try.prog 61 #[.pointer (some ⟨q, 0, none⟩), v] w fun e w' => e = .returned (.tuple #[]) ∧ WirAt w' X (l ++ enc8 ns) lg q ∧ Kp X w w' := by
  obtain ⟨A, n, c, rfl, Hn, hc1, hc2⟩ := hv.form'
  have Hv := Lib.hid hv
  have Hw := Lib.hid h
  have HX := Lib.hid hX
  have HF := Lib.hid hF
  have Hb := Lib.hid hb
  clear hv h hX hF hb
  go_enter Try.func61, Try.ntmps61
  go_wp2_with fail
  go_loopw [8] (fun i wr => ∃ k : Nat, k ≤ n ∧ i = .int .i64 k ∧ WirAt wr X (l ++ enc8 (ns.take k)) lg q ∧ Kp X w wr) (fun i _ => n - (intOf i).toNat)
  case atStart => exact ⟨0, Nat.zero_le _, rfl, by simpa [enc8] using Hw.out, Kp.refl _ _⟩
  case round =>
    obtain ⟨k, hk, rfl, hw, hkp⟩ := hrel
    have q3 : (0 : Int) ≤ (k : Int) := by omega
    by_cases hlt : k < n
    · obtain ⟨x, hx⟩ : ∃ x, ns[k]? = some x := ⟨_, List.getElem?_eq_getElem (by rw [← Hn.out]; exact hlt)⟩
      obtain ⟨b, off, rfl, hc⟩ := (Hv.out.kp hkp HF.out).get_i64 hx
      obtain ⟨p, hq, hXq, hpw⟩ := hw
      have h0 : wr.cell? ⟨q, 0, none⟩ = some (.pointer (some ⟨p, 0, none⟩)) := cell_of_row wr q 0 _ _ _ hq
      have Hq := Lib.hid hq
      have Hpw := Lib.hid hpw
      have Hkp := Lib.hid hkp
      have Hsn := Lib.hid (take_snoc hx)
      have Hlen := Lib.hid (show (ns.take k).length = k by rw [List.length_take, ← Hn.out]; omega)
      have q1 : (k : Int) < (n : Int) := by omega
      clear hq hpw hkp hx hlt
      go_wp2_with fail
      refine (Writer_Num _ _ _ _ (i64of x) Hpw.out (by have := Hb.out; have := Hlen.out; have := Hn.out; rw [List.length_append, enc8_len]; omega)).mono ?_
      rintro e w1 ⟨rfl, h1, hk1⟩
      have H1 := Lib.hid (WirAt.put Hq.out hXq (HX.out.kp Hkp.out) h1 hk1)
      clear h1 hk1
      go_wp2_with fail
      go_roundw
      case rel => exact ⟨k + 1, by omega, by go_num, by rw [Hsn.out, enc8_append, ← List.append_assoc, enc8_cons, enc8_nil, List.append_nil]; have := H1.out.1; rw [ofInt_i64of] at this; exact this, Hkp.out.trans H1.out.2⟩
      case measure => simp [intOf]; omega
    · have Hw2 := Lib.hid hw
      have Hkp := Lib.hid hkp
      clear hw hkp
      go_wp2_with fail
      go_end0
      exact ⟨rfl, by have := Hw2.out; rwa [List.take_of_length_le (by rw [← Hn.out]; omega)] at this, Hkp.out⟩
end Go.Proofs.Ytpaldbejnbcokaa
