/- Reading back what was written; awake. -/
import Derived.Test.YtpaldbejnbcokaaPackM
namespace Go.Proofs.Ytpaldbejnbcokaa
open Go.RowKit

theorem take_app (a b : List UInt8) (n : Nat) (h : a.length = n) : Rd.take ⟨a ++ b, 0⟩ n = (a, ⟨b, 0⟩) := by
  unfold Rd.take
  rw [if_pos rfl, if_neg (by simp; omega)]
  simp only [← h, List.take_left, List.drop_left]
theorem wide_app (n : UInt64) (b : List UInt8) : Rd.wide ⟨putF n 8 ++ b, 0⟩ = n := by
  rw [Rd.wide, take_app _ _ _ (putF_len n 8), getF_putF]
theorem take8_app (n : UInt64) (b : List UInt8) : (Rd.take ⟨putF n 8 ++ b, 0⟩ 8).2 = ⟨b, 0⟩ := by rw [take_app _ _ _ (putF_len n 8)]
theorem len4_app (s : ByteArray) (b : List UInt8) : Rd.len4 ⟨textF s ++ b, 0⟩ = (fitS s).size := by
  have h := fitS_size s
  rw [Rd.len4, textF, List.append_assoc, take_app _ _ _ (putF_len _ 4), getF_put4]
  · rw [UInt64.toNat_ofNat']; omega
  · rw [UInt64.toNat_ofNat']; omega
theorem text_app (s : ByteArray) (b : List UInt8) : Rd.text ⟨textF s ++ b, 0⟩ = (fitS s).data.toList := by
  rw [Rd.text, len4_app, textF, List.append_assoc, take_app _ _ _ (putF_len _ 4)]
  show (Rd.take ⟨_, 0⟩ _).1 = _
  rw [take_app _ _ _ (by rw [size_list])]
theorem textR_app (s : ByteArray) (b : List UInt8) : Rd.textR ⟨textF s ++ b, 0⟩ = ⟨b, 0⟩ := by
  rw [Rd.textR, len4_app, textF, List.append_assoc, take_app _ _ _ (putF_len _ 4)]
  show (Rd.take ⟨_, 0⟩ _).2 = _
  rw [take_app _ _ _ (by rw [size_list])]
theorem i64of_ofInt (n : Int) (h1 : -9223372036854775808 ≤ n) (h2 : n ≤ 9223372036854775807) : i64of (UInt64.ofInt n) = n := by
  have e := u64_ofInt n
  rw [IntKind.wrap_u64] at e
  unfold i64of wrap64
  omega
theorem readF_seal (l : List UInt8) : readF (l ++ putF (sumF l) 8) = ⟨l, 0⟩ := by
  have hl : (l ++ putF (sumF l) 8).length - 8 = l.length := by simp [putF_len]
  rw [readF, if_neg (by simp [putF_len]), hl, List.drop_left, List.take_left, if_pos (getF_putF _)]

def abS : ByteArray := ⟨#[97, 98]⟩
def awakeL : List UInt8 := putF (UInt64.ofInt (-2)) 8 ++ (putF 7 8 ++ textF abS)
theorem awakeL_len : awakeL.length = 22 := by decide +kernel
theorem ab_left : (textF abS).length = 6 := by decide +kernel
theorem fit_ab : fitS abS = abS := rfl


/-! ### A Writer and a Reader whose blocks lie from B on -/
theorem Kp.fresh {w w' : World} (h : Kp (From w.heap.size) w w') : Kp No w w' := h.mono fun k hk hf => absurd hf (by unfold From; omega)
theorem or_from {B n : Nat} (h : B ≤ n) : ∀ b, Or (From B) n b → From B b := fun _ hb => hb.elim id (Nat.le_trans h)
theorem Writer_Wide_f (B : Nat) (w : World) (l : List UInt8) (p : Nat) (n : UInt64) (h : WriterAt w (From B) l p) (hB : B ≤ w.heap.size) (hb : l.length + 8 ≤ 140737488355328) :
    Calls Try.prog 96 #[.pointer (some ⟨p, 0, none⟩), .int .u64 n.toNat] w fun e w' => e = .returned (.pointer (some ⟨p, 0, none⟩)) ∧ WriterAt w' (From B) (l ++ putF n 8) p ∧ Kp (From B) w w' :=
  (Writer_Wide w _ l p n h hb).mono fun _ _ ⟨h1, h2, h3⟩ => ⟨h1, h2.mono (or_from hB), h3⟩
theorem Writer_Num_f (B : Nat) (w : World) (l : List UInt8) (p : Nat) (n : Int) (h : WriterAt w (From B) l p) (hB : B ≤ w.heap.size) (hb : l.length + 8 ≤ 140737488355328) :
    Calls Try.prog 84 #[.pointer (some ⟨p, 0, none⟩), .int .i64 n] w fun e w' => e = .returned (.pointer (some ⟨p, 0, none⟩)) ∧ WriterAt w' (From B) (l ++ putF (UInt64.ofInt n) 8) p ∧ Kp (From B) w w' :=
  (Writer_Num w _ l p n h hb).mono fun _ _ ⟨h1, h2, h3⟩ => ⟨h1, h2.mono (or_from hB), h3⟩
theorem reader_kp {B p : Nat} {w w0 w' : World} {r : Rd} (h : ReaderAt w (From B) r p) (hk : Kp (fun b => b = p) w0 w') : Kp (From B) w0 w' := hk.mono fun k _ e => by subst e; exact h.1
theorem text_len (s : ByteArray) : (textF s).length ≤ 16777220 := by
  have := fitS_size s
  rw [textF, List.length_append, putF_len, ← size_list]
  omega

theorem Reader_Num_a (B : Nat) (w : World) (n : Int) (b : List UInt8) (p : Nat) (hn : IsInt n) (h : ReaderAt w (From B) ⟨putF (UInt64.ofInt n) 8 ++ b, 0⟩ p) :
    Calls Try.prog 90 #[.pointer (some ⟨p, 0, none⟩)] w fun e w' => e = .returned (.int .i64 n) ∧ ReaderAt w' (From B) ⟨b, 0⟩ p ∧ Kp (From B) w w' :=
  (Reader_Num w _ _ p h).mono fun _ _ ⟨h1, h2, h3⟩ => ⟨by rw [h1, wide_app, i64of_ofInt n hn.1 hn.2], by rw [take8_app] at h2; exact h2, reader_kp h h3⟩
theorem Reader_Wide_a (B : Nat) (w : World) (n : UInt64) (b : List UInt8) (p : Nat) (h : ReaderAt w (From B) ⟨putF n 8 ++ b, 0⟩ p) :
    Calls Try.prog 99 #[.pointer (some ⟨p, 0, none⟩)] w fun e w' => e = .returned (.int .u64 n.toNat) ∧ ReaderAt w' (From B) ⟨b, 0⟩ p ∧ Kp (From B) w w' :=
  (Reader_Wide w _ _ p h).mono fun _ _ ⟨h1, h2, h3⟩ => ⟨by rw [h1, wide_app], by rw [take8_app] at h2; exact h2, reader_kp h h3⟩
theorem pack_New_f (w : World) (B : Nat) (hB : B = w.heap.size) : Calls Try.prog 57 #[] w fun e w' => e = .returned (.pointer (some ⟨B, 0, none⟩)) ∧ WriterAt w' (From B) [] B ∧ Kp (From B) w w' :=
  (pack_New w).mono fun e w0 h => ⟨by rw [hB]; exact h.1, by rw [hB, ← h.2]; exact WriterAt.new w, h.2 ▸ (Kp.refl (From B) w).alloc _⟩
/-- Bytes, read at once. -/
theorem pack_Read_sealed (w : World) (F : Nat → Prop) (v : Value) (l : List UInt8) (h : SliceAt u8R w F (l ++ putF (sumF l) 8) v) (hb : l.length + 8 ≤ 140737488355328) (B : Nat) (hB : B ≤ w.heap.size) :
    Calls Try.prog 68 #[v] w fun e w' => ∃ p, e = .returned (.pointer (some ⟨p, 0, none⟩)) ∧ ReaderAt w' (From B) ⟨l, 0⟩ p ∧ Kp (From B) w w' :=
  (pack_Read w F v _ h (by rw [List.length_append, putF_len]; exact hb)).mono fun _ _ ⟨p, h1, h2, h3⟩ => ⟨p, h1, by rw [readF_seal] at h2; exact h2.mono fun b hb => Nat.le_trans hB hb, h3.mono fun _ _ h => h.elim⟩

end Go.Proofs.Ytpaldbejnbcokaa
