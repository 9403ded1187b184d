/- Contracts of package wire: the reader; head, cube. -/
import Derived.Test.YtpaldbejnbcokaaCfgR
import Derived.Test.YtpaldbejnbcokaaWirS
namespace Go.Proofs.Ytpaldbejnbcokaa
open Go.RowKit
set_option linter.unusedSimpArgs false
set_option linter.unusedVariables false

theorem frz_of_row (w : World) (g o : Nat) (cs : Array Value) (t : TypeId) (h : w.heap[g]? = some (.cells cs t (0, 0))) : w.frozen? ⟨g, o, none⟩ = false := by simp [World.frozen?, h]
def Two (q p : Nat) : Nat → Prop := fun b => b = q ∨ b = p
/-- A reader of package wire at block q, over a reader of package pack at block p; X: their blocks. -/
def RirAt (w : World) (X : Nat → Prop) (s : RS) (q p : Nat) : Prop :=
  w.heap[q]? = some (.cells #[.pointer (some ⟨p, 0, none⟩), .bool s.2] 147 (0, 0)) ∧ X q ∧ (∀ b, X b → b < w.heap.size) ∧ ReaderAt w (fun b => X b ∧ b ≠ q) s.1 p
theorem RirAt.kp {w w' : World} {X S : Nat → Prop} {s : RS} {q p : Nat} (h : RirAt w X s q p) (hk : Kp S w w') (hd : ∀ b, X b → ¬ S b) : RirAt w' X s q p := by
  obtain ⟨h1, h2, h3, h4⟩ := h
  exact ⟨hk.heap h1 (hd q h2), h2, fun b hb => Nat.lt_of_lt_of_le (h3 b hb) hk.size, h4.kp hk fun b hb => hd b hb.1⟩
theorem RirAt.new {w w' : World} {X : Nat → Prop} {s : RS} {q p : Nat} (h : RirAt w X s q p) (hk : Kp (From w.heap.size) w w') : RirAt w' X s q p :=
  h.kp hk fun b hb hf => absurd (h.2.2.1 b hb) (by unfold From at hf; omega)
theorem RirAt.lt {w : World} {X : Nat → Prop} {s : RS} {q p : Nat} (h : RirAt w X s q p) : q < w.heap.size ∧ p < w.heap.size ∧ p ≠ q :=
  ⟨h.2.2.1 q h.2.1, h.2.2.1 p h.2.2.2.1.1, h.2.2.2.1.2⟩
theorem RirAt.step {w w1 : World} {X : Nat → Prop} {s : RS} {r : Rd} {q p : Nat} (h : RirAt w X s q p) (h1 : ReaderAt w1 (fun b => X b ∧ b ≠ q) r p) (hk : Kp (fun b => b = p) w w1) : RirAt w1 X (r, s.2) q p := by
  obtain ⟨a, b, c, d⟩ := h
  exact ⟨hk.heap a (fun e => d.1.2 e.symm), b, fun b hb => Nat.lt_of_lt_of_le (c b hb) hk.size, h1⟩
theorem Kp.two {w w1 : World} {q p : Nat} (hk : Kp (fun b => b = p) w w1) : Kp (Two q p) w w1 := hk.mono fun _ _ h => .inr h
theorem Kp.reads {S : Nat → Prop} {w w' : World} (h : Kp S w w') (b : Nat) (hb : ¬ S b) (hlt : b < w.heap.size) :
    (∀ o, w'.cell? ⟨b, o, none⟩ = w.cell? ⟨b, o, none⟩) ∧ (∀ o, w'.frozen? ⟨b, o, none⟩ = w.frozen? ⟨b, o, none⟩) ∧ b < w'.heap.size :=
  ⟨fun _ => World.cell?_of_block (h.block b hlt hb), fun _ => by simp only [World.frozen?, h.block b hlt hb], Nat.lt_of_lt_of_le hlt h.size⟩

theorem from_le {B b : Nat} (h : B ≤ b) : From B b := h
theorem Kp.unfresh {S : Nat → Prop} {w w' : World} (h : Kp (Or S w.heap.size) w w') : Kp S w w' := h.mono fun k hk hf => hf.elim id fun hf => absurd hk (Nat.not_lt.2 hf)
theorem RirAt.off {w : World} {X : Nat → Prop} {s : RS} {q p : Nat} (h : RirAt w X s q p) : ∀ b, X b → ¬ From w.heap.size b := fun b hb hf => absurd (h.2.2.1 b hb) (by unfold From at hf; omega)
theorem RirAt.c0 {w : World} {X : Nat → Prop} {s : RS} {q p : Nat} (h : RirAt w X s q p) : w.cell? ⟨q, 0, none⟩ = some (.pointer (some ⟨p, 0, none⟩)) := cell_of_row w q 0 _ _ _ h.1
theorem RirAt.c1 {w : World} {X : Nat → Prop} {s : RS} {q p : Nat} (h : RirAt w X s q p) : w.cell? ⟨q, 1, none⟩ = some (.bool s.2) := cell_of_row w q 1 _ _ _ h.1
theorem RirAt.fz {w : World} {X : Nat → Prop} {s : RS} {q p : Nat} (h : RirAt w X s q p) (i : Nat) : w.frozen? ⟨q, i, none⟩ = false := by simp [World.frozen?, h.1]
theorem Kp.fr {S : Nat → Prop} {B : Nat} {w w' : World} (h : Kp (From B) w w') : Kp (Or S B) w w' := h.mono fun _ _ h => .inr h
theorem Kp.setRow {S : Nat → Prop} {a w : World} (h : Kp S a w) {g : Nat} (hg : S g) (cs : Array Value) : Kp S a (w.setRow g cs) :=
  ⟨h.os, h.tape, h.output, by simpa [World.setRow] using h.size, fun k hk hn => (setRow_other w g k cs (fun e => hn (e ▸ hg))).trans (h.block k hk hn)⟩
theorem Kp.orb {S : Nat → Prop} {B b : Nat} {w w' : World} (h : Kp (fun g => S g ∨ g = b) w w') (hb : B ≤ b) : Kp (Or S B) w w' := h.mono fun _ _ h => h.imp id fun e => by rw [e]; exact hb
theorem Kp.orl {S : Nat → Prop} {B : Nat} {w w' : World} (h : Kp S w w') : Kp (Or S B) w w' := h.mono fun _ _ h => .inl h

def RS.left (s : RS) : Nat := s.1.left
theorem Wide_r (w : World) (X : Nat → Prop) (s : RS) (q p : Nat) (h : RirAt w X s q p) :
    Calls Try.prog 99 #[.pointer (some ⟨p, 0, none⟩)] w fun e w' => e = .returned (.int .u64 s.word.1.toNat) ∧ RirAt w' X s.word.2 q p ∧ Kp (Two q p) w w' :=
  (Reader_Wide w _ _ _ h.2.2.2).mono fun _ _ ⟨e, h1, hk⟩ => ⟨e, h.step h1 hk, hk.two⟩
theorem Num_r (w : World) (X : Nat → Prop) (s : RS) (q p : Nat) (h : RirAt w X s q p) :
    Calls Try.prog 90 #[.pointer (some ⟨p, 0, none⟩)] w fun e w' => e = .returned (.int .i64 (i64of s.word.1)) ∧ RirAt w' X s.word.2 q p ∧ Kp (Two q p) w w' :=
  (Reader_Num w _ _ _ h.2.2.2).mono fun _ _ ⟨e, h1, hk⟩ => ⟨e, h.step h1 hk, hk.two⟩
theorem Left_r (w : World) (X : Nat → Prop) (s : RS) (q p : Nat) (h : RirAt w X s q p) :
    Calls Try.prog 91 #[.pointer (some ⟨p, 0, none⟩)] w fun e w' => e = .returned (.int .i64 s.left) ∧ w = w' := Reader_Left w _ _ _ h.2.2.2

set_option maxHeartbeats 400000 in
theorem rir_head (w : World) (X : Nat → Prop) (s : RS) (q p : Nat) (h : RirAt w X s q p) :
    Calls Try.prog 106 #[.pointer (some ⟨q, 0, none⟩)] w fun e w' => e = .returned (.agg #[.int .u64 (rdHd s).1.hi.toNat, .int .u64 (rdHd s).1.lo.toNat]) ∧ RirAt w' X (rdHd s).2 q p ∧ Kp (Two q p) w w' := by
  obtain ⟨hq, hp, hpq⟩ := h.lt
  have h0 := h.c0
  have H := Lib.hid h
  have HX := Lib.hid h.off
  clear h hpq
  go_enter Try.func106, Try.ntmps106
  go_wp2_with fail
  refine (Wide_r _ X s q p (H.out.kp (S := From w.heap.size) (by repeat (first | with_reducible exact Kp.refl _ _ | with_reducible refine Kp.alloc ?_ _ | with_reducible refine Kp.drew ?_ | with_reducible refine Kp.drewN ?_ _ | with_reducible refine Kp.setRow ?_ (from_le (by first | exact Nat.le_refl _ | omega)) _ | with_reducible refine Kp.setCell ?_ (Or.inl (from_le (by first | (dsimp only; omega) | omega | (simp; omega) | (simp; done)))) _)) HX.out)).mono ?_
  rintro e w1 ⟨rfl, h1, hk1⟩
  have Hk1 := Lib.hid ((Kp.fr (S := Two q p) (show Kp (From w.heap.size) w _ from (by repeat (first | with_reducible exact Kp.refl _ _ | with_reducible refine Kp.alloc ?_ _ | with_reducible refine Kp.drew ?_ | with_reducible refine Kp.drewN ?_ _ | with_reducible refine Kp.setRow ?_ (from_le (by first | exact Nat.le_refl _ | omega)) _ | with_reducible refine Kp.setCell ?_ (Or.inl (from_le (by first | (dsimp only; omega) | omega | (simp; omega) | (simp; done)))) _)))).trans hk1.orl)
  obtain ⟨c1, f1, z1⟩ := hk1.reads w.heap.size (by unfold Two; omega) (by simp)
  have h0 := h1.c0
  have zq := h1.lt.1
  have H1 := Lib.hid h1
  clear h1 hk1
  go_wp2_with fail
  refine (Wide_r _ X s.word.2 q p (H1.out.kp (S := From w.heap.size) (by repeat (first | with_reducible exact Kp.refl _ _ | with_reducible refine Kp.alloc ?_ _ | with_reducible refine Kp.drew ?_ | with_reducible refine Kp.drewN ?_ _ | with_reducible refine Kp.setRow ?_ (from_le (by first | exact Nat.le_refl _ | omega)) _ | with_reducible refine Kp.setCell ?_ (Or.inl (from_le (by first | (dsimp only; omega) | omega | (simp; omega) | (simp; done)))) _)) HX.out)).mono ?_
  rintro e w2 ⟨rfl, h1, hk2⟩
  have Hk2 := Lib.hid ((Hk1.out.trans (Kp.fr (S := Two q p) (show Kp (From w.heap.size) w1 _ from (by repeat (first | with_reducible exact Kp.refl _ _ | with_reducible refine Kp.alloc ?_ _ | with_reducible refine Kp.drew ?_ | with_reducible refine Kp.drewN ?_ _ | with_reducible refine Kp.setRow ?_ (from_le (by first | exact Nat.le_refl _ | omega)) _ | with_reducible refine Kp.setCell ?_ (Or.inl (from_le (by first | (dsimp only; omega) | omega | (simp; omega) | (simp; done)))) _))))).trans hk2.orl)
  obtain ⟨c2, f2, z2⟩ := hk2.reads w.heap.size (by unfold Two; omega) (by simp; omega)
  obtain ⟨c3, f3, z3⟩ := hk2.reads w1.heap.size (by unfold Two; omega) (by simp)
  have H2 := Lib.hid h1
  clear h1 hk2
  go_wp2_with fail
  refine bodyPost_ret (v := .agg #[.int .u64 s.word.1.toNat, .int .u64 s.word.2.word.1.toNat]) ?_ rfl ⟨rfl, H2.out.kp (S := From w.heap.size) (by repeat (first | with_reducible exact Kp.refl _ _ | with_reducible refine Kp.alloc ?_ _ | with_reducible refine Kp.drew ?_ | with_reducible refine Kp.drewN ?_ _ | with_reducible refine Kp.setRow ?_ (from_le (by first | exact Nat.le_refl _ | omega)) _ | with_reducible refine Kp.setCell ?_ (Or.inl (from_le (by first | (dsimp only; omega) | omega | (simp; omega) | (simp; done)))) _)) HX.out, (Hk2.out.trans (Kp.fr (S := Two q p) (show Kp (From w.heap.size) w2 _ from (by repeat (first | with_reducible exact Kp.refl _ _ | with_reducible refine Kp.alloc ?_ _ | with_reducible refine Kp.drew ?_ | with_reducible refine Kp.drewN ?_ _ | with_reducible refine Kp.setRow ?_ (from_le (by first | exact Nat.le_refl _ | omega)) _ | with_reducible refine Kp.setCell ?_ (Or.inl (from_le (by first | (dsimp only; omega) | omega | (simp; omega) | (simp; done)))) _))))).unfresh⟩
  have n1 : ¬ w1.heap.size = w.heap.size := by omega
  simp [results, Try.results106, go_sem, c2, c3, c1, z1, n1]
end Go.Proofs.Ytpaldbejnbcokaa
