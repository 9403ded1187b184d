/- What memory keeps, and how Go values in memory read as data: relations and lemmas over any program; no function of the program is named here. -/
import Derived.WalkKit
import Derived.WalkSpells
import Derived.WalkLawsBesides
import Derived.Lib.Hide
import Derived.Deep.RegionHeld3
import Derived.Maps.AppendAt
import Derived.KernelRfl
namespace Go.Proofs.Ytpaldbejnbcokaa
open Go.RowKit

/-! ### What memory keeps -/

/-- Nothing that was there has turned but blocks of S; the streams are as they were. -/
structure Kp (S : Nat → Prop) (w w' : World) : Prop where
  os : w'.os = w.os
  tape : w'.tape = w.tape
  output : w'.output = w.output
  size : w.heap.size ≤ w'.heap.size
  block : ∀ k, k < w.heap.size → ¬ S k → w'.heap[k]? = w.heap[k]?

theorem Kp.refl (S : Nat → Prop) (w : World) : Kp S w w := ⟨rfl, rfl, rfl, Nat.le_refl _, fun _ _ _ => rfl⟩
theorem Kp.trans {S : Nat → Prop} {a b c : World} (h : Kp S a b) (k : Kp S b c) : Kp S a c :=
  ⟨k.os.trans h.os, k.tape.trans h.tape, k.output.trans h.output, Nat.le_trans h.size k.size,
    fun i hi hn => (k.block i (Nat.lt_of_lt_of_le hi h.size) hn).trans (h.block i hi hn)⟩
theorem Kp.mono {S S' : Nat → Prop} {a b : World} (h : Kp S a b) (hs : ∀ k, k < a.heap.size → S k → S' k) : Kp S' a b :=
  ⟨h.os, h.tape, h.output, h.size, fun i hi hn => h.block i hi fun hs' => hn (hs i hi hs')⟩
theorem Kp.trans2 {S S' : Nat → Prop} {a b c : World} (h : Kp S a b) (k : Kp S' b c) (hs : ∀ g, g < a.heap.size → S' g → S g) : Kp S a c :=
  ⟨k.os.trans h.os, k.tape.trans h.tape, k.output.trans h.output, Nat.le_trans h.size k.size,
    fun i hi hn => (k.block i (Nat.lt_of_lt_of_le hi h.size) (fun h' => hn (hs i hi h'))).trans (h.block i hi hn)⟩
theorem Kp.drew {S : Nat → Prop} {a w : World} (h : Kp S a w) : Kp S a w.drew := ⟨h.os, h.tape, h.output, h.size, h.block⟩
theorem Kp.drewN {S : Nat → Prop} {a w : World} (h : Kp S a w) (n : Nat) : Kp S a (w.drewN n) := ⟨h.os, h.tape, h.output, h.size, h.block⟩
theorem Kp.alloc {S : Nat → Prop} {a w : World} (h : Kp S a w) (o : Obj) : Kp S a (w.alloc o) :=
  h.trans ⟨rfl, rfl, rfl, by simp, fun k hk _ => Below.heap_alloc _ _ _ hk⟩
theorem Kp.setCell {S : Nat → Prop} {a w : World} (h : Kp S a w) {p : Addr} (hp : S p.block ∨ a.heap.size ≤ p.block) (u : Value) : Kp S a (w.setCell p u) :=
  ⟨h.os, h.tape, h.output, by simpa [World.setCell] using h.size, fun k hk hn => (Below.heap_setCell _ _ _ _ (by
    rintro rfl
    rcases hp with hp | hp
    · exact hn hp
    · omega)).trans (h.block k hk hn)⟩
theorem Kp.set1 (w : World) (p i : Nat) (u : Value) : Kp (fun b => b = p) w (w.setCell ⟨p, i, none⟩ u) := (Kp.refl (fun b => b = p) w).setCell (p := ⟨p, i, none⟩) (.inl rfl) u
theorem Kp.grown {S : Nat → Prop} {a w w' : World} {row : Option Nat} (h : Kp S a w) (hg : w.grownBy w' row) (hr : ∀ k, row = some k → S k ∨ a.heap.size ≤ k) : Kp S a w' :=
  ⟨hg.os.trans h.os, hg.tape.trans h.tape, hg.output.trans h.output, Nat.le_trans h.size hg.size, fun k hk hn => (hg.block k (Nat.lt_of_lt_of_le hk h.size) (fun e => by
    rcases hr k e.symm with hp | hp
    · exact hn hp
    · omega)).trans (h.block k hk hn)⟩
theorem Kp.below {S : Nat → Prop} {B : Nat} {w w' : World} (h : Kp S w w') (hB : B ≤ w.heap.size) (hs : ∀ k, k < B → ¬ S k) : Below B w w' :=
  ⟨h.os, h.tape, h.output, h.size, fun k hk => h.block k (by omega) (hs k hk)⟩
theorem Kp.cell {S : Nat → Prop} {w w' : World} (h : Kp S w w') {p : Addr} {u : Value} (hc : w.cell? p = some u) (hp : ¬ S p.block) : w'.cell? p = some u :=
  (World.cell?_of_block (w := w) (h.block p.block (World.block_lt_of_cell? w p hc) hp)).trans hc
theorem Kp.heap {S : Nat → Prop} {w w' : World} (h : Kp S w w') {b : Nat} {o : Obj} (hc : w.heap[b]? = some o) (hp : ¬ S b) : w'.heap[b]? = some o :=
  (h.block b (Array.getElem?_eq_some_iff.1 hc).1 hp).trans hc

/-- No block. -/
def No : Nat → Prop := fun _ => False
/-- Blocks from a number on. -/
def From (B : Nat) : Nat → Prop := fun b => B ≤ b
/-- Blocks of S, and those from a number on. -/
def Or (S : Nat → Prop) (B : Nat) : Nat → Prop := fun b => S b ∨ B ≤ b
theorem not_no (b : Nat) : ¬ No b := id

/-- The condition that a region's worlds meet may be made stronger on the way. -/
theorem wpAnyH_strong {P : Program} {md : Region.Mode} {ops : Array Oper} {Q : Exit → Act → World → Prop} {S S' : World → Prop} (h : ∀ w, S' w → S w) : ∀ (fuel : Nat) (listed : Array Bool) (a : Act) (w : World),
    wpAnyH P md ops Q S' fuel listed a w → wpAnyH P md ops Q S fuel listed a w
  | 0, _, _, _, hh => hh
  | fuel + 1, _, _, _, hh => ⟨hh.1, fun i hi => wpOp_mono (fun a' w' h' => ⟨h _ h'.1, wpAnyH_strong h fuel _ a' w' h'.2⟩) (hh.2 i hi)⟩

/-! ### How values read -/

/-- The elements' cells, one after another. -/
def All2 {α : Type} (r : α → List Value → Prop) : List α → List Value → Prop
  | [], cs => cs = []
  | x :: xs, cs => ∃ c1 c2, cs = c1 ++ c2 ∧ r x c1 ∧ All2 r xs c2

theorem All2.snoc {α : Type} {r : α → List Value → Prop} : ∀ {xs : List α} {cs : List Value} {x : α} {c : List Value}, All2 r xs cs → r x c → All2 r (xs ++ [x]) (cs ++ c)
  | [], cs, x, c, h, hx => by
    simp only [All2] at h
    subst h
    exact ⟨c, [], by simp, hx, rfl⟩
  | y :: ys, cs, x, c, h, hx => by
    obtain ⟨c1, c2, rfl, h1, h2⟩ := h
    exact ⟨c1, c2 ++ c, by simp, h1, h2.snoc hx⟩
theorem All2.append {α : Type} {r : α → List Value → Prop} : ∀ {xs ys : List α} {cs ds : List Value}, All2 r xs cs → All2 r ys ds → All2 r (xs ++ ys) (cs ++ ds)
  | [], ys, cs, ds, h, hx => by
    simp only [All2] at h
    subst h
    simpa using hx
  | y :: ys, _, cs, ds, h, hx => by
    obtain ⟨c1, c2, rfl, h1, h2⟩ := h
    exact ⟨c1, c2 ++ ds, by simp, h1, h2.append hx⟩
theorem All2.mono {α : Type} {r r' : α → List Value → Prop} (hr : ∀ x c, r x c → r' x c) : ∀ {xs : List α} {cs : List Value}, All2 r xs cs → All2 r' xs cs
  | [], _, h => h
  | _ :: _, _, h => by
    obtain ⟨c1, c2, rfl, h1, h2⟩ := h
    exact ⟨c1, c2, rfl, hr _ _ h1, h2.mono hr⟩
theorem All2.length {α : Type} {r : α → List Value → Prop} {n : Nat} (hn : ∀ x c, r x c → c.length = n) : ∀ {xs : List α} {cs : List Value}, All2 r xs cs → cs.length = xs.length * n
  | [], _, h => by
    simp only [All2] at h
    subst h
    simp
  | x :: xs, _, h => by
    obtain ⟨c1, c2, rfl, h1, h2⟩ := h
    have e := h2.length hn
    have e1 := hn _ _ h1
    rw [List.length_append, e, e1, List.length_cons, Nat.add_mul, Nat.one_mul, Nat.add_comm]
theorem All2.mem {α : Type} {r : α → List Value → Prop} {p : Value → Prop} (hp : ∀ x c, r x c → ∀ u ∈ c, p u) : ∀ {xs : List α} {cs : List Value}, All2 r xs cs → ∀ u ∈ cs, p u
  | [], _, h => by
    simp only [All2] at h
    subst h
    simp
  | x :: xs, _, h => by
    obtain ⟨c1, c2, rfl, h1, h2⟩ := h
    intro u hu
    rcases List.mem_append.1 hu with hu | hu
    · exact hp _ _ h1 u hu
    · exact h2.mem hp u hu
theorem All2.get {α : Type} {r : α → List Value → Prop} {n : Nat} (hn : ∀ x c, r x c → c.length = n) : ∀ {xs : List α} {cs : List Value}, All2 r xs cs → ∀ {k : Nat} {x : α}, xs[k]? = some x →
    ∃ c, r x c ∧ ∀ j u, c[j]? = some u → cs[k * n + j]? = some u
  | [], _, _, k, x, hk => by simp at hk
  | y :: ys, _, h, k, x, hk => by
    obtain ⟨c1, c2, rfl, h1, h2⟩ := h
    have e1 := hn _ _ h1
    cases k with
    | zero =>
      obtain rfl : y = x := by simpa using hk
      refine ⟨c1, h1, fun j u hu => ?_⟩
      have hj : j < c1.length := (List.getElem?_eq_some_iff.1 hu).1
      rw [Nat.zero_mul, Nat.zero_add, List.getElem?_append_left hj, hu]
    | succ k =>
      obtain ⟨c, hc, hg⟩ := h2.get hn (k := k) (x := x) (by simpa using hk)
      refine ⟨c, hc, fun j u hu => ?_⟩
      rw [List.getElem?_append_right (by rw [e1, Nat.add_mul]; omega), ← hg j u hu]
      congr 1
      rw [e1, Nat.add_mul]
      omega
theorem All2.drop {α : Type} {r : α → List Value → Prop} {n : Nat} (hn : ∀ x c, r x c → c.length = n) : ∀ {xs : List α} {cs : List Value} (k : Nat), All2 r xs cs → All2 r (xs.drop k) (cs.drop (k * n))
  | [], _, k, h => by
    simp only [All2] at h
    subst h
    simp [All2]
  | y :: ys, _, 0, h => by simpa using h
  | y :: ys, _, k + 1, h => by
    obtain ⟨c1, c2, rfl, h1, h2⟩ := h
    have e1 := hn _ _ h1
    have := h2.drop hn k
    rw [List.drop_succ_cons, List.drop_append, List.drop_of_length_le (l := c1) (by rw [e1, Nat.add_mul]; omega), List.nil_append]
    rwa [show (k + 1) * n - c1.length = k * n by rw [e1, Nat.add_mul]; omega]
theorem All2.take {α : Type} {r : α → List Value → Prop} {n : Nat} (hn : ∀ x c, r x c → c.length = n) : ∀ {xs : List α} {cs : List Value} (k : Nat), All2 r xs cs → All2 r (xs.take k) (cs.take (k * n))
  | [], _, k, h => by
    simp only [All2] at h
    subst h
    simp [All2]
  | y :: ys, _, 0, h => by simp [All2]
  | y :: ys, _, k + 1, h => by
    obtain ⟨c1, c2, rfl, h1, h2⟩ := h
    refine ⟨c1, c2.take (k * n), ?_, h1, h2.take hn k⟩
    rw [List.take_append, hn _ _ h1]
    have e1 := hn _ _ h1
    rw [List.take_of_length_le (by rw [e1, Nat.add_mul]; omega)]
    congr 2
    rw [Nat.add_mul]
    omega

/-- How values of a type lie in cells: the number of cells, and what they hold; F: the blocks that they may lead into. -/
structure Rep (α : Type) where
  n : Nat
  rel : World → (Nat → Prop) → α → List Value → Prop
  len : ∀ {w F x cs}, rel w F x cs → cs.length = n
  one : ∀ {w F x cs}, rel w F x cs → ∀ u ∈ cs, u.oneCell' = true
  keep : ∀ {w w' F x cs}, rel w F x cs → (∀ b, F b → b < w.heap.size → w'.heap[b]? = w.heap[b]?) → rel w' F x cs
  mono : ∀ {w F F' x cs}, rel w F x cs → (∀ b, b < w.heap.size → F b → F' b) → rel w F' x cs

theorem Rep.kp {α : Type} (R : Rep α) {w w' : World} {F S : Nat → Prop} {x : α} {cs : List Value} (h : R.rel w F x cs) (hk : Kp S w w') (hd : ∀ b, F b → ¬ S b) : R.rel w' F x cs :=
  R.keep h fun b hb hlt => hk.block b hlt (hd b hb)

/-- A value without memory: cells that its data give. -/
def Rep.plain {α : Type} (n : Nat) (enc : α → List Value) (hn : ∀ x, (enc x).length = n) (h1 : ∀ x, ∀ u ∈ enc x, u.oneCell' = true) : Rep α where
  n := n
  rel := fun _ _ x cs => cs = enc x
  len := fun h => by rw [h]; exact hn _
  one := fun h => by rw [h]; exact h1 _
  keep := fun h _ => h
  mono := fun h _ => h

/-- A slice that reads as a list. -/
def SliceAt {α : Type} (R : Rep α) (w : World) (F : Nat → Prop) (xs : List α) (v : Value) : Prop :=
  ∃ A c, v = .slice A xs.length c ∧ xs.length ≤ c ∧ c ≤ maxLen ∧
    (0 < xs.length → ∃ b off, A = some ⟨b, off, none⟩ ∧ F b ∧ b < w.heap.size ∧
      ∃ cells, All2 (R.rel w F) xs cells ∧ ∀ j u, cells[j]? = some u → w.cell? ⟨b, off + j, none⟩ = some u)

section
variable {α : Type} {R : Rep α} {w w' : World} {F F' S : Nat → Prop} {xs : List α} {v : Value}
theorem SliceAt.nil (R : Rep α) (w : World) (F : Nat → Prop) : SliceAt R w F [] (.slice none 0 0) := ⟨none, 0, rfl, Nat.le_refl _, Nat.zero_le _, fun h => absurd h (Nat.lt_irrefl _)⟩
theorem SliceAt.keep (h : SliceAt R w F xs v) (hk : ∀ b, F b → b < w.heap.size → w'.heap[b]? = w.heap[b]?) : SliceAt R w' F xs v := by
  obtain ⟨A, c, rfl, h1, h2, h3⟩ := h
  refine ⟨A, c, rfl, h1, h2, fun hp => ?_⟩
  obtain ⟨b, off, rfl, hb, hlt, cells, ha, hc⟩ := h3 hp
  have e := hk b hb hlt
  refine ⟨b, off, rfl, hb, ?_, cells, ha.mono fun x c hx => R.keep hx hk, fun j u hu => (World.cell?_of_block (w := w) (a := ⟨b, off + j, none⟩) e).trans (hc j u hu)⟩
  rw [Array.getElem?_eq_getElem hlt] at e
  exact (Array.getElem?_eq_some_iff.1 e).1
theorem SliceAt.mono (h : SliceAt R w F xs v) (hk : ∀ b, b < w.heap.size → F b → F' b) : SliceAt R w F' xs v := by
  obtain ⟨A, c, rfl, h1, h2, h3⟩ := h
  refine ⟨A, c, rfl, h1, h2, fun hp => ?_⟩
  obtain ⟨b, off, rfl, hb, hlt, cells, ha, hc⟩ := h3 hp
  exact ⟨b, off, rfl, hk b hlt hb, hlt, cells, ha.mono fun x c hx => R.mono hx hk, hc⟩
theorem SliceAt.kp (h : SliceAt R w F xs v) (hk : Kp S w w') (hd : ∀ b, F b → ¬ S b) : SliceAt R w' F xs v := h.keep fun b hb hlt => hk.block b hlt (hd b hb)
theorem SliceAt.len (h : SliceAt R w F xs v) : xs.length ≤ 9223372036854775807 := by
  obtain ⟨A, c, rfl, h1, h2, h3⟩ := h
  unfold maxLen at h2
  omega
theorem SliceAt.form (h : SliceAt R w F xs v) : ∃ A c, v = .slice A xs.length c ∧ xs.length ≤ c ∧ c ≤ 9223372036854775807 := by
  obtain ⟨A, c, rfl, h1, h2, h3⟩ := h
  unfold maxLen at h2
  exact ⟨A, c, rfl, h1, by omega⟩
theorem SliceAt.form' (h : SliceAt R w F xs v) : ∃ A n c, v = .slice A n c ∧ Hid (n = xs.length) ∧ n ≤ c ∧ c ≤ 9223372036854775807 := by
  obtain ⟨A, c, rfl, h1, h2⟩ := h.form
  exact ⟨A, _, c, rfl, rfl, h1, h2⟩
theorem SliceAt.zero (R : Rep α) (w : World) (F : Nat → Prop) (A : Option Addr) {n c : Nat} (hn : n = 0) (hc : c ≤ 9223372036854775807) : SliceAt R w F [] (.slice A n c) :=
  ⟨A, c, by rw [hn]; rfl, Nat.zero_le _, by unfold maxLen; omega, fun h => absurd h (Nat.lt_irrefl _)⟩
theorem SliceAt.take {A : Option Addr} {n c k : Nat} (h : SliceAt R w F xs (.slice A n c)) (hk : k ≤ n) : SliceAt R w F (xs.take k) (.slice A k c) := by
  obtain ⟨A', c', e, h1, h2, h3⟩ := h
  injection e with e1 e2 e3
  subst e1 e2 e3
  have hl : (xs.take k).length = k := by rw [List.length_take]; omega
  refine ⟨A, c, by rw [hl], by omega, h2, fun hp => ?_⟩
  obtain ⟨b, off, e, hb, hlt, cells, ha, hc⟩ := h3 (by omega)
  refine ⟨b, off, e, hb, hlt, _, ha.take (n := R.n) (fun _ _ => R.len) k, fun j u hu => hc j u ?_⟩
  rw [List.getElem?_take] at hu
  split at hu
  · exact hu
  · cases hu
theorem SliceAt.drop {A : Option Addr} {n c k q : Nat} (h : SliceAt R w F xs (.slice A n c)) (hk : k ≤ n) (hq : q = k * R.n) : SliceAt R w F (xs.drop k) (.slice (A.map fun x => x.add q) (n - k) (c - k)) := by
  obtain ⟨A', c', e, h1, h2, h3⟩ := h
  injection e with e1 e2 e3
  subst e1 e2 e3
  have hl : (xs.drop k).length = xs.length - k := List.length_drop
  refine ⟨_, c - k, by rw [hl], by omega, by unfold maxLen at *; omega, fun hp => ?_⟩
  obtain ⟨b, off, rfl, hb, hlt, cells, ha, hc⟩ := h3 (by omega)
  refine ⟨b, off + q, ?_, hb, hlt, _, ha.drop (n := R.n) (fun _ _ => R.len) k, fun j u hu => ?_⟩
  · simp only [Option.map_some, Option.some.injEq]
    unfold Addr.add
    split <;> simp_all
  · rw [List.getElem?_drop, ← hq] at hu
    rw [Nat.add_assoc]
    exact hc _ u hu
/-- A part that has no elements may lie anywhere; else it lies so many cells on. -/
theorem SliceAt.cut {A : Option Addr} {n c k q : Nat} (h : SliceAt R w F xs (.slice A n c)) (hk : k ≤ n) (hq : q = k * R.n) (A' : Option Addr) (hA : k < n → A' = A.map fun x => x.add q) : SliceAt R w F (xs.drop k) (.slice A' (n - k) (c - k)) := by
  have h' := h
  obtain ⟨A0, c0, e, h1, h2, _⟩ := h
  injection e with e1 e2 e3
  subst e1 e2 e3
  by_cases hlt : k < xs.length
  · rw [hA hlt]
    exact h'.drop hk hq
  · have hd : xs.drop k = [] := List.drop_of_length_le (by omega)
    rw [hd]
    exact SliceAt.zero R w F A' (by omega) (by unfold maxLen at h2; omega)
/-- An element and its cells. -/
theorem SliceAt.get {A : Option Addr} {n c : Nat} (h : SliceAt R w F xs (.slice A n c)) {k : Nat} {x : α} (hk : xs[k]? = some x) :
    ∃ b off cs, A = some ⟨b, off, none⟩ ∧ F b ∧ b < w.heap.size ∧ R.rel w F x cs ∧ ∀ j u, cs[j]? = some u → w.cell? ⟨b, off + (k * R.n + j), none⟩ = some u := by
  obtain ⟨A', c', e, h1, h2, h3⟩ := h
  injection e with e1 e2 e3
  subst e1
  have hlt : k < xs.length := (List.getElem?_eq_some_iff.1 hk).1
  obtain ⟨b, off, rfl, hb, hlt, cells, ha, hc⟩ := h3 (by omega)
  obtain ⟨cs, hr, hg⟩ := ha.get (fun _ _ => R.len) hk
  exact ⟨b, off, cs, rfl, hb, hlt, hr, fun j u hu => hc _ u (hg j u hu)⟩
end

/-- Slices as values of one cell. -/
def Rep.slice {α : Type} (R : Rep α) : Rep (List α) where
  n := 1
  rel := fun w F xs cs => ∃ v, cs = [v] ∧ SliceAt R w F xs v
  len := fun h => by obtain ⟨v, rfl, _⟩ := h; rfl
  one := fun h => by
    obtain ⟨v, rfl, A, c, rfl, _⟩ := h
    simp [Value.oneCell']
  keep := fun h hk => by obtain ⟨v, rfl, h⟩ := h; exact ⟨v, rfl, h.keep hk⟩
  mono := fun h hk => by obtain ⟨v, rfl, h⟩ := h; exact ⟨v, rfl, h.mono hk⟩

/-- A slice that the holder may append to: its row is O's, and none that its elements lead into. -/
def OwnAt {α : Type} (R : Rep α) (e : TypeId) (w : World) (E O : Nat → Prop) (xs : List α) (v : Value) : Prop :=
  ∃ cells, w.ownsRow 0 e R.n v xs.length cells ∧ All2 (R.rel w E) xs cells ∧ ∀ g, v.ownBlock = some g → O g ∧ ¬ E g

section
variable {α : Type} {R : Rep α} {e : TypeId} {w w' : World} {E E' O O' S : Nat → Prop} {xs : List α} {v : Value}
theorem OwnAt.nil (R : Rep α) (e : TypeId) (w : World) (E O : Nat → Prop) : OwnAt R e w E O [] (.slice none 0 0) :=
  ⟨[], World.ownsRow_nil w 0 e R.n, rfl, fun g h => by simp [Value.ownBlock] at h⟩
theorem OwnAt.mono (h : OwnAt R e w E O xs v) (hk : ∀ b, b < w.heap.size → O b → O' b) : OwnAt R e w E O' xs v := by
  obtain ⟨cells, h1, h2, h3⟩ := h
  exact ⟨cells, h1, h2, fun g hg => ⟨hk g (h1.lt g hg).2 (h3 g hg).1, (h3 g hg).2⟩⟩
theorem OwnAt.kp (h : OwnAt R e w E O xs v) (hk : Kp S w w') (hE : ∀ b, E b → ¬ S b) (hO : ∀ b, O b → ¬ S b) : OwnAt R e w' E O xs v := by
  obtain ⟨cells, ⟨hl, h1⟩, h2, h3⟩ := h
  refine ⟨cells, ⟨hl, ?_⟩, h2.mono fun x c hx => R.kp hx hk hE, h3⟩
  rcases h1 with h1 | ⟨g, cap, cur, rfl, hb, hg, rest⟩
  · exact .inl h1
  · exact .inr ⟨g, cap, cur, rfl, hb, hk.heap hg (hO g (h3 g rfl).1), rest⟩
theorem OwnAt.slice (h : OwnAt R e w E O xs v) : SliceAt R w (fun b => E b ∨ O b) xs v := by
  obtain ⟨cells, ⟨hl, h1⟩, h2, h3⟩ := h
  rcases h1 with ⟨rfl, h0⟩ | ⟨g, cap, cur, rfl, hb, hg, hnc, hcm, hcs, ht⟩
  · refine ⟨none, 0, by rw [h0], by omega, Nat.zero_le _, fun hp => absurd h0 (by omega)⟩
  · refine ⟨_, cap, rfl, hnc, hcm, fun hp => ⟨g, 0, rfl, .inr (h3 g rfl).1, (Array.getElem?_eq_some_iff.1 hg).1, cells, h2.mono fun x c hx => R.mono hx fun b _ hb => .inl hb, fun j u hu => ?_⟩⟩
    rw [Nat.zero_add, cell_of_row w g j cur e (0, 0) hg]
    rw [← ht, List.getElem?_take] at hu
    split at hu
    · simpa using hu
    · cases hu
theorem OwnAt.own (h : OwnAt R e w E O xs v) {g : Nat} (hg : v.ownBlock = some g) : O g := by
  obtain ⟨cells, h1, h2, h3⟩ := h
  exact (h3 g hg).1
theorem OwnAt.alloc (h : OwnAt R e w E O xs v) (o : Obj) : OwnAt R e (w.alloc o) E O xs v := h.kp ((Kp.refl No w).alloc o) (fun _ _ => id) (fun _ _ => id)
theorem OwnAt.drew (h : OwnAt R e w E O xs v) : OwnAt R e w.drew E O xs v := h.kp ((Kp.refl No w).drew) (fun _ _ => id) (fun _ _ => id)
theorem OwnAt.len (h : OwnAt R e w E O xs v) : xs.length ≤ 9223372036854775807 := h.slice.len
theorem OwnAt.form (h : OwnAt R e w E O xs v) : ∃ A c, v = .slice A xs.length c ∧ xs.length ≤ c ∧ c ≤ 9223372036854775807 := h.slice.form
theorem OwnAt.form' (h : OwnAt R e w E O xs v) : ∃ A n c, v = .slice A n c ∧ Hid (n = xs.length) ∧ n ≤ c ∧ c ≤ 9223372036854775807 := h.slice.form'
end

/-! ### The table's rows of slice types, as closed facts -/

/-- Slice type t has elements of type e, of n cells and so many bytes. -/
def elemB (P : Program) (t e n bytes : Nat) : Bool :=
  (match P.underlying t with | some (.slice e') => e' == e | _ => false) &&
  (match P.info? e with | some i => i.size == n && i.bytes == bytes && (match i.zero with | some z => z.cells.size == n | none => false) | none => false)
theorem elem_parts {P : Program} {t e n bytes : Nat} (h : elemB P t e n bytes = true) :
    P.underlying t = some (.slice e) ∧ ∃ i z, P.info? e = some i ∧ i.zero = some z ∧ i.size = n ∧ i.bytes = bytes ∧ z.cells.size = n := by
  unfold elemB at h
  rw [Bool.and_eq_true] at h
  obtain ⟨h1, h2⟩ := h
  refine ⟨?_, ?_⟩
  · split at h1
    · rename_i e' he
      rw [he, eq_of_beq h1]
    · cases h1
  · split at h2
    · rename_i i hi
      simp only [Bool.and_eq_true] at h2
      obtain ⟨⟨a, b⟩, c⟩ := h2
      split at c
      · rename_i z hz
        exact ⟨i, z, hi, hz, eq_of_beq a, eq_of_beq b, eq_of_beq c⟩
      · cases c
    · cases h2

/-! ### append -/
section
variable {P : Program} {α : Type} {R : Rep α} {w : World} {E O : Nat → Prop} {xs : List α} {v : Value}

/-- The elements of a source, where they lie. -/
def Source (R : Rep α) (w : World) (E : Nat → Prop) (ys : List α) (A : Option Addr) : Prop :=
  ∃ news, All2 (R.rel w E) ys news ∧ (0 < ys.length → ∃ ad, A = some ad ∧ ∀ j u, news[j]? = some u → w.cell? (ad.add j) = some u)

theorem run_append_rep {t ty e bytes : Nat} (hel : elemB P t e R.n bytes = true) (hn : 0 < R.n) (hown : OwnAt R e w E O xs v) (A : Option Addr) (c : Nat) (ys : List α)
    (hy : Source R w E ys A) (hE : ∀ b, E b → b < w.heap.size) (hO : ∀ b, w.heap.size ≤ b → O b)
    (hb : (xs.length + ys.length) * bytes ≤ 140737488355328) (h63 : xs.length + ys.length ≤ 9223372036854775807) :
    ∃ v' w', (Builtin.append_ #[t, t] ty #[v, .slice A ys.length c]).run P w = .ok v' w' ∧ OwnAt R e w' E O (xs ++ ys) v' ∧ Kp (fun b => v.ownBlock = some b) w w' ∧
      (v'.ownBlock = v.ownBlock ∨ v'.ownBlock = some w.heap.size) := by
  obtain ⟨ht, i, z, hi, hz, hs, hby, hzs⟩ := elem_parts hel
  obtain ⟨cells, h1, h2, h3⟩ := hown
  obtain ⟨news, hy, hA⟩ := hy
  have hlen := hy.length (n := R.n) (fun _ _ => R.len)
  have hone := hy.mem (p := fun u => u.oneCell' = true) (fun _ _ => R.one)
  have main : ∀ (ad : Addr), (∀ j u, news[j]? = some u → w.cell? (ad.add j) = some u) →
      ∃ v' w', (Builtin.append_ #[t, t] ty #[v, .slice (some ad) ys.length c]).run P w = .ok v' w' ∧ OwnAt R e w' E O (xs ++ ys) v' ∧ Kp (fun b => v.ownBlock = some b) w w' ∧
        (v'.ownBlock = v.ownBlock ∨ v'.ownBlock = some w.heap.size) := by
    intro ad hc
    obtain ⟨v', w', hr, ho, hg, _, hat⟩ := run_append_own_at (P := P) w 0 t ty e i z R.n bytes ht hi hz hs hby hzs hn v xs.length cells h1 ad ys.length c news hlen hc hone (by unfold maxLen; omega) hb (Nat.zero_le _)
    have hk : Kp (fun b => v.ownBlock = some b) w w' := (Kp.refl _ w).grown hg (fun k hk => .inl hk)
    refine ⟨v', w', hr, ⟨cells ++ news, ?_, ?_, fun g hg' => ?_⟩, hk, hat⟩
    · rw [List.length_append]
      exact ho
    · exact (h2.append hy).mono fun x cs hx => R.keep hx fun b hb' hlt => hk.block b hlt fun h => (h3 b h).2 hb'
    · rcases hat with h | h
      · exact h3 g (h ▸ hg')
      · have e := hg'.symm.trans h
        injection e with e
        subst e
        exact ⟨hO _ (Nat.le_refl _), fun he => absurd (hE _ he) (by omega)⟩
  by_cases hp : 0 < ys.length
  · obtain ⟨ad, rfl, hc⟩ := hA hp
    exact main ad hc
  · have h0 : ys = [] := List.eq_nil_of_length_eq_zero (by omega)
    subst h0
    have hn0 : news = [] := hy
    subst hn0
    cases A with
    | some ad => exact main ad (by simp)
    | none =>
      refine ⟨v, w, ?_, by simpa using ⟨cells, h1, h2, h3⟩, Kp.refl _ _, .inl rfl⟩
      rcases h1.2 with ⟨rfl, h0⟩ | ⟨g, cap, cur, rfl, _, _, hnc, _⟩
      · simp [Builtin.append_, run_underlying ht, sizeOf, typeInfo, hi, Builtin.lenOf, Builtin.firstCells]
      · simp [Builtin.append_, run_underlying ht, sizeOf, typeInfo, hi, Builtin.lenOf, Builtin.firstCells, hnc, storeCells]

theorem wp_append_rep {o : Oper} {a : Act} {K : Act → World → Prop} {Q : Exit → Act → World → Prop} {t e bytes : Nat} (s x : Operand)
    (ho : o.op = .call { callee := .builtin .append, args := #[s, x], argTypes := #[t, t] })
    (hel : elemB P t e R.n bytes = true) (hn : 0 < R.n) (hs : a.eval s = v) (hown : OwnAt R e w E O xs v) (A : Option Addr) (m c : Nat) (ys : List α) (hx : a.eval x = .slice A m c) (hm : m = ys.length)
    (hy : Source R w E ys A) (hE : ∀ b, E b → b < w.heap.size) (hO : ∀ b, w.heap.size ≤ b → O b)
    (hb : (xs.length + ys.length) * bytes ≤ 140737488355328) (h63 : xs.length + ys.length ≤ 9223372036854775807)
    (h : ∀ v' w', OwnAt R e w' E O (xs ++ ys) v' → Kp (fun b => v.ownBlock = some b) w w' → (v'.ownBlock = v.ownBlock ∨ v'.ownBlock = some w.heap.size) → K (a.put o.dst v') w') : o.wp P a w K Q := by
  subst hm
  obtain ⟨v', w', hr, h2, h3, h4⟩ := run_append_rep (P := P) (ty := o.type) hel hn hown A c ys hy hE hO hb h63
  unfold Oper.wp execOp
  simp only [ho, resolve, invoke, builtin, Sem.run_bind, Sem.run_pure, Result.andThen_ok, List.map_toArray, List.map_cons, List.map_nil, hs, hx, hr]
  exact h v' w' h2 h3 h4

theorem wpList_append_rep {ops : Array Oper} {rest : List Oper} {o : Oper} {a : Act} {Q : Exit → Act → World → Prop} {t e bytes : Nat} (hgd : o.guard = none) (s x : Operand)
    (ho : o.op = .call { callee := .builtin .append, args := #[s, x], argTypes := #[t, t] })
    (hel : elemB P t e R.n bytes = true) (hn : 0 < R.n) (hs : a.eval s = v) (hown : OwnAt R e w E O xs v) (A : Option Addr) (m c : Nat) (ys : List α) (hx : a.eval x = .slice A m c) (hm : m = ys.length)
    (hy : Source R w E ys A) (hE : ∀ b, E b → b < w.heap.size) (hO : ∀ b, w.heap.size ≤ b → O b)
    (hb : (xs.length + ys.length) * bytes ≤ 140737488355328) (h63 : xs.length + ys.length ≤ 9223372036854775807)
    (h : ∀ v' w', OwnAt R e w' E O (xs ++ ys) v' → Kp (fun b => v.ownBlock = some b) w w' → (v'.ownBlock = v.ownBlock ∨ v'.ownBlock = some w.heap.size) → wpList P ops Q rest (a.put o.dst v') w') : wpList P ops Q (o :: rest) a w :=
  wpList_plain hgd fun _ hK => wp_append_rep s x ho hel hn hs hown A m c ys hx hm hy hE hO hb h63 fun v' w' h2 h3 h4 => hK _ _ (h v' w' h2 h3 h4)

theorem SliceAt.source {n c : Nat} {A : Option Addr} (h : SliceAt R w E xs (.slice A n c)) : Source R w E xs A := by
  obtain ⟨A', c', e, h1, h2, h3⟩ := h
  injection e with e1 e2 e3
  subst e1
  by_cases hp : 0 < xs.length
  · obtain ⟨b, off, rfl, _, _, cells, ha, hc⟩ := h3 hp
    refine ⟨cells, ha, fun _ => ⟨_, rfl, fun j u hu => ?_⟩⟩
    rw [show (⟨b, off, none⟩ : Addr).add j = ⟨b, off + j, none⟩ by unfold Addr.add; split <;> simp_all]
    exact hc j u hu
  · have h0 : xs = [] := List.eq_nil_of_length_eq_zero (by omega)
    subst h0
    exact ⟨[], rfl, fun h => absurd h (by simp)⟩
/-- One new element in a block of its own. -/
theorem Source.one {x : α} {cs : List Value} {t : TypeId} {w : World} (h : R.rel (w.alloc (.cells cs.toArray t)) E x cs) : Source R (w.alloc (.cells cs.toArray t)) E [x] (some ⟨w.heap.size, 0, none⟩) := by
  refine ⟨cs, ⟨cs, [], by simp, h, rfl⟩, fun _ => ⟨_, rfl, fun j u hu => ?_⟩⟩
  rw [show (⟨w.heap.size, 0, none⟩ : Addr).add j = ⟨w.heap.size, j, none⟩ by unfold Addr.add; split <;> simp_all]
  rw [cell_of_row _ w.heap.size j cs.toArray t (0, 0) (heap_alloc_new w _)]
  simpa using hu
end
end Go.Proofs.Ytpaldbejnbcokaa
