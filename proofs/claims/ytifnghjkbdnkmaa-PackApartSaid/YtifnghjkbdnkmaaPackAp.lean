/- The law PackApart: two Writers, and the plain law. -/
import Derived.Test.YtifnghjkbdnkmaaPackF
namespace Go.Proofs.Ytifnghjkbdnkmaa
open Go.RowKit

/-! ### Two Writers side by side -/
theorem WriterAt.clip {w : World} {X : Nat → Prop} {l : List UInt8} {p : Nat} (h : WriterAt w X l p) : WriterAt w (fun b => X b ∧ b < w.heap.size) l p := by
  obtain ⟨hp, sv, hh, ho⟩ := h
  have hlt := (Array.getElem?_eq_some_iff.1 hh).1
  exact ⟨⟨hp, hlt⟩, sv, hh, ho.mono fun b hb h => ⟨⟨h.1, hb⟩, h.2⟩⟩

/-- Two Writers at p and q, from B on, that share nothing. -/
def TwoW (B : Nat) (w : World) (l m : List UInt8) (p q : Nat) : Prop :=
  ∃ X Y : Nat → Prop, WriterAt w X l p ∧ WriterAt w Y m q ∧ (∀ b, X b → ¬ Y b) ∧ ∀ b, X b ∨ Y b → B ≤ b ∧ b < w.heap.size
theorem TwoW.swap {B : Nat} {w : World} {l m : List UInt8} {p q : Nat} (h : TwoW B w l m p q) : TwoW B w m l q p := by
  obtain ⟨X, Y, h1, h2, h3, h4⟩ := h
  exact ⟨Y, X, h2, h1, fun b hy hx => h3 b hx hy, fun b hb => h4 b hb.symm⟩
theorem TwoW.drew {B : Nat} {w : World} {l m : List UInt8} {p q : Nat} (h : TwoW B w l m p q) : TwoW B w.drew l m p q := by
  obtain ⟨X, Y, h1, h2, h3, h4⟩ := h
  exact ⟨X, Y, h1.kp (Kp.refl No w).drew (fun _ _ => id), h2.kp (Kp.refl No w).drew (fun _ _ => id), h3, h4⟩
/-- One of them turns. -/
theorem TwoW.step {B : Nat} {w : World} {l m : List UInt8} {p q : Nat} (h : TwoW B w l m p q) {f : Nat} {args : Array Value} {v : Value} {l' : List UInt8}
    (hc : ∀ X, WriterAt w X l p → Calls Try.prog f args w fun e w' => e = .returned v ∧ WriterAt w' (Or X w.heap.size) l' p ∧ Kp X w w') :
    Calls Try.prog f args w fun e w' => e = .returned v ∧ TwoW B w' l' m p q ∧ Kp (From B) w w' := by
  obtain ⟨X, Y, h1, h2, h3, h4⟩ := h
  have hB : B ≤ w.heap.size := by have := h4 p (.inl h1.1); omega
  refine (hc X h1).mono fun e w' ⟨he, hw, hk⟩ => ⟨he, ⟨fun b => Or X w.heap.size b ∧ b < w'.heap.size, Y, hw.clip, h2.kp hk (fun b hy hx => h3 b hx hy), fun b hx hy => ?_, fun b hb => ?_⟩, hk.mono fun b _ hx => (h4 b (.inl hx)).1⟩
  · rcases hx.1 with hx | hx
    · exact h3 b hx hy
    · have := h4 b (.inr hy)
      omega
  · rcases hb with hx | hy
    · refine ⟨?_, hx.2⟩
      rcases hx.1 with hx | hx
      · exact (h4 b (.inl hx)).1
      · omega
    · have := h4 b (.inr hy)
      have := hk.size
      exact ⟨by omega, by omega⟩
theorem TwoW.Num {B : Nat} {w : World} {l m : List UInt8} {p q : Nat} (h : TwoW B w l m p q) (n : Int) (hb : l.length + 8 ≤ 140737488355328) :
    Calls Try.prog 8 #[.pointer (some ⟨p, 0, none⟩), .int .i64 n] w fun e w' => e = .returned (.pointer (some ⟨p, 0, none⟩)) ∧ TwoW B w' (l ++ putF (UInt64.ofInt n) 8) m p q ∧ Kp (From B) w w' :=
  h.step fun X hx => Writer_Num w X l p n hx hb
theorem TwoW.Wide {B : Nat} {w : World} {l m : List UInt8} {p q : Nat} (h : TwoW B w l m p q) (n : UInt64) (hb : l.length + 8 ≤ 140737488355328) :
    Calls Try.prog 10 #[.pointer (some ⟨p, 0, none⟩), .int .u64 n.toNat] w fun e w' => e = .returned (.pointer (some ⟨p, 0, none⟩)) ∧ TwoW B w' (l ++ putF n 8) m p q ∧ Kp (From B) w w' :=
  h.step fun X hx => Writer_Wide w X l p n hx hb
theorem TwoW.Text {B : Nat} {w : World} {l m : List UInt8} {p q : Nat} (h : TwoW B w l m p q) (s : ByteArray) (hb : l.length + 20000000 ≤ 140737488355328) :
    Calls Try.prog 11 #[.pointer (some ⟨p, 0, none⟩), .string s] w fun e w' => e = .returned (.pointer (some ⟨p, 0, none⟩)) ∧ TwoW B w' (l ++ textF s) m p q ∧ Kp (From B) w w' :=
  h.step fun X hx => Writer_Text w X l p s hx hb

/-! ### The plain law -/
def enc3 (f : Field) : List UInt8 := putF (UInt64.ofInt f.n) 8 ++ (textF f.s ++ putF f.w 8)
def encs3 (l : List Field) : List UInt8 := l.flatMap enc3
def sameF (f g : Field) : Bool := f.n == g.n && (f.s.toList == g.s.toList && f.w == g.w)
theorem encs3_snoc (l : List Field) (f : Field) : encs3 (l ++ [f]) = encs3 l ++ putF (UInt64.ofInt f.n) 8 ++ textF f.s ++ putF f.w 8 := by simp [encs3, enc3]
theorem enc3_len (f : Field) : (enc3 f).length ≤ 16777236 := by
  have := text_len f.s
  simp only [enc3, List.length_append, putF_len]
  omega
theorem encs3_len : ∀ (l : List Field), (encs3 l).length ≤ l.length * 16777236
  | [] => by simp [encs3]
  | f :: l => by
    have h1 := enc3_len f
    have h2 := encs3_len l
    have e : encs3 (f :: l) = enc3 f ++ encs3 l := by simp [encs3]
    rw [e, List.length_append, List.length_cons, Nat.add_mul]
    omega
/-- All pairs alike. -/
def sameAll : List Field → List Field → Bool
  | f :: l, g :: m => sameF f g && sameAll l m
  | _, _ => true
theorem sameAll_snoc : ∀ {l m : List Field} (f g : Field), l.length = m.length → sameAll (l ++ [f]) (m ++ [g]) = (sameAll l m && sameF f g)
  | [], [], f, g, _ => by simp [sameAll]
  | a :: l, b :: m, f, g, h => by
    simp only [List.cons_append, sameAll, sameAll_snoc f g (Nat.succ.inj h), Bool.and_assoc]

theorem ofInt_inj {a b : Int} (ha : IsInt a) (hb : IsInt b) (h : UInt64.ofInt a = UInt64.ofInt b) : a = b := by
  have h1 := i64of_ofInt a ha.1 ha.2
  have h2 := i64of_ofInt b hb.1 hb.2
  rw [← h1, ← h2, h]
theorem enc3_inj {f g : Field} {a b : List UInt8} (hf : f.ok) (hg : g.ok) (sf : f.s.size ≤ 1048576) (sg : g.s.size ≤ 1048576) (h : enc3 f ++ a = enc3 g ++ b) : sameF f g = true ∧ a = b := by
  have r1 := wide_app (UInt64.ofInt f.n) (textF f.s ++ (putF f.w 8 ++ a))
  have e1 : putF (UInt64.ofInt f.n) 8 ++ (textF f.s ++ (putF f.w 8 ++ a)) = putF (UInt64.ofInt g.n) 8 ++ (textF g.s ++ (putF g.w 8 ++ b)) := by simpa [enc3] using h
  rw [e1, wide_app] at r1
  have n1 := ofInt_inj hg.2.1 hf.2.1 r1
  have e2 : textF f.s ++ (putF f.w 8 ++ a) = textF g.s ++ (putF g.w 8 ++ b) := by
    have h1 := congrArg (List.drop 8) e1
    rwa [List.drop_left' (putF_len _ _), List.drop_left' (putF_len _ _)] at h1
  have r2 := text_app f.s (putF f.w 8 ++ a)
  rw [e2, text_app] at r2
  have t2 := textR_app f.s (putF f.w 8 ++ a)
  rw [e2, textR_app] at t2
  have e3 : putF g.w 8 ++ b = putF f.w 8 ++ a := by injection t2
  have s1 : g.s = f.s := by
    have ef : fitS f.s = f.s := if_neg (by omega)
    have eg : fitS g.s = g.s := if_neg (by omega)
    rw [ef, eg] at r2
    exact ByteArray.ext (Array.ext' r2)
  have r3 := wide_app g.w b
  rw [e3, wide_app] at r3
  have e4 : b = a := by
    have h1 := congrArg (List.drop 8) e3
    rwa [List.drop_left' (putF_len _ _), List.drop_left' (putF_len _ _)] at h1
  exact ⟨by simp [sameF, n1, s1, r3], e4.symm⟩
theorem enc3_same {f g : Field} (h : sameF f g = true) : enc3 f = enc3 g := by
  simp only [sameF, Bool.and_eq_true, beq_iff_eq] at h
  obtain ⟨h1, h2, h3⟩ := h
  rw [ByteArray.toList_eq, ByteArray.toList_eq] at h2
  have hs : f.s = g.s := ByteArray.ext (Array.ext' h2)
  rw [enc3, enc3, h1, hs, h3]
theorem encs3_iff : ∀ {l m : List Field}, l.length = m.length → (∀ f ∈ l, f.ok ∧ f.s.size ≤ 1048576) → (∀ f ∈ m, f.ok ∧ f.s.size ≤ 1048576) → (encs3 l = encs3 m ↔ sameAll l m = true)
  | [], [], _, _, _ => by simp [encs3, sameAll]
  | f :: l, g :: m, hl, h1, h2 => by
    have e1 : encs3 (f :: l) = enc3 f ++ encs3 l := by simp [encs3]
    have e2 : encs3 (g :: m) = enc3 g ++ encs3 m := by simp [encs3]
    have ih := encs3_iff (Nat.succ.inj hl) (fun x hx => h1 x (by simp [hx])) (fun x hx => h2 x (by simp [hx]))
    have hf := h1 f (by simp)
    have hg := h2 g (by simp)
    rw [e1, e2]
    constructor
    · intro h
      obtain ⟨a, b⟩ := enc3_inj hf.1 hg.1 hf.2 hg.2 h
      simp only [sameAll, a, Bool.true_and]
      exact ih.1 b
    · intro h
      simp only [sameAll, Bool.and_eq_true] at h
      rw [enc3_same h.1, ih.2 h.2]
/-- The sealed bytes are alike just where the fields are. -/
theorem apart_iff {l m : List Field} (hl : l.length = m.length) (h1 : ∀ f ∈ l, f.ok ∧ f.s.size ≤ 1048576) (h2 : ∀ f ∈ m, f.ok ∧ f.s.size ≤ 1048576) :
    ((bs (encs3 l ++ putF (sumF (encs3 l)) 8)).toList == (bs (encs3 m ++ putF (sumF (encs3 m)) 8)).toList) = sameAll l m := by
  rw [Bool.eq_iff_iff, ← encs3_iff hl h1 h2, beq_iff_eq, ByteArray.toList_eq, ByteArray.toList_eq, list_bs, list_bs]
  constructor
  · intro h
    have e := congrArg List.length h
    simp only [List.length_append, putF_len] at e
    exact (List.append_inj h (by omega)).1
  · intro h
    rw [h]
end Go.Proofs.Ytifnghjkbdnkmaa
