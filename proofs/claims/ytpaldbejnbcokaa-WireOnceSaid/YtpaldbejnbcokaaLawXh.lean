/- What law21's text has written: the plain side. -/
import Derived.Test.YtpaldbejnbcokaaLawT
import Derived.Test.YtpaldbejnbcokaaSec
namespace Go.Proofs.Ytpaldbejnbcokaa
open Go.RowKit

/-- What text has written so far. -/
def TxSo (w wr : World) (ok okS : Bool) (L LS : List UInt8) (M : Nat) : Prop := ok = okS ∧ (ok = true → L = LS) ∧ L.length ≤ M ∧ Kp No w wr
/-- What text hands back. -/
def TxtOut (w w' : World) (c : Cfg) (e : Ending) : Prop :=
  ∃ L, e = .returned (.tuple #[.string (bs L), .bool c.fit]) ∧ (c.fit = true → L = enc8 c.words) ∧ L.length ≤ 2000000000 ∧ Kp No w w'
def portsW' (l : List (List Pt)) : List UInt64 := itemsW portsW l
def ok0 (c : Cfg) : Bool := decide (c.ports.length ≤ 200) && decide (c.peers.length ≤ 200) && decide (c.ways.length ≤ 200) && decide (c.tables.length ≤ 200)
theorem ok0_all {c : Cfg} (h : true = ok0 c) : c.ports.length ≤ 200 ∧ c.peers.length ≤ 200 ∧ c.ways.length ≤ 200 ∧ c.tables.length ≤ 200 := by
  unfold ok0 at h
  simp only [Bool.true_eq, Bool.and_eq_true, decide_eq_true_eq] at h
  exact ⟨h.1.1.1, h.1.1.2, h.1.2, h.2⟩
theorem flat_le {α : Type} {f : α → List UInt64} {n : Nat} (hf : ∀ x, (f x).length = n) (l : List α) : (enc8 (l.flatMap f)).length = l.length * (8 * n) := by
  rw [enc8_len]
  induction l with
  | nil => simp
  | cons x l ih => rw [List.flatMap_cons, List.length_append, hf, List.length_cons, Nat.mul_add, ih, Nat.add_mul, Nat.one_mul, Nat.add_comm]
/-- A stage begins: an item's count is written. -/
theorem TxSo.count {w wr w1 : World} {ok okS : Bool} {L LS : List UInt8} {M m : Nat} {ws : List UInt64} (h : TxSo w wr ok okS L LS M) (hk : Kp No wr w1) (hm : 8 * ws.length ≤ m) : TxSo w w1 ok okS (L ++ enc8 ws) (LS ++ enc8 ws) (M + m) :=
  ⟨h.1, fun e => by rw [h.2.1 e], by rw [List.length_append, enc8_len]; have := h.2.2.1; omega, h.2.2.2.trans hk⟩
theorem TxSo.of {w wr : World} {ok okS okT : Bool} {L LS LT : List UInt8} {M N : Nat} (h : TxSo w wr ok okS L LS M) (h1 : okS = okT) (h2 : LS = LT) (h3 : M ≤ N) : TxSo w wr ok okT L LT N := by
  subst h1 h2
  exact ⟨h.1, h.2.1, Nat.le_trans h.2.2.1 h3, h.2.2.2⟩
/-- An item more of plain ones: nothing turns but what is written. -/
theorem TxSo.item {α : Type} {f : α → List UInt64} {n : Nat} (hf : ∀ x, (f x).length = n) {w wr w1 : World} {okS : Bool} {L LS LL : List UInt8} {M k : Nat} {xs : List α} {x : α} (h : TxSo w wr true okS L (LS ++ enc8 ((xs.take k).flatMap f)) (M + k * (8 * n))) (hx : xs[k]? = some x) (hL : LL = L ++ enc8 (f x)) (hk : Kp No wr w1) :
    TxSo w w1 true okS LL (LS ++ enc8 ((xs.take (k + 1)).flatMap f)) (M + (k + 1) * (8 * n)) := by
  refine ⟨h.1, fun e => ?_, ?_, h.2.2.2.trans hk⟩
  · rw [hL, h.2.1 e, take_snoc hx, List.flatMap_append, enc8_append, List.append_assoc]
    simp
  · rw [hL, List.length_append, enc8_len, hf, Nat.add_mul]
    have := h.2.2.1
    omega
/-- The end of a loop over plain items. -/
theorem TxSo.done {α : Type} {f : α → List UInt64} {n : Nat} {w wr : World} {ok okS : Bool} {L LS LT : List UInt8} {M N k : Nat} {xs : List α} (h : TxSo w wr ok okS L (LS ++ enc8 ((xs.take k).flatMap f)) (M + k * (8 * n))) (hk : ok = true → k = xs.length) (h2 : k ≤ 200) (hT : LS ++ enc8 (xs.flatMap f) = LT) (hN : M + 200 * (8 * n) ≤ N) : TxSo w wr ok okS L LT N := by
  have h3 : k * (8 * n) ≤ 200 * (8 * n) := Nat.mul_le_mul_right _ h2
  refine ⟨h.1, fun e => ?_, Nat.le_trans h.2.2.1 (by omega), h.2.2.2⟩
  rw [h.2.1 e, hk e, List.take_of_length_le (Nat.le_refl _), hT]
theorem ok0_lt {c : Cfg} {b : Bool} (h : true = (ok0 c && b)) : c.ports.length ≤ 200 ∧ c.peers.length ≤ 200 ∧ c.ways.length ≤ 200 ∧ c.tables.length ≤ 200 ∧ b = true := by
  have h' := h.symm
  rw [Bool.and_eq_true] at h'
  exact ⟨(ok0_all h'.1.symm).1, (ok0_all h'.1.symm).2.1, (ok0_all h'.1.symm).2.2.1, (ok0_all h'.1.symm).2.2.2, h'.2⟩
theorem flat5 (l : List Pt) : (enc8 (l.flatMap Pt.words)).length = l.length * 40 := flat_le (n := 5) (fun _ => rfl) l
theorem port_round {c : Cfg} {w wr w1 : World} {ys : List Pt} {k j : Nat} {L LL : List UInt8} {ok : Bool} (hx : c.ports[k]? = some ys) (h : TxSo w wr true (ok0 c && (c.ports.take k).all portsFit) L (enc8 (UInt64.ofNat c.ports.length :: (c.ports.take k).flatMap portsW)) (8 + k * 10000))
    (hok : ok = decide (ys.length ≤ 200)) (hj : ok = true → j = ys.length) (hj2 : j ≤ 200) (hL : LL = L ++ (putF (UInt64.ofNat ys.length) 8 ++ enc8 ((ys.take j).flatMap Pt.words))) (hk : Kp No wr w1) :
    TxSo w w1 ok (ok0 c && (c.ports.take (k + 1)).all portsFit) LL (enc8 (UInt64.ofNat c.ports.length :: (c.ports.take (k + 1)).flatMap portsW)) (8 + (k + 1) * 10000) := by
  have ht := take_snoc hx
  have hr : portsFit ys = decide (ys.length ≤ 200) := by
    have : ys.all yes = true := List.all_eq_true.2 fun _ _ => rfl
    rw [portsFit, fitL, this, Bool.and_true]
  obtain ⟨h1, h2, h3, h4⟩ := h
  refine ⟨?_, fun e => ?_, ?_, h4.trans hk⟩
  · rw [ht, List.all_append, List.all_cons, List.all_nil, Bool.and_true, hr, ← hok, ← Bool.and_assoc, ← h1, Bool.true_and]
  · rw [hL, h2 rfl, ht, List.flatMap_append, hj e, List.take_of_length_le (Nat.le_refl _)]
    simp only [List.flatMap_cons, List.flatMap_nil, List.append_nil, enc8_cons, enc8_append, portsW, itemsW, List.append_assoc]
  · rw [hL, List.length_append, List.length_append, putF_len, flat5]
    have := List.length_take_le j ys
    have : (ys.take j).length * 40 ≤ 200 * 40 := Nat.mul_le_mul_right _ (by omega)
    rw [Nat.add_mul]
    omega
theorem TxSo.portsDone {c : Cfg} {w wr : World} {ok : Bool} {L : List UInt8} {k : Nat} (h : TxSo w wr ok (ok0 c && (c.ports.take k).all portsFit) L (enc8 (UInt64.ofNat c.ports.length :: (c.ports.take k).flatMap portsW)) (8 + k * 10000)) (hk : k ≤ c.ports.length) (h0 : ok0 c = false → k = 0) (hx : ok = true → k = c.ports.length) :
    TxSo w wr ok (ok0 c && c.ports.all portsFit) L (enc8 (portsW' c.ports)) 3000000 := by
  obtain ⟨h1, h2, h3, h4⟩ := h
  refine ⟨?_, fun e => ?_, ?_, h4⟩
  · cases hok : ok with
    | true =>
      rw [hok, hx hok, List.take_of_length_le (Nat.le_refl _)] at h1
      exact h1
    | false =>
      rw [hok] at h1
      cases hz : ok0 c with
      | false => rfl
      | true =>
        rw [hz, Bool.true_and] at h1
        have : c.ports.all portsFit = false := by
          rw [Bool.eq_false_iff]
          intro ha
          have : (c.ports.take k).all portsFit = true := List.all_eq_true.2 fun y hy => List.all_eq_true.1 ha y (List.mem_of_mem_take hy)
          rw [this] at h1
          cases h1
        rw [this]; rfl
  · rw [h2 e, hx e, List.take_of_length_le (Nat.le_refl _)]
    rfl
  · cases hz : ok0 c with
    | false => rw [h0 hz] at h3; omega
    | true =>
      have := (ok0_all hz.symm).1
      omega
theorem port_step {L LL T4 : List UInt8} {ys : List Pt} {x : Pt} {j m : Nat} (hT : T4 = LL ++ enc8 x.words) (hL : LL = L ++ (putF (UInt64.ofNat m) 8 ++ enc8 ((ys.take j).flatMap Pt.words))) (hx : ys[j]? = some x) :
    T4 = L ++ (putF (UInt64.ofNat m) 8 ++ enc8 ((ys.take (j + 1)).flatMap Pt.words)) := by
  rw [hT, hL, take_snoc hx, List.flatMap_append, enc8_append, List.append_assoc, List.append_assoc]
  simp
theorem tx_more {L LL : List UInt8} {y : List UInt64} {z : List UInt64} (h : LL = L ++ enc8 y) (k : L = enc8 z) : LL = enc8 (z ++ y) := by rw [h, k, enc8_append]
end Go.Proofs.Ytpaldbejnbcokaa
