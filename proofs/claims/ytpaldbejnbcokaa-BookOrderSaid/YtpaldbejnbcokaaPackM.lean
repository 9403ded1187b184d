/- Plain facts on bytes and numbers. -/
import Derived.Test.YtpaldbejnbcokaaPackRef
namespace Go.Proofs.Ytpaldbejnbcokaa
open Go.RowKit

def valN (l : List UInt8) : Nat := l.foldl (fun a x => a * 256 + x.toNat) 0
theorem valN_snoc (l : List UInt8) (x : UInt8) : valN (l ++ [x]) = valN l * 256 + x.toNat := by simp [valN]
theorem snoc_cases {α : Type} (l : List α) : l = [] ∨ ∃ m x, l = m ++ [x] := by
  rcases List.eq_nil_or_concat l with h | ⟨m, x, h⟩
  · exact .inl h
  · exact .inr ⟨m, x, by simpa using h⟩
theorem valN_lt : ∀ (n : Nat) (l : List UInt8), l.length = n → valN l < 256 ^ n := by
  intro n
  induction n with
  | zero => intro l h; have := List.eq_nil_of_length_eq_zero h; subst this; simp [valN]
  | succ n ih =>
    intro l h
    rcases snoc_cases l with rfl | ⟨m, x, rfl⟩
    · simp at h
    · have := ih m (by simpa using h)
      have hx := u8_lt x
      rw [valN_snoc, Nat.pow_succ]
      omega
theorem getF_val : ∀ (n : Nat) (l : List UInt8), l.length = n → n ≤ 8 → (getF l).toNat = valN l := by
  intro n
  induction n with
  | zero => intro l h _; have := List.eq_nil_of_length_eq_zero h; subst this; rfl
  | succ n ih =>
    intro l h h8
    rcases snoc_cases l with rfl | ⟨m, x, rfl⟩
    · simp at h
    · have hm := ih m (by simpa using h) (by omega)
      have hlt := valN_lt n m (by simpa using h)
      have hx := u8_lt x
      have hp : 256 ^ n ≤ 256 ^ 7 := Nat.pow_le_pow_right (by omega) (by omega)
      rw [valN_snoc, getF_snoc, UInt64.toNat_or, UInt64.toNat_shiftLeft, UInt8.toNat_toUInt64, hm]
      have e1 : (valN m <<< ((8 : UInt64).toNat % 64)) % 2 ^ 64 = valN m * 256 := by
        simp [Nat.shiftLeft_eq]
        omega
      rw [e1, nat_join 8 (valN m * 256) x.toNat (by omega) hx]
theorem valN_inj : ∀ (n : Nat) (a b : List UInt8), a.length = n → b.length = n → valN a = valN b → a = b := by
  intro n
  induction n with
  | zero => intro a b ha hb _; rw [List.eq_nil_of_length_eq_zero ha, List.eq_nil_of_length_eq_zero hb]
  | succ n ih =>
    intro a b ha hb h
    rcases snoc_cases a with rfl | ⟨m, x, rfl⟩
    · simp at ha
    rcases snoc_cases b with rfl | ⟨m', x', rfl⟩
    · simp at hb
    have hx := u8_lt x
    have hx' := u8_lt x'
    rw [valN_snoc, valN_snoc] at h
    have e1 := ih m m' (by simpa using ha) (by simpa using hb) (by omega)
    have e2 : x.toNat = x'.toNat := by omega
    rw [e1, UInt8.toNat_inj.1 e2]
def putN (n s : Nat) : List UInt8 := (List.range s).map fun i => UInt8.ofNat (n / 2 ^ (8 * (s - 1 - i)))
theorem putF_putN (n : UInt64) (s : Nat) : putF n s = putN n.toNat s := rfl
theorem putN_succ (n s : Nat) : putN n (s + 1) = putN (n / 256) s ++ [UInt8.ofNat n] := by
  unfold putN
  rw [List.range_succ, List.map_append]
  congr 1
  · refine List.map_congr_left fun i hi => ?_
    have hi : i < s := List.mem_range.1 hi
    rw [Nat.div_div_eq_div_mul, show (256 : Nat) = 2 ^ 8 from rfl, ← Nat.pow_add]
    congr 3
    omega
  · simp
theorem valN_putN : ∀ (s n : Nat), valN (putN n s) = n % 256 ^ s := by
  intro s
  induction s with
  | zero => intro n; simp [putN, valN, Nat.mod_one]
  | succ s ih =>
    intro n
    have h : n % 256 ^ (s + 1) = n % 256 + 256 * (n / 256 % 256 ^ s) := by rw [Nat.pow_succ, Nat.mul_comm, Nat.mod_mul]
    rw [putN_succ, valN_snoc, ih, UInt8.toNat_ofNat', h]
    omega
theorem getF_putF (n : UInt64) : getF (putF n 8) = n := by
  refine UInt64.toNat_inj.1 ?_
  rw [getF_val 8 _ (putF_len n 8) (by omega), putF_putN, valN_putN]
  have := u64_lt n
  omega
theorem getF_put4 (n : UInt64) (h : n.toNat < 4294967296) : getF (putF n 4) = n := by
  refine UInt64.toNat_inj.1 ?_
  rw [getF_val 4 _ (putF_len n 4) (by omega), putF_putN, valN_putN]
  omega
theorem putF_getF (l : List UInt8) (h : l.length = 8) : putF (getF l) 8 = l := by
  refine valN_inj 8 _ _ (putF_len _ _) h ?_
  rw [putF_putN, valN_putN, getF_val 8 l h (by omega)]
  exact Nat.mod_eq_of_lt (valN_lt 8 l h)
theorem putF_inj {a b : UInt64} (h : putF a 8 = putF b 8) : a = b := by rw [← getF_putF a, h, getF_putF]

/-- A text is sealed just where its last eight bytes are its sum. -/
theorem seal_iff (s : ByteArray) (h : 8 ≤ s.size) : sealF (s.extract 0 (s.size - 8)) = s ↔ getF (s.data.toList.drop (s.size - 8)) = sumF (s.data.toList.take (s.size - 8)) := by
  have hl := size_list s
  have e0 : (s.extract 0 (s.size - 8)).data.toList = s.data.toList.take (s.size - 8) := by simp [ByteArray.data_extract]
  have hlen : (s.data.toList.drop (s.size - 8)).length = 8 := by rw [List.length_drop]; omega
  constructor
  · intro hs
    have h1 := congrArg (fun s => s.data.toList) hs
    simp only [sealF, ByteArray.data_append, Array.toList_append, e0, list_bs] at h1
    have h2 : putF (sumF (s.data.toList.take (s.size - 8))) 8 = s.data.toList.drop (s.size - 8) := by
      have h3 := congrArg (List.drop (s.size - 8)) h1
      rwa [List.drop_left' (by rw [List.length_take]; omega)] at h3
    rw [← h2, getF_putF]
  · intro hg
    apply ByteArray.ext
    apply Array.ext'
    simp only [sealF, ByteArray.data_append, Array.toList_append, e0, list_bs]
    rw [← hg, putF_getF _ hlen, List.take_append_drop]

theorem toList_ne {a b : ByteArray} (h : ¬ a = b) : (a.toList == b.toList) = false := by
  rw [beq_eq_false_iff_ne]
  intro e
  rw [ByteArray.toList_eq, ByteArray.toList_eq] at e
  exact h (ByteArray.ext (Array.ext' e))
theorem toList_same {a b : ByteArray} (h : a = b) : (a.toList == b.toList) = true := by rw [h]; simp

end Go.Proofs.Ytpaldbejnbcokaa
