/- Contracts of package pack. -/
import Derived.Test.YtpaldbejnbcokaaProg
import Derived.Test.YtpaldbejnbcokaaStr
namespace Go.Proofs.Ytpaldbejnbcokaa
open Go.RowKit

/-! ### What the functions come to -/
def getF (l : List UInt8) : UInt64 := l.foldl (fun n x => n <<< 8 ||| x.toUInt64) 0
def sumF (l : List UInt8) : UInt64 := l.foldl (fun s x => (s ^^^ x.toUInt64) * 1099511628211) 14695981039346656037
def byteAt (n : UInt64) (size i : Nat) : UInt8 := UInt8.ofNat (n.toNat / 2 ^ (8 * (size - 1 - i)))
def putF (n : UInt64) (size : Nat) : List UInt8 := (List.range size).map (byteAt n size)

theorem getF_snoc (l : List UInt8) (x : UInt8) : getF (l ++ [x]) = getF l <<< 8 ||| x.toUInt64 := by simp [getF]
theorem sumF_snoc (l : List UInt8) (x : UInt8) : sumF (l ++ [x]) = (sumF l ^^^ x.toUInt64) * 1099511628211 := by simp [sumF]
theorem u64_shl8 (x : UInt64) : IntKind.u64.wrap ((x.toNat : Int) * 256) = ((x <<< 8).toNat : Int) := by
  rw [IntKind.wrap_u64, UInt64.toNat_shiftLeft]
  simp [Nat.shiftLeft_eq]
theorem get_step (n : UInt64) (x : UInt8) : bits .or .u64 (IntKind.u64.wrap ((n.toNat : Int) * 256)) (IntKind.u64.wrap (x.toNat : Int)) = ((n <<< 8 ||| x.toUInt64).toNat : Int) := by
  rw [u64_shl8, u64_wrap_u8, u64_or]

set_option maxHeartbeats 400000 in
theorem pack_get (w : World) (F : Nat → Prop) (v : Value) (l : List UInt8) (h : SliceAt u8R w F l v) :
    Calls Try.prog 89 #[v] w fun e w' => e = .returned (.int .u64 (getF l).toNat) ∧ w = w' := by
  have hlen := h.len
  obtain ⟨A, c, rfl, hc1, hc2⟩ := h.form
  have H := Lib.hid h
  clear h
  go_enter Try.func89, Try.ntmps89
  go_wp2
  go_loop [3, 8, 5] (fun n i _ => ∃ k : Nat, k ≤ l.length ∧ i = .int .i64 k ∧ n = .int .u64 (getF (l.take k)).toNat) (fun _ i _ => l.length - (intOf i).toNat)
  case atStart => exact ⟨0, Nat.zero_le _, rfl, rfl⟩
  case round =>
    obtain ⟨k, hk, rfl, rfl⟩ := hrel
    by_cases hlt : k < l.length
    · obtain ⟨b, off, rfl, hcell⟩ := H.out.get_u8 (List.getElem?_eq_getElem hlt)
      have Hs := Lib.hid (getF_snoc (l.take k) l[k])
      have Ht := Lib.hid (take_snoc (List.getElem?_eq_getElem hlt))
      go_wp2
      go_round
      case rel => exact ⟨k + 1, by omega, by go_num, by rw [Ht.out, Hs.out, ← get_step]⟩
      case measure => simp [intOf]; omega
    · go_wp2
      go_ret
      exact ⟨ret_int (by rw [List.take_of_length_le (by omega)]), rfl⟩

theorem sum_step (n : UInt64) (x : UInt8) : IntKind.u64.wrap (bits .xor .u64 (n.toNat : Int) (IntKind.u64.wrap (x.toNat : Int)) * 1099511628211) = (((n ^^^ x.toUInt64) * 1099511628211).toNat : Int) := by
  rw [u64_wrap_u8, u64_xor, ← u64_mul]
  rfl

set_option maxHeartbeats 400000 in
theorem pack_Sum (w : World) (F : Nat → Prop) (v : Value) (l : List UInt8) (h : SliceAt u8R w F l v) :
    Calls Try.prog 83 #[v] w fun e w' => e = .returned (.int .u64 (sumF l).toNat) ∧ w = w' := by
  have hlen := h.len
  obtain ⟨A, c, rfl, hc1, hc2⟩ := h.form
  have H := Lib.hid h
  clear h
  go_enter Try.func83, Try.ntmps83
  go_wp2
  go_loop [3, 8, 5] (fun n i _ => ∃ k : Nat, k ≤ l.length ∧ i = .int .i64 k ∧ n = .int .u64 (sumF (l.take k)).toNat) (fun _ i _ => l.length - (intOf i).toNat)
  case atStart => exact ⟨0, Nat.zero_le _, rfl, rfl⟩
  case round =>
    obtain ⟨k, hk, rfl, rfl⟩ := hrel
    by_cases hlt : k < l.length
    · obtain ⟨b, off, rfl, hcell⟩ := H.out.get_u8 (List.getElem?_eq_getElem hlt)
      have Hs := Lib.hid (sumF_snoc (l.take k) l[k])
      have Ht := Lib.hid (take_snoc (List.getElem?_eq_getElem hlt))
      go_wp2
      go_round
      case rel => exact ⟨k + 1, by omega, by go_num, by rw [Ht.out, Hs.out, ← sum_step]⟩
      case measure => simp [intOf]; omega
    · go_wp2
      go_ret
      exact ⟨ret_int (by rw [List.take_of_length_le (by omega)]), rfl⟩

theorem Try.el34 : elemB Try.prog 32 5 1 1 = true := by kernel_rfl

theorem byteAt_val (n : UInt64) (s k : Nat) : ((n.toNat : Int) / 2 ^ (8 * (s - 1 - k)) % 256) = ((byteAt n s k).toNat : Int) := by
  unfold byteAt
  rw [UInt8.toNat_ofNat']
  have : ((2 : Int) ^ (8 * (s - 1 - k))) = ((2 ^ (8 * (s - 1 - k)) : Nat) : Int) := by simp
  rw [this]
  omega
theorem putF_get (n : UInt64) (s k : Nat) (h : k < s) : (putF n s)[k]? = some (byteAt n s k) := by simp [putF, h]
theorem putF_len (n : UInt64) (s : Nat) : (putF n s).length = s := by simp [putF]

set_option maxHeartbeats 400000 in
theorem pack_put (w : World) (O : Nat → Prop) (v : Value) (l : List UInt8) (n : UInt64) (s : Nat) (hs : s ≤ 8) (h : OwnAt u8R 5 w No O l v) (hb : l.length + s ≤ 140737488355328) :
    Calls Try.prog 81 #[v, .int .u64 n.toNat, .int .i64 s] w fun e w' => ∃ v', e = .returned v' ∧ OwnAt u8R 5 w' No (Or O w.heap.size) (l ++ putF n s) v' ∧ Kp O w w' := by
  have Hb := Lib.hid hb
  have H := Lib.hid h
  clear h hb
  go_enter Try.func81, Try.ntmps81
  go_wp2
  go_loopw [0, 7, 9] (fun b _ i wr => ∃ k : Nat, k ≤ s ∧ i = .int .i64 k ∧ OwnAt u8R 5 wr No (Or O w.heap.size) (l ++ (putF n s).take k) b ∧ Kp O w wr) (fun _ _ i _ => s - (intOf i).toNat)
  case atStart => exact ⟨0, Nat.zero_le _, rfl, by simpa using H.out.mono fun b _ hb => .inl hb, Kp.refl _ _⟩
  case round =>
    obtain ⟨k, hk, rfl, hown, hkp⟩ := hrel
    have Hown := Lib.hid hown
    have Hkp := Lib.hid hkp
    clear hown hkp
    by_cases hlt : k < s
    · go_wp2_with (at_builtin; (refine wpList_append_rep (R := u8R) (E := No) (O := Or O w.heap.size) (bytes := 1) rfl _ _ rfl Try.el34 (by decide) rfl (Hown.out.alloc _) _ _ _ [byteAt n s k] rfl rfl (Source.one (cs := [_]) (congrArg (fun z => [Value.int .u8 z]) (byteAt_val n s k))) ?_ ?_ ?_ ?_ ?_); (· exact fun b hb => hb.elim); (· exact fun b hb => .inr (by have := Hkp.out.size; simp at hb; omega)); (· (have := Hb.out; simp; omega)); (· (have := Hb.out; simp; omega)); (intro b' w1 hown1 hkp1 hat1))
      go_roundw
      case rel => exact ⟨k + 1, by omega, by go_num, by rw [take_snoc (putF_get n s k hlt), ← List.append_assoc]; exact hown1, (Hkp.out.alloc _).trans2 hkp1 fun g hg hb => (Hown.out.own hb).resolve_right (by omega)⟩
      case measure => simp [intOf]; omega
    · go_wp2
      go_ret
      refine ⟨_, rfl, ?_, Hkp.out⟩
      have := Hown.out
      rwa [List.take_of_length_le (by rw [putF_len]; omega)] at this
end Go.Proofs.Ytpaldbejnbcokaa
