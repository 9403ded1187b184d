/- Contracts of the reference of layer 4. -/
import Derived.Test.YtpaldbejnbcokaaPackD
namespace Go.Proofs.Ytpaldbejnbcokaa
open Go.RowKit

theorem run_make_u8 (n : Nat) (hn : n ≤ 8) (w : World) : (Instr.makeSlice 32 (.int .i64 (n : Int)) (.int .i64 (n : Int))).run Try.prog w = .ok (.slice (some ⟨w.heap.size, 0, none⟩) n n) (w.alloc (.cells (madeCells #[.int .u8 0] n) 5)) := by
  obtain ⟨ht, i, z, hi, hz, hs, hby, hzs⟩ := elem_parts Try.el34
  obtain rfl : z = .int .u8 0 := by
    have hz0 := Try.u8zero
    rw [hi] at hz0
    exact Option.some.inj (hz.symm.trans hz0)
  have hr := run_make (P := Try.prog) w 32 5 i _ ht hi hz .i64 .i64 n n (by omega) (by omega) (by rw [hby]; omega) (by omega)
  simpa [hs, Value.cells] using hr

/-- The last bytes are laid. -/
def BigAt (w wr : World) (n : UInt64) (s k : Nat) : Prop :=
  ∃ cs : Array Value, wr.heap[w.heap.size]? = some (.cells cs 5 (0, 0)) ∧ cs.size = s ∧ (∀ j, k ≤ j → j < s → cs[j]? = some (.int .u8 (byteAt n s j).toNat)) ∧ Kp No w wr

theorem big_step (n : UInt64) (s k : Nat) (hk : k < s) : ((n.toNat / 256 ^ (s - (k + 1)) : Nat) : Int) % 256 = ((byteAt n s k).toNat : Int) := by
  unfold byteAt
  rw [UInt8.toNat_ofNat', show s - 1 - k = s - (k + 1) by omega, Nat.pow_mul, show (2 ^ 8 : Nat) = 256 from rfl]
  omega
theorem big_next (n s k : Nat) (hk : k < s) : ((n / 256 ^ (s - (k + 1)) : Nat) : Int) / 256 = ((n / 256 ^ (s - k) : Nat) : Int) := by
  rw [show s - k = s - (k + 1) + 1 by omega, Nat.pow_succ, ← Nat.div_div_eq_div_mul]
  omega

set_option maxHeartbeats 400000 in
theorem ref_Big (w : World) (n : UInt64) (s : Nat) (hs : s ≤ 8) :
    Calls Try.prog 37 #[.int .u64 n.toNat, .int .i64 s] w fun e w' => e = .returned (.string (bs (putF n s))) ∧ Kp No w w' := by
  have hmk := run_make_u8 s hs
  go_enter Try.func37, Try.ntmps37
  go_wp2
  clear hmk
  go_loopw [0, 6] (fun m i wr => ∃ k : Nat, k ≤ s ∧ i = .int .i64 ((k : Int) - 1) ∧ m = .int .u64 ((n.toNat / 256 ^ (s - k) : Nat) : Int) ∧ BigAt w wr n s k) (fun _ i _ => (intOf i + 1).toNat)
  case atStart => exact ⟨s, Nat.le_refl _, rfl, by simp, _, heap_alloc_new w _, by simp [madeCells], fun j h1 h2 => absurd h1 (by omega), (Kp.refl _ w).alloc _⟩
  case round =>
    obtain ⟨k, hk, rfl, rfl, hbig⟩ := hrel
    obtain ⟨cs, hh, hcs, hdone, hkp⟩ := hbig
    have Hh := Lib.hid hh
    have Hd := Lib.hid hdone
    have Hkp := Lib.hid hkp
    have Hcs := Lib.hid hcs
    by_cases hlt : 0 < k
    · obtain ⟨j, rfl⟩ : ∃ j, k = j + 1 := ⟨k - 1, by omega⟩
      obtain ⟨u, hc⟩ : ∃ u, wr.cell? ⟨w.heap.size, j, none⟩ = some u := ⟨cs[j]'(by omega), by rw [cell_of_row wr w.heap.size j _ _ _ hh]; exact Array.getElem?_eq_getElem (by omega)⟩
      have hf : wr.frozen? ⟨w.heap.size, j, none⟩ = false := by simp [World.frozen?, hh]
      have Hs1 := Lib.hid (big_step n s j (by omega))
      have Hs2 := Lib.hid (big_next n.toNat s j (by omega))
      have q1 : (j : Int) < (s : Int) := by omega
      clear hh hdone hkp hcs
      obtain ⟨q, hq⟩ : ∃ q : Nat, q = n.toNat / 256 ^ (s - (j + 1)) := ⟨_, rfl⟩
      rw [← hq]
      rw [← hq] at Hs1 Hs2
      have hq1 : q < 18446744073709551616 := by have := u64_lt n; rw [hq]; exact Nat.lt_of_le_of_lt (Nat.div_le_self _ _) this
      have Hq := Lib.hid hq
      clear hq
      go_wp2
      refine ⟨⟨j, by omega, rfl, by rw [Hs2.out], _, heap_setCell_same _ _ _ _ _ _ Hh.out, by rw [Array.size_setIfInBounds, Hcs.out], fun i h1 h2 => ?_, Hkp.out.setCell (p := ⟨w.heap.size, j, none⟩) (.inr (Nat.le_refl _)) _⟩, by simp [intOf]⟩
      rw [Array.getElem?_setIfInBounds]
      split
      · rename_i e
        subst e
        rw [if_pos (by rw [Hcs.out]; omega), Hs1.out]
      · exact Hd.out i (by omega) h2
    · obtain rfl : k = 0 := by omega
      clear hh hdone hkp hcs
      have hcv := run_conv_str (w := wr) (F := From w.heap.size) (l := putF n s) (v := .slice (some ⟨w.heap.size, 0, none⟩) s s) Try.underlying32 Try.underlying5 Try.underlying9 (by
        refine ⟨_, s, by rw [putF_len], by rw [putF_len]; exact Nat.le_refl _, by unfold maxLen; omega, fun _ => ⟨w.heap.size, 0, rfl, Nat.le_refl _, (Array.getElem?_eq_some_iff.1 Hh.out).1, _, all2_u8 _ _ _, fun j u hu => ?_⟩⟩
        rw [Nat.zero_add, cell_of_row wr w.heap.size j _ _ _ Hh.out]
        have hj : j < s := by
          have := (List.getElem?_eq_some_iff.1 hu).1
          simpa [putF_len] using this
        rw [Hd.out j (by omega) hj]
        rw [List.getElem?_map, putF_get n s j hj] at hu
        exact hu)
      go_wp2
      go_ret
      exact ⟨rfl, Hkp.out⟩

set_option maxHeartbeats 400000 in
theorem ref_Sum (w : World) (s : ByteArray) (hs : s.size ≤ 9223372036854775807) :
    Calls Try.prog 38 #[.string s] w fun e w' => e = .returned (.int .u64 (sumF s.data.toList).toNat) ∧ w = w' := by
  have hsl := size_list s
  have Hsl := Lib.hid hsl
  clear hsl
  go_enter Try.func38, Try.ntmps38
  go_wp2
  go_loop [3, 4] (fun n i => ∃ k : Nat, k ≤ s.size ∧ i = .int .i64 k ∧ n = .int .u64 (sumF (s.data.toList.take k)).toNat) (fun _ i => s.size - (intOf i).toNat)
  case atStart => exact ⟨0, Nat.zero_le _, rfl, rfl⟩
  case round =>
    obtain ⟨k, hk, rfl, rfl⟩ := hrel
    by_cases hlt : k < s.size
    · have hg : s.data.toList[k]? = some s[k] := by
        rw [List.getElem?_eq_getElem (by rw [← Hsl.out]; exact hlt)]
        rfl
      have Hs := Lib.hid (sumF_snoc (s.data.toList.take k) s[k])
      have Ht := Lib.hid (take_snoc hg)
      clear hg
      go_wp2
      go_round
      case rel => exact ⟨k + 1, by omega, by go_num, by rw [Ht.out, Hs.out, ← sum_step]⟩
      case measure => simp [intOf]; omega
    · go_wp2
      go_ret
      exact ⟨ret_int (by rw [List.take_of_length_le (by have := Hsl.out; omega)]), rfl⟩

theorem number_step (n : UInt64) (x : UInt8) (k : Nat) (hn : n.toNat < 256 ^ k) (hk : k < 8) : IntKind.u64.wrap (IntKind.u64.wrap ((n.toNat : Int) * 256) + IntKind.u64.wrap (x.toNat : Int)) = ((n <<< 8 ||| x.toUInt64).toNat : Int) := by
  rw [u64_shl8, u64_wrap_u8, u64_add]
  congr 1
  have hx := u8_lt x
  have hp : 256 ^ k ≤ 256 ^ 7 := Nat.pow_le_pow_right (by omega) (by omega)
  rw [UInt64.toNat_or, UInt64.toNat_add, UInt64.toNat_shiftLeft, UInt8.toNat_toUInt64]
  have e1 : (n.toNat <<< ((8 : UInt64).toNat % 64)) % 2 ^ 64 = n.toNat * 256 := by
    simp [Nat.shiftLeft_eq]
    omega
  rw [e1, nat_join 8 (n.toNat * 256) x.toNat (by omega) hx]
  omega

def sealF (s : ByteArray) : ByteArray := s ++ bs (putF (sumF s.data.toList) 8)
set_option maxHeartbeats 400000 in
theorem ref_Sealed (w : World) (s : ByteArray) (hs : s.size + 8 ≤ 9223372036854775807) :
    Calls Try.prog 14 #[.string s] w fun e w' => e = .returned (.string (sealF s)) ∧ Kp No w w' := by
  have hb : s.size + (bs (putF (sumF s.data.toList) 8)).size ≤ 9223372036854775807 := by rw [bs_size, putF_len]; exact hs
  go_enter Try.func14, Try.ntmps14
  go_wp2_with fail
  refine (ref_Sum _ s (by omega)).mono ?_
  rintro e w' ⟨rfl, rfl⟩
  go_wp2_with fail
  refine (ref_Big _ _ 8 (by omega)).mono ?_
  rintro e w1 ⟨rfl, hk⟩
  have Hk := Lib.hid hk
  clear hk
  go_wp2
  go_ret
  exact ⟨rfl, Hk.out⟩

def textB (s : ByteArray) : ByteArray := bs (putF (UInt64.ofNat (fitS s).size) 4) ++ fitS s
theorem textB_list (s : ByteArray) : (textB s).data.toList = textF s := by simp [textB, textF, bs, ByteArray.data_append]
theorem ref_Big' (w : World) (n : UInt64) (m : Int) (hm : m = n.toNat) (s : Nat) (hs : s ≤ 8) :
    Calls Try.prog 37 #[.int .u64 m, .int .i64 s] w fun e w' => e = .returned (.string (bs (putF n s))) ∧ Kp No w w' := by
  rw [hm]
  exact ref_Big w n s hs
/-! ### The reference's Reader -/
theorem bs_take (l : List UInt8) (n : Nat) : (bs l).extract 0 n = bs (l.take n) := by
  apply ByteArray.ext
  simp [bs, ByteArray.data_extract]
theorem bs_drop (l : List UInt8) (n : Nat) : (bs l).extract n l.length = bs (l.drop n) := by
  apply ByteArray.ext
  apply Array.ext'
  simp [bs, ByteArray.data_extract]
  exact List.take_of_length_le (by simp)

theorem take_rest (r : Rd) (n : Nat) : (r.take n).2.rest.length ≤ r.rest.length := by
  unfold Rd.take
  split
  · split <;> simp
  · exact Nat.le_refl _
theorem textR_rest (r : Rd) : r.textR.rest.length ≤ r.rest.length := Nat.le_trans (take_rest _ _) (take_rest _ _)

end Go.Proofs.Ytpaldbejnbcokaa
