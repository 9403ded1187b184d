/- Contracts of package pack: Read; a nil Writer, a nil Reader. -/
import Derived.Test.YtpaldbejnbcokaaPackR
namespace Go.Proofs.Ytpaldbejnbcokaa
open Go.RowKit

/-- What Read makes of bytes. -/
def readF (l : List UInt8) : Rd :=
  if l.length < 8 then ⟨[], 3⟩ else if getF (l.drop (l.length - 8)) = sumF (l.take (l.length - 8)) then ⟨l.take (l.length - 8), 0⟩ else ⟨[], 2⟩

theorem readerAt_new {w : World} {v : Value} {r : Rd} {B : Nat} (hB : B ≤ w.heap.size) (h : SliceAt u8R w (From B) r.rest v) :
    ReaderAt (w.alloc (.cells #[v, .int .i64 r.e] 169)) (From B) r w.heap.size := by
  obtain ⟨A, c, rfl, h1, h2, h3⟩ := h
  refine ⟨hB, _, heap_alloc_new w _, A, c, rfl, h1, h2, fun hp => ?_⟩
  obtain ⟨b, off, rfl, hb, hlt, cells, ha, hc⟩ := h3 hp
  refine ⟨b, off, rfl, ⟨hb, by omega⟩, by simp; omega, cells, ha.mono fun x c h => h, fun j u hu => ?_⟩
  exact ((Kp.refl No w).alloc _).cell (hc j u hu) (not_no _)

set_option maxHeartbeats 400000 in
theorem pack_Read (w : World) (F : Nat → Prop) (v : Value) (l : List UInt8) (h : SliceAt u8R w F l v) (hb : l.length ≤ 140737488355328) :
    Calls Try.prog 68 #[v] w fun e w' => ∃ p, e = .returned (.pointer (some ⟨p, 0, none⟩)) ∧ ReaderAt w' (From w.heap.size) (readF l) p ∧ Kp No w w' := by
  obtain ⟨A, m, c, rfl, hm, hc1, hc2⟩ := h.form'
  have H := Lib.hid h
  have Hb := Lib.hid hb
  clear h hb
  by_cases hs : m < 8
  · have hr : Hid (readF l = ⟨[], 3⟩) := Lib.hid (if_pos (by rw [← hm.out]; exact hs))
    go_enter Try.func68, Try.ntmps68
    go_wp2
    go_ret
    rw [hr.out]
    exact ⟨_, rfl, readerAt_new (r := ⟨[], 3⟩) (Nat.le_refl _) (SliceAt.nil _ _ _), (Kp.refl _ _).alloc _⟩
  · obtain ⟨k, rfl⟩ : ∃ k, m = k + 8 := ⟨m - 8, by omega⟩
    have hck : ¬ c = k := by omega
    have hl8 : l.length - 8 = k := by rw [← hm.out]; omega
    have hd : Hid (SliceAt u8R w F (l.drop k) (.slice (A.map fun x => x.add k) 8 (c - k))) := by
      have := H.out.drop (k := k) (q := k) (by omega) (by simp [u8R, Rep.plain])
      rwa [show k + 8 - k = 8 by omega] at this
    have ht : Hid (SliceAt u8R w F (l.take k) (.slice A k c)) := H.out.take (by omega)
    have hr : Hid (readF l = if getF (l.drop k) = sumF (l.take k) then ⟨l.take k, 0⟩ else ⟨[], 2⟩) := by
      show readF l = _
      rw [readF, if_neg (by rw [← hm.out]; omega), hl8]
    clear hl8
    have q1 : (0 : Int) ≤ (k : Int) := by omega
    have q2 : (k : Int) ≤ (k : Int) + 8 := by omega
    have q3 : k ≤ c := by omega
    by_cases hg : getF (l.drop k) = sumF (l.take k)
    · have hg' : (((getF (l.drop k)).toNat : Int) != ((sumF (l.take k)).toNat : Int)) = false := by rw [hg]; simp
      rw [if_pos hg] at hr
      clear hg
      go_enter Try.func68, Try.ntmps68
      go_wp2_with fail
      go_region_held3 (fun w' => Hid (Kp No w w')) (first | exact Lib.hid (Kp.refl _ _).drew | assumption)
        (first
          | (go_at_call 89; refine (pack_get _ F _ _ (hd.out.kp (Hid.out (p := Kp No w _) (by assumption)) (fun _ _ => id))).mono ?_; rintro e w' ⟨rfl, rfl⟩)
          | (go_at_call 83; refine (pack_Sum _ F _ _ (ht.out.kp (Hid.out (p := Kp No w _) (by assumption)) (fun _ _ => id))).mono ?_; rintro e w' ⟨rfl, rfl⟩))
      go_wp2_with fail
      refine (bytes_Clone _ F _ _ (ht.out.kp ((Kp.refl No w).drew) (fun _ _ => id)) (by have := Hb.out; simp; omega)).mono ?_
      rintro e w1 ⟨v1, rfl, ho1, hk1⟩
      obtain ⟨A1, m1, c1, rfl, _, _, _⟩ := ho1.form'
      have Ho1 := Lib.hid ho1
      have Hk1 := Lib.hid hk1
      clear ho1 hk1
      go_wp2
      go_ret
      rw [hr]
      refine ⟨_, rfl, readerAt_new (r := ⟨l.take k, 0⟩) Hk1.out.size (Ho1.out.slice.mono fun b _ hb => hb.elim (fun h => h.elim) id), (((Kp.refl No w).drew).trans Hk1.out).alloc _⟩
    · have hg' : (((getF (l.drop k)).toNat : Int) != ((sumF (l.take k)).toNat : Int)) = true := by
        simp only [bne_iff_ne, ne_eq, Int.natCast_inj]
        exact fun h => hg (UInt64.toNat_inj.1 h)
      rw [if_neg hg] at hr
      clear hg
      go_enter Try.func68, Try.ntmps68
      go_wp2_with fail
      go_region_held3 (fun w' => Hid (Kp No w w')) (first | exact Lib.hid (Kp.refl _ _).drew | assumption)
        (first
          | (go_at_call 89; refine (pack_get _ F _ _ (hd.out.kp (Hid.out (p := Kp No w _) (by assumption)) (fun _ _ => id))).mono ?_; rintro e w' ⟨rfl, rfl⟩)
          | (go_at_call 83; refine (pack_Sum _ F _ _ (ht.out.kp (Hid.out (p := Kp No w _) (by assumption)) (fun _ _ => id))).mono ?_; rintro e w' ⟨rfl, rfl⟩))
      go_wp2
      go_ret
      rw [hr]
      exact ⟨_, rfl, readerAt_new (w := w.drew) (r := ⟨[], 2⟩) (Nat.le_refl _) (SliceAt.nil _ _ _), ((Kp.refl No w).drew).alloc _⟩

/-! ### nil -/
set_option maxHeartbeats 400000 in
theorem Writer_Wide_nil (w : World) (n : Int) : Calls Try.prog 96 #[.pointer none, .int .u64 n] w fun e w' => e = .returned (.pointer none) ∧ w = w' := by
  go_enter Try.func96, Try.ntmps96
  go_wp2
  go_ret
  exact ⟨rfl, rfl⟩
set_option maxHeartbeats 400000 in
theorem Writer_Num_nil (w : World) (n : Int) : Calls Try.prog 84 #[.pointer none, .int .i64 n] w fun e w' => e = .returned (.pointer none) ∧ w = w' := by
  go_enter Try.func84, Try.ntmps84
  go_wp2_with fail
  refine (Writer_Wide_nil _ _).mono ?_
  rintro e w' ⟨rfl, rfl⟩
  go_wp2
  go_ret
  exact ⟨rfl, rfl⟩
set_option maxHeartbeats 400000 in
theorem Writer_Bytes_nil (w : World) : Calls Try.prog 58 #[.pointer none] w fun e w' => e = .returned (.slice none 0 0) ∧ w = w' := by
  go_enter Try.func58, Try.ntmps58
  go_wp2
  go_ret
  exact ⟨rfl, rfl⟩
theorem getF_nil : getF [] = 0 := rfl
set_option maxHeartbeats 400000 in
theorem Reader_take_nil (w : World) (n : Int) : Calls Try.prog 103 #[.pointer none, .int .i64 n] w fun e w' => e = .returned (.slice none 0 0) ∧ w = w' := by
  go_enter Try.func103, Try.ntmps103
  go_wp2
  go_ret
  exact ⟨rfl, rfl⟩
set_option maxHeartbeats 400000 in
theorem Reader_Wide_nil (w : World) : Calls Try.prog 99 #[.pointer none] w fun e w' => e = .returned (.int .u64 0) ∧ w = w' := by
  go_enter Try.func99, Try.ntmps99
  go_wp2_with fail
  refine (Reader_take_nil _ _).mono ?_
  rintro e w' ⟨rfl, rfl⟩
  go_wp2_with fail
  refine (pack_get _ No _ [] (SliceAt.nil _ _ _)).mono ?_
  rintro e w' ⟨rfl, rfl⟩
  go_wp2
  go_ret
  exact ⟨rfl, rfl⟩
set_option maxHeartbeats 400000 in
theorem Reader_Num_nil (w : World) : Calls Try.prog 90 #[.pointer none] w fun e w' => e = .returned (.int .i64 0) ∧ w = w' := by
  go_enter Try.func90, Try.ntmps90
  go_wp2_with fail
  refine (Reader_Wide_nil _).mono ?_
  rintro e w' ⟨rfl, rfl⟩
  go_wp2
  go_ret
  exact ⟨rfl, rfl⟩
set_option maxHeartbeats 400000 in
theorem Reader_Left_nil (w : World) : Calls Try.prog 91 #[.pointer none] w fun e w' => e = .returned (.int .i64 0) ∧ w = w' := by
  go_enter Try.func91, Try.ntmps91
  go_wp2
  go_ret
  exact ⟨rfl, rfl⟩
set_option maxHeartbeats 400000 in
theorem Reader_End_nil (w : World) : Calls Try.prog 69 #[.pointer none] w fun e w' => e = .returned (.int .i64 1) ∧ w = w' := by
  go_enter Try.func69, Try.ntmps69
  go_wp2
  go_ret
  exact ⟨rfl, rfl⟩
end Go.Proofs.Ytpaldbejnbcokaa
