/- The law PackBack: the walk. -/
import Derived.Test.YtifnghjkbdnkmaaPackF
namespace Go.Proofs.Ytifnghjkbdnkmaa
open Go.RowKit

theorem encs_drop {list : List Field} {j k : Nat} {f : Field} (hlt : j < k) (hf : list[j]? = some f) :
    encsF ((list.take k).drop j) = putF (UInt64.ofInt f.n) 8 ++ (putF f.w 8 ++ (textF f.s ++ encsF ((list.take k).drop (j + 1)))) := by
  have h : (list.take k)[j]? = some f := by rw [List.getElem?_take, if_pos hlt, hf]
  obtain ⟨hl, he⟩ := List.getElem?_eq_some_iff.1 h
  rw [List.drop_eq_getElem_cons hl, he]
  simp [encsF, encF]

theorem text_fit (B : Nat) (w : World) (s : ByteArray) (b : List UInt8) (p : Nat) (hs : s.size ≤ 16777216) (h : ReaderAt w (From B) ⟨textF s ++ b, 0⟩ p) :
    Calls Try.prog 21 #[.pointer (some ⟨p, 0, none⟩)] w fun e w' => e = .returned (.string s) ∧ ReaderAt w' (From B) ⟨b, 0⟩ p ∧ Kp (From B) w w' :=
  (Reader_Text_a B w s b p h).mono fun _ _ ⟨h1, h2, h3⟩ => ⟨by rw [h1, fitS, if_neg (by omega)], h2, h3⟩
theorem text_big (B : Nat) (w : World) (s : ByteArray) (b : List UInt8) (p : Nat) (hs : ¬ s.size ≤ 16777216) (h : ReaderAt w (From B) ⟨textF s ++ b, 0⟩ p) :
    Calls Try.prog 21 #[.pointer (some ⟨p, 0, none⟩)] w fun e w' => e = .returned (.string ⟨#[]⟩) ∧ ReaderAt w' (From B) ⟨b, 0⟩ p ∧ Kp (From B) w w' :=
  (Reader_Text_a B w s b p h).mono fun _ _ ⟨h1, h2, h3⟩ => ⟨by rw [h1, fitS, if_pos (by omega)], h2, h3⟩
theorem ne_empty {s : ByteArray} (hs : ¬ s.size ≤ 16777216) : s.toList.isEmpty = false ∧ ([] == s.toList) = false ∧ (s.toList == []) = false := by
  have h : s.toList ≠ [] := by
    rw [ByteArray.toList_eq]
    intro h
    have := size_list s
    rw [h] at this
    exact hs (by rw [this]; exact Nat.zero_le _)
  cases hl : s.toList with
  | nil => exact absurd hl h
  | cons x l => exact ⟨rfl, rfl, rfl⟩

set_option maxHeartbeats 4000000 in
theorem PackBack_walk (w : World) (list : List Field) (v : Value) (h : SliceAt fieldR w (fun b => b < w.heap.size) list v) :
    Calls Try.prog 5 #[v] w fun e w' => e = .returned (.bool true) ∧ Kp No w w' := by
  obtain ⟨A, c, rfl, hc1, hc2⟩ := h.form
  have H := Lib.hid h
  clear h
  go_enter Try.func5, Try.ntmps5
  obtain ⟨B, hB⟩ : ∃ B, B = w.heap.size := ⟨_, rfl⟩
  have HB := Lib.hid hB
  go_wp2_with fail
  refine (pack_New_f w B hB).mono ?_
  rintro e w0 ⟨rfl, hw0, hk0⟩
  have Hw0 := Lib.hid hw0
  have Hk0 := Lib.hid hk0
  clear hw0 hk0 hB
  go_wp2_with fail
  go_loopw [4] (fun i wr => ∃ k : Nat, k ≤ min list.length 60 ∧ i = .int .i64 k ∧ WriterAt wr (From B) (encsF (list.take k)) B ∧ Kp (From B) w wr) (fun i _ => 60 - (intOf i).toNat)
  case atStart => exact ⟨0, Nat.zero_le _, rfl, Hw0.out, Hk0.out⟩
  case round =>
    obtain ⟨k, hk, rfl, hw, hkp⟩ := hrel
    have Hw := Lib.hid hw
    have Hkp := Lib.hid hkp
    clear hw hkp
    by_cases hlt : k < min list.length 60
    · obtain ⟨f, hf⟩ : ∃ f, list[k]? = some f := ⟨_, List.getElem?_eq_getElem (by omega)⟩
      obtain ⟨b, off, rfl, hb, hok, hc0, hc1, hc2, hc3⟩ := (H.out.kp Hkp.out (fun b hb => by unfold From; rw [HB.out]; omega)).get_field hf
      have Hsn := Lib.hid (take_snoc hf)
      have Hok := Lib.hid hok
      clear hf hok
      have q1 : (k : Int) < (list.length : Int) := by omega
      have q2 : (k : Int) < 60 := by omega
      have q3 : (0 : Int) ≤ (k : Int) := by omega
      have hnb : ¬ From B b := by rw [HB.out]; unfold From; omega
      have hlen := encsF_len (list.take k)
      have hlk : (list.take k).length = k := by rw [List.length_take]; omega
      rw [hlk] at hlen
      have Hlen := Lib.hid hlen
      clear hlk hlen
      go_wp2_with fail
      go_region_held3 (fun w' => w'.cell? ⟨b, off + k * 4 + 1, none⟩ = some (.int .i64 f.n) ∧ w'.cell? ⟨b, off + k * 4 + 2, none⟩ = some (.int .u64 f.w.toNat) ∧ w'.cell? ⟨b, off + k * 4 + 3, none⟩ = some (.string f.s)) (first | assumption | (refine ⟨?_, ?_, ?_⟩ <;> assumption))
        (first
          | (go_at_call 8; go_split_ands; refine (Writer_Num_f B _ _ _ _ (Hw.out.kp (Kp.refl No _).drew (fun _ _ => id)) ?_ ?_).mono ?_; (have := Hkp.out.size; rw [HB.out]; exact this); (have := Hlen.out; omega); rintro e w1 ⟨rfl, hw1, hk1⟩; have hS1 := And.intro (hk1.cell (p := ⟨b, off + k * 4 + 1, none⟩) (u := .int .i64 f.n) (by assumption) hnb) (And.intro (hk1.cell (p := ⟨b, off + k * 4 + 2, none⟩) (u := .int .u64 f.w.toNat) (by assumption) hnb) (hk1.cell (p := ⟨b, off + k * 4 + 3, none⟩) (u := .string f.s) (by assumption) hnb)); have Hw1 := Lib.hid hw1; have Hk1 := Lib.hid (Hkp.out.drew.trans hk1); clear hw1 hk1)
          | (go_at_call 10; go_split_ands; refine (Writer_Wide_f B _ _ _ _ Hw1.out ?_ ?_).mono ?_; (have := Hk1.out.size; rw [HB.out]; exact this); (have := Hlen.out; rw [List.length_append, putF_len]; omega); rintro e w2 ⟨rfl, hw2, hk2⟩; have hS2 := And.intro (hk2.cell (p := ⟨b, off + k * 4 + 1, none⟩) (u := .int .i64 f.n) (by assumption) hnb) (And.intro (hk2.cell (p := ⟨b, off + k * 4 + 2, none⟩) (u := .int .u64 f.w.toNat) (by assumption) hnb) (hk2.cell (p := ⟨b, off + k * 4 + 3, none⟩) (u := .string f.s) (by assumption) hnb)); have Hw2 := Lib.hid hw2; have Hk2 := Lib.hid (Hk1.out.trans hk2); clear hw2 hk2)
          | (go_at_call 11; go_split_ands; refine (Writer_Text_f B _ _ _ _ Hw2.out ?_ ?_).mono ?_; (have := Hk2.out.size; rw [HB.out]; exact this); (have := Hlen.out; rw [List.length_append, List.length_append, putF_len, putF_len]; omega); rintro e w3 ⟨rfl, hw3, hk3⟩; have hS3 := And.intro (hk3.cell (p := ⟨b, off + k * 4 + 1, none⟩) (u := .int .i64 f.n) (by assumption) hnb) (And.intro (hk3.cell (p := ⟨b, off + k * 4 + 2, none⟩) (u := .int .u64 f.w.toNat) (by assumption) hnb) (hk3.cell (p := ⟨b, off + k * 4 + 3, none⟩) (u := .string f.s) (by assumption) hnb)); have Hw3 := Lib.hid hw3; have Hk3 := Lib.hid (Hk2.out.trans hk3); clear hw3 hk3))
      go_wp2_with fail
      go_roundw
      case rel => exact ⟨k + 1, by omega, by go_num, by rw [Hsn.out, encsF_snoc]; exact Hw3.out, Hk3.out⟩
      case measure => simp [intOf]; omega
    · have hlen := encsF_len (list.take k)
      have hlk : (list.take k).length = k := by rw [List.length_take]; omega
      rw [hlk] at hlen
      have Hlen := Lib.hid hlen
      have hk60 : k ≤ 60 := by omega
      have hkl : k ≤ list.length := by omega
      have hfork : ¬ k < list.length ∨ k < list.length ∧ ¬ k < 60 := by omega
      clear hlk hlen hlt hk
      rcases hfork with hf1 | ⟨hf1, hf2⟩
      all_goals
        go_wp2_with fail
        refine (Writer_Bytes _ _ _ _ Hw.out (by have := Hlen.out; omega)).mono ?_
        rintro e w4 ⟨v4, rfl, hs4, hk4⟩
        have Hs4 := Lib.hid hs4
        have Hk4 := Lib.hid (Hkp.out.trans (hk4.mono fun k _ h => h.elim))
        clear hs4 hk4
        go_wp2_with fail
        refine (pack_Read_sealed _ _ _ _ Hs4.out (by have := Hlen.out; omega) B (by rw [HB.out]; exact Hk4.out.size)).mono ?_
        rintro e w5 ⟨p, rfl, hr0, hk5⟩
        have Hk5 := Lib.hid (Hk4.out.trans hk5)
        have Hr0 := Lib.hid hr0
        clear hk5 hr0
        go_wp2_with fail
        go_loopw [6] (fun i wr => ∃ j : Nat, j ≤ k ∧ i = .int .i64 j ∧ ReaderAt wr (From B) ⟨encsF ((list.take k).drop j), 0⟩ p ∧ Kp (From B) w wr) (fun i _ => 60 - (intOf i).toNat)
        case atStart => exact ⟨0, Nat.zero_le _, rfl, Hr0.out, Hk5.out⟩
        case round =>
          obtain ⟨j, hj, rfl, hr, hkp2⟩ := hrel
          have Hr := Lib.hid hr
          have Hkp2 := Lib.hid hkp2
          clear hr hkp2
          by_cases hlt : j < k
          · obtain ⟨f, hf⟩ : ∃ f, list[j]? = some f := ⟨_, List.getElem?_eq_getElem (by omega)⟩
            obtain ⟨b, off, rfl, hb, hok, hc0, hc1, hc2, hc3⟩ := (H.out.kp Hkp2.out (fun b hb => by unfold From; rw [HB.out]; omega)).get_field hf
            have Hdr : Hid (encsF ((list.take k).drop j) = putF (UInt64.ofInt f.n) 8 ++ (putF f.w 8 ++ (textF f.s ++ encsF ((list.take k).drop (j + 1))))) := encs_drop hlt hf
            have Hok := Lib.hid hok
            clear hf hok
            have q1 : (j : Int) < (list.length : Int) := by omega
            have q2 : (j : Int) < 60 := by omega
            have q3 : (0 : Int) ≤ (j : Int) := by omega
            have hnb : ¬ From B b := by rw [HB.out]; unfold From; omega
            rw [Hdr.out] at Hr
            by_cases hsz : f.s.size ≤ 16777216
            · have Htx := fun W h => text_fit B W f.s (encsF ((list.take k).drop (j + 1))) p hsz h
              have hne := toList_same (a := f.s) rfl
              go_wp2_with fail
              refine wp_region_noPanic ?_
              refine wp_region_held_drew (S := fun w' => Hid (Kp (From B) wr w')) (by kernel_rfl) (Lib.hid (Kp.refl _ _).drew) (fun hHeld => ?_)
              refine wpAnyH_take (i := 0) (oi := ?_) (v := ?_) ?_ (by kernel_rfl) (by kernel_rfl) (by kernel_rfl) (fun _ _ _ h => h) (Or.inl ⟨?_, fun w hSw => ?_⟩) hHeld ?_
              rotate_left 2
              · (simp only [List.getElem?_toArray, List.getElem?_cons_zero]; rfl)
              · rfl
              · (clear hSw; go_simp; try (with_reducible rfl))
              simp only [Act.put, List.setIfInBounds_toArray, List.set_cons_zero, List.set_cons_succ]
              refine wpAnyH_take (i := 2) (oi := ?_) (v := ?_) ?_ (by kernel_rfl) (by kernel_rfl) (by kernel_rfl) (fun _ _ _ h => h) (Or.inl ⟨?_, fun w hSw => ?_⟩) hHeld ?_
              rotate_left 2
              · (simp only [List.getElem?_toArray, List.getElem?_cons_succ, List.getElem?_cons_zero]; rfl)
              · rfl
              · (clear hSw; go_simp; try (with_reducible rfl))
              simp only [Act.put, List.setIfInBounds_toArray, List.set_cons_zero, List.set_cons_succ]
              refine wpAnyH_take (i := 3) (oi := ?_) (v := ?_) ?_ (by kernel_rfl) (by kernel_rfl) (by kernel_rfl) (fun _ _ _ h => h) (Or.inl ⟨?_, fun w hSw => ?_⟩) hHeld ?_
              rotate_left 2
              · (simp only [List.getElem?_toArray, List.getElem?_cons_succ, List.getElem?_cons_zero]; rfl)
              · rfl
              · (clear hSw; go_simp; try (with_reducible rfl))
              simp only [Act.put, List.setIfInBounds_toArray, List.set_cons_zero, List.set_cons_succ]
              refine wpAnyH_take (i := 4) (oi := ?_) (v := ?_) ?_ (by kernel_rfl) (by kernel_rfl) (by kernel_rfl) (fun _ _ _ h => h) (Or.inl ⟨?_, fun w hSw => ?_⟩) hHeld ?_
              rotate_left 2
              · (simp only [List.getElem?_toArray, List.getElem?_cons_succ, List.getElem?_cons_zero]; rfl)
              · rfl
              · (clear hSw; go_simp; try (with_reducible rfl))
              simp only [Act.put, List.setIfInBounds_toArray, List.set_cons_zero, List.set_cons_succ]
              refine wpAnyH_take (i := 5) (oi := ?_) (v := ?_) ?_ (by kernel_rfl) (by kernel_rfl) (by kernel_rfl) (fun _ _ _ h => h) (Or.inl ⟨?_, fun w hSw => ?_⟩) hHeld ?_
              rotate_left 2
              · (simp only [List.getElem?_toArray, List.getElem?_cons_succ, List.getElem?_cons_zero]; rfl)
              · rfl
              · (clear hSw; go_simp; try (with_reducible rfl))
              simp only [Act.put, List.setIfInBounds_toArray, List.set_cons_zero, List.set_cons_succ]
              refine wpAnyH_take (i := 6) (oi := ?_) (v := ?_) ?_ (by kernel_rfl) (by kernel_rfl) (by kernel_rfl) (fun _ _ _ h => h) (Or.inl ⟨?_, fun w hSw => ?_⟩) hHeld ?_
              rotate_left 2
              · (simp only [List.getElem?_toArray, List.getElem?_cons_succ, List.getElem?_cons_zero]; rfl)
              · rfl
              · (have l1 := (Hid.out hSw).cell hc1 hnb; have l2 := (Hid.out hSw).cell hc2 hnb; have l3 := (Hid.out hSw).cell hc3 hnb; clear hSw; go_simp; try (with_reducible rfl))
              simp only [Act.put, List.setIfInBounds_toArray, List.set_cons_zero, List.set_cons_succ]
              refine wpAnyH_ready (rs := [1]) (by kernel_rfl) (by simp) ?_
              refine AllReadyH.cons (o := ?_) ?_ (fun K hK => ?_) AllReadyH.nil
              rotate_left
              · (simp only [List.getElem?_toArray, List.getElem?_cons_succ, List.getElem?_cons_zero]; rfl)
              go_simp
              refine (Reader_Num_a B _ f.n _ p Hok.out.2.1 (Hr.out.kp (Kp.refl No _).drew (fun _ _ => id))).mono ?_
              rintro e w1 ⟨rfl, hw1, hk1⟩
              have Hw1 := Lib.hid hw1
              have hS := Lib.hid ((Kp.refl (From B) wr).drew.trans hk1)
              clear hw1 hk1
              refine hK.out _ _ hS (fun hHeld => ?_)
              clear hK K
              (try simp only [Act.put, List.setIfInBounds_toArray, List.set_cons_zero, List.set_cons_succ])
              refine wpAnyH_take (i := 7) (oi := ?_) (v := ?_) ?_ (by kernel_rfl) (by kernel_rfl) (by kernel_rfl) (fun _ _ _ h => h) (Or.inl ⟨?_, fun w hSw => ?_⟩) hHeld ?_
              rotate_left 2
              · (simp only [List.getElem?_toArray, List.getElem?_cons_succ, List.getElem?_cons_zero]; rfl)
              · rfl
              · (clear hSw; go_simp; try (with_reducible rfl))
              simp only [Act.put, List.setIfInBounds_toArray, List.set_cons_zero, List.set_cons_succ]
              refine wpAnyH_take (i := 8) (oi := ?_) (v := ?_) ?_ (by kernel_rfl) (by kernel_rfl) (by kernel_rfl) (fun _ _ _ h => h) (Or.inl ⟨?_, fun w hSw => ?_⟩) hHeld ?_
              rotate_left 2
              · (simp only [List.getElem?_toArray, List.getElem?_cons_succ, List.getElem?_cons_zero]; rfl)
              · rfl
              · (clear hSw; go_simp; try (with_reducible rfl))
              simp only [Act.put, List.setIfInBounds_toArray, List.set_cons_zero, List.set_cons_succ]
              refine wpAnyH_take (i := 9) (oi := ?_) (v := ?_) ?_ (by kernel_rfl) (by kernel_rfl) (by kernel_rfl) (fun _ _ _ h => h) (Or.inl ⟨?_, fun w hSw => ?_⟩) hHeld ?_
              rotate_left 2
              · (simp only [List.getElem?_toArray, List.getElem?_cons_succ, List.getElem?_cons_zero]; rfl)
              · rfl
              · (clear hSw; go_simp; try (with_reducible rfl))
              simp only [Act.put, List.setIfInBounds_toArray, List.set_cons_zero, List.set_cons_succ]
              refine wpAnyH_take (i := 11) (oi := ?_) (v := ?_) ?_ (by kernel_rfl) (by kernel_rfl) (by kernel_rfl) (fun _ _ _ h => h) (Or.inl ⟨?_, fun w hSw => ?_⟩) hHeld ?_
              rotate_left 2
              · (simp only [List.getElem?_toArray, List.getElem?_cons_succ, List.getElem?_cons_zero]; rfl)
              · rfl
              · (clear hSw; go_simp; try (with_reducible rfl))
              simp only [Act.put, List.setIfInBounds_toArray, List.set_cons_zero, List.set_cons_succ]
              refine wpAnyH_take (i := 12) (oi := ?_) (v := ?_) ?_ (by kernel_rfl) (by kernel_rfl) (by kernel_rfl) (fun _ _ _ h => h) (Or.inl ⟨?_, fun w hSw => ?_⟩) hHeld ?_
              rotate_left 2
              · (simp only [List.getElem?_toArray, List.getElem?_cons_succ, List.getElem?_cons_zero]; rfl)
              · rfl
              · (clear hSw; go_simp; try (with_reducible rfl))
              simp only [Act.put, List.setIfInBounds_toArray, List.set_cons_zero, List.set_cons_succ]
              refine wpAnyH_take (i := 13) (oi := ?_) (v := ?_) ?_ (by kernel_rfl) (by kernel_rfl) (by kernel_rfl) (fun _ _ _ h => h) (Or.inl ⟨?_, fun w hSw => ?_⟩) hHeld ?_
              rotate_left 2
              · (simp only [List.getElem?_toArray, List.getElem?_cons_succ, List.getElem?_cons_zero]; rfl)
              · rfl
              · (clear hSw; go_simp; try (with_reducible rfl))
              simp only [Act.put, List.setIfInBounds_toArray, List.set_cons_zero, List.set_cons_succ]
              refine wpAnyH_take (i := 14) (oi := ?_) (v := ?_) ?_ (by kernel_rfl) (by kernel_rfl) (by kernel_rfl) (fun _ _ _ h => h) (Or.inl ⟨?_, fun w hSw => ?_⟩) hHeld ?_
              rotate_left 2
              · (simp only [List.getElem?_toArray, List.getElem?_cons_succ, List.getElem?_cons_zero]; rfl)
              · rfl
              · (clear hSw; go_simp; try (with_reducible rfl))
              simp only [Act.put, List.setIfInBounds_toArray, List.set_cons_zero, List.set_cons_succ]
              refine wpAnyH_take (i := 15) (oi := ?_) (v := ?_) ?_ (by kernel_rfl) (by kernel_rfl) (by kernel_rfl) (fun _ _ _ h => h) (Or.inl ⟨?_, fun w hSw => ?_⟩) hHeld ?_
              rotate_left 2
              · (simp only [List.getElem?_toArray, List.getElem?_cons_succ, List.getElem?_cons_zero]; rfl)
              · rfl
              · (have l1 := (Hid.out hSw).cell hc1 hnb; have l2 := (Hid.out hSw).cell hc2 hnb; have l3 := (Hid.out hSw).cell hc3 hnb; clear hSw; go_simp; try (with_reducible rfl))
              simp only [Act.put, List.setIfInBounds_toArray, List.set_cons_zero, List.set_cons_succ]
              refine wpAnyH_ready (rs := [10]) (by kernel_rfl) (by simp) ?_
              refine AllReadyH.cons (o := ?_) ?_ (fun K hK => ?_) AllReadyH.nil
              rotate_left
              · (simp only [List.getElem?_toArray, List.getElem?_cons_succ, List.getElem?_cons_zero]; rfl)
              go_simp
              refine (Reader_Wide_a B _ f.w _ p Hw1.out).mono ?_
              rintro e w2 ⟨rfl, hw2, hk2⟩
              have Hw2 := Lib.hid hw2
              have hS := Lib.hid ((Hid.out hHeld).trans hk2)
              clear hw2 hk2
              refine hK.out _ _ hS (fun hHeld => ?_)
              clear hK K
              (try simp only [Act.put, List.setIfInBounds_toArray, List.set_cons_zero, List.set_cons_succ])
              refine wpAnyH_take (i := 16) (oi := ?_) (v := ?_) ?_ (by kernel_rfl) (by kernel_rfl) (by kernel_rfl) (fun _ _ _ h => h) (Or.inl ⟨?_, fun w hSw => ?_⟩) hHeld ?_
              rotate_left 2
              · (simp only [List.getElem?_toArray, List.getElem?_cons_succ, List.getElem?_cons_zero]; rfl)
              · rfl
              · (clear hSw; go_simp; try (with_reducible rfl))
              simp only [Act.put, List.setIfInBounds_toArray, List.set_cons_zero, List.set_cons_succ]
              refine wpAnyH_take (i := 17) (oi := ?_) (v := ?_) ?_ (by kernel_rfl) (by kernel_rfl) (by kernel_rfl) (fun _ _ _ h => h) (Or.inl ⟨?_, fun w hSw => ?_⟩) hHeld ?_
              rotate_left 2
              · (simp only [List.getElem?_toArray, List.getElem?_cons_succ, List.getElem?_cons_zero]; rfl)
              · rfl
              · (clear hSw; go_simp; try (with_reducible rfl))
              simp only [Act.put, List.setIfInBounds_toArray, List.set_cons_zero, List.set_cons_succ]
              refine wpAnyH_take (i := 18) (oi := ?_) (v := ?_) ?_ (by kernel_rfl) (by kernel_rfl) (by kernel_rfl) (fun _ _ _ h => h) (Or.inl ⟨?_, fun w hSw => ?_⟩) hHeld ?_
              rotate_left 2
              · (simp only [List.getElem?_toArray, List.getElem?_cons_succ, List.getElem?_cons_zero]; rfl)
              · rfl
              · (clear hSw; go_simp; try (with_reducible rfl))
              simp only [Act.put, List.setIfInBounds_toArray, List.set_cons_zero, List.set_cons_succ]
              refine wpAnyH_take (i := 19) (oi := ?_) (v := ?_) ?_ (by kernel_rfl) (by kernel_rfl) (by kernel_rfl) (fun _ _ _ h => h) (Or.inl ⟨?_, fun w hSw => ?_⟩) hHeld ?_
              rotate_left 2
              · (simp only [List.getElem?_toArray, List.getElem?_cons_succ, List.getElem?_cons_zero]; rfl)
              · rfl
              · (clear hSw; go_simp; try (with_reducible rfl))
              simp only [Act.put, List.setIfInBounds_toArray, List.set_cons_zero, List.set_cons_succ]
              refine wpAnyH_take (i := 21) (oi := ?_) (v := ?_) ?_ (by kernel_rfl) (by kernel_rfl) (by kernel_rfl) (fun _ _ _ h => h) (Or.inl ⟨?_, fun w hSw => ?_⟩) hHeld ?_
              rotate_left 2
              · (simp only [List.getElem?_toArray, List.getElem?_cons_succ, List.getElem?_cons_zero]; rfl)
              · rfl
              · (clear hSw; go_simp; try (with_reducible rfl))
              simp only [Act.put, List.setIfInBounds_toArray, List.set_cons_zero, List.set_cons_succ]
              refine wpAnyH_take (i := 22) (oi := ?_) (v := ?_) ?_ (by kernel_rfl) (by kernel_rfl) (by kernel_rfl) (fun _ _ _ h => h) (Or.inl ⟨?_, fun w hSw => ?_⟩) hHeld ?_
              rotate_left 2
              · (simp only [List.getElem?_toArray, List.getElem?_cons_succ, List.getElem?_cons_zero]; rfl)
              · rfl
              · (clear hSw; go_simp; try (with_reducible rfl))
              simp only [Act.put, List.setIfInBounds_toArray, List.set_cons_zero, List.set_cons_succ]
              refine wpAnyH_take (i := 23) (oi := ?_) (v := ?_) ?_ (by kernel_rfl) (by kernel_rfl) (by kernel_rfl) (fun _ _ _ h => h) (Or.inl ⟨?_, fun w hSw => ?_⟩) hHeld ?_
              rotate_left 2
              · (simp only [List.getElem?_toArray, List.getElem?_cons_succ, List.getElem?_cons_zero]; rfl)
              · rfl
              · (clear hSw; go_simp; try (with_reducible rfl))
              simp only [Act.put, List.setIfInBounds_toArray, List.set_cons_zero, List.set_cons_succ]
              refine wpAnyH_take (i := 24) (oi := ?_) (v := ?_) ?_ (by kernel_rfl) (by kernel_rfl) (by kernel_rfl) (fun _ _ _ h => h) (Or.inl ⟨?_, fun w hSw => ?_⟩) hHeld ?_
              rotate_left 2
              · (simp only [List.getElem?_toArray, List.getElem?_cons_succ, List.getElem?_cons_zero]; rfl)
              · rfl
              · (clear hSw; go_simp; try (with_reducible rfl))
              simp only [Act.put, List.setIfInBounds_toArray, List.set_cons_zero, List.set_cons_succ]
              refine wpAnyH_take (i := 25) (oi := ?_) (v := ?_) ?_ (by kernel_rfl) (by kernel_rfl) (by kernel_rfl) (fun _ _ _ h => h) (Or.inl ⟨?_, fun w hSw => ?_⟩) hHeld ?_
              rotate_left 2
              · (simp only [List.getElem?_toArray, List.getElem?_cons_succ, List.getElem?_cons_zero]; rfl)
              · rfl
              · (have l1 := (Hid.out hSw).cell hc1 hnb; have l2 := (Hid.out hSw).cell hc2 hnb; have l3 := (Hid.out hSw).cell hc3 hnb; clear hSw; go_simp; try (with_reducible rfl))
              simp only [Act.put, List.setIfInBounds_toArray, List.set_cons_zero, List.set_cons_succ]
              refine wpAnyH_ready (rs := [20]) (by kernel_rfl) (by simp) ?_
              refine AllReadyH.cons (o := ?_) ?_ (fun K hK => ?_) AllReadyH.nil
              rotate_left
              · (simp only [List.getElem?_toArray, List.getElem?_cons_succ, List.getElem?_cons_zero]; rfl)
              go_simp
              refine (Htx _ Hw2.out).mono ?_
              rintro e w3 ⟨rfl, hw3, hk3⟩
              have Hw3 := Lib.hid hw3
              have hS := Lib.hid ((Hid.out hHeld).trans hk3)
              clear hw3 hk3
              refine hK.out _ _ hS (fun hHeld => ?_)
              clear hK K
              (try simp only [Act.put, List.setIfInBounds_toArray, List.set_cons_zero, List.set_cons_succ])
              refine wpAnyH_take (i := 26) (oi := ?_) (v := ?_) ?_ (by kernel_rfl) (by kernel_rfl) (by kernel_rfl) (fun _ _ _ h => h) (Or.inl ⟨?_, fun w hSw => ?_⟩) hHeld ?_
              rotate_left 2
              · (simp only [List.getElem?_toArray, List.getElem?_cons_succ, List.getElem?_cons_zero]; rfl)
              · rfl
              · (clear hSw; go_simp; try (with_reducible rfl))
              simp only [Act.put, List.setIfInBounds_toArray, List.set_cons_zero, List.set_cons_succ]
              refine wpAnyH_take (i := 27) (oi := ?_) (v := ?_) ?_ (by kernel_rfl) (by kernel_rfl) (by kernel_rfl) (fun _ _ _ h => h) (Or.inl ⟨?_, fun w hSw => ?_⟩) hHeld ?_
              rotate_left 2
              · (simp only [List.getElem?_toArray, List.getElem?_cons_succ, List.getElem?_cons_zero]; rfl)
              · rfl
              · (clear hSw; go_simp; try (with_reducible rfl))
              simp only [Act.put, List.setIfInBounds_toArray, List.set_cons_zero, List.set_cons_succ]
              refine wpAnyH_take (i := 28) (oi := ?_) (v := undef) ?_ (by kernel_rfl) (by kernel_rfl) (by kernel_rfl) (fun _ _ _ h => h) (Or.inr ⟨?_, rfl⟩) hHeld ?_
              rotate_left
              · (simp only [List.getElem?_toArray, List.getElem?_cons_succ, List.getElem?_cons_zero]; rfl)
              · rfl
              simp only [Act.put, List.setIfInBounds_toArray, List.set_cons_zero, List.set_cons_succ]
              refine wpAnyH_take (i := 29) (oi := ?_) (v := undef) ?_ (by kernel_rfl) (by kernel_rfl) (by kernel_rfl) (fun _ _ _ h => h) (Or.inr ⟨?_, rfl⟩) hHeld ?_
              rotate_left
              · (simp only [List.getElem?_toArray, List.getElem?_cons_succ, List.getElem?_cons_zero]; rfl)
              · rfl
              simp only [Act.put, List.setIfInBounds_toArray, List.set_cons_zero, List.set_cons_succ]
              refine wpAnyH_take (i := 30) (oi := ?_) (v := undef) ?_ (by kernel_rfl) (by kernel_rfl) (by kernel_rfl) (fun _ _ _ h => h) (Or.inr ⟨?_, rfl⟩) hHeld ?_
              rotate_left
              · (simp only [List.getElem?_toArray, List.getElem?_cons_succ, List.getElem?_cons_zero]; rfl)
              · rfl
              simp only [Act.put, List.setIfInBounds_toArray, List.set_cons_zero, List.set_cons_succ]
              refine wpAnyH_take (i := 31) (oi := ?_) (v := undef) ?_ (by kernel_rfl) (by kernel_rfl) (by kernel_rfl) (fun _ _ _ h => h) (Or.inr ⟨?_, rfl⟩) hHeld ?_
              rotate_left
              · (simp only [List.getElem?_toArray, List.getElem?_cons_succ, List.getElem?_cons_zero]; rfl)
              · rfl
              simp only [Act.put, List.setIfInBounds_toArray, List.set_cons_zero, List.set_cons_succ]
              refine wpAnyH_take (i := 32) (oi := ?_) (v := undef) ?_ (by kernel_rfl) (by kernel_rfl) (by kernel_rfl) (fun _ _ _ h => h) (Or.inr ⟨?_, rfl⟩) hHeld ?_
              rotate_left
              · (simp only [List.getElem?_toArray, List.getElem?_cons_succ, List.getElem?_cons_zero]; rfl)
              · rfl
              simp only [Act.put, List.setIfInBounds_toArray, List.set_cons_zero, List.set_cons_succ]
              refine wpAnyH_take (i := 33) (oi := ?_) (v := undef) ?_ (by kernel_rfl) (by kernel_rfl) (by kernel_rfl) (fun _ _ _ h => h) (Or.inr ⟨?_, rfl⟩) hHeld ?_
              rotate_left
              · (simp only [List.getElem?_toArray, List.getElem?_cons_succ, List.getElem?_cons_zero]; rfl)
              · rfl
              simp only [Act.put, List.setIfInBounds_toArray, List.set_cons_zero, List.set_cons_succ]
              refine wpAnyH_take (i := 34) (oi := ?_) (v := undef) ?_ (by kernel_rfl) (by kernel_rfl) (by kernel_rfl) (fun _ _ _ h => h) (Or.inr ⟨?_, rfl⟩) hHeld ?_
              rotate_left
              · (simp only [List.getElem?_toArray, List.getElem?_cons_succ, List.getElem?_cons_zero]; rfl)
              · rfl
              simp only [Act.put, List.setIfInBounds_toArray, List.set_cons_zero, List.set_cons_succ]
              refine wpAnyH_take (i := 35) (oi := ?_) (v := ?_) ?_ (by kernel_rfl) (by kernel_rfl) (by kernel_rfl) (fun _ _ _ h => h) (Or.inl ⟨?_, fun w hSw => ?_⟩) hHeld ?_
              rotate_left 2
              · (simp only [List.getElem?_toArray, List.getElem?_cons_succ, List.getElem?_cons_zero]; rfl)
              · rfl
              · (clear hSw; go_simp; try (with_reducible rfl))
              simp only [Act.put, List.setIfInBounds_toArray, List.set_cons_zero, List.set_cons_succ]
              refine wpAnyH_take (i := 36) (oi := ?_) (v := ?_) ?_ (by kernel_rfl) (by kernel_rfl) (by kernel_rfl) (fun _ _ _ h => h) (Or.inl ⟨?_, fun w hSw => ?_⟩) hHeld ?_
              rotate_left 2
              · (simp only [List.getElem?_toArray, List.getElem?_cons_succ, List.getElem?_cons_zero]; rfl)
              · rfl
              · (clear hSw; go_simp; try (with_reducible rfl))
              simp only [Act.put, List.setIfInBounds_toArray, List.set_cons_zero, List.set_cons_succ]
              refine wpAnyH_done (by kernel_rfl) (NoPanic.normal ?_) _
              have Hk3 := Lib.hid (Hkp2.out.trans (Hid.out hHeld))
              go_wp2_with fail
              go_roundw
              case rel => exact ⟨j + 1, by omega, by go_num, Hw3.out, Hk3.out⟩
              case measure => simp [intOf]; omega
            · have Htx := fun W h => text_big B W f.s (encsF ((list.take k).drop (j + 1))) p hsz h
              obtain ⟨hne1, hne2, hne3⟩ := ne_empty hsz
              go_wp2_with fail
              refine wp_region_noPanic ?_
              refine wp_region_held_drew (S := fun w' => Hid (Kp (From B) wr w')) (by kernel_rfl) (Lib.hid (Kp.refl _ _).drew) (fun hHeld => ?_)
              refine wpAnyH_take (i := 0) (oi := ?_) (v := ?_) ?_ (by kernel_rfl) (by kernel_rfl) (by kernel_rfl) (fun _ _ _ h => h) (Or.inl ⟨?_, fun w hSw => ?_⟩) hHeld ?_
              rotate_left 2
              · (simp only [List.getElem?_toArray, List.getElem?_cons_zero]; rfl)
              · rfl
              · (clear hSw; go_simp; try (with_reducible rfl))
              simp only [Act.put, List.setIfInBounds_toArray, List.set_cons_zero, List.set_cons_succ]
              refine wpAnyH_take (i := 2) (oi := ?_) (v := ?_) ?_ (by kernel_rfl) (by kernel_rfl) (by kernel_rfl) (fun _ _ _ h => h) (Or.inl ⟨?_, fun w hSw => ?_⟩) hHeld ?_
              rotate_left 2
              · (simp only [List.getElem?_toArray, List.getElem?_cons_succ, List.getElem?_cons_zero]; rfl)
              · rfl
              · (clear hSw; go_simp; try (with_reducible rfl))
              simp only [Act.put, List.setIfInBounds_toArray, List.set_cons_zero, List.set_cons_succ]
              refine wpAnyH_take (i := 3) (oi := ?_) (v := ?_) ?_ (by kernel_rfl) (by kernel_rfl) (by kernel_rfl) (fun _ _ _ h => h) (Or.inl ⟨?_, fun w hSw => ?_⟩) hHeld ?_
              rotate_left 2
              · (simp only [List.getElem?_toArray, List.getElem?_cons_succ, List.getElem?_cons_zero]; rfl)
              · rfl
              · (clear hSw; go_simp; try (with_reducible rfl))
              simp only [Act.put, List.setIfInBounds_toArray, List.set_cons_zero, List.set_cons_succ]
              refine wpAnyH_take (i := 4) (oi := ?_) (v := ?_) ?_ (by kernel_rfl) (by kernel_rfl) (by kernel_rfl) (fun _ _ _ h => h) (Or.inl ⟨?_, fun w hSw => ?_⟩) hHeld ?_
              rotate_left 2
              · (simp only [List.getElem?_toArray, List.getElem?_cons_succ, List.getElem?_cons_zero]; rfl)
              · rfl
              · (clear hSw; go_simp; try (with_reducible rfl))
              simp only [Act.put, List.setIfInBounds_toArray, List.set_cons_zero, List.set_cons_succ]
              refine wpAnyH_take (i := 5) (oi := ?_) (v := ?_) ?_ (by kernel_rfl) (by kernel_rfl) (by kernel_rfl) (fun _ _ _ h => h) (Or.inl ⟨?_, fun w hSw => ?_⟩) hHeld ?_
              rotate_left 2
              · (simp only [List.getElem?_toArray, List.getElem?_cons_succ, List.getElem?_cons_zero]; rfl)
              · rfl
              · (clear hSw; go_simp; try (with_reducible rfl))
              simp only [Act.put, List.setIfInBounds_toArray, List.set_cons_zero, List.set_cons_succ]
              refine wpAnyH_take (i := 6) (oi := ?_) (v := ?_) ?_ (by kernel_rfl) (by kernel_rfl) (by kernel_rfl) (fun _ _ _ h => h) (Or.inl ⟨?_, fun w hSw => ?_⟩) hHeld ?_
              rotate_left 2
              · (simp only [List.getElem?_toArray, List.getElem?_cons_succ, List.getElem?_cons_zero]; rfl)
              · rfl
              · (have l1 := (Hid.out hSw).cell hc1 hnb; have l2 := (Hid.out hSw).cell hc2 hnb; have l3 := (Hid.out hSw).cell hc3 hnb; clear hSw; go_simp; try (with_reducible rfl))
              simp only [Act.put, List.setIfInBounds_toArray, List.set_cons_zero, List.set_cons_succ]
              refine wpAnyH_ready (rs := [1]) (by kernel_rfl) (by simp) ?_
              refine AllReadyH.cons (o := ?_) ?_ (fun K hK => ?_) AllReadyH.nil
              rotate_left
              · (simp only [List.getElem?_toArray, List.getElem?_cons_succ, List.getElem?_cons_zero]; rfl)
              go_simp
              refine (Reader_Num_a B _ f.n _ p Hok.out.2.1 (Hr.out.kp (Kp.refl No _).drew (fun _ _ => id))).mono ?_
              rintro e w1 ⟨rfl, hw1, hk1⟩
              have Hw1 := Lib.hid hw1
              have hS := Lib.hid ((Kp.refl (From B) wr).drew.trans hk1)
              clear hw1 hk1
              refine hK.out _ _ hS (fun hHeld => ?_)
              clear hK K
              (try simp only [Act.put, List.setIfInBounds_toArray, List.set_cons_zero, List.set_cons_succ])
              refine wpAnyH_take (i := 7) (oi := ?_) (v := ?_) ?_ (by kernel_rfl) (by kernel_rfl) (by kernel_rfl) (fun _ _ _ h => h) (Or.inl ⟨?_, fun w hSw => ?_⟩) hHeld ?_
              rotate_left 2
              · (simp only [List.getElem?_toArray, List.getElem?_cons_succ, List.getElem?_cons_zero]; rfl)
              · rfl
              · (clear hSw; go_simp; try (with_reducible rfl))
              simp only [Act.put, List.setIfInBounds_toArray, List.set_cons_zero, List.set_cons_succ]
              refine wpAnyH_take (i := 8) (oi := ?_) (v := ?_) ?_ (by kernel_rfl) (by kernel_rfl) (by kernel_rfl) (fun _ _ _ h => h) (Or.inl ⟨?_, fun w hSw => ?_⟩) hHeld ?_
              rotate_left 2
              · (simp only [List.getElem?_toArray, List.getElem?_cons_succ, List.getElem?_cons_zero]; rfl)
              · rfl
              · (clear hSw; go_simp; try (with_reducible rfl))
              simp only [Act.put, List.setIfInBounds_toArray, List.set_cons_zero, List.set_cons_succ]
              refine wpAnyH_take (i := 9) (oi := ?_) (v := ?_) ?_ (by kernel_rfl) (by kernel_rfl) (by kernel_rfl) (fun _ _ _ h => h) (Or.inl ⟨?_, fun w hSw => ?_⟩) hHeld ?_
              rotate_left 2
              · (simp only [List.getElem?_toArray, List.getElem?_cons_succ, List.getElem?_cons_zero]; rfl)
              · rfl
              · (clear hSw; go_simp; try (with_reducible rfl))
              simp only [Act.put, List.setIfInBounds_toArray, List.set_cons_zero, List.set_cons_succ]
              refine wpAnyH_take (i := 11) (oi := ?_) (v := ?_) ?_ (by kernel_rfl) (by kernel_rfl) (by kernel_rfl) (fun _ _ _ h => h) (Or.inl ⟨?_, fun w hSw => ?_⟩) hHeld ?_
              rotate_left 2
              · (simp only [List.getElem?_toArray, List.getElem?_cons_succ, List.getElem?_cons_zero]; rfl)
              · rfl
              · (clear hSw; go_simp; try (with_reducible rfl))
              simp only [Act.put, List.setIfInBounds_toArray, List.set_cons_zero, List.set_cons_succ]
              refine wpAnyH_take (i := 12) (oi := ?_) (v := ?_) ?_ (by kernel_rfl) (by kernel_rfl) (by kernel_rfl) (fun _ _ _ h => h) (Or.inl ⟨?_, fun w hSw => ?_⟩) hHeld ?_
              rotate_left 2
              · (simp only [List.getElem?_toArray, List.getElem?_cons_succ, List.getElem?_cons_zero]; rfl)
              · rfl
              · (clear hSw; go_simp; try (with_reducible rfl))
              simp only [Act.put, List.setIfInBounds_toArray, List.set_cons_zero, List.set_cons_succ]
              refine wpAnyH_take (i := 13) (oi := ?_) (v := ?_) ?_ (by kernel_rfl) (by kernel_rfl) (by kernel_rfl) (fun _ _ _ h => h) (Or.inl ⟨?_, fun w hSw => ?_⟩) hHeld ?_
              rotate_left 2
              · (simp only [List.getElem?_toArray, List.getElem?_cons_succ, List.getElem?_cons_zero]; rfl)
              · rfl
              · (clear hSw; go_simp; try (with_reducible rfl))
              simp only [Act.put, List.setIfInBounds_toArray, List.set_cons_zero, List.set_cons_succ]
              refine wpAnyH_take (i := 14) (oi := ?_) (v := ?_) ?_ (by kernel_rfl) (by kernel_rfl) (by kernel_rfl) (fun _ _ _ h => h) (Or.inl ⟨?_, fun w hSw => ?_⟩) hHeld ?_
              rotate_left 2
              · (simp only [List.getElem?_toArray, List.getElem?_cons_succ, List.getElem?_cons_zero]; rfl)
              · rfl
              · (clear hSw; go_simp; try (with_reducible rfl))
              simp only [Act.put, List.setIfInBounds_toArray, List.set_cons_zero, List.set_cons_succ]
              refine wpAnyH_take (i := 15) (oi := ?_) (v := ?_) ?_ (by kernel_rfl) (by kernel_rfl) (by kernel_rfl) (fun _ _ _ h => h) (Or.inl ⟨?_, fun w hSw => ?_⟩) hHeld ?_
              rotate_left 2
              · (simp only [List.getElem?_toArray, List.getElem?_cons_succ, List.getElem?_cons_zero]; rfl)
              · rfl
              · (have l1 := (Hid.out hSw).cell hc1 hnb; have l2 := (Hid.out hSw).cell hc2 hnb; have l3 := (Hid.out hSw).cell hc3 hnb; clear hSw; go_simp; try (with_reducible rfl))
              simp only [Act.put, List.setIfInBounds_toArray, List.set_cons_zero, List.set_cons_succ]
              refine wpAnyH_ready (rs := [10]) (by kernel_rfl) (by simp) ?_
              refine AllReadyH.cons (o := ?_) ?_ (fun K hK => ?_) AllReadyH.nil
              rotate_left
              · (simp only [List.getElem?_toArray, List.getElem?_cons_succ, List.getElem?_cons_zero]; rfl)
              go_simp
              refine (Reader_Wide_a B _ f.w _ p Hw1.out).mono ?_
              rintro e w2 ⟨rfl, hw2, hk2⟩
              have Hw2 := Lib.hid hw2
              have hS := Lib.hid ((Hid.out hHeld).trans hk2)
              clear hw2 hk2
              refine hK.out _ _ hS (fun hHeld => ?_)
              clear hK K
              (try simp only [Act.put, List.setIfInBounds_toArray, List.set_cons_zero, List.set_cons_succ])
              refine wpAnyH_take (i := 16) (oi := ?_) (v := ?_) ?_ (by kernel_rfl) (by kernel_rfl) (by kernel_rfl) (fun _ _ _ h => h) (Or.inl ⟨?_, fun w hSw => ?_⟩) hHeld ?_
              rotate_left 2
              · (simp only [List.getElem?_toArray, List.getElem?_cons_succ, List.getElem?_cons_zero]; rfl)
              · rfl
              · (clear hSw; go_simp; try (with_reducible rfl))
              simp only [Act.put, List.setIfInBounds_toArray, List.set_cons_zero, List.set_cons_succ]
              refine wpAnyH_take (i := 17) (oi := ?_) (v := ?_) ?_ (by kernel_rfl) (by kernel_rfl) (by kernel_rfl) (fun _ _ _ h => h) (Or.inl ⟨?_, fun w hSw => ?_⟩) hHeld ?_
              rotate_left 2
              · (simp only [List.getElem?_toArray, List.getElem?_cons_succ, List.getElem?_cons_zero]; rfl)
              · rfl
              · (clear hSw; go_simp; try (with_reducible rfl))
              simp only [Act.put, List.setIfInBounds_toArray, List.set_cons_zero, List.set_cons_succ]
              refine wpAnyH_take (i := 18) (oi := ?_) (v := ?_) ?_ (by kernel_rfl) (by kernel_rfl) (by kernel_rfl) (fun _ _ _ h => h) (Or.inl ⟨?_, fun w hSw => ?_⟩) hHeld ?_
              rotate_left 2
              · (simp only [List.getElem?_toArray, List.getElem?_cons_succ, List.getElem?_cons_zero]; rfl)
              · rfl
              · (clear hSw; go_simp; try (with_reducible rfl))
              simp only [Act.put, List.setIfInBounds_toArray, List.set_cons_zero, List.set_cons_succ]
              refine wpAnyH_take (i := 19) (oi := ?_) (v := ?_) ?_ (by kernel_rfl) (by kernel_rfl) (by kernel_rfl) (fun _ _ _ h => h) (Or.inl ⟨?_, fun w hSw => ?_⟩) hHeld ?_
              rotate_left 2
              · (simp only [List.getElem?_toArray, List.getElem?_cons_succ, List.getElem?_cons_zero]; rfl)
              · rfl
              · (clear hSw; go_simp; try (with_reducible rfl))
              simp only [Act.put, List.setIfInBounds_toArray, List.set_cons_zero, List.set_cons_succ]
              refine wpAnyH_take (i := 21) (oi := ?_) (v := ?_) ?_ (by kernel_rfl) (by kernel_rfl) (by kernel_rfl) (fun _ _ _ h => h) (Or.inl ⟨?_, fun w hSw => ?_⟩) hHeld ?_
              rotate_left 2
              · (simp only [List.getElem?_toArray, List.getElem?_cons_succ, List.getElem?_cons_zero]; rfl)
              · rfl
              · (clear hSw; go_simp; try (with_reducible rfl))
              simp only [Act.put, List.setIfInBounds_toArray, List.set_cons_zero, List.set_cons_succ]
              refine wpAnyH_take (i := 22) (oi := ?_) (v := ?_) ?_ (by kernel_rfl) (by kernel_rfl) (by kernel_rfl) (fun _ _ _ h => h) (Or.inl ⟨?_, fun w hSw => ?_⟩) hHeld ?_
              rotate_left 2
              · (simp only [List.getElem?_toArray, List.getElem?_cons_succ, List.getElem?_cons_zero]; rfl)
              · rfl
              · (clear hSw; go_simp; try (with_reducible rfl))
              simp only [Act.put, List.setIfInBounds_toArray, List.set_cons_zero, List.set_cons_succ]
              refine wpAnyH_take (i := 23) (oi := ?_) (v := ?_) ?_ (by kernel_rfl) (by kernel_rfl) (by kernel_rfl) (fun _ _ _ h => h) (Or.inl ⟨?_, fun w hSw => ?_⟩) hHeld ?_
              rotate_left 2
              · (simp only [List.getElem?_toArray, List.getElem?_cons_succ, List.getElem?_cons_zero]; rfl)
              · rfl
              · (clear hSw; go_simp; try (with_reducible rfl))
              simp only [Act.put, List.setIfInBounds_toArray, List.set_cons_zero, List.set_cons_succ]
              refine wpAnyH_take (i := 24) (oi := ?_) (v := ?_) ?_ (by kernel_rfl) (by kernel_rfl) (by kernel_rfl) (fun _ _ _ h => h) (Or.inl ⟨?_, fun w hSw => ?_⟩) hHeld ?_
              rotate_left 2
              · (simp only [List.getElem?_toArray, List.getElem?_cons_succ, List.getElem?_cons_zero]; rfl)
              · rfl
              · (clear hSw; go_simp; try (with_reducible rfl))
              simp only [Act.put, List.setIfInBounds_toArray, List.set_cons_zero, List.set_cons_succ]
              refine wpAnyH_take (i := 25) (oi := ?_) (v := ?_) ?_ (by kernel_rfl) (by kernel_rfl) (by kernel_rfl) (fun _ _ _ h => h) (Or.inl ⟨?_, fun w hSw => ?_⟩) hHeld ?_
              rotate_left 2
              · (simp only [List.getElem?_toArray, List.getElem?_cons_succ, List.getElem?_cons_zero]; rfl)
              · rfl
              · (have l1 := (Hid.out hSw).cell hc1 hnb; have l2 := (Hid.out hSw).cell hc2 hnb; have l3 := (Hid.out hSw).cell hc3 hnb; clear hSw; go_simp; try (with_reducible rfl))
              simp only [Act.put, List.setIfInBounds_toArray, List.set_cons_zero, List.set_cons_succ]
              refine wpAnyH_ready (rs := [20]) (by kernel_rfl) (by simp) ?_
              refine AllReadyH.cons (o := ?_) ?_ (fun K hK => ?_) AllReadyH.nil
              rotate_left
              · (simp only [List.getElem?_toArray, List.getElem?_cons_succ, List.getElem?_cons_zero]; rfl)
              go_simp
              refine (Htx _ Hw2.out).mono ?_
              rintro e w3 ⟨rfl, hw3, hk3⟩
              have Hw3 := Lib.hid hw3
              have hS := Lib.hid ((Hid.out hHeld).trans hk3)
              clear hw3 hk3
              refine hK.out _ _ hS (fun hHeld => ?_)
              clear hK K
              (try simp only [Act.put, List.setIfInBounds_toArray, List.set_cons_zero, List.set_cons_succ])
              refine wpAnyH_take (i := 26) (oi := ?_) (v := ?_) ?_ (by kernel_rfl) (by kernel_rfl) (by kernel_rfl) (fun _ _ _ h => h) (Or.inl ⟨?_, fun w hSw => ?_⟩) hHeld ?_
              rotate_left 2
              · (simp only [List.getElem?_toArray, List.getElem?_cons_succ, List.getElem?_cons_zero]; rfl)
              · rfl
              · (clear hSw; go_simp; try (with_reducible rfl))
              simp only [Act.put, List.setIfInBounds_toArray, List.set_cons_zero, List.set_cons_succ]
              refine wpAnyH_take (i := 27) (oi := ?_) (v := ?_) ?_ (by kernel_rfl) (by kernel_rfl) (by kernel_rfl) (fun _ _ _ h => h) (Or.inl ⟨?_, fun w hSw => ?_⟩) hHeld ?_
              rotate_left 2
              · (simp only [List.getElem?_toArray, List.getElem?_cons_succ, List.getElem?_cons_zero]; rfl)
              · rfl
              · (clear hSw; go_simp; try (with_reducible rfl))
              simp only [Act.put, List.setIfInBounds_toArray, List.set_cons_zero, List.set_cons_succ]
              refine wpAnyH_take (i := 28) (oi := ?_) (v := ?_) ?_ (by kernel_rfl) (by kernel_rfl) (by kernel_rfl) (fun _ _ _ h => h) (Or.inl ⟨?_, fun w hSw => ?_⟩) hHeld ?_
              rotate_left 2
              · (simp only [List.getElem?_toArray, List.getElem?_cons_succ, List.getElem?_cons_zero]; rfl)
              · rfl
              · (clear hSw; go_simp; try (with_reducible rfl))
              simp only [Act.put, List.setIfInBounds_toArray, List.set_cons_zero, List.set_cons_succ]
              refine wpAnyH_take (i := 29) (oi := ?_) (v := ?_) ?_ (by kernel_rfl) (by kernel_rfl) (by kernel_rfl) (fun _ _ _ h => h) (Or.inl ⟨?_, fun w hSw => ?_⟩) hHeld ?_
              rotate_left 2
              · (simp only [List.getElem?_toArray, List.getElem?_cons_succ, List.getElem?_cons_zero]; rfl)
              · rfl
              · (clear hSw; go_simp; try (with_reducible rfl))
              simp only [Act.put, List.setIfInBounds_toArray, List.set_cons_zero, List.set_cons_succ]
              refine wpAnyH_take (i := 30) (oi := ?_) (v := ?_) ?_ (by kernel_rfl) (by kernel_rfl) (by kernel_rfl) (fun _ _ _ h => h) (Or.inl ⟨?_, fun w hSw => ?_⟩) hHeld ?_
              rotate_left 2
              · (simp only [List.getElem?_toArray, List.getElem?_cons_succ, List.getElem?_cons_zero]; rfl)
              · rfl
              · (clear hSw; go_simp; try (with_reducible rfl))
              simp only [Act.put, List.setIfInBounds_toArray, List.set_cons_zero, List.set_cons_succ]
              refine wpAnyH_take (i := 31) (oi := ?_) (v := ?_) ?_ (by kernel_rfl) (by kernel_rfl) (by kernel_rfl) (fun _ _ _ h => h) (Or.inl ⟨?_, fun w hSw => ?_⟩) hHeld ?_
              rotate_left 2
              · (simp only [List.getElem?_toArray, List.getElem?_cons_succ, List.getElem?_cons_zero]; rfl)
              · rfl
              · (clear hSw; go_simp; try (with_reducible rfl))
              simp only [Act.put, List.setIfInBounds_toArray, List.set_cons_zero, List.set_cons_succ]
              refine wpAnyH_take (i := 32) (oi := ?_) (v := ?_) ?_ (by kernel_rfl) (by kernel_rfl) (by kernel_rfl) (fun _ _ _ h => h) (Or.inl ⟨?_, fun w hSw => ?_⟩) hHeld ?_
              rotate_left 2
              · (simp only [List.getElem?_toArray, List.getElem?_cons_succ, List.getElem?_cons_zero]; rfl)
              · rfl
              · (have l1 := (Hid.out hSw).cell hc1 hnb; have l2 := (Hid.out hSw).cell hc2 hnb; have l3 := (Hid.out hSw).cell hc3 hnb; clear hSw; go_simp; try (with_reducible rfl))
              simp only [Act.put, List.setIfInBounds_toArray, List.set_cons_zero, List.set_cons_succ]
              refine wpAnyH_take (i := 33) (oi := ?_) (v := ?_) ?_ (by kernel_rfl) (by kernel_rfl) (by kernel_rfl) (fun _ _ _ h => h) (Or.inl ⟨?_, fun w hSw => ?_⟩) hHeld ?_
              rotate_left 2
              · (simp only [List.getElem?_toArray, List.getElem?_cons_succ, List.getElem?_cons_zero]; rfl)
              · rfl
              · (clear hSw; go_simp; try (with_reducible rfl))
              simp only [Act.put, List.setIfInBounds_toArray, List.set_cons_zero, List.set_cons_succ]
              refine wpAnyH_take (i := 34) (oi := ?_) (v := ?_) ?_ (by kernel_rfl) (by kernel_rfl) (by kernel_rfl) (fun _ _ _ h => h) (Or.inl ⟨?_, fun w hSw => ?_⟩) hHeld ?_
              rotate_left 2
              · (simp only [List.getElem?_toArray, List.getElem?_cons_succ, List.getElem?_cons_zero]; rfl)
              · rfl
              · (clear hSw; go_simp; try (with_reducible rfl))
              simp only [Act.put, List.setIfInBounds_toArray, List.set_cons_zero, List.set_cons_succ]
              refine wpAnyH_take (i := 35) (oi := ?_) (v := ?_) ?_ (by kernel_rfl) (by kernel_rfl) (by kernel_rfl) (fun _ _ _ h => h) (Or.inl ⟨?_, fun w hSw => ?_⟩) hHeld ?_
              rotate_left 2
              · (simp only [List.getElem?_toArray, List.getElem?_cons_succ, List.getElem?_cons_zero]; rfl)
              · rfl
              · (clear hSw; go_simp; try (with_reducible rfl))
              simp only [Act.put, List.setIfInBounds_toArray, List.set_cons_zero, List.set_cons_succ]
              refine wpAnyH_take (i := 36) (oi := ?_) (v := ?_) ?_ (by kernel_rfl) (by kernel_rfl) (by kernel_rfl) (fun _ _ _ h => h) (Or.inl ⟨?_, fun w hSw => ?_⟩) hHeld ?_
              rotate_left 2
              · (simp only [List.getElem?_toArray, List.getElem?_cons_succ, List.getElem?_cons_zero]; rfl)
              · rfl
              · (clear hSw; go_simp; try (with_reducible rfl))
              simp only [Act.put, List.setIfInBounds_toArray, List.set_cons_zero, List.set_cons_succ]
              refine wpAnyH_done (by kernel_rfl) (NoPanic.normal ?_) _
              have Hk3 := Lib.hid (Hkp2.out.trans (Hid.out hHeld))
              go_wp2_with fail
              go_roundw
              case rel => exact ⟨j + 1, by omega, by go_num, Hw3.out, Hk3.out⟩
              case measure => simp [intOf]; omega
          · obtain rfl : j = k := by omega
            go_wp2_with fail
            refine (awake_true _).mono ?_
            rintro e w6 ⟨rfl, hk6⟩
            have Hr6 := Lib.hid (Hr.out.kp hk6 (fun _ _ => id))
            have Hk6 := Lib.hid (Hkp2.out.trans (hk6.mono fun k _ h => h.elim))
            clear hk6
            go_wp2_with fail
            refine (Reader_End _ _ _ p Hr6.out).mono ?_
            rintro e w7 ⟨rfl, rfl⟩
            have he : Rd.end_ ⟨encsF ((list.take j).drop j), 0⟩ = 0 := by
              have : (list.take j).drop j = [] := List.drop_of_length_le (by rw [List.length_take]; omega)
              rw [this]
              rfl
            rw [he]
            clear he
            go_wp2
            go_ret
            exact ⟨rfl, (HB.out ▸ Hk6.out).fresh⟩

theorem PackBack_law {H : Type} {enc : TypeId × Value → H} (W : World) (b0 : Nat) (v0 : Value) (d0 : DataW H) (p0 : List MemPlace) (ok0 : Value.okWide Try.prog W .any b0 22 v0)
    (h0 : DataW.Trod enc Try.prog W 0 (fun _ => true) true 22 v0 d0 p0) : Calls Try.prog 5 #[v0] W fun e W' => e = .returned (.bool true) ∧ Kp No W W' := by
  obtain ⟨xs, hx⟩ := readable_fields.arg Try.underlying22 ok0 h0
  exact PackBack_walk W xs v0 hx
end Go.Proofs.Ytifnghjkbdnkmaa
