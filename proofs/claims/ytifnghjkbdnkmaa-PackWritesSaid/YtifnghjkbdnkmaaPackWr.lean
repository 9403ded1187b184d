/- The law PackWrites: the walk. -/
import Derived.Test.YtifnghjkbdnkmaaPackF
import Derived.LaidEqlPtr
namespace Go.Proofs.Ytifnghjkbdnkmaa
open Go.RowKit Go.WideShapes Go.ChangeShapes

/-- A field by its kind. -/
def encW (f : Field) : List UInt8 := if f.what = 0 then putF (UInt64.ofInt f.n) 8 else if f.what = 1 then putF f.w 8 else if f.what = 2 then textF f.s else []
def encsW (l : List Field) : List UInt8 := l.flatMap encW
theorem encsW_snoc (l : List Field) (f : Field) : encsW (l ++ [f]) = encsW l ++ encW f := by simp [encsW]
theorem encW_len (f : Field) : (encW f).length ≤ 16777220 := by
  have := text_len f.s
  unfold encW
  split
  · rw [putF_len]; omega
  · split
    · rw [putF_len]; omega
    · split
      · exact this
      · simp
theorem encsW_len : ∀ (l : List Field), (encsW l).length ≤ l.length * 16777220
  | [] => by simp [encsW]
  | f :: l => by
    have h1 := encW_len f
    have h2 := encsW_len l
    have e : encsW (f :: l) = encW f ++ encsW l := by simp [encsW]
    rw [e, List.length_append, List.length_cons, Nat.add_mul]
    omega
theorem WriterAt.clip {w : World} {X : Nat → Prop} {l : List UInt8} {p : Nat} (h : WriterAt w X l p) : WriterAt w (fun b => X b ∧ b < w.heap.size) l p := by
  obtain ⟨hp, sv, hh, ho⟩ := h
  exact ⟨⟨hp, (Array.getElem?_eq_some_iff.1 hh).1⟩, sv, hh, ho.mono fun b hb h => ⟨⟨h.1, hb⟩, h.2⟩⟩
theorem textB_bs (s : ByteArray) : textB s = bs (textF s) := by
  apply ByteArray.ext
  apply Array.ext'
  rw [textB_list]
  rfl
theorem sealF_bs (l : List UInt8) : sealF (bs l) = bs (l ++ putF (sumF l) 8) := by
  rw [sealF, bs_append]
  rfl

theorem ref_Sealed_l (w : World) (l : List UInt8) (hl : l.length + 8 ≤ 9223372036854775807) :
    Calls Try.prog 15 #[.string (bs l)] w fun e w' => e = .returned (.string (bs (l ++ putF (sumF l) 8))) ∧ Kp No w w' := by
  have h := ref_Sealed w (bs l) (by rw [bs_size]; exact hl)
  rw [sealF_bs] at h
  exact h
theorem ref_Text_l (w : World) (s : ByteArray) (hs : s.size ≤ 9223372036854775807) :
    Calls Try.prog 12 #[.string s] w fun e w' => e = .returned (.string (bs (textF s))) ∧ Kp No w w' := by
  have h := ref_Text w s hs
  rw [textB_bs] at h
  exact h
theorem Try.infoWriter : ∃ j, Try.prog.info? 53 = some j ∧ j.size ≠ 0 := ⟨_, rfl, by decide⟩
theorem writer_same (w : World) (a : Addr) : (binOp .eql 23 (.pointer (some a)) (.pointer (some a))).run Try.prog w = .ok (.bool true) w := by
  obtain ⟨j, hj, _⟩ := Try.infoWriter
  exact run_eql_ptr_same w a Try.underlying23 hj

set_option maxRecDepth 100000 in
set_option maxHeartbeats 4000000 in
theorem PackWrites_walk (w : World) (list : List Field) (v : Value) (h : SliceAt fieldR w (fun b => b < w.heap.size) list v) :
    Calls Try.prog 3 #[v] w fun e w' => e = .returned (.bool true) ∧ Kp No w w' := by
  obtain ⟨A, n, c, rfl, Hn, hc1, hc2⟩ := h.form'
  have H := Lib.hid h
  clear h
  obtain ⟨B, hB⟩ : ∃ B, B = w.heap.size := ⟨_, rfl⟩
  have HB := Lib.hid hB
  go_enter Try.func3, Try.ntmps3
  go_wp2_with fail
  refine (pack_New_f _ B hB).mono ?_
  rintro e w1 ⟨rfl, hw1, hk1⟩
  have Hw1 := Lib.hid hw1
  have Hk1 := Lib.hid hk1
  clear hw1 hk1 hB
  go_wp2_with fail
  go_loopw [4, 5] (fun s i wr => ∃ k : Nat, k ≤ n ∧ k ≤ 100 ∧ i = .int .i64 k ∧ s = .string (bs (encsW (list.take k))) ∧ WriterAt wr (From B) (encsW (list.take k)) B ∧ Kp (From B) w wr) (fun _ i _ => 100 - (intOf i).toNat)
  case atStart => exact ⟨0, Nat.zero_le _, Nat.zero_le _, rfl, rfl, Hw1.out, Hk1.out⟩
  case round =>
    clear Hw1 Hk1
    obtain ⟨k, hk1, hk2, rfl, rfl, hw, hkp⟩ := hrel
    have Hw := Lib.hid hw
    have Hkp := Lib.hid hkp
    clear hw hkp
    have q3 : (0 : Int) ≤ (k : Int) := by omega
    obtain ⟨L, hL⟩ : ∃ L, L = encsW (list.take k) := ⟨_, rfl⟩
    have hll : L.length ≤ 2000000000 := by
      have h1 := encsW_len (list.take k)
      have h2 : (list.take k).length ≤ 100 := by rw [List.length_take]; omega
      have h3 : (list.take k).length * 16777220 ≤ 100 * 16777220 := Nat.mul_le_mul_right _ h2
      rw [hL]
      exact Nat.le_trans h1 (Nat.le_trans h3 (by decide))
    have Hll := Lib.hid hll
    clear hll
    rw [← hL] at Hw
    rw [← hL]
    have HL := Lib.hid hL
    clear hL
    by_cases hlt : k < n ∧ k < 100
    · obtain ⟨f, hf⟩ : ∃ f, list[k]? = some f := ⟨_, List.getElem?_eq_getElem (by rw [← Hn.out]; omega)⟩
      obtain ⟨b, off, rfl, hb, hok, hc0, hc1', hc2', hc3'⟩ := (H.out.kp Hkp.out (fun x hx => by rw [HB.out]; unfold From; omega)).get_field hf
      have Hsn := Lib.hid (take_snoc hf)
      have Hok := Lib.hid hok
      clear hf hok
      have q1 : (k : Int) < (n : Int) := by omega
      have q2 : (k : Int) < 100 := by omega
      have hnb : ¬ From B b := by rw [HB.out]; unfold From; omega
      clear hlt
      have Hsz := Lib.hid Hkp.out.size
      obtain ⟨wx, hwx⟩ : ∃ wx, wx = wr.alloc (.cells #[.int .i64 f.what, .int .i64 f.n, .int .u64 f.w.toNat, .string f.s] 27) := ⟨_, rfl⟩
      have Hwx := Lib.hid hwx
      have hax := heap_alloc_new wr (.cells #[.int .i64 f.what, .int .i64 f.n, .int .u64 f.w.toNat, .string f.s] 27)
      rw [← hwx] at hax
      have HX := Lib.hid (by rw [hwx]; exact Hw.out.clip.kp ((Kp.refl No wr).alloc _) (fun _ _ => id) : WriterAt wx (fun b => From B b ∧ b < wr.heap.size) L B)
      have Hkx := Lib.hid (by rw [hwx]; exact Hkp.out.alloc _ : Kp (From B) w wx)
      have hsx : wx.heap.size = wr.heap.size + 1 := by rw [hwx]; exact Array.size_push _
      have Hsx := Lib.hid hsx
      have hXF : ∀ b, Or (fun b => From B b ∧ b < wr.heap.size) wx.heap.size b → From B b := fun b hb => hb.elim (fun h => h.1) (fun h => by have := Hsz.out; have := Hsx.out; unfold From; rw [← HB.out] at *; omega)
      clear hwx hsx
      by_cases h0 : f.what = 0
      · have Henc := Lib.hid (show encW f = putF (UInt64.ofInt f.n) 8 by rw [encW, if_pos h0])
        have hn := u64_ofInt f.n
        have h0b : (f.what == 0) = true := by simpa using h0
        clear h0
        have hcx : wx.cell? ⟨wr.heap.size, 1, none⟩ = some (.int .i64 f.n) := cell_of_row wx _ 1 _ _ _ hax
        clear hax
        go_wp2_with fail
        rw [← Hwx.out]
        refine (Writer_Num _ _ _ _ f.n HX.out (by have := Hll.out; omega)).mono ?_
        rintro e w2 ⟨rfl, h2, hk2⟩
        have H2 := Lib.hid (h2.mono hXF)
        have Hk2 := Lib.hid (Hkx.out.trans (hk2.mono fun _ _ h => h.1))
        have hx := hk2.cell hcx (fun h => absurd h.2 (Nat.lt_irrefl _))
        have hpe := writer_same w2 ⟨B, 0, none⟩
        clear h2 hk2 hcx
        go_wp2_with fail
        refine (ref_Big' _ (UInt64.ofInt f.n) _ (by rw [← u64_ofInt]) 8 (by omega)).mono ?_
        rintro e w3 ⟨rfl, hk3⟩
        have H3 := Lib.hid (H2.out.kp hk3 (fun _ _ => id))
        have Hk3 := Lib.hid (Hk2.out.trans (hk3.mono fun _ _ h => h.elim))
        have hbb : (bs L).size + (bs (putF (UInt64.ofInt f.n) 8)).size ≤ 9223372036854775807 := by rw [bs_size, bs_size, putF_len]; have := Hll.out; omega
        clear hk3 hx
        go_wp2_with fail
        go_roundw
        case rel => exact ⟨k + 1, by omega, by omega, by go_num, by rw [Hsn.out, encsW_snoc, Henc.out, bs_append, HL.out], by rw [Hsn.out, encsW_snoc, Henc.out, ← HL.out]; exact H3.out, Hk3.out⟩
        case measure => simp [intOf]; omega
      · by_cases h1 : f.what = 1
        · have Henc := Lib.hid (show encW f = putF f.w 8 by rw [encW, if_neg h0, if_pos h1])
          have h0b : (f.what == 0) = false := by simpa using h0
          have h1b : (f.what == 1) = true := by simpa using h1
          clear h0 h1
          have hcx : wx.cell? ⟨wr.heap.size, 2, none⟩ = some (.int .u64 f.w.toNat) := cell_of_row wx _ 2 _ _ _ hax
          clear hax
          go_wp2_with fail
          rw [← Hwx.out]
          refine (Writer_Wide _ _ _ _ f.w HX.out (by have := Hll.out; omega)).mono ?_
          rintro e w2 ⟨rfl, h2, hk2⟩
          have H2 := Lib.hid (h2.mono hXF)
          have Hk2 := Lib.hid (Hkx.out.trans (hk2.mono fun _ _ h => h.1))
          have hx := hk2.cell hcx (fun h => absurd h.2 (Nat.lt_irrefl _))
          have hpe := writer_same w2 ⟨B, 0, none⟩
          clear h2 hk2 hcx
          go_wp2_with fail
          refine (ref_Big _ f.w 8 (by omega)).mono ?_
          rintro e w3 ⟨rfl, hk3⟩
          have H3 := Lib.hid (H2.out.kp hk3 (fun _ _ => id))
          have Hk3 := Lib.hid (Hk2.out.trans (hk3.mono fun _ _ h => h.elim))
          have hbb : (bs L).size + (bs (putF f.w 8)).size ≤ 9223372036854775807 := by rw [bs_size, bs_size, putF_len]; have := Hll.out; omega
          clear hk3 hx
          go_wp2_with fail
          go_roundw
          case rel => exact ⟨k + 1, by omega, by omega, by go_num, by rw [Hsn.out, encsW_snoc, Henc.out, bs_append, HL.out], by rw [Hsn.out, encsW_snoc, Henc.out, ← HL.out]; exact H3.out, Hk3.out⟩
          case measure => simp [intOf]; omega
        · by_cases h2 : f.what = 2
          · have Henc := Lib.hid (show encW f = textF f.s by rw [encW, if_neg h0, if_neg h1, if_pos h2])
            have h0b : (f.what == 0) = false := by simpa using h0
            have h1b : (f.what == 1) = false := by simpa using h1
            have h2b : (f.what == 2) = true := by simpa using h2
            clear h0 h1 h2
            have hcx : wx.cell? ⟨wr.heap.size, 3, none⟩ = some (.string f.s) := cell_of_row wx _ 3 _ _ _ hax
            clear hax
            go_wp2_with fail
            rw [← Hwx.out]
            refine (Writer_Text _ _ _ _ f.s HX.out (by have := Hll.out; omega)).mono ?_
            rintro e w2 ⟨rfl, h2, hk2⟩
            have H2 := Lib.hid (h2.mono hXF)
            have Hk2 := Lib.hid (Hkx.out.trans (hk2.mono fun _ _ h => h.1))
            have hx := hk2.cell hcx (fun h => absurd h.2 (Nat.lt_irrefl _))
            have hpe := writer_same w2 ⟨B, 0, none⟩
            clear h2 hk2 hcx
            go_wp2_with fail
            refine (ref_Text_l _ f.s Hok.out.2.2).mono ?_
            rintro e w3 ⟨rfl, hk3⟩
            have H3 := Lib.hid (H2.out.kp hk3 (fun _ _ => id))
            have Hk3 := Lib.hid (Hk2.out.trans (hk3.mono fun _ _ h => h.elim))
            have hbb : (bs L).size + (bs (textF f.s)).size ≤ 9223372036854775807 := by rw [bs_size, bs_size]; have := Hll.out; have := text_len f.s; omega
            clear hk3 hx
            go_wp2_with fail
            go_roundw
            case rel => exact ⟨k + 1, by omega, by omega, by go_num, by rw [Hsn.out, encsW_snoc, Henc.out, bs_append, HL.out], by rw [Hsn.out, encsW_snoc, Henc.out, ← HL.out]; exact H3.out, Hk3.out⟩
            case measure => simp [intOf]; omega
          · have Henc := Lib.hid (show encW f = [] by rw [encW, if_neg h0, if_neg h1, if_neg h2])
            have h0b : (f.what == 0) = false := by simpa using h0
            have h1b : (f.what == 1) = false := by simpa using h1
            have h2b : (f.what == 2) = false := by simpa using h2
            clear h0 h1 h2 hax
            go_wp2_with fail
            go_roundw
            case rel => exact ⟨k + 1, by omega, by omega, by go_num, by rw [Hsn.out, encsW_snoc, Henc.out, List.append_nil, HL.out], by rw [← Hwx.out, Hsn.out, encsW_snoc, Henc.out, List.append_nil, ← HL.out]; exact HX.out.mono fun _ h => h.1, by rw [← Hwx.out]; exact Hkx.out⟩
            case measure => simp [intOf]; omega
    · have hfork : ¬ k < n ∨ (k < n ∧ ¬ k < 100) := by omega
      clear hlt
      have hte := toList_same (a := bs (L ++ putF (sumF L) 8)) rfl
      rcases hfork with hfk | ⟨hfk, hfk2⟩
      all_goals
        go_wp2_with fail
        refine wp_region_noPanic ?_
        refine wp_region_held_drew (S := fun w' => Hid (Kp No wr w')) (by kernel_rfl) (Lib.hid (Kp.refl _ _).drew) (fun hHeld => ?_)
        refine wpAnyH_ready (rs := [0]) (by kernel_rfl) (by simp) ?_
        refine AllReadyH.cons (o := ?_) ?_ (fun K hK => ?_) AllReadyH.nil
        rotate_left
        · (simp only [List.getElem?_toArray, List.getElem?_cons_zero]; rfl)
        go_simp
        refine (awake_true _).mono ?_
        rintro e w5 ⟨rfl, hk5⟩
        have hS := Lib.hid ((Kp.refl No wr).drew.trans hk5)
        clear hk5
        refine hK.out _ _ hS (fun hHeld => ?_)
        clear hK K
        (try simp only [Act.put, List.setIfInBounds_toArray, List.set_cons_zero, List.set_cons_succ])
        refine wpAnyH_take (i := 1) (oi := ?_) (v := ?_) ?_ (by kernel_rfl) (by kernel_rfl) (by kernel_rfl) (fun _ _ _ h => h) (Or.inl ⟨?_, fun w hSw => ?_⟩) hHeld ?_
        rotate_left 2
        · (simp only [List.getElem?_toArray, List.getElem?_cons_succ, List.getElem?_cons_zero]; rfl)
        · rfl
        · (clear hSw; go_simp; try (with_reducible rfl))
        simp only [Act.put, List.setIfInBounds_toArray, List.set_cons_zero, List.set_cons_succ]
        refine wpAnyH_take (i := 2) (oi := ?_) (v := ?_) ?_ (by kernel_rfl) (by kernel_rfl) (by kernel_rfl) (fun _ _ _ h => h) (Or.inl ⟨?_, fun w hSw => ?_⟩) hHeld ?_
        rotate_left 2
        · (simp only [List.getElem?_toArray, List.getElem?_cons_succ, List.getElem?_cons_zero]; rfl)
        · rfl
        · (clear hSw; go_simp; try (with_reducible rfl))
        simp only [Act.put, List.setIfInBounds_toArray, List.set_cons_zero, List.set_cons_succ]
        refine wpAnyH_take (i := 5) (oi := ?_) (v := ?_) ?_ (by kernel_rfl) (by kernel_rfl) (by kernel_rfl) (fun _ _ _ h => h) (Or.inl ⟨?_, fun w hSw => ?_⟩) hHeld ?_
        rotate_left 2
        · (simp only [List.getElem?_toArray, List.getElem?_cons_succ, List.getElem?_cons_zero]; rfl)
        · rfl
        · (clear hSw; go_simp; try (with_reducible rfl))
        simp only [Act.put, List.setIfInBounds_toArray, List.set_cons_zero, List.set_cons_succ]
        refine wpAnyH_ready (rs := [3]) (by kernel_rfl) (by simp) ?_
        refine AllReadyH.cons (o := ?_) ?_ (fun K hK => ?_) AllReadyH.nil
        rotate_left
        · (simp only [List.getElem?_toArray, List.getElem?_cons_succ, List.getElem?_cons_zero]; rfl)
        go_simp
        refine (Writer_Bytes _ _ L _ (Hw.out.kp (Hid.out hHeld) (fun _ _ => id)) (by have := Hll.out; omega)).mono ?_
        rintro e w6 ⟨v6, rfl, hs6, hk6⟩
        have Hs6 := Lib.hid (hs6.mono (F' := fun _ => True) fun _ _ _ => trivial)
        have Hk6 := Lib.hid ((Hid.out hHeld).trans hk6)
        have hS := Hk6
        clear hs6 hk6
        refine hK.out _ _ hS (fun hHeld => ?_)
        clear hK K
        refine wpAnyH_strong (S' := fun w' => Hid (Kp No w6 w')) (fun w' h => Lib.hid (Hk6.out.trans (Hid.out h))) _ _ _ _ ?_
        clear hHeld
        have hHeld := Lib.hid (Kp.refl No w6)
        (try simp only [Act.put, List.setIfInBounds_toArray, List.set_cons_zero, List.set_cons_succ])
        refine wpAnyH_take (i := 4) (oi := ?_) (v := ?_) ?_ (by kernel_rfl) (by kernel_rfl) (by kernel_rfl) (fun _ _ _ h => h) (Or.inl ⟨?_, fun w hSw => ?_⟩) hHeld ?_
        rotate_left 2
        · (simp only [List.getElem?_toArray, List.getElem?_cons_succ, List.getElem?_cons_zero]; rfl)
        · rfl
        · (have l1 := run_conv_str Try.underlying34 Try.underlying5 Try.underlying9 (Hs6.out.kp (Hid.out hSw) (fun _ _ => id)); clear hSw; go_simp; try (with_reducible rfl))
        simp only [Act.put, List.setIfInBounds_toArray, List.set_cons_zero, List.set_cons_succ]
        refine wpAnyH_ready (rs := [6]) (by kernel_rfl) (by simp) ?_
        refine AllReadyH.cons (o := ?_) ?_ (fun K hK => ?_) AllReadyH.nil
        rotate_left
        · (simp only [List.getElem?_toArray, List.getElem?_cons_succ, List.getElem?_cons_zero]; rfl)
        go_simp
        refine (ref_Sealed_l _ L (by have := Hll.out; omega)).mono ?_
        rintro e w7 ⟨rfl, hk7⟩
        have hS := Lib.hid ((Hid.out hHeld).trans hk7)
        clear hk7
        refine hK.out _ _ hS (fun hHeld => ?_)
        clear hK K
        (try simp only [Act.put, List.setIfInBounds_toArray, List.set_cons_zero, List.set_cons_succ])
        refine wpAnyH_take (i := 7) (oi := ?_) (v := ?_) ?_ (by kernel_rfl) (by kernel_rfl) (by kernel_rfl) (fun _ _ _ h => h) (Or.inl ⟨?_, fun w hSw => ?_⟩) hHeld ?_
        rotate_left 2
        · (simp only [List.getElem?_toArray, List.getElem?_cons_succ, List.getElem?_cons_zero]; rfl)
        · rfl
        · (clear hSw; go_simp; try (with_reducible rfl))
        simp only [Act.put, List.setIfInBounds_toArray, List.set_cons_zero, List.set_cons_succ]
        refine wpAnyH_take (i := 8) (oi := ?_) (v := ?_) ?_ (by kernel_rfl) (by kernel_rfl) (by kernel_rfl) (fun _ _ _ h => h) (Or.inl ⟨?_, fun w hSw => ?_⟩) hHeld ?_
        rotate_left 2
        · (simp only [List.getElem?_toArray, List.getElem?_cons_succ, List.getElem?_cons_zero]; rfl)
        · rfl
        · (clear hSw; go_simp; try (with_reducible rfl))
        simp only [Act.put, List.setIfInBounds_toArray, List.set_cons_zero, List.set_cons_succ]
        refine wpAnyH_take (i := 9) (oi := ?_) (v := ?_) ?_ (by kernel_rfl) (by kernel_rfl) (by kernel_rfl) (fun _ _ _ h => h) (Or.inl ⟨?_, fun w hSw => ?_⟩) hHeld ?_
        rotate_left 2
        · (simp only [List.getElem?_toArray, List.getElem?_cons_succ, List.getElem?_cons_zero]; rfl)
        · rfl
        · (clear hSw; go_simp; try (with_reducible rfl))
        simp only [Act.put, List.setIfInBounds_toArray, List.set_cons_zero, List.set_cons_succ]
        refine wpAnyH_take (i := 10) (oi := ?_) (v := ?_) ?_ (by kernel_rfl) (by kernel_rfl) (by kernel_rfl) (fun _ _ _ h => h) (Or.inl ⟨?_, fun w hSw => ?_⟩) hHeld ?_
        rotate_left 2
        · (simp only [List.getElem?_toArray, List.getElem?_cons_succ, List.getElem?_cons_zero]; rfl)
        · rfl
        · (clear hSw; go_simp; try (with_reducible rfl))
        simp only [Act.put, List.setIfInBounds_toArray, List.set_cons_zero, List.set_cons_succ]
        refine wpAnyH_ready (rs := [11]) (by kernel_rfl) (by simp) ?_
        refine AllReadyH.cons (o := ?_) ?_ (fun K hK => ?_) AllReadyH.nil
        rotate_left
        · (simp only [List.getElem?_toArray, List.getElem?_cons_succ, List.getElem?_cons_zero]; rfl)
        go_simp
        refine (Writer_Num_nil _ _).mono ?_
        rintro e w8 ⟨rfl, rfl⟩
        have hS := hHeld
        refine hK.out _ _ hS (fun hHeld => ?_)
        clear hK K
        (try simp only [Act.put, List.setIfInBounds_toArray, List.set_cons_zero, List.set_cons_succ])
        refine wpAnyH_take (i := 12) (oi := ?_) (v := ?_) ?_ (by kernel_rfl) (by kernel_rfl) (by kernel_rfl) (fun _ _ _ h => h) (Or.inl ⟨?_, fun w hSw => ?_⟩) hHeld ?_
        rotate_left 2
        · (simp only [List.getElem?_toArray, List.getElem?_cons_succ, List.getElem?_cons_zero]; rfl)
        · rfl
        · (clear hSw; go_simp; try (with_reducible rfl))
        simp only [Act.put, List.setIfInBounds_toArray, List.set_cons_zero, List.set_cons_succ]
        refine wpAnyH_take (i := 13) (oi := ?_) (v := ?_) ?_ (by kernel_rfl) (by kernel_rfl) (by kernel_rfl) (fun _ _ _ h => h) (Or.inl ⟨?_, fun w hSw => ?_⟩) hHeld ?_
        rotate_left 2
        · (simp only [List.getElem?_toArray, List.getElem?_cons_succ, List.getElem?_cons_zero]; rfl)
        · rfl
        · (clear hSw; go_simp; try (with_reducible rfl))
        simp only [Act.put, List.setIfInBounds_toArray, List.set_cons_zero, List.set_cons_succ]
        refine wpAnyH_take (i := 14) (oi := ?_) (v := ?_) ?_ (by kernel_rfl) (by kernel_rfl) (by kernel_rfl) (fun _ _ _ h => h) (Or.inl ⟨?_, fun w hSw => ?_⟩) hHeld ?_
        rotate_left 2
        · (simp only [List.getElem?_toArray, List.getElem?_cons_succ, List.getElem?_cons_zero]; rfl)
        · rfl
        · (clear hSw; go_simp; try (with_reducible rfl))
        simp only [Act.put, List.setIfInBounds_toArray, List.set_cons_zero, List.set_cons_succ]
        refine wpAnyH_take (i := 15) (oi := ?_) (v := ?_) ?_ (by kernel_rfl) (by kernel_rfl) (by kernel_rfl) (fun _ _ _ h => h) (Or.inl ⟨?_, fun w hSw => ?_⟩) hHeld ?_
        rotate_left 2
        · (simp only [List.getElem?_toArray, List.getElem?_cons_succ, List.getElem?_cons_zero]; rfl)
        · rfl
        · (clear hSw; go_simp; try (with_reducible rfl))
        simp only [Act.put, List.setIfInBounds_toArray, List.set_cons_zero, List.set_cons_succ]
        refine wpAnyH_ready (rs := [16]) (by kernel_rfl) (by simp) ?_
        refine AllReadyH.cons (o := ?_) ?_ (fun K hK => ?_) AllReadyH.nil
        rotate_left
        · (simp only [List.getElem?_toArray, List.getElem?_cons_succ, List.getElem?_cons_zero]; rfl)
        go_simp
        refine (Writer_Wide_nil _ _).mono ?_
        rintro e w8 ⟨rfl, rfl⟩
        have hS := hHeld
        refine hK.out _ _ hS (fun hHeld => ?_)
        clear hK K
        (try simp only [Act.put, List.setIfInBounds_toArray, List.set_cons_zero, List.set_cons_succ])
        refine wpAnyH_take (i := 17) (oi := ?_) (v := ?_) ?_ (by kernel_rfl) (by kernel_rfl) (by kernel_rfl) (fun _ _ _ h => h) (Or.inl ⟨?_, fun w hSw => ?_⟩) hHeld ?_
        rotate_left 2
        · (simp only [List.getElem?_toArray, List.getElem?_cons_succ, List.getElem?_cons_zero]; rfl)
        · rfl
        · (clear hSw; go_simp; try (with_reducible rfl))
        simp only [Act.put, List.setIfInBounds_toArray, List.set_cons_zero, List.set_cons_succ]
        refine wpAnyH_take (i := 18) (oi := ?_) (v := ?_) ?_ (by kernel_rfl) (by kernel_rfl) (by kernel_rfl) (fun _ _ _ h => h) (Or.inl ⟨?_, fun w hSw => ?_⟩) hHeld ?_
        rotate_left 2
        · (simp only [List.getElem?_toArray, List.getElem?_cons_succ, List.getElem?_cons_zero]; rfl)
        · rfl
        · (clear hSw; go_simp; try (with_reducible rfl))
        simp only [Act.put, List.setIfInBounds_toArray, List.set_cons_zero, List.set_cons_succ]
        refine wpAnyH_take (i := 19) (oi := ?_) (v := ?_) ?_ (by kernel_rfl) (by kernel_rfl) (by kernel_rfl) (fun _ _ _ h => h) (Or.inl ⟨?_, fun w hSw => ?_⟩) hHeld ?_
        rotate_left 2
        · (simp only [List.getElem?_toArray, List.getElem?_cons_succ, List.getElem?_cons_zero]; rfl)
        · rfl
        · (clear hSw; go_simp; try (with_reducible rfl))
        simp only [Act.put, List.setIfInBounds_toArray, List.set_cons_zero, List.set_cons_succ]
        refine wpAnyH_take (i := 20) (oi := ?_) (v := ?_) ?_ (by kernel_rfl) (by kernel_rfl) (by kernel_rfl) (fun _ _ _ h => h) (Or.inl ⟨?_, fun w hSw => ?_⟩) hHeld ?_
        rotate_left 2
        · (simp only [List.getElem?_toArray, List.getElem?_cons_succ, List.getElem?_cons_zero]; rfl)
        · rfl
        · (clear hSw; go_simp; try (with_reducible rfl))
        simp only [Act.put, List.setIfInBounds_toArray, List.set_cons_zero, List.set_cons_succ]
        refine wpAnyH_ready (rs := [21]) (by kernel_rfl) (by simp) ?_
        refine AllReadyH.cons (o := ?_) ?_ (fun K hK => ?_) AllReadyH.nil
        rotate_left
        · (simp only [List.getElem?_toArray, List.getElem?_cons_succ, List.getElem?_cons_zero]; rfl)
        go_simp
        refine (Writer_Text_nil _ _ (by decide)).mono ?_
        rintro e w8 ⟨rfl, rfl⟩
        have hS := hHeld
        refine hK.out _ _ hS (fun hHeld => ?_)
        clear hK K
        (try simp only [Act.put, List.setIfInBounds_toArray, List.set_cons_zero, List.set_cons_succ])
        refine wpAnyH_take (i := 22) (oi := ?_) (v := ?_) ?_ (by kernel_rfl) (by kernel_rfl) (by kernel_rfl) (fun _ _ _ h => h) (Or.inl ⟨?_, fun w hSw => ?_⟩) hHeld ?_
        rotate_left 2
        · (simp only [List.getElem?_toArray, List.getElem?_cons_succ, List.getElem?_cons_zero]; rfl)
        · rfl
        · (clear hSw; go_simp; try (with_reducible rfl))
        simp only [Act.put, List.setIfInBounds_toArray, List.set_cons_zero, List.set_cons_succ]
        refine wpAnyH_take (i := 23) (oi := ?_) (v := ?_) ?_ (by kernel_rfl) (by kernel_rfl) (by kernel_rfl) (fun _ _ _ h => h) (Or.inl ⟨?_, fun w hSw => ?_⟩) hHeld ?_
        rotate_left 2
        · (simp only [List.getElem?_toArray, List.getElem?_cons_succ, List.getElem?_cons_zero]; rfl)
        · rfl
        · (clear hSw; go_simp; try (with_reducible rfl))
        simp only [Act.put, List.setIfInBounds_toArray, List.set_cons_zero, List.set_cons_succ]
        refine wpAnyH_take (i := 24) (oi := ?_) (v := ?_) ?_ (by kernel_rfl) (by kernel_rfl) (by kernel_rfl) (fun _ _ _ h => h) (Or.inl ⟨?_, fun w hSw => ?_⟩) hHeld ?_
        rotate_left 2
        · (simp only [List.getElem?_toArray, List.getElem?_cons_succ, List.getElem?_cons_zero]; rfl)
        · rfl
        · (clear hSw; go_simp; try (with_reducible rfl))
        simp only [Act.put, List.setIfInBounds_toArray, List.set_cons_zero, List.set_cons_succ]
        refine wpAnyH_take (i := 25) (oi := ?_) (v := ?_) ?_ (by kernel_rfl) (by kernel_rfl) (by kernel_rfl) (fun _ _ _ h => h) (Or.inl ⟨?_, fun w hSw => ?_⟩) hHeld ?_
        rotate_left 2
        · (simp only [List.getElem?_toArray, List.getElem?_cons_succ, List.getElem?_cons_zero]; rfl)
        · rfl
        · (clear hSw; go_simp; try (with_reducible rfl))
        simp only [Act.put, List.setIfInBounds_toArray, List.set_cons_zero, List.set_cons_succ]
        refine wpAnyH_ready (rs := [26]) (by kernel_rfl) (by simp) ?_
        refine AllReadyH.cons (o := ?_) ?_ (fun K hK => ?_) AllReadyH.nil
        rotate_left
        · (simp only [List.getElem?_toArray, List.getElem?_cons_succ, List.getElem?_cons_zero]; rfl)
        go_simp
        refine (Writer_Bytes_nil _).mono ?_
        rintro e w8 ⟨rfl, rfl⟩
        have hS := hHeld
        refine hK.out _ _ hS (fun hHeld => ?_)
        clear hK K
        (try simp only [Act.put, List.setIfInBounds_toArray, List.set_cons_zero, List.set_cons_succ])
        refine wpAnyH_take (i := 27) (oi := ?_) (v := ?_) ?_ (by kernel_rfl) (by kernel_rfl) (by kernel_rfl) (fun _ _ _ h => h) (Or.inl ⟨?_, fun w hSw => ?_⟩) hHeld ?_
        rotate_left 2
        · (simp only [List.getElem?_toArray, List.getElem?_cons_succ, List.getElem?_cons_zero]; rfl)
        · rfl
        · (clear hSw; go_simp; try (with_reducible rfl))
        simp only [Act.put, List.setIfInBounds_toArray, List.set_cons_zero, List.set_cons_succ]
        refine wpAnyH_take (i := 28) (oi := ?_) (v := ?_) ?_ (by kernel_rfl) (by kernel_rfl) (by kernel_rfl) (fun _ _ _ h => h) (Or.inl ⟨?_, fun w hSw => ?_⟩) hHeld ?_
        rotate_left 2
        · (simp only [List.getElem?_toArray, List.getElem?_cons_succ, List.getElem?_cons_zero]; rfl)
        · rfl
        · (clear hSw; go_simp; try (with_reducible rfl))
        simp only [Act.put, List.setIfInBounds_toArray, List.set_cons_zero, List.set_cons_succ]
        refine wpAnyH_take (i := 29) (oi := ?_) (v := ?_) ?_ (by kernel_rfl) (by kernel_rfl) (by kernel_rfl) (fun _ _ _ h => h) (Or.inl ⟨?_, fun w hSw => ?_⟩) hHeld ?_
        rotate_left 2
        · (simp only [List.getElem?_toArray, List.getElem?_cons_succ, List.getElem?_cons_zero]; rfl)
        · rfl
        · (clear hSw; go_simp; try (with_reducible rfl))
        simp only [Act.put, List.setIfInBounds_toArray, List.set_cons_zero, List.set_cons_succ]
        refine wpAnyH_take (i := 30) (oi := ?_) (v := ?_) ?_ (by kernel_rfl) (by kernel_rfl) (by kernel_rfl) (fun _ _ _ h => h) (Or.inl ⟨?_, fun w hSw => ?_⟩) hHeld ?_
        rotate_left 2
        · (simp only [List.getElem?_toArray, List.getElem?_cons_succ, List.getElem?_cons_zero]; rfl)
        · rfl
        · (clear hSw; go_simp; try (with_reducible rfl))
        simp only [Act.put, List.setIfInBounds_toArray, List.set_cons_zero, List.set_cons_succ]
        refine wpAnyH_done (by kernel_rfl) (NoPanic.normal ?_) _
        have Hkf := Lib.hid (Hkp.out.trans ((Hk6.out.trans (Hid.out hHeld)).mono fun _ _ h => h.elim))
        clear hHeld
        go_wp2_with fail
        go_ret
        exact ⟨rfl, (HB.out ▸ Hkf.out : Kp (From w.heap.size) w _).fresh⟩

theorem PackWrites_law {H : Type} {enc : TypeId × Value → H} (W : World) (b0 : Nat) (v0 : Value) (d0 : DataW H) (p0 : List MemPlace) (ok0 : Value.okWide Try.prog W .any b0 22 v0)
    (h0 : DataW.Trod enc Try.prog W 0 (fun _ => true) true 22 v0 d0 p0) : Calls Try.prog 3 #[v0] W fun e W' => e = .returned (.bool true) ∧ Kp No W W' := by
  obtain ⟨xs, hx⟩ := readable_fields.arg Try.underlying22 ok0 h0
  exact PackWrites_walk W xs v0 hx
end Go.Proofs.Ytifnghjkbdnkmaa
