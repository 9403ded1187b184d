/- Contracts of package customhouselaw21: nums, cube. -/
import Derived.Test.YtpaldbejnbcokaaRirR
import Derived.Test.YtpaldbejnbcokaaPackRef
namespace Go.Proofs.Ytpaldbejnbcokaa
open Go.RowKit
set_option linter.unusedSimpArgs false
set_option linter.unusedVariables false

theorem lw_nums_step (a : List UInt8) (n : UInt64) : bs a ++ bs (putF n 8) = bs (a ++ putF n 8) := bs_append _ _
theorem ofInt_wrap (u : UInt64) : IntKind.u64.wrap (i64of u) = (u.toNat : Int) := by rw [u64_ofInt, ofInt_i64of]

set_option maxHeartbeats 400000 in
theorem lw_nums (w : World) (F : Nat → Prop) (v : Value) (ns : List UInt64) (hv : SliceAt i64w w F ns v) (hF : ∀ b, F b → b < w.heap.size) (hb : ns.length ≤ 1000000000) :
    Calls Try.prog 20 #[v] w fun e w' => e = .returned (.string (bs (enc8 ns))) ∧ Kp No w w' := by
  obtain ⟨A, n, c, rfl, Hn, hc1, hc2⟩ := hv.form'
  have Hv := Lib.hid hv
  have Hb := Lib.hid hb
  clear hv hF hb
  go_enter Try.func20, Try.ntmps20
  go_wp2_with fail
  go_loopw [3, 4] (fun s i wr => ∃ k : Nat, k ≤ n ∧ i = .int .i64 k ∧ s = .string (bs (enc8 (ns.take k))) ∧ Kp No w wr) (fun _ i _ => n - (intOf i).toNat)
  case atStart => exact ⟨0, Nat.zero_le _, rfl, rfl, Kp.refl _ _⟩
  case round =>
    obtain ⟨k, hk, rfl, rfl, hkp⟩ := hrel
    have q3 : (0 : Int) ≤ (k : Int) := by omega
    by_cases hlt : k < n
    · obtain ⟨x, hx⟩ : ∃ x, ns[k]? = some x := ⟨_, List.getElem?_eq_getElem (by rw [← Hn.out]; exact hlt)⟩
      obtain ⟨b, off, rfl, hc⟩ := (Hv.out.kp hkp (fun _ _ => id)).get_i64 hx
      have Hkp := Lib.hid hkp
      have Hsn := Lib.hid (take_snoc hx)
      have q1 : (k : Int) < (n : Int) := by omega
      have q4 := ofInt_wrap x
      have q5 := lw_nums_step (enc8 (ns.take k)) x
      have q6 : (bs (enc8 (ns.take k))).size + (bs (putF x 8)).size ≤ 9223372036854775807 := by
        rw [bs_size, bs_size, putF_len, enc8_len, List.length_take]
        have := Hb.out
        omega
      clear hkp hx hlt
      go_wp2_with fail
      refine (ref_Big _ x 8 (by omega)).mono ?_
      rintro e w1 ⟨rfl, hk1⟩
      have Hk1 := Lib.hid (Hkp.out.trans hk1)
      clear hk1
      go_wp2_with fail
      go_roundw
      case rel => exact ⟨k + 1, by omega, by go_num, by rw [Hsn.out, enc8_append, enc8_cons, enc8_nil, List.append_nil], Hk1.out⟩
      case measure => simp [intOf]; omega
    · have Hkp := Lib.hid hkp
      have Hkn := Lib.hid (show k = ns.length by rw [← Hn.out]; omega)
      clear hkp
      go_wp2_with fail
      go_ret
      exact ⟨by show Ending.returned (.string (bs (enc8 (ns.take k)))) = _; rw [Hkn.out, List.take_of_length_le (Nat.le_refl _)], Hkp.out⟩

/-- Numbers that are handed over as a list laid for it. -/
theorem lw_nums_lit (w : World) (ns : List UInt64) (cs : Array Value) (m z : Nat) (hz : z = w.heap.size) (hcs : cs.toList = ns.map fun u => .int .i64 (i64of u)) (hm : m = ns.length) (hl : ns.length ≤ 1000) :
    Calls Try.prog 20 #[.slice (some ⟨z, 0, none⟩) m m] (w.alloc (.cells cs 3)) fun e w' => e = .returned (.string (bs (enc8 ns))) ∧ Kp No w w' := by
  subst hm
  subst hz
  have hs : SliceAt i64w (w.alloc (.cells cs 3)) (fun b => b = w.heap.size) ns (.slice (some ⟨w.heap.size, 0, none⟩) ns.length ns.length) := by
    refine ⟨_, ns.length, rfl, Nat.le_refl _, by unfold maxLen; omega, fun _ => ⟨w.heap.size, 0, rfl, rfl, by rw [alloc_size]; omega, cs.toList, ?_, fun j u hu => ?_⟩⟩
    · rw [hcs]
      have : ∀ l : List UInt64, All2 (i64w.rel (w.alloc (.cells cs 3)) (fun b => b = w.heap.size)) l (l.map fun u => .int .i64 (i64of u)) := by
        intro l
        induction l with
        | nil => rfl
        | cons x l ih => exact ⟨[.int .i64 (i64of x)], _, rfl, rfl, ih⟩
      exact this ns
    · rw [Nat.zero_add, cell_of_row _ w.heap.size j _ _ _ (heap_alloc_new w _)]
      rw [← hu]
      exact (Array.getElem?_toList ..).symm
  exact (lw_nums _ _ _ ns hs (fun b hb => by rw [hb, alloc_size]; omega) (by omega)).mono fun _ _ ⟨e, b⟩ => ⟨e, ((Kp.refl No w).alloc _).trans b⟩
/-- The same, in whatever world the list lies. -/
theorem lw_nums_at (w : World) (z : Nat) (ns : List UInt64) (cs : Array Value) (t : TypeId) (m : Nat) (hz : w.heap[z]? = some (.cells cs t (0, 0))) (hcs : cs.toList = ns.map fun u => .int .i64 (i64of u)) (hm : m = ns.length) (hl : ns.length ≤ 1000) :
    Calls Try.prog 20 #[.slice (some ⟨z, 0, none⟩) m m] w fun e w' => e = .returned (.string (bs (enc8 ns))) ∧ Kp No w w' := by
  subst hm
  have hlt : z < w.heap.size := (Array.getElem?_eq_some_iff.1 hz).1
  have hs : SliceAt i64w w (fun b => b = z) ns (.slice (some ⟨z, 0, none⟩) ns.length ns.length) := by
    refine ⟨_, ns.length, rfl, Nat.le_refl _, by unfold maxLen; omega, fun _ => ⟨z, 0, rfl, rfl, hlt, cs.toList, ?_, fun j u hu => ?_⟩⟩
    · rw [hcs]
      have : ∀ l : List UInt64, All2 (i64w.rel w (fun b => b = z)) l (l.map fun u => .int .i64 (i64of u)) := by
        intro l
        induction l with
        | nil => rfl
        | cons x l ih => exact ⟨[.int .i64 (i64of x)], _, rfl, rfl, ih⟩
      exact this ns
    · rw [Nat.zero_add, cell_of_row _ z j _ _ _ hz]
      rw [← hu]
      exact (Array.getElem?_toList ..).symm
  exact lw_nums _ _ _ ns hs (fun b hb => by rw [hb]; exact hlt) (by omega)

theorem lw_cube_words (x : Cb) : putF x.value.hi 8 ++ putF x.value.lo 8 ++ putF x.care.hi 8 ++ putF x.care.lo 8 = enc8 x.words := by simp [Cb.words, enc8]
set_option maxHeartbeats 400000 in
theorem lw_cube (w : World) (x : Cb) :
    Calls Try.prog 46 #[.agg #[.int .u64 x.value.hi.toNat, .int .u64 x.value.lo.toNat, .int .u64 x.care.hi.toNat, .int .u64 x.care.lo.toNat]] w fun e w' => e = .returned (.string (bs (enc8 x.words))) ∧ Kp No w w' := by
  obtain ⟨wx, hwx⟩ : ∃ wx, wx = w.alloc (.cells #[.int .u64 x.value.hi.toNat, .int .u64 x.value.lo.toNat, .int .u64 x.care.hi.toNat, .int .u64 x.care.lo.toNat] 108) := ⟨_, rfl⟩
  have hax := heap_alloc_new w (.cells #[.int .u64 x.value.hi.toNat, .int .u64 x.value.lo.toNat, .int .u64 x.care.hi.toNat, .int .u64 x.care.lo.toNat] 108)
  have hka : Kp No w wx := by rw [hwx]; exact (Kp.refl No w).alloc _
  rw [← hwx] at hax
  have Hwx := Lib.hid hwx
  have Hka := Lib.hid hka
  have c0 : wx.cell? ⟨w.heap.size, 0, none⟩ = some (.int .u64 x.value.hi.toNat) := cell_of_row _ _ 0 _ _ _ hax
  have c1 : wx.cell? ⟨w.heap.size, 1, none⟩ = some (.int .u64 x.value.lo.toNat) := cell_of_row _ _ 1 _ _ _ hax
  have c2 : wx.cell? ⟨w.heap.size, 2, none⟩ = some (.int .u64 x.care.hi.toNat) := cell_of_row _ _ 2 _ _ _ hax
  have c3 : wx.cell? ⟨w.heap.size, 3, none⟩ = some (.int .u64 x.care.lo.toNat) := cell_of_row _ _ 3 _ _ _ hax
  have cf : ∀ o, wx.frozen? ⟨w.heap.size, o, none⟩ = false := fun o => frz_of_row _ _ o _ _ hax
  have a1 : bs (putF x.value.hi 8) ++ bs (putF x.value.lo 8) = bs (putF x.value.hi 8 ++ putF x.value.lo 8) := bs_append _ _
  have a2 : bs (putF x.value.hi 8 ++ putF x.value.lo 8) ++ bs (putF x.care.hi 8) = bs (putF x.value.hi 8 ++ putF x.value.lo 8 ++ putF x.care.hi 8) := bs_append _ _
  have a3 : bs (putF x.value.hi 8 ++ (putF x.value.lo 8 ++ putF x.care.hi 8)) ++ bs (putF x.care.lo 8) = bs (enc8 x.words) := by rw [bs_append, ← List.append_assoc, lw_cube_words]
  have b1 : ¬ 9223372036854775807 < (bs (putF x.value.hi 8)).size + (bs (putF x.value.lo 8)).size := by simp only [bs_size, putF_len]; omega
  have b2 : ¬ 9223372036854775807 < (bs (putF x.value.hi 8 ++ putF x.value.lo 8)).size + (bs (putF x.care.hi 8)).size := by simp only [bs_size, List.length_append, putF_len]; omega
  have b3 : ¬ 9223372036854775807 < (bs (putF x.value.hi 8 ++ (putF x.value.lo 8 ++ putF x.care.hi 8))).size + (bs (putF x.care.lo 8)).size := by simp only [bs_size, List.length_append, putF_len]; omega
  clear hwx hax hka
  go_enter Try.func46, Try.ntmps46
  go_wp2_with fail
  rw [← Hwx.out]
  refine wp_region_noPanic ?_
  refine wp_region_held_drew (S := fun w' => Hid (Kp No wx w')) (by kernel_rfl) (Lib.hid (Kp.refl _ _).drew) (fun hHeld => ?_)
  refine wpAnyH_take (i := 0) (oi := ?_) (v := ?_) ?_ (by kernel_rfl) (by kernel_rfl) (by kernel_rfl) (fun _ _ _ h => h) (Or.inl ⟨?_, fun w hSw => ?_⟩) hHeld ?_
  rotate_left 2
  · (simp only [List.getElem?_toArray, List.getElem?_cons_zero]; rfl)
  · rfl
  · (clear hSw; go_simp; try (with_reducible rfl))
  simp only [Act.put, List.setIfInBounds_toArray, List.set_cons_zero, List.set_cons_succ]
  refine wpAnyH_take (i := 1) (oi := ?_) (v := ?_) ?_ (by kernel_rfl) (by kernel_rfl) (by kernel_rfl) (fun _ _ _ h => h) (Or.inl ⟨?_, fun w hSw => ?_⟩) hHeld ?_
  rotate_left 2
  · (simp only [List.getElem?_toArray, List.getElem?_cons_succ, List.getElem?_cons_zero]; rfl)
  · rfl
  · (clear hSw; go_simp; try (with_reducible rfl))
  simp only [Act.put, List.setIfInBounds_toArray, List.set_cons_zero, List.set_cons_succ]
  refine wpAnyH_take (i := 2) (oi := ?_) (v := ?_) ?_ (by kernel_rfl) (by kernel_rfl) (by kernel_rfl) (fun _ _ _ h => h) (Or.inl ⟨?_, fun w hSw => ?_⟩) hHeld ?_
  rotate_left 2
  · (simp only [List.getElem?_toArray, List.getElem?_cons_succ, List.getElem?_cons_zero]; rfl)
  · rfl
  · (have l0 := (Hid.out hSw).cell c0 id; have l1 := (Hid.out hSw).cell c1 id; have l2 := (Hid.out hSw).cell c2 id; have l3 := (Hid.out hSw).cell c3 id; clear hSw; go_simp; try (with_reducible rfl))
  simp only [Act.put, List.setIfInBounds_toArray, List.set_cons_zero, List.set_cons_succ]
  refine wpAnyH_take (i := 4) (oi := ?_) (v := ?_) ?_ (by kernel_rfl) (by kernel_rfl) (by kernel_rfl) (fun _ _ _ h => h) (Or.inl ⟨?_, fun w hSw => ?_⟩) hHeld ?_
  rotate_left 2
  · (simp only [List.getElem?_toArray, List.getElem?_cons_succ, List.getElem?_cons_zero]; rfl)
  · rfl
  · (clear hSw; go_simp; try (with_reducible rfl))
  simp only [Act.put, List.setIfInBounds_toArray, List.set_cons_zero, List.set_cons_succ]
  refine wpAnyH_take (i := 5) (oi := ?_) (v := ?_) ?_ (by kernel_rfl) (by kernel_rfl) (by kernel_rfl) (fun _ _ _ h => h) (Or.inl ⟨?_, fun w hSw => ?_⟩) hHeld ?_
  rotate_left 2
  · (simp only [List.getElem?_toArray, List.getElem?_cons_succ, List.getElem?_cons_zero]; rfl)
  · rfl
  · (clear hSw; go_simp; try (with_reducible rfl))
  simp only [Act.put, List.setIfInBounds_toArray, List.set_cons_zero, List.set_cons_succ]
  refine wpAnyH_take (i := 6) (oi := ?_) (v := ?_) ?_ (by kernel_rfl) (by kernel_rfl) (by kernel_rfl) (fun _ _ _ h => h) (Or.inl ⟨?_, fun w hSw => ?_⟩) hHeld ?_
  rotate_left 2
  · (simp only [List.getElem?_toArray, List.getElem?_cons_succ, List.getElem?_cons_zero]; rfl)
  · rfl
  · (have l0 := (Hid.out hSw).cell c0 id; have l1 := (Hid.out hSw).cell c1 id; have l2 := (Hid.out hSw).cell c2 id; have l3 := (Hid.out hSw).cell c3 id; clear hSw; go_simp; try (with_reducible rfl))
  simp only [Act.put, List.setIfInBounds_toArray, List.set_cons_zero, List.set_cons_succ]
  refine wpAnyH_take (i := 9) (oi := ?_) (v := ?_) ?_ (by kernel_rfl) (by kernel_rfl) (by kernel_rfl) (fun _ _ _ h => h) (Or.inl ⟨?_, fun w hSw => ?_⟩) hHeld ?_
  rotate_left 2
  · (simp only [List.getElem?_toArray, List.getElem?_cons_succ, List.getElem?_cons_zero]; rfl)
  · rfl
  · (clear hSw; go_simp; try (with_reducible rfl))
  simp only [Act.put, List.setIfInBounds_toArray, List.set_cons_zero, List.set_cons_succ]
  refine wpAnyH_take (i := 10) (oi := ?_) (v := ?_) ?_ (by kernel_rfl) (by kernel_rfl) (by kernel_rfl) (fun _ _ _ h => h) (Or.inl ⟨?_, fun w hSw => ?_⟩) hHeld ?_
  rotate_left 2
  · (simp only [List.getElem?_toArray, List.getElem?_cons_succ, List.getElem?_cons_zero]; rfl)
  · rfl
  · (clear hSw; go_simp; try (with_reducible rfl))
  simp only [Act.put, List.setIfInBounds_toArray, List.set_cons_zero, List.set_cons_succ]
  refine wpAnyH_take (i := 11) (oi := ?_) (v := ?_) ?_ (by kernel_rfl) (by kernel_rfl) (by kernel_rfl) (fun _ _ _ h => h) (Or.inl ⟨?_, fun w hSw => ?_⟩) hHeld ?_
  rotate_left 2
  · (simp only [List.getElem?_toArray, List.getElem?_cons_succ, List.getElem?_cons_zero]; rfl)
  · rfl
  · (have l0 := (Hid.out hSw).cell c0 id; have l1 := (Hid.out hSw).cell c1 id; have l2 := (Hid.out hSw).cell c2 id; have l3 := (Hid.out hSw).cell c3 id; clear hSw; go_simp; try (with_reducible rfl))
  simp only [Act.put, List.setIfInBounds_toArray, List.set_cons_zero, List.set_cons_succ]
  refine wpAnyH_take (i := 14) (oi := ?_) (v := ?_) ?_ (by kernel_rfl) (by kernel_rfl) (by kernel_rfl) (fun _ _ _ h => h) (Or.inl ⟨?_, fun w hSw => ?_⟩) hHeld ?_
  rotate_left 2
  · (simp only [List.getElem?_toArray, List.getElem?_cons_succ, List.getElem?_cons_zero]; rfl)
  · rfl
  · (clear hSw; go_simp; try (with_reducible rfl))
  simp only [Act.put, List.setIfInBounds_toArray, List.set_cons_zero, List.set_cons_succ]
  refine wpAnyH_take (i := 15) (oi := ?_) (v := ?_) ?_ (by kernel_rfl) (by kernel_rfl) (by kernel_rfl) (fun _ _ _ h => h) (Or.inl ⟨?_, fun w hSw => ?_⟩) hHeld ?_
  rotate_left 2
  · (simp only [List.getElem?_toArray, List.getElem?_cons_succ, List.getElem?_cons_zero]; rfl)
  · rfl
  · (clear hSw; go_simp; try (with_reducible rfl))
  simp only [Act.put, List.setIfInBounds_toArray, List.set_cons_zero, List.set_cons_succ]
  refine wpAnyH_take (i := 16) (oi := ?_) (v := ?_) ?_ (by kernel_rfl) (by kernel_rfl) (by kernel_rfl) (fun _ _ _ h => h) (Or.inl ⟨?_, fun w hSw => ?_⟩) hHeld ?_
  rotate_left 2
  · (simp only [List.getElem?_toArray, List.getElem?_cons_succ, List.getElem?_cons_zero]; rfl)
  · rfl
  · (have l0 := (Hid.out hSw).cell c0 id; have l1 := (Hid.out hSw).cell c1 id; have l2 := (Hid.out hSw).cell c2 id; have l3 := (Hid.out hSw).cell c3 id; clear hSw; go_simp; try (with_reducible rfl))
  simp only [Act.put, List.setIfInBounds_toArray, List.set_cons_zero, List.set_cons_succ]
  refine wpAnyH_ready (rs := [3]) (by kernel_rfl) (by simp) ?_
  refine AllReadyH.cons (o := ?_) ?_ (fun K hK => ?_) AllReadyH.nil
  rotate_left
  · (simp only [List.getElem?_toArray, List.getElem?_cons_succ, List.getElem?_cons_zero]; rfl)
  go_simp
  refine (ref_Big _ x.value.hi 8 (by omega)).mono ?_
  rintro e w1 ⟨rfl, hk1⟩
  have hS := Lib.hid ((Kp.refl No wx).drew.trans hk1)
  clear hk1
  refine hK.out _ _ hS (fun hHeld => ?_)
  clear hK K
  (try simp only [Act.put, List.setIfInBounds_toArray, List.set_cons_zero, List.set_cons_succ])
  refine wpAnyH_ready (rs := [7]) (by kernel_rfl) (by simp) ?_
  refine AllReadyH.cons (o := ?_) ?_ (fun K hK => ?_) AllReadyH.nil
  rotate_left
  · (simp only [List.getElem?_toArray, List.getElem?_cons_succ, List.getElem?_cons_zero]; rfl)
  go_simp
  refine (ref_Big _ x.value.lo 8 (by omega)).mono ?_
  rintro e w2 ⟨rfl, hk2⟩
  have hS := Lib.hid ((Hid.out hHeld).trans hk2)
  clear hk2
  refine hK.out _ _ hS (fun hHeld => ?_)
  clear hK K
  (try simp only [Act.put, List.setIfInBounds_toArray, List.set_cons_zero, List.set_cons_succ])
  refine wpAnyH_take (i := 8) (oi := ?_) (v := ?_) ?_ (by kernel_rfl) (by kernel_rfl) (by kernel_rfl) (fun _ _ _ h => h) (Or.inl ⟨?_, fun w hSw => ?_⟩) hHeld ?_
  rotate_left 2
  · (simp only [List.getElem?_toArray, List.getElem?_cons_succ, List.getElem?_cons_zero]; rfl)
  · rfl
  · (clear hSw; go_simp; try (with_reducible rfl))
  simp only [Act.put, List.setIfInBounds_toArray, List.set_cons_zero, List.set_cons_succ]
  refine wpAnyH_ready (rs := [12]) (by kernel_rfl) (by simp) ?_
  refine AllReadyH.cons (o := ?_) ?_ (fun K hK => ?_) AllReadyH.nil
  rotate_left
  · (simp only [List.getElem?_toArray, List.getElem?_cons_succ, List.getElem?_cons_zero]; rfl)
  go_simp
  refine (ref_Big _ x.care.hi 8 (by omega)).mono ?_
  rintro e w3 ⟨rfl, hk3⟩
  have hS := Lib.hid ((Hid.out hHeld).trans hk3)
  clear hk3
  refine hK.out _ _ hS (fun hHeld => ?_)
  clear hK K
  (try simp only [Act.put, List.setIfInBounds_toArray, List.set_cons_zero, List.set_cons_succ])
  refine wpAnyH_take (i := 13) (oi := ?_) (v := ?_) ?_ (by kernel_rfl) (by kernel_rfl) (by kernel_rfl) (fun _ _ _ h => h) (Or.inl ⟨?_, fun w hSw => ?_⟩) hHeld ?_
  rotate_left 2
  · (simp only [List.getElem?_toArray, List.getElem?_cons_succ, List.getElem?_cons_zero]; rfl)
  · rfl
  · (clear hSw; go_simp; try (with_reducible rfl))
  simp only [Act.put, List.setIfInBounds_toArray, List.set_cons_zero, List.set_cons_succ]
  refine wpAnyH_ready (rs := [17]) (by kernel_rfl) (by simp) ?_
  refine AllReadyH.cons (o := ?_) ?_ (fun K hK => ?_) AllReadyH.nil
  rotate_left
  · (simp only [List.getElem?_toArray, List.getElem?_cons_succ, List.getElem?_cons_zero]; rfl)
  go_simp
  refine (ref_Big _ x.care.lo 8 (by omega)).mono ?_
  rintro e w4 ⟨rfl, hk4⟩
  have hS := Lib.hid ((Hid.out hHeld).trans hk4)
  clear hk4
  refine hK.out _ _ hS (fun hHeld => ?_)
  clear hK K
  (try simp only [Act.put, List.setIfInBounds_toArray, List.set_cons_zero, List.set_cons_succ])
  refine wpAnyH_take (i := 18) (oi := ?_) (v := ?_) ?_ (by kernel_rfl) (by kernel_rfl) (by kernel_rfl) (fun _ _ _ h => h) (Or.inl ⟨?_, fun w hSw => ?_⟩) hHeld ?_
  rotate_left 2
  · (simp only [List.getElem?_toArray, List.getElem?_cons_succ, List.getElem?_cons_zero]; rfl)
  · rfl
  · (clear hSw; go_simp; try (with_reducible rfl))
  simp only [Act.put, List.setIfInBounds_toArray, List.set_cons_zero, List.set_cons_succ]
  refine wpAnyH_take (i := 19) (oi := ?_) (v := ?_) ?_ (by kernel_rfl) (by kernel_rfl) (by kernel_rfl) (fun _ _ _ h => h) (Or.inl ⟨?_, fun w hSw => ?_⟩) hHeld ?_
  rotate_left 2
  · (simp only [List.getElem?_toArray, List.getElem?_cons_succ, List.getElem?_cons_zero]; rfl)
  · rfl
  · (clear hSw; go_simp; try (with_reducible rfl))
  simp only [Act.put, List.setIfInBounds_toArray, List.set_cons_zero, List.set_cons_succ]
  refine wpAnyH_done (by kernel_rfl) (NoPanic.normal ?_) _
  have Hf := Lib.hid (Hka.out.trans (Hid.out hHeld))
  clear hHeld
  go_wp2_with fail
  go_ret
  exact ⟨rfl, Hf.out⟩
end Go.Proofs.Ytpaldbejnbcokaa
