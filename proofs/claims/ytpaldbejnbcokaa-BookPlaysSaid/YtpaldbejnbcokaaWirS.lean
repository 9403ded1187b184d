/- Contracts of package wire: the writer's head, cube, rule, port, peer, way. -/
import Derived.Test.YtpaldbejnbcokaaWirB
namespace Go.Proofs.Ytpaldbejnbcokaa
open Go.RowKit

theorem alloc_size (w : World) (o : Obj) : (w.alloc o).heap.size = w.heap.size + 1 := Array.size_push _
theorem New.mono {w w' : World} {X : Nat → Prop} (h : New w X) (hs : w.heap.size ≤ w'.heap.size) : New w' X := fun b hb => h b (Nat.le_trans hs hb)
/-- What is laid anew beside the writer. -/
theorem WirAt.box {w : World} {X : Nat → Prop} {l : List UInt8} {lg : Bool} {q : Nat} (h : WirAt w X l lg q) (hX : New w X) (o : Obj) :
    WirAt (w.alloc o) (fun b => X b ∧ b ≠ w.heap.size) l lg q ∧ New (w.alloc o) (fun b => X b ∧ b ≠ w.heap.size) := by
  refine ⟨(h.clip.mono fun b hb => ⟨hb.1, Nat.ne_of_lt hb.2⟩).kp ((Kp.refl No w).alloc o) (fun _ _ => id), fun b hb => ?_⟩
  rw [alloc_size] at hb
  exact ⟨hX b (by omega), by omega⟩
theorem Kp.unbox {w w1 : World} {X : Nat → Prop} {o : Obj} (h : Kp (fun b => X b ∧ b ≠ w.heap.size) (w.alloc o) w1) : Kp X w w1 := ((Kp.refl X w).alloc o).trans (h.mono fun _ _ h => h.1)
theorem WirAt.unbox {w1 : World} {X : Nat → Prop} {l : List UInt8} {lg : Bool} {q n : Nat} (h : WirAt w1 (fun b => X b ∧ b ≠ n) l lg q) : WirAt w1 X l lg q := h.mono fun _ h => h.1

theorem New.or {w : World} {X : Nat → Prop} (h : New w X) {n : Nat} (hn : w.heap.size ≤ n) {q : Nat} (hq : q < w.heap.size) : ∀ b, Or (fun b => X b ∧ b ≠ q) n b → X b ∧ b ≠ q := fun b hb => hb.elim id fun hb => ⟨h b (Nat.le_trans hn hb), fun e => by have : n ≤ b := hb; omega⟩

/-- Numbers that are handed over as a list laid for it. -/
theorem wir_nums_lit (w : World) (X : Nat → Prop) (l : List UInt8) (lg : Bool) (q : Nat) (ns : List UInt64) (cs : Array Value) (m z : Nat) (hz : z = w.heap.size) (hcs : cs.toList = ns.map fun u => .int .i64 (i64of u)) (hm : m = ns.length) (h : WirAt w X l lg q) (hX : New w X)
    (hb : l.length + 8 * ns.length ≤ 140737488355328) (hl : ns.length ≤ 9223372036854775807) :
    Calls Try.prog 61 #[.pointer (some ⟨q, 0, none⟩), .slice (some ⟨z, 0, none⟩) m m] (w.alloc (.cells cs 3)) fun e w' => e = .returned (.tuple #[]) ∧ WirAt w' X (l ++ enc8 ns) lg q ∧ Kp X w w' := by
  obtain ⟨h1, h2⟩ := h.box hX (.cells cs 3)
  subst hm
  subst hz
  have hs : SliceAt i64w (w.alloc (.cells cs 3)) (fun b => b = w.heap.size) ns (.slice (some ⟨w.heap.size, 0, none⟩) ns.length ns.length) := by
    refine ⟨_, ns.length, rfl, Nat.le_refl _, by unfold maxLen; omega, fun _ => ⟨w.heap.size, 0, rfl, rfl, by rw [alloc_size]; omega, cs.toList, ?_, fun j u hu => ?_⟩⟩
    · rw [hcs]
      have : ∀ l : List UInt64, All2 (i64w.rel (w.alloc (.cells cs 3)) (fun b => b = w.heap.size)) l (l.map fun u => .int .i64 (i64of u)) := by
        intro l
        induction l with
        | nil => rfl
        | cons x l ih => exact ⟨[.int .i64 (i64of x)], _, rfl, rfl, ih⟩
      exact this ns
    · rw [Nat.zero_add, cell_of_row _ w.heap.size j _ _ _ (heap_alloc_new w _)]
      rw [← hu]
      exact (Array.getElem?_toList ..).symm
  exact (wir_nums _ _ _ l lg q _ ns h1 h2 hs (fun b hb h => h.2 hb) hb).mono fun _ _ ⟨e, a, b⟩ => ⟨e, a.unbox, b.unbox⟩

set_option maxHeartbeats 400000 in
theorem wir_head (w : World) (X : Nat → Prop) (l : List UInt8) (lg : Bool) (q : Nat) (x : Hd) (h : WirAt w X l lg q) (hX : New w X) (hb : l.length + 16 ≤ 140737488355328) :
    Calls Try.prog 105 #[.pointer (some ⟨q, 0, none⟩), .agg #[.int .u64 x.hi.toNat, .int .u64 x.lo.toNat]] w fun e w' => e = .returned (.tuple #[]) ∧ WirAt w' X (l ++ enc8 x.words) lg q ∧ Kp X w w' := by
  obtain ⟨h1, h2⟩ := h.box hX (.cells #[.int .u64 x.hi.toNat, .int .u64 x.lo.toNat] 106)
  obtain ⟨wx, hwx⟩ : ∃ wx, wx = w.alloc (.cells #[.int .u64 x.hi.toNat, .int .u64 x.lo.toNat] 106) := ⟨_, rfl⟩
  have hax := heap_alloc_new w (.cells #[.int .u64 x.hi.toNat, .int .u64 x.lo.toNat] 106)
  rw [← hwx] at hax h1 h2
  have Hwx := Lib.hid hwx
  obtain ⟨p, hq, hXq, hw⟩ := h1
  have hc0 : wx.cell? ⟨q, 0, none⟩ = some (.pointer (some ⟨p, 0, none⟩)) := cell_of_row wx q 0 _ _ _ hq
  have hc2 : wx.cell? ⟨w.heap.size, 1, none⟩ = some (.int .u64 x.lo.toNat) := cell_of_row wx _ 1 _ _ _ hax
  have hc1 : wx.cell? ⟨w.heap.size, 0, none⟩ = some (.int .u64 x.hi.toNat) := cell_of_row wx _ 0 _ _ _ hax
  have Hq := Lib.hid hq
  have Hw := Lib.hid hw
  have H2 := Lib.hid h2
  have Hb := Lib.hid hb
  have hqlt : q < wx.heap.size := (Array.getElem?_eq_some_iff.1 hq).1
  clear h hX hwx hax hq hw h2 hb
  have n0 : ¬ ((X q ∧ q ≠ w.heap.size) ∧ q ≠ q) := fun h => h.2 rfl
  have n1 : ¬ ((X w.heap.size ∧ w.heap.size ≠ w.heap.size) ∧ w.heap.size ≠ q) := fun h => h.1.2 rfl
  go_enter Try.func105, Try.ntmps105
  go_wp2_with fail
  rw [← Hwx.out]
  refine wp_region_noPanic ?_
  refine wp_region_held_drew (S := fun w' => Hid (Kp (fun b => (X b ∧ b ≠ w.heap.size) ∧ b ≠ q) wx w')) (by kernel_rfl) (Lib.hid (Kp.refl _ _).drew) (fun hHeld => ?_)
  refine wpAnyH_take (i := 0) (oi := ?_) (v := ?_) ?_ (by kernel_rfl) (by kernel_rfl) (by kernel_rfl) (fun _ _ _ h => h) (Or.inl ⟨?_, fun w hSw => ?_⟩) hHeld ?_
  rotate_left 2
  · (simp only [List.getElem?_toArray, List.getElem?_cons_zero]; rfl)
  · rfl
  · (clear hSw; go_simp; try (with_reducible rfl))
  simp only [Act.put, List.setIfInBounds_toArray, List.set_cons_zero, List.set_cons_succ]
  refine wpAnyH_take (i := 1) (oi := ?_) (v := ?_) ?_ (by kernel_rfl) (by kernel_rfl) (by kernel_rfl) (fun _ _ _ h => h) (Or.inl ⟨?_, fun w hSw => ?_⟩) hHeld ?_
  rotate_left 2
  · (simp only [List.getElem?_toArray, List.getElem?_cons_succ, List.getElem?_cons_zero]; rfl)
  · rfl
  · (clear hSw; go_simp; try (with_reducible rfl))
  simp only [Act.put, List.setIfInBounds_toArray, List.set_cons_zero, List.set_cons_succ]
  refine wpAnyH_take (i := 2) (oi := ?_) (v := ?_) ?_ (by kernel_rfl) (by kernel_rfl) (by kernel_rfl) (fun _ _ _ h => h) (Or.inl ⟨?_, fun w hSw => ?_⟩) hHeld ?_
  rotate_left 2
  · (simp only [List.getElem?_toArray, List.getElem?_cons_succ, List.getElem?_cons_zero]; rfl)
  · rfl
  · (clear hSw; go_simp; try (with_reducible rfl))
  simp only [Act.put, List.setIfInBounds_toArray, List.set_cons_zero, List.set_cons_succ]
  refine wpAnyH_take (i := 3) (oi := ?_) (v := ?_) ?_ (by kernel_rfl) (by kernel_rfl) (by kernel_rfl) (fun _ _ _ h => h) (Or.inl ⟨?_, fun w hSw => ?_⟩) hHeld ?_
  rotate_left 2
  · (simp only [List.getElem?_toArray, List.getElem?_cons_succ, List.getElem?_cons_zero]; rfl)
  · rfl
  · (have l0 := (Hid.out hSw).cell hc0 n0; have l1 := (Hid.out hSw).cell hc1 n1; have l2 := (Hid.out hSw).cell hc2 n1; clear hSw; go_simp; try (with_reducible rfl))
  simp only [Act.put, List.setIfInBounds_toArray, List.set_cons_zero, List.set_cons_succ]
  refine wpAnyH_take (i := 4) (oi := ?_) (v := ?_) ?_ (by kernel_rfl) (by kernel_rfl) (by kernel_rfl) (fun _ _ _ h => h) (Or.inl ⟨?_, fun w hSw => ?_⟩) hHeld ?_
  rotate_left 2
  · (simp only [List.getElem?_toArray, List.getElem?_cons_succ, List.getElem?_cons_zero]; rfl)
  · rfl
  · (clear hSw; go_simp; try (with_reducible rfl))
  simp only [Act.put, List.setIfInBounds_toArray, List.set_cons_zero, List.set_cons_succ]
  refine wpAnyH_take (i := 5) (oi := ?_) (v := ?_) ?_ (by kernel_rfl) (by kernel_rfl) (by kernel_rfl) (fun _ _ _ h => h) (Or.inl ⟨?_, fun w hSw => ?_⟩) hHeld ?_
  rotate_left 2
  · (simp only [List.getElem?_toArray, List.getElem?_cons_succ, List.getElem?_cons_zero]; rfl)
  · rfl
  · (have l0 := (Hid.out hSw).cell hc0 n0; have l1 := (Hid.out hSw).cell hc1 n1; have l2 := (Hid.out hSw).cell hc2 n1; clear hSw; go_simp; try (with_reducible rfl))
  simp only [Act.put, List.setIfInBounds_toArray, List.set_cons_zero, List.set_cons_succ]
  refine wpAnyH_take (i := 7) (oi := ?_) (v := ?_) ?_ (by kernel_rfl) (by kernel_rfl) (by kernel_rfl) (fun _ _ _ h => h) (Or.inl ⟨?_, fun w hSw => ?_⟩) hHeld ?_
  rotate_left 2
  · (simp only [List.getElem?_toArray, List.getElem?_cons_succ, List.getElem?_cons_zero]; rfl)
  · rfl
  · (clear hSw; go_simp; try (with_reducible rfl))
  simp only [Act.put, List.setIfInBounds_toArray, List.set_cons_zero, List.set_cons_succ]
  refine wpAnyH_take (i := 8) (oi := ?_) (v := ?_) ?_ (by kernel_rfl) (by kernel_rfl) (by kernel_rfl) (fun _ _ _ h => h) (Or.inl ⟨?_, fun w hSw => ?_⟩) hHeld ?_
  rotate_left 2
  · (simp only [List.getElem?_toArray, List.getElem?_cons_succ, List.getElem?_cons_zero]; rfl)
  · rfl
  · (have l0 := (Hid.out hSw).cell hc0 n0; have l1 := (Hid.out hSw).cell hc1 n1; have l2 := (Hid.out hSw).cell hc2 n1; clear hSw; go_simp; try (with_reducible rfl))
  simp only [Act.put, List.setIfInBounds_toArray, List.set_cons_zero, List.set_cons_succ]
  refine wpAnyH_ready (rs := [6]) (by kernel_rfl) (by simp) ?_
  refine AllReadyH.cons (o := ?_) ?_ (fun K hK => ?_) AllReadyH.nil
  rotate_left
  · (simp only [List.getElem?_toArray, List.getElem?_cons_succ, List.getElem?_cons_zero]; rfl)
  go_simp
  refine (Writer_Wide _ _ _ _ x.hi (Hw.out.kp (Kp.refl No _).drew (fun _ _ => id)) (by have := Hb.out; omega)).mono ?_
  rintro e w1 ⟨rfl, h1, hk1⟩
  have H1 := Lib.hid (h1.mono (H2.out.or (Nat.le_refl _) hqlt))
  have hS := Lib.hid ((Kp.refl (fun b => (X b ∧ b ≠ w.heap.size) ∧ b ≠ q) wx).drew.trans hk1)
  clear h1 hk1
  refine hK.out _ _ hS (fun hHeld => ?_)
  clear hK K
  (try simp only [Act.put, List.setIfInBounds_toArray, List.set_cons_zero, List.set_cons_succ])
  refine wpAnyH_ready (rs := [9]) (by kernel_rfl) (by simp) ?_
  refine AllReadyH.cons (o := ?_) ?_ (fun K hK => ?_) AllReadyH.nil
  rotate_left
  · (simp only [List.getElem?_toArray, List.getElem?_cons_succ, List.getElem?_cons_zero]; rfl)
  go_simp
  refine (Writer_Wide _ _ _ _ x.lo H1.out (by have := Hb.out; rw [List.length_append, putF_len]; omega)).mono ?_
  rintro e w2 ⟨rfl, h2, hk2⟩
  have hS := Lib.hid ((Hid.out hHeld).trans hk2)
  have H3 := Lib.hid (WirAt.put Hq.out hXq H2.out (h2.mono fun b hb => .inl (H2.out.or (Hid.out hHeld).size hqlt b hb)) (Hid.out hS))
  clear h2 hk2
  refine hK.out _ _ hS (fun hHeld => ?_)
  clear hK K
  (try simp only [Act.put, List.setIfInBounds_toArray, List.set_cons_zero, List.set_cons_succ])
  refine wpAnyH_done (by kernel_rfl) (NoPanic.normal ?_) _
  clear hHeld
  go_wp2_with fail
  go_end0
  refine ⟨rfl, ?_, by have := H3.out.2; rw [Hwx.out] at this; exact this.unbox⟩
  have := H3.out.1.unbox
  rw [List.append_assoc] at this
  exact this

set_option maxHeartbeats 400000 in
theorem wir_cube (w : World) (X : Nat → Prop) (l : List UInt8) (lg : Bool) (q : Nat) (x : Cb) (h : WirAt w X l lg q) (hX : New w X) (hb : l.length + 32 ≤ 140737488355328) :
    Calls Try.prog 102 #[.pointer (some ⟨q, 0, none⟩), .agg #[.int .u64 x.value.hi.toNat, .int .u64 x.value.lo.toNat, .int .u64 x.care.hi.toNat, .int .u64 x.care.lo.toNat]] w fun e w' => e = .returned (.tuple #[]) ∧ WirAt w' X (l ++ enc8 x.words) lg q ∧ Kp X w w' := by
  obtain ⟨h1, h2⟩ := h.box hX (.cells #[.int .u64 x.value.hi.toNat, .int .u64 x.value.lo.toNat, .int .u64 x.care.hi.toNat, .int .u64 x.care.lo.toNat] 108)
  obtain ⟨wx, hwx⟩ : ∃ wx, wx = w.alloc (.cells #[.int .u64 x.value.hi.toNat, .int .u64 x.value.lo.toNat, .int .u64 x.care.hi.toNat, .int .u64 x.care.lo.toNat] 108) := ⟨_, rfl⟩
  have hax := heap_alloc_new w (.cells #[.int .u64 x.value.hi.toNat, .int .u64 x.value.lo.toNat, .int .u64 x.care.hi.toNat, .int .u64 x.care.lo.toNat] 108)
  rw [← hwx] at hax h1 h2
  have Hwx := Lib.hid hwx
  have H1 := Lib.hid h1
  have H2 := Lib.hid h2
  have Hb := Lib.hid hb
  have Hax := Lib.hid hax
  clear h hX hwx hax h1 h2 hb
  go_enter Try.func102, Try.ntmps102
  go_wp2_with fail
  rw [← Hwx.out]
  refine (wir_head _ _ _ _ _ x.value H1.out H2.out (by have := Hb.out; omega)).mono ?_
  rintro e w1 ⟨rfl, h1, hk1⟩
  have hax1 := hk1.heap Hax.out (fun h => h.2 rfl)
  have hc2 : w1.cell? ⟨w.heap.size, 2, none⟩ = some (.int .u64 x.care.hi.toNat) := cell_of_row w1 _ 2 _ _ _ hax1
  have hc3 : w1.cell? ⟨w.heap.size, 3, none⟩ = some (.int .u64 x.care.lo.toNat) := cell_of_row w1 _ 3 _ _ _ hax1
  have H3 := Lib.hid h1
  have Hk1 := Lib.hid hk1
  clear h1 hk1 hax1
  go_wp2_with fail
  refine (wir_head _ _ _ _ _ x.care H3.out (H2.out.kp Hk1.out) (by have := Hb.out; rw [List.length_append, enc8_len]; simp [Hd.words]; omega)).mono ?_
  rintro e w2 ⟨rfl, h1, hk2⟩
  have H4 := Lib.hid h1
  have Hk2 := Lib.hid (Hk1.out.trans hk2)
  clear h1 hk2
  go_wp2_with fail
  go_end0
  refine ⟨rfl, ?_, by have := Hk2.out; rw [Hwx.out] at this; exact this.unbox⟩
  have := H4.out.unbox
  rw [List.append_assoc, ← enc8_append] at this
  exact this

set_option maxHeartbeats 400000 in
theorem wir_port (w : World) (X : Nat → Prop) (l : List UInt8) (lg : Bool) (q : Nat) (x : Pt) (h : WirAt w X l lg q) (hX : New w X) (hb : l.length + 40 ≤ 140737488355328) :
    Calls Try.prog 86 #[.pointer (some ⟨q, 0, none⟩), .agg #[.int .i64 (i64of x.kind), .int .i64 (i64of x.tenant), .int .i64 (i64of x.peer), .int .i64 (i64of x.at_), .int .i64 (i64of x.cost)]] w fun e w' => e = .returned (.tuple #[]) ∧ WirAt w' X (l ++ enc8 x.words) lg q ∧ Kp X w w' := by
  obtain ⟨h1, h2⟩ := h.box hX (.cells #[.int .i64 (i64of x.kind), .int .i64 (i64of x.tenant), .int .i64 (i64of x.peer), .int .i64 (i64of x.at_), .int .i64 (i64of x.cost)] 88)
  obtain ⟨wx, hwx⟩ : ∃ wx, wx = w.alloc (.cells #[.int .i64 (i64of x.kind), .int .i64 (i64of x.tenant), .int .i64 (i64of x.peer), .int .i64 (i64of x.at_), .int .i64 (i64of x.cost)] 88) := ⟨_, rfl⟩
  rw [← hwx] at h1 h2
  have hsz : w.heap.size + 1 = wx.heap.size := by rw [hwx, alloc_size]
  have Hwx := Lib.hid hwx
  have Hsz := Lib.hid hsz
  have H1 := Lib.hid h1
  have H2 := Lib.hid h2
  have Hb := Lib.hid hb
  clear h hX hwx h1 h2 hb hsz
  go_enter Try.func86, Try.ntmps86
  go_wp2_with fail
  rw [← Hwx.out]
  refine (wir_nums_lit wx _ _ _ _ [x.kind, x.tenant, x.peer, x.at_, x.cost] _ 5 _ Hsz.out rfl rfl H1.out H2.out (by have := Hb.out; simp; omega) (by simp)).mono ?_
  rintro e w1 ⟨rfl, h1, hk1⟩
  have H3 := Lib.hid h1
  have Hk1 := Lib.hid hk1
  clear h1 hk1
  go_wp2_with fail
  go_end0
  exact ⟨rfl, H3.out.unbox, by have := Hk1.out; rw [Hwx.out] at this; exact this.unbox⟩

set_option maxHeartbeats 400000 in
theorem wir_peer (w : World) (X : Nat → Prop) (l : List UInt8) (lg : Bool) (q : Nat) (x : Pr) (h : WirAt w X l lg q) (hX : New w X) (hb : l.length + 16 ≤ 140737488355328) :
    Calls Try.prog 63 #[.pointer (some ⟨q, 0, none⟩), .agg #[.int .i64 (i64of x.a), .int .i64 (i64of x.b)]] w fun e w' => e = .returned (.tuple #[]) ∧ WirAt w' X (l ++ enc8 x.words) lg q ∧ Kp X w w' := by
  obtain ⟨h1, h2⟩ := h.box hX (.cells #[.int .i64 (i64of x.a), .int .i64 (i64of x.b)] 89)
  obtain ⟨wx, hwx⟩ : ∃ wx, wx = w.alloc (.cells #[.int .i64 (i64of x.a), .int .i64 (i64of x.b)] 89) := ⟨_, rfl⟩
  rw [← hwx] at h1 h2
  have hsz : w.heap.size + 1 = wx.heap.size := by rw [hwx, alloc_size]
  have Hwx := Lib.hid hwx
  have Hsz := Lib.hid hsz
  have H1 := Lib.hid h1
  have H2 := Lib.hid h2
  have Hb := Lib.hid hb
  clear h hX hwx h1 h2 hb hsz
  go_enter Try.func63, Try.ntmps63
  go_wp2_with fail
  rw [← Hwx.out]
  refine (wir_nums_lit wx _ _ _ _ [x.a, x.b] _ 2 _ Hsz.out rfl rfl H1.out H2.out (by have := Hb.out; simp; omega) (by simp)).mono ?_
  rintro e w1 ⟨rfl, h1, hk1⟩
  have H3 := Lib.hid h1
  have Hk1 := Lib.hid hk1
  clear h1 hk1
  go_wp2_with fail
  go_end0
  exact ⟨rfl, H3.out.unbox, by have := Hk1.out; rw [Hwx.out] at this; exact this.unbox⟩

set_option maxHeartbeats 400000 in
theorem wir_way (w : World) (X : Nat → Prop) (l : List UInt8) (lg : Bool) (q : Nat) (x : Wy) (h : WirAt w X l lg q) (hX : New w X) (hb : l.length + 24 ≤ 140737488355328) :
    Calls Try.prog 65 #[.pointer (some ⟨q, 0, none⟩), .agg #[.int .i64 (i64of x.fro), .int .i64 (i64of x.to), .int .i64 (i64of x.via)]] w fun e w' => e = .returned (.tuple #[]) ∧ WirAt w' X (l ++ enc8 x.words) lg q ∧ Kp X w w' := by
  obtain ⟨h1, h2⟩ := h.box hX (.cells #[.int .i64 (i64of x.fro), .int .i64 (i64of x.to), .int .i64 (i64of x.via)] 91)
  obtain ⟨wx, hwx⟩ : ∃ wx, wx = w.alloc (.cells #[.int .i64 (i64of x.fro), .int .i64 (i64of x.to), .int .i64 (i64of x.via)] 91) := ⟨_, rfl⟩
  rw [← hwx] at h1 h2
  have hsz : w.heap.size + 1 = wx.heap.size := by rw [hwx, alloc_size]
  have Hwx := Lib.hid hwx
  have Hsz := Lib.hid hsz
  have H1 := Lib.hid h1
  have H2 := Lib.hid h2
  have Hb := Lib.hid hb
  clear h hX hwx h1 h2 hb hsz
  go_enter Try.func65, Try.ntmps65
  go_wp2_with fail
  rw [← Hwx.out]
  refine (wir_nums_lit wx _ _ _ _ [x.fro, x.to, x.via] _ 3 _ Hsz.out rfl rfl H1.out H2.out (by have := Hb.out; simp; omega) (by simp)).mono ?_
  rintro e w1 ⟨rfl, h1, hk1⟩
  have H3 := Lib.hid h1
  have Hk1 := Lib.hid hk1
  clear h1 hk1
  go_wp2_with fail
  go_end0
  exact ⟨rfl, H3.out.unbox, by have := Hk1.out; rw [Hwx.out] at this; exact this.unbox⟩

def Rl.cells (x : Rl) : List Value := [.int .i64 (i64of x.prio), .int .u64 x.mat.value.hi.toNat, .int .u64 x.mat.value.lo.toNat, .int .u64 x.mat.care.hi.toNat, .int .u64 x.mat.care.lo.toNat, .int .i64 (i64of x.act.kind), .int .i64 (i64of x.act.port), .int .i64 (i64of x.act.table), .int .u64 x.act.set.value.hi.toNat, .int .u64 x.act.set.value.lo.toNat, .int .u64 x.act.set.care.hi.toNat, .int .u64 x.act.set.care.lo.toNat]
theorem rl_words (x : Rl) : [x.prio] ++ x.mat.words ++ [x.act.kind, x.act.port, x.act.table] ++ x.act.set.words = x.words := rfl
set_option maxHeartbeats 1000000 in
theorem wir_rule (w : World) (X : Nat → Prop) (l : List UInt8) (lg : Bool) (q : Nat) (x : Rl) (h : WirAt w X l lg q) (hX : New w X) (hb : l.length + 96 ≤ 140737488355328) :
    Calls Try.prog 98 #[.pointer (some ⟨q, 0, none⟩), .agg #[.int .i64 (i64of x.prio), .int .u64 x.mat.value.hi.toNat, .int .u64 x.mat.value.lo.toNat, .int .u64 x.mat.care.hi.toNat, .int .u64 x.mat.care.lo.toNat, .int .i64 (i64of x.act.kind), .int .i64 (i64of x.act.port), .int .i64 (i64of x.act.table), .int .u64 x.act.set.value.hi.toNat, .int .u64 x.act.set.value.lo.toNat, .int .u64 x.act.set.care.hi.toNat, .int .u64 x.act.set.care.lo.toNat]] w fun e w' => e = .returned (.tuple #[]) ∧ WirAt w' X (l ++ enc8 x.words) lg q ∧ Kp X w w' := by
  obtain ⟨h1, h2⟩ := h.box hX (.cells #[.int .i64 (i64of x.prio), .int .u64 x.mat.value.hi.toNat, .int .u64 x.mat.value.lo.toNat, .int .u64 x.mat.care.hi.toNat, .int .u64 x.mat.care.lo.toNat, .int .i64 (i64of x.act.kind), .int .i64 (i64of x.act.port), .int .i64 (i64of x.act.table), .int .u64 x.act.set.value.hi.toNat, .int .u64 x.act.set.value.lo.toNat, .int .u64 x.act.set.care.hi.toNat, .int .u64 x.act.set.care.lo.toNat] 112)
  obtain ⟨wx, hwx⟩ : ∃ wx, wx = w.alloc (.cells #[.int .i64 (i64of x.prio), .int .u64 x.mat.value.hi.toNat, .int .u64 x.mat.value.lo.toNat, .int .u64 x.mat.care.hi.toNat, .int .u64 x.mat.care.lo.toNat, .int .i64 (i64of x.act.kind), .int .i64 (i64of x.act.port), .int .i64 (i64of x.act.table), .int .u64 x.act.set.value.hi.toNat, .int .u64 x.act.set.value.lo.toNat, .int .u64 x.act.set.care.hi.toNat, .int .u64 x.act.set.care.lo.toNat] 112) := ⟨_, rfl⟩
  have hax := heap_alloc_new w (.cells #[.int .i64 (i64of x.prio), .int .u64 x.mat.value.hi.toNat, .int .u64 x.mat.value.lo.toNat, .int .u64 x.mat.care.hi.toNat, .int .u64 x.mat.care.lo.toNat, .int .i64 (i64of x.act.kind), .int .i64 (i64of x.act.port), .int .i64 (i64of x.act.table), .int .u64 x.act.set.value.hi.toNat, .int .u64 x.act.set.value.lo.toNat, .int .u64 x.act.set.care.hi.toNat, .int .u64 x.act.set.care.lo.toNat] 112)
  rw [← hwx] at hax h1 h2
  have hsz : w.heap.size + 1 = wx.heap.size := by rw [hwx, alloc_size]
  have Hwx := Lib.hid hwx
  have Hsz := Lib.hid hsz
  have H1 := Lib.hid h1
  have H2 := Lib.hid h2
  have Hb := Lib.hid hb
  have Hax := Lib.hid hax
  clear h hX hwx h1 h2 hb hsz hax
  go_enter Try.func98, Try.ntmps98
  go_wp2_with fail
  rw [← Hwx.out]
  refine (wir_nums_lit wx _ _ _ _ [x.prio] _ 1 _ Hsz.out rfl rfl H1.out H2.out (by have := Hb.out; simp; omega) (by simp)).mono ?_
  rintro e w1 ⟨rfl, h1, hk1⟩
  have hax1 := hk1.heap Hax.out (fun h => h.2 rfl)
  have c1 : w1.cell? ⟨w.heap.size, 1, none⟩ = some (.int .u64 x.mat.value.hi.toNat) := cell_of_row w1 _ 1 _ _ _ hax1
  have c2 : w1.cell? ⟨w.heap.size, 2, none⟩ = some (.int .u64 x.mat.value.lo.toNat) := cell_of_row w1 _ 2 _ _ _ hax1
  have c3 : w1.cell? ⟨w.heap.size, 3, none⟩ = some (.int .u64 x.mat.care.hi.toNat) := cell_of_row w1 _ 3 _ _ _ hax1
  have c4 : w1.cell? ⟨w.heap.size, 4, none⟩ = some (.int .u64 x.mat.care.lo.toNat) := cell_of_row w1 _ 4 _ _ _ hax1
  have H3 := Lib.hid h1
  have Hk1 := Lib.hid hk1
  have Hn1 := Lib.hid (H2.out.kp hk1)
  clear h1 hk1 hax1
  go_wp2_with fail
  refine (wir_cube _ _ _ _ _ x.mat H3.out Hn1.out (by have := Hb.out; rw [List.length_append, enc8_len]; simp; omega)).mono ?_
  rintro e w2 ⟨rfl, h1, hk2⟩
  clear c1 c2 c3 c4
  have hax2 := (Hk1.out.trans hk2).heap Hax.out (fun h => h.2 rfl)
  have c5 : w2.cell? ⟨w.heap.size, 5, none⟩ = some (.int .i64 (i64of x.act.kind)) := cell_of_row w2 _ 5 _ _ _ hax2
  have c6 : w2.cell? ⟨w.heap.size, 6, none⟩ = some (.int .i64 (i64of x.act.port)) := cell_of_row w2 _ 6 _ _ _ hax2
  have c7 : w2.cell? ⟨w.heap.size, 7, none⟩ = some (.int .i64 (i64of x.act.table)) := cell_of_row w2 _ 7 _ _ _ hax2
  have H4 := Lib.hid h1
  have Hk2 := Lib.hid (Hk1.out.trans hk2)
  have Hn2 := Lib.hid (Hn1.out.kp hk2)
  clear h1 hk2 hax2
  go_wp2_with fail
  refine (wir_nums_lit w2 _ _ _ _ [x.act.kind, x.act.port, x.act.table] _ 3 _ rfl rfl rfl H4.out Hn2.out (by have := Hb.out; rw [List.length_append, List.length_append, enc8_len, enc8_len]; simp [Cb.words]; omega) (by simp)).mono ?_
  rintro e w3 ⟨rfl, h1, hk3⟩
  clear c5 c6 c7
  have hax3 := (Hk2.out.trans hk3).heap Hax.out (fun h => h.2 rfl)
  have c8 : w3.cell? ⟨w.heap.size, 8, none⟩ = some (.int .u64 x.act.set.value.hi.toNat) := cell_of_row w3 _ 8 _ _ _ hax3
  have c9 : w3.cell? ⟨w.heap.size, 9, none⟩ = some (.int .u64 x.act.set.value.lo.toNat) := cell_of_row w3 _ 9 _ _ _ hax3
  have c10 : w3.cell? ⟨w.heap.size, 10, none⟩ = some (.int .u64 x.act.set.care.hi.toNat) := cell_of_row w3 _ 10 _ _ _ hax3
  have c11 : w3.cell? ⟨w.heap.size, 11, none⟩ = some (.int .u64 x.act.set.care.lo.toNat) := cell_of_row w3 _ 11 _ _ _ hax3
  have H5 := Lib.hid h1
  have Hk3 := Lib.hid (Hk2.out.trans hk3)
  have Hn3 := Lib.hid (Hn2.out.kp hk3)
  clear h1 hk3 hax3
  go_wp2_with fail
  refine (wir_cube _ _ _ _ _ x.act.set H5.out Hn3.out (by have := Hb.out; rw [List.length_append, List.length_append, List.length_append, enc8_len, enc8_len, enc8_len]; simp [Cb.words]; omega)).mono ?_
  rintro e w4 ⟨rfl, h1, hk4⟩
  have H6 := Lib.hid h1
  have Hk4 := Lib.hid (Hk3.out.trans hk4)
  clear h1 hk4
  go_wp2_with fail
  go_end0
  refine ⟨rfl, ?_, by have := Hk4.out; rw [Hwx.out] at this; exact this.unbox⟩
  have := H6.out.unbox
  rw [List.append_assoc, List.append_assoc, List.append_assoc, ← enc8_append, ← enc8_append, ← enc8_append, ← List.append_assoc, ← List.append_assoc] at this
  exact this
end Go.Proofs.Ytpaldbejnbcokaa
