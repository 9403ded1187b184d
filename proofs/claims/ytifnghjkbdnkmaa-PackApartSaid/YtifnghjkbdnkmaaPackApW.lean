/- The law PackApart: the walk. -/
import Derived.Test.YtifnghjkbdnkmaaPackAp
import Derived.BigQuiet
import Derived.Deep.QuietTactic
namespace Go.Proofs.Ytifnghjkbdnkmaa
open Go.RowKit

/-- What the loop keeps of the first k fields. -/
def ApartR (B : Nat) (w wr : World) (a b : List Field) (k : Nat) : Prop :=
  TwoW B wr (encs3 (a.take k)) (encs3 (b.take k)) B (B + 1) ∧ Kp (From B) w wr ∧ (∀ f ∈ a.take k, f.ok ∧ f.s.size ≤ 1048576) ∧ (∀ f ∈ b.take k, f.ok ∧ f.s.size ≤ 1048576)
theorem encs3_take (a : List Field) (k : Nat) (hk : k ≤ 40) : (encs3 (a.take k)).length ≤ 671089440 := by
  have h1 := encs3_len (a.take k)
  have h2 : (a.take k).length ≤ k := by rw [List.length_take]; omega
  omega
theorem u64_beq (x y : UInt64) : ((x.toNat : Int) == (y.toNat : Int)) = (x == y) := by
  rw [Bool.eq_iff_iff, beq_iff_eq, beq_iff_eq]
  constructor
  · intro h; exact UInt64.toNat_inj.1 (by omega)
  · intro h; rw [h]
theorem take_all {a : List Field} {k : Nat} {f : Field} (hf : a[k]? = some f) (h : ∀ x ∈ a.take k, x.ok ∧ x.s.size ≤ 1048576) (h1 : f.ok) (h2 : f.s.size ≤ 1048576) : ∀ x ∈ a.take (k + 1), x.ok ∧ x.s.size ≤ 1048576 := by
  rw [take_snoc hf]
  intro x hx
  rcases List.mem_append.1 hx with hx | hx
  · exact h x hx
  · obtain rfl := List.mem_singleton.1 hx
    exact ⟨h1, h2⟩

theorem ApartR.drewN {B : Nat} {w wr : World} {a b : List Field} {k : Nat} (h : ApartR B w wr a b k) (n : Nat) : ApartR B w (wr.drewN n) a b k := by
  obtain ⟨⟨X, Y, h1, h2, h3, h4⟩, hk, hr⟩ := h
  exact ⟨⟨X, Y, h1.kp ((Kp.refl No wr).drewN n) (fun _ _ => id), h2.kp ((Kp.refl No wr).drewN n) (fun _ _ => id), h3, h4⟩, hk.drewN n, hr⟩
theorem sealed_two {B : Nat} {w : World} {l m : List UInt8} {p q : Nat} (h : TwoW B w l m p q) (hb : l.length + 20000000 ≤ 140737488355328) :
    Calls Try.prog 14 #[.pointer (some ⟨p, 0, none⟩)] w fun e w' => ∃ v, e = .returned v ∧ SliceAt u8R w' (From w.heap.size) (l ++ putF (sumF l) 8) v ∧ TwoW B w' l m p q ∧ Kp No w w' := by
  obtain ⟨X, Y, h1, h2, h3, h4⟩ := h
  refine (Writer_Bytes w X l p h1 hb).mono fun e w' ⟨v, he, hs, hk⟩ => ⟨v, he, hs, ⟨X, Y, h1.kp hk (fun _ _ => id), h2.kp hk (fun _ _ => id), h3, fun b hb => ⟨(h4 b hb).1, Nat.lt_of_lt_of_le (h4 b hb).2 hk.size⟩⟩, hk⟩
theorem TwoW.kp {B : Nat} {w w' : World} {l m : List UInt8} {p q : Nat} (h : TwoW B w l m p q) (hk : Kp No w w') : TwoW B w' l m p q := by
  obtain ⟨X, Y, h1, h2, h3, h4⟩ := h
  exact ⟨X, Y, h1.kp hk (fun _ _ => id), h2.kp hk (fun _ _ => id), h3, fun b hb => ⟨(h4 b hb).1, Nat.lt_of_lt_of_le (h4 b hb).2 hk.size⟩⟩
theorem apart_next {B : Nat} {w wr w6 : World} {a b : List Field} {k : Nat} {f g : Field} (hf : a[k]? = some f) (hg : b[k]? = some g) (of : f.ok) (og : g.ok) (sf : ¬ 1048576 < f.s.size) (sg : ¬ 1048576 < g.s.size)
    (h : ApartR B w wr a b k) (hT : TwoW B w6 (encs3 (a.take k) ++ putF (UInt64.ofInt f.n) 8 ++ textF f.s ++ putF f.w 8) (encs3 (b.take k) ++ putF (UInt64.ofInt g.n) 8 ++ textF g.s ++ putF g.w 8) B (B + 1))
    (hk : Kp (From B) wr w6) : ApartR B w w6 a b (k + 1) := by
  refine ⟨?_, h.2.1.trans hk, take_all hf h.2.2.1 of (by omega), take_all hg h.2.2.2 og (by omega)⟩
  rw [take_snoc hf, take_snoc hg, encs3_snoc, encs3_snoc]
  exact hT
theorem same_next {a b : List Field} {k : Nat} {f g : Field} (hf : a[k]? = some f) (hg : b[k]? = some g) {sm r : Bool} (hsm : sm = sameAll (a.take k) (b.take k)) (hr : r = (sm && sameF f g)) :
    r = sameAll (a.take (k + 1)) (b.take (k + 1)) := by
  have h1 := (List.getElem?_eq_some_iff.1 hf).1
  have h2 := (List.getElem?_eq_some_iff.1 hg).1
  rw [take_snoc hf, take_snoc hg, sameAll_snoc f g (by rw [List.length_take, List.length_take]; omega), ← hsm, hr]

set_option maxRecDepth 100000 in
set_option maxHeartbeats 8000000 in
theorem PackApart_walk (w : World) (a b : List Field) (va vb : Value) (ha : SliceAt fieldR w (fun b => b < w.heap.size) a va) (hb : SliceAt fieldR w (fun b => b < w.heap.size) b vb) :
    Calls Try.prog 6 #[va, vb] w fun e w' => e = .returned (.bool true) ∧ Kp No w w' := by
  obtain ⟨A1, n1, c1, rfl, Hn1, hc1, hc2⟩ := ha.form'
  obtain ⟨A2, n2, c2, rfl, Hn2, hc3, hc4⟩ := hb.form'
  have Ha := Lib.hid ha
  have Hb := Lib.hid hb
  clear ha hb
  go_enter Try.func6, Try.ntmps6
  obtain ⟨B, hB⟩ : ∃ B, B = w.heap.size := ⟨_, rfl⟩
  have HB := Lib.hid hB
  go_wp2_with fail
  refine (pack_New w).mono ?_
  rintro e w0 ⟨rfl, hw0⟩
  go_wp2_with fail
  refine (pack_New w0).mono ?_
  rintro e w1 ⟨rfl, hw1⟩
  have hsz : w0.heap.size = B + 1 := by rw [← hw0, hB]; simp
  have hT : ApartR B w w1 a b 0 := by
    refine ⟨⟨fun x => x = B, fun x => x = B + 1, ?_, ?_, fun x h1 h2 => by omega, fun x h => ?_⟩, ?_, by simp, by simp⟩
    · have h0 := WriterAt.new w
      rw [hw0, ← hB] at h0
      have h1 : WriterAt w0 (fun x => x = B) [] B := h0.clip.mono fun x hx => by have := hx.2; have := hx.1; unfold From at this; omega
      rw [← hw1]
      exact h1.kp ((Kp.refl No w0).alloc _) (fun _ _ => id)
    · have h0 := WriterAt.new w0
      rw [hw1, hsz] at h0
      have hs1 : w1.heap.size = B + 2 := by rw [← hw1]; simp [hsz]
      exact h0.clip.mono fun x hx => by have := hx.2; have := hx.1; unfold From at this; omega
    · have hs1 : w1.heap.size = B + 2 := by rw [← hw1]; simp [hsz]
      omega
    · rw [← hw1, ← hw0]
      exact ((Kp.refl _ _).alloc _).alloc _
  have HT := Lib.hid hT
  rw [hsz, ← hB]
  clear hT hw0 hw1 hsz hB
  go_wp2_with fail
  go_loopw [7, 8] (fun s i wr => ∃ k : Nat, k ≤ n1 ∧ k ≤ n2 ∧ k ≤ 40 ∧ i = .int .i64 k ∧ s = .bool (sameAll (a.take k) (b.take k)) ∧ ApartR B w wr a b k) (fun _ i _ => 40 - (intOf i).toNat)
  case atStart => exact ⟨0, Nat.zero_le _, Nat.zero_le _, Nat.zero_le _, rfl, rfl, HT.out⟩
  case round =>
    obtain ⟨k, hk1, hk2, hk3, rfl, rfl, hrel⟩ := hrel
    obtain ⟨hT, hkp, hq1, hq2⟩ := hrel
    have HT := Lib.hid hT
    have Hkp := Lib.hid hkp
    have Hq1 := Lib.hid hq1
    have Hq2 := Lib.hid hq2
    clear hT hkp hq1 hq2
    obtain ⟨sm, hsm⟩ : ∃ sm, sm = sameAll (a.take k) (b.take k) := ⟨_, rfl⟩
    rw [← hsm]
    have Hsm := Lib.hid hsm
    clear hsm
    have q3 : (0 : Int) ≤ (k : Int) := by omega
    by_cases hlt : k < n1 ∧ k < n2 ∧ k < 40
    · obtain ⟨f, hf⟩ : ∃ f, a[k]? = some f := ⟨_, List.getElem?_eq_getElem (by rw [← Hn1.out]; omega)⟩
      obtain ⟨g, hg⟩ : ∃ g, b[k]? = some g := ⟨_, List.getElem?_eq_getElem (by rw [← Hn2.out]; omega)⟩
      have hF : ∀ x, x < w.heap.size → ¬ From B x := fun x hx => by rw [HB.out]; unfold From; omega
      obtain ⟨ba, offa, rfl, hba, hoka, c0, c1, c2, c3⟩ := (Ha.out.kp Hkp.out hF).get_field hf
      obtain ⟨bb, offb, rfl, hbb, hokb, d0, d1, d2, d3⟩ := (Hb.out.kp Hkp.out hF).get_field hg
      have hnb : ¬ From B ba := hF _ hba
      have hnc : ¬ From B bb := hF _ hbb
      have Hf := Lib.hid hf
      have Hg := Lib.hid hg
      have Hoka := Lib.hid hoka
      have Hokb := Lib.hid hokb
      have Hl1 := Lib.hid (encs3_take a k hk3)
      have Hl2 := Lib.hid (encs3_take b k hk3)
      have q1 : (k : Int) < (n1 : Int) := by omega
      have q2 : (k : Int) < (n2 : Int) := by omega
      have q4 : (k : Int) < 40 := by omega
      clear hf hg hoka hokb hF
      by_cases hbig : 1048576 < f.s.size ∨ 1048576 < g.s.size
      · rcases hbig with h | h
        · go_wp2_with fail
          refine (awake_true _).mono ?_
          rintro e w2 ⟨rfl, hk2⟩
          have Hk2 := Lib.hid (Hkp.out.trans (hk2.mono fun k _ h => h.elim))
          clear hk2
          go_wp2
          go_ret
          exact ⟨rfl, (HB.out ▸ Hk2.out).fresh⟩
        · by_cases h' : 1048576 < f.s.size
          · go_wp2_with fail
            refine (awake_true _).mono ?_
            rintro e w2 ⟨rfl, hk2⟩
            have Hk2 := Lib.hid (Hkp.out.trans (hk2.mono fun k _ h => h.elim))
            clear hk2
            go_wp2
            go_ret
            exact ⟨rfl, (HB.out ▸ Hk2.out).fresh⟩
          · go_wp2_with fail
            refine (awake_true _).mono ?_
            rintro e w2 ⟨rfl, hk2⟩
            have Hk2 := Lib.hid (Hkp.out.trans (hk2.mono fun k _ h => h.elim))
            clear hk2
            go_wp2
            go_ret
            exact ⟨rfl, (HB.out ▸ Hk2.out).fresh⟩
      · have r1 : ¬ 1048576 < f.s.size := fun h => hbig (.inl h)
        have r2 : ¬ 1048576 < g.s.size := fun h => hbig (.inr h)
        have hlt' := Lib.hid hlt
        clear hbig hlt
        go_wp2_with fail
        refine wp_region_noPanic ?_
        refine wp_region_held_drew (S := fun w' => Hid (Kp (From B) wr w')) (by kernel_rfl) (Lib.hid (Kp.refl _ _).drew) (fun hHeld => ?_)
        refine wpAnyH_take (i := 0) (oi := ?_) (v := ?_) ?_ (by kernel_rfl) (by kernel_rfl) (by kernel_rfl) (fun _ _ _ h => h) (Or.inl ⟨?_, fun w hSw => ?_⟩) hHeld ?_
        rotate_left 2
        · (simp only [List.getElem?_toArray, List.getElem?_cons_zero]; rfl)
        · rfl
        · (clear hSw; go_simp; try (with_reducible rfl))
        simp only [Act.put, List.setIfInBounds_toArray, List.set_cons_zero, List.set_cons_succ]
        refine wpAnyH_take (i := 1) (oi := ?_) (v := ?_) ?_ (by kernel_rfl) (by kernel_rfl) (by kernel_rfl) (fun _ _ _ h => h) (Or.inl ⟨?_, fun w hSw => ?_⟩) hHeld ?_
        rotate_left 2
        · (simp only [List.getElem?_toArray, List.getElem?_cons_succ, List.getElem?_cons_zero]; rfl)
        · rfl
        · (clear hSw; go_simp; try (with_reducible rfl))
        simp only [Act.put, List.setIfInBounds_toArray, List.set_cons_zero, List.set_cons_succ]
        refine wpAnyH_take (i := 2) (oi := ?_) (v := ?_) ?_ (by kernel_rfl) (by kernel_rfl) (by kernel_rfl) (fun _ _ _ h => h) (Or.inl ⟨?_, fun w hSw => ?_⟩) hHeld ?_
        rotate_left 2
        · (simp only [List.getElem?_toArray, List.getElem?_cons_succ, List.getElem?_cons_zero]; rfl)
        · rfl
        · (clear hSw; go_simp; try (with_reducible rfl))
        simp only [Act.put, List.setIfInBounds_toArray, List.set_cons_zero, List.set_cons_succ]
        refine wpAnyH_take (i := 3) (oi := ?_) (v := ?_) ?_ (by kernel_rfl) (by kernel_rfl) (by kernel_rfl) (fun _ _ _ h => h) (Or.inl ⟨?_, fun w hSw => ?_⟩) hHeld ?_
        rotate_left 2
        · (simp only [List.getElem?_toArray, List.getElem?_cons_succ, List.getElem?_cons_zero]; rfl)
        · rfl
        · (clear hSw; go_simp; try (with_reducible rfl))
        simp only [Act.put, List.setIfInBounds_toArray, List.set_cons_zero, List.set_cons_succ]
        refine wpAnyH_take (i := 4) (oi := ?_) (v := ?_) ?_ (by kernel_rfl) (by kernel_rfl) (by kernel_rfl) (fun _ _ _ h => h) (Or.inl ⟨?_, fun w hSw => ?_⟩) hHeld ?_
        rotate_left 2
        · (simp only [List.getElem?_toArray, List.getElem?_cons_succ, List.getElem?_cons_zero]; rfl)
        · rfl
        · (clear hSw; go_simp; try (with_reducible rfl))
        simp only [Act.put, List.setIfInBounds_toArray, List.set_cons_zero, List.set_cons_succ]
        refine wpAnyH_take (i := 5) (oi := ?_) (v := ?_) ?_ (by kernel_rfl) (by kernel_rfl) (by kernel_rfl) (fun _ _ _ h => h) (Or.inl ⟨?_, fun w hSw => ?_⟩) hHeld ?_
        rotate_left 2
        · (simp only [List.getElem?_toArray, List.getElem?_cons_succ, List.getElem?_cons_zero]; rfl)
        · rfl
        · (have l1 := (Hid.out hSw).cell c1 hnb; have l2 := (Hid.out hSw).cell c2 hnb; have l3 := (Hid.out hSw).cell c3 hnb; clear hSw; go_simp; try (with_reducible rfl))
        simp only [Act.put, List.setIfInBounds_toArray, List.set_cons_zero, List.set_cons_succ]
        refine wpAnyH_take (i := 7) (oi := ?_) (v := ?_) ?_ (by kernel_rfl) (by kernel_rfl) (by kernel_rfl) (fun _ _ _ h => h) (Or.inl ⟨?_, fun w hSw => ?_⟩) hHeld ?_
        rotate_left 2
        · (simp only [List.getElem?_toArray, List.getElem?_cons_succ, List.getElem?_cons_zero]; rfl)
        · rfl
        · (clear hSw; go_simp; try (with_reducible rfl))
        simp only [Act.put, List.setIfInBounds_toArray, List.set_cons_zero, List.set_cons_succ]
        refine wpAnyH_take (i := 8) (oi := ?_) (v := ?_) ?_ (by kernel_rfl) (by kernel_rfl) (by kernel_rfl) (fun _ _ _ h => h) (Or.inl ⟨?_, fun w hSw => ?_⟩) hHeld ?_
        rotate_left 2
        · (simp only [List.getElem?_toArray, List.getElem?_cons_succ, List.getElem?_cons_zero]; rfl)
        · rfl
        · (clear hSw; go_simp; try (with_reducible rfl))
        simp only [Act.put, List.setIfInBounds_toArray, List.set_cons_zero, List.set_cons_succ]
        refine wpAnyH_take (i := 9) (oi := ?_) (v := ?_) ?_ (by kernel_rfl) (by kernel_rfl) (by kernel_rfl) (fun _ _ _ h => h) (Or.inl ⟨?_, fun w hSw => ?_⟩) hHeld ?_
        rotate_left 2
        · (simp only [List.getElem?_toArray, List.getElem?_cons_succ, List.getElem?_cons_zero]; rfl)
        · rfl
        · (clear hSw; go_simp; try (with_reducible rfl))
        simp only [Act.put, List.setIfInBounds_toArray, List.set_cons_zero, List.set_cons_succ]
        refine wpAnyH_take (i := 10) (oi := ?_) (v := ?_) ?_ (by kernel_rfl) (by kernel_rfl) (by kernel_rfl) (fun _ _ _ h => h) (Or.inl ⟨?_, fun w hSw => ?_⟩) hHeld ?_
        rotate_left 2
        · (simp only [List.getElem?_toArray, List.getElem?_cons_succ, List.getElem?_cons_zero]; rfl)
        · rfl
        · (clear hSw; go_simp; try (with_reducible rfl))
        simp only [Act.put, List.setIfInBounds_toArray, List.set_cons_zero, List.set_cons_succ]
        refine wpAnyH_take (i := 11) (oi := ?_) (v := ?_) ?_ (by kernel_rfl) (by kernel_rfl) (by kernel_rfl) (fun _ _ _ h => h) (Or.inl ⟨?_, fun w hSw => ?_⟩) hHeld ?_
        rotate_left 2
        · (simp only [List.getElem?_toArray, List.getElem?_cons_succ, List.getElem?_cons_zero]; rfl)
        · rfl
        · (have l1 := (Hid.out hSw).cell c1 hnb; have l2 := (Hid.out hSw).cell c2 hnb; have l3 := (Hid.out hSw).cell c3 hnb; clear hSw; go_simp; try (with_reducible rfl))
        simp only [Act.put, List.setIfInBounds_toArray, List.set_cons_zero, List.set_cons_succ]
        refine wpAnyH_take (i := 13) (oi := ?_) (v := ?_) ?_ (by kernel_rfl) (by kernel_rfl) (by kernel_rfl) (fun _ _ _ h => h) (Or.inl ⟨?_, fun w hSw => ?_⟩) hHeld ?_
        rotate_left 2
        · (simp only [List.getElem?_toArray, List.getElem?_cons_succ, List.getElem?_cons_zero]; rfl)
        · rfl
        · (clear hSw; go_simp; try (with_reducible rfl))
        simp only [Act.put, List.setIfInBounds_toArray, List.set_cons_zero, List.set_cons_succ]
        refine wpAnyH_take (i := 14) (oi := ?_) (v := ?_) ?_ (by kernel_rfl) (by kernel_rfl) (by kernel_rfl) (fun _ _ _ h => h) (Or.inl ⟨?_, fun w hSw => ?_⟩) hHeld ?_
        rotate_left 2
        · (simp only [List.getElem?_toArray, List.getElem?_cons_succ, List.getElem?_cons_zero]; rfl)
        · rfl
        · (clear hSw; go_simp; try (with_reducible rfl))
        simp only [Act.put, List.setIfInBounds_toArray, List.set_cons_zero, List.set_cons_succ]
        refine wpAnyH_take (i := 15) (oi := ?_) (v := ?_) ?_ (by kernel_rfl) (by kernel_rfl) (by kernel_rfl) (fun _ _ _ h => h) (Or.inl ⟨?_, fun w hSw => ?_⟩) hHeld ?_
        rotate_left 2
        · (simp only [List.getElem?_toArray, List.getElem?_cons_succ, List.getElem?_cons_zero]; rfl)
        · rfl
        · (clear hSw; go_simp; try (with_reducible rfl))
        simp only [Act.put, List.setIfInBounds_toArray, List.set_cons_zero, List.set_cons_succ]
        refine wpAnyH_take (i := 16) (oi := ?_) (v := ?_) ?_ (by kernel_rfl) (by kernel_rfl) (by kernel_rfl) (fun _ _ _ h => h) (Or.inl ⟨?_, fun w hSw => ?_⟩) hHeld ?_
        rotate_left 2
        · (simp only [List.getElem?_toArray, List.getElem?_cons_succ, List.getElem?_cons_zero]; rfl)
        · rfl
        · (clear hSw; go_simp; try (with_reducible rfl))
        simp only [Act.put, List.setIfInBounds_toArray, List.set_cons_zero, List.set_cons_succ]
        refine wpAnyH_take (i := 17) (oi := ?_) (v := ?_) ?_ (by kernel_rfl) (by kernel_rfl) (by kernel_rfl) (fun _ _ _ h => h) (Or.inl ⟨?_, fun w hSw => ?_⟩) hHeld ?_
        rotate_left 2
        · (simp only [List.getElem?_toArray, List.getElem?_cons_succ, List.getElem?_cons_zero]; rfl)
        · rfl
        · (have l1 := (Hid.out hSw).cell c1 hnb; have l2 := (Hid.out hSw).cell c2 hnb; have l3 := (Hid.out hSw).cell c3 hnb; clear hSw; go_simp; try (with_reducible rfl))
        simp only [Act.put, List.setIfInBounds_toArray, List.set_cons_zero, List.set_cons_succ]
        refine wpAnyH_ready (rs := [6]) (by kernel_rfl) (by simp) ?_
        refine AllReadyH.cons (o := ?_) ?_ (fun K hK => ?_) AllReadyH.nil
        rotate_left
        · (simp only [List.getElem?_toArray, List.getElem?_cons_succ, List.getElem?_cons_zero]; rfl)
        go_simp
        refine ((HT.out.drew).Num f.n (by have := Hl1.out; omega)).mono ?_
        rintro e w1 ⟨rfl, h1, hk1⟩
        have H1 := Lib.hid h1
        have hS := Lib.hid ((Kp.refl (From B) wr).drew.trans hk1)
        clear h1 hk1
        refine hK.out _ _ hS (fun hHeld => ?_)
        clear hK K
        (try simp only [Act.put, List.setIfInBounds_toArray, List.set_cons_zero, List.set_cons_succ])
        refine wpAnyH_ready (rs := [12]) (by kernel_rfl) (by simp) ?_
        refine AllReadyH.cons (o := ?_) ?_ (fun K hK => ?_) AllReadyH.nil
        rotate_left
        · (simp only [List.getElem?_toArray, List.getElem?_cons_succ, List.getElem?_cons_zero]; rfl)
        go_simp
        refine (H1.out.Text f.s (by have := Hl1.out; rw [List.length_append, putF_len]; omega)).mono ?_
        rintro e w2 ⟨rfl, h2, hk2⟩
        have H2 := Lib.hid h2
        have hS := Lib.hid ((Hid.out hHeld).trans hk2)
        clear h2 hk2
        refine hK.out _ _ hS (fun hHeld => ?_)
        clear hK K
        (try simp only [Act.put, List.setIfInBounds_toArray, List.set_cons_zero, List.set_cons_succ])
        refine wpAnyH_ready (rs := [18]) (by kernel_rfl) (by simp) ?_
        refine AllReadyH.cons (o := ?_) ?_ (fun K hK => ?_) AllReadyH.nil
        rotate_left
        · (simp only [List.getElem?_toArray, List.getElem?_cons_succ, List.getElem?_cons_zero]; rfl)
        go_simp
        refine (H2.out.Wide f.w (by have := Hl1.out; have := text_len f.s; rw [List.length_append, List.length_append, putF_len]; omega)).mono ?_
        rintro e w3 ⟨rfl, h3, hk3⟩
        have H3 := Lib.hid h3
        have hS := Lib.hid ((Hid.out hHeld).trans hk3)
        clear h3 hk3
        refine hK.out _ _ hS (fun hHeld => ?_)
        clear hK K
        (try simp only [Act.put, List.setIfInBounds_toArray, List.set_cons_zero, List.set_cons_succ])
        refine wpAnyH_done (by kernel_rfl) (NoPanic.normal ?_) _
        have Hk3 := Lib.hid (Hid.out hHeld)
        clear hHeld
        go_wp2_with fail
        have c1 := Hk3.out.cell c1 hnb
        have c2 := Hk3.out.cell c2 hnb
        have c3 := Hk3.out.cell c3 hnb
        have d1 := Hk3.out.cell d1 hnc
        have d2 := Hk3.out.cell d2 hnc
        have d3 := Hk3.out.cell d3 hnc
        refine wp_region_noPanic ?_
        refine wp_region_held_drew (S := fun w' => Hid (Kp (From B) w3 w')) (by kernel_rfl) (Lib.hid (Kp.refl _ _).drew) (fun hHeld => ?_)
        refine wpAnyH_take (i := 0) (oi := ?_) (v := ?_) ?_ (by kernel_rfl) (by kernel_rfl) (by kernel_rfl) (fun _ _ _ h => h) (Or.inl ⟨?_, fun w hSw => ?_⟩) hHeld ?_
        rotate_left 2
        · (simp only [List.getElem?_toArray, List.getElem?_cons_zero]; rfl)
        · rfl
        · (clear hSw; go_simp; try (with_reducible rfl))
        simp only [Act.put, List.setIfInBounds_toArray, List.set_cons_zero, List.set_cons_succ]
        refine wpAnyH_take (i := 1) (oi := ?_) (v := ?_) ?_ (by kernel_rfl) (by kernel_rfl) (by kernel_rfl) (fun _ _ _ h => h) (Or.inl ⟨?_, fun w hSw => ?_⟩) hHeld ?_
        rotate_left 2
        · (simp only [List.getElem?_toArray, List.getElem?_cons_succ, List.getElem?_cons_zero]; rfl)
        · rfl
        · (clear hSw; go_simp; try (with_reducible rfl))
        simp only [Act.put, List.setIfInBounds_toArray, List.set_cons_zero, List.set_cons_succ]
        refine wpAnyH_take (i := 2) (oi := ?_) (v := ?_) ?_ (by kernel_rfl) (by kernel_rfl) (by kernel_rfl) (fun _ _ _ h => h) (Or.inl ⟨?_, fun w hSw => ?_⟩) hHeld ?_
        rotate_left 2
        · (simp only [List.getElem?_toArray, List.getElem?_cons_succ, List.getElem?_cons_zero]; rfl)
        · rfl
        · (clear hSw; go_simp; try (with_reducible rfl))
        simp only [Act.put, List.setIfInBounds_toArray, List.set_cons_zero, List.set_cons_succ]
        refine wpAnyH_take (i := 3) (oi := ?_) (v := ?_) ?_ (by kernel_rfl) (by kernel_rfl) (by kernel_rfl) (fun _ _ _ h => h) (Or.inl ⟨?_, fun w hSw => ?_⟩) hHeld ?_
        rotate_left 2
        · (simp only [List.getElem?_toArray, List.getElem?_cons_succ, List.getElem?_cons_zero]; rfl)
        · rfl
        · (clear hSw; go_simp; try (with_reducible rfl))
        simp only [Act.put, List.setIfInBounds_toArray, List.set_cons_zero, List.set_cons_succ]
        refine wpAnyH_take (i := 4) (oi := ?_) (v := ?_) ?_ (by kernel_rfl) (by kernel_rfl) (by kernel_rfl) (fun _ _ _ h => h) (Or.inl ⟨?_, fun w hSw => ?_⟩) hHeld ?_
        rotate_left 2
        · (simp only [List.getElem?_toArray, List.getElem?_cons_succ, List.getElem?_cons_zero]; rfl)
        · rfl
        · (clear hSw; go_simp; try (with_reducible rfl))
        simp only [Act.put, List.setIfInBounds_toArray, List.set_cons_zero, List.set_cons_succ]
        refine wpAnyH_take (i := 5) (oi := ?_) (v := ?_) ?_ (by kernel_rfl) (by kernel_rfl) (by kernel_rfl) (fun _ _ _ h => h) (Or.inl ⟨?_, fun w hSw => ?_⟩) hHeld ?_
        rotate_left 2
        · (simp only [List.getElem?_toArray, List.getElem?_cons_succ, List.getElem?_cons_zero]; rfl)
        · rfl
        · (have l1 := (Hid.out hSw).cell d1 hnc; have l2 := (Hid.out hSw).cell d2 hnc; have l3 := (Hid.out hSw).cell d3 hnc; clear hSw; go_simp; try (with_reducible rfl))
        simp only [Act.put, List.setIfInBounds_toArray, List.set_cons_zero, List.set_cons_succ]
        refine wpAnyH_take (i := 7) (oi := ?_) (v := ?_) ?_ (by kernel_rfl) (by kernel_rfl) (by kernel_rfl) (fun _ _ _ h => h) (Or.inl ⟨?_, fun w hSw => ?_⟩) hHeld ?_
        rotate_left 2
        · (simp only [List.getElem?_toArray, List.getElem?_cons_succ, List.getElem?_cons_zero]; rfl)
        · rfl
        · (clear hSw; go_simp; try (with_reducible rfl))
        simp only [Act.put, List.setIfInBounds_toArray, List.set_cons_zero, List.set_cons_succ]
        refine wpAnyH_take (i := 8) (oi := ?_) (v := ?_) ?_ (by kernel_rfl) (by kernel_rfl) (by kernel_rfl) (fun _ _ _ h => h) (Or.inl ⟨?_, fun w hSw => ?_⟩) hHeld ?_
        rotate_left 2
        · (simp only [List.getElem?_toArray, List.getElem?_cons_succ, List.getElem?_cons_zero]; rfl)
        · rfl
        · (clear hSw; go_simp; try (with_reducible rfl))
        simp only [Act.put, List.setIfInBounds_toArray, List.set_cons_zero, List.set_cons_succ]
        refine wpAnyH_take (i := 9) (oi := ?_) (v := ?_) ?_ (by kernel_rfl) (by kernel_rfl) (by kernel_rfl) (fun _ _ _ h => h) (Or.inl ⟨?_, fun w hSw => ?_⟩) hHeld ?_
        rotate_left 2
        · (simp only [List.getElem?_toArray, List.getElem?_cons_succ, List.getElem?_cons_zero]; rfl)
        · rfl
        · (clear hSw; go_simp; try (with_reducible rfl))
        simp only [Act.put, List.setIfInBounds_toArray, List.set_cons_zero, List.set_cons_succ]
        refine wpAnyH_take (i := 10) (oi := ?_) (v := ?_) ?_ (by kernel_rfl) (by kernel_rfl) (by kernel_rfl) (fun _ _ _ h => h) (Or.inl ⟨?_, fun w hSw => ?_⟩) hHeld ?_
        rotate_left 2
        · (simp only [List.getElem?_toArray, List.getElem?_cons_succ, List.getElem?_cons_zero]; rfl)
        · rfl
        · (clear hSw; go_simp; try (with_reducible rfl))
        simp only [Act.put, List.setIfInBounds_toArray, List.set_cons_zero, List.set_cons_succ]
        refine wpAnyH_take (i := 11) (oi := ?_) (v := ?_) ?_ (by kernel_rfl) (by kernel_rfl) (by kernel_rfl) (fun _ _ _ h => h) (Or.inl ⟨?_, fun w hSw => ?_⟩) hHeld ?_
        rotate_left 2
        · (simp only [List.getElem?_toArray, List.getElem?_cons_succ, List.getElem?_cons_zero]; rfl)
        · rfl
        · (have l1 := (Hid.out hSw).cell d1 hnc; have l2 := (Hid.out hSw).cell d2 hnc; have l3 := (Hid.out hSw).cell d3 hnc; clear hSw; go_simp; try (with_reducible rfl))
        simp only [Act.put, List.setIfInBounds_toArray, List.set_cons_zero, List.set_cons_succ]
        refine wpAnyH_take (i := 13) (oi := ?_) (v := ?_) ?_ (by kernel_rfl) (by kernel_rfl) (by kernel_rfl) (fun _ _ _ h => h) (Or.inl ⟨?_, fun w hSw => ?_⟩) hHeld ?_
        rotate_left 2
        · (simp only [List.getElem?_toArray, List.getElem?_cons_succ, List.getElem?_cons_zero]; rfl)
        · rfl
        · (clear hSw; go_simp; try (with_reducible rfl))
        simp only [Act.put, List.setIfInBounds_toArray, List.set_cons_zero, List.set_cons_succ]
        refine wpAnyH_take (i := 14) (oi := ?_) (v := ?_) ?_ (by kernel_rfl) (by kernel_rfl) (by kernel_rfl) (fun _ _ _ h => h) (Or.inl ⟨?_, fun w hSw => ?_⟩) hHeld ?_
        rotate_left 2
        · (simp only [List.getElem?_toArray, List.getElem?_cons_succ, List.getElem?_cons_zero]; rfl)
        · rfl
        · (clear hSw; go_simp; try (with_reducible rfl))
        simp only [Act.put, List.setIfInBounds_toArray, List.set_cons_zero, List.set_cons_succ]
        refine wpAnyH_take (i := 15) (oi := ?_) (v := ?_) ?_ (by kernel_rfl) (by kernel_rfl) (by kernel_rfl) (fun _ _ _ h => h) (Or.inl ⟨?_, fun w hSw => ?_⟩) hHeld ?_
        rotate_left 2
        · (simp only [List.getElem?_toArray, List.getElem?_cons_succ, List.getElem?_cons_zero]; rfl)
        · rfl
        · (clear hSw; go_simp; try (with_reducible rfl))
        simp only [Act.put, List.setIfInBounds_toArray, List.set_cons_zero, List.set_cons_succ]
        refine wpAnyH_take (i := 16) (oi := ?_) (v := ?_) ?_ (by kernel_rfl) (by kernel_rfl) (by kernel_rfl) (fun _ _ _ h => h) (Or.inl ⟨?_, fun w hSw => ?_⟩) hHeld ?_
        rotate_left 2
        · (simp only [List.getElem?_toArray, List.getElem?_cons_succ, List.getElem?_cons_zero]; rfl)
        · rfl
        · (clear hSw; go_simp; try (with_reducible rfl))
        simp only [Act.put, List.setIfInBounds_toArray, List.set_cons_zero, List.set_cons_succ]
        refine wpAnyH_take (i := 17) (oi := ?_) (v := ?_) ?_ (by kernel_rfl) (by kernel_rfl) (by kernel_rfl) (fun _ _ _ h => h) (Or.inl ⟨?_, fun w hSw => ?_⟩) hHeld ?_
        rotate_left 2
        · (simp only [List.getElem?_toArray, List.getElem?_cons_succ, List.getElem?_cons_zero]; rfl)
        · rfl
        · (have l1 := (Hid.out hSw).cell d1 hnc; have l2 := (Hid.out hSw).cell d2 hnc; have l3 := (Hid.out hSw).cell d3 hnc; clear hSw; go_simp; try (with_reducible rfl))
        simp only [Act.put, List.setIfInBounds_toArray, List.set_cons_zero, List.set_cons_succ]
        refine wpAnyH_ready (rs := [6]) (by kernel_rfl) (by simp) ?_
        refine AllReadyH.cons (o := ?_) ?_ (fun K hK => ?_) AllReadyH.nil
        rotate_left
        · (simp only [List.getElem?_toArray, List.getElem?_cons_succ, List.getElem?_cons_zero]; rfl)
        go_simp
        refine ((H3.out.swap.drew).Num g.n (by have := Hl2.out; omega)).mono ?_
        rintro e w4 ⟨rfl, h4, hk4⟩
        have H4 := Lib.hid h4
        have hS := Lib.hid ((Kp.refl (From B) w3).drew.trans hk4)
        clear h4 hk4
        refine hK.out _ _ hS (fun hHeld => ?_)
        clear hK K
        (try simp only [Act.put, List.setIfInBounds_toArray, List.set_cons_zero, List.set_cons_succ])
        refine wpAnyH_ready (rs := [12]) (by kernel_rfl) (by simp) ?_
        refine AllReadyH.cons (o := ?_) ?_ (fun K hK => ?_) AllReadyH.nil
        rotate_left
        · (simp only [List.getElem?_toArray, List.getElem?_cons_succ, List.getElem?_cons_zero]; rfl)
        go_simp
        refine (H4.out.Text g.s (by have := Hl2.out; rw [List.length_append, putF_len]; omega)).mono ?_
        rintro e w5 ⟨rfl, h5, hk5⟩
        have H5 := Lib.hid h5
        have hS := Lib.hid ((Hid.out hHeld).trans hk5)
        clear h5 hk5
        refine hK.out _ _ hS (fun hHeld => ?_)
        clear hK K
        (try simp only [Act.put, List.setIfInBounds_toArray, List.set_cons_zero, List.set_cons_succ])
        refine wpAnyH_ready (rs := [18]) (by kernel_rfl) (by simp) ?_
        refine AllReadyH.cons (o := ?_) ?_ (fun K hK => ?_) AllReadyH.nil
        rotate_left
        · (simp only [List.getElem?_toArray, List.getElem?_cons_succ, List.getElem?_cons_zero]; rfl)
        go_simp
        refine (H5.out.Wide g.w (by have := Hl2.out; have := text_len g.s; rw [List.length_append, List.length_append, putF_len]; omega)).mono ?_
        rintro e w6 ⟨rfl, h6, hk6⟩
        have H6 := Lib.hid h6.swap
        have hS := Lib.hid ((Hid.out hHeld).trans hk6)
        clear h6 hk6
        refine hK.out _ _ hS (fun hHeld => ?_)
        clear hK K
        (try simp only [Act.put, List.setIfInBounds_toArray, List.set_cons_zero, List.set_cons_succ])
        refine wpAnyH_done (by kernel_rfl) (NoPanic.normal ?_) _
        have Hk6 := Lib.hid (Hid.out hHeld)
        clear hHeld
        go_wp2_with fail
        have c1 := Hk6.out.cell c1 hnb
        have c2 := Hk6.out.cell c2 hnb
        have c3 := Hk6.out.cell c3 hnb
        have d1 := Hk6.out.cell d1 hnc
        have d2 := Hk6.out.cell d2 hnc
        have d3 := Hk6.out.cell d3 hnc
        have Hnext := Lib.hid (apart_next Hf.out Hg.out Hoka.out Hokb.out r1 r2 ⟨HT.out, Hkp.out, Hq1.out, Hq2.out⟩ H6.out (Hk3.out.trans Hk6.out))
        have Hsame := fun r => Lib.hid (fun h : r = (sm && sameF f g) => same_next Hf.out Hg.out Hsm.out h)
        cases sm with
        | false =>
          go_quiet (fail)
          go_wp2_with fail
          go_roundw
          case rel => exact ⟨k + 1, by omega, by omega, by omega, by go_num, by rw [← (Hsame false).out rfl], Hnext.out.drewN _⟩
          case measure => simp [intOf]; omega
        | true =>
          by_cases e1 : f.n = g.n
          · have e1' : (f.n == g.n) = true := by rw [beq_iff_eq]; exact e1
            have He1 := Lib.hid e1'
            clear e1
            by_cases e2 : f.s = g.s
            · have e2' := toList_same e2
              have He2 := Lib.hid e2'
              clear e2
              go_quiet (fail)
              go_wp2_with fail
              go_roundw
              case rel => exact ⟨k + 1, by omega, by omega, by omega, by go_num, by rw [u64_beq]; rw [← (Hsame (f.w == g.w)).out (by simp [sameF, He1.out, He2.out])], Hnext.out.drewN _⟩
              case measure => simp [intOf]; omega
            · have e2' := toList_ne e2
              have He2 := Lib.hid e2'
              clear e2
              go_quiet (fail)
              go_wp2_with fail
              go_roundw
              case rel => exact ⟨k + 1, by omega, by omega, by omega, by go_num, by rw [← (Hsame (false)).out (by simp [sameF, He1.out, He2.out])], Hnext.out.drewN _⟩
              case measure => simp [intOf]; omega
          · have e1' : (f.n == g.n) = false := by rw [beq_eq_false_iff_ne]; exact e1
            go_quiet (fail)
            go_wp2_with fail
            go_roundw
            case rel => exact ⟨k + 1, by omega, by omega, by omega, by go_num, by rw [← (Hsame false).out (by simp [sameF, e1'])], Hnext.out.drewN _⟩
            case measure => simp [intOf]; omega
    · have hfork : ¬ k < n1 ∨ k < n1 ∧ ¬ k < n2 ∨ k < n1 ∧ k < n2 ∧ ¬ k < 40 := by omega
      have Hl1 := Lib.hid (encs3_take a k hk3)
      have Hl2 := Lib.hid (encs3_take b k hk3)
      have Hap := Lib.hid (apart_iff (l := a.take k) (m := b.take k) (by rw [List.length_take, List.length_take, ← Hn1.out, ← Hn2.out]; omega) Hq1.out Hq2.out)
      rw [← Hsm.out] at Hap
      clear hlt
      rcases hfork with hf1 | ⟨hf1, hf2⟩ | ⟨hf1, hf2, hf3⟩
      all_goals
        go_wp2_with fail
        refine wp_region_noPanic ?_
        refine wp_region_held_drew (S := fun w' => Hid (Kp No wr w')) (by kernel_rfl) (Lib.hid (Kp.refl _ _).drew) (fun hHeld => ?_)
        refine wpAnyH_ready (rs := [0]) (by kernel_rfl) (by simp) ?_
        refine AllReadyH.cons (o := ?_) ?_ (fun K hK => ?_) AllReadyH.nil
        rotate_left
        · (simp only [List.getElem?_toArray, List.getElem?_cons_zero]; rfl)
        go_simp
        refine (awake_true _).mono ?_
        rintro e w2 ⟨rfl, hk2⟩
        have H2 := Lib.hid ((HT.out.drew).kp hk2)
        have hS := Lib.hid ((Kp.refl No wr).drew.trans hk2)
        clear hk2
        refine hK.out _ _ hS (fun hHeld => ?_)
        clear hK K
        (try simp only [Act.put, List.setIfInBounds_toArray, List.set_cons_zero, List.set_cons_succ])
        refine wpAnyH_take (i := 1) (oi := ?_) (v := ?_) ?_ (by kernel_rfl) (by kernel_rfl) (by kernel_rfl) (fun _ _ _ h => h) (Or.inl ⟨?_, fun w hSw => ?_⟩) hHeld ?_
        rotate_left 2
        · (simp only [List.getElem?_toArray, List.getElem?_cons_succ, List.getElem?_cons_zero]; rfl)
        · rfl
        · (clear hSw; go_simp; try (with_reducible rfl))
        simp only [Act.put, List.setIfInBounds_toArray, List.set_cons_zero, List.set_cons_succ]
        refine wpAnyH_take (i := 2) (oi := ?_) (v := ?_) ?_ (by kernel_rfl) (by kernel_rfl) (by kernel_rfl) (fun _ _ _ h => h) (Or.inl ⟨?_, fun w hSw => ?_⟩) hHeld ?_
        rotate_left 2
        · (simp only [List.getElem?_toArray, List.getElem?_cons_succ, List.getElem?_cons_zero]; rfl)
        · rfl
        · (clear hSw; go_simp; try (with_reducible rfl))
        simp only [Act.put, List.setIfInBounds_toArray, List.set_cons_zero, List.set_cons_succ]
        refine wpAnyH_take (i := 5) (oi := ?_) (v := ?_) ?_ (by kernel_rfl) (by kernel_rfl) (by kernel_rfl) (fun _ _ _ h => h) (Or.inl ⟨?_, fun w hSw => ?_⟩) hHeld ?_
        rotate_left 2
        · (simp only [List.getElem?_toArray, List.getElem?_cons_succ, List.getElem?_cons_zero]; rfl)
        · rfl
        · (clear hSw; go_simp; try (with_reducible rfl))
        simp only [Act.put, List.setIfInBounds_toArray, List.set_cons_zero, List.set_cons_succ]
        refine wpAnyH_take (i := 9) (oi := ?_) (v := ?_) ?_ (by kernel_rfl) (by kernel_rfl) (by kernel_rfl) (fun _ _ _ h => h) (Or.inl ⟨?_, fun w hSw => ?_⟩) hHeld ?_
        rotate_left 2
        · (simp only [List.getElem?_toArray, List.getElem?_cons_succ, List.getElem?_cons_zero]; rfl)
        · rfl
        · (clear hSw; go_simp; try (with_reducible rfl))
        simp only [Act.put, List.setIfInBounds_toArray, List.set_cons_zero, List.set_cons_succ]
        refine wpAnyH_ready (rs := [3]) (by kernel_rfl) (by simp) ?_
        refine AllReadyH.cons (o := ?_) ?_ (fun K hK => ?_) AllReadyH.nil
        rotate_left
        · (simp only [List.getElem?_toArray, List.getElem?_cons_succ, List.getElem?_cons_zero]; rfl)
        go_simp
        refine (sealed_two H2.out (by have := Hl1.out; omega)).mono ?_
        rintro e w3 ⟨v3, rfl, hs3, h3, hk3⟩
        have Hs3 := Lib.hid hs3
        have H3 := Lib.hid h3
        have hS := Lib.hid ((Hid.out hHeld).trans hk3)
        have Hk3 := Lib.hid (Hid.out hS)
        clear hs3 h3 hk3
        refine hK.out _ _ hS (fun hHeld => ?_)
        clear hK K
        refine wpAnyH_strong (S' := fun w' => Hid (Kp No w3 w')) (fun w' h => Lib.hid (Hk3.out.trans (Hid.out h))) _ _ _ _ ?_
        clear hHeld
        have hHeld := Lib.hid (Kp.refl No w3)
        (try simp only [Act.put, List.setIfInBounds_toArray, List.set_cons_zero, List.set_cons_succ])
        refine wpAnyH_take (i := 4) (oi := ?_) (v := ?_) ?_ (by kernel_rfl) (by kernel_rfl) (by kernel_rfl) (fun _ _ _ h => h) (Or.inl ⟨?_, fun w hSw => ?_⟩) hHeld ?_
        rotate_left 2
        · (simp only [List.getElem?_toArray, List.getElem?_cons_succ, List.getElem?_cons_zero]; rfl)
        · rfl
        · (have l1 := run_conv_str Try.underlying34 Try.underlying5 Try.underlying9 (Hs3.out.kp (Hid.out hSw) (fun _ _ => id)); clear hSw; go_simp; try (with_reducible rfl))
        simp only [Act.put, List.setIfInBounds_toArray, List.set_cons_zero, List.set_cons_succ]
        refine wpAnyH_ready (rs := [6]) (by kernel_rfl) (by simp) ?_
        refine AllReadyH.cons (o := ?_) ?_ (fun K hK => ?_) AllReadyH.nil
        rotate_left
        · (simp only [List.getElem?_toArray, List.getElem?_cons_succ, List.getElem?_cons_zero]; rfl)
        go_simp
        refine (sealed_two H3.out.swap (by have := Hl2.out; omega)).mono ?_
        rintro e w4 ⟨v4, rfl, hs4, h4, hk4⟩
        have Hs4 := Lib.hid hs4
        have hS := Lib.hid ((Hid.out hHeld).trans hk4)
        have Hk4 := Lib.hid (Hk3.out.trans hk4)
        clear hs4 h4 hk4
        refine hK.out _ _ hS (fun hHeld => ?_)
        clear hK K
        refine wpAnyH_strong (S' := fun w' => Hid (Kp No w4 w')) (fun w' h => Lib.hid ((Hid.out hS).trans (Hid.out h))) _ _ _ _ ?_
        clear hHeld
        have hHeld := Lib.hid (Kp.refl No w4)
        (try simp only [Act.put, List.setIfInBounds_toArray, List.set_cons_zero, List.set_cons_succ])
        refine wpAnyH_take (i := 7) (oi := ?_) (v := ?_) ?_ (by kernel_rfl) (by kernel_rfl) (by kernel_rfl) (fun _ _ _ h => h) (Or.inl ⟨?_, fun w hSw => ?_⟩) hHeld ?_
        rotate_left 2
        · (simp only [List.getElem?_toArray, List.getElem?_cons_succ, List.getElem?_cons_zero]; rfl)
        · rfl
        · (have l1 := run_conv_str Try.underlying34 Try.underlying5 Try.underlying9 (Hs4.out.kp (Hid.out hSw) (fun _ _ => id)); clear hSw; go_simp; try (with_reducible rfl))
        simp only [Act.put, List.setIfInBounds_toArray, List.set_cons_zero, List.set_cons_succ]
        refine wpAnyH_take (i := 8) (oi := ?_) (v := ?_) ?_ (by kernel_rfl) (by kernel_rfl) (by kernel_rfl) (fun _ _ _ h => h) (Or.inl ⟨?_, fun w hSw => ?_⟩) hHeld ?_
        rotate_left 2
        · (simp only [List.getElem?_toArray, List.getElem?_cons_succ, List.getElem?_cons_zero]; rfl)
        · rfl
        · (clear hSw; go_simp; try (with_reducible rfl))
        simp only [Act.put, List.setIfInBounds_toArray, List.set_cons_zero, List.set_cons_succ]
        refine wpAnyH_take (i := 10) (oi := ?_) (v := ?_) ?_ (by kernel_rfl) (by kernel_rfl) (by kernel_rfl) (fun _ _ _ h => h) (Or.inl ⟨?_, fun w hSw => ?_⟩) hHeld ?_
        rotate_left 2
        · (simp only [List.getElem?_toArray, List.getElem?_cons_succ, List.getElem?_cons_zero]; rfl)
        · rfl
        · (clear hSw; go_simp; try (with_reducible rfl))
        simp only [Act.put, List.setIfInBounds_toArray, List.set_cons_zero, List.set_cons_succ]
        refine wpAnyH_take (i := 11) (oi := ?_) (v := ?_) ?_ (by kernel_rfl) (by kernel_rfl) (by kernel_rfl) (fun _ _ _ h => h) (Or.inl ⟨?_, fun w hSw => ?_⟩) hHeld ?_
        rotate_left 2
        · (simp only [List.getElem?_toArray, List.getElem?_cons_succ, List.getElem?_cons_zero]; rfl)
        · rfl
        · (clear hSw; go_simp; try (with_reducible rfl))
        simp only [Act.put, List.setIfInBounds_toArray, List.set_cons_zero, List.set_cons_succ]
        refine wpAnyH_take (i := 12) (oi := ?_) (v := ?_) ?_ (by kernel_rfl) (by kernel_rfl) (by kernel_rfl) (fun _ _ _ h => h) (Or.inl ⟨?_, fun w hSw => ?_⟩) hHeld ?_
        rotate_left 2
        · (simp only [List.getElem?_toArray, List.getElem?_cons_succ, List.getElem?_cons_zero]; rfl)
        · rfl
        · (clear hSw; go_simp; try (with_reducible rfl))
        simp only [Act.put, List.setIfInBounds_toArray, List.set_cons_zero, List.set_cons_succ]
        refine wpAnyH_done (by kernel_rfl) (NoPanic.normal ?_) _
        rw [Hap.out]
        go_wp2
        go_ret
        exact ⟨by simp, (HB.out ▸ Hkp.out.trans (Hk4.out.mono fun _ _ h => h.elim)).fresh⟩

theorem PackApart_law {H : Type} {enc : TypeId × Value → H} (W : World) (b0 : Nat) (v0 : Value) (d0 : DataW H) (p0 : List MemPlace) (ok0 : Value.okWide Try.prog W .any b0 22 v0)
    (h0 : DataW.Trod enc Try.prog W 0 (fun _ => true) true 22 v0 d0 p0) (v1 : Value) (d1 : DataW H) (p1 : List MemPlace) (ok1 : Value.okWide Try.prog W .any b0 22 v1)
    (h1 : DataW.Trod enc Try.prog W 0 (fun _ => true) true 22 v1 d1 p1) : Calls Try.prog 6 #[v0, v1] W fun e W' => e = .returned (.bool true) ∧ Kp No W W' := by
  obtain ⟨xs, hx⟩ := readable_fields.arg Try.underlying22 ok0 h0
  obtain ⟨ys, hy⟩ := readable_fields.arg Try.underlying22 ok1 h1
  exact PackApart_walk W xs ys v0 v1 hx hy
end Go.Proofs.Ytifnghjkbdnkmaa
