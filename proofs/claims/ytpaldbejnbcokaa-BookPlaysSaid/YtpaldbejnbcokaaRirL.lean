/- Contracts of package wire: the reader's lists. -/
import Derived.Test.YtpaldbejnbcokaaRirS
namespace Go.Proofs.Ytpaldbejnbcokaa
open Go.RowKit
set_option linter.unusedSimpArgs false
set_option linter.unusedVariables false

theorem OwnAt.monoE {α : Type} {R : Rep α} {e : TypeId} {w : World} {E E' O : Nat → Prop} {xs : List α} {v : Value} (h : OwnAt R e w E O xs v) (hE : ∀ b, b < w.heap.size → E b → E' b) (hn : ∀ g, v.ownBlock = some g → ¬ E' g) : OwnAt R e w E' O xs v := by
  obtain ⟨cells, h1, h2, h3⟩ := h
  exact ⟨cells, h1, h2.mono fun x c hx => R.mono hx hE, fun g hg => ⟨(h3 g hg).1, hn g hg⟩⟩
theorem OwnAt.blk {α : Type} {R : Rep α} {e : TypeId} {w : World} {E O : Nat → Prop} {xs : List α} {v : Value} (h : OwnAt R e w E O xs v) {g : Nat} (hg : v.ownBlock = some g) : g < w.heap.size ∧ O g ∧ ¬ E g := by
  obtain ⟨cells, h1, h2, h3⟩ := h
  exact ⟨(h1.lt g hg).2, h3 g hg⟩
theorem RirAt.long {w : World} {X : Nat → Prop} {s : RS} {q p : Nat} (h : RirAt w X s q p) (b : Bool) : RirAt (w.setCell ⟨q, 1, none⟩ (.bool b)) X (s.1, b) q p := by
  obtain ⟨h1, h2, h3, h4⟩ := h
  have hk := Kp.set1 w q 1 (.bool b)
  exact ⟨heap_setCell_same w q 1 _ _ _ h1, h2, fun b hb => Nat.lt_of_lt_of_le (h3 b hb) hk.size, h4.kp hk fun b hb e => hb.2 e⟩
/-- What a list has read so far. -/
def ListSo {α : Type} (R : Rep α) (e : TypeId) (rd : RS → α × RS) (w wr : World) (X : Nat → Prop) (s : RS) (q p k : Nat) (v : Value) : Prop :=
  ∃ E, OwnAt R e wr E (From w.heap.size) (rdN rd k s).1 v ∧ (∀ b, E b → w.heap.size ≤ b ∧ b < wr.heap.size) ∧ RirAt wr X (rdN rd k s).2 q p ∧ Kp (Or (Two q p) w.heap.size) w wr
theorem rd_bad {α : Type} {rd : RS → α × RS} {s : RS} {n : Int} (hn : n = i64of s.word.1) (h : n < 0 ∨ 200 < n ∨ ((s.word.2.left : Nat) : Int) < n) : rdList rd s = ([], (s.word.2.1, true)) := by
  subst hn
  unfold rdList
  have h' : i64of s.1.wide < 0 ∨ 200 < i64of s.1.wide ∨ ((s.1.take 8).2.left : Int) < i64of s.1.wide := h
  rw [if_pos h']
  have : (i64of s.1.wide != 0) = true := by simp; omega
  rw [this, Bool.or_true]
  rfl
theorem rd_good {α : Type} {rd : RS → α × RS} {s : RS} {n : Int} (hn : n = i64of s.word.1) (h : ¬ (n < 0 ∨ 200 < n ∨ ((s.word.2.left : Nat) : Int) < n)) : rdList rd s = rdN rd n.toNat s.word.2 := by
  subst hn
  have h' : ¬ (i64of s.1.wide < 0 ∨ 200 < i64of s.1.wide ∨ ((s.1.take 8).2.left : Int) < i64of s.1.wide) := h
  unfold rdList
  rw [if_neg h']
  rfl
theorem ListSo.done {α : Type} {R : Rep α} {e : TypeId} {rd : RS → α × RS} {w wr : World} {X : Nat → Prop} {s : RS} {q p k : Nat} {v : Value} (h : ListSo R e rd w wr X s q p k v) :
    SliceAt R wr (From w.heap.size) (rdN rd k s).1 v ∧ RirAt wr X (rdN rd k s).2 q p ∧ Kp (Two q p) w wr := by
  obtain ⟨E, h1, h2, h3, h4⟩ := h
  exact ⟨h1.slice.mono fun b _ hb => hb.elim (fun h => (h2 b h).1) id, h3, h4.unfresh⟩
/-- An element more: the item's call, the block laid for it, the append. -/
theorem ListSo.next {α : Type} {R : Rep α} {e : TypeId} {rd : RS → α × RS} {w wr w1 w2 : World} {X E : Nat → Prop} {s : RS} {q p k : Nat} {v' : Value} (hw : w.heap.size ≤ wr.heap.size) (hE : ∀ b, E b → w.heap.size ≤ b ∧ b < w1.heap.size)
    (ho : OwnAt R e w2 E (From w.heap.size) ((rdN rd k s).1 ++ [(rd (rdN rd k s).2).1]) v') (hr : RirAt w1 X (rd (rdN rd k s).2).2 q p) (hX : ∀ b, X b → ¬ From w.heap.size b) (hk : Kp (Or (Two q p) w.heap.size) w wr) (hk1 : Kp (Two q p) wr w1) (hk2 : Kp (From w.heap.size) w1 w2) :
    ListSo R e rd w w2 X s q p (k + 1) v' :=
  ⟨E, ho, fun b hb => ⟨(hE b hb).1, Nat.lt_of_lt_of_le (hE b hb).2 hk2.size⟩, hr.kp hk2 hX, (hk.trans hk1.orl).trans hk2.fr⟩


theorem Try.elr_port : elemB Try.prog 86 88 5 40 = true := by kernel_rfl
set_option maxHeartbeats 1000000 in
theorem rir_list_port (w : World) (X : Nat → Prop) (s : RS) (q p : Nat) (h : RirAt w X s q p) :
    Calls Try.prog 92 #[.pointer (some ⟨q, 0, none⟩), .func (.func 93) #[.pointer (some ⟨q, 0, none⟩)] #[]] w fun e w' => ∃ v, e = .returned v ∧ SliceAt ptR w' (From w.heap.size) (rdList rdPt s).1 v ∧ RirAt w' X (rdList rdPt s).2 q p ∧ Kp (Two q p) w w' := by
  obtain ⟨hq, hp, hpq⟩ := h.lt
  have h0 := h.c0
  have H := Lib.hid h
  have HX := Lib.hid h.off
  clear h hpq
  obtain ⟨n, hn⟩ : ∃ n, n = i64of s.word.1 := ⟨_, rfl⟩
  have Hn := Lib.hid hn
  have main : Calls Try.prog 90 #[.pointer (some ⟨p, 0, none⟩)] w fun e w' => e = .returned (.int .i64 n) ∧ RirAt w' X s.word.2 q p ∧ Kp (Two q p) w w' := by rw [hn]; exact Num_r w X s q p H.out
  have Hmain := Lib.hid main
  clear hn main
  by_cases hbad : n < 0 ∨ 200 < n ∨ ((s.word.2.left : Nat) : Int) < n
  · have Hbad := Lib.hid (rd_bad (rd := rdPt) Hn.out hbad)
    have t1 : (n != 0) = true := by simp; omega
    have fin : ∀ w2 v, v = .slice none 0 0 → RirAt w2 X (s.word.2.1, true) q p → Kp (Two q p) w w2 → ∃ v', Ending.returned v = .returned v' ∧ SliceAt ptR w2 (From w.heap.size) (rdList rdPt s).1 v' ∧ RirAt w2 X (rdList rdPt s).2 q p ∧ Kp (Two q p) w w2 := by
      intro w2 v hv hr hk
      rw [Hbad.out, hv]
      exact ⟨_, rfl, SliceAt.nil _ _ _, hr, hk⟩
    have Fin := Lib.hid fin
    clear fin
    by_cases h1 : n < 0
    · clear hbad
      go_enter Try.func92, Try.ntmps92
      go_wp2_with fail
      refine Hmain.out.mono ?_
      rintro e w1 ⟨rfl, h2, hk1⟩
      have d0 := h2.c1
      have d1 := h2.fz 1
      have H2 := Lib.hid h2
      have Hk1 := Lib.hid hk1
      clear h2 hk1
      go_wp2_with fail
      all_goals
        go_ret
        exact Fin.out _ _ rfl (H2.out.long true) (Hk1.out.trans ((Kp.set1 _ _ _ _).mono fun _ _ e => .inl e))
    · by_cases h3 : 200 < n
      · clear hbad
        go_enter Try.func92, Try.ntmps92
        go_wp2_with fail
        refine Hmain.out.mono ?_
        rintro e w1 ⟨rfl, h2, hk1⟩
        have d0 := h2.c1
        have d1 := h2.fz 1
        have H2 := Lib.hid h2
        have Hk1 := Lib.hid hk1
        clear h2 hk1
        go_wp2_with fail
        all_goals
          go_ret
          exact Fin.out _ _ rfl (H2.out.long true) (Hk1.out.trans ((Kp.set1 _ _ _ _).mono fun _ _ e => .inl e))
      · have h4 : ((s.word.2.left : Nat) : Int) < n := by omega
        clear hbad
        go_enter Try.func92, Try.ntmps92
        go_wp2_with fail
        refine Hmain.out.mono ?_
        rintro e w1 ⟨rfl, h2, hk1⟩
        have d0 := h2.c1
        have d1 := h2.fz 1
        have d2 := h2.c0
        have H2 := Lib.hid h2
        have Hk1 := Lib.hid hk1
        clear h2 hk1
        go_wp2_with fail
        refine (Left_r _ X _ q p H2.out).mono ?_
        rintro e w1 ⟨rfl, rfl⟩
        go_wp2_with fail
        all_goals
          go_ret
          exact Fin.out _ _ rfl (H2.out.long true) (Hk1.out.trans ((Kp.set1 _ _ _ _).mono fun _ _ e => .inl e))
  · have Hgood := Lib.hid (rd_good (rd := rdPt) Hn.out hbad)
    have h1 : 0 ≤ n := by omega
    have h2 : n ≤ 200 := by omega
    have h3 : n ≤ ((s.word.2.left : Nat) : Int) := by omega
    have h4 : ¬ n < 0 := by omega
    have h5 : ¬ 200 < n := by omega
    have h6 : ¬ ((s.word.2.left : Nat) : Int) < n := by omega
    clear hbad
    go_enter Try.func92, Try.ntmps92
    go_wp2_with fail
    refine Hmain.out.mono ?_
    rintro e w1 ⟨rfl, h7, hk1⟩
    have d2 := h7.c0
    have H2 := Lib.hid h7
    have Hk1 := Lib.hid hk1
    clear h7 hk1
    go_wp2_with fail
    refine (Left_r _ X _ q p H2.out).mono ?_
    rintro e w1 ⟨rfl, rfl⟩
    clear d2
    go_wp2_with fail
    go_loopw [6, 39] (fun v i wr => ∃ k : Nat, (k : Int) ≤ n ∧ i = .int .i64 k ∧ ListSo ptR 88 rdPt w wr X s.word.2 q p k v) (fun _ i _ => n.toNat - (intOf i).toNat)
    case atStart => exact ⟨0, by simpa using h1, rfl, No, OwnAt.nil _ _ _ _ _, fun _ h => h.elim, H2.out, Hk1.out.orl⟩
    case round =>
      obtain ⟨k, hk, rfl, hso⟩ := hrel
      have q3 : (0 : Int) ≤ (k : Int) := by omega
      by_cases hlt : (k : Int) < n
      · obtain ⟨E, hown, hE, hr, hkp⟩ := hso
        have Hsz := Lib.hid hkp.size
        have Hlen := Lib.hid (rdN_len rdPt k s.word.2)
        have Hown := Lib.hid hown
        have HE := Lib.hid hE
        have Hr := Lib.hid hr
        have Hkp := Lib.hid hkp
        clear hown hE hr hkp
        go_wp2_with fail
        refine (rir_port _ X _ q p Hr.out).mono ?_
        rintro e w1 ⟨rfl, h1, hk1⟩
        have H1 := Lib.hid h1
        have Hk1 := Lib.hid hk1
        have Hown1 := Lib.hid ((Hown.out.kp hk1 (fun b hb h => absurd (HE.out b hb).1 (by unfold Two at h; omega)) (fun b hb h => absurd hb (by unfold Two at h; unfold From; omega))).alloc (.cells #[.int .i64 (i64of (rdPt (rdN rdPt k s.word.2).2).1.kind), .int .i64 (i64of (rdPt (rdN rdPt k s.word.2).2).1.tenant), .int .i64 (i64of (rdPt (rdN rdPt k s.word.2).2).1.peer), .int .i64 (i64of (rdPt (rdN rdPt k s.word.2).2).1.at_), .int .i64 (i64of (rdPt (rdN rdPt k s.word.2).2).1.cost)] 88))
        have Hrel := Lib.hid (show (ptR).rel (w1.alloc (.cells #[.int .i64 (i64of (rdPt (rdN rdPt k s.word.2).2).1.kind), .int .i64 (i64of (rdPt (rdN rdPt k s.word.2).2).1.tenant), .int .i64 (i64of (rdPt (rdN rdPt k s.word.2).2).1.peer), .int .i64 (i64of (rdPt (rdN rdPt k s.word.2).2).1.at_), .int .i64 (i64of (rdPt (rdN rdPt k s.word.2).2).1.cost)] 88)) E (rdPt (rdN rdPt k s.word.2).2).1 [.int .i64 (i64of (rdPt (rdN rdPt k s.word.2).2).1.kind), .int .i64 (i64of (rdPt (rdN rdPt k s.word.2).2).1.tenant), .int .i64 (i64of (rdPt (rdN rdPt k s.word.2).2).1.peer), .int .i64 (i64of (rdPt (rdN rdPt k s.word.2).2).1.at_), .int .i64 (i64of (rdPt (rdN rdPt k s.word.2).2).1.cost)] from rfl)
        have hsz1 := hk1.size
        have HE1 := Lib.hid (show ∀ b, E b → w.heap.size ≤ b ∧ b < w1.heap.size from fun b hb => ⟨(HE.out b hb).1, Nat.lt_of_lt_of_le (HE.out b hb).2 hsz1⟩)
        clear h1 hk1
        go_wp2_with (at_builtin; (refine wpList_append_rep (R := ptR) (E := E) (O := From w.heap.size) (bytes := 40) rfl _ _ rfl Try.elr_port (by decide) rfl Hown1.out _ _ _ [(rdPt (rdN rdPt k s.word.2).2).1] rfl rfl (Source.one (cs := [.int .i64 (i64of (rdPt (rdN rdPt k s.word.2).2).1.kind), .int .i64 (i64of (rdPt (rdN rdPt k s.word.2).2).1.tenant), .int .i64 (i64of (rdPt (rdN rdPt k s.word.2).2).1.peer), .int .i64 (i64of (rdPt (rdN rdPt k s.word.2).2).1.at_), .int .i64 (i64of (rdPt (rdN rdPt k s.word.2).2).1.cost)]) Hrel.out) ?_ ?_ ?_ ?_ ?_); (· exact fun b hb => by have := HE1.out b hb; simp; omega); (· exact fun b hb => by have := Hsz.out; simp at hb; unfold From; omega); (· (have := Hlen.out; simp; omega)); (· (have := Hlen.out; simp; omega)); (intro b' w2 hown2 hkp2 hat2))
        have hk2 : Kp (From w.heap.size) w1 w2 := ((Kp.refl _ w1).alloc _).trans (hkp2.mono fun b hb h => (Hown1.out.blk h).2.1)
        have Hso := Lib.hid (ListSo.next (s := s.word.2) Hsz.out HE1.out hown2 H1.out HX.out Hkp.out Hk1.out hk2)
        clear hown2 hkp2 hat2 hk2
        go_wp2_with fail
        go_roundw
        case rel => exact ⟨k + 1, by omega, by go_num, Hso.out⟩
        case measure => simp [intOf]; omega
      · have Hso := Lib.hid hso
        have Hkn := Lib.hid (show n.toNat = k by omega)
        clear hso
        go_wp2_with fail
        go_ret
        rw [Hgood.out, Hkn.out]
        exact ⟨_, rfl, Hso.out.done⟩


theorem rir_ports (w : World) (X : Nat → Prop) (s : RS) (q p : Nat) (h : RirAt w X s q p) :
    Calls Try.prog 72 #[.pointer (some ⟨q, 0, none⟩)] w fun e w' => ∃ v, e = .returned v ∧ SliceAt ptR w' (From w.heap.size) (rdPorts s).1 v ∧ RirAt w' X (rdPorts s).2 q p ∧ Kp (Two q p) w w' := by
  have H := Lib.hid h
  clear h
  go_enter Try.func72, Try.ntmps72
  go_wp2_with fail
  refine (rir_list_port w X s q p H.out).mono ?_
  rintro e w1 ⟨v, rfl, h1, h2, h3⟩
  have H1 := Lib.hid h1
  have H2 := Lib.hid h2
  have H3 := Lib.hid h3
  clear h1 h2 h3
  go_wp2_with fail
  go_ret
  exact ⟨v, rfl, H1.out, H2.out, H3.out⟩


theorem Try.elr_peer : elemB Try.prog 25 89 2 16 = true := by kernel_rfl
set_option maxHeartbeats 1000000 in
theorem rir_list_peer (w : World) (X : Nat → Prop) (s : RS) (q p : Nat) (h : RirAt w X s q p) :
    Calls Try.prog 74 #[.pointer (some ⟨q, 0, none⟩), .func (.func 75) #[.pointer (some ⟨q, 0, none⟩)] #[]] w fun e w' => ∃ v, e = .returned v ∧ SliceAt prR w' (From w.heap.size) (rdList rdPr s).1 v ∧ RirAt w' X (rdList rdPr s).2 q p ∧ Kp (Two q p) w w' := by
  obtain ⟨hq, hp, hpq⟩ := h.lt
  have h0 := h.c0
  have H := Lib.hid h
  have HX := Lib.hid h.off
  clear h hpq
  obtain ⟨n, hn⟩ : ∃ n, n = i64of s.word.1 := ⟨_, rfl⟩
  have Hn := Lib.hid hn
  have main : Calls Try.prog 90 #[.pointer (some ⟨p, 0, none⟩)] w fun e w' => e = .returned (.int .i64 n) ∧ RirAt w' X s.word.2 q p ∧ Kp (Two q p) w w' := by rw [hn]; exact Num_r w X s q p H.out
  have Hmain := Lib.hid main
  clear hn main
  by_cases hbad : n < 0 ∨ 200 < n ∨ ((s.word.2.left : Nat) : Int) < n
  · have Hbad := Lib.hid (rd_bad (rd := rdPr) Hn.out hbad)
    have t1 : (n != 0) = true := by simp; omega
    have fin : ∀ w2 v, v = .slice none 0 0 → RirAt w2 X (s.word.2.1, true) q p → Kp (Two q p) w w2 → ∃ v', Ending.returned v = .returned v' ∧ SliceAt prR w2 (From w.heap.size) (rdList rdPr s).1 v' ∧ RirAt w2 X (rdList rdPr s).2 q p ∧ Kp (Two q p) w w2 := by
      intro w2 v hv hr hk
      rw [Hbad.out, hv]
      exact ⟨_, rfl, SliceAt.nil _ _ _, hr, hk⟩
    have Fin := Lib.hid fin
    clear fin
    by_cases h1 : n < 0
    · clear hbad
      go_enter Try.func74, Try.ntmps74
      go_wp2_with fail
      refine Hmain.out.mono ?_
      rintro e w1 ⟨rfl, h2, hk1⟩
      have d0 := h2.c1
      have d1 := h2.fz 1
      have H2 := Lib.hid h2
      have Hk1 := Lib.hid hk1
      clear h2 hk1
      go_wp2_with fail
      all_goals
        go_ret
        exact Fin.out _ _ rfl (H2.out.long true) (Hk1.out.trans ((Kp.set1 _ _ _ _).mono fun _ _ e => .inl e))
    · by_cases h3 : 200 < n
      · clear hbad
        go_enter Try.func74, Try.ntmps74
        go_wp2_with fail
        refine Hmain.out.mono ?_
        rintro e w1 ⟨rfl, h2, hk1⟩
        have d0 := h2.c1
        have d1 := h2.fz 1
        have H2 := Lib.hid h2
        have Hk1 := Lib.hid hk1
        clear h2 hk1
        go_wp2_with fail
        all_goals
          go_ret
          exact Fin.out _ _ rfl (H2.out.long true) (Hk1.out.trans ((Kp.set1 _ _ _ _).mono fun _ _ e => .inl e))
      · have h4 : ((s.word.2.left : Nat) : Int) < n := by omega
        clear hbad
        go_enter Try.func74, Try.ntmps74
        go_wp2_with fail
        refine Hmain.out.mono ?_
        rintro e w1 ⟨rfl, h2, hk1⟩
        have d0 := h2.c1
        have d1 := h2.fz 1
        have d2 := h2.c0
        have H2 := Lib.hid h2
        have Hk1 := Lib.hid hk1
        clear h2 hk1
        go_wp2_with fail
        refine (Left_r _ X _ q p H2.out).mono ?_
        rintro e w1 ⟨rfl, rfl⟩
        go_wp2_with fail
        all_goals
          go_ret
          exact Fin.out _ _ rfl (H2.out.long true) (Hk1.out.trans ((Kp.set1 _ _ _ _).mono fun _ _ e => .inl e))
  · have Hgood := Lib.hid (rd_good (rd := rdPr) Hn.out hbad)
    have h1 : 0 ≤ n := by omega
    have h2 : n ≤ 200 := by omega
    have h3 : n ≤ ((s.word.2.left : Nat) : Int) := by omega
    have h4 : ¬ n < 0 := by omega
    have h5 : ¬ 200 < n := by omega
    have h6 : ¬ ((s.word.2.left : Nat) : Int) < n := by omega
    clear hbad
    go_enter Try.func74, Try.ntmps74
    go_wp2_with fail
    refine Hmain.out.mono ?_
    rintro e w1 ⟨rfl, h7, hk1⟩
    have d2 := h7.c0
    have H2 := Lib.hid h7
    have Hk1 := Lib.hid hk1
    clear h7 hk1
    go_wp2_with fail
    refine (Left_r _ X _ q p H2.out).mono ?_
    rintro e w1 ⟨rfl, rfl⟩
    clear d2
    go_wp2_with fail
    go_loopw [6, 39] (fun v i wr => ∃ k : Nat, (k : Int) ≤ n ∧ i = .int .i64 k ∧ ListSo prR 89 rdPr w wr X s.word.2 q p k v) (fun _ i _ => n.toNat - (intOf i).toNat)
    case atStart => exact ⟨0, by simpa using h1, rfl, No, OwnAt.nil _ _ _ _ _, fun _ h => h.elim, H2.out, Hk1.out.orl⟩
    case round =>
      obtain ⟨k, hk, rfl, hso⟩ := hrel
      have q3 : (0 : Int) ≤ (k : Int) := by omega
      by_cases hlt : (k : Int) < n
      · obtain ⟨E, hown, hE, hr, hkp⟩ := hso
        have Hsz := Lib.hid hkp.size
        have Hlen := Lib.hid (rdN_len rdPr k s.word.2)
        have Hown := Lib.hid hown
        have HE := Lib.hid hE
        have Hr := Lib.hid hr
        have Hkp := Lib.hid hkp
        clear hown hE hr hkp
        go_wp2_with fail
        refine (rir_peer _ X _ q p Hr.out).mono ?_
        rintro e w1 ⟨rfl, h1, hk1⟩
        have H1 := Lib.hid h1
        have Hk1 := Lib.hid hk1
        have Hown1 := Lib.hid ((Hown.out.kp hk1 (fun b hb h => absurd (HE.out b hb).1 (by unfold Two at h; omega)) (fun b hb h => absurd hb (by unfold Two at h; unfold From; omega))).alloc (.cells #[.int .i64 (i64of (rdPr (rdN rdPr k s.word.2).2).1.a), .int .i64 (i64of (rdPr (rdN rdPr k s.word.2).2).1.b)] 89))
        have Hrel := Lib.hid (show (prR).rel (w1.alloc (.cells #[.int .i64 (i64of (rdPr (rdN rdPr k s.word.2).2).1.a), .int .i64 (i64of (rdPr (rdN rdPr k s.word.2).2).1.b)] 89)) E (rdPr (rdN rdPr k s.word.2).2).1 [.int .i64 (i64of (rdPr (rdN rdPr k s.word.2).2).1.a), .int .i64 (i64of (rdPr (rdN rdPr k s.word.2).2).1.b)] from rfl)
        have hsz1 := hk1.size
        have HE1 := Lib.hid (show ∀ b, E b → w.heap.size ≤ b ∧ b < w1.heap.size from fun b hb => ⟨(HE.out b hb).1, Nat.lt_of_lt_of_le (HE.out b hb).2 hsz1⟩)
        clear h1 hk1
        go_wp2_with (at_builtin; (refine wpList_append_rep (R := prR) (E := E) (O := From w.heap.size) (bytes := 16) rfl _ _ rfl Try.elr_peer (by decide) rfl Hown1.out _ _ _ [(rdPr (rdN rdPr k s.word.2).2).1] rfl rfl (Source.one (cs := [.int .i64 (i64of (rdPr (rdN rdPr k s.word.2).2).1.a), .int .i64 (i64of (rdPr (rdN rdPr k s.word.2).2).1.b)]) Hrel.out) ?_ ?_ ?_ ?_ ?_); (· exact fun b hb => by have := HE1.out b hb; simp; omega); (· exact fun b hb => by have := Hsz.out; simp at hb; unfold From; omega); (· (have := Hlen.out; simp; omega)); (· (have := Hlen.out; simp; omega)); (intro b' w2 hown2 hkp2 hat2))
        have hk2 : Kp (From w.heap.size) w1 w2 := ((Kp.refl _ w1).alloc _).trans (hkp2.mono fun b hb h => (Hown1.out.blk h).2.1)
        have Hso := Lib.hid (ListSo.next (s := s.word.2) Hsz.out HE1.out hown2 H1.out HX.out Hkp.out Hk1.out hk2)
        clear hown2 hkp2 hat2 hk2
        go_wp2_with fail
        go_roundw
        case rel => exact ⟨k + 1, by omega, by go_num, Hso.out⟩
        case measure => simp [intOf]; omega
      · have Hso := Lib.hid hso
        have Hkn := Lib.hid (show n.toNat = k by omega)
        clear hso
        go_wp2_with fail
        go_ret
        rw [Hgood.out, Hkn.out]
        exact ⟨_, rfl, Hso.out.done⟩


theorem Try.elr_way : elemB Try.prog 26 91 3 24 = true := by kernel_rfl
set_option maxHeartbeats 1000000 in
theorem rir_list_way (w : World) (X : Nat → Prop) (s : RS) (q p : Nat) (h : RirAt w X s q p) :
    Calls Try.prog 76 #[.pointer (some ⟨q, 0, none⟩), .func (.func 77) #[.pointer (some ⟨q, 0, none⟩)] #[]] w fun e w' => ∃ v, e = .returned v ∧ SliceAt wyR w' (From w.heap.size) (rdList rdWy s).1 v ∧ RirAt w' X (rdList rdWy s).2 q p ∧ Kp (Two q p) w w' := by
  obtain ⟨hq, hp, hpq⟩ := h.lt
  have h0 := h.c0
  have H := Lib.hid h
  have HX := Lib.hid h.off
  clear h hpq
  obtain ⟨n, hn⟩ : ∃ n, n = i64of s.word.1 := ⟨_, rfl⟩
  have Hn := Lib.hid hn
  have main : Calls Try.prog 90 #[.pointer (some ⟨p, 0, none⟩)] w fun e w' => e = .returned (.int .i64 n) ∧ RirAt w' X s.word.2 q p ∧ Kp (Two q p) w w' := by rw [hn]; exact Num_r w X s q p H.out
  have Hmain := Lib.hid main
  clear hn main
  by_cases hbad : n < 0 ∨ 200 < n ∨ ((s.word.2.left : Nat) : Int) < n
  · have Hbad := Lib.hid (rd_bad (rd := rdWy) Hn.out hbad)
    have t1 : (n != 0) = true := by simp; omega
    have fin : ∀ w2 v, v = .slice none 0 0 → RirAt w2 X (s.word.2.1, true) q p → Kp (Two q p) w w2 → ∃ v', Ending.returned v = .returned v' ∧ SliceAt wyR w2 (From w.heap.size) (rdList rdWy s).1 v' ∧ RirAt w2 X (rdList rdWy s).2 q p ∧ Kp (Two q p) w w2 := by
      intro w2 v hv hr hk
      rw [Hbad.out, hv]
      exact ⟨_, rfl, SliceAt.nil _ _ _, hr, hk⟩
    have Fin := Lib.hid fin
    clear fin
    by_cases h1 : n < 0
    · clear hbad
      go_enter Try.func76, Try.ntmps76
      go_wp2_with fail
      refine Hmain.out.mono ?_
      rintro e w1 ⟨rfl, h2, hk1⟩
      have d0 := h2.c1
      have d1 := h2.fz 1
      have H2 := Lib.hid h2
      have Hk1 := Lib.hid hk1
      clear h2 hk1
      go_wp2_with fail
      all_goals
        go_ret
        exact Fin.out _ _ rfl (H2.out.long true) (Hk1.out.trans ((Kp.set1 _ _ _ _).mono fun _ _ e => .inl e))
    · by_cases h3 : 200 < n
      · clear hbad
        go_enter Try.func76, Try.ntmps76
        go_wp2_with fail
        refine Hmain.out.mono ?_
        rintro e w1 ⟨rfl, h2, hk1⟩
        have d0 := h2.c1
        have d1 := h2.fz 1
        have H2 := Lib.hid h2
        have Hk1 := Lib.hid hk1
        clear h2 hk1
        go_wp2_with fail
        all_goals
          go_ret
          exact Fin.out _ _ rfl (H2.out.long true) (Hk1.out.trans ((Kp.set1 _ _ _ _).mono fun _ _ e => .inl e))
      · have h4 : ((s.word.2.left : Nat) : Int) < n := by omega
        clear hbad
        go_enter Try.func76, Try.ntmps76
        go_wp2_with fail
        refine Hmain.out.mono ?_
        rintro e w1 ⟨rfl, h2, hk1⟩
        have d0 := h2.c1
        have d1 := h2.fz 1
        have d2 := h2.c0
        have H2 := Lib.hid h2
        have Hk1 := Lib.hid hk1
        clear h2 hk1
        go_wp2_with fail
        refine (Left_r _ X _ q p H2.out).mono ?_
        rintro e w1 ⟨rfl, rfl⟩
        go_wp2_with fail
        all_goals
          go_ret
          exact Fin.out _ _ rfl (H2.out.long true) (Hk1.out.trans ((Kp.set1 _ _ _ _).mono fun _ _ e => .inl e))
  · have Hgood := Lib.hid (rd_good (rd := rdWy) Hn.out hbad)
    have h1 : 0 ≤ n := by omega
    have h2 : n ≤ 200 := by omega
    have h3 : n ≤ ((s.word.2.left : Nat) : Int) := by omega
    have h4 : ¬ n < 0 := by omega
    have h5 : ¬ 200 < n := by omega
    have h6 : ¬ ((s.word.2.left : Nat) : Int) < n := by omega
    clear hbad
    go_enter Try.func76, Try.ntmps76
    go_wp2_with fail
    refine Hmain.out.mono ?_
    rintro e w1 ⟨rfl, h7, hk1⟩
    have d2 := h7.c0
    have H2 := Lib.hid h7
    have Hk1 := Lib.hid hk1
    clear h7 hk1
    go_wp2_with fail
    refine (Left_r _ X _ q p H2.out).mono ?_
    rintro e w1 ⟨rfl, rfl⟩
    clear d2
    go_wp2_with fail
    go_loopw [6, 39] (fun v i wr => ∃ k : Nat, (k : Int) ≤ n ∧ i = .int .i64 k ∧ ListSo wyR 91 rdWy w wr X s.word.2 q p k v) (fun _ i _ => n.toNat - (intOf i).toNat)
    case atStart => exact ⟨0, by simpa using h1, rfl, No, OwnAt.nil _ _ _ _ _, fun _ h => h.elim, H2.out, Hk1.out.orl⟩
    case round =>
      obtain ⟨k, hk, rfl, hso⟩ := hrel
      have q3 : (0 : Int) ≤ (k : Int) := by omega
      by_cases hlt : (k : Int) < n
      · obtain ⟨E, hown, hE, hr, hkp⟩ := hso
        have Hsz := Lib.hid hkp.size
        have Hlen := Lib.hid (rdN_len rdWy k s.word.2)
        have Hown := Lib.hid hown
        have HE := Lib.hid hE
        have Hr := Lib.hid hr
        have Hkp := Lib.hid hkp
        clear hown hE hr hkp
        go_wp2_with fail
        refine (rir_way _ X _ q p Hr.out).mono ?_
        rintro e w1 ⟨rfl, h1, hk1⟩
        have H1 := Lib.hid h1
        have Hk1 := Lib.hid hk1
        have Hown1 := Lib.hid ((Hown.out.kp hk1 (fun b hb h => absurd (HE.out b hb).1 (by unfold Two at h; omega)) (fun b hb h => absurd hb (by unfold Two at h; unfold From; omega))).alloc (.cells #[.int .i64 (i64of (rdWy (rdN rdWy k s.word.2).2).1.fro), .int .i64 (i64of (rdWy (rdN rdWy k s.word.2).2).1.to), .int .i64 (i64of (rdWy (rdN rdWy k s.word.2).2).1.via)] 91))
        have Hrel := Lib.hid (show (wyR).rel (w1.alloc (.cells #[.int .i64 (i64of (rdWy (rdN rdWy k s.word.2).2).1.fro), .int .i64 (i64of (rdWy (rdN rdWy k s.word.2).2).1.to), .int .i64 (i64of (rdWy (rdN rdWy k s.word.2).2).1.via)] 91)) E (rdWy (rdN rdWy k s.word.2).2).1 [.int .i64 (i64of (rdWy (rdN rdWy k s.word.2).2).1.fro), .int .i64 (i64of (rdWy (rdN rdWy k s.word.2).2).1.to), .int .i64 (i64of (rdWy (rdN rdWy k s.word.2).2).1.via)] from rfl)
        have hsz1 := hk1.size
        have HE1 := Lib.hid (show ∀ b, E b → w.heap.size ≤ b ∧ b < w1.heap.size from fun b hb => ⟨(HE.out b hb).1, Nat.lt_of_lt_of_le (HE.out b hb).2 hsz1⟩)
        clear h1 hk1
        go_wp2_with (at_builtin; (refine wpList_append_rep (R := wyR) (E := E) (O := From w.heap.size) (bytes := 24) rfl _ _ rfl Try.elr_way (by decide) rfl Hown1.out _ _ _ [(rdWy (rdN rdWy k s.word.2).2).1] rfl rfl (Source.one (cs := [.int .i64 (i64of (rdWy (rdN rdWy k s.word.2).2).1.fro), .int .i64 (i64of (rdWy (rdN rdWy k s.word.2).2).1.to), .int .i64 (i64of (rdWy (rdN rdWy k s.word.2).2).1.via)]) Hrel.out) ?_ ?_ ?_ ?_ ?_); (· exact fun b hb => by have := HE1.out b hb; simp; omega); (· exact fun b hb => by have := Hsz.out; simp at hb; unfold From; omega); (· (have := Hlen.out; simp; omega)); (· (have := Hlen.out; simp; omega)); (intro b' w2 hown2 hkp2 hat2))
        have hk2 : Kp (From w.heap.size) w1 w2 := ((Kp.refl _ w1).alloc _).trans (hkp2.mono fun b hb h => (Hown1.out.blk h).2.1)
        have Hso := Lib.hid (ListSo.next (s := s.word.2) Hsz.out HE1.out hown2 H1.out HX.out Hkp.out Hk1.out hk2)
        clear hown2 hkp2 hat2 hk2
        go_wp2_with fail
        go_roundw
        case rel => exact ⟨k + 1, by omega, by go_num, Hso.out⟩
        case measure => simp [intOf]; omega
      · have Hso := Lib.hid hso
        have Hkn := Lib.hid (show n.toNat = k by omega)
        clear hso
        go_wp2_with fail
        go_ret
        rw [Hgood.out, Hkn.out]
        exact ⟨_, rfl, Hso.out.done⟩


theorem Try.elr_rule : elemB Try.prog 104 112 12 96 = true := by kernel_rfl
set_option maxHeartbeats 1000000 in
theorem rir_list_rule (w : World) (X : Nat → Prop) (s : RS) (q p : Nat) (h : RirAt w X s q p) :
    Calls Try.prog 100 #[.pointer (some ⟨q, 0, none⟩), .func (.func 101) #[.pointer (some ⟨q, 0, none⟩)] #[]] w fun e w' => ∃ v, e = .returned v ∧ SliceAt rlR w' (From w.heap.size) (rdList rdRl s).1 v ∧ RirAt w' X (rdList rdRl s).2 q p ∧ Kp (Two q p) w w' := by
  obtain ⟨hq, hp, hpq⟩ := h.lt
  have h0 := h.c0
  have H := Lib.hid h
  have HX := Lib.hid h.off
  clear h hpq
  obtain ⟨n, hn⟩ : ∃ n, n = i64of s.word.1 := ⟨_, rfl⟩
  have Hn := Lib.hid hn
  have main : Calls Try.prog 90 #[.pointer (some ⟨p, 0, none⟩)] w fun e w' => e = .returned (.int .i64 n) ∧ RirAt w' X s.word.2 q p ∧ Kp (Two q p) w w' := by rw [hn]; exact Num_r w X s q p H.out
  have Hmain := Lib.hid main
  clear hn main
  by_cases hbad : n < 0 ∨ 200 < n ∨ ((s.word.2.left : Nat) : Int) < n
  · have Hbad := Lib.hid (rd_bad (rd := rdRl) Hn.out hbad)
    have t1 : (n != 0) = true := by simp; omega
    have fin : ∀ w2 v, v = .slice none 0 0 → RirAt w2 X (s.word.2.1, true) q p → Kp (Two q p) w w2 → ∃ v', Ending.returned v = .returned v' ∧ SliceAt rlR w2 (From w.heap.size) (rdList rdRl s).1 v' ∧ RirAt w2 X (rdList rdRl s).2 q p ∧ Kp (Two q p) w w2 := by
      intro w2 v hv hr hk
      rw [Hbad.out, hv]
      exact ⟨_, rfl, SliceAt.nil _ _ _, hr, hk⟩
    have Fin := Lib.hid fin
    clear fin
    by_cases h1 : n < 0
    · clear hbad
      go_enter Try.func100, Try.ntmps100
      go_wp2_with fail
      refine Hmain.out.mono ?_
      rintro e w1 ⟨rfl, h2, hk1⟩
      have d0 := h2.c1
      have d1 := h2.fz 1
      have H2 := Lib.hid h2
      have Hk1 := Lib.hid hk1
      clear h2 hk1
      go_wp2_with fail
      all_goals
        go_ret
        exact Fin.out _ _ rfl (H2.out.long true) (Hk1.out.trans ((Kp.set1 _ _ _ _).mono fun _ _ e => .inl e))
    · by_cases h3 : 200 < n
      · clear hbad
        go_enter Try.func100, Try.ntmps100
        go_wp2_with fail
        refine Hmain.out.mono ?_
        rintro e w1 ⟨rfl, h2, hk1⟩
        have d0 := h2.c1
        have d1 := h2.fz 1
        have H2 := Lib.hid h2
        have Hk1 := Lib.hid hk1
        clear h2 hk1
        go_wp2_with fail
        all_goals
          go_ret
          exact Fin.out _ _ rfl (H2.out.long true) (Hk1.out.trans ((Kp.set1 _ _ _ _).mono fun _ _ e => .inl e))
      · have h4 : ((s.word.2.left : Nat) : Int) < n := by omega
        clear hbad
        go_enter Try.func100, Try.ntmps100
        go_wp2_with fail
        refine Hmain.out.mono ?_
        rintro e w1 ⟨rfl, h2, hk1⟩
        have d0 := h2.c1
        have d1 := h2.fz 1
        have d2 := h2.c0
        have H2 := Lib.hid h2
        have Hk1 := Lib.hid hk1
        clear h2 hk1
        go_wp2_with fail
        refine (Left_r _ X _ q p H2.out).mono ?_
        rintro e w1 ⟨rfl, rfl⟩
        go_wp2_with fail
        all_goals
          go_ret
          exact Fin.out _ _ rfl (H2.out.long true) (Hk1.out.trans ((Kp.set1 _ _ _ _).mono fun _ _ e => .inl e))
  · have Hgood := Lib.hid (rd_good (rd := rdRl) Hn.out hbad)
    have h1 : 0 ≤ n := by omega
    have h2 : n ≤ 200 := by omega
    have h3 : n ≤ ((s.word.2.left : Nat) : Int) := by omega
    have h4 : ¬ n < 0 := by omega
    have h5 : ¬ 200 < n := by omega
    have h6 : ¬ ((s.word.2.left : Nat) : Int) < n := by omega
    clear hbad
    go_enter Try.func100, Try.ntmps100
    go_wp2_with fail
    refine Hmain.out.mono ?_
    rintro e w1 ⟨rfl, h7, hk1⟩
    have d2 := h7.c0
    have H2 := Lib.hid h7
    have Hk1 := Lib.hid hk1
    clear h7 hk1
    go_wp2_with fail
    refine (Left_r _ X _ q p H2.out).mono ?_
    rintro e w1 ⟨rfl, rfl⟩
    clear d2
    go_wp2_with fail
    go_loopw [6, 39] (fun v i wr => ∃ k : Nat, (k : Int) ≤ n ∧ i = .int .i64 k ∧ ListSo rlR 112 rdRl w wr X s.word.2 q p k v) (fun _ i _ => n.toNat - (intOf i).toNat)
    case atStart => exact ⟨0, by simpa using h1, rfl, No, OwnAt.nil _ _ _ _ _, fun _ h => h.elim, H2.out, Hk1.out.orl⟩
    case round =>
      obtain ⟨k, hk, rfl, hso⟩ := hrel
      have q3 : (0 : Int) ≤ (k : Int) := by omega
      by_cases hlt : (k : Int) < n
      · obtain ⟨E, hown, hE, hr, hkp⟩ := hso
        have Hsz := Lib.hid hkp.size
        have Hlen := Lib.hid (rdN_len rdRl k s.word.2)
        have Hown := Lib.hid hown
        have HE := Lib.hid hE
        have Hr := Lib.hid hr
        have Hkp := Lib.hid hkp
        clear hown hE hr hkp
        go_wp2_with fail
        refine (rir_rule _ X _ q p Hr.out).mono ?_
        rintro e w1 ⟨rfl, h1, hk1⟩
        have H1 := Lib.hid h1
        have Hk1 := Lib.hid hk1
        have Hown1 := Lib.hid ((Hown.out.kp hk1 (fun b hb h => absurd (HE.out b hb).1 (by unfold Two at h; omega)) (fun b hb h => absurd hb (by unfold Two at h; unfold From; omega))).alloc (.cells #[.int .i64 (i64of (rdRl (rdN rdRl k s.word.2).2).1.prio), .int .u64 ((rdRl (rdN rdRl k s.word.2).2).1.mat.value.hi).toNat, .int .u64 ((rdRl (rdN rdRl k s.word.2).2).1.mat.value.lo).toNat, .int .u64 ((rdRl (rdN rdRl k s.word.2).2).1.mat.care.hi).toNat, .int .u64 ((rdRl (rdN rdRl k s.word.2).2).1.mat.care.lo).toNat, .int .i64 (i64of (rdRl (rdN rdRl k s.word.2).2).1.act.kind), .int .i64 (i64of (rdRl (rdN rdRl k s.word.2).2).1.act.port), .int .i64 (i64of (rdRl (rdN rdRl k s.word.2).2).1.act.table), .int .u64 ((rdRl (rdN rdRl k s.word.2).2).1.act.set.value.hi).toNat, .int .u64 ((rdRl (rdN rdRl k s.word.2).2).1.act.set.value.lo).toNat, .int .u64 ((rdRl (rdN rdRl k s.word.2).2).1.act.set.care.hi).toNat, .int .u64 ((rdRl (rdN rdRl k s.word.2).2).1.act.set.care.lo).toNat] 112))
        have Hrel := Lib.hid (show (rlR).rel (w1.alloc (.cells #[.int .i64 (i64of (rdRl (rdN rdRl k s.word.2).2).1.prio), .int .u64 ((rdRl (rdN rdRl k s.word.2).2).1.mat.value.hi).toNat, .int .u64 ((rdRl (rdN rdRl k s.word.2).2).1.mat.value.lo).toNat, .int .u64 ((rdRl (rdN rdRl k s.word.2).2).1.mat.care.hi).toNat, .int .u64 ((rdRl (rdN rdRl k s.word.2).2).1.mat.care.lo).toNat, .int .i64 (i64of (rdRl (rdN rdRl k s.word.2).2).1.act.kind), .int .i64 (i64of (rdRl (rdN rdRl k s.word.2).2).1.act.port), .int .i64 (i64of (rdRl (rdN rdRl k s.word.2).2).1.act.table), .int .u64 ((rdRl (rdN rdRl k s.word.2).2).1.act.set.value.hi).toNat, .int .u64 ((rdRl (rdN rdRl k s.word.2).2).1.act.set.value.lo).toNat, .int .u64 ((rdRl (rdN rdRl k s.word.2).2).1.act.set.care.hi).toNat, .int .u64 ((rdRl (rdN rdRl k s.word.2).2).1.act.set.care.lo).toNat] 112)) E (rdRl (rdN rdRl k s.word.2).2).1 [.int .i64 (i64of (rdRl (rdN rdRl k s.word.2).2).1.prio), .int .u64 ((rdRl (rdN rdRl k s.word.2).2).1.mat.value.hi).toNat, .int .u64 ((rdRl (rdN rdRl k s.word.2).2).1.mat.value.lo).toNat, .int .u64 ((rdRl (rdN rdRl k s.word.2).2).1.mat.care.hi).toNat, .int .u64 ((rdRl (rdN rdRl k s.word.2).2).1.mat.care.lo).toNat, .int .i64 (i64of (rdRl (rdN rdRl k s.word.2).2).1.act.kind), .int .i64 (i64of (rdRl (rdN rdRl k s.word.2).2).1.act.port), .int .i64 (i64of (rdRl (rdN rdRl k s.word.2).2).1.act.table), .int .u64 ((rdRl (rdN rdRl k s.word.2).2).1.act.set.value.hi).toNat, .int .u64 ((rdRl (rdN rdRl k s.word.2).2).1.act.set.value.lo).toNat, .int .u64 ((rdRl (rdN rdRl k s.word.2).2).1.act.set.care.hi).toNat, .int .u64 ((rdRl (rdN rdRl k s.word.2).2).1.act.set.care.lo).toNat] from rfl)
        have hsz1 := hk1.size
        have HE1 := Lib.hid (show ∀ b, E b → w.heap.size ≤ b ∧ b < w1.heap.size from fun b hb => ⟨(HE.out b hb).1, Nat.lt_of_lt_of_le (HE.out b hb).2 hsz1⟩)
        clear h1 hk1
        go_wp2_with (at_builtin; (refine wpList_append_rep (R := rlR) (E := E) (O := From w.heap.size) (bytes := 96) rfl _ _ rfl Try.elr_rule (by decide) rfl Hown1.out _ _ _ [(rdRl (rdN rdRl k s.word.2).2).1] rfl rfl (Source.one (cs := [.int .i64 (i64of (rdRl (rdN rdRl k s.word.2).2).1.prio), .int .u64 ((rdRl (rdN rdRl k s.word.2).2).1.mat.value.hi).toNat, .int .u64 ((rdRl (rdN rdRl k s.word.2).2).1.mat.value.lo).toNat, .int .u64 ((rdRl (rdN rdRl k s.word.2).2).1.mat.care.hi).toNat, .int .u64 ((rdRl (rdN rdRl k s.word.2).2).1.mat.care.lo).toNat, .int .i64 (i64of (rdRl (rdN rdRl k s.word.2).2).1.act.kind), .int .i64 (i64of (rdRl (rdN rdRl k s.word.2).2).1.act.port), .int .i64 (i64of (rdRl (rdN rdRl k s.word.2).2).1.act.table), .int .u64 ((rdRl (rdN rdRl k s.word.2).2).1.act.set.value.hi).toNat, .int .u64 ((rdRl (rdN rdRl k s.word.2).2).1.act.set.value.lo).toNat, .int .u64 ((rdRl (rdN rdRl k s.word.2).2).1.act.set.care.hi).toNat, .int .u64 ((rdRl (rdN rdRl k s.word.2).2).1.act.set.care.lo).toNat]) Hrel.out) ?_ ?_ ?_ ?_ ?_); (· exact fun b hb => by have := HE1.out b hb; simp; omega); (· exact fun b hb => by have := Hsz.out; simp at hb; unfold From; omega); (· (have := Hlen.out; simp; omega)); (· (have := Hlen.out; simp; omega)); (intro b' w2 hown2 hkp2 hat2))
        have hk2 : Kp (From w.heap.size) w1 w2 := ((Kp.refl _ w1).alloc _).trans (hkp2.mono fun b hb h => (Hown1.out.blk h).2.1)
        have Hso := Lib.hid (ListSo.next (s := s.word.2) Hsz.out HE1.out hown2 H1.out HX.out Hkp.out Hk1.out hk2)
        clear hown2 hkp2 hat2 hk2
        go_wp2_with fail
        go_roundw
        case rel => exact ⟨k + 1, by omega, by go_num, Hso.out⟩
        case measure => simp [intOf]; omega
      · have Hso := Lib.hid hso
        have Hkn := Lib.hid (show n.toNat = k by omega)
        clear hso
        go_wp2_with fail
        go_ret
        rw [Hgood.out, Hkn.out]
        exact ⟨_, rfl, Hso.out.done⟩


theorem rir_rules (w : World) (X : Nat → Prop) (s : RS) (q p : Nat) (h : RirAt w X s q p) :
    Calls Try.prog 95 #[.pointer (some ⟨q, 0, none⟩)] w fun e w' => ∃ v, e = .returned v ∧ SliceAt rlR w' (From w.heap.size) (rdRules s).1 v ∧ RirAt w' X (rdRules s).2 q p ∧ Kp (Two q p) w w' := by
  have H := Lib.hid h
  clear h
  go_enter Try.func95, Try.ntmps95
  go_wp2_with fail
  refine (rir_list_rule w X s q p H.out).mono ?_
  rintro e w1 ⟨v, rfl, h1, h2, h3⟩
  have H1 := Lib.hid h1
  have H2 := Lib.hid h2
  have H3 := Lib.hid h3
  clear h1 h2 h3
  go_wp2_with fail
  go_ret
  exact ⟨v, rfl, H1.out, H2.out, H3.out⟩


theorem Try.elr_ports : elemB Try.prog 22 86 1 24 = true := by kernel_rfl
set_option maxHeartbeats 1000000 in
theorem rir_list_ports (w : World) (X : Nat → Prop) (s : RS) (q p : Nat) (h : RirAt w X s q p) :
    Calls Try.prog 71 #[.pointer (some ⟨q, 0, none⟩), .func (.func 72) #[.pointer (some ⟨q, 0, none⟩)] #[]] w fun e w' => ∃ v, e = .returned v ∧ SliceAt ptR.slice w' (From w.heap.size) (rdList rdPorts s).1 v ∧ RirAt w' X (rdList rdPorts s).2 q p ∧ Kp (Two q p) w w' := by
  obtain ⟨hq, hp, hpq⟩ := h.lt
  have h0 := h.c0
  have H := Lib.hid h
  have HX := Lib.hid h.off
  clear h hpq
  obtain ⟨n, hn⟩ : ∃ n, n = i64of s.word.1 := ⟨_, rfl⟩
  have Hn := Lib.hid hn
  have main : Calls Try.prog 90 #[.pointer (some ⟨p, 0, none⟩)] w fun e w' => e = .returned (.int .i64 n) ∧ RirAt w' X s.word.2 q p ∧ Kp (Two q p) w w' := by rw [hn]; exact Num_r w X s q p H.out
  have Hmain := Lib.hid main
  clear hn main
  by_cases hbad : n < 0 ∨ 200 < n ∨ ((s.word.2.left : Nat) : Int) < n
  · have Hbad := Lib.hid (rd_bad (rd := rdPorts) Hn.out hbad)
    have t1 : (n != 0) = true := by simp; omega
    have fin : ∀ w2 v, v = .slice none 0 0 → RirAt w2 X (s.word.2.1, true) q p → Kp (Two q p) w w2 → ∃ v', Ending.returned v = .returned v' ∧ SliceAt ptR.slice w2 (From w.heap.size) (rdList rdPorts s).1 v' ∧ RirAt w2 X (rdList rdPorts s).2 q p ∧ Kp (Two q p) w w2 := by
      intro w2 v hv hr hk
      rw [Hbad.out, hv]
      exact ⟨_, rfl, SliceAt.nil _ _ _, hr, hk⟩
    have Fin := Lib.hid fin
    clear fin
    by_cases h1 : n < 0
    · clear hbad
      go_enter Try.func71, Try.ntmps71
      go_wp2_with fail
      refine Hmain.out.mono ?_
      rintro e w1 ⟨rfl, h2, hk1⟩
      have d0 := h2.c1
      have d1 := h2.fz 1
      have H2 := Lib.hid h2
      have Hk1 := Lib.hid hk1
      clear h2 hk1
      go_wp2_with fail
      all_goals
        go_ret
        exact Fin.out _ _ rfl (H2.out.long true) (Hk1.out.trans ((Kp.set1 _ _ _ _).mono fun _ _ e => .inl e))
    · by_cases h3 : 200 < n
      · clear hbad
        go_enter Try.func71, Try.ntmps71
        go_wp2_with fail
        refine Hmain.out.mono ?_
        rintro e w1 ⟨rfl, h2, hk1⟩
        have d0 := h2.c1
        have d1 := h2.fz 1
        have H2 := Lib.hid h2
        have Hk1 := Lib.hid hk1
        clear h2 hk1
        go_wp2_with fail
        all_goals
          go_ret
          exact Fin.out _ _ rfl (H2.out.long true) (Hk1.out.trans ((Kp.set1 _ _ _ _).mono fun _ _ e => .inl e))
      · have h4 : ((s.word.2.left : Nat) : Int) < n := by omega
        clear hbad
        go_enter Try.func71, Try.ntmps71
        go_wp2_with fail
        refine Hmain.out.mono ?_
        rintro e w1 ⟨rfl, h2, hk1⟩
        have d0 := h2.c1
        have d1 := h2.fz 1
        have d2 := h2.c0
        have H2 := Lib.hid h2
        have Hk1 := Lib.hid hk1
        clear h2 hk1
        go_wp2_with fail
        refine (Left_r _ X _ q p H2.out).mono ?_
        rintro e w1 ⟨rfl, rfl⟩
        go_wp2_with fail
        all_goals
          go_ret
          exact Fin.out _ _ rfl (H2.out.long true) (Hk1.out.trans ((Kp.set1 _ _ _ _).mono fun _ _ e => .inl e))
  · have Hgood := Lib.hid (rd_good (rd := rdPorts) Hn.out hbad)
    have h1 : 0 ≤ n := by omega
    have h2 : n ≤ 200 := by omega
    have h3 : n ≤ ((s.word.2.left : Nat) : Int) := by omega
    have h4 : ¬ n < 0 := by omega
    have h5 : ¬ 200 < n := by omega
    have h6 : ¬ ((s.word.2.left : Nat) : Int) < n := by omega
    clear hbad
    go_enter Try.func71, Try.ntmps71
    go_wp2_with fail
    refine Hmain.out.mono ?_
    rintro e w1 ⟨rfl, h7, hk1⟩
    have d2 := h7.c0
    have H2 := Lib.hid h7
    have Hk1 := Lib.hid hk1
    clear h7 hk1
    go_wp2_with fail
    refine (Left_r _ X _ q p H2.out).mono ?_
    rintro e w1 ⟨rfl, rfl⟩
    clear d2
    go_wp2_with fail
    go_loopw [6, 39] (fun v i wr => ∃ k : Nat, (k : Int) ≤ n ∧ i = .int .i64 k ∧ ListSo ptR.slice 86 rdPorts w wr X s.word.2 q p k v) (fun _ i _ => n.toNat - (intOf i).toNat)
    case atStart => exact ⟨0, by simpa using h1, rfl, No, OwnAt.nil _ _ _ _ _, fun _ h => h.elim, H2.out, Hk1.out.orl⟩
    case round =>
      obtain ⟨k, hk, rfl, hso⟩ := hrel
      have q3 : (0 : Int) ≤ (k : Int) := by omega
      by_cases hlt : (k : Int) < n
      · obtain ⟨E, hown, hE, hr, hkp⟩ := hso
        have Hsz := Lib.hid hkp.size
        have Hlen := Lib.hid (rdN_len rdPorts k s.word.2)
        have Hown := Lib.hid hown
        have HE := Lib.hid hE
        have Hr := Lib.hid hr
        have Hkp := Lib.hid hkp
        clear hown hE hr hkp
        go_wp2_with fail
        refine (rir_ports _ X _ q p Hr.out).mono ?_
        rintro e w1 ⟨u, rfl, hu, h1, hk1⟩
        obtain ⟨A3, n3, c3, rfl, _, _, _⟩ := hu.form'
        have H1 := Lib.hid h1
        have Hk1 := Lib.hid hk1
        have hsz1 := hk1.size
        have Hown1 := Lib.hid (((Hown.out.kp hk1 (fun b hb h => absurd (HE.out b hb).1 (by unfold Two at h; omega)) (fun b hb h => absurd hb (by unfold Two at h; unfold From; omega))).monoE (E' := fun b => E b ∨ (wr.heap.size ≤ b ∧ b < w1.heap.size)) (fun b _ h => .inl h) (fun g hg h => h.elim (Hown.out.blk hg).2.2 (fun h => absurd (Hown.out.blk hg).1 (by omega)))).alloc (.cells #[.slice A3 n3 c3] 86))
        have Hrel := Lib.hid (show (ptR.slice).rel (w1.alloc (.cells #[.slice A3 n3 c3] 86)) (fun b => E b ∨ (wr.heap.size ≤ b ∧ b < w1.heap.size)) (rdPorts (rdN rdPorts k s.word.2).2).1 [.slice A3 n3 c3] from ⟨_, rfl, (hu.mono (fun b hlt hb => .inr ⟨hb, hlt⟩)).kp ((Kp.refl No w1).alloc _) (fun _ _ => id)⟩)
        clear hu
        have HE1 := Lib.hid (show ∀ b, (fun b => E b ∨ (wr.heap.size ≤ b ∧ b < w1.heap.size)) b → w.heap.size ≤ b ∧ b < w1.heap.size from fun b hb => hb.elim (fun hb => ⟨(HE.out b hb).1, Nat.lt_of_lt_of_le (HE.out b hb).2 hsz1⟩) (fun hb => ⟨Nat.le_trans Hsz.out hb.1, hb.2⟩))
        clear h1 hk1
        go_wp2_with (at_builtin; (refine wpList_append_rep (R := ptR.slice) (E := (fun b => E b ∨ (wr.heap.size ≤ b ∧ b < w1.heap.size))) (O := From w.heap.size) (bytes := 24) rfl _ _ rfl Try.elr_ports (by decide) rfl Hown1.out _ _ _ [(rdPorts (rdN rdPorts k s.word.2).2).1] rfl rfl (Source.one (cs := [.slice A3 n3 c3]) Hrel.out) ?_ ?_ ?_ ?_ ?_); (· exact fun b hb => by have := HE1.out b hb; simp; omega); (· exact fun b hb => by have := Hsz.out; simp at hb; unfold From; omega); (· (have := Hlen.out; simp; omega)); (· (have := Hlen.out; simp; omega)); (intro b' w2 hown2 hkp2 hat2))
        have hk2 : Kp (From w.heap.size) w1 w2 := ((Kp.refl _ w1).alloc _).trans (hkp2.mono fun b hb h => (Hown1.out.blk h).2.1)
        have Hso := Lib.hid (ListSo.next (s := s.word.2) Hsz.out HE1.out hown2 H1.out HX.out Hkp.out Hk1.out hk2)
        clear hown2 hkp2 hat2 hk2
        go_wp2_with fail
        go_roundw
        case rel => exact ⟨k + 1, by omega, by go_num, Hso.out⟩
        case measure => simp [intOf]; omega
      · have Hso := Lib.hid hso
        have Hkn := Lib.hid (show n.toNat = k by omega)
        clear hso
        go_wp2_with fail
        go_ret
        rw [Hgood.out, Hkn.out]
        exact ⟨_, rfl, Hso.out.done⟩


theorem Try.elr_rules : elemB Try.prog 44 104 1 24 = true := by kernel_rfl
set_option maxHeartbeats 1000000 in
theorem rir_list_rules (w : World) (X : Nat → Prop) (s : RS) (q p : Nat) (h : RirAt w X s q p) :
    Calls Try.prog 94 #[.pointer (some ⟨q, 0, none⟩), .func (.func 95) #[.pointer (some ⟨q, 0, none⟩)] #[]] w fun e w' => ∃ v, e = .returned v ∧ SliceAt rlR.slice w' (From w.heap.size) (rdList rdRules s).1 v ∧ RirAt w' X (rdList rdRules s).2 q p ∧ Kp (Two q p) w w' := by
  obtain ⟨hq, hp, hpq⟩ := h.lt
  have h0 := h.c0
  have H := Lib.hid h
  have HX := Lib.hid h.off
  clear h hpq
  obtain ⟨n, hn⟩ : ∃ n, n = i64of s.word.1 := ⟨_, rfl⟩
  have Hn := Lib.hid hn
  have main : Calls Try.prog 90 #[.pointer (some ⟨p, 0, none⟩)] w fun e w' => e = .returned (.int .i64 n) ∧ RirAt w' X s.word.2 q p ∧ Kp (Two q p) w w' := by rw [hn]; exact Num_r w X s q p H.out
  have Hmain := Lib.hid main
  clear hn main
  by_cases hbad : n < 0 ∨ 200 < n ∨ ((s.word.2.left : Nat) : Int) < n
  · have Hbad := Lib.hid (rd_bad (rd := rdRules) Hn.out hbad)
    have t1 : (n != 0) = true := by simp; omega
    have fin : ∀ w2 v, v = .slice none 0 0 → RirAt w2 X (s.word.2.1, true) q p → Kp (Two q p) w w2 → ∃ v', Ending.returned v = .returned v' ∧ SliceAt rlR.slice w2 (From w.heap.size) (rdList rdRules s).1 v' ∧ RirAt w2 X (rdList rdRules s).2 q p ∧ Kp (Two q p) w w2 := by
      intro w2 v hv hr hk
      rw [Hbad.out, hv]
      exact ⟨_, rfl, SliceAt.nil _ _ _, hr, hk⟩
    have Fin := Lib.hid fin
    clear fin
    by_cases h1 : n < 0
    · clear hbad
      go_enter Try.func94, Try.ntmps94
      go_wp2_with fail
      refine Hmain.out.mono ?_
      rintro e w1 ⟨rfl, h2, hk1⟩
      have d0 := h2.c1
      have d1 := h2.fz 1
      have H2 := Lib.hid h2
      have Hk1 := Lib.hid hk1
      clear h2 hk1
      go_wp2_with fail
      all_goals
        go_ret
        exact Fin.out _ _ rfl (H2.out.long true) (Hk1.out.trans ((Kp.set1 _ _ _ _).mono fun _ _ e => .inl e))
    · by_cases h3 : 200 < n
      · clear hbad
        go_enter Try.func94, Try.ntmps94
        go_wp2_with fail
        refine Hmain.out.mono ?_
        rintro e w1 ⟨rfl, h2, hk1⟩
        have d0 := h2.c1
        have d1 := h2.fz 1
        have H2 := Lib.hid h2
        have Hk1 := Lib.hid hk1
        clear h2 hk1
        go_wp2_with fail
        all_goals
          go_ret
          exact Fin.out _ _ rfl (H2.out.long true) (Hk1.out.trans ((Kp.set1 _ _ _ _).mono fun _ _ e => .inl e))
      · have h4 : ((s.word.2.left : Nat) : Int) < n := by omega
        clear hbad
        go_enter Try.func94, Try.ntmps94
        go_wp2_with fail
        refine Hmain.out.mono ?_
        rintro e w1 ⟨rfl, h2, hk1⟩
        have d0 := h2.c1
        have d1 := h2.fz 1
        have d2 := h2.c0
        have H2 := Lib.hid h2
        have Hk1 := Lib.hid hk1
        clear h2 hk1
        go_wp2_with fail
        refine (Left_r _ X _ q p H2.out).mono ?_
        rintro e w1 ⟨rfl, rfl⟩
        go_wp2_with fail
        all_goals
          go_ret
          exact Fin.out _ _ rfl (H2.out.long true) (Hk1.out.trans ((Kp.set1 _ _ _ _).mono fun _ _ e => .inl e))
  · have Hgood := Lib.hid (rd_good (rd := rdRules) Hn.out hbad)
    have h1 : 0 ≤ n := by omega
    have h2 : n ≤ 200 := by omega
    have h3 : n ≤ ((s.word.2.left : Nat) : Int) := by omega
    have h4 : ¬ n < 0 := by omega
    have h5 : ¬ 200 < n := by omega
    have h6 : ¬ ((s.word.2.left : Nat) : Int) < n := by omega
    clear hbad
    go_enter Try.func94, Try.ntmps94
    go_wp2_with fail
    refine Hmain.out.mono ?_
    rintro e w1 ⟨rfl, h7, hk1⟩
    have d2 := h7.c0
    have H2 := Lib.hid h7
    have Hk1 := Lib.hid hk1
    clear h7 hk1
    go_wp2_with fail
    refine (Left_r _ X _ q p H2.out).mono ?_
    rintro e w1 ⟨rfl, rfl⟩
    clear d2
    go_wp2_with fail
    go_loopw [6, 39] (fun v i wr => ∃ k : Nat, (k : Int) ≤ n ∧ i = .int .i64 k ∧ ListSo rlR.slice 104 rdRules w wr X s.word.2 q p k v) (fun _ i _ => n.toNat - (intOf i).toNat)
    case atStart => exact ⟨0, by simpa using h1, rfl, No, OwnAt.nil _ _ _ _ _, fun _ h => h.elim, H2.out, Hk1.out.orl⟩
    case round =>
      obtain ⟨k, hk, rfl, hso⟩ := hrel
      have q3 : (0 : Int) ≤ (k : Int) := by omega
      by_cases hlt : (k : Int) < n
      · obtain ⟨E, hown, hE, hr, hkp⟩ := hso
        have Hsz := Lib.hid hkp.size
        have Hlen := Lib.hid (rdN_len rdRules k s.word.2)
        have Hown := Lib.hid hown
        have HE := Lib.hid hE
        have Hr := Lib.hid hr
        have Hkp := Lib.hid hkp
        clear hown hE hr hkp
        go_wp2_with fail
        refine (rir_rules _ X _ q p Hr.out).mono ?_
        rintro e w1 ⟨u, rfl, hu, h1, hk1⟩
        obtain ⟨A3, n3, c3, rfl, _, _, _⟩ := hu.form'
        have H1 := Lib.hid h1
        have Hk1 := Lib.hid hk1
        have hsz1 := hk1.size
        have Hown1 := Lib.hid (((Hown.out.kp hk1 (fun b hb h => absurd (HE.out b hb).1 (by unfold Two at h; omega)) (fun b hb h => absurd hb (by unfold Two at h; unfold From; omega))).monoE (E' := fun b => E b ∨ (wr.heap.size ≤ b ∧ b < w1.heap.size)) (fun b _ h => .inl h) (fun g hg h => h.elim (Hown.out.blk hg).2.2 (fun h => absurd (Hown.out.blk hg).1 (by omega)))).alloc (.cells #[.slice A3 n3 c3] 104))
        have Hrel := Lib.hid (show (rlR.slice).rel (w1.alloc (.cells #[.slice A3 n3 c3] 104)) (fun b => E b ∨ (wr.heap.size ≤ b ∧ b < w1.heap.size)) (rdRules (rdN rdRules k s.word.2).2).1 [.slice A3 n3 c3] from ⟨_, rfl, (hu.mono (fun b hlt hb => .inr ⟨hb, hlt⟩)).kp ((Kp.refl No w1).alloc _) (fun _ _ => id)⟩)
        clear hu
        have HE1 := Lib.hid (show ∀ b, (fun b => E b ∨ (wr.heap.size ≤ b ∧ b < w1.heap.size)) b → w.heap.size ≤ b ∧ b < w1.heap.size from fun b hb => hb.elim (fun hb => ⟨(HE.out b hb).1, Nat.lt_of_lt_of_le (HE.out b hb).2 hsz1⟩) (fun hb => ⟨Nat.le_trans Hsz.out hb.1, hb.2⟩))
        clear h1 hk1
        go_wp2_with (at_builtin; (refine wpList_append_rep (R := rlR.slice) (E := (fun b => E b ∨ (wr.heap.size ≤ b ∧ b < w1.heap.size))) (O := From w.heap.size) (bytes := 24) rfl _ _ rfl Try.elr_rules (by decide) rfl Hown1.out _ _ _ [(rdRules (rdN rdRules k s.word.2).2).1] rfl rfl (Source.one (cs := [.slice A3 n3 c3]) Hrel.out) ?_ ?_ ?_ ?_ ?_); (· exact fun b hb => by have := HE1.out b hb; simp; omega); (· exact fun b hb => by have := Hsz.out; simp at hb; unfold From; omega); (· (have := Hlen.out; simp; omega)); (· (have := Hlen.out; simp; omega)); (intro b' w2 hown2 hkp2 hat2))
        have hk2 : Kp (From w.heap.size) w1 w2 := ((Kp.refl _ w1).alloc _).trans (hkp2.mono fun b hb h => (Hown1.out.blk h).2.1)
        have Hso := Lib.hid (ListSo.next (s := s.word.2) Hsz.out HE1.out hown2 H1.out HX.out Hkp.out Hk1.out hk2)
        clear hown2 hkp2 hat2 hk2
        go_wp2_with fail
        go_roundw
        case rel => exact ⟨k + 1, by omega, by go_num, Hso.out⟩
        case measure => simp [intOf]; omega
      · have Hso := Lib.hid hso
        have Hkn := Lib.hid (show n.toNat = k by omega)
        clear hso
        go_wp2_with fail
        go_ret
        rw [Hgood.out, Hkn.out]
        exact ⟨_, rfl, Hso.out.done⟩


theorem rir_tables (w : World) (X : Nat → Prop) (s : RS) (q p : Nat) (h : RirAt w X s q p) :
    Calls Try.prog 79 #[.pointer (some ⟨q, 0, none⟩)] w fun e w' => ∃ v, e = .returned v ∧ SliceAt rlR.slice w' (From w.heap.size) (rdTables s).1 v ∧ RirAt w' X (rdTables s).2 q p ∧ Kp (Two q p) w w' := by
  have H := Lib.hid h
  clear h
  go_enter Try.func79, Try.ntmps79
  go_wp2_with fail
  refine (rir_list_rules w X s q p H.out).mono ?_
  rintro e w1 ⟨v, rfl, h1, h2, h3⟩
  have H1 := Lib.hid h1
  have H2 := Lib.hid h2
  have H3 := Lib.hid h3
  clear h1 h2 h3
  go_wp2_with fail
  go_ret
  exact ⟨v, rfl, H1.out, H2.out, H3.out⟩


theorem Try.elr_tables : elemB Try.prog 29 44 1 24 = true := by kernel_rfl
set_option maxHeartbeats 1000000 in
theorem rir_list_tables (w : World) (X : Nat → Prop) (s : RS) (q p : Nat) (h : RirAt w X s q p) :
    Calls Try.prog 78 #[.pointer (some ⟨q, 0, none⟩), .func (.func 79) #[.pointer (some ⟨q, 0, none⟩)] #[]] w fun e w' => ∃ v, e = .returned v ∧ SliceAt rlR.slice.slice w' (From w.heap.size) (rdList rdTables s).1 v ∧ RirAt w' X (rdList rdTables s).2 q p ∧ Kp (Two q p) w w' := by
  obtain ⟨hq, hp, hpq⟩ := h.lt
  have h0 := h.c0
  have H := Lib.hid h
  have HX := Lib.hid h.off
  clear h hpq
  obtain ⟨n, hn⟩ : ∃ n, n = i64of s.word.1 := ⟨_, rfl⟩
  have Hn := Lib.hid hn
  have main : Calls Try.prog 90 #[.pointer (some ⟨p, 0, none⟩)] w fun e w' => e = .returned (.int .i64 n) ∧ RirAt w' X s.word.2 q p ∧ Kp (Two q p) w w' := by rw [hn]; exact Num_r w X s q p H.out
  have Hmain := Lib.hid main
  clear hn main
  by_cases hbad : n < 0 ∨ 200 < n ∨ ((s.word.2.left : Nat) : Int) < n
  · have Hbad := Lib.hid (rd_bad (rd := rdTables) Hn.out hbad)
    have t1 : (n != 0) = true := by simp; omega
    have fin : ∀ w2 v, v = .slice none 0 0 → RirAt w2 X (s.word.2.1, true) q p → Kp (Two q p) w w2 → ∃ v', Ending.returned v = .returned v' ∧ SliceAt rlR.slice.slice w2 (From w.heap.size) (rdList rdTables s).1 v' ∧ RirAt w2 X (rdList rdTables s).2 q p ∧ Kp (Two q p) w w2 := by
      intro w2 v hv hr hk
      rw [Hbad.out, hv]
      exact ⟨_, rfl, SliceAt.nil _ _ _, hr, hk⟩
    have Fin := Lib.hid fin
    clear fin
    by_cases h1 : n < 0
    · clear hbad
      go_enter Try.func78, Try.ntmps78
      go_wp2_with fail
      refine Hmain.out.mono ?_
      rintro e w1 ⟨rfl, h2, hk1⟩
      have d0 := h2.c1
      have d1 := h2.fz 1
      have H2 := Lib.hid h2
      have Hk1 := Lib.hid hk1
      clear h2 hk1
      go_wp2_with fail
      all_goals
        go_ret
        exact Fin.out _ _ rfl (H2.out.long true) (Hk1.out.trans ((Kp.set1 _ _ _ _).mono fun _ _ e => .inl e))
    · by_cases h3 : 200 < n
      · clear hbad
        go_enter Try.func78, Try.ntmps78
        go_wp2_with fail
        refine Hmain.out.mono ?_
        rintro e w1 ⟨rfl, h2, hk1⟩
        have d0 := h2.c1
        have d1 := h2.fz 1
        have H2 := Lib.hid h2
        have Hk1 := Lib.hid hk1
        clear h2 hk1
        go_wp2_with fail
        all_goals
          go_ret
          exact Fin.out _ _ rfl (H2.out.long true) (Hk1.out.trans ((Kp.set1 _ _ _ _).mono fun _ _ e => .inl e))
      · have h4 : ((s.word.2.left : Nat) : Int) < n := by omega
        clear hbad
        go_enter Try.func78, Try.ntmps78
        go_wp2_with fail
        refine Hmain.out.mono ?_
        rintro e w1 ⟨rfl, h2, hk1⟩
        have d0 := h2.c1
        have d1 := h2.fz 1
        have d2 := h2.c0
        have H2 := Lib.hid h2
        have Hk1 := Lib.hid hk1
        clear h2 hk1
        go_wp2_with fail
        refine (Left_r _ X _ q p H2.out).mono ?_
        rintro e w1 ⟨rfl, rfl⟩
        go_wp2_with fail
        all_goals
          go_ret
          exact Fin.out _ _ rfl (H2.out.long true) (Hk1.out.trans ((Kp.set1 _ _ _ _).mono fun _ _ e => .inl e))
  · have Hgood := Lib.hid (rd_good (rd := rdTables) Hn.out hbad)
    have h1 : 0 ≤ n := by omega
    have h2 : n ≤ 200 := by omega
    have h3 : n ≤ ((s.word.2.left : Nat) : Int) := by omega
    have h4 : ¬ n < 0 := by omega
    have h5 : ¬ 200 < n := by omega
    have h6 : ¬ ((s.word.2.left : Nat) : Int) < n := by omega
    clear hbad
    go_enter Try.func78, Try.ntmps78
    go_wp2_with fail
    refine Hmain.out.mono ?_
    rintro e w1 ⟨rfl, h7, hk1⟩
    have d2 := h7.c0
    have H2 := Lib.hid h7
    have Hk1 := Lib.hid hk1
    clear h7 hk1
    go_wp2_with fail
    refine (Left_r _ X _ q p H2.out).mono ?_
    rintro e w1 ⟨rfl, rfl⟩
    clear d2
    go_wp2_with fail
    go_loopw [6, 39] (fun v i wr => ∃ k : Nat, (k : Int) ≤ n ∧ i = .int .i64 k ∧ ListSo rlR.slice.slice 44 rdTables w wr X s.word.2 q p k v) (fun _ i _ => n.toNat - (intOf i).toNat)
    case atStart => exact ⟨0, by simpa using h1, rfl, No, OwnAt.nil _ _ _ _ _, fun _ h => h.elim, H2.out, Hk1.out.orl⟩
    case round =>
      obtain ⟨k, hk, rfl, hso⟩ := hrel
      have q3 : (0 : Int) ≤ (k : Int) := by omega
      by_cases hlt : (k : Int) < n
      · obtain ⟨E, hown, hE, hr, hkp⟩ := hso
        have Hsz := Lib.hid hkp.size
        have Hlen := Lib.hid (rdN_len rdTables k s.word.2)
        have Hown := Lib.hid hown
        have HE := Lib.hid hE
        have Hr := Lib.hid hr
        have Hkp := Lib.hid hkp
        clear hown hE hr hkp
        go_wp2_with fail
        refine (rir_tables _ X _ q p Hr.out).mono ?_
        rintro e w1 ⟨u, rfl, hu, h1, hk1⟩
        obtain ⟨A3, n3, c3, rfl, _, _, _⟩ := hu.form'
        have H1 := Lib.hid h1
        have Hk1 := Lib.hid hk1
        have hsz1 := hk1.size
        have Hown1 := Lib.hid (((Hown.out.kp hk1 (fun b hb h => absurd (HE.out b hb).1 (by unfold Two at h; omega)) (fun b hb h => absurd hb (by unfold Two at h; unfold From; omega))).monoE (E' := fun b => E b ∨ (wr.heap.size ≤ b ∧ b < w1.heap.size)) (fun b _ h => .inl h) (fun g hg h => h.elim (Hown.out.blk hg).2.2 (fun h => absurd (Hown.out.blk hg).1 (by omega)))).alloc (.cells #[.slice A3 n3 c3] 44))
        have Hrel := Lib.hid (show (rlR.slice.slice).rel (w1.alloc (.cells #[.slice A3 n3 c3] 44)) (fun b => E b ∨ (wr.heap.size ≤ b ∧ b < w1.heap.size)) (rdTables (rdN rdTables k s.word.2).2).1 [.slice A3 n3 c3] from ⟨_, rfl, (hu.mono (fun b hlt hb => .inr ⟨hb, hlt⟩)).kp ((Kp.refl No w1).alloc _) (fun _ _ => id)⟩)
        clear hu
        have HE1 := Lib.hid (show ∀ b, (fun b => E b ∨ (wr.heap.size ≤ b ∧ b < w1.heap.size)) b → w.heap.size ≤ b ∧ b < w1.heap.size from fun b hb => hb.elim (fun hb => ⟨(HE.out b hb).1, Nat.lt_of_lt_of_le (HE.out b hb).2 hsz1⟩) (fun hb => ⟨Nat.le_trans Hsz.out hb.1, hb.2⟩))
        clear h1 hk1
        go_wp2_with (at_builtin; (refine wpList_append_rep (R := rlR.slice.slice) (E := (fun b => E b ∨ (wr.heap.size ≤ b ∧ b < w1.heap.size))) (O := From w.heap.size) (bytes := 24) rfl _ _ rfl Try.elr_tables (by decide) rfl Hown1.out _ _ _ [(rdTables (rdN rdTables k s.word.2).2).1] rfl rfl (Source.one (cs := [.slice A3 n3 c3]) Hrel.out) ?_ ?_ ?_ ?_ ?_); (· exact fun b hb => by have := HE1.out b hb; simp; omega); (· exact fun b hb => by have := Hsz.out; simp at hb; unfold From; omega); (· (have := Hlen.out; simp; omega)); (· (have := Hlen.out; simp; omega)); (intro b' w2 hown2 hkp2 hat2))
        have hk2 : Kp (From w.heap.size) w1 w2 := ((Kp.refl _ w1).alloc _).trans (hkp2.mono fun b hb h => (Hown1.out.blk h).2.1)
        have Hso := Lib.hid (ListSo.next (s := s.word.2) Hsz.out HE1.out hown2 H1.out HX.out Hkp.out Hk1.out hk2)
        clear hown2 hkp2 hat2 hk2
        go_wp2_with fail
        go_roundw
        case rel => exact ⟨k + 1, by omega, by go_num, Hso.out⟩
        case measure => simp [intOf]; omega
      · have Hso := Lib.hid hso
        have Hkn := Lib.hid (show n.toNat = k by omega)
        clear hso
        go_wp2_with fail
        go_ret
        rw [Hgood.out, Hkn.out]
        exact ⟨_, rfl, Hso.out.done⟩

end Go.Proofs.Ytpaldbejnbcokaa
