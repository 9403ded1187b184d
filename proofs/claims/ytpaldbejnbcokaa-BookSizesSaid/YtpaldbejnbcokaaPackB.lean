/- Contracts of package pack: bytes.Clone, slices.Clip, (*Writer).Bytes. -/
import Derived.Test.YtpaldbejnbcokaaPackW
namespace Go.Proofs.Ytpaldbejnbcokaa
open Go.RowKit

theorem OwnAt.empty {α : Type} (R : Rep α) (e : TypeId) (w : World) (E O : Nat → Prop) (hE : ∀ b, E b → b < w.heap.size) (hO : ∀ b, w.heap.size ≤ b → O b) :
    OwnAt R e (w.alloc (.cells #[] e)) E O [] (.slice (some ⟨w.heap.size, 0, none⟩) 0 0) :=
  ⟨[], World.ownsRow_made w #[] 0 (Nat.zero_le _) (Nat.zero_le _) (by simp), rfl, fun g hg => by
    have e : w.heap.size = g := by simpa [Value.ownBlock] using hg
    subst e
    exact ⟨hO _ (Nat.le_refl _), fun h => absurd (hE _ h) (by omega)⟩⟩

set_option maxHeartbeats 400000 in
theorem bytes_Clone (w : World) (F : Nat → Prop) (l : List UInt8) (v : Value) (h : SliceAt u8R w F l v) (hb : l.length ≤ 140737488355328) :
    Calls Try.prog 82 #[v] w fun e w' => ∃ v', e = .returned v' ∧ OwnAt u8R 5 w' No (From w.heap.size) l v' ∧ Kp No w w' := by
  obtain ⟨A, n, c, rfl, hn, hc1, hc2⟩ := h.form'
  have H := Lib.hid h
  have Hb := Lib.hid hb
  clear h hb
  have hnil := fun (A : Option Addr) (n c : Nat) (W : World) => Lib.run_eql_slice_nil (P := Try.prog) W _ _ A n c 0 0 Try.underlying32
  rcases A with _ | A
  · go_enter Try.func82, Try.ntmps82
    go_wp2
    go_ret
    refine ⟨_, rfl, ?_, Kp.refl _ _⟩
    obtain ⟨A', c', e, _, _, h3⟩ := H.out
    injection e with e1 e2 e3
    have hl : l = [] := by
      refine List.eq_nil_of_length_eq_zero (Classical.byContradiction fun hne => ?_)
      obtain ⟨b, off, e, _⟩ := h3 (by omega)
      rw [← e1] at e
      cases e
    subst hl
    exact OwnAt.nil _ _ _ _ _
  · go_enter Try.func82, Try.ntmps82
    have Hs := Lib.hid (H.out.kp ((Kp.refl No w).alloc (.cells #[] 5)) (fun _ _ => id)).source
    go_wp2_with (at_builtin; (refine wpList_append_rep (R := u8R) (v := .slice (some ⟨w.heap.size, 0, none⟩) 0 0) (E := No) (O := From w.heap.size) (bytes := 1) rfl _ _ rfl Try.el34 (by decide) rfl (OwnAt.empty _ _ _ _ _ ?_ ?_) _ _ _ l rfl hn.out ?_ ?_ ?_ ?_ ?_ ?_); (· exact fun b hb => hb.elim); (· exact fun b hb => hb); (· obtain ⟨news, h1, h2⟩ := Hs.out; exact ⟨news, h1.mono fun x c h => h, h2⟩); (· exact fun b hb => hb.elim); (· exact fun b hb => (by simp at hb; unfold From; omega)); (· have := Hb.out; simp; omega); (· have := Hb.out; simp; omega); (intro v' w2 ho2 hk2 hat2; obtain ⟨A2, m, c, rfl, _, _, _⟩ := ho2.form'; have Ho2 := Lib.hid ho2; have Hk2 := Lib.hid hk2; clear ho2 hk2 hat2))
    go_ret
    exact ⟨_, rfl, Ho2.out, ((Kp.refl No w).alloc _).trans2 Hk2.out fun g hg h => by injection h with h; simp only at h; omega⟩

set_option maxHeartbeats 400000 in
theorem Clip_bytes (w : World) (F : Nat → Prop) (l : List UInt8) (v : Value) (h : SliceAt u8R w F l v) :
    Calls Try.prog 80 #[v] w fun e w' => ∃ v', e = .returned v' ∧ SliceAt u8R w F l v' ∧ w = w' := by
  obtain ⟨A, n, c, rfl, hn, hc1, hc2⟩ := h.form'
  have H := Lib.hid h
  clear h
  go_enter Try.func80, Try.ntmps80
  go_wp2
  go_ret
  refine ⟨_, rfl, ?_, rfl⟩
  obtain ⟨A', c', e, h1, h2, h3⟩ := H.out
  injection e with e1 e2 e3
  show SliceAt u8R w F l (.slice A n n)
  exact ⟨A, n, by rw [hn.out], by omega, by unfold maxLen; omega, by rw [e1]; exact h3⟩

set_option maxHeartbeats 400000 in
theorem Writer_Bytes (w : World) (X : Nat → Prop) (l : List UInt8) (p : Nat) (h : WriterAt w X l p) (hb : l.length + 20000000 ≤ 140737488355328) :
    Calls Try.prog 58 #[.pointer (some ⟨p, 0, none⟩)] w fun e w' => ∃ v, e = .returned v ∧ SliceAt u8R w' (From w.heap.size) (l ++ putF (sumF l) 8) v ∧ Kp No w w' := by
  obtain ⟨hp, sv, hh, ho⟩ := h
  have hc : w.cell? ⟨p, 0, none⟩ = some sv := cell_of_row w p 0 _ _ _ hh
  have hlt := (Array.getElem?_eq_some_iff.1 hh).1
  have Ho := Lib.hid ho
  have Hh := Lib.hid hh
  have Hb := Lib.hid hb
  clear ho hh hb
  go_enter Try.func58, Try.ntmps58
  go_wp2_with fail
  have hS0 := And.intro hc (Lib.hid (Kp.refl No w).drew)
  go_region_held3 (fun w' => w'.cell? ⟨p, 0, none⟩ = some sv ∧ Hid (Kp No w w')) (first | assumption | (refine ⟨?_, ?_⟩ <;> assumption))
    (first
      | (go_at_call 82; go_split_ands; refine (bytes_Clone _ (fun b => No b ∨ (X b ∧ b ≠ p)) l sv ?_ ?_).mono ?_; (exact (Ho.out.slice.kp (Hid.out (by assumption)) (fun _ _ => id))); (have := Hb.out; omega); rintro e w' ⟨v', rfl, hoC, hkC⟩; have hS1 := And.intro (hkC.cell (p := ⟨p, 0, none⟩) (u := sv) (by assumption) (not_no _)) (Lib.hid ((Hid.out (p := Kp No w _) (by assumption)).trans hkC)))
      | (go_at_call 83; go_split_ands; refine (pack_Sum _ (fun b => No b ∨ (X b ∧ b ≠ p)) sv l ?_).mono ?_; (exact (Ho.out.slice.kp (Hid.out (by assumption)) (fun _ _ => id))); rintro e w' ⟨rfl, rfl⟩)
      | (go_at_call 81; go_split_ands; refine (pack_put _ _ _ _ (sumF l) 8 ?_ hoC ?_).mono ?_; omega; (have := Hb.out; omega); rintro e w' ⟨v2, rfl, hoP, hkP⟩; go_loud (have hS2 := And.intro (hkP.cell (p := ⟨p, 0, none⟩) (u := sv) (by assumption) (by unfold From; simp; omega)) (Lib.hid ((Hid.out (p := Kp No w _) (by assumption)).trans2 hkP (fun g hg h => absurd h (by unfold From; simp; omega))))))
      | (go_at_call 80; go_split_ands; refine (Clip_bytes _ _ _ _ hoP.slice).mono ?_; rintro e w' ⟨v3, rfl, hs3, rfl⟩))
  go_wp2
  go_ret
  exact ⟨v3, rfl, hs3.mono fun b _ hb => hb.elim (fun h => h.elim) (fun h => h.elim (fun h => h) (fun h => Nat.le_trans hkC.size h)), Hid.out (by assumption)⟩
end Go.Proofs.Ytpaldbejnbcokaa
