/- Contracts of package wire: the reader's numbers into places. -/
import Derived.Test.YtpaldbejnbcokaaRirB
namespace Go.Proofs.Ytpaldbejnbcokaa
open Go.RowKit
set_option linter.unusedSimpArgs false
set_option linter.unusedVariables false

def plR : Rep (Nat × Nat) := Rep.plain 1 (fun x => [.pointer (some ⟨x.1, x.2, none⟩)]) (fun _ => rfl) (by simp [Value.oneCell'])
theorem SliceAt.get_pl {w : World} {F : Nat → Prop} {xs : List (Nat × Nat)} {A : Option Addr} {n c k : Nat} {x : Nat × Nat} (h : SliceAt plR w F xs (.slice A n c)) (hk : xs[k]? = some x) :
    ∃ b off, A = some ⟨b, off, none⟩ ∧ w.cell? ⟨b, off + k, none⟩ = some (.pointer (some ⟨x.1, x.2, none⟩)) := by
  obtain ⟨b, off, cs, rfl, _, _, hr, hc⟩ := h.get hk
  have hr' : cs = [.pointer (some ⟨x.1, x.2, none⟩)] := hr
  subst hr'
  refine ⟨b, off, rfl, ?_⟩
  have h := hc 0 _ rfl
  rwa [show k * plR.n + 0 = k from Nat.mul_one k] at h
/-- Places that are filled one after another. -/
def setW (cs : Array Value) (l : List (Nat × UInt64)) : Array Value := l.foldl (fun cs x => cs.setIfInBounds x.1 (.int .i64 (i64of x.2))) cs
theorem setW_snoc (cs : Array Value) (l : List (Nat × UInt64)) (x : Nat × UInt64) : setW cs (l ++ [x]) = (setW cs l).setIfInBounds x.1 (.int .i64 (i64of x.2)) := by simp [setW]
theorem setW_size (cs : Array Value) : ∀ (l : List (Nat × UInt64)), (setW cs l).size = cs.size := by
  intro l
  induction l generalizing cs with
  | nil => rfl
  | cons x l ih => rw [show setW cs (x :: l) = setW (cs.setIfInBounds x.1 (.int .i64 (i64of x.2))) l from rfl, ih, Array.size_setIfInBounds]
theorem rdN_len {α : Type} (item : RS → α × RS) : ∀ (k : Nat) (s : RS), (rdN item k s).1.length = k
  | 0, _ => rfl
  | k + 1, s => by rw [rdN, List.length_append, rdN_len item k s]; rfl
theorem zip_snoc {α β : Type} : ∀ (l : List α) (m : List β) (o : α) (x : β), l[m.length]? = some o → l.zip (m ++ [x]) = l.zip m ++ [(o, x)]
  | [], m, o, x, h => by simp at h
  | a :: l, [], o, x, h => by simp at h; subst h; simp
  | a :: l, b :: m, o, x, h => by
    have := zip_snoc l m o x (by simpa using h)
    simp [this]
theorem zip_full {α β : Type} (l : List α) (m : List β) (h : l.length = m.length) : True := trivial

set_option maxHeartbeats 400000 in
theorem rir_nums (w : World) (X F : Nat → Prop) (s : RS) (q p b : Nat) (offs : List Nat) (cs : Array Value) (t : TypeId) (v : Value) (h : RirAt w X s q p) (hv : SliceAt plR w F (offs.map fun o => (b, o)) v) (hF : ∀ g, F g → g < w.heap.size ∧ ¬ X g ∧ g ≠ b)
    (hb : w.heap[b]? = some (.cells cs t (0, 0))) (hXb : ¬ X b) (ho : ∀ o ∈ offs, o < cs.size) :
    Calls Try.prog 73 #[.pointer (some ⟨q, 0, none⟩), v] w fun e w' => e = .returned (.tuple #[]) ∧ RirAt w' X (rdN RS.word offs.length s).2 q p ∧ w'.heap[b]? = some (.cells (setW cs (offs.zip (rdN RS.word offs.length s).1)) t (0, 0)) ∧ Kp (fun g => Two q p g ∨ g = b) w w' := by
  obtain ⟨A, n, c, rfl, Hn, hc1, hc2⟩ := hv.form'
  rw [List.length_map] at Hn
  obtain ⟨hq, hp, hpq⟩ := h.lt
  have hblt : b < w.heap.size := (Array.getElem?_eq_some_iff.1 hb).1
  have Hv := Lib.hid hv
  have H := Lib.hid h
  have HF := Lib.hid hF
  have Hb := Lib.hid hb
  have HXb := Lib.hid hXb
  have Ho := Lib.hid ho
  clear hv h hF hb hXb ho hpq
  go_enter Try.func73, Try.ntmps73
  go_wp2_with fail
  go_loopw [8] (fun i wr => ∃ k : Nat, k ≤ n ∧ i = .int .i64 k ∧ RirAt wr X (rdN RS.word k s).2 q p ∧ wr.heap[b]? = some (.cells (setW cs (offs.zip (rdN RS.word k s).1)) t (0, 0)) ∧ Kp (fun g => Two q p g ∨ g = b) w wr) (fun i _ => n - (intOf i).toNat)
  case atStart => exact ⟨0, Nat.zero_le _, rfl, H.out, by simpa [rdN, setW] using Hb.out, Kp.refl _ _⟩
  case round =>
    obtain ⟨k, hk, rfl, hr, hbk, hkp⟩ := hrel
    have q3 : (0 : Int) ≤ (k : Int) := by omega
    by_cases hlt : k < n
    · obtain ⟨o, hx⟩ : ∃ o, offs[k]? = some o := ⟨_, List.getElem?_eq_getElem (by rw [← Hn.out]; exact hlt)⟩
      have hnF : ∀ g, F g → ¬ (Two q p g ∨ g = b) := by
        intro g hg hh
        obtain ⟨_, g1, g2⟩ := HF.out g hg
        rcases hh with (rfl | rfl) | rfl
        · exact g1 hr.2.1
        · exact g1 hr.2.2.2.1.1
        · exact g2 rfl
      obtain ⟨z, off, rfl, hc⟩ := (Hv.out.kp hkp hnF).get_pl (k := k) (x := (b, o)) (by rw [List.getElem?_map, hx]; rfl)
      have h0 := hr.c0
      have Hr := Lib.hid hr
      have Hkp := Lib.hid hkp
      have Hbk := Lib.hid hbk
      have Hx := Lib.hid hx
      have q1 : (k : Int) < (n : Int) := by omega
      clear hr hkp hbk hx hlt hnF
      go_wp2_with fail
      refine (Num_r _ X _ q p Hr.out).mono ?_
      rintro e w1 ⟨rfl, h1, hk1⟩
      have hbq : ¬ Two q p b := by
        rintro (e | e)
        · exact HXb.out (e ▸ Hr.out.2.1)
        · exact HXb.out (e ▸ Hr.out.2.2.2.1.1)
      have hrow := hk1.heap Hbk.out hbq
      have hsz : o < (setW cs (offs.zip (rdN RS.word k s).1)).size := by rw [setW_size]; exact Ho.out o (List.mem_of_getElem? Hx.out)
      obtain ⟨u, hcell⟩ : ∃ u, w1.cell? ⟨b, o, none⟩ = some u := ⟨_, (cell_of_row w1 b o _ _ _ hrow).trans (Array.getElem?_eq_getElem hsz)⟩
      have hfz : w1.frozen? ⟨b, o, none⟩ = false := by simp [World.frozen?, hrow]
      have H1 := Lib.hid h1
      have Hk1 := Lib.hid hk1
      have Hrow := Lib.hid hrow
      have Hbq := Lib.hid hbq
      clear h1 hk1 hrow hsz hbq
      go_wp2_with fail
      go_roundw
      case rel =>
        have hset := heap_setCell_same w1 b o _ _ (.int .i64 (i64of (rdN RS.word k s).2.word.1)) Hrow.out
        have hkb : Kp (fun g => g = b) w1 (w1.setCell ⟨b, o, none⟩ (.int .i64 (i64of (rdN RS.word k s).2.word.1))) := Kp.set1 _ _ _ _
        refine ⟨k + 1, by omega, by go_num, H1.out.kp hkb (fun g hg e => HXb.out (e ▸ hg)), ?_, Hkp.out.trans ((Hk1.out.mono fun _ _ h => .inl h).trans (hkb.mono fun _ _ h => .inr h))⟩
        rw [hset, rdN, zip_snoc _ _ o _ (by rw [rdN_len]; exact Hx.out), setW_snoc]
      case measure => simp [intOf]; omega
    · have Hr := Lib.hid hr
      have Hkp := Lib.hid hkp
      have Hbk := Lib.hid hbk
      have Hkn := Lib.hid (show k = offs.length by rw [← Hn.out]; omega)
      clear hr hkp hbk
      go_wp2_with fail
      go_end0
      rw [← Hkn.out]
      exact ⟨rfl, Hr.out, Hbk.out, Hkp.out⟩

/-- The same, the places handed over as a list laid for it. -/
theorem rir_nums_lit (w : World) (X : Nat → Prop) (s : RS) (q p b : Nat) (offs : List Nat) (cs ps : Array Value) (t : TypeId) (m z : Nat) (hz : z = w.heap.size) (hm : m = offs.length) (hps : ps.toList = offs.map fun o => .pointer (some ⟨b, o, none⟩)) (h : RirAt w X s q p)
    (hb : w.heap[b]? = some (.cells cs t (0, 0))) (hXb : ¬ X b) (ho : ∀ o ∈ offs, o < cs.size) (hl : offs.length ≤ 9223372036854775807) :
    Calls Try.prog 73 #[.pointer (some ⟨q, 0, none⟩), .slice (some ⟨z, 0, none⟩) m m] (w.alloc (.cells ps 152)) fun e w' => e = .returned (.tuple #[]) ∧ RirAt w' X (rdN RS.word offs.length s).2 q p ∧ w'.heap[b]? = some (.cells (setW cs (offs.zip (rdN RS.word offs.length s).1)) t (0, 0)) ∧ Kp (fun g => Two q p g ∨ g = b) w w' := by
  subst hm
  subst hz
  have hk : Kp No w (w.alloc (.cells ps 152)) := (Kp.refl _ _).alloc _
  have hbl := (Array.getElem?_eq_some_iff.1 hb).1
  have hs : SliceAt plR (w.alloc (.cells ps 152)) (fun g => g = w.heap.size) (offs.map fun o => (b, o)) (.slice (some ⟨w.heap.size, 0, none⟩) offs.length offs.length) := by
    refine ⟨_, offs.length, by rw [List.length_map], by simp, by unfold maxLen; omega, fun _ => ⟨w.heap.size, 0, rfl, rfl, by rw [alloc_size]; omega, ps.toList, ?_, fun j u hu => ?_⟩⟩
    · rw [hps]
      have : ∀ l : List Nat, All2 (plR.rel (w.alloc (.cells ps 152)) (fun g => g = w.heap.size)) (l.map fun o => (b, o)) (l.map fun o => .pointer (some ⟨b, o, none⟩)) := by
        intro l
        induction l with
        | nil => rfl
        | cons x l ih => exact ⟨[.pointer (some ⟨b, x, none⟩)], _, rfl, rfl, ih⟩
      exact this offs
    · rw [Nat.zero_add, cell_of_row _ w.heap.size j _ _ _ (heap_alloc_new w _)]
      rw [← hu]
      exact (Array.getElem?_toList ..).symm
  refine (rir_nums _ X _ s q p b offs cs t _ (h.kp hk (fun _ _ => id)) hs (fun g hg => ?_) (hk.heap hb id) hXb ho).mono fun _ _ ⟨e, a, c, d⟩ => ⟨e, a, c, (hk.mono fun _ _ h => h.elim).trans d⟩
  subst hg
  exact ⟨by rw [alloc_size]; omega, fun hx => absurd (h.2.2.1 _ hx) (by omega), by omega⟩
end Go.Proofs.Ytpaldbejnbcokaa
