/- Contracts of package pack: the Reader. -/
import Derived.Test.YtpaldbejnbcokaaPackB
namespace Go.Proofs.Ytpaldbejnbcokaa
open Go.RowKit

/-- What a Reader knows. -/
structure Rd where
  rest : List UInt8
  e : Int
def Rd.take (r : Rd) (n : Nat) : List UInt8 × Rd :=
  if r.e = 0 then (if r.rest.length < n then ([], ⟨[], 3⟩) else (r.rest.take n, ⟨r.rest.drop n, 0⟩)) else ([], r)

/-- A Reader at block p; X: its blocks. -/
def ReaderAt (w : World) (X : Nat → Prop) (r : Rd) (p : Nat) : Prop :=
  X p ∧ ∃ sv, w.heap[p]? = some (.cells #[sv, .int .i64 r.e] 169 (0, 0)) ∧ SliceAt u8R w (fun g => X g ∧ g ≠ p) r.rest sv

theorem ReaderAt.kp {w w' : World} {X S : Nat → Prop} {r : Rd} {p : Nat} (h : ReaderAt w X r p) (hk : Kp S w w') (hd : ∀ b, X b → ¬ S b) : ReaderAt w' X r p := by
  obtain ⟨hp, sv, hh, ho⟩ := h
  exact ⟨hp, sv, hk.heap hh (hd p hp), ho.kp hk (fun b hb => hd b hb.1)⟩
theorem ReaderAt.mono {w : World} {X X' : Nat → Prop} {r : Rd} {p : Nat} (h : ReaderAt w X r p) (hd : ∀ b, X b → X' b) : ReaderAt w X' r p := by
  obtain ⟨hp, sv, hh, ho⟩ := h
  exact ⟨hd p hp, sv, hh, ho.mono fun b _ hb => ⟨hd b hb.1, hb.2⟩⟩

set_option maxHeartbeats 400000 in
theorem Reader_take (w : World) (X : Nat → Prop) (r : Rd) (p : Nat) (n : Nat) (h : ReaderAt w X r p) (hn : n ≤ 9223372036854775807) :
    Calls Try.prog 103 #[.pointer (some ⟨p, 0, none⟩), .int .i64 n] w fun e w' => ∃ v, e = .returned v ∧ SliceAt u8R w' (fun g => X g ∧ g ≠ p) (r.take n).1 v ∧ ReaderAt w' X (r.take n).2 p ∧ Kp (fun b => b = p) w w' := by
  obtain ⟨hp, sv, hh, ho⟩ := h
  obtain ⟨A, m, c, rfl, hm, hc1, hc2⟩ := ho.form'
  have h0 : w.cell? ⟨p, 0, none⟩ = some (.slice A m c) := cell_of_row w p 0 _ _ _ hh
  have h1 : w.cell? ⟨p, 1, none⟩ = some (.int .i64 r.e) := cell_of_row w p 1 _ _ _ hh
  have hf0 : w.frozen? ⟨p, 0, none⟩ = false := by simp [World.frozen?, hh]
  have hf1 : w.frozen? ⟨p, 1, none⟩ = false := by simp [World.frozen?, hh]
  have Ho := Lib.hid ho
  have Hh := Lib.hid hh
  have Hp := Lib.hid hp
  clear ho hh hp
  by_cases he : r.e = 0
  · have he1 : (r.e == 0) = true := by simpa using he
    have he2 : (r.e != 0) = false := by simpa using he
    have He := Lib.hid he
    clear he
    by_cases hl : m < n
    · have ht : Hid (r.take n = ([], ⟨[], 3⟩)) := by
        show r.take n = _
        rw [Rd.take, if_pos He.out, if_pos (by rw [← hm.out]; exact hl)]
      go_enter Try.func103, Try.ntmps103
      go_wp2
      go_ret
      rw [ht.out]
      refine ⟨_, rfl, SliceAt.nil _ _ _, ⟨Hp.out, _, ?_, SliceAt.nil _ _ _⟩, ?_⟩
      · exact heap_setCell_same _ _ _ _ _ _ (heap_setCell_same _ _ _ _ _ _ Hh.out)
      · exact (Kp.set1 _ _ _ _).trans (Kp.set1 _ _ _ _)
    · have ht : Hid (r.take n = (r.rest.take n, ⟨r.rest.drop n, r.e⟩)) := by
        show r.take n = _
        rw [Rd.take, if_pos He.out, if_neg (by rw [← hm.out]; exact hl), He.out]
      go_enter Try.func103, Try.ntmps103
      go_wp2
      · obtain rfl : c = n := by assumption
        go_ret
        rw [ht.out]
        refine ⟨_, rfl, (Ho.out.take (k := c) (by omega)).kp (Kp.set1 w p 0 _) (fun b hb => hb.2), ⟨Hp.out, _, heap_setCell_same _ _ _ _ _ _ Hh.out, ?_⟩, Kp.set1 _ _ _ _⟩
        rw [List.drop_of_length_le (by rw [← hm.out]; omega)]
        exact SliceAt.zero _ _ _ _ (by omega) (by omega)
      · go_ret
        rw [ht.out]
        exact ⟨_, rfl, (Ho.out.take (k := n) (by omega)).kp (Kp.set1 w p 0 _) (fun b hb => hb.2), ⟨Hp.out, _, heap_setCell_same _ _ _ _ _ _ Hh.out, (Ho.out.drop (k := n) (by omega) (by simp [u8R, Rep.plain])).kp (Kp.set1 w p 0 _) (fun b hb => hb.2)⟩, Kp.set1 _ _ _ _⟩
  · have he1 : (r.e == 0) = false := by simpa using he
    have he2 : (r.e != 0) = true := by simpa using he
    have ht : Hid (r.take n = ([], r)) := by
      show r.take n = _
      rw [Rd.take, if_neg he]
    clear he
    go_enter Try.func103, Try.ntmps103
    go_wp2
    go_ret
    rw [ht.out]
    exact ⟨_, rfl, SliceAt.nil _ _ _, ⟨Hp.out, _, Hh.out, Ho.out⟩, Kp.refl _ _⟩

theorem Reader_take' (w : World) (X : Nat → Prop) (r : Rd) (p : Nat) (n : Nat) (m : Int) (hm : m = (n : Int)) (h : ReaderAt w X r p) (hn : n ≤ 9223372036854775807) :
    Calls Try.prog 103 #[.pointer (some ⟨p, 0, none⟩), .int .i64 m] w fun e w' => ∃ v, e = .returned v ∧ SliceAt u8R w' (fun g => X g ∧ g ≠ p) (r.take n).1 v ∧ ReaderAt w' X (r.take n).2 p ∧ Kp (fun b => b = p) w w' := by
  rw [hm]
  exact Reader_take w X r p n h hn

def Rd.wide (r : Rd) : UInt64 := getF (r.take 8).1
def Rd.len4 (r : Rd) : Nat := (getF (r.take 4).1).toNat
def Rd.text (r : Rd) : List UInt8 := ((r.take 4).2.take r.len4).1
def Rd.textR (r : Rd) : Rd := ((r.take 4).2.take r.len4).2
def i64of (n : UInt64) : Int := wrap64 n.toNat

theorem getF_lt : ∀ (l : List UInt8), l.length ≤ 8 → (getF l).toNat < 256 ^ l.length := by
  intro l
  have gen : ∀ (l : List UInt8) (n : UInt64) (k : Nat), n.toNat < 256 ^ k → k + l.length ≤ 8 → (l.foldl (fun (n : UInt64) (x : UInt8) => n <<< 8 ||| x.toUInt64) n).toNat < 256 ^ (k + l.length) := by
    intro l
    induction l with
    | nil => intro n k hn _; simpa using hn
    | cons x l ih =>
      intro n k hn hl
      simp only [List.foldl_cons, List.length_cons] at *
      have hx := u8_lt x
      have hp : 256 ^ k ≤ 256 ^ 7 := Nat.pow_le_pow_right (by omega) (by omega)
      have hstep : (n <<< 8 ||| x.toUInt64).toNat < 256 ^ (k + 1) := by
        rw [UInt64.toNat_or, UInt64.toNat_shiftLeft, UInt8.toNat_toUInt64]
        have e1 : (n.toNat <<< ((8 : UInt64).toNat % 64)) % 2 ^ 64 = n.toNat * 256 := by
          simp [Nat.shiftLeft_eq]
          omega
        rw [e1]
        have e2 : n.toNat * 256 ||| x.toNat = n.toNat * 256 + x.toNat := nat_join 8 _ _ (by omega) hx
        rw [e2, Nat.pow_succ]
        omega
      have := ih _ (k + 1) hstep (by omega)
      rwa [show k + 1 + l.length = k + (l.length + 1) by omega] at this
  intro h
  have := gen l 0 0 (by simp) (by omega)
  simpa [getF] using this
theorem take_len (r : Rd) (n : Nat) : (r.take n).1.length ≤ n := by
  unfold Rd.take
  split
  · split
    · simp
    · simp; omega
  · simp
theorem len4_lt (r : Rd) : r.len4 < 4294967296 := by
  have h := take_len r 4
  have := getF_lt (r.take 4).1 (by omega)
  have hp : 256 ^ (r.take 4).1.length ≤ 256 ^ 4 := Nat.pow_le_pow_right (by omega) (by omega)
  unfold Rd.len4
  omega

set_option maxHeartbeats 400000 in
theorem Reader_Wide (w : World) (X : Nat → Prop) (r : Rd) (p : Nat) (h : ReaderAt w X r p) :
    Calls Try.prog 99 #[.pointer (some ⟨p, 0, none⟩)] w fun e w' => e = .returned (.int .u64 r.wide.toNat) ∧ ReaderAt w' X (r.take 8).2 p ∧ Kp (fun b => b = p) w w' := by
  have H := Lib.hid h
  clear h
  go_enter Try.func99, Try.ntmps99
  go_wp2_with fail
  refine (Reader_take _ _ _ _ 8 H.out (by omega)).mono ?_
  rintro e w1 ⟨v1, rfl, hs1, hr1, hk1⟩
  have Hr1 := Lib.hid hr1
  have Hk1 := Lib.hid hk1
  clear hr1 hk1
  go_wp2_with fail
  refine (pack_get _ _ v1 _ hs1).mono ?_
  rintro e w1 ⟨rfl, rfl⟩
  clear hs1
  go_wp2
  go_ret
  exact ⟨rfl, Hr1.out, Hk1.out⟩
set_option maxHeartbeats 400000 in
theorem Reader_Num (w : World) (X : Nat → Prop) (r : Rd) (p : Nat) (h : ReaderAt w X r p) :
    Calls Try.prog 90 #[.pointer (some ⟨p, 0, none⟩)] w fun e w' => e = .returned (.int .i64 (i64of r.wide)) ∧ ReaderAt w' X (r.take 8).2 p ∧ Kp (fun b => b = p) w w' := by
  have H := Lib.hid h
  clear h
  go_enter Try.func90, Try.ntmps90
  go_wp2_with fail
  refine (Reader_Wide _ _ _ _ H.out).mono ?_
  rintro e w1 ⟨rfl, hr1, hk1⟩
  have Hr1 := Lib.hid hr1
  have Hk1 := Lib.hid hk1
  clear hr1 hk1
  go_wp2
  go_ret
  exact ⟨rfl, Hr1.out, Hk1.out⟩
/-- What stands at the end. -/
def Rd.end_ (r : Rd) : Int := if r.e = 0 then (if 0 < r.rest.length then 2 else 0) else r.e
def Rd.left (r : Rd) : Nat := if r.e = 0 then r.rest.length else 0
set_option maxHeartbeats 400000 in
theorem Reader_Left (w : World) (X : Nat → Prop) (r : Rd) (p : Nat) (h : ReaderAt w X r p) :
    Calls Try.prog 91 #[.pointer (some ⟨p, 0, none⟩)] w fun e w' => e = .returned (.int .i64 r.left) ∧ w = w' := by
  obtain ⟨hp, sv, hh, ho⟩ := h
  obtain ⟨A, m, c, rfl, hm, hc1, hc2⟩ := ho.form'
  have h0 : w.cell? ⟨p, 0, none⟩ = some (.slice A m c) := cell_of_row w p 0 _ _ _ hh
  have h1 : w.cell? ⟨p, 1, none⟩ = some (.int .i64 r.e) := cell_of_row w p 1 _ _ _ hh
  clear ho hh
  by_cases he : r.e = 0
  · have he1 : (r.e == 0) = true := by simpa using he
    have he2 : (r.e != 0) = false := by simpa using he
    have ht : Hid (r.left = m) := Lib.hid (by rw [Rd.left, if_pos he, hm.out])
    clear he
    go_enter Try.func91, Try.ntmps91
    go_wp2
    go_ret
    exact ⟨by rw [ht.out]; rfl, rfl⟩
  · have he1 : (r.e == 0) = false := by simpa using he
    have he2 : (r.e != 0) = true := by simpa using he
    have ht : Hid (r.left = 0) := Lib.hid (by rw [Rd.left, if_neg he])
    clear he
    go_enter Try.func91, Try.ntmps91
    go_wp2
    go_ret
    exact ⟨by rw [ht.out]; rfl, rfl⟩
set_option maxHeartbeats 400000 in
theorem Reader_End (w : World) (X : Nat → Prop) (r : Rd) (p : Nat) (h : ReaderAt w X r p) :
    Calls Try.prog 69 #[.pointer (some ⟨p, 0, none⟩)] w fun e w' => e = .returned (.int .i64 r.end_) ∧ w = w' := by
  obtain ⟨hp, sv, hh, ho⟩ := h
  obtain ⟨A, m, c, rfl, hm, hc1, hc2⟩ := ho.form'
  have h0 : w.cell? ⟨p, 0, none⟩ = some (.slice A m c) := cell_of_row w p 0 _ _ _ hh
  have h1 : w.cell? ⟨p, 1, none⟩ = some (.int .i64 r.e) := cell_of_row w p 1 _ _ _ hh
  clear ho hh
  by_cases he : r.e = 0
  · have he1 : (r.e == 0) = true := by simpa using he
    have he2 : (r.e != 0) = false := by simpa using he
    have he3 : (true == (r.e != 0)) = false := by rw [he2]; rfl
    by_cases hl : 0 < m
    · have ht : Hid (r.end_ = 2) := Lib.hid (by rw [Rd.end_, if_pos he, if_pos (by rw [← hm.out]; exact hl)])
      have hl1 : (true == decide (0 < (m : Int))) = true := by simp; omega
      clear he
      go_enter Try.func69, Try.ntmps69
      go_wp2
      all_goals (go_ret; exact ⟨by rw [ht.out]; rfl, rfl⟩)
    · have ht : Hid (r.end_ = 0) := Lib.hid (by rw [Rd.end_, if_pos he, if_neg (by rw [← hm.out]; exact hl)])
      clear he
      go_enter Try.func69, Try.ntmps69
      go_wp2
      all_goals (go_ret; exact ⟨by rw [ht.out]; rfl, rfl⟩)
  · have he1 : (r.e == 0) = false := by simpa using he
    have he2 : (r.e != 0) = true := by simpa using he
    have ht : Hid (r.end_ = r.e) := Lib.hid (by rw [Rd.end_, if_neg he])
    clear he
    go_enter Try.func69, Try.ntmps69
    go_wp2
    all_goals (go_ret; exact ⟨by rw [ht.out]; rfl, rfl⟩)
end Go.Proofs.Ytpaldbejnbcokaa
