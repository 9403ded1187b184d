/- Contracts of package wire: read; ReadConfig, ReadLetter, ReadEntry. -/
import Derived.Test.YtpaldbejnbcokaaRirC
import Derived.Test.YtpaldbejnbcokaaWirW
namespace Go.Proofs.Ytpaldbejnbcokaa
open Go.RowKit
set_option linter.unusedSimpArgs false
set_option linter.unusedVariables false

theorem SliceAt.clip {α : Type} {R : Rep α} {w : World} {F : Nat → Prop} {xs : List α} {v : Value} (h : SliceAt R w F xs v) : SliceAt R w (fun b => F b ∧ b < w.heap.size) xs v := h.mono fun _ hlt hb => ⟨hb, hlt⟩
theorem ReaderAt.clip {w : World} {X : Nat → Prop} {r : Rd} {p : Nat} (h : ReaderAt w X r p) : ReaderAt w (fun b => X b ∧ b < w.heap.size) r p := by
  obtain ⟨hp, sv, hh, ho⟩ := h
  exact ⟨⟨hp, (Array.getElem?_eq_some_iff.1 hh).1⟩, sv, hh, ho.mono fun b hlt hb => ⟨⟨hb.1, hlt⟩, hb.2⟩⟩
/-- A reader as it is laid. -/
theorem rir_new {w : World} {B : Nat} {r : Rd} {p : Nat} (h : ReaderAt w (From B) r p) (hB : B ≤ w.heap.size) : RirAt (w.alloc (.cells #[.pointer (some ⟨p, 0, none⟩), .bool false] 147)) (fun b => B ≤ b ∧ b < w.heap.size + 1) (r, false) w.heap.size p := by
  refine ⟨heap_alloc_new w _, ⟨hB, Nat.lt_succ_self _⟩, fun b hb => by rw [alloc_size]; exact hb.2, ?_⟩
  obtain ⟨hp, sv, hh, ho⟩ := h.clip
  refine ⟨⟨⟨hp.1, Nat.lt_succ_of_lt hp.2⟩, Nat.ne_of_lt hp.2⟩, sv, ((Kp.refl No w).alloc _).heap hh id, ?_⟩
  exact (ho.kp ((Kp.refl No w).alloc _) (fun _ _ => id)).mono fun b _ hb => ⟨⟨⟨hb.1.1, Nat.lt_succ_of_lt hb.1.2⟩, Nat.ne_of_lt hb.1.2⟩, hb.2⟩
theorem bytes_Equal (w : World) (F G : Nat → Prop) (a b : List UInt8) (u v : Value) (h : SliceAt u8R w F a u) (k : SliceAt u8R w G b v) :
    Calls Try.prog 70 #[u, v] w fun e w' => e = .returned (.bool ((bs a).toList == (bs b).toList)) ∧ w = w' := by
  have h1 := run_conv_str Try.underlying32 Try.underlying5 Try.underlying9 h
  have h2 := run_conv_str Try.underlying32 Try.underlying5 Try.underlying9 k
  clear h k
  go_enter Try.func70, Try.ntmps70
  go_wp2_with fail
  go_ret
  exact ⟨rfl, rfl⟩
/-- These bytes are what is written of x. -/
def IsEnc {α : Type} (fit : α → Bool) (words : α → List UInt64) (x : α) (l : List UInt8) : Prop := fit x = true ∧ l = sealW (words x)
theorem isEnc_read {α : Type} {fit : α → Bool} {words : α → List UInt64} {rd : RS → α × RS} (hr : ∀ x, fit x = true → Reads rd words x) {x : α} {l : List UInt8} (h : IsEnc fit words x l) : rd (readF l, false) = (x, (⟨[], 0⟩, false)) := by
  have e := hr x h.1 []
  rw [List.append_nil] at e
  rw [h.2, sealW, readF_seal]
  exact e
theorem isEnc_bad {α : Type} {fit : α → Bool} {words : α → List UInt64} {rd : RS → α × RS} (hr : ∀ x, fit x = true → Reads rd words x) {l : List UInt8} {c : α} {s : RS} (hc : rd (readF l, false) = (c, s)) (h : s.2 = true ∨ s.1.end_ ≠ 0) : ¬ ∃ x, IsEnc fit words x l := by
  rintro ⟨x, hx⟩
  have e := (isEnc_read hr hx).symm.trans hc
  injection e with e1 e2
  subst e2
  rcases h with h | h
  · cases h
  · exact h rfl
theorem isEnc_no {α : Type} {fit : α → Bool} {words : α → List UInt64} {rd : RS → α × RS} (hr : ∀ x, fit x = true → Reads rd words x) {l : List UInt8} {c : α} {s : RS} (hc : rd (readF l, false) = (c, s)) (h : ¬ IsEnc fit words c l) : ¬ ∃ x, IsEnc fit words x l := by
  rintro ⟨x, hx⟩
  have e := (isEnc_read hr hx).symm.trans hc
  injection e with e1 e2
  subst e1
  exact h hx


/-- What Config's reading hands back. -/
def RdConfig (w w' : World) (l : List UInt8) (e : Ending) : Prop :=
  Kp No w w' ∧ ((∃ x : Cfg, IsEnc Cfg.fit Cfg.words x l ∧ ∃ v1 v2 v3 v4, e = .returned (.tuple #[.agg #[v1, .int .i64 (i64of x.tenants), v2, v3, v4], .int .i64 0]) ∧ SliceAt ptR.slice w' (From w.heap.size) x.ports v1 ∧ SliceAt prR w' (From w.heap.size) x.peers v2 ∧ SliceAt wyR w' (From w.heap.size) x.ways v3 ∧ SliceAt rlR.slice.slice w' (From w.heap.size) x.tables v4) ∨ ((¬ ∃ x : Cfg, IsEnc Cfg.fit Cfg.words x l) ∧ e = .returned (.tuple #[.agg #[.slice none 0 0, .int .i64 0, .slice none 0 0, .slice none 0 0, .slice none 0 0], .int .i64 2])))
set_option maxHeartbeats 1000000 in
theorem wir_read_Config (w : World) (F : Nat → Prop) (l : List UInt8) (v : Value) (h : SliceAt u8R w F l v) (hF : ∀ b, F b → b < w.heap.size) (hb : l.length ≤ 140737488355328) :
    Calls Try.prog 39 #[v, .func (.func 40) #[] #[], .func (.func 12) #[] #[]] w fun e w' => RdConfig w w' l e := by
  obtain ⟨A, m, c0, rfl, Hm, hc1, hc2⟩ := h.form'
  have H := Lib.hid h
  have HF := Lib.hid hF
  have Hb := Lib.hid hb
  obtain ⟨⟨c, r', lg⟩, hcs⟩ : ∃ y, rdCfg (readF l, false) = y := ⟨_, rfl⟩
  have Hcs := Lib.hid hcs
  clear h hF hb hcs
  go_enter Try.func39, Try.ntmps39
  go_wp2_with fail
  have k0 : Kp (From w.heap.size) w ((w.alloc (.cells #[.slice none 0 0, .int .i64 0, .slice none 0 0, .slice none 0 0, .slice none 0 0] 31)).alloc (.cells #[.slice none 0 0, .int .i64 0, .slice none 0 0, .slice none 0 0, .slice none 0 0] 31)) := (by repeat (first | with_reducible exact Kp.refl _ _ | with_reducible refine Kp.alloc ?_ _ | with_reducible refine Kp.drew ?_ | with_reducible refine Kp.drewN ?_ _ | with_reducible refine Kp.setRow ?_ (from_le (by first | exact Nat.le_refl _ | omega)) _ | with_reducible refine Kp.setCell ?_ (Or.inl (from_le (by first | (dsimp only; omega) | omega | (simp; omega) | (simp; done)))) _))
  refine (pack_Read _ F _ l (H.out.kp k0 (fun b hb h => absurd (HF.out b hb) (by unfold From at h; omega))) Hb.out).mono ?_
  rintro e w1 ⟨p, rfl, h1, hk1⟩
  have a0 := hk1.heap (((Kp.refl No _).alloc (.cells #[.slice none 0 0, .int .i64 0, .slice none 0 0, .slice none 0 0, .slice none 0 0] 31)).heap (heap_alloc_new w (.cells #[.slice none 0 0, .int .i64 0, .slice none 0 0, .slice none 0 0, .slice none 0 0] 31)) id) id
  have b0 := hk1.heap (heap_alloc_new (w.alloc (.cells #[.slice none 0 0, .int .i64 0, .slice none 0 0, .slice none 0 0, .slice none 0 0] 31)) (.cells #[.slice none 0 0, .int .i64 0, .slice none 0 0, .slice none 0 0, .slice none 0 0] 31)) id
  rw [alloc_size, alloc_size] at h1
  rw [alloc_size] at b0
  have z1 : w.heap.size + 1 < w1.heap.size := (Array.getElem?_eq_some_iff.1 b0).1
  have H1 := Lib.hid (rir_new h1 (by omega))
  have HX := Lib.hid (show ∀ b, (fun b => w.heap.size + 1 + 1 ≤ b ∧ b < w1.heap.size + 1) b → ¬ From (w1.heap.size + 1) b from fun b hb h => by have := hb.2; unfold From at h; omega)
  have Hk1 := Lib.hid (k0.trans (hk1.mono (S' := From w.heap.size) fun _ _ h => h.elim))
  have Ha0 := Lib.hid a0
  have Hb0 := Lib.hid b0
  have hp2 : w.heap.size + 1 + 1 ≤ p := H1.out.2.2.2.1.1.1
  clear h1 k0 hk1 a0 b0
  go_wp2_with fail
  refine (rir_config _ _ _ _ _ H1.out).mono ?_
  rintro e w2 ⟨v1, v2, v3, v4, he, hs1, hs2, hs3, hs4, h2, hk2⟩
  rw [Hcs.out] at he hs1 hs2 hs3 hs4 h2
  dsimp only at he hs1 hs2 hs3 hs4 h2
  obtain ⟨A1, n1, k1, rfl, _, _, _⟩ := hs1.form'
  obtain ⟨A2, n2, k2, rfl, _, _, _⟩ := hs2.form'
  obtain ⟨A3, n3, k3, rfl, _, _, _⟩ := hs3.form'
  obtain ⟨A4, n4, k4, rfl, _, _, _⟩ := hs4.form'
  subst he
  have ra := hk2.heap (((Kp.refl No w1).alloc _).heap Ha0.out id) (by unfold Two; omega)
  have rb := hk2.heap (((Kp.refl No w1).alloc _).heap Hb0.out id) (by unfold Two; omega)
  have a0 : w2.cell? ⟨w.heap.size, 0, none⟩ = some (.slice none 0 0) := cell_of_row _ _ 0 _ _ _ ra
  have a1 : w2.cell? ⟨w.heap.size, 1, none⟩ = some (.int .i64 0) := cell_of_row _ _ 1 _ _ _ ra
  have a2 : w2.cell? ⟨w.heap.size, 2, none⟩ = some (.slice none 0 0) := cell_of_row _ _ 2 _ _ _ ra
  have a3 : w2.cell? ⟨w.heap.size, 3, none⟩ = some (.slice none 0 0) := cell_of_row _ _ 3 _ _ _ ra
  have a4 : w2.cell? ⟨w.heap.size, 4, none⟩ = some (.slice none 0 0) := cell_of_row _ _ 4 _ _ _ ra
  have af : ∀ o, w2.frozen? ⟨w.heap.size, o, none⟩ = false := fun o => frz_of_row _ _ o _ _ ra
  have b0 : w2.cell? ⟨w.heap.size + 1, 0, none⟩ = some (.slice none 0 0) := cell_of_row _ _ 0 _ _ _ rb
  have b1 : w2.cell? ⟨w.heap.size + 1, 1, none⟩ = some (.int .i64 0) := cell_of_row _ _ 1 _ _ _ rb
  have b2 : w2.cell? ⟨w.heap.size + 1, 2, none⟩ = some (.slice none 0 0) := cell_of_row _ _ 2 _ _ _ rb
  have b3 : w2.cell? ⟨w.heap.size + 1, 3, none⟩ = some (.slice none 0 0) := cell_of_row _ _ 3 _ _ _ rb
  have b4 : w2.cell? ⟨w.heap.size + 1, 4, none⟩ = some (.slice none 0 0) := cell_of_row _ _ 4 _ _ _ rb
  have bf : ∀ o, w2.frozen? ⟨w.heap.size + 1, o, none⟩ = false := fun o => frz_of_row _ _ o _ _ rb
  have q0 := h2.c0
  have q1 := h2.c1
  have z2 : w1.heap.size < w2.heap.size := h2.lt.1
  have z3 : w.heap.size < w2.heap.size := by omega
  have z4 : w.heap.size + 1 < w2.heap.size := by omega
  have Hk2 := Lib.hid ((Hk1.out.trans (show Kp (From w.heap.size) w1 _ from (by repeat (first | with_reducible exact Kp.refl _ _ | with_reducible refine Kp.alloc ?_ _ | with_reducible refine Kp.drew ?_ | with_reducible refine Kp.drewN ?_ _ | with_reducible refine Kp.setRow ?_ (from_le (by first | exact Nat.le_refl _ | omega)) _ | with_reducible refine Kp.setCell ?_ (Or.inl (from_le (by first | (dsimp only; omega) | omega | (simp; omega) | (simp; done)))) _)))).trans (hk2.mono (S' := From w.heap.size) fun b _ hb => by unfold Two at hb; unfold From; omega))
  have H2 := Lib.hid h2
  rw [alloc_size] at hs1
  have Hs1 := Lib.hid hs1
  rw [alloc_size] at hs2
  have Hs2 := Lib.hid hs2
  rw [alloc_size] at hs3
  have Hs3 := Lib.hid hs3
  rw [alloc_size] at hs4
  have Hs4 := Lib.hid hs4
  clear hk2 h2 ra rb hs1 hs2 hs3 hs4
  cases lg
  case true =>
    have hno := Lib.hid (isEnc_bad (words := Cfg.words) (fit := Cfg.fit) (fun x hx => reads_cfg x hx) Hcs.out (.inl rfl))
    go_wp2_with fail
    refine bodyPost_ret (v := .tuple #[.agg #[.slice none 0 0, .int .i64 0, .slice none 0 0, .slice none 0 0, .slice none 0 0], .int .i64 2]) ?_ rfl ⟨(Hk2.out.trans (show Kp (From w.heap.size) w2 _ from (by repeat (first | with_reducible exact Kp.refl _ _ | with_reducible refine Kp.alloc ?_ _ | with_reducible refine Kp.drew ?_ | with_reducible refine Kp.drewN ?_ _ | with_reducible refine Kp.setRow ?_ (from_le (by first | exact Nat.le_refl _ | omega)) _ | with_reducible refine Kp.setCell ?_ (Or.inl (from_le (by first | (dsimp only; omega) | omega | (simp; omega) | (simp; done)))) _)))).fresh, .inr ⟨hno.out, rfl⟩⟩
    simp [results, Try.results39, go_sem, a0, a1, a2, a3, a4, z3]
  case false =>
    go_wp2_with fail
    refine (Reader_End _ _ r' p (H2.out.kp (S := From (w1.heap.size + 1)) (by repeat (first | with_reducible exact Kp.refl _ _ | with_reducible refine Kp.alloc ?_ _ | with_reducible refine Kp.drew ?_ | with_reducible refine Kp.drewN ?_ _ | with_reducible refine Kp.setRow ?_ (from_le (by first | exact Nat.le_refl _ | omega)) _ | with_reducible refine Kp.setCell ?_ (Or.inl (from_le (by first | (dsimp only; omega) | omega | (simp; omega) | (simp; done)))) _)) HX.out).2.2.2).mono ?_
    rintro e w3 ⟨rfl, rfl⟩
    by_cases hend : r'.end_ = 0
    · have te : (r'.end_ != 0) = false := by simp [hend]
      clear hend
      go_wp2_with fail
      have kx : Kp (From w2.heap.size) w2 (w2.alloc (.cells #[.slice A1 n1 k1, .int .i64 (i64of c.tenants), .slice A2 n2 k2, .slice A3 n3 k3, .slice A4 n4 k4] 31)) := (by repeat (first | with_reducible exact Kp.refl _ _ | with_reducible refine Kp.alloc ?_ _ | with_reducible refine Kp.drew ?_ | with_reducible refine Kp.drewN ?_ _ | with_reducible refine Kp.setRow ?_ (from_le (by first | exact Nat.le_refl _ | omega)) _ | with_reducible refine Kp.setCell ?_ (Or.inl (from_le (by first | (dsimp only; omega) | omega | (simp; omega) | (simp; done)))) _))
      have offx : ∀ b, From (w1.heap.size + 1) b ∧ b < w2.heap.size → ¬ From w2.heap.size b := fun b hb h => by unfold From at h; omega
      refine (wir_Config _ (fun b => From (w1.heap.size + 1) b ∧ b < w2.heap.size) c _ _ _ _ ((Hs1.out.clip).kp kx offx) ((Hs2.out.clip).kp kx offx) ((Hs3.out.clip).kp kx offx) ((Hs4.out.clip).kp kx offx) (fun b hb => by simp; omega)).mono ?_
      rintro e w4 ⟨hk4, hc⟩
      obtain ⟨p1, p2, p3⟩ := hk4.reads w.heap.size (not_no _) (by simp; omega)
      obtain ⟨p4, p5, p6⟩ := hk4.reads (w.heap.size + 1) (not_no _) (by simp; omega)
      obtain ⟨p7, p8, p9⟩ := hk4.reads w2.heap.size (not_no _) (by simp)
      have Hk4 := Lib.hid ((Hk2.out.trans (kx.mono (S' := From w.heap.size) fun b _ hb => Nat.le_trans (Nat.le_of_lt z3) hb)).trans (hk4.mono (S' := From w.heap.size) fun _ _ h => h.elim))
      have Hs1 := Lib.hid ((Hs1.out.clip.kp kx offx).kp hk4 (fun _ _ => id))
      have Hs2 := Lib.hid ((Hs2.out.clip.kp kx offx).kp hk4 (fun _ _ => id))
      have Hs3 := Lib.hid ((Hs3.out.clip.kp kx offx).kp hk4 (fun _ _ => id))
      have Hs4 := Lib.hid ((Hs4.out.clip.kp kx offx).kp hk4 (fun _ _ => id))
      clear hk4 kx offx
      rcases hc with ⟨hf, rfl⟩ | ⟨hf, v, rfl, hs⟩
      · have hno := Lib.hid (isEnc_no (words := Cfg.words) (fit := Cfg.fit) (fun x hx => reads_cfg x hx) Hcs.out (fun h => Bool.noConfusion (hf.symm.trans h.1)))
        clear hf
        go_wp2_with fail
        refine bodyPost_ret (v := .tuple #[.agg #[.slice none 0 0, .int .i64 0, .slice none 0 0, .slice none 0 0, .slice none 0 0], .int .i64 2]) ?_ rfl ⟨(Hk4.out.trans (show Kp (From w.heap.size) w4 _ from (by repeat (first | with_reducible exact Kp.refl _ _ | with_reducible refine Kp.alloc ?_ _ | with_reducible refine Kp.drew ?_ | with_reducible refine Kp.drewN ?_ _ | with_reducible refine Kp.setRow ?_ (from_le (by first | exact Nat.le_refl _ | omega)) _ | with_reducible refine Kp.setCell ?_ (Or.inl (from_le (by first | (dsimp only; omega) | omega | (simp; omega) | (simp; done)))) _)))).fresh, .inr ⟨hno.out, rfl⟩⟩
        simp [results, Try.results39, go_sem, a0, a1, a2, a3, a4, z3, p1, p2, p3]
      · have Hsv := Lib.hid hs
        have hF4 : ∀ b, F b → ¬ From w.heap.size b := fun b hb h => absurd (HF.out b hb) (by unfold From at h; omega)
        by_cases hl : l = sealW (Cfg.words c)
        · have te1 : ((bs l).toList == (bs (sealW (Cfg.words c))).toList) = true := toList_same (by rw [← hl])
          have Hen := Lib.hid (show IsEnc Cfg.fit Cfg.words c l from ⟨hf, hl⟩)
          have HF4 := Lib.hid hF4
          obtain ⟨A9, n9, k9, rfl, _, _, _⟩ := hs.form'
          clear hs hl hf hF4
          go_wp2_with fail
          refine (bytes_Equal _ F _ l _ _ _ (H.out.kp Hk4.out HF4.out) Hsv.out).mono ?_
          rintro e w5 ⟨rfl, rfl⟩
          go_wp2_with fail
          have kf : Kp (fun b => b = w.heap.size) w4 (((((w4.setCell ⟨w.heap.size, 0, none⟩ (.slice A1 n1 k1)).setCell ⟨w.heap.size, 1, none⟩ (.int .i64 (i64of c.tenants))).setCell ⟨w.heap.size, 2, none⟩ (.slice A2 n2 k2)).setCell ⟨w.heap.size, 3, none⟩ (.slice A3 n3 k3)).setCell ⟨w.heap.size, 4, none⟩ (.slice A4 n4 k4)) := (by repeat (first | with_reducible exact Kp.refl _ _ | with_reducible refine Kp.setCell ?_ (Or.inl (by dsimp only)) _))
          refine bodyPost_ret (v := .tuple #[.agg #[.slice A1 n1 k1, .int .i64 (i64of c.tenants), .slice A2 n2 k2, .slice A3 n3 k3, .slice A4 n4 k4], .int .i64 0]) ?_ rfl ⟨(Hk4.out.trans (kf.mono fun b _ hb => by rw [hb]; exact Nat.le_refl _)).fresh, .inl ⟨c, Hen.out, _, _, _, _, rfl, (Hs1.out.kp kf (fun b hb e => absurd hb.1 (by unfold From; omega))).mono fun b _ hb => (show w.heap.size ≤ b from Nat.le_trans (by omega) hb.1), (Hs2.out.kp kf (fun b hb e => absurd hb.1 (by unfold From; omega))).mono fun b _ hb => (show w.heap.size ≤ b from Nat.le_trans (by omega) hb.1), (Hs3.out.kp kf (fun b hb e => absurd hb.1 (by unfold From; omega))).mono fun b _ hb => (show w.heap.size ≤ b from Nat.le_trans (by omega) hb.1), (Hs4.out.kp kf (fun b hb e => absurd hb.1 (by unfold From; omega))).mono fun b _ hb => (show w.heap.size ≤ b from Nat.le_trans (by omega) hb.1)⟩⟩
          simp [results, Try.results39, go_sem, a0, a1, a2, a3, a4, z3, p1, p2, p3, p7]
        · have te1 : ((bs l).toList == (bs (sealW (Cfg.words c))).toList) = false := toList_ne (fun h => hl (bs_inj h))
          have hno := Lib.hid (isEnc_no (words := Cfg.words) (fit := Cfg.fit) (fun x hx => reads_cfg x hx) Hcs.out (fun h => hl h.2))
          have HF4 := Lib.hid hF4
          obtain ⟨A9, n9, k9, rfl, _, _, _⟩ := hs.form'
          clear hs hl hf hF4
          go_wp2_with fail
          refine (bytes_Equal _ F _ l _ _ _ (H.out.kp Hk4.out HF4.out) Hsv.out).mono ?_
          rintro e w5 ⟨rfl, rfl⟩
          go_wp2_with fail
          refine bodyPost_ret (v := .tuple #[.agg #[.slice none 0 0, .int .i64 0, .slice none 0 0, .slice none 0 0, .slice none 0 0], .int .i64 2]) ?_ rfl ⟨(Hk4.out.trans (show Kp (From w.heap.size) w4 _ from (by repeat (first | with_reducible exact Kp.refl _ _ | with_reducible refine Kp.alloc ?_ _ | with_reducible refine Kp.drew ?_ | with_reducible refine Kp.drewN ?_ _ | with_reducible refine Kp.setRow ?_ (from_le (by first | exact Nat.le_refl _ | omega)) _ | with_reducible refine Kp.setCell ?_ (Or.inl (from_le (by first | (dsimp only; omega) | omega | (simp; omega) | (simp; done)))) _)))).fresh, .inr ⟨hno.out, rfl⟩⟩
          simp [results, Try.results39, go_sem, a0, a1, a2, a3, a4, z3, p1, p2, p3]
    · have te : (r'.end_ != 0) = true := by simpa using hend
      have hno := Lib.hid (isEnc_bad (words := Cfg.words) (fit := Cfg.fit) (fun x hx => reads_cfg x hx) Hcs.out (.inr hend))
      clear hend
      go_wp2_with fail
      refine bodyPost_ret (v := .tuple #[.agg #[.slice none 0 0, .int .i64 0, .slice none 0 0, .slice none 0 0, .slice none 0 0], .int .i64 2]) ?_ rfl ⟨(Hk2.out.trans (show Kp (From w.heap.size) w2 _ from (by repeat (first | with_reducible exact Kp.refl _ _ | with_reducible refine Kp.alloc ?_ _ | with_reducible refine Kp.drew ?_ | with_reducible refine Kp.drewN ?_ _ | with_reducible refine Kp.setRow ?_ (from_le (by first | exact Nat.le_refl _ | omega)) _ | with_reducible refine Kp.setCell ?_ (Or.inl (from_le (by first | (dsimp only; omega) | omega | (simp; omega) | (simp; done)))) _)))).fresh, .inr ⟨hno.out, rfl⟩⟩
      simp [results, Try.results39, go_sem, a0, a1, a2, a3, a4, z3]


set_option maxHeartbeats 1000000 in
theorem wir_ReadConfig (w : World) (F : Nat → Prop) (l : List UInt8) (v : Value) (h : SliceAt u8R w F l v) (hF : ∀ b, F b → b < w.heap.size) (hb : l.length ≤ 140737488355328) :
    Calls Try.prog 15 #[v] w fun e w' => RdConfig w w' l e := by
  obtain ⟨A, m, c0, rfl, Hm, hc1, hc2⟩ := h.form'
  have H := Lib.hid h
  have HF := Lib.hid hF
  have Hb := Lib.hid hb
  clear h hF hb
  go_enter Try.func15, Try.ntmps15
  go_wp2_with fail
  have k0 : Kp No w (w.alloc (.cells #[.slice none 0 0, .int .i64 0, .slice none 0 0, .slice none 0 0, .slice none 0 0] 31)) := (Kp.refl _ _).alloc _
  refine (wir_read_Config _ F l _ (H.out.kp k0 (fun _ _ => id)) (fun b hb => Nat.lt_of_lt_of_le (HF.out b hb) k0.size) Hb.out).mono ?_
  rintro e w1 ⟨hk1, hc⟩
  have ra := hk1.heap (heap_alloc_new w _) id
  have a0 : w1.cell? ⟨w.heap.size, 0, none⟩ = some (.slice none 0 0) := cell_of_row _ _ 0 _ _ _ ra
  have a1 : w1.cell? ⟨w.heap.size, 1, none⟩ = some (.int .i64 0) := cell_of_row _ _ 1 _ _ _ ra
  have a2 : w1.cell? ⟨w.heap.size, 2, none⟩ = some (.slice none 0 0) := cell_of_row _ _ 2 _ _ _ ra
  have a3 : w1.cell? ⟨w.heap.size, 3, none⟩ = some (.slice none 0 0) := cell_of_row _ _ 3 _ _ _ ra
  have a4 : w1.cell? ⟨w.heap.size, 4, none⟩ = some (.slice none 0 0) := cell_of_row _ _ 4 _ _ _ ra
  have af : ∀ o, w1.frozen? ⟨w.heap.size, o, none⟩ = false := fun o => frz_of_row _ _ o _ _ ra
  have z1 : w.heap.size < w1.heap.size := (Array.getElem?_eq_some_iff.1 ra).1
  have Hk := Lib.hid (k0.trans hk1)
  rw [alloc_size] at hc
  clear hk1 k0 ra
  rcases hc with ⟨x, hx, v1, v2, v3, v4, rfl, hs1, hs2, hs3, hs4⟩ | ⟨hno, rfl⟩
  · have Hx := Lib.hid hx
    obtain ⟨A1, n1, k1, rfl, _, _, _⟩ := hs1.form'
    obtain ⟨A2, n2, k2, rfl, _, _, _⟩ := hs2.form'
    obtain ⟨A3, n3, k3, rfl, _, _, _⟩ := hs3.form'
    obtain ⟨A4, n4, k4, rfl, _, _, _⟩ := hs4.form'
    have Hs1 := Lib.hid hs1
    have Hs2 := Lib.hid hs2
    have Hs3 := Lib.hid hs3
    have Hs4 := Lib.hid hs4
    clear hx hs1 hs2 hs3 hs4
    go_wp2_with fail
    have kf : Kp (fun b => b = w.heap.size) w1 (((((w1.setCell ⟨w.heap.size, 0, none⟩ (.slice A1 n1 k1)).setCell ⟨w.heap.size, 1, none⟩ (.int .i64 (i64of x.tenants))).setCell ⟨w.heap.size, 2, none⟩ (.slice A2 n2 k2)).setCell ⟨w.heap.size, 3, none⟩ (.slice A3 n3 k3)).setCell ⟨w.heap.size, 4, none⟩ (.slice A4 n4 k4)) := (by repeat (first | with_reducible exact Kp.refl _ _ | with_reducible refine Kp.setCell ?_ (Or.inl (by dsimp only)) _))
    refine bodyPost_ret (v := .tuple #[.agg #[.slice A1 n1 k1, .int .i64 (i64of x.tenants), .slice A2 n2 k2, .slice A3 n3 k3, .slice A4 n4 k4], .int .i64 0]) ?_ rfl ⟨(((Hk.out.mono (S' := From w.heap.size) (fun _ _ h => h.elim)).trans (kf.mono fun b _ hb => by rw [hb]; exact Nat.le_refl _))).fresh, .inl ⟨x, Hx.out, _, _, _, _, rfl, (Hs1.out.kp kf (fun b hb e => absurd hb (by unfold From; omega))).mono fun b _ hb => (show w.heap.size ≤ b from Nat.le_trans (Nat.le_succ _) hb), (Hs2.out.kp kf (fun b hb e => absurd hb (by unfold From; omega))).mono fun b _ hb => (show w.heap.size ≤ b from Nat.le_trans (Nat.le_succ _) hb), (Hs3.out.kp kf (fun b hb e => absurd hb (by unfold From; omega))).mono fun b _ hb => (show w.heap.size ≤ b from Nat.le_trans (Nat.le_succ _) hb), (Hs4.out.kp kf (fun b hb e => absurd hb (by unfold From; omega))).mono fun b _ hb => (show w.heap.size ≤ b from Nat.le_trans (Nat.le_succ _) hb)⟩⟩
    simp [results, Try.results15, go_sem, a0, a1, a2, a3, a4, z1]
  · have Hno := Lib.hid hno
    clear hno
    go_wp2_with fail
    refine bodyPost_ret (v := .tuple #[.agg #[.slice none 0 0, .int .i64 0, .slice none 0 0, .slice none 0 0, .slice none 0 0], .int .i64 2]) ?_ rfl ⟨((Hk.out.mono (S' := From w.heap.size) (fun _ _ h => h.elim)).trans (show Kp (From w.heap.size) w1 _ from (by repeat (first | with_reducible exact Kp.refl _ _ | with_reducible refine Kp.alloc ?_ _ | with_reducible refine Kp.drew ?_ | with_reducible refine Kp.drewN ?_ _ | with_reducible refine Kp.setRow ?_ (from_le (by first | exact Nat.le_refl _ | omega)) _ | with_reducible refine Kp.setCell ?_ (Or.inl (from_le (by first | (dsimp only; omega) | omega | (simp; omega) | (simp; done)))) _)))).fresh, .inr ⟨Hno.out, rfl⟩⟩
    simp [results, Try.results15, go_sem, a0, a1, a2, a3, a4, z1]


/-- What Letter's reading hands back. -/
def RdLetter (w w' : World) (l : List UInt8) (e : Ending) : Prop :=
  Kp No w w' ∧ ((∃ x : Lt, IsEnc (fun x => tablesFit x.tables) Lt.words x l ∧ ∃ v1, e = .returned (.tuple #[.agg #[.int .i64 (i64of x.kind), .int .i64 (i64of x.fro), .int .i64 (i64of x.to), .int .i64 (i64of x.version), .int .i64 (i64of x.serial), v1], .int .i64 0]) ∧ SliceAt rlR.slice w' (From w.heap.size) x.tables v1) ∨ ((¬ ∃ x : Lt, IsEnc (fun x => tablesFit x.tables) Lt.words x l) ∧ e = .returned (.tuple #[.agg #[.int .i64 0, .int .i64 0, .int .i64 0, .int .i64 0, .int .i64 0, .slice none 0 0], .int .i64 2])))
set_option maxHeartbeats 1000000 in
theorem wir_read_Letter (w : World) (F : Nat → Prop) (l : List UInt8) (v : Value) (h : SliceAt u8R w F l v) (hF : ∀ b, F b → b < w.heap.size) (hb : l.length ≤ 140737488355328) :
    Calls Try.prog 47 #[v, .func (.func 48) #[] #[], .func (.func 18) #[] #[]] w fun e w' => RdLetter w w' l e := by
  obtain ⟨A, m, c0, rfl, Hm, hc1, hc2⟩ := h.form'
  have H := Lib.hid h
  have HF := Lib.hid hF
  have Hb := Lib.hid hb
  obtain ⟨⟨c, r', lg⟩, hcs⟩ : ∃ y, rdLt (readF l, false) = y := ⟨_, rfl⟩
  have Hcs := Lib.hid hcs
  clear h hF hb hcs
  go_enter Try.func47, Try.ntmps47
  go_wp2_with fail
  have k0 : Kp (From w.heap.size) w ((w.alloc (.cells #[.int .i64 0, .int .i64 0, .int .i64 0, .int .i64 0, .int .i64 0, .slice none 0 0] 46)).alloc (.cells #[.int .i64 0, .int .i64 0, .int .i64 0, .int .i64 0, .int .i64 0, .slice none 0 0] 46)) := (by repeat (first | with_reducible exact Kp.refl _ _ | with_reducible refine Kp.alloc ?_ _ | with_reducible refine Kp.drew ?_ | with_reducible refine Kp.drewN ?_ _ | with_reducible refine Kp.setRow ?_ (from_le (by first | exact Nat.le_refl _ | omega)) _ | with_reducible refine Kp.setCell ?_ (Or.inl (from_le (by first | (dsimp only; omega) | omega | (simp; omega) | (simp; done)))) _))
  refine (pack_Read _ F _ l (H.out.kp k0 (fun b hb h => absurd (HF.out b hb) (by unfold From at h; omega))) Hb.out).mono ?_
  rintro e w1 ⟨p, rfl, h1, hk1⟩
  have a0 := hk1.heap (((Kp.refl No _).alloc (.cells #[.int .i64 0, .int .i64 0, .int .i64 0, .int .i64 0, .int .i64 0, .slice none 0 0] 46)).heap (heap_alloc_new w (.cells #[.int .i64 0, .int .i64 0, .int .i64 0, .int .i64 0, .int .i64 0, .slice none 0 0] 46)) id) id
  have b0 := hk1.heap (heap_alloc_new (w.alloc (.cells #[.int .i64 0, .int .i64 0, .int .i64 0, .int .i64 0, .int .i64 0, .slice none 0 0] 46)) (.cells #[.int .i64 0, .int .i64 0, .int .i64 0, .int .i64 0, .int .i64 0, .slice none 0 0] 46)) id
  rw [alloc_size, alloc_size] at h1
  rw [alloc_size] at b0
  have z1 : w.heap.size + 1 < w1.heap.size := (Array.getElem?_eq_some_iff.1 b0).1
  have H1 := Lib.hid (rir_new h1 (by omega))
  have HX := Lib.hid (show ∀ b, (fun b => w.heap.size + 1 + 1 ≤ b ∧ b < w1.heap.size + 1) b → ¬ From (w1.heap.size + 1) b from fun b hb h => by have := hb.2; unfold From at h; omega)
  have Hk1 := Lib.hid (k0.trans (hk1.mono (S' := From w.heap.size) fun _ _ h => h.elim))
  have Ha0 := Lib.hid a0
  have Hb0 := Lib.hid b0
  have hp2 : w.heap.size + 1 + 1 ≤ p := H1.out.2.2.2.1.1.1
  clear h1 k0 hk1 a0 b0
  go_wp2_with fail
  refine (rir_letter _ _ _ _ _ H1.out).mono ?_
  rintro e w2 ⟨v1, he, hs1, h2, hk2⟩
  rw [Hcs.out] at he hs1 h2
  dsimp only at he hs1 h2
  obtain ⟨A1, n1, k1, rfl, _, _, _⟩ := hs1.form'
  subst he
  have ra := hk2.heap (((Kp.refl No w1).alloc _).heap Ha0.out id) (by unfold Two; omega)
  have rb := hk2.heap (((Kp.refl No w1).alloc _).heap Hb0.out id) (by unfold Two; omega)
  have a0 : w2.cell? ⟨w.heap.size, 0, none⟩ = some (.int .i64 0) := cell_of_row _ _ 0 _ _ _ ra
  have a1 : w2.cell? ⟨w.heap.size, 1, none⟩ = some (.int .i64 0) := cell_of_row _ _ 1 _ _ _ ra
  have a2 : w2.cell? ⟨w.heap.size, 2, none⟩ = some (.int .i64 0) := cell_of_row _ _ 2 _ _ _ ra
  have a3 : w2.cell? ⟨w.heap.size, 3, none⟩ = some (.int .i64 0) := cell_of_row _ _ 3 _ _ _ ra
  have a4 : w2.cell? ⟨w.heap.size, 4, none⟩ = some (.int .i64 0) := cell_of_row _ _ 4 _ _ _ ra
  have a5 : w2.cell? ⟨w.heap.size, 5, none⟩ = some (.slice none 0 0) := cell_of_row _ _ 5 _ _ _ ra
  have af : ∀ o, w2.frozen? ⟨w.heap.size, o, none⟩ = false := fun o => frz_of_row _ _ o _ _ ra
  have b0 : w2.cell? ⟨w.heap.size + 1, 0, none⟩ = some (.int .i64 0) := cell_of_row _ _ 0 _ _ _ rb
  have b1 : w2.cell? ⟨w.heap.size + 1, 1, none⟩ = some (.int .i64 0) := cell_of_row _ _ 1 _ _ _ rb
  have b2 : w2.cell? ⟨w.heap.size + 1, 2, none⟩ = some (.int .i64 0) := cell_of_row _ _ 2 _ _ _ rb
  have b3 : w2.cell? ⟨w.heap.size + 1, 3, none⟩ = some (.int .i64 0) := cell_of_row _ _ 3 _ _ _ rb
  have b4 : w2.cell? ⟨w.heap.size + 1, 4, none⟩ = some (.int .i64 0) := cell_of_row _ _ 4 _ _ _ rb
  have b5 : w2.cell? ⟨w.heap.size + 1, 5, none⟩ = some (.slice none 0 0) := cell_of_row _ _ 5 _ _ _ rb
  have bf : ∀ o, w2.frozen? ⟨w.heap.size + 1, o, none⟩ = false := fun o => frz_of_row _ _ o _ _ rb
  have q0 := h2.c0
  have q1 := h2.c1
  have z2 : w1.heap.size < w2.heap.size := h2.lt.1
  have z3 : w.heap.size < w2.heap.size := by omega
  have z4 : w.heap.size + 1 < w2.heap.size := by omega
  have Hk2 := Lib.hid ((Hk1.out.trans (show Kp (From w.heap.size) w1 _ from (by repeat (first | with_reducible exact Kp.refl _ _ | with_reducible refine Kp.alloc ?_ _ | with_reducible refine Kp.drew ?_ | with_reducible refine Kp.drewN ?_ _ | with_reducible refine Kp.setRow ?_ (from_le (by first | exact Nat.le_refl _ | omega)) _ | with_reducible refine Kp.setCell ?_ (Or.inl (from_le (by first | (dsimp only; omega) | omega | (simp; omega) | (simp; done)))) _)))).trans (hk2.mono (S' := From w.heap.size) fun b _ hb => by unfold Two at hb; unfold From; omega))
  have H2 := Lib.hid h2
  rw [alloc_size] at hs1
  have Hs1 := Lib.hid hs1
  clear hk2 h2 ra rb hs1
  cases lg
  case true =>
    have hno := Lib.hid (isEnc_bad (words := Lt.words) (fit := (fun x => tablesFit x.tables)) (fun x hx => reads_lt x hx) Hcs.out (.inl rfl))
    go_wp2_with fail
    refine bodyPost_ret (v := .tuple #[.agg #[.int .i64 0, .int .i64 0, .int .i64 0, .int .i64 0, .int .i64 0, .slice none 0 0], .int .i64 2]) ?_ rfl ⟨(Hk2.out.trans (show Kp (From w.heap.size) w2 _ from (by repeat (first | with_reducible exact Kp.refl _ _ | with_reducible refine Kp.alloc ?_ _ | with_reducible refine Kp.drew ?_ | with_reducible refine Kp.drewN ?_ _ | with_reducible refine Kp.setRow ?_ (from_le (by first | exact Nat.le_refl _ | omega)) _ | with_reducible refine Kp.setCell ?_ (Or.inl (from_le (by first | (dsimp only; omega) | omega | (simp; omega) | (simp; done)))) _)))).fresh, .inr ⟨hno.out, rfl⟩⟩
    simp [results, Try.results47, go_sem, a0, a1, a2, a3, a4, a5, z3]
  case false =>
    go_wp2_with fail
    refine (Reader_End _ _ r' p (H2.out.kp (S := From (w1.heap.size + 1)) (by repeat (first | with_reducible exact Kp.refl _ _ | with_reducible refine Kp.alloc ?_ _ | with_reducible refine Kp.drew ?_ | with_reducible refine Kp.drewN ?_ _ | with_reducible refine Kp.setRow ?_ (from_le (by first | exact Nat.le_refl _ | omega)) _ | with_reducible refine Kp.setCell ?_ (Or.inl (from_le (by first | (dsimp only; omega) | omega | (simp; omega) | (simp; done)))) _)) HX.out).2.2.2).mono ?_
    rintro e w3 ⟨rfl, rfl⟩
    by_cases hend : r'.end_ = 0
    · have te : (r'.end_ != 0) = false := by simp [hend]
      clear hend
      go_wp2_with fail
      have kx : Kp (From w2.heap.size) w2 (w2.alloc (.cells #[.int .i64 (i64of c.kind), .int .i64 (i64of c.fro), .int .i64 (i64of c.to), .int .i64 (i64of c.version), .int .i64 (i64of c.serial), .slice A1 n1 k1] 46)) := (by repeat (first | with_reducible exact Kp.refl _ _ | with_reducible refine Kp.alloc ?_ _ | with_reducible refine Kp.drew ?_ | with_reducible refine Kp.drewN ?_ _ | with_reducible refine Kp.setRow ?_ (from_le (by first | exact Nat.le_refl _ | omega)) _ | with_reducible refine Kp.setCell ?_ (Or.inl (from_le (by first | (dsimp only; omega) | omega | (simp; omega) | (simp; done)))) _))
      have offx : ∀ b, From (w1.heap.size + 1) b ∧ b < w2.heap.size → ¬ From w2.heap.size b := fun b hb h => by unfold From at h; omega
      refine (wir_Letter _ (fun b => From (w1.heap.size + 1) b ∧ b < w2.heap.size) c _ ((Hs1.out.clip).kp kx offx) (fun b hb => by simp; omega)).mono ?_
      rintro e w4 ⟨hk4, hc⟩
      obtain ⟨p1, p2, p3⟩ := hk4.reads w.heap.size (not_no _) (by simp; omega)
      obtain ⟨p4, p5, p6⟩ := hk4.reads (w.heap.size + 1) (not_no _) (by simp; omega)
      obtain ⟨p7, p8, p9⟩ := hk4.reads w2.heap.size (not_no _) (by simp)
      have Hk4 := Lib.hid ((Hk2.out.trans (kx.mono (S' := From w.heap.size) fun b _ hb => Nat.le_trans (Nat.le_of_lt z3) hb)).trans (hk4.mono (S' := From w.heap.size) fun _ _ h => h.elim))
      have Hs1 := Lib.hid ((Hs1.out.clip.kp kx offx).kp hk4 (fun _ _ => id))
      clear hk4 kx offx
      rcases hc with ⟨hf, rfl⟩ | ⟨hf, v, rfl, hs⟩
      · have hno := Lib.hid (isEnc_no (words := Lt.words) (fit := (fun x => tablesFit x.tables)) (fun x hx => reads_lt x hx) Hcs.out (fun h => Bool.noConfusion (hf.symm.trans h.1)))
        clear hf
        go_wp2_with fail
        refine bodyPost_ret (v := .tuple #[.agg #[.int .i64 0, .int .i64 0, .int .i64 0, .int .i64 0, .int .i64 0, .slice none 0 0], .int .i64 2]) ?_ rfl ⟨(Hk4.out.trans (show Kp (From w.heap.size) w4 _ from (by repeat (first | with_reducible exact Kp.refl _ _ | with_reducible refine Kp.alloc ?_ _ | with_reducible refine Kp.drew ?_ | with_reducible refine Kp.drewN ?_ _ | with_reducible refine Kp.setRow ?_ (from_le (by first | exact Nat.le_refl _ | omega)) _ | with_reducible refine Kp.setCell ?_ (Or.inl (from_le (by first | (dsimp only; omega) | omega | (simp; omega) | (simp; done)))) _)))).fresh, .inr ⟨hno.out, rfl⟩⟩
        simp [results, Try.results47, go_sem, a0, a1, a2, a3, a4, a5, z3, p1, p2, p3]
      · have Hsv := Lib.hid hs
        have hF4 : ∀ b, F b → ¬ From w.heap.size b := fun b hb h => absurd (HF.out b hb) (by unfold From at h; omega)
        by_cases hl : l = sealW (Lt.words c)
        · have te1 : ((bs l).toList == (bs (sealW (Lt.words c))).toList) = true := toList_same (by rw [← hl])
          have Hen := Lib.hid (show IsEnc (fun x => tablesFit x.tables) Lt.words c l from ⟨hf, hl⟩)
          have HF4 := Lib.hid hF4
          obtain ⟨A9, n9, k9, rfl, _, _, _⟩ := hs.form'
          clear hs hl hf hF4
          go_wp2_with fail
          refine (bytes_Equal _ F _ l _ _ _ (H.out.kp Hk4.out HF4.out) Hsv.out).mono ?_
          rintro e w5 ⟨rfl, rfl⟩
          go_wp2_with fail
          have kf : Kp (fun b => b = w.heap.size) w4 ((((((w4.setCell ⟨w.heap.size, 0, none⟩ (.int .i64 (i64of c.kind))).setCell ⟨w.heap.size, 1, none⟩ (.int .i64 (i64of c.fro))).setCell ⟨w.heap.size, 2, none⟩ (.int .i64 (i64of c.to))).setCell ⟨w.heap.size, 3, none⟩ (.int .i64 (i64of c.version))).setCell ⟨w.heap.size, 4, none⟩ (.int .i64 (i64of c.serial))).setCell ⟨w.heap.size, 5, none⟩ (.slice A1 n1 k1)) := (by repeat (first | with_reducible exact Kp.refl _ _ | with_reducible refine Kp.setCell ?_ (Or.inl (by dsimp only)) _))
          refine bodyPost_ret (v := .tuple #[.agg #[.int .i64 (i64of c.kind), .int .i64 (i64of c.fro), .int .i64 (i64of c.to), .int .i64 (i64of c.version), .int .i64 (i64of c.serial), .slice A1 n1 k1], .int .i64 0]) ?_ rfl ⟨(Hk4.out.trans (kf.mono fun b _ hb => by rw [hb]; exact Nat.le_refl _)).fresh, .inl ⟨c, Hen.out, _, rfl, (Hs1.out.kp kf (fun b hb e => absurd hb.1 (by unfold From; omega))).mono fun b _ hb => (show w.heap.size ≤ b from Nat.le_trans (by omega) hb.1)⟩⟩
          simp [results, Try.results47, go_sem, a0, a1, a2, a3, a4, a5, z3, p1, p2, p3, p7]
        · have te1 : ((bs l).toList == (bs (sealW (Lt.words c))).toList) = false := toList_ne (fun h => hl (bs_inj h))
          have hno := Lib.hid (isEnc_no (words := Lt.words) (fit := (fun x => tablesFit x.tables)) (fun x hx => reads_lt x hx) Hcs.out (fun h => hl h.2))
          have HF4 := Lib.hid hF4
          obtain ⟨A9, n9, k9, rfl, _, _, _⟩ := hs.form'
          clear hs hl hf hF4
          go_wp2_with fail
          refine (bytes_Equal _ F _ l _ _ _ (H.out.kp Hk4.out HF4.out) Hsv.out).mono ?_
          rintro e w5 ⟨rfl, rfl⟩
          go_wp2_with fail
          refine bodyPost_ret (v := .tuple #[.agg #[.int .i64 0, .int .i64 0, .int .i64 0, .int .i64 0, .int .i64 0, .slice none 0 0], .int .i64 2]) ?_ rfl ⟨(Hk4.out.trans (show Kp (From w.heap.size) w4 _ from (by repeat (first | with_reducible exact Kp.refl _ _ | with_reducible refine Kp.alloc ?_ _ | with_reducible refine Kp.drew ?_ | with_reducible refine Kp.drewN ?_ _ | with_reducible refine Kp.setRow ?_ (from_le (by first | exact Nat.le_refl _ | omega)) _ | with_reducible refine Kp.setCell ?_ (Or.inl (from_le (by first | (dsimp only; omega) | omega | (simp; omega) | (simp; done)))) _)))).fresh, .inr ⟨hno.out, rfl⟩⟩
          simp [results, Try.results47, go_sem, a0, a1, a2, a3, a4, a5, z3, p1, p2, p3]
    · have te : (r'.end_ != 0) = true := by simpa using hend
      have hno := Lib.hid (isEnc_bad (words := Lt.words) (fit := (fun x => tablesFit x.tables)) (fun x hx => reads_lt x hx) Hcs.out (.inr hend))
      clear hend
      go_wp2_with fail
      refine bodyPost_ret (v := .tuple #[.agg #[.int .i64 0, .int .i64 0, .int .i64 0, .int .i64 0, .int .i64 0, .slice none 0 0], .int .i64 2]) ?_ rfl ⟨(Hk2.out.trans (show Kp (From w.heap.size) w2 _ from (by repeat (first | with_reducible exact Kp.refl _ _ | with_reducible refine Kp.alloc ?_ _ | with_reducible refine Kp.drew ?_ | with_reducible refine Kp.drewN ?_ _ | with_reducible refine Kp.setRow ?_ (from_le (by first | exact Nat.le_refl _ | omega)) _ | with_reducible refine Kp.setCell ?_ (Or.inl (from_le (by first | (dsimp only; omega) | omega | (simp; omega) | (simp; done)))) _)))).fresh, .inr ⟨hno.out, rfl⟩⟩
      simp [results, Try.results47, go_sem, a0, a1, a2, a3, a4, a5, z3]


set_option maxHeartbeats 1000000 in
theorem wir_ReadLetter (w : World) (F : Nat → Prop) (l : List UInt8) (v : Value) (h : SliceAt u8R w F l v) (hF : ∀ b, F b → b < w.heap.size) (hb : l.length ≤ 140737488355328) :
    Calls Try.prog 21 #[v] w fun e w' => RdLetter w w' l e := by
  obtain ⟨A, m, c0, rfl, Hm, hc1, hc2⟩ := h.form'
  have H := Lib.hid h
  have HF := Lib.hid hF
  have Hb := Lib.hid hb
  clear h hF hb
  go_enter Try.func21, Try.ntmps21
  go_wp2_with fail
  have k0 : Kp No w (w.alloc (.cells #[.int .i64 0, .int .i64 0, .int .i64 0, .int .i64 0, .int .i64 0, .slice none 0 0] 46)) := (Kp.refl _ _).alloc _
  refine (wir_read_Letter _ F l _ (H.out.kp k0 (fun _ _ => id)) (fun b hb => Nat.lt_of_lt_of_le (HF.out b hb) k0.size) Hb.out).mono ?_
  rintro e w1 ⟨hk1, hc⟩
  have ra := hk1.heap (heap_alloc_new w _) id
  have a0 : w1.cell? ⟨w.heap.size, 0, none⟩ = some (.int .i64 0) := cell_of_row _ _ 0 _ _ _ ra
  have a1 : w1.cell? ⟨w.heap.size, 1, none⟩ = some (.int .i64 0) := cell_of_row _ _ 1 _ _ _ ra
  have a2 : w1.cell? ⟨w.heap.size, 2, none⟩ = some (.int .i64 0) := cell_of_row _ _ 2 _ _ _ ra
  have a3 : w1.cell? ⟨w.heap.size, 3, none⟩ = some (.int .i64 0) := cell_of_row _ _ 3 _ _ _ ra
  have a4 : w1.cell? ⟨w.heap.size, 4, none⟩ = some (.int .i64 0) := cell_of_row _ _ 4 _ _ _ ra
  have a5 : w1.cell? ⟨w.heap.size, 5, none⟩ = some (.slice none 0 0) := cell_of_row _ _ 5 _ _ _ ra
  have af : ∀ o, w1.frozen? ⟨w.heap.size, o, none⟩ = false := fun o => frz_of_row _ _ o _ _ ra
  have z1 : w.heap.size < w1.heap.size := (Array.getElem?_eq_some_iff.1 ra).1
  have Hk := Lib.hid (k0.trans hk1)
  rw [alloc_size] at hc
  clear hk1 k0 ra
  rcases hc with ⟨x, hx, v1, rfl, hs1⟩ | ⟨hno, rfl⟩
  · have Hx := Lib.hid hx
    obtain ⟨A1, n1, k1, rfl, _, _, _⟩ := hs1.form'
    have Hs1 := Lib.hid hs1
    clear hx hs1
    go_wp2_with fail
    have kf : Kp (fun b => b = w.heap.size) w1 ((((((w1.setCell ⟨w.heap.size, 0, none⟩ (.int .i64 (i64of x.kind))).setCell ⟨w.heap.size, 1, none⟩ (.int .i64 (i64of x.fro))).setCell ⟨w.heap.size, 2, none⟩ (.int .i64 (i64of x.to))).setCell ⟨w.heap.size, 3, none⟩ (.int .i64 (i64of x.version))).setCell ⟨w.heap.size, 4, none⟩ (.int .i64 (i64of x.serial))).setCell ⟨w.heap.size, 5, none⟩ (.slice A1 n1 k1)) := (by repeat (first | with_reducible exact Kp.refl _ _ | with_reducible refine Kp.setCell ?_ (Or.inl (by dsimp only)) _))
    refine bodyPost_ret (v := .tuple #[.agg #[.int .i64 (i64of x.kind), .int .i64 (i64of x.fro), .int .i64 (i64of x.to), .int .i64 (i64of x.version), .int .i64 (i64of x.serial), .slice A1 n1 k1], .int .i64 0]) ?_ rfl ⟨(((Hk.out.mono (S' := From w.heap.size) (fun _ _ h => h.elim)).trans (kf.mono fun b _ hb => by rw [hb]; exact Nat.le_refl _))).fresh, .inl ⟨x, Hx.out, _, rfl, (Hs1.out.kp kf (fun b hb e => absurd hb (by unfold From; omega))).mono fun b _ hb => (show w.heap.size ≤ b from Nat.le_trans (Nat.le_succ _) hb)⟩⟩
    simp [results, Try.results21, go_sem, a0, a1, a2, a3, a4, a5, z1]
  · have Hno := Lib.hid hno
    clear hno
    go_wp2_with fail
    refine bodyPost_ret (v := .tuple #[.agg #[.int .i64 0, .int .i64 0, .int .i64 0, .int .i64 0, .int .i64 0, .slice none 0 0], .int .i64 2]) ?_ rfl ⟨((Hk.out.mono (S' := From w.heap.size) (fun _ _ h => h.elim)).trans (show Kp (From w.heap.size) w1 _ from (by repeat (first | with_reducible exact Kp.refl _ _ | with_reducible refine Kp.alloc ?_ _ | with_reducible refine Kp.drew ?_ | with_reducible refine Kp.drewN ?_ _ | with_reducible refine Kp.setRow ?_ (from_le (by first | exact Nat.le_refl _ | omega)) _ | with_reducible refine Kp.setCell ?_ (Or.inl (from_le (by first | (dsimp only; omega) | omega | (simp; omega) | (simp; done)))) _)))).fresh, .inr ⟨Hno.out, rfl⟩⟩
    simp [results, Try.results21, go_sem, a0, a1, a2, a3, a4, a5, z1]


/-- What Entry's reading hands back. -/
def RdEntry (w w' : World) (l : List UInt8) (e : Ending) : Prop :=
  Kp No w w' ∧ ((∃ x : En, IsEnc (fun x => x.cfg.fit) En.words x l ∧ ∃ v1 v2 v3 v4, e = .returned (.tuple #[.agg #[.int .i64 (i64of x.kind), .int .i64 (i64of x.version), .int .i64 (i64of x.serial), v1, .int .i64 (i64of x.cfg.tenants), v2, v3, v4], .int .i64 0]) ∧ SliceAt ptR.slice w' (From w.heap.size) x.cfg.ports v1 ∧ SliceAt prR w' (From w.heap.size) x.cfg.peers v2 ∧ SliceAt wyR w' (From w.heap.size) x.cfg.ways v3 ∧ SliceAt rlR.slice.slice w' (From w.heap.size) x.cfg.tables v4) ∨ ((¬ ∃ x : En, IsEnc (fun x => x.cfg.fit) En.words x l) ∧ e = .returned (.tuple #[.agg #[.int .i64 0, .int .i64 0, .int .i64 0, .slice none 0 0, .int .i64 0, .slice none 0 0, .slice none 0 0, .slice none 0 0], .int .i64 2])))
set_option maxHeartbeats 1000000 in
theorem wir_read_Entry (w : World) (F : Nat → Prop) (l : List UInt8) (v : Value) (h : SliceAt u8R w F l v) (hF : ∀ b, F b → b < w.heap.size) (hb : l.length ≤ 140737488355328) :
    Calls Try.prog 51 #[v, .func (.func 52) #[] #[], .func (.func 23) #[] #[]] w fun e w' => RdEntry w w' l e := by
  obtain ⟨A, m, c0, rfl, Hm, hc1, hc2⟩ := h.form'
  have H := Lib.hid h
  have HF := Lib.hid hF
  have Hb := Lib.hid hb
  obtain ⟨⟨c, r', lg⟩, hcs⟩ : ∃ y, rdEn (readF l, false) = y := ⟨_, rfl⟩
  have Hcs := Lib.hid hcs
  clear h hF hb hcs
  go_enter Try.func51, Try.ntmps51
  go_wp2_with fail
  have k0 : Kp (From w.heap.size) w ((w.alloc (.cells #[.int .i64 0, .int .i64 0, .int .i64 0, .slice none 0 0, .int .i64 0, .slice none 0 0, .slice none 0 0, .slice none 0 0] 57)).alloc (.cells #[.int .i64 0, .int .i64 0, .int .i64 0, .slice none 0 0, .int .i64 0, .slice none 0 0, .slice none 0 0, .slice none 0 0] 57)) := (by repeat (first | with_reducible exact Kp.refl _ _ | with_reducible refine Kp.alloc ?_ _ | with_reducible refine Kp.drew ?_ | with_reducible refine Kp.drewN ?_ _ | with_reducible refine Kp.setRow ?_ (from_le (by first | exact Nat.le_refl _ | omega)) _ | with_reducible refine Kp.setCell ?_ (Or.inl (from_le (by first | (dsimp only; omega) | omega | (simp; omega) | (simp; done)))) _))
  refine (pack_Read _ F _ l (H.out.kp k0 (fun b hb h => absurd (HF.out b hb) (by unfold From at h; omega))) Hb.out).mono ?_
  rintro e w1 ⟨p, rfl, h1, hk1⟩
  have a0 := hk1.heap (((Kp.refl No _).alloc (.cells #[.int .i64 0, .int .i64 0, .int .i64 0, .slice none 0 0, .int .i64 0, .slice none 0 0, .slice none 0 0, .slice none 0 0] 57)).heap (heap_alloc_new w (.cells #[.int .i64 0, .int .i64 0, .int .i64 0, .slice none 0 0, .int .i64 0, .slice none 0 0, .slice none 0 0, .slice none 0 0] 57)) id) id
  have b0 := hk1.heap (heap_alloc_new (w.alloc (.cells #[.int .i64 0, .int .i64 0, .int .i64 0, .slice none 0 0, .int .i64 0, .slice none 0 0, .slice none 0 0, .slice none 0 0] 57)) (.cells #[.int .i64 0, .int .i64 0, .int .i64 0, .slice none 0 0, .int .i64 0, .slice none 0 0, .slice none 0 0, .slice none 0 0] 57)) id
  rw [alloc_size, alloc_size] at h1
  rw [alloc_size] at b0
  have z1 : w.heap.size + 1 < w1.heap.size := (Array.getElem?_eq_some_iff.1 b0).1
  have H1 := Lib.hid (rir_new h1 (by omega))
  have HX := Lib.hid (show ∀ b, (fun b => w.heap.size + 1 + 1 ≤ b ∧ b < w1.heap.size + 1) b → ¬ From (w1.heap.size + 1) b from fun b hb h => by have := hb.2; unfold From at h; omega)
  have Hk1 := Lib.hid (k0.trans (hk1.mono (S' := From w.heap.size) fun _ _ h => h.elim))
  have Ha0 := Lib.hid a0
  have Hb0 := Lib.hid b0
  have hp2 : w.heap.size + 1 + 1 ≤ p := H1.out.2.2.2.1.1.1
  clear h1 k0 hk1 a0 b0
  go_wp2_with fail
  refine (rir_entry _ _ _ _ _ H1.out).mono ?_
  rintro e w2 ⟨v1, v2, v3, v4, he, hs1, hs2, hs3, hs4, h2, hk2⟩
  rw [Hcs.out] at he hs1 hs2 hs3 hs4 h2
  dsimp only at he hs1 hs2 hs3 hs4 h2
  obtain ⟨A1, n1, k1, rfl, _, _, _⟩ := hs1.form'
  obtain ⟨A2, n2, k2, rfl, _, _, _⟩ := hs2.form'
  obtain ⟨A3, n3, k3, rfl, _, _, _⟩ := hs3.form'
  obtain ⟨A4, n4, k4, rfl, _, _, _⟩ := hs4.form'
  subst he
  have ra := hk2.heap (((Kp.refl No w1).alloc _).heap Ha0.out id) (by unfold Two; omega)
  have rb := hk2.heap (((Kp.refl No w1).alloc _).heap Hb0.out id) (by unfold Two; omega)
  have a0 : w2.cell? ⟨w.heap.size, 0, none⟩ = some (.int .i64 0) := cell_of_row _ _ 0 _ _ _ ra
  have a1 : w2.cell? ⟨w.heap.size, 1, none⟩ = some (.int .i64 0) := cell_of_row _ _ 1 _ _ _ ra
  have a2 : w2.cell? ⟨w.heap.size, 2, none⟩ = some (.int .i64 0) := cell_of_row _ _ 2 _ _ _ ra
  have a3 : w2.cell? ⟨w.heap.size, 3, none⟩ = some (.slice none 0 0) := cell_of_row _ _ 3 _ _ _ ra
  have a4 : w2.cell? ⟨w.heap.size, 4, none⟩ = some (.int .i64 0) := cell_of_row _ _ 4 _ _ _ ra
  have a5 : w2.cell? ⟨w.heap.size, 5, none⟩ = some (.slice none 0 0) := cell_of_row _ _ 5 _ _ _ ra
  have a6 : w2.cell? ⟨w.heap.size, 6, none⟩ = some (.slice none 0 0) := cell_of_row _ _ 6 _ _ _ ra
  have a7 : w2.cell? ⟨w.heap.size, 7, none⟩ = some (.slice none 0 0) := cell_of_row _ _ 7 _ _ _ ra
  have af : ∀ o, w2.frozen? ⟨w.heap.size, o, none⟩ = false := fun o => frz_of_row _ _ o _ _ ra
  have b0 : w2.cell? ⟨w.heap.size + 1, 0, none⟩ = some (.int .i64 0) := cell_of_row _ _ 0 _ _ _ rb
  have b1 : w2.cell? ⟨w.heap.size + 1, 1, none⟩ = some (.int .i64 0) := cell_of_row _ _ 1 _ _ _ rb
  have b2 : w2.cell? ⟨w.heap.size + 1, 2, none⟩ = some (.int .i64 0) := cell_of_row _ _ 2 _ _ _ rb
  have b3 : w2.cell? ⟨w.heap.size + 1, 3, none⟩ = some (.slice none 0 0) := cell_of_row _ _ 3 _ _ _ rb
  have b4 : w2.cell? ⟨w.heap.size + 1, 4, none⟩ = some (.int .i64 0) := cell_of_row _ _ 4 _ _ _ rb
  have b5 : w2.cell? ⟨w.heap.size + 1, 5, none⟩ = some (.slice none 0 0) := cell_of_row _ _ 5 _ _ _ rb
  have b6 : w2.cell? ⟨w.heap.size + 1, 6, none⟩ = some (.slice none 0 0) := cell_of_row _ _ 6 _ _ _ rb
  have b7 : w2.cell? ⟨w.heap.size + 1, 7, none⟩ = some (.slice none 0 0) := cell_of_row _ _ 7 _ _ _ rb
  have bf : ∀ o, w2.frozen? ⟨w.heap.size + 1, o, none⟩ = false := fun o => frz_of_row _ _ o _ _ rb
  have q0 := h2.c0
  have q1 := h2.c1
  have z2 : w1.heap.size < w2.heap.size := h2.lt.1
  have z3 : w.heap.size < w2.heap.size := by omega
  have z4 : w.heap.size + 1 < w2.heap.size := by omega
  have Hk2 := Lib.hid ((Hk1.out.trans (show Kp (From w.heap.size) w1 _ from (by repeat (first | with_reducible exact Kp.refl _ _ | with_reducible refine Kp.alloc ?_ _ | with_reducible refine Kp.drew ?_ | with_reducible refine Kp.drewN ?_ _ | with_reducible refine Kp.setRow ?_ (from_le (by first | exact Nat.le_refl _ | omega)) _ | with_reducible refine Kp.setCell ?_ (Or.inl (from_le (by first | (dsimp only; omega) | omega | (simp; omega) | (simp; done)))) _)))).trans (hk2.mono (S' := From w.heap.size) fun b _ hb => by unfold Two at hb; unfold From; omega))
  have H2 := Lib.hid h2
  rw [alloc_size] at hs1
  have Hs1 := Lib.hid hs1
  rw [alloc_size] at hs2
  have Hs2 := Lib.hid hs2
  rw [alloc_size] at hs3
  have Hs3 := Lib.hid hs3
  rw [alloc_size] at hs4
  have Hs4 := Lib.hid hs4
  clear hk2 h2 ra rb hs1 hs2 hs3 hs4
  cases lg
  case true =>
    have hno := Lib.hid (isEnc_bad (words := En.words) (fit := (fun x => x.cfg.fit)) (fun x hx => reads_en x hx) Hcs.out (.inl rfl))
    go_wp2_with fail
    refine bodyPost_ret (v := .tuple #[.agg #[.int .i64 0, .int .i64 0, .int .i64 0, .slice none 0 0, .int .i64 0, .slice none 0 0, .slice none 0 0, .slice none 0 0], .int .i64 2]) ?_ rfl ⟨(Hk2.out.trans (show Kp (From w.heap.size) w2 _ from (by repeat (first | with_reducible exact Kp.refl _ _ | with_reducible refine Kp.alloc ?_ _ | with_reducible refine Kp.drew ?_ | with_reducible refine Kp.drewN ?_ _ | with_reducible refine Kp.setRow ?_ (from_le (by first | exact Nat.le_refl _ | omega)) _ | with_reducible refine Kp.setCell ?_ (Or.inl (from_le (by first | (dsimp only; omega) | omega | (simp; omega) | (simp; done)))) _)))).fresh, .inr ⟨hno.out, rfl⟩⟩
    simp [results, Try.results51, go_sem, a0, a1, a2, a3, a4, a5, a6, a7, z3]
  case false =>
    go_wp2_with fail
    refine (Reader_End _ _ r' p (H2.out.kp (S := From (w1.heap.size + 1)) (by repeat (first | with_reducible exact Kp.refl _ _ | with_reducible refine Kp.alloc ?_ _ | with_reducible refine Kp.drew ?_ | with_reducible refine Kp.drewN ?_ _ | with_reducible refine Kp.setRow ?_ (from_le (by first | exact Nat.le_refl _ | omega)) _ | with_reducible refine Kp.setCell ?_ (Or.inl (from_le (by first | (dsimp only; omega) | omega | (simp; omega) | (simp; done)))) _)) HX.out).2.2.2).mono ?_
    rintro e w3 ⟨rfl, rfl⟩
    by_cases hend : r'.end_ = 0
    · have te : (r'.end_ != 0) = false := by simp [hend]
      clear hend
      go_wp2_with fail
      have kx : Kp (From w2.heap.size) w2 (w2.alloc (.cells #[.int .i64 (i64of c.kind), .int .i64 (i64of c.version), .int .i64 (i64of c.serial), .slice A1 n1 k1, .int .i64 (i64of c.cfg.tenants), .slice A2 n2 k2, .slice A3 n3 k3, .slice A4 n4 k4] 57)) := (by repeat (first | with_reducible exact Kp.refl _ _ | with_reducible refine Kp.alloc ?_ _ | with_reducible refine Kp.drew ?_ | with_reducible refine Kp.drewN ?_ _ | with_reducible refine Kp.setRow ?_ (from_le (by first | exact Nat.le_refl _ | omega)) _ | with_reducible refine Kp.setCell ?_ (Or.inl (from_le (by first | (dsimp only; omega) | omega | (simp; omega) | (simp; done)))) _))
      have offx : ∀ b, From (w1.heap.size + 1) b ∧ b < w2.heap.size → ¬ From w2.heap.size b := fun b hb h => by unfold From at h; omega
      refine (wir_Entry _ (fun b => From (w1.heap.size + 1) b ∧ b < w2.heap.size) c _ _ _ _ ((Hs1.out.clip).kp kx offx) ((Hs2.out.clip).kp kx offx) ((Hs3.out.clip).kp kx offx) ((Hs4.out.clip).kp kx offx) (fun b hb => by simp; omega)).mono ?_
      rintro e w4 ⟨hk4, hc⟩
      obtain ⟨p1, p2, p3⟩ := hk4.reads w.heap.size (not_no _) (by simp; omega)
      obtain ⟨p4, p5, p6⟩ := hk4.reads (w.heap.size + 1) (not_no _) (by simp; omega)
      obtain ⟨p7, p8, p9⟩ := hk4.reads w2.heap.size (not_no _) (by simp)
      have Hk4 := Lib.hid ((Hk2.out.trans (kx.mono (S' := From w.heap.size) fun b _ hb => Nat.le_trans (Nat.le_of_lt z3) hb)).trans (hk4.mono (S' := From w.heap.size) fun _ _ h => h.elim))
      have Hs1 := Lib.hid ((Hs1.out.clip.kp kx offx).kp hk4 (fun _ _ => id))
      have Hs2 := Lib.hid ((Hs2.out.clip.kp kx offx).kp hk4 (fun _ _ => id))
      have Hs3 := Lib.hid ((Hs3.out.clip.kp kx offx).kp hk4 (fun _ _ => id))
      have Hs4 := Lib.hid ((Hs4.out.clip.kp kx offx).kp hk4 (fun _ _ => id))
      clear hk4 kx offx
      rcases hc with ⟨hf, rfl⟩ | ⟨hf, v, rfl, hs⟩
      · have hno := Lib.hid (isEnc_no (words := En.words) (fit := (fun x => x.cfg.fit)) (fun x hx => reads_en x hx) Hcs.out (fun h => Bool.noConfusion (hf.symm.trans h.1)))
        clear hf
        go_wp2_with fail
        refine bodyPost_ret (v := .tuple #[.agg #[.int .i64 0, .int .i64 0, .int .i64 0, .slice none 0 0, .int .i64 0, .slice none 0 0, .slice none 0 0, .slice none 0 0], .int .i64 2]) ?_ rfl ⟨(Hk4.out.trans (show Kp (From w.heap.size) w4 _ from (by repeat (first | with_reducible exact Kp.refl _ _ | with_reducible refine Kp.alloc ?_ _ | with_reducible refine Kp.drew ?_ | with_reducible refine Kp.drewN ?_ _ | with_reducible refine Kp.setRow ?_ (from_le (by first | exact Nat.le_refl _ | omega)) _ | with_reducible refine Kp.setCell ?_ (Or.inl (from_le (by first | (dsimp only; omega) | omega | (simp; omega) | (simp; done)))) _)))).fresh, .inr ⟨hno.out, rfl⟩⟩
        simp [results, Try.results51, go_sem, a0, a1, a2, a3, a4, a5, a6, a7, z3, p1, p2, p3]
      · have Hsv := Lib.hid hs
        have hF4 : ∀ b, F b → ¬ From w.heap.size b := fun b hb h => absurd (HF.out b hb) (by unfold From at h; omega)
        by_cases hl : l = sealW (En.words c)
        · have te1 : ((bs l).toList == (bs (sealW (En.words c))).toList) = true := toList_same (by rw [← hl])
          have Hen := Lib.hid (show IsEnc (fun x => x.cfg.fit) En.words c l from ⟨hf, hl⟩)
          have HF4 := Lib.hid hF4
          obtain ⟨A9, n9, k9, rfl, _, _, _⟩ := hs.form'
          clear hs hl hf hF4
          go_wp2_with fail
          refine (bytes_Equal _ F _ l _ _ _ (H.out.kp Hk4.out HF4.out) Hsv.out).mono ?_
          rintro e w5 ⟨rfl, rfl⟩
          go_wp2_with fail
          have kf : Kp (fun b => b = w.heap.size) w4 ((((((((w4.setCell ⟨w.heap.size, 0, none⟩ (.int .i64 (i64of c.kind))).setCell ⟨w.heap.size, 1, none⟩ (.int .i64 (i64of c.version))).setCell ⟨w.heap.size, 2, none⟩ (.int .i64 (i64of c.serial))).setCell ⟨w.heap.size, 3, none⟩ (.slice A1 n1 k1)).setCell ⟨w.heap.size, 4, none⟩ (.int .i64 (i64of c.cfg.tenants))).setCell ⟨w.heap.size, 5, none⟩ (.slice A2 n2 k2)).setCell ⟨w.heap.size, 6, none⟩ (.slice A3 n3 k3)).setCell ⟨w.heap.size, 7, none⟩ (.slice A4 n4 k4)) := (by repeat (first | with_reducible exact Kp.refl _ _ | with_reducible refine Kp.setCell ?_ (Or.inl (by dsimp only)) _))
          refine bodyPost_ret (v := .tuple #[.agg #[.int .i64 (i64of c.kind), .int .i64 (i64of c.version), .int .i64 (i64of c.serial), .slice A1 n1 k1, .int .i64 (i64of c.cfg.tenants), .slice A2 n2 k2, .slice A3 n3 k3, .slice A4 n4 k4], .int .i64 0]) ?_ rfl ⟨(Hk4.out.trans (kf.mono fun b _ hb => by rw [hb]; exact Nat.le_refl _)).fresh, .inl ⟨c, Hen.out, _, _, _, _, rfl, (Hs1.out.kp kf (fun b hb e => absurd hb.1 (by unfold From; omega))).mono fun b _ hb => (show w.heap.size ≤ b from Nat.le_trans (by omega) hb.1), (Hs2.out.kp kf (fun b hb e => absurd hb.1 (by unfold From; omega))).mono fun b _ hb => (show w.heap.size ≤ b from Nat.le_trans (by omega) hb.1), (Hs3.out.kp kf (fun b hb e => absurd hb.1 (by unfold From; omega))).mono fun b _ hb => (show w.heap.size ≤ b from Nat.le_trans (by omega) hb.1), (Hs4.out.kp kf (fun b hb e => absurd hb.1 (by unfold From; omega))).mono fun b _ hb => (show w.heap.size ≤ b from Nat.le_trans (by omega) hb.1)⟩⟩
          simp [results, Try.results51, go_sem, a0, a1, a2, a3, a4, a5, a6, a7, z3, p1, p2, p3, p7]
        · have te1 : ((bs l).toList == (bs (sealW (En.words c))).toList) = false := toList_ne (fun h => hl (bs_inj h))
          have hno := Lib.hid (isEnc_no (words := En.words) (fit := (fun x => x.cfg.fit)) (fun x hx => reads_en x hx) Hcs.out (fun h => hl h.2))
          have HF4 := Lib.hid hF4
          obtain ⟨A9, n9, k9, rfl, _, _, _⟩ := hs.form'
          clear hs hl hf hF4
          go_wp2_with fail
          refine (bytes_Equal _ F _ l _ _ _ (H.out.kp Hk4.out HF4.out) Hsv.out).mono ?_
          rintro e w5 ⟨rfl, rfl⟩
          go_wp2_with fail
          refine bodyPost_ret (v := .tuple #[.agg #[.int .i64 0, .int .i64 0, .int .i64 0, .slice none 0 0, .int .i64 0, .slice none 0 0, .slice none 0 0, .slice none 0 0], .int .i64 2]) ?_ rfl ⟨(Hk4.out.trans (show Kp (From w.heap.size) w4 _ from (by repeat (first | with_reducible exact Kp.refl _ _ | with_reducible refine Kp.alloc ?_ _ | with_reducible refine Kp.drew ?_ | with_reducible refine Kp.drewN ?_ _ | with_reducible refine Kp.setRow ?_ (from_le (by first | exact Nat.le_refl _ | omega)) _ | with_reducible refine Kp.setCell ?_ (Or.inl (from_le (by first | (dsimp only; omega) | omega | (simp; omega) | (simp; done)))) _)))).fresh, .inr ⟨hno.out, rfl⟩⟩
          simp [results, Try.results51, go_sem, a0, a1, a2, a3, a4, a5, a6, a7, z3, p1, p2, p3]
    · have te : (r'.end_ != 0) = true := by simpa using hend
      have hno := Lib.hid (isEnc_bad (words := En.words) (fit := (fun x => x.cfg.fit)) (fun x hx => reads_en x hx) Hcs.out (.inr hend))
      clear hend
      go_wp2_with fail
      refine bodyPost_ret (v := .tuple #[.agg #[.int .i64 0, .int .i64 0, .int .i64 0, .slice none 0 0, .int .i64 0, .slice none 0 0, .slice none 0 0, .slice none 0 0], .int .i64 2]) ?_ rfl ⟨(Hk2.out.trans (show Kp (From w.heap.size) w2 _ from (by repeat (first | with_reducible exact Kp.refl _ _ | with_reducible refine Kp.alloc ?_ _ | with_reducible refine Kp.drew ?_ | with_reducible refine Kp.drewN ?_ _ | with_reducible refine Kp.setRow ?_ (from_le (by first | exact Nat.le_refl _ | omega)) _ | with_reducible refine Kp.setCell ?_ (Or.inl (from_le (by first | (dsimp only; omega) | omega | (simp; omega) | (simp; done)))) _)))).fresh, .inr ⟨hno.out, rfl⟩⟩
      simp [results, Try.results51, go_sem, a0, a1, a2, a3, a4, a5, a6, a7, z3]


set_option maxHeartbeats 1000000 in
theorem wir_ReadEntry (w : World) (F : Nat → Prop) (l : List UInt8) (v : Value) (h : SliceAt u8R w F l v) (hF : ∀ b, F b → b < w.heap.size) (hb : l.length ≤ 140737488355328) :
    Calls Try.prog 24 #[v] w fun e w' => RdEntry w w' l e := by
  obtain ⟨A, m, c0, rfl, Hm, hc1, hc2⟩ := h.form'
  have H := Lib.hid h
  have HF := Lib.hid hF
  have Hb := Lib.hid hb
  clear h hF hb
  go_enter Try.func24, Try.ntmps24
  go_wp2_with fail
  have k0 : Kp No w (w.alloc (.cells #[.int .i64 0, .int .i64 0, .int .i64 0, .slice none 0 0, .int .i64 0, .slice none 0 0, .slice none 0 0, .slice none 0 0] 57)) := (Kp.refl _ _).alloc _
  refine (wir_read_Entry _ F l _ (H.out.kp k0 (fun _ _ => id)) (fun b hb => Nat.lt_of_lt_of_le (HF.out b hb) k0.size) Hb.out).mono ?_
  rintro e w1 ⟨hk1, hc⟩
  have ra := hk1.heap (heap_alloc_new w _) id
  have a0 : w1.cell? ⟨w.heap.size, 0, none⟩ = some (.int .i64 0) := cell_of_row _ _ 0 _ _ _ ra
  have a1 : w1.cell? ⟨w.heap.size, 1, none⟩ = some (.int .i64 0) := cell_of_row _ _ 1 _ _ _ ra
  have a2 : w1.cell? ⟨w.heap.size, 2, none⟩ = some (.int .i64 0) := cell_of_row _ _ 2 _ _ _ ra
  have a3 : w1.cell? ⟨w.heap.size, 3, none⟩ = some (.slice none 0 0) := cell_of_row _ _ 3 _ _ _ ra
  have a4 : w1.cell? ⟨w.heap.size, 4, none⟩ = some (.int .i64 0) := cell_of_row _ _ 4 _ _ _ ra
  have a5 : w1.cell? ⟨w.heap.size, 5, none⟩ = some (.slice none 0 0) := cell_of_row _ _ 5 _ _ _ ra
  have a6 : w1.cell? ⟨w.heap.size, 6, none⟩ = some (.slice none 0 0) := cell_of_row _ _ 6 _ _ _ ra
  have a7 : w1.cell? ⟨w.heap.size, 7, none⟩ = some (.slice none 0 0) := cell_of_row _ _ 7 _ _ _ ra
  have af : ∀ o, w1.frozen? ⟨w.heap.size, o, none⟩ = false := fun o => frz_of_row _ _ o _ _ ra
  have z1 : w.heap.size < w1.heap.size := (Array.getElem?_eq_some_iff.1 ra).1
  have Hk := Lib.hid (k0.trans hk1)
  rw [alloc_size] at hc
  clear hk1 k0 ra
  rcases hc with ⟨x, hx, v1, v2, v3, v4, rfl, hs1, hs2, hs3, hs4⟩ | ⟨hno, rfl⟩
  · have Hx := Lib.hid hx
    obtain ⟨A1, n1, k1, rfl, _, _, _⟩ := hs1.form'
    obtain ⟨A2, n2, k2, rfl, _, _, _⟩ := hs2.form'
    obtain ⟨A3, n3, k3, rfl, _, _, _⟩ := hs3.form'
    obtain ⟨A4, n4, k4, rfl, _, _, _⟩ := hs4.form'
    have Hs1 := Lib.hid hs1
    have Hs2 := Lib.hid hs2
    have Hs3 := Lib.hid hs3
    have Hs4 := Lib.hid hs4
    clear hx hs1 hs2 hs3 hs4
    go_wp2_with fail
    have kf : Kp (fun b => b = w.heap.size) w1 ((((((((w1.setCell ⟨w.heap.size, 0, none⟩ (.int .i64 (i64of x.kind))).setCell ⟨w.heap.size, 1, none⟩ (.int .i64 (i64of x.version))).setCell ⟨w.heap.size, 2, none⟩ (.int .i64 (i64of x.serial))).setCell ⟨w.heap.size, 3, none⟩ (.slice A1 n1 k1)).setCell ⟨w.heap.size, 4, none⟩ (.int .i64 (i64of x.cfg.tenants))).setCell ⟨w.heap.size, 5, none⟩ (.slice A2 n2 k2)).setCell ⟨w.heap.size, 6, none⟩ (.slice A3 n3 k3)).setCell ⟨w.heap.size, 7, none⟩ (.slice A4 n4 k4)) := (by repeat (first | with_reducible exact Kp.refl _ _ | with_reducible refine Kp.setCell ?_ (Or.inl (by dsimp only)) _))
    refine bodyPost_ret (v := .tuple #[.agg #[.int .i64 (i64of x.kind), .int .i64 (i64of x.version), .int .i64 (i64of x.serial), .slice A1 n1 k1, .int .i64 (i64of x.cfg.tenants), .slice A2 n2 k2, .slice A3 n3 k3, .slice A4 n4 k4], .int .i64 0]) ?_ rfl ⟨(((Hk.out.mono (S' := From w.heap.size) (fun _ _ h => h.elim)).trans (kf.mono fun b _ hb => by rw [hb]; exact Nat.le_refl _))).fresh, .inl ⟨x, Hx.out, _, _, _, _, rfl, (Hs1.out.kp kf (fun b hb e => absurd hb (by unfold From; omega))).mono fun b _ hb => (show w.heap.size ≤ b from Nat.le_trans (Nat.le_succ _) hb), (Hs2.out.kp kf (fun b hb e => absurd hb (by unfold From; omega))).mono fun b _ hb => (show w.heap.size ≤ b from Nat.le_trans (Nat.le_succ _) hb), (Hs3.out.kp kf (fun b hb e => absurd hb (by unfold From; omega))).mono fun b _ hb => (show w.heap.size ≤ b from Nat.le_trans (Nat.le_succ _) hb), (Hs4.out.kp kf (fun b hb e => absurd hb (by unfold From; omega))).mono fun b _ hb => (show w.heap.size ≤ b from Nat.le_trans (Nat.le_succ _) hb)⟩⟩
    simp [results, Try.results24, go_sem, a0, a1, a2, a3, a4, a5, a6, a7, z1]
  · have Hno := Lib.hid hno
    clear hno
    go_wp2_with fail
    refine bodyPost_ret (v := .tuple #[.agg #[.int .i64 0, .int .i64 0, .int .i64 0, .slice none 0 0, .int .i64 0, .slice none 0 0, .slice none 0 0, .slice none 0 0], .int .i64 2]) ?_ rfl ⟨((Hk.out.mono (S' := From w.heap.size) (fun _ _ h => h.elim)).trans (show Kp (From w.heap.size) w1 _ from (by repeat (first | with_reducible exact Kp.refl _ _ | with_reducible refine Kp.alloc ?_ _ | with_reducible refine Kp.drew ?_ | with_reducible refine Kp.drewN ?_ _ | with_reducible refine Kp.setRow ?_ (from_le (by first | exact Nat.le_refl _ | omega)) _ | with_reducible refine Kp.setCell ?_ (Or.inl (from_le (by first | (dsimp only; omega) | omega | (simp; omega) | (simp; done)))) _)))).fresh, .inr ⟨Hno.out, rfl⟩⟩
    simp [results, Try.results24, go_sem, a0, a1, a2, a3, a4, a5, a6, a7, z1]

end Go.Proofs.Ytpaldbejnbcokaa
