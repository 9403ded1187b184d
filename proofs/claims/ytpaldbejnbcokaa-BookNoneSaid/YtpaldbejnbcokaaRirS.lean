/- Contracts of package wire: the reader's cube, port, peer, way, rule. -/
import Derived.Test.YtpaldbejnbcokaaRirN
import Derived.Deep.Cut
namespace Go.Proofs.Ytpaldbejnbcokaa
open Go.RowKit
set_option linter.unusedSimpArgs false
set_option linter.unusedVariables false


set_option maxHeartbeats 400000 in
theorem rir_port (w : World) (X : Nat → Prop) (s : RS) (q p : Nat) (h : RirAt w X s q p) :
    Calls Try.prog 93 #[.pointer (some ⟨q, 0, none⟩)] w fun e w' => e = .returned (.agg #[.int .i64 (i64of (rdPt s).1.kind), .int .i64 (i64of (rdPt s).1.tenant), .int .i64 (i64of (rdPt s).1.peer), .int .i64 (i64of (rdPt s).1.at_), .int .i64 (i64of (rdPt s).1.cost)]) ∧ RirAt w' X (rdPt s).2 q p ∧ Kp (Two q p) w w' := by
  obtain ⟨hq, hp, hpq⟩ := h.lt
  have H := Lib.hid h
  have HX := Lib.hid h.off
  clear h hpq
  go_enter Try.func93, Try.ntmps93
  go_wp2_with fail
  have hx : Kp (From w.heap.size) w (w.alloc (.cells #[.int .i64 0, .int .i64 0, .int .i64 0, .int .i64 0, .int .i64 0] 88)) := (by repeat (first | with_reducible exact Kp.refl _ _ | with_reducible refine Kp.alloc ?_ _ | with_reducible refine Kp.drew ?_ | with_reducible refine Kp.drewN ?_ _ | with_reducible refine Kp.setRow ?_ (from_le (by first | exact Nat.le_refl _ | omega)) _ | with_reducible refine Kp.setCell ?_ (Or.inl (from_le (by first | (dsimp only; omega) | omega | (simp; omega) | (simp; done)))) _))
  refine (rir_nums_lit _ X s q p w.heap.size [0, 1, 2, 3, 4] _ _ _ _ _ (alloc_size _ _).symm rfl rfl (H.out.kp hx HX.out) (heap_alloc_new w _) (fun h => absurd (HX.out _ h) (by simp [From])) (by simp) (by simp)).mono ?_
  rintro e w1 ⟨rfl, h1, hr1, hk1⟩
  have c0 : w1.cell? ⟨w.heap.size, 0, none⟩ = some (.int .i64 (i64of (rdPt s).1.kind)) := cell_of_row _ _ 0 _ _ _ hr1
  have c1 : w1.cell? ⟨w.heap.size, 1, none⟩ = some (.int .i64 (i64of (rdPt s).1.tenant)) := cell_of_row _ _ 1 _ _ _ hr1
  have c2 : w1.cell? ⟨w.heap.size, 2, none⟩ = some (.int .i64 (i64of (rdPt s).1.peer)) := cell_of_row _ _ 2 _ _ _ hr1
  have c3 : w1.cell? ⟨w.heap.size, 3, none⟩ = some (.int .i64 (i64of (rdPt s).1.at_)) := cell_of_row _ _ 3 _ _ _ hr1
  have c4 : w1.cell? ⟨w.heap.size, 4, none⟩ = some (.int .i64 (i64of (rdPt s).1.cost)) := cell_of_row _ _ 4 _ _ _ hr1
  have cf : ∀ o, w1.frozen? ⟨w.heap.size, o, none⟩ = false := fun o => frz_of_row _ _ o _ _ hr1
  have H1 := Lib.hid (show RirAt w1 X (rdPt s).2 q p from h1)
  have Hk := Lib.hid (hx.fr.trans (hk1.orb (Nat.le_refl _)))
  have z1 : w.heap.size < w1.heap.size := (Array.getElem?_eq_some_iff.1 hr1).1
  clear h1 hk1 hx
  go_wp2_with fail
  refine bodyPost_ret (v := .agg #[.int .i64 (i64of (rdPt s).1.kind), .int .i64 (i64of (rdPt s).1.tenant), .int .i64 (i64of (rdPt s).1.peer), .int .i64 (i64of (rdPt s).1.at_), .int .i64 (i64of (rdPt s).1.cost)]) ?_ rfl ⟨rfl, H1.out.kp (S := From w.heap.size) (by repeat (first | with_reducible exact Kp.refl _ _ | with_reducible refine Kp.alloc ?_ _ | with_reducible refine Kp.drew ?_ | with_reducible refine Kp.drewN ?_ _ | with_reducible refine Kp.setRow ?_ (from_le (by first | exact Nat.le_refl _ | omega)) _ | with_reducible refine Kp.setCell ?_ (Or.inl (from_le (by first | (dsimp only; omega) | omega | (simp; omega) | (simp; done)))) _)) HX.out, (Hk.out.trans (Kp.fr (S := Two q p) (show Kp (From w.heap.size) w1 _ from (by repeat (first | with_reducible exact Kp.refl _ _ | with_reducible refine Kp.alloc ?_ _ | with_reducible refine Kp.drew ?_ | with_reducible refine Kp.drewN ?_ _ | with_reducible refine Kp.setRow ?_ (from_le (by first | exact Nat.le_refl _ | omega)) _ | with_reducible refine Kp.setCell ?_ (Or.inl (from_le (by first | (dsimp only; omega) | omega | (simp; omega) | (simp; done)))) _))))).unfresh⟩
  simp [results, Try.results93, go_sem, c0, c1, c2, c3, c4]


set_option maxHeartbeats 400000 in
theorem rir_peer (w : World) (X : Nat → Prop) (s : RS) (q p : Nat) (h : RirAt w X s q p) :
    Calls Try.prog 75 #[.pointer (some ⟨q, 0, none⟩)] w fun e w' => e = .returned (.agg #[.int .i64 (i64of (rdPr s).1.a), .int .i64 (i64of (rdPr s).1.b)]) ∧ RirAt w' X (rdPr s).2 q p ∧ Kp (Two q p) w w' := by
  obtain ⟨hq, hp, hpq⟩ := h.lt
  have H := Lib.hid h
  have HX := Lib.hid h.off
  clear h hpq
  go_enter Try.func75, Try.ntmps75
  go_wp2_with fail
  have hx : Kp (From w.heap.size) w (w.alloc (.cells #[.int .i64 0, .int .i64 0] 89)) := (by repeat (first | with_reducible exact Kp.refl _ _ | with_reducible refine Kp.alloc ?_ _ | with_reducible refine Kp.drew ?_ | with_reducible refine Kp.drewN ?_ _ | with_reducible refine Kp.setRow ?_ (from_le (by first | exact Nat.le_refl _ | omega)) _ | with_reducible refine Kp.setCell ?_ (Or.inl (from_le (by first | (dsimp only; omega) | omega | (simp; omega) | (simp; done)))) _))
  refine (rir_nums_lit _ X s q p w.heap.size [0, 1] _ _ _ _ _ (alloc_size _ _).symm rfl rfl (H.out.kp hx HX.out) (heap_alloc_new w _) (fun h => absurd (HX.out _ h) (by simp [From])) (by simp) (by simp)).mono ?_
  rintro e w1 ⟨rfl, h1, hr1, hk1⟩
  have c0 : w1.cell? ⟨w.heap.size, 0, none⟩ = some (.int .i64 (i64of (rdPr s).1.a)) := cell_of_row _ _ 0 _ _ _ hr1
  have c1 : w1.cell? ⟨w.heap.size, 1, none⟩ = some (.int .i64 (i64of (rdPr s).1.b)) := cell_of_row _ _ 1 _ _ _ hr1
  have cf : ∀ o, w1.frozen? ⟨w.heap.size, o, none⟩ = false := fun o => frz_of_row _ _ o _ _ hr1
  have H1 := Lib.hid (show RirAt w1 X (rdPr s).2 q p from h1)
  have Hk := Lib.hid (hx.fr.trans (hk1.orb (Nat.le_refl _)))
  have z1 : w.heap.size < w1.heap.size := (Array.getElem?_eq_some_iff.1 hr1).1
  clear h1 hk1 hx
  go_wp2_with fail
  refine bodyPost_ret (v := .agg #[.int .i64 (i64of (rdPr s).1.a), .int .i64 (i64of (rdPr s).1.b)]) ?_ rfl ⟨rfl, H1.out.kp (S := From w.heap.size) (by repeat (first | with_reducible exact Kp.refl _ _ | with_reducible refine Kp.alloc ?_ _ | with_reducible refine Kp.drew ?_ | with_reducible refine Kp.drewN ?_ _ | with_reducible refine Kp.setRow ?_ (from_le (by first | exact Nat.le_refl _ | omega)) _ | with_reducible refine Kp.setCell ?_ (Or.inl (from_le (by first | (dsimp only; omega) | omega | (simp; omega) | (simp; done)))) _)) HX.out, (Hk.out.trans (Kp.fr (S := Two q p) (show Kp (From w.heap.size) w1 _ from (by repeat (first | with_reducible exact Kp.refl _ _ | with_reducible refine Kp.alloc ?_ _ | with_reducible refine Kp.drew ?_ | with_reducible refine Kp.drewN ?_ _ | with_reducible refine Kp.setRow ?_ (from_le (by first | exact Nat.le_refl _ | omega)) _ | with_reducible refine Kp.setCell ?_ (Or.inl (from_le (by first | (dsimp only; omega) | omega | (simp; omega) | (simp; done)))) _))))).unfresh⟩
  simp [results, Try.results75, go_sem, c0, c1]


set_option maxHeartbeats 400000 in
theorem rir_way (w : World) (X : Nat → Prop) (s : RS) (q p : Nat) (h : RirAt w X s q p) :
    Calls Try.prog 77 #[.pointer (some ⟨q, 0, none⟩)] w fun e w' => e = .returned (.agg #[.int .i64 (i64of (rdWy s).1.fro), .int .i64 (i64of (rdWy s).1.to), .int .i64 (i64of (rdWy s).1.via)]) ∧ RirAt w' X (rdWy s).2 q p ∧ Kp (Two q p) w w' := by
  obtain ⟨hq, hp, hpq⟩ := h.lt
  have H := Lib.hid h
  have HX := Lib.hid h.off
  clear h hpq
  go_enter Try.func77, Try.ntmps77
  go_wp2_with fail
  have hx : Kp (From w.heap.size) w (w.alloc (.cells #[.int .i64 0, .int .i64 0, .int .i64 0] 91)) := (by repeat (first | with_reducible exact Kp.refl _ _ | with_reducible refine Kp.alloc ?_ _ | with_reducible refine Kp.drew ?_ | with_reducible refine Kp.drewN ?_ _ | with_reducible refine Kp.setRow ?_ (from_le (by first | exact Nat.le_refl _ | omega)) _ | with_reducible refine Kp.setCell ?_ (Or.inl (from_le (by first | (dsimp only; omega) | omega | (simp; omega) | (simp; done)))) _))
  refine (rir_nums_lit _ X s q p w.heap.size [0, 1, 2] _ _ _ _ _ (alloc_size _ _).symm rfl rfl (H.out.kp hx HX.out) (heap_alloc_new w _) (fun h => absurd (HX.out _ h) (by simp [From])) (by simp) (by simp)).mono ?_
  rintro e w1 ⟨rfl, h1, hr1, hk1⟩
  have c0 : w1.cell? ⟨w.heap.size, 0, none⟩ = some (.int .i64 (i64of (rdWy s).1.fro)) := cell_of_row _ _ 0 _ _ _ hr1
  have c1 : w1.cell? ⟨w.heap.size, 1, none⟩ = some (.int .i64 (i64of (rdWy s).1.to)) := cell_of_row _ _ 1 _ _ _ hr1
  have c2 : w1.cell? ⟨w.heap.size, 2, none⟩ = some (.int .i64 (i64of (rdWy s).1.via)) := cell_of_row _ _ 2 _ _ _ hr1
  have cf : ∀ o, w1.frozen? ⟨w.heap.size, o, none⟩ = false := fun o => frz_of_row _ _ o _ _ hr1
  have H1 := Lib.hid (show RirAt w1 X (rdWy s).2 q p from h1)
  have Hk := Lib.hid (hx.fr.trans (hk1.orb (Nat.le_refl _)))
  have z1 : w.heap.size < w1.heap.size := (Array.getElem?_eq_some_iff.1 hr1).1
  clear h1 hk1 hx
  go_wp2_with fail
  refine bodyPost_ret (v := .agg #[.int .i64 (i64of (rdWy s).1.fro), .int .i64 (i64of (rdWy s).1.to), .int .i64 (i64of (rdWy s).1.via)]) ?_ rfl ⟨rfl, H1.out.kp (S := From w.heap.size) (by repeat (first | with_reducible exact Kp.refl _ _ | with_reducible refine Kp.alloc ?_ _ | with_reducible refine Kp.drew ?_ | with_reducible refine Kp.drewN ?_ _ | with_reducible refine Kp.setRow ?_ (from_le (by first | exact Nat.le_refl _ | omega)) _ | with_reducible refine Kp.setCell ?_ (Or.inl (from_le (by first | (dsimp only; omega) | omega | (simp; omega) | (simp; done)))) _)) HX.out, (Hk.out.trans (Kp.fr (S := Two q p) (show Kp (From w.heap.size) w1 _ from (by repeat (first | with_reducible exact Kp.refl _ _ | with_reducible refine Kp.alloc ?_ _ | with_reducible refine Kp.drew ?_ | with_reducible refine Kp.drewN ?_ _ | with_reducible refine Kp.setRow ?_ (from_le (by first | exact Nat.le_refl _ | omega)) _ | with_reducible refine Kp.setCell ?_ (Or.inl (from_le (by first | (dsimp only; omega) | omega | (simp; omega) | (simp; done)))) _))))).unfresh⟩
  simp [results, Try.results77, go_sem, c0, c1, c2]


set_option maxHeartbeats 400000 in
theorem rir_cube (w : World) (X : Nat → Prop) (s : RS) (q p : Nat) (h : RirAt w X s q p) :
    Calls Try.prog 104 #[.pointer (some ⟨q, 0, none⟩)] w fun e w' => e = .returned (.agg #[.int .u64 ((rdCb s).1.value.hi).toNat, .int .u64 ((rdCb s).1.value.lo).toNat, .int .u64 ((rdCb s).1.care.hi).toNat, .int .u64 ((rdCb s).1.care.lo).toNat]) ∧ RirAt w' X (rdCb s).2 q p ∧ Kp (Two q p) w w' := by
  obtain ⟨hq, hp, hpq⟩ := h.lt
  have H := Lib.hid h
  have HX := Lib.hid h.off
  clear h hpq
  go_enter Try.func104, Try.ntmps104
  go_wp2_with fail
  refine (rir_head _ X s q p (H.out.kp (S := From w.heap.size) (by repeat (first | with_reducible exact Kp.refl _ _ | with_reducible refine Kp.alloc ?_ _ | with_reducible refine Kp.drew ?_ | with_reducible refine Kp.drewN ?_ _ | with_reducible refine Kp.setRow ?_ (from_le (by first | exact Nat.le_refl _ | omega)) _ | with_reducible refine Kp.setCell ?_ (Or.inl (from_le (by first | (dsimp only; omega) | omega | (simp; omega) | (simp; done)))) _)) HX.out)).mono ?_
  rintro e w1 ⟨rfl, h1, hk1⟩
  have Hk1 := Lib.hid ((Kp.fr (S := Two q p) (show Kp (From w.heap.size) w _ from (by repeat (first | with_reducible exact Kp.refl _ _ | with_reducible refine Kp.alloc ?_ _ | with_reducible refine Kp.drew ?_ | with_reducible refine Kp.drewN ?_ _ | with_reducible refine Kp.setRow ?_ (from_le (by first | exact Nat.le_refl _ | omega)) _ | with_reducible refine Kp.setCell ?_ (Or.inl (from_le (by first | (dsimp only; omega) | omega | (simp; omega) | (simp; done)))) _)))).trans hk1.orl)
  obtain ⟨c1, f1, z1⟩ := hk1.reads w.heap.size (by unfold Two; omega) (by simp)
  have zq := h1.lt.1
  have H1 := Lib.hid h1
  clear h1 hk1
  go_wp2_with fail
  refine (rir_head _ X _ q p (H1.out.kp (S := From w.heap.size) (by repeat (first | with_reducible exact Kp.refl _ _ | with_reducible refine Kp.alloc ?_ _ | with_reducible refine Kp.drew ?_ | with_reducible refine Kp.drewN ?_ _ | with_reducible refine Kp.setRow ?_ (from_le (by first | exact Nat.le_refl _ | omega)) _ | with_reducible refine Kp.setCell ?_ (Or.inl (from_le (by first | (dsimp only; omega) | omega | (simp; omega) | (simp; done)))) _)) HX.out)).mono ?_
  rintro e w2 ⟨rfl, h1, hk2⟩
  have Hk2 := Lib.hid ((Hk1.out.trans (Kp.fr (S := Two q p) (show Kp (From w.heap.size) w1 _ from (by repeat (first | with_reducible exact Kp.refl _ _ | with_reducible refine Kp.alloc ?_ _ | with_reducible refine Kp.drew ?_ | with_reducible refine Kp.drewN ?_ _ | with_reducible refine Kp.setRow ?_ (from_le (by first | exact Nat.le_refl _ | omega)) _ | with_reducible refine Kp.setCell ?_ (Or.inl (from_le (by first | (dsimp only; omega) | omega | (simp; omega) | (simp; done)))) _))))).trans hk2.orl)
  obtain ⟨c2, f2, z2⟩ := hk2.reads w.heap.size (by unfold Two; omega) (by simp; omega)
  obtain ⟨c3, f3, z3⟩ := hk2.reads w1.heap.size (by unfold Two; omega) (by simp)
  have H2 := Lib.hid (show RirAt w2 X (rdCb s).2 q p from h1)
  clear h1 hk2
  go_wp2_with fail
  have n1 : ¬ w1.heap.size = w.heap.size := by omega
  refine bodyPost_ret (v := .agg #[.int .u64 ((rdCb s).1.value.hi).toNat, .int .u64 ((rdCb s).1.value.lo).toNat, .int .u64 ((rdCb s).1.care.hi).toNat, .int .u64 ((rdCb s).1.care.lo).toNat]) ?_ rfl ⟨rfl, H2.out.kp (S := From w.heap.size) (by repeat (first | with_reducible exact Kp.refl _ _ | with_reducible refine Kp.alloc ?_ _ | with_reducible refine Kp.drew ?_ | with_reducible refine Kp.drewN ?_ _ | with_reducible refine Kp.setRow ?_ (from_le (by first | exact Nat.le_refl _ | omega)) _ | with_reducible refine Kp.setCell ?_ (Or.inl (from_le (by first | (dsimp only; omega) | omega | (simp; omega) | (simp; done)))) _)) HX.out, (Hk2.out.trans (Kp.fr (S := Two q p) (show Kp (From w.heap.size) w2 _ from (by repeat (first | with_reducible exact Kp.refl _ _ | with_reducible refine Kp.alloc ?_ _ | with_reducible refine Kp.drew ?_ | with_reducible refine Kp.drewN ?_ _ | with_reducible refine Kp.setRow ?_ (from_le (by first | exact Nat.le_refl _ | omega)) _ | with_reducible refine Kp.setCell ?_ (Or.inl (from_le (by first | (dsimp only; omega) | omega | (simp; omega) | (simp; done)))) _))))).unfresh⟩
  simp [results, Try.results104, go_sem, c2, c3, c1, z1, n1, rdCb]

theorem rdN_w3 (s : RS) : (rdN RS.word 3 s).1 = [s.word.1, s.word.2.word.1, s.word.2.word.2.word.1] := rfl

set_option maxHeartbeats 1000000 in
theorem rir_rule0 (w : World) (X : Nat → Prop) (s : RS) (q p : Nat) (h : RirAt w X s q p) :
    Calls Try.prog 101 #[.pointer (some ⟨q, 0, none⟩)] w fun e w' => e = .returned (.agg #[.int .i64 (i64of s.word.1), .int .u64 ((rdCb s.word.2).1.value.hi).toNat, .int .u64 ((rdCb s.word.2).1.value.lo).toNat, .int .u64 ((rdCb s.word.2).1.care.hi).toNat, .int .u64 ((rdCb s.word.2).1.care.lo).toNat, .int .i64 (i64of (rdCb s.word.2).2.word.1), .int .i64 (i64of (rdCb s.word.2).2.word.2.word.1), .int .i64 (i64of (rdCb s.word.2).2.word.2.word.2.word.1), .int .u64 ((rdCb (rdAc3 (rdCb s.word.2).2)).1.value.hi).toNat, .int .u64 ((rdCb (rdAc3 (rdCb s.word.2).2)).1.value.lo).toNat, .int .u64 ((rdCb (rdAc3 (rdCb s.word.2).2)).1.care.hi).toNat, .int .u64 ((rdCb (rdAc3 (rdCb s.word.2).2)).1.care.lo).toNat]) ∧ RirAt w' X (rdCb (rdAc3 (rdCb s.word.2).2)).2 q p ∧ Kp (Two q p) w w' := by
  obtain ⟨hq, hp, hpq⟩ := h.lt
  have h0 := h.c0
  have H := Lib.hid h
  have HX := Lib.hid h.off
  clear h hpq
  go_enter Try.func101, Try.ntmps101
  go_wp2_with fail
  refine (Num_r _ X s q p (H.out.kp (S := From w.heap.size) (by repeat (first | with_reducible exact Kp.refl _ _ | with_reducible refine Kp.alloc ?_ _ | with_reducible refine Kp.drew ?_ | with_reducible refine Kp.drewN ?_ _ | with_reducible refine Kp.setRow ?_ (from_le (by first | exact Nat.le_refl _ | omega)) _ | with_reducible refine Kp.setCell ?_ (Or.inl (from_le (by first | (dsimp only; omega) | omega | (simp; omega) | (simp; done)))) _)) HX.out)).mono ?_
  rintro e w1 ⟨rfl, h1, hk1⟩
  have Hk1 := Lib.hid ((Kp.fr (S := Two q p) (show Kp (From w.heap.size) w _ from (by repeat (first | with_reducible exact Kp.refl _ _ | with_reducible refine Kp.alloc ?_ _ | with_reducible refine Kp.drew ?_ | with_reducible refine Kp.drewN ?_ _ | with_reducible refine Kp.setRow ?_ (from_le (by first | exact Nat.le_refl _ | omega)) _ | with_reducible refine Kp.setCell ?_ (Or.inl (from_le (by first | (dsimp only; omega) | omega | (simp; omega) | (simp; done)))) _)))).trans hk1.orl)
  have a1 := hk1.heap (heap_alloc_new w _) (by unfold Two; omega)
  have Ha1 := Lib.hid a1
  have z1 : w.heap.size < w1.heap.size := (Array.getElem?_eq_some_iff.1 a1).1
  have zq := h1.lt.1
  have H1 := Lib.hid h1
  clear h1 hk1 a1 h0
  go_wp2_with fail
  refine (rir_cube _ X _ q p (H1.out.kp (S := From w.heap.size) (by repeat (first | with_reducible exact Kp.refl _ _ | with_reducible refine Kp.alloc ?_ _ | with_reducible refine Kp.drew ?_ | with_reducible refine Kp.drewN ?_ _ | with_reducible refine Kp.setRow ?_ (from_le (by first | exact Nat.le_refl _ | omega)) _ | with_reducible refine Kp.setCell ?_ (Or.inl (from_le (by first | (dsimp only; omega) | omega | (simp; omega) | (simp; done)))) _)) HX.out)).mono ?_
  rintro e w2 ⟨rfl, h1, hk2⟩
  have Hk2 := Lib.hid ((Hk1.out.trans (Kp.fr (S := Two q p) (show Kp (From w.heap.size) w1 _ from (by repeat (first | with_reducible exact Kp.refl _ _ | with_reducible refine Kp.alloc ?_ _ | with_reducible refine Kp.drew ?_ | with_reducible refine Kp.drewN ?_ _ | with_reducible refine Kp.setRow ?_ (from_le (by first | exact Nat.le_refl _ | omega)) _ | with_reducible refine Kp.setCell ?_ (Or.inl (from_le (by first | (dsimp only; omega) | omega | (simp; omega) | (simp; done)))) _))))).trans hk2.orl)
  have Ha2 := Lib.hid (hk2.heap (((Kp.refl No w1).alloc _).heap Ha1.out id) (by unfold Two; omega))
  have r2 := hk2.heap (heap_alloc_new w1 _) (by unfold Two; omega)
  have c0 : w2.cell? ⟨w1.heap.size, 0, none⟩ = some (.int .i64 (i64of s.word.1)) := cell_of_row _ _ 0 _ _ _ r2
  have c1 : w2.cell? ⟨w1.heap.size, 1, none⟩ = some (.int .u64 0) := cell_of_row _ _ 1 _ _ _ r2
  have c2 : w2.cell? ⟨w1.heap.size, 2, none⟩ = some (.int .u64 0) := cell_of_row _ _ 2 _ _ _ r2
  have c3 : w2.cell? ⟨w1.heap.size, 3, none⟩ = some (.int .u64 0) := cell_of_row _ _ 3 _ _ _ r2
  have c4 : w2.cell? ⟨w1.heap.size, 4, none⟩ = some (.int .u64 0) := cell_of_row _ _ 4 _ _ _ r2
  have c5 : w2.cell? ⟨w1.heap.size, 5, none⟩ = some (.int .i64 0) := cell_of_row _ _ 5 _ _ _ r2
  have c6 : w2.cell? ⟨w1.heap.size, 6, none⟩ = some (.int .i64 0) := cell_of_row _ _ 6 _ _ _ r2
  have c7 : w2.cell? ⟨w1.heap.size, 7, none⟩ = some (.int .i64 0) := cell_of_row _ _ 7 _ _ _ r2
  have c8 : w2.cell? ⟨w1.heap.size, 8, none⟩ = some (.int .u64 0) := cell_of_row _ _ 8 _ _ _ r2
  have c9 : w2.cell? ⟨w1.heap.size, 9, none⟩ = some (.int .u64 0) := cell_of_row _ _ 9 _ _ _ r2
  have c10 : w2.cell? ⟨w1.heap.size, 10, none⟩ = some (.int .u64 0) := cell_of_row _ _ 10 _ _ _ r2
  have c11 : w2.cell? ⟨w1.heap.size, 11, none⟩ = some (.int .u64 0) := cell_of_row _ _ 11 _ _ _ r2
  have cf : ∀ o, w2.frozen? ⟨w1.heap.size, o, none⟩ = false := fun o => frz_of_row _ _ o _ _ r2
  have z2 : w1.heap.size < w2.heap.size := (Array.getElem?_eq_some_iff.1 r2).1
  have Hr2 := Lib.hid r2
  have H2 := Lib.hid h1
  clear h1 hk2 r2
  go_wp2_with fail
  have r3 := heap_setCell_same _ _ 4 _ _ (.int .u64 (rdCb s.word.2).1.care.lo.toNat) (heap_setCell_same _ _ 3 _ _ (.int .u64 (rdCb s.word.2).1.care.hi.toNat) (heap_setCell_same _ _ 2 _ _ (.int .u64 (rdCb s.word.2).1.value.lo.toNat) (heap_setCell_same _ _ 1 _ _ (.int .u64 (rdCb s.word.2).1.value.hi.toNat) Hr2.out)))
  refine (rir_nums_lit _ X _ q p w1.heap.size [5, 6, 7] _ _ _ _ _ (by simp [World.setCell]) rfl rfl (H2.out.kp (S := From w.heap.size) (by repeat (first | with_reducible exact Kp.refl _ _ | with_reducible refine Kp.alloc ?_ _ | with_reducible refine Kp.drew ?_ | with_reducible refine Kp.drewN ?_ _ | with_reducible refine Kp.setRow ?_ (from_le (by first | exact Nat.le_refl _ | omega)) _ | with_reducible refine Kp.setCell ?_ (Or.inl (from_le (by first | (dsimp only; omega) | omega | (simp; omega) | (simp; done)))) _)) HX.out) r3 (fun h => absurd (HX.out _ h) (by simp [From]; omega)) (by simp) (by simp)).mono ?_
  rintro e w3 ⟨rfl, h1, hr3, hk3⟩
  simp only [List.length_cons, List.length_nil, Nat.reduceAdd, rdN_w3, List.zip_cons_cons, List.zip_nil_left, setW, List.foldl_cons, List.foldl_nil, List.setIfInBounds_toArray, List.set_cons_zero, List.set_cons_succ] at hr3
  have Hk3 := Lib.hid ((Hk2.out.trans (Kp.fr (S := Two q p) (show Kp (From w.heap.size) w2 _ from (by repeat (first | with_reducible exact Kp.refl _ _ | with_reducible refine Kp.alloc ?_ _ | with_reducible refine Kp.drew ?_ | with_reducible refine Kp.drewN ?_ _ | with_reducible refine Kp.setRow ?_ (from_le (by first | exact Nat.le_refl _ | omega)) _ | with_reducible refine Kp.setCell ?_ (Or.inl (from_le (by first | (dsimp only; omega) | omega | (simp; omega) | (simp; done)))) _))))).trans (hk3.orb (by omega)))
  have Ha3 := Lib.hid (hk3.heap ((show Kp (fun g => g = w1.heap.size) w2 _ from (by repeat (first | with_reducible exact Kp.refl _ _ | with_reducible refine Kp.setCell ?_ (Or.inl (by dsimp only)) _))).heap Ha2.out (by omega)) (by unfold Two; omega))
  have z3 : w1.heap.size < w3.heap.size := (Array.getElem?_eq_some_iff.1 hr3).1
  have H3 := Lib.hid (show RirAt w3 X (rdAc3 (rdCb s.word.2).2) q p from h1)
  have Hr3 := Lib.hid hr3
  clear h1 hk3 hr3 r3 c0 c1 c2 c3 c4 c5 c6 c7 c8 c9 c10 c11 cf
  go_wp2_with fail
  refine (rir_cube _ X _ q p (H3.out.kp (S := From w.heap.size) (by repeat (first | with_reducible exact Kp.refl _ _ | with_reducible refine Kp.alloc ?_ _ | with_reducible refine Kp.drew ?_ | with_reducible refine Kp.drewN ?_ _ | with_reducible refine Kp.setRow ?_ (from_le (by first | exact Nat.le_refl _ | omega)) _ | with_reducible refine Kp.setCell ?_ (Or.inl (from_le (by first | (dsimp only; omega) | omega | (simp; omega) | (simp; done)))) _)) HX.out)).mono ?_
  rintro e w4 ⟨rfl, h1, hk4⟩
  have Hk4 := Lib.hid (Hk3.out.trans hk4.orl)
  have a4 := hk4.heap Ha3.out (by unfold Two; omega)
  have r4 := hk4.heap Hr3.out (by unfold Two; omega)
  have c0 : w4.cell? ⟨w1.heap.size, 0, none⟩ = some (.int .i64 (i64of s.word.1)) := cell_of_row _ _ 0 _ _ _ r4
  have c1 : w4.cell? ⟨w1.heap.size, 1, none⟩ = some (.int .u64 ((rdCb s.word.2).1.value.hi).toNat) := cell_of_row _ _ 1 _ _ _ r4
  have c2 : w4.cell? ⟨w1.heap.size, 2, none⟩ = some (.int .u64 ((rdCb s.word.2).1.value.lo).toNat) := cell_of_row _ _ 2 _ _ _ r4
  have c3 : w4.cell? ⟨w1.heap.size, 3, none⟩ = some (.int .u64 ((rdCb s.word.2).1.care.hi).toNat) := cell_of_row _ _ 3 _ _ _ r4
  have c4 : w4.cell? ⟨w1.heap.size, 4, none⟩ = some (.int .u64 ((rdCb s.word.2).1.care.lo).toNat) := cell_of_row _ _ 4 _ _ _ r4
  have c5 : w4.cell? ⟨w1.heap.size, 5, none⟩ = some (.int .i64 (i64of (rdCb s.word.2).2.word.1)) := cell_of_row _ _ 5 _ _ _ r4
  have c6 : w4.cell? ⟨w1.heap.size, 6, none⟩ = some (.int .i64 (i64of (rdCb s.word.2).2.word.2.word.1)) := cell_of_row _ _ 6 _ _ _ r4
  have c7 : w4.cell? ⟨w1.heap.size, 7, none⟩ = some (.int .i64 (i64of (rdCb s.word.2).2.word.2.word.2.word.1)) := cell_of_row _ _ 7 _ _ _ r4
  have c8 : w4.cell? ⟨w1.heap.size, 8, none⟩ = some (.int .u64 0) := cell_of_row _ _ 8 _ _ _ r4
  have c9 : w4.cell? ⟨w1.heap.size, 9, none⟩ = some (.int .u64 0) := cell_of_row _ _ 9 _ _ _ r4
  have c10 : w4.cell? ⟨w1.heap.size, 10, none⟩ = some (.int .u64 0) := cell_of_row _ _ 10 _ _ _ r4
  have c11 : w4.cell? ⟨w1.heap.size, 11, none⟩ = some (.int .u64 0) := cell_of_row _ _ 11 _ _ _ r4
  have cf : ∀ o, w4.frozen? ⟨w1.heap.size, o, none⟩ = false := fun o => frz_of_row _ _ o _ _ r4
  have Ha4 := Lib.hid a4
  have z4 : w1.heap.size < w4.heap.size := (Array.getElem?_eq_some_iff.1 r4).1
  have H4 := Lib.hid h1
  have Hr4 := Lib.hid r4
  clear h1 hk4 r4 a4
  go_upto_region 5 with (fail)
  have r5 := heap_setCell_same _ _ 11 _ _ (.int .u64 ((rdCb (rdAc3 (rdCb s.word.2).2)).1.care.lo).toNat) (heap_setCell_same _ _ 10 _ _ (.int .u64 ((rdCb (rdAc3 (rdCb s.word.2).2)).1.care.hi).toNat) (heap_setCell_same _ _ 9 _ _ (.int .u64 ((rdCb (rdAc3 (rdCb s.word.2).2)).1.value.lo).toNat) (heap_setCell_same _ _ 8 _ _ (.int .u64 ((rdCb (rdAc3 (rdCb s.word.2).2)).1.value.hi).toNat) Hr4.out)))
  simp only [List.setIfInBounds_toArray, List.set_cons_zero, List.set_cons_succ] at r5
  apply wp_region_lit
  refine wpList_load_row rfl 112 (.tmp 3) rfl w1.heap.size rfl _ _ (0, 0) _ r5 Try.underlying112 rfl (by kernel_rfl) ?_
  refine wpList_store_row rfl 112 (.tmp 2) (.tmp 26) rfl w.heap.size #[.int .i64 (i64of s.word.1), .int .u64 ((rdCb s.word.2).1.value.hi).toNat, .int .u64 ((rdCb s.word.2).1.value.lo).toNat, .int .u64 ((rdCb s.word.2).1.care.hi).toNat, .int .u64 ((rdCb s.word.2).1.care.lo).toNat, .int .i64 (i64of (rdCb s.word.2).2.word.1), .int .i64 (i64of (rdCb s.word.2).2.word.2.word.1), .int .i64 (i64of (rdCb s.word.2).2.word.2.word.2.word.1), .int .u64 ((rdCb (rdAc3 (rdCb s.word.2).2)).1.value.hi).toNat, .int .u64 ((rdCb (rdAc3 (rdCb s.word.2).2)).1.value.lo).toNat, .int .u64 ((rdCb (rdAc3 (rdCb s.word.2).2)).1.care.hi).toNat, .int .u64 ((rdCb (rdAc3 (rdCb s.word.2).2)).1.care.lo).toNat] rfl rfl _ _ ((show Kp (fun g => g = w1.heap.size) w4 _ from (by repeat (first | with_reducible exact Kp.refl _ _ | with_reducible refine Kp.setCell ?_ (Or.inl (by dsimp only)) _))).heap Ha4.out (by omega)) (by kernel_rfl) (Eq.refl 12) (by simp [Value.oneCell']) ?_
  clear r5
  go_wp2_with fail
  refine bodyPost_ret (v := .agg #[.int .i64 (i64of s.word.1), .int .u64 ((rdCb s.word.2).1.value.hi).toNat, .int .u64 ((rdCb s.word.2).1.value.lo).toNat, .int .u64 ((rdCb s.word.2).1.care.hi).toNat, .int .u64 ((rdCb s.word.2).1.care.lo).toNat, .int .i64 (i64of (rdCb s.word.2).2.word.1), .int .i64 (i64of (rdCb s.word.2).2.word.2.word.1), .int .i64 (i64of (rdCb s.word.2).2.word.2.word.2.word.1), .int .u64 ((rdCb (rdAc3 (rdCb s.word.2).2)).1.value.hi).toNat, .int .u64 ((rdCb (rdAc3 (rdCb s.word.2).2)).1.value.lo).toNat, .int .u64 ((rdCb (rdAc3 (rdCb s.word.2).2)).1.care.hi).toNat, .int .u64 ((rdCb (rdAc3 (rdCb s.word.2).2)).1.care.lo).toNat]) ?_ rfl ⟨rfl, H4.out.kp (S := From w.heap.size) (by repeat (first | with_reducible exact Kp.refl _ _ | with_reducible refine Kp.alloc ?_ _ | with_reducible refine Kp.drew ?_ | with_reducible refine Kp.drewN ?_ _ | with_reducible refine Kp.setRow ?_ (from_le (by first | exact Nat.le_refl _ | omega)) _ | with_reducible refine Kp.setCell ?_ (Or.inl (from_le (by first | (dsimp only; omega) | omega | (simp; omega) | (simp; done)))) _)) HX.out, (Hk4.out.trans (Kp.fr (S := Two q p) (show Kp (From w.heap.size) w4 _ from (by repeat (first | with_reducible exact Kp.refl _ _ | with_reducible refine Kp.alloc ?_ _ | with_reducible refine Kp.drew ?_ | with_reducible refine Kp.drewN ?_ _ | with_reducible refine Kp.setRow ?_ (from_le (by first | exact Nat.le_refl _ | omega)) _ | with_reducible refine Kp.setCell ?_ (Or.inl (from_le (by first | (dsimp only; omega) | omega | (simp; omega) | (simp; done)))) _))))).unfresh⟩
  exact results_cell_row rfl _ _ _ _ _ _ _ rfl (setRow_heap _ _ _ _ _ _ ((show Kp (fun g => g = w1.heap.size) w4 _ from (by repeat (first | with_reducible exact Kp.refl _ _ | with_reducible refine Kp.setCell ?_ (Or.inl (by dsimp only)) _))).heap Ha4.out (by omega))) Try.underlying112 rfl (by kernel_rfl)


theorem rir_rule (w : World) (X : Nat → Prop) (s : RS) (q p : Nat) (h : RirAt w X s q p) :
    Calls Try.prog 101 #[.pointer (some ⟨q, 0, none⟩)] w fun e w' => e = .returned (.agg #[.int .i64 (i64of (rdRl s).1.prio), .int .u64 ((rdRl s).1.mat.value.hi).toNat, .int .u64 ((rdRl s).1.mat.value.lo).toNat, .int .u64 ((rdRl s).1.mat.care.hi).toNat, .int .u64 ((rdRl s).1.mat.care.lo).toNat, .int .i64 (i64of (rdRl s).1.act.kind), .int .i64 (i64of (rdRl s).1.act.port), .int .i64 (i64of (rdRl s).1.act.table), .int .u64 ((rdRl s).1.act.set.value.hi).toNat, .int .u64 ((rdRl s).1.act.set.value.lo).toNat, .int .u64 ((rdRl s).1.act.set.care.hi).toNat, .int .u64 ((rdRl s).1.act.set.care.lo).toNat]) ∧ RirAt w' X (rdRl s).2 q p ∧ Kp (Two q p) w w' := by
  simpa only [rdRl] using rir_rule0 w X s q p h
end Go.Proofs.Ytpaldbejnbcokaa
