/- Contracts of package wire: the reader's config, letter, entry. -/
import Derived.Test.YtpaldbejnbcokaaRirL
namespace Go.Proofs.Ytpaldbejnbcokaa
open Go.RowKit
set_option linter.unusedSimpArgs false
set_option linter.unusedVariables false

def TwoB (q p B : Nat) : Nat → Prop := fun g => Two q p g ∨ g = B
theorem twoB_off {q p B : Nat} (hq : q < B) (hp : p < B) : ∀ b, From (B + 1) b → ¬ TwoB q p B b := by
  intro b hb h
  unfold From at hb
  rcases h with (h | h) | h <;> omega
theorem rdN_w1 (s : RS) : (rdN RS.word 1 s).1 = [s.word.1] := by rw [rdN, rdN]; rfl
theorem rdN_s1 (s : RS) : (rdN RS.word 1 s).2 = s.word.2 := by rw [rdN, rdN]
theorem rdN_s3 (s : RS) : (rdN RS.word 3 s).2 = s.word.2.word.2.word.2 := by rw [rdN, rdN, rdN, rdN]
theorem rdN_s5 (s : RS) : (rdN RS.word 5 s).2 = rd5 s := by rw [rdN, rdN, rdN, rdN, rdN, rdN]; rfl
theorem mkPr_2 {α β : Type} (a : α) (b : β) : (Prod.mk a b).2 = b := rfl
theorem mkCfg_1 (a : List (List Pt)) (b : UInt64) (c : List Pr) (d : List Wy) (e : List (List (List Rl))) (f : RS) : (Prod.mk (Cfg.mk a b c d e) f).1.ports = a := rfl
theorem mkCfg_2 (a : List (List Pt)) (b : UInt64) (c : List Pr) (d : List Wy) (e : List (List (List Rl))) (f : RS) : (Prod.mk (Cfg.mk a b c d e) f).1.tenants = b := rfl
theorem mkCfg_3 (a : List (List Pt)) (b : UInt64) (c : List Pr) (d : List Wy) (e : List (List (List Rl))) (f : RS) : (Prod.mk (Cfg.mk a b c d e) f).1.peers = c := rfl
theorem mkCfg_4 (a : List (List Pt)) (b : UInt64) (c : List Pr) (d : List Wy) (e : List (List (List Rl))) (f : RS) : (Prod.mk (Cfg.mk a b c d e) f).1.ways = d := rfl
theorem mkCfg_5 (a : List (List Pt)) (b : UInt64) (c : List Pr) (d : List Wy) (e : List (List (List Rl))) (f : RS) : (Prod.mk (Cfg.mk a b c d e) f).1.tables = e := rfl
theorem rdCfg_1 (s : RS) : (rdCfg s).1.ports = (rdList rdPorts s).1 := by
  unfold rdCfg
  exact mkCfg_1 _ _ _ _ _ _
theorem rdCfg_2 (s : RS) : (rdCfg s).1.tenants = (rdList rdPorts s).2.word.1 := by
  unfold rdCfg
  exact mkCfg_2 _ _ _ _ _ _
theorem rdCfg_3 (s : RS) : (rdCfg s).1.peers = (rdList rdPr (rdList rdPorts s).2.word.2).1 := by
  unfold rdCfg
  exact mkCfg_3 _ _ _ _ _ _
theorem rdCfg_4 (s : RS) : (rdCfg s).1.ways = (rdList rdWy (rdList rdPr (rdList rdPorts s).2.word.2).2).1 := by
  unfold rdCfg
  exact mkCfg_4 _ _ _ _ _ _
theorem rdCfg_5 (s : RS) : (rdCfg s).1.tables = (rdList rdTables (rdList rdWy (rdList rdPr (rdList rdPorts s).2.word.2).2).2).1 := by
  unfold rdCfg
  exact mkCfg_5 _ _ _ _ _ _
theorem rdCfg_6 (s : RS) : (rdCfg s).2 = (rdList rdTables (rdList rdWy (rdList rdPr (rdList rdPorts s).2.word.2).2).2).2 := by
  unfold rdCfg
  exact mkPr_2 _ _
theorem rdN_w5 (s : RS) : (rdN RS.word 5 s).1 = [s.word.1, s.word.2.word.1, s.word.2.word.2.word.1, s.word.2.word.2.word.2.word.1, s.word.2.word.2.word.2.word.2.word.1] := by rw [rdN, rdN, rdN, rdN, rdN, rdN]; rfl


set_option maxHeartbeats 1000000 in
theorem rir_config (w : World) (X : Nat → Prop) (s : RS) (q p : Nat) (h : RirAt w X s q p) :
    Calls Try.prog 40 #[.pointer (some ⟨q, 0, none⟩)] w fun e w' => ∃ v1 v2 v3 v4, e = .returned (.agg #[v1, .int .i64 (i64of (rdCfg s).1.tenants), v2, v3, v4]) ∧ SliceAt ptR.slice w' (From w.heap.size) (rdCfg s).1.ports v1 ∧ SliceAt prR w' (From w.heap.size) (rdCfg s).1.peers v2 ∧ SliceAt wyR w' (From w.heap.size) (rdCfg s).1.ways v3 ∧ SliceAt rlR.slice.slice w' (From w.heap.size) (rdCfg s).1.tables v4 ∧ RirAt w' X (rdCfg s).2 q p ∧ Kp (Two q p) w w' := by
  simp only [rdCfg_1, rdCfg_2, rdCfg_3, rdCfg_4, rdCfg_5, rdCfg_6]
  obtain ⟨hq, hp, hpq⟩ := h.lt
  have H := Lib.hid h
  have HX := Lib.hid h.off
  have HO := Lib.hid (twoB_off hq hp)
  have HXB := Lib.hid (show ¬ X w.heap.size from fun hx => h.off _ hx (Nat.le_refl _))
  have hwx := alloc_size w (.cells #[.slice none 0 0, .int .i64 0, .slice none 0 0, .slice none 0 0, .slice none 0 0] 31)
  have Hwx := Lib.hid hwx
  clear h hpq hwx
  go_enter Try.func40, Try.ntmps40
  go_wp2_with fail
  refine (rir_list_ports _ X s q p (H.out.kp (S := From w.heap.size) (by repeat (first | with_reducible exact Kp.refl _ _ | with_reducible refine Kp.alloc ?_ _ | with_reducible refine Kp.drew ?_ | with_reducible refine Kp.drewN ?_ _ | with_reducible refine Kp.setRow ?_ (from_le (by first | exact Nat.le_refl _ | omega)) _ | with_reducible refine Kp.setCell ?_ (Or.inl (from_le (by first | (dsimp only; omega) | omega | (simp; omega) | (simp; done)))) _)) HX.out)).mono ?_
  rintro e w1 ⟨v1, rfl, hs1, h1, hk1⟩
  obtain ⟨A1, n1, k1, rfl, _, _, _⟩ := hs1.form'
  have r1 := hk1.heap (heap_alloc_new w _) (by unfold Two; omega)
  rw [Hwx.out] at hs1
  have Hs1 := Lib.hid hs1
  have Hk1 := Lib.hid (hk1.mono (S' := TwoB q p w.heap.size) fun _ _ h => .inl h)
  have H1 := Lib.hid h1
  have c0 : w1.cell? ⟨w.heap.size, 0, none⟩ = some (.slice none 0 0) := cell_of_row _ _ 0 _ _ _ r1
  have c1 : w1.cell? ⟨w.heap.size, 1, none⟩ = some (.int .i64 0) := cell_of_row _ _ 1 _ _ _ r1
  have c2 : w1.cell? ⟨w.heap.size, 2, none⟩ = some (.slice none 0 0) := cell_of_row _ _ 2 _ _ _ r1
  have c3 : w1.cell? ⟨w.heap.size, 3, none⟩ = some (.slice none 0 0) := cell_of_row _ _ 3 _ _ _ r1
  have c4 : w1.cell? ⟨w.heap.size, 4, none⟩ = some (.slice none 0 0) := cell_of_row _ _ 4 _ _ _ r1
  have cf : ∀ o, w1.frozen? ⟨w.heap.size, o, none⟩ = false := fun o => frz_of_row _ _ o _ _ r1
  have z1 : w.heap.size < w1.heap.size := (Array.getElem?_eq_some_iff.1 r1).1
  have R1 := Lib.hid r1
  clear hs1 hk1 h1 r1
  go_wp2_with fail
  have r2 := heap_setCell_same _ _ 0 _ _ (.slice A1 n1 k1) R1.out
  simp only [List.setIfInBounds_toArray, List.set_cons_zero, List.set_cons_succ] at r2
  refine (rir_nums_lit _ X _ q p w.heap.size [1] _ _ _ _ _ (by simp [World.setCell]) rfl rfl (H1.out.kp (S := From w.heap.size) (by repeat (first | with_reducible exact Kp.refl _ _ | with_reducible refine Kp.alloc ?_ _ | with_reducible refine Kp.drew ?_ | with_reducible refine Kp.drewN ?_ _ | with_reducible refine Kp.setRow ?_ (from_le (by first | exact Nat.le_refl _ | omega)) _ | with_reducible refine Kp.setCell ?_ (Or.inl (from_le (by first | (dsimp only; omega) | omega | (simp; omega) | (simp; done)))) _)) HX.out) r2 HXB.out (by simp) (by simp)).mono ?_
  rintro e w2 ⟨rfl, h2, r3, hk2⟩
  simp only [List.length_cons, List.length_nil, Nat.reduceAdd, rdN_s1] at h2
  simp only [List.length_cons, List.length_nil, Nat.reduceAdd, rdN_w1, List.zip_cons_cons, List.zip_nil_left, setW, List.foldl_cons, List.foldl_nil, List.setIfInBounds_toArray, List.set_cons_zero, List.set_cons_succ] at r3
  have Kx2 := Lib.hid ((show Kp (TwoB q p w.heap.size) w1 _ from ((Kp.refl _ _).setCell (.inl (.inr rfl)) _)).trans hk2)
  have Hk2 := Lib.hid (Hk1.out.trans Kx2.out)
  have Hs1 := Lib.hid (Hs1.out.kp Kx2.out HO.out)
  have H2 := Lib.hid h2
  have z2 : w.heap.size < w2.heap.size := (Array.getElem?_eq_some_iff.1 r3).1
  have R2 := Lib.hid r3
  clear h2 hk2 r2 r3 c0 c1 c2 c3 c4 cf
  go_wp2_with fail
  refine (rir_list_peer _ X _ q p H2.out).mono ?_
  rintro e w3 ⟨v2, rfl, hs, hr, hk⟩
  obtain ⟨A2, n2, k2, rfl, _, _, _⟩ := hs.form'
  have r := hk.heap R2.out (by unfold Two; omega)
  have Hs2 := Lib.hid (hs.mono (F' := From (w.heap.size + 1)) fun b _ hb => by unfold From at *; (try simp [World.setCell] at hb); omega)
  have Kx3 := Lib.hid ((Kp.refl (TwoB q p w.heap.size) w2).trans (hk.mono (S' := TwoB q p w.heap.size) fun _ _ h => .inl h))
  have Hk3 := Lib.hid (Hk2.out.trans Kx3.out)
  have Hs1 := Lib.hid (Hs1.out.kp Kx3.out HO.out)
  have H3 := Lib.hid hr
  have c0 : w3.cell? ⟨w.heap.size, 0, none⟩ = some (.slice A1 n1 k1) := cell_of_row _ _ 0 _ _ _ r
  have c1 : w3.cell? ⟨w.heap.size, 1, none⟩ = some (.int .i64 (i64of (rdList rdPorts s).2.word.1)) := cell_of_row _ _ 1 _ _ _ r
  have c2 : w3.cell? ⟨w.heap.size, 2, none⟩ = some (.slice none 0 0) := cell_of_row _ _ 2 _ _ _ r
  have c3 : w3.cell? ⟨w.heap.size, 3, none⟩ = some (.slice none 0 0) := cell_of_row _ _ 3 _ _ _ r
  have c4 : w3.cell? ⟨w.heap.size, 4, none⟩ = some (.slice none 0 0) := cell_of_row _ _ 4 _ _ _ r
  have cf : ∀ o, w3.frozen? ⟨w.heap.size, o, none⟩ = false := fun o => frz_of_row _ _ o _ _ r
  have z3 : w.heap.size < w3.heap.size := (Array.getElem?_eq_some_iff.1 r).1
  have R3 := Lib.hid r
  clear hs hr hk r
  go_wp2_with fail
  have q3 := heap_setCell_same _ _ 2 _ _ (.slice A2 n2 k2) R3.out
  simp only [List.setIfInBounds_toArray, List.set_cons_zero, List.set_cons_succ] at q3
  refine (rir_list_way _ X _ q p (H3.out.kp (S := From w.heap.size) (by repeat (first | with_reducible exact Kp.refl _ _ | with_reducible refine Kp.alloc ?_ _ | with_reducible refine Kp.drew ?_ | with_reducible refine Kp.drewN ?_ _ | with_reducible refine Kp.setRow ?_ (from_le (by first | exact Nat.le_refl _ | omega)) _ | with_reducible refine Kp.setCell ?_ (Or.inl (from_le (by first | (dsimp only; omega) | omega | (simp; omega) | (simp; done)))) _)) HX.out)).mono ?_
  rintro e w4 ⟨v3, rfl, hs, hr, hk⟩
  obtain ⟨A3, n3, k3, rfl, _, _, _⟩ := hs.form'
  have r := hk.heap (q3) (by unfold Two; omega)
  have Hs3 := Lib.hid (hs.mono (F' := From (w.heap.size + 1)) fun b _ hb => by unfold From at *; (try simp [World.setCell] at hb); omega)
  have Kx4 := Lib.hid ((show Kp (TwoB q p w.heap.size) w3 _ from ((Kp.refl _ _).setCell (.inl (.inr rfl)) _)).trans (hk.mono (S' := TwoB q p w.heap.size) fun _ _ h => .inl h))
  have Hk4 := Lib.hid (Hk3.out.trans Kx4.out)
  have Hs1 := Lib.hid (Hs1.out.kp Kx4.out HO.out)
  have Hs2 := Lib.hid (Hs2.out.kp Kx4.out HO.out)
  have H4 := Lib.hid hr
  clear c0 c1 c2 c3 c4 cf
  have c0 : w4.cell? ⟨w.heap.size, 0, none⟩ = some (.slice A1 n1 k1) := cell_of_row _ _ 0 _ _ _ r
  have c1 : w4.cell? ⟨w.heap.size, 1, none⟩ = some (.int .i64 (i64of (rdList rdPorts s).2.word.1)) := cell_of_row _ _ 1 _ _ _ r
  have c2 : w4.cell? ⟨w.heap.size, 2, none⟩ = some (.slice A2 n2 k2) := cell_of_row _ _ 2 _ _ _ r
  have c3 : w4.cell? ⟨w.heap.size, 3, none⟩ = some (.slice none 0 0) := cell_of_row _ _ 3 _ _ _ r
  have c4 : w4.cell? ⟨w.heap.size, 4, none⟩ = some (.slice none 0 0) := cell_of_row _ _ 4 _ _ _ r
  have cf : ∀ o, w4.frozen? ⟨w.heap.size, o, none⟩ = false := fun o => frz_of_row _ _ o _ _ r
  have z4 : w.heap.size < w4.heap.size := (Array.getElem?_eq_some_iff.1 r).1
  have R4 := Lib.hid r
  clear hs hr hk r q3
  go_wp2_with fail
  have q4 := heap_setCell_same _ _ 3 _ _ (.slice A3 n3 k3) R4.out
  simp only [List.setIfInBounds_toArray, List.set_cons_zero, List.set_cons_succ] at q4
  refine (rir_list_tables _ X _ q p (H4.out.kp (S := From w.heap.size) (by repeat (first | with_reducible exact Kp.refl _ _ | with_reducible refine Kp.alloc ?_ _ | with_reducible refine Kp.drew ?_ | with_reducible refine Kp.drewN ?_ _ | with_reducible refine Kp.setRow ?_ (from_le (by first | exact Nat.le_refl _ | omega)) _ | with_reducible refine Kp.setCell ?_ (Or.inl (from_le (by first | (dsimp only; omega) | omega | (simp; omega) | (simp; done)))) _)) HX.out)).mono ?_
  rintro e w5 ⟨v4, rfl, hs, hr, hk⟩
  obtain ⟨A4, n4, k4, rfl, _, _, _⟩ := hs.form'
  have r := hk.heap (q4) (by unfold Two; omega)
  have Hs4 := Lib.hid (hs.mono (F' := From (w.heap.size + 1)) fun b _ hb => by unfold From at *; (try simp [World.setCell] at hb); omega)
  have Kx5 := Lib.hid ((show Kp (TwoB q p w.heap.size) w4 _ from ((Kp.refl _ _).setCell (.inl (.inr rfl)) _)).trans (hk.mono (S' := TwoB q p w.heap.size) fun _ _ h => .inl h))
  have Hk5 := Lib.hid (Hk4.out.trans Kx5.out)
  have Hs1 := Lib.hid (Hs1.out.kp Kx5.out HO.out)
  have Hs2 := Lib.hid (Hs2.out.kp Kx5.out HO.out)
  have Hs3 := Lib.hid (Hs3.out.kp Kx5.out HO.out)
  have H5 := Lib.hid hr
  clear c0 c1 c2 c3 c4 cf
  have c0 : w5.cell? ⟨w.heap.size, 0, none⟩ = some (.slice A1 n1 k1) := cell_of_row _ _ 0 _ _ _ r
  have c1 : w5.cell? ⟨w.heap.size, 1, none⟩ = some (.int .i64 (i64of (rdList rdPorts s).2.word.1)) := cell_of_row _ _ 1 _ _ _ r
  have c2 : w5.cell? ⟨w.heap.size, 2, none⟩ = some (.slice A2 n2 k2) := cell_of_row _ _ 2 _ _ _ r
  have c3 : w5.cell? ⟨w.heap.size, 3, none⟩ = some (.slice A3 n3 k3) := cell_of_row _ _ 3 _ _ _ r
  have c4 : w5.cell? ⟨w.heap.size, 4, none⟩ = some (.slice none 0 0) := cell_of_row _ _ 4 _ _ _ r
  have cf : ∀ o, w5.frozen? ⟨w.heap.size, o, none⟩ = false := fun o => frz_of_row _ _ o _ _ r
  have z5 : w.heap.size < w5.heap.size := (Array.getElem?_eq_some_iff.1 r).1
  have R5 := Lib.hid r
  clear hs hr hk r q4
  go_wp2_with fail
  have fin : Kp (TwoB q p w.heap.size) w5 ((((((w5.setCell ⟨w.heap.size, 4, none⟩ (.slice A4 n4 k4)).setCell ⟨w.heap.size, 0, none⟩ (.slice A1 n1 k1)).setCell ⟨w.heap.size, 1, none⟩ (.int .i64 (i64of (rdList rdPorts s).2.word.1))).setCell ⟨w.heap.size, 2, none⟩ (.slice A2 n2 k2)).setCell ⟨w.heap.size, 3, none⟩ (.slice A3 n3 k3)).setCell ⟨w.heap.size, 4, none⟩ (.slice A4 n4 k4)) := by repeat (first | with_reducible exact Kp.refl _ _ | with_reducible refine Kp.setCell ?_ (Or.inl (Or.inr (by dsimp only))) _)
  have up : ∀ b, From (w.heap.size + 1) b → From w.heap.size b := fun b hb => Nat.le_trans (Nat.le_succ _) hb
  refine bodyPost_ret (v := .agg #[.slice A1 n1 k1, .int .i64 (i64of (rdList rdPorts s).2.word.1), .slice A2 n2 k2, .slice A3 n3 k3, .slice A4 n4 k4]) ?_ rfl ⟨_, _, _, _, rfl, (Hs1.out.kp fin HO.out).mono fun b _ => up b, (Hs2.out.kp fin HO.out).mono fun b _ => up b, (Hs3.out.kp fin HO.out).mono fun b _ => up b, (Hs4.out.kp fin HO.out).mono fun b _ => up b, H5.out.kp (S := From w.heap.size) (by repeat (first | with_reducible exact Kp.refl _ _ | with_reducible refine Kp.alloc ?_ _ | with_reducible refine Kp.drew ?_ | with_reducible refine Kp.drewN ?_ _ | with_reducible refine Kp.setRow ?_ (from_le (by first | exact Nat.le_refl _ | omega)) _ | with_reducible refine Kp.setCell ?_ (Or.inl (from_le (by first | (dsimp only; omega) | omega | (simp; omega) | (simp; done)))) _)) HX.out, (((Kp.fr (S := Two q p) (show Kp (From w.heap.size) w (w.alloc _) from (by repeat (first | with_reducible exact Kp.refl _ _ | with_reducible refine Kp.alloc ?_ _ | with_reducible refine Kp.drew ?_ | with_reducible refine Kp.drewN ?_ _ | with_reducible refine Kp.setRow ?_ (from_le (by first | exact Nat.le_refl _ | omega)) _ | with_reducible refine Kp.setCell ?_ (Or.inl (from_le (by first | (dsimp only; omega) | omega | (simp; omega) | (simp; done)))) _)))).trans (Hk5.out.orb (Nat.le_refl _))).trans (Kp.orb fin (Nat.le_refl _))).unfresh⟩
  simp [results, Try.results40, go_sem, c0, c1, c2, c3, c4]

theorem mkLt_1 (a b c d e : UInt64) (f : List (List Rl)) (g : RS) : (Prod.mk (Lt.mk a b c d e f) g).1.kind = a := rfl
theorem mkLt_2 (a b c d e : UInt64) (f : List (List Rl)) (g : RS) : (Prod.mk (Lt.mk a b c d e f) g).1.fro = b := rfl
theorem mkLt_3 (a b c d e : UInt64) (f : List (List Rl)) (g : RS) : (Prod.mk (Lt.mk a b c d e f) g).1.to = c := rfl
theorem mkLt_4 (a b c d e : UInt64) (f : List (List Rl)) (g : RS) : (Prod.mk (Lt.mk a b c d e f) g).1.version = d := rfl
theorem mkLt_5 (a b c d e : UInt64) (f : List (List Rl)) (g : RS) : (Prod.mk (Lt.mk a b c d e f) g).1.serial = e := rfl
theorem mkLt_6 (a b c d e : UInt64) (f : List (List Rl)) (g : RS) : (Prod.mk (Lt.mk a b c d e f) g).1.tables = f := rfl
theorem rdLt_1 (s : RS) : (rdLt s).1.kind = s.word.1 := by
  unfold rdLt
  exact mkLt_1 _ _ _ _ _ _ _
theorem rdLt_2 (s : RS) : (rdLt s).1.fro = s.word.2.word.1 := by
  unfold rdLt
  exact mkLt_2 _ _ _ _ _ _ _
theorem rdLt_3 (s : RS) : (rdLt s).1.to = s.word.2.word.2.word.1 := by
  unfold rdLt
  exact mkLt_3 _ _ _ _ _ _ _
theorem rdLt_4 (s : RS) : (rdLt s).1.version = s.word.2.word.2.word.2.word.1 := by
  unfold rdLt
  exact mkLt_4 _ _ _ _ _ _ _
theorem rdLt_5 (s : RS) : (rdLt s).1.serial = s.word.2.word.2.word.2.word.2.word.1 := by
  unfold rdLt
  exact mkLt_5 _ _ _ _ _ _ _
theorem rdLt_6 (s : RS) : (rdLt s).1.tables = (rdTables (rd5 s)).1 := by
  unfold rdLt
  exact mkLt_6 _ _ _ _ _ _ _
theorem rdLt_7 (s : RS) : (rdLt s).2 = (rdTables (rd5 s)).2 := by
  unfold rdLt
  exact mkPr_2 _ _
theorem mkEn_1 (a b c : UInt64) (f : Cfg) (g : RS) : (Prod.mk (En.mk a b c f) g).1.kind = a := rfl
theorem mkEn_2 (a b c : UInt64) (f : Cfg) (g : RS) : (Prod.mk (En.mk a b c f) g).1.version = b := rfl
theorem mkEn_3 (a b c : UInt64) (f : Cfg) (g : RS) : (Prod.mk (En.mk a b c f) g).1.serial = c := rfl
theorem mkEn_4 (a b c : UInt64) (f : Cfg) (g : RS) : (Prod.mk (En.mk a b c f) g).1.cfg = f := rfl
theorem rdEn_1 (s : RS) : (rdEn s).1.kind = s.word.1 := by
  unfold rdEn
  exact mkEn_1 _ _ _ _ _
theorem rdEn_2 (s : RS) : (rdEn s).1.version = s.word.2.word.1 := by
  unfold rdEn
  exact mkEn_2 _ _ _ _ _
theorem rdEn_3 (s : RS) : (rdEn s).1.serial = s.word.2.word.2.word.1 := by
  unfold rdEn
  exact mkEn_3 _ _ _ _ _
theorem rdEn_4 (s : RS) : (rdEn s).1.cfg = (rdCfg (rdAc3 s)).1 := by
  unfold rdEn
  exact mkEn_4 _ _ _ _ _
theorem rdEn_5 (s : RS) : (rdEn s).2 = (rdCfg (rdAc3 s)).2 := by
  unfold rdEn
  exact mkPr_2 _ _
theorem rdN_a3 (s : RS) : (rdN RS.word 3 s).2 = rdAc3 s := by rw [rdN, rdN, rdN, rdN]; rfl
theorem rdN_w3' (s : RS) : (rdN RS.word 3 s).1 = [s.word.1, s.word.2.word.1, s.word.2.word.2.word.1] := by rw [rdN, rdN, rdN, rdN]; rfl


set_option maxHeartbeats 1000000 in
theorem rir_letter (w : World) (X : Nat → Prop) (s : RS) (q p : Nat) (h : RirAt w X s q p) :
    Calls Try.prog 48 #[.pointer (some ⟨q, 0, none⟩)] w fun e w' => ∃ v1, e = .returned (.agg #[.int .i64 (i64of (rdLt s).1.kind), .int .i64 (i64of (rdLt s).1.fro), .int .i64 (i64of (rdLt s).1.to), .int .i64 (i64of (rdLt s).1.version), .int .i64 (i64of (rdLt s).1.serial), v1]) ∧ SliceAt rlR.slice w' (From w.heap.size) (rdLt s).1.tables v1 ∧ RirAt w' X (rdLt s).2 q p ∧ Kp (Two q p) w w' := by
  simp only [rdLt_1, rdLt_2, rdLt_3, rdLt_4, rdLt_5, rdLt_6, rdLt_7]
  obtain ⟨hq, hp, hpq⟩ := h.lt
  have H := Lib.hid h
  have HX := Lib.hid h.off
  have HO := Lib.hid (twoB_off hq hp)
  have HXB := Lib.hid (show ¬ X w.heap.size from fun hx => h.off _ hx (Nat.le_refl _))
  clear h hpq
  go_enter Try.func48, Try.ntmps48
  go_wp2_with fail
  have hx : Kp (From w.heap.size) w (w.alloc (.cells #[.int .i64 0, .int .i64 0, .int .i64 0, .int .i64 0, .int .i64 0, .slice none 0 0] 46)) := (by repeat (first | with_reducible exact Kp.refl _ _ | with_reducible refine Kp.alloc ?_ _ | with_reducible refine Kp.drew ?_ | with_reducible refine Kp.drewN ?_ _ | with_reducible refine Kp.setRow ?_ (from_le (by first | exact Nat.le_refl _ | omega)) _ | with_reducible refine Kp.setCell ?_ (Or.inl (from_le (by first | (dsimp only; omega) | omega | (simp; omega) | (simp; done)))) _))
  refine (rir_nums_lit _ X s q p w.heap.size [0, 1, 2, 3, 4] _ _ _ _ _ (alloc_size _ _).symm rfl rfl (H.out.kp hx HX.out) (heap_alloc_new w _) HXB.out (by simp) (by simp)).mono ?_
  rintro e w1 ⟨rfl, h1, hr1, hk1⟩
  simp only [List.length_cons, List.length_nil, Nat.reduceAdd, rdN_s5] at h1
  simp only [List.length_cons, List.length_nil, Nat.reduceAdd, rdN_w5, List.zip_cons_cons, List.zip_nil_left, setW, List.foldl_cons, List.foldl_nil, List.setIfInBounds_toArray, List.set_cons_zero, List.set_cons_succ] at hr1
  have H1 := Lib.hid h1
  have Hk1 := Lib.hid (hx.fr.trans (hk1.orb (Nat.le_refl _)))
  have z1 : w.heap.size < w1.heap.size := (Array.getElem?_eq_some_iff.1 hr1).1
  have R1 := Lib.hid hr1
  clear h1 hk1 hx hr1
  go_wp2_with fail
  refine (rir_tables _ X _ q p H1.out).mono ?_
  rintro e w2 ⟨v1, rfl, hs, h2, hk2⟩
  obtain ⟨A1, n1, k1, rfl, _, _, _⟩ := hs.form'
  have Hs := Lib.hid hs
  clear hs
  have r2 := hk2.heap R1.out (by unfold Two; omega)
  have c0 : w2.cell? ⟨w.heap.size, 0, none⟩ = some (.int .i64 (i64of s.word.1)) := cell_of_row _ _ 0 _ _ _ r2
  have c1 : w2.cell? ⟨w.heap.size, 1, none⟩ = some (.int .i64 (i64of s.word.2.word.1)) := cell_of_row _ _ 1 _ _ _ r2
  have c2 : w2.cell? ⟨w.heap.size, 2, none⟩ = some (.int .i64 (i64of s.word.2.word.2.word.1)) := cell_of_row _ _ 2 _ _ _ r2
  have c3 : w2.cell? ⟨w.heap.size, 3, none⟩ = some (.int .i64 (i64of s.word.2.word.2.word.2.word.1)) := cell_of_row _ _ 3 _ _ _ r2
  have c4 : w2.cell? ⟨w.heap.size, 4, none⟩ = some (.int .i64 (i64of s.word.2.word.2.word.2.word.2.word.1)) := cell_of_row _ _ 4 _ _ _ r2
  have c5 : w2.cell? ⟨w.heap.size, 5, none⟩ = some (.slice none 0 0) := cell_of_row _ _ 5 _ _ _ r2
  have cf : ∀ o, w2.frozen? ⟨w.heap.size, o, none⟩ = false := fun o => frz_of_row _ _ o _ _ r2
  have Hk2 := Lib.hid (Hk1.out.trans hk2.orl)
  have H2 := Lib.hid h2
  have z2 : w.heap.size < w2.heap.size := (Array.getElem?_eq_some_iff.1 r2).1
  have R2 := Lib.hid r2
  clear h2 hk2 r2
  go_wp2_with fail
  have up : ∀ b, From w1.heap.size b → From w.heap.size b := fun b hb => Nat.le_trans (Nat.le_of_lt z1) hb
  have off : ∀ b, From w1.heap.size b → ¬ (fun b => b = w.heap.size) b := fun b hb e => by unfold From at hb; omega
  refine bodyPost_ret (v := .agg #[.int .i64 (i64of s.word.1), .int .i64 (i64of s.word.2.word.1), .int .i64 (i64of s.word.2.word.2.word.1), .int .i64 (i64of s.word.2.word.2.word.2.word.1), .int .i64 (i64of s.word.2.word.2.word.2.word.2.word.1), .slice A1 n1 k1]) ?_ rfl ⟨_, rfl, (Hs.out.kp (show Kp (fun b => b = w.heap.size) w2 _ from (by repeat (first | with_reducible exact Kp.refl _ _ | with_reducible refine Kp.setCell ?_ (Or.inl (by dsimp only)) _))) off).mono fun b _ => up b, H2.out.kp (S := From w.heap.size) (by repeat (first | with_reducible exact Kp.refl _ _ | with_reducible refine Kp.alloc ?_ _ | with_reducible refine Kp.drew ?_ | with_reducible refine Kp.drewN ?_ _ | with_reducible refine Kp.setRow ?_ (from_le (by first | exact Nat.le_refl _ | omega)) _ | with_reducible refine Kp.setCell ?_ (Or.inl (from_le (by first | (dsimp only; omega) | omega | (simp; omega) | (simp; done)))) _)) HX.out, (Hk2.out.trans (Kp.fr (S := Two q p) (show Kp (From w.heap.size) w2 _ from (by repeat (first | with_reducible exact Kp.refl _ _ | with_reducible refine Kp.alloc ?_ _ | with_reducible refine Kp.drew ?_ | with_reducible refine Kp.drewN ?_ _ | with_reducible refine Kp.setRow ?_ (from_le (by first | exact Nat.le_refl _ | omega)) _ | with_reducible refine Kp.setCell ?_ (Or.inl (from_le (by first | (dsimp only; omega) | omega | (simp; omega) | (simp; done)))) _))))).unfresh⟩
  have hg := (heap_setCell_same _ _ 5 _ _ (.slice A1 n1 k1) (heap_setCell_same _ _ 4 _ _ (.int .i64 (i64of s.word.2.word.2.word.2.word.2.word.1)) (heap_setCell_same _ _ 3 _ _ (.int .i64 (i64of s.word.2.word.2.word.2.word.1)) (heap_setCell_same _ _ 2 _ _ (.int .i64 (i64of s.word.2.word.2.word.1)) (heap_setCell_same _ _ 1 _ _ (.int .i64 (i64of s.word.2.word.1)) (heap_setCell_same _ _ 0 _ _ (.int .i64 (i64of s.word.1)) (heap_setCell_same _ _ 5 _ _ (.slice A1 n1 k1) R2.out)))))))
  simp only [List.setIfInBounds_toArray, List.set_cons_zero, List.set_cons_succ] at hg
  exact results_cell_row rfl _ _ _ _ _ _ _ rfl hg Try.underlying46 rfl (by kernel_rfl)


set_option maxHeartbeats 1000000 in
theorem rir_entry (w : World) (X : Nat → Prop) (s : RS) (q p : Nat) (h : RirAt w X s q p) :
    Calls Try.prog 52 #[.pointer (some ⟨q, 0, none⟩)] w fun e w' => ∃ v1 v2 v3 v4, e = .returned (.agg #[.int .i64 (i64of (rdEn s).1.kind), .int .i64 (i64of (rdEn s).1.version), .int .i64 (i64of (rdEn s).1.serial), v1, .int .i64 (i64of (rdEn s).1.cfg.tenants), v2, v3, v4]) ∧ SliceAt ptR.slice w' (From w.heap.size) (rdEn s).1.cfg.ports v1 ∧ SliceAt prR w' (From w.heap.size) (rdEn s).1.cfg.peers v2 ∧ SliceAt wyR w' (From w.heap.size) (rdEn s).1.cfg.ways v3 ∧ SliceAt rlR.slice.slice w' (From w.heap.size) (rdEn s).1.cfg.tables v4 ∧ RirAt w' X (rdEn s).2 q p ∧ Kp (Two q p) w w' := by
  simp only [rdEn_1, rdEn_2, rdEn_3, rdEn_4, rdEn_5]
  obtain ⟨hq, hp, hpq⟩ := h.lt
  have H := Lib.hid h
  have HX := Lib.hid h.off
  have HO := Lib.hid (twoB_off hq hp)
  have HXB := Lib.hid (show ¬ X w.heap.size from fun hx => h.off _ hx (Nat.le_refl _))
  clear h hpq
  go_enter Try.func52, Try.ntmps52
  go_wp2_with fail
  have hx : Kp (From w.heap.size) w (w.alloc (.cells #[.int .i64 0, .int .i64 0, .int .i64 0, .slice none 0 0, .int .i64 0, .slice none 0 0, .slice none 0 0, .slice none 0 0] 57)) := (by repeat (first | with_reducible exact Kp.refl _ _ | with_reducible refine Kp.alloc ?_ _ | with_reducible refine Kp.drew ?_ | with_reducible refine Kp.drewN ?_ _ | with_reducible refine Kp.setRow ?_ (from_le (by first | exact Nat.le_refl _ | omega)) _ | with_reducible refine Kp.setCell ?_ (Or.inl (from_le (by first | (dsimp only; omega) | omega | (simp; omega) | (simp; done)))) _))
  refine (rir_nums_lit _ X s q p w.heap.size [0, 1, 2] _ _ _ _ _ (alloc_size _ _).symm rfl rfl (H.out.kp hx HX.out) (heap_alloc_new w _) HXB.out (by simp) (by simp)).mono ?_
  rintro e w1 ⟨rfl, h1, hr1, hk1⟩
  simp only [List.length_cons, List.length_nil, Nat.reduceAdd, rdN_a3] at h1
  simp only [List.length_cons, List.length_nil, Nat.reduceAdd, rdN_w3', List.zip_cons_cons, List.zip_nil_left, setW, List.foldl_cons, List.foldl_nil, List.setIfInBounds_toArray, List.set_cons_zero, List.set_cons_succ] at hr1
  have H1 := Lib.hid h1
  have Hk1 := Lib.hid (hx.fr.trans (hk1.orb (Nat.le_refl _)))
  have z1 : w.heap.size < w1.heap.size := (Array.getElem?_eq_some_iff.1 hr1).1
  have R1 := Lib.hid hr1
  clear h1 hk1 hx hr1
  go_wp2_with fail
  refine (rir_config _ X _ q p H1.out).mono ?_
  rintro e w2 ⟨v1, v2, v3, v4, rfl, hs1, hs2, hs3, hs4, h2, hk2⟩
  obtain ⟨A1, n1, k1, rfl, _, _, _⟩ := hs1.form'
  obtain ⟨A2, n2, k2, rfl, _, _, _⟩ := hs2.form'
  obtain ⟨A3, n3, k3, rfl, _, _, _⟩ := hs3.form'
  obtain ⟨A4, n4, k4, rfl, _, _, _⟩ := hs4.form'
  have Hs1 := Lib.hid hs1
  have Hs2 := Lib.hid hs2
  have Hs3 := Lib.hid hs3
  have Hs4 := Lib.hid hs4
  clear hs1 hs2 hs3 hs4
  have r2 := hk2.heap R1.out (by unfold Two; omega)
  have c0 : w2.cell? ⟨w.heap.size, 0, none⟩ = some (.int .i64 (i64of s.word.1)) := cell_of_row _ _ 0 _ _ _ r2
  have c1 : w2.cell? ⟨w.heap.size, 1, none⟩ = some (.int .i64 (i64of s.word.2.word.1)) := cell_of_row _ _ 1 _ _ _ r2
  have c2 : w2.cell? ⟨w.heap.size, 2, none⟩ = some (.int .i64 (i64of s.word.2.word.2.word.1)) := cell_of_row _ _ 2 _ _ _ r2
  have c3 : w2.cell? ⟨w.heap.size, 3, none⟩ = some (.slice none 0 0) := cell_of_row _ _ 3 _ _ _ r2
  have c4 : w2.cell? ⟨w.heap.size, 4, none⟩ = some (.int .i64 0) := cell_of_row _ _ 4 _ _ _ r2
  have c5 : w2.cell? ⟨w.heap.size, 5, none⟩ = some (.slice none 0 0) := cell_of_row _ _ 5 _ _ _ r2
  have c6 : w2.cell? ⟨w.heap.size, 6, none⟩ = some (.slice none 0 0) := cell_of_row _ _ 6 _ _ _ r2
  have c7 : w2.cell? ⟨w.heap.size, 7, none⟩ = some (.slice none 0 0) := cell_of_row _ _ 7 _ _ _ r2
  have cf : ∀ o, w2.frozen? ⟨w.heap.size, o, none⟩ = false := fun o => frz_of_row _ _ o _ _ r2
  have Hk2 := Lib.hid (Hk1.out.trans hk2.orl)
  have H2 := Lib.hid h2
  have z2 : w.heap.size < w2.heap.size := (Array.getElem?_eq_some_iff.1 r2).1
  have R2 := Lib.hid r2
  clear h2 hk2 r2
  go_wp2_with fail
  have up : ∀ b, From w1.heap.size b → From w.heap.size b := fun b hb => Nat.le_trans (Nat.le_of_lt z1) hb
  have off : ∀ b, From w1.heap.size b → ¬ (fun b => b = w.heap.size) b := fun b hb e => by unfold From at hb; omega
  refine bodyPost_ret (v := .agg #[.int .i64 (i64of s.word.1), .int .i64 (i64of s.word.2.word.1), .int .i64 (i64of s.word.2.word.2.word.1), .slice A1 n1 k1, .int .i64 (i64of (rdCfg (rdAc3 s)).1.tenants), .slice A2 n2 k2, .slice A3 n3 k3, .slice A4 n4 k4]) ?_ rfl ⟨_, _, _, _, rfl, (Hs1.out.kp (show Kp (fun b => b = w.heap.size) w2 _ from (by repeat (first | with_reducible exact Kp.refl _ _ | with_reducible refine Kp.setCell ?_ (Or.inl (by dsimp only)) _))) off).mono fun b _ => up b, (Hs2.out.kp (show Kp (fun b => b = w.heap.size) w2 _ from (by repeat (first | with_reducible exact Kp.refl _ _ | with_reducible refine Kp.setCell ?_ (Or.inl (by dsimp only)) _))) off).mono fun b _ => up b, (Hs3.out.kp (show Kp (fun b => b = w.heap.size) w2 _ from (by repeat (first | with_reducible exact Kp.refl _ _ | with_reducible refine Kp.setCell ?_ (Or.inl (by dsimp only)) _))) off).mono fun b _ => up b, (Hs4.out.kp (show Kp (fun b => b = w.heap.size) w2 _ from (by repeat (first | with_reducible exact Kp.refl _ _ | with_reducible refine Kp.setCell ?_ (Or.inl (by dsimp only)) _))) off).mono fun b _ => up b, H2.out.kp (S := From w.heap.size) (by repeat (first | with_reducible exact Kp.refl _ _ | with_reducible refine Kp.alloc ?_ _ | with_reducible refine Kp.drew ?_ | with_reducible refine Kp.drewN ?_ _ | with_reducible refine Kp.setRow ?_ (from_le (by first | exact Nat.le_refl _ | omega)) _ | with_reducible refine Kp.setCell ?_ (Or.inl (from_le (by first | (dsimp only; omega) | omega | (simp; omega) | (simp; done)))) _)) HX.out, (Hk2.out.trans (Kp.fr (S := Two q p) (show Kp (From w.heap.size) w2 _ from (by repeat (first | with_reducible exact Kp.refl _ _ | with_reducible refine Kp.alloc ?_ _ | with_reducible refine Kp.drew ?_ | with_reducible refine Kp.drewN ?_ _ | with_reducible refine Kp.setRow ?_ (from_le (by first | exact Nat.le_refl _ | omega)) _ | with_reducible refine Kp.setCell ?_ (Or.inl (from_le (by first | (dsimp only; omega) | omega | (simp; omega) | (simp; done)))) _))))).unfresh⟩
  have hg := (heap_setCell_same _ _ 7 _ _ (.slice A4 n4 k4) (heap_setCell_same _ _ 6 _ _ (.slice A3 n3 k3) (heap_setCell_same _ _ 5 _ _ (.slice A2 n2 k2) (heap_setCell_same _ _ 4 _ _ (.int .i64 (i64of (rdCfg (rdAc3 s)).1.tenants)) (heap_setCell_same _ _ 3 _ _ (.slice A1 n1 k1) (heap_setCell_same _ _ 2 _ _ (.int .i64 (i64of s.word.2.word.2.word.1)) (heap_setCell_same _ _ 1 _ _ (.int .i64 (i64of s.word.2.word.1)) (heap_setCell_same _ _ 0 _ _ (.int .i64 (i64of s.word.1)) (heap_setCell_same _ _ 7 _ _ (.slice A4 n4 k4) (heap_setCell_same _ _ 6 _ _ (.slice A3 n3 k3) (heap_setCell_same _ _ 5 _ _ (.slice A2 n2 k2) (heap_setCell_same _ _ 4 _ _ (.int .i64 (i64of (rdCfg (rdAc3 s)).1.tenants)) (heap_setCell_same _ _ 3 _ _ (.slice A1 n1 k1) R2.out)))))))))))))
  simp only [List.setIfInBounds_toArray, List.set_cons_zero, List.set_cons_succ] at hg
  exact results_cell_row rfl _ _ _ _ _ _ _ rfl hg Try.underlying57 rfl (by kernel_rfl)

end Go.Proofs.Ytpaldbejnbcokaa
