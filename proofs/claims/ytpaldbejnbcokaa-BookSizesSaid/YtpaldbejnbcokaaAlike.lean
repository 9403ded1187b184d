/- Contract of package customhouselaw21's alike: two letters compared. -/
import Derived.Test.YtpaldbejnbcokaaSame
namespace Go.Proofs.Ytpaldbejnbcokaa
open Go.RowKit
set_option linter.unusedSimpArgs false
set_option linter.unusedVariables false

set_option maxRecDepth 100000 in
set_option maxHeartbeats 4000000 in
theorem lw_alike (w : World) (F G : Nat → Prop) (l m : Lt) (v u : Value) (hv : SliceAt rlR.slice w F l.tables v) (hu : SliceAt rlR.slice w G m.tables u) :
    Calls Try.prog 22 #[.agg #[.int .i64 (i64of l.kind), .int .i64 (i64of l.fro), .int .i64 (i64of l.to), .int .i64 (i64of l.version), .int .i64 (i64of l.serial), v], .agg #[.int .i64 (i64of m.kind), .int .i64 (i64of m.fro), .int .i64 (i64of m.to), .int .i64 (i64of m.version), .int .i64 (i64of m.serial), u]] w fun e w' => SameOut w w' (l = m) e := by
  obtain ⟨A1, n1, k1, rfl, HA1, hbA1, hcA1⟩ := hv.form'
  obtain ⟨B1, m1, l1, rfl, HB1, hbB1, hcB1⟩ := hu.form'
  have hT0 : (i64of l.kind = i64of m.kind) = (l.kind = m.kind) := i64of_eq _ _
  generalize i64of l.kind = T0 at hT0 ⊢
  generalize i64of m.kind = S0 at hT0 ⊢
  have HT0 := Lib.hid hT0
  clear hT0
  have hT1 : (i64of l.fro = i64of m.fro) = (l.fro = m.fro) := i64of_eq _ _
  generalize i64of l.fro = T1 at hT1 ⊢
  generalize i64of m.fro = S1 at hT1 ⊢
  have HT1 := Lib.hid hT1
  clear hT1
  have hT2 : (i64of l.to = i64of m.to) = (l.to = m.to) := i64of_eq _ _
  generalize i64of l.to = T2 at hT2 ⊢
  generalize i64of m.to = S2 at hT2 ⊢
  have HT2 := Lib.hid hT2
  clear hT2
  have hT3 : (i64of l.version = i64of m.version) = (l.version = m.version) := i64of_eq _ _
  generalize i64of l.version = T3 at hT3 ⊢
  generalize i64of m.version = S3 at hT3 ⊢
  have HT3 := Lib.hid hT3
  clear hT3
  have hT4 : (i64of l.serial = i64of m.serial) = (l.serial = m.serial) := i64of_eq _ _
  generalize i64of l.serial = T4 at hT4 ⊢
  generalize i64of m.serial = S4 at hT4 ⊢
  have HT4 := Lib.hid hT4
  clear hT4
  obtain ⟨wx, hwx⟩ : ∃ wx, wx = (w.alloc (.cells #[.int .i64 T0, .int .i64 T1, .int .i64 T2, .int .i64 T3, .int .i64 T4, .slice A1 n1 k1] 46)).alloc (.cells #[.int .i64 S0, .int .i64 S1, .int .i64 S2, .int .i64 S3, .int .i64 S4, .slice B1 m1 l1] 46) := ⟨_, rfl⟩
  have hk0 : Kp No w wx := by rw [hwx]; exact ((Kp.refl No w).alloc _).alloc _
  obtain ⟨q, hq⟩ : ∃ q, q = w.heap.size := ⟨_, rfl⟩
  have r1 : wx.heap[q]? = some (.cells #[.int .i64 T0, .int .i64 T1, .int .i64 T2, .int .i64 T3, .int .i64 T4, .slice A1 n1 k1] 46 (0, 0)) := by rw [hwx, hq]; exact ((Kp.refl No _).alloc _).heap (heap_alloc_new w _) id
  have r2 : wx.heap[q + 1]? = some (.cells #[.int .i64 S0, .int .i64 S1, .int .i64 S2, .int .i64 S3, .int .i64 S4, .slice B1 m1 l1] 46 (0, 0)) := by
    have := heap_alloc_new (w.alloc (.cells #[.int .i64 T0, .int .i64 T1, .int .i64 T2, .int .i64 T3, .int .i64 T4, .slice A1 n1 k1] 46)) (.cells #[.int .i64 S0, .int .i64 S1, .int .i64 S2, .int .i64 S3, .int .i64 S4, .slice B1 m1 l1] 46)
    rw [alloc_size, ← hq] at this
    rw [hwx]; exact this
  have a0 : wx.cell? ⟨q, 0, none⟩ = some (.int .i64 T0) := cell_of_row _ _ 0 _ _ _ r1
  have a1 : wx.cell? ⟨q, 1, none⟩ = some (.int .i64 T1) := cell_of_row _ _ 1 _ _ _ r1
  have a2 : wx.cell? ⟨q, 2, none⟩ = some (.int .i64 T2) := cell_of_row _ _ 2 _ _ _ r1
  have a3 : wx.cell? ⟨q, 3, none⟩ = some (.int .i64 T3) := cell_of_row _ _ 3 _ _ _ r1
  have a4 : wx.cell? ⟨q, 4, none⟩ = some (.int .i64 T4) := cell_of_row _ _ 4 _ _ _ r1
  have a5 : wx.cell? ⟨q, 5, none⟩ = some (.slice A1 n1 k1) := cell_of_row _ _ 5 _ _ _ r1
  have af : ∀ o, wx.frozen? ⟨q, o, none⟩ = false := fun o => frz_of_row _ _ o _ _ r1
  have b0 : wx.cell? ⟨q + 1, 0, none⟩ = some (.int .i64 S0) := cell_of_row _ _ 0 _ _ _ r2
  have b1 : wx.cell? ⟨q + 1, 1, none⟩ = some (.int .i64 S1) := cell_of_row _ _ 1 _ _ _ r2
  have b2 : wx.cell? ⟨q + 1, 2, none⟩ = some (.int .i64 S2) := cell_of_row _ _ 2 _ _ _ r2
  have b3 : wx.cell? ⟨q + 1, 3, none⟩ = some (.int .i64 S3) := cell_of_row _ _ 3 _ _ _ r2
  have b4 : wx.cell? ⟨q + 1, 4, none⟩ = some (.int .i64 S4) := cell_of_row _ _ 4 _ _ _ r2
  have b5 : wx.cell? ⟨q + 1, 5, none⟩ = some (.slice B1 m1 l1) := cell_of_row _ _ 5 _ _ _ r2
  have bf : ∀ o, wx.frozen? ⟨q + 1, o, none⟩ = false := fun o => frz_of_row _ _ o _ _ r2
  have Hv := Lib.hid (hv.kp hk0 (fun _ _ => id))
  have Hu := Lib.hid (hu.kp hk0 (fun _ _ => id))
  have Hk0 := Lib.hid hk0
  have Hwx := Lib.hid hwx
  have Hq := Lib.hid hq
  clear hv hu hk0 hwx hq r1 r2 af bf
  go_enter Try.func22, Try.ntmps22
  go_upto_region 1 with (fail)
  rw [← Hwx.out, ← Hq.out]
  by_cases d0 : T0 = S0
  rotate_left
  · have e0 : (T0 == S0) = false := by simpa using d0
    have Hne := Lib.hid (show ¬ l = m from fun h => d0 (HT0.out.mpr (by rw [h])))
    go_wp2_with fail
    go_ret
    exact ⟨false, rfl, ⟨(fun h => by cases h), fun h => (Hne.out h).elim⟩, Hk0.out⟩
  have E0 := Lib.hid (HT0.out.mp d0)
  subst d0
  by_cases d1 : T1 = S1
  rotate_left
  · have e1 : (T1 == S1) = false := by simpa using d1
    have Hne := Lib.hid (show ¬ l = m from fun h => d1 (HT1.out.mpr (by rw [h])))
    go_wp2_with fail
    go_ret
    exact ⟨false, rfl, ⟨(fun h => by cases h), fun h => (Hne.out h).elim⟩, Hk0.out⟩
  have E1 := Lib.hid (HT1.out.mp d1)
  subst d1
  by_cases d2 : T2 = S2
  rotate_left
  · have e2 : (T2 == S2) = false := by simpa using d2
    have Hne := Lib.hid (show ¬ l = m from fun h => d2 (HT2.out.mpr (by rw [h])))
    go_wp2_with fail
    go_ret
    exact ⟨false, rfl, ⟨(fun h => by cases h), fun h => (Hne.out h).elim⟩, Hk0.out⟩
  have E2 := Lib.hid (HT2.out.mp d2)
  subst d2
  by_cases d3 : T3 = S3
  rotate_left
  · have e3 : (T3 == S3) = false := by simpa using d3
    have Hne := Lib.hid (show ¬ l = m from fun h => d3 (HT3.out.mpr (by rw [h])))
    go_wp2_with fail
    go_ret
    exact ⟨false, rfl, ⟨(fun h => by cases h), fun h => (Hne.out h).elim⟩, Hk0.out⟩
  have E3 := Lib.hid (HT3.out.mp d3)
  subst d3
  by_cases d4 : T4 = S4
  rotate_left
  · have e4 : (T4 == S4) = false := by simpa using d4
    have Hne := Lib.hid (show ¬ l = m from fun h => d4 (HT4.out.mpr (by rw [h])))
    go_wp2_with fail
    go_ret
    exact ⟨false, rfl, ⟨(fun h => by cases h), fun h => (Hne.out h).elim⟩, Hk0.out⟩
  have E4 := Lib.hid (HT4.out.mp d4)
  subst d4
  go_wp2_with fail
  refine (ref_Rules _ F G _ _ _ _ Hv.out Hu.out).mono ?_
  rintro e w2 ⟨b, rfl, hb, hk⟩
  have Hb := Lib.hid hb
  have Hk := Lib.hid hk
  clear hb hk
  go_wp2_with fail
  go_ret
  refine ⟨b, rfl, ⟨fun e => ?_, fun h => Hb.out.2 (by rw [h])⟩, Hk0.out.trans Hk.out⟩
  have g5 := Hb.out.1 e
  have g0 := E0.out
  have g1 := E1.out
  have g2 := E2.out
  have g3 := E3.out
  have g4 := E4.out
  cases l
  cases m
  simp only at g0 g1 g2 g3 g4 g5
  subst g0 g1 g2 g3 g4 g5
  rfl
end Go.Proofs.Ytpaldbejnbcokaa
