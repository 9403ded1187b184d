/- Contract of package customhouselaw21's awake: it is true. -/
import Derived.Test.YtpaldbejnbcokaaIs
namespace Go.Proofs.Ytpaldbejnbcokaa
open Go.RowKit
set_option linter.unusedSimpArgs false
set_option linter.unusedVariables false

def awakeT : Lt := ⟨3, 0, 3, 0, 0, []⟩
theorem lineC_fit : lineC.fit = true := rfl
theorem awakeT_fit : tablesFit awakeT.tables = true := rfl
theorem lineC_len : (sealW lineC.words).length ≤ 140737488355328 := by
  rw [sealW_len]
  have : lineC.words.length = 79 := rfl
  omega
theorem awakeT_len : (sealW awakeT.words).length = 56 := by
  rw [sealW_len]
  rfl
theorem isLt_awake (w : World) : IsLt w awakeT (.agg #[.int .i64 3, .int .i64 0, .int .i64 3, .int .i64 0, .int .i64 0, .slice none 0 0]) := by
  obtain ⟨h0, _, _, h3⟩ := line_i
  exact ⟨_, by rw [show awakeT.kind = 3 from rfl, show awakeT.fro = 0 from rfl, show awakeT.to = 3 from rfl, show awakeT.version = 0 from rfl, show awakeT.serial = 0 from rfl, h0, h3], SliceAt.nil _ _ _⟩
/-- A value of five cells laid in a block of its own. -/
theorem box_of (w : World) (cs : Array Value) (t : TypeId) : ∃ wx B, wx = w.alloc (.cells cs t) ∧ B = w.heap.size ∧ wx.heap[B]? = some (.cells cs t (0, 0)) ∧ Kp No w wx := ⟨_, _, rfl, rfl, heap_alloc_new w _, (Kp.refl No w).alloc _⟩

set_option maxRecDepth 100000 in
set_option maxHeartbeats 4000000 in
theorem lw_awake (w : World) : Calls Try.prog 17 #[] w fun e w' => e = .returned (.bool true) ∧ Kp No w w' := by
  go_enter Try.func17, Try.ntmps17
  go_wp2_with fail
  refine (c_line w).mono ?_
  rintro e w1 ⟨v, rfl, hc, hk1⟩
  obtain ⟨A1, n1, k1, T, A2, n2, k2, A3, n3, k3, A4, n4, k4, rfl, _⟩ := hc.form
  have Hc := Lib.hid hc
  have Hk1 := Lib.hid hk1
  clear hc hk1
  go_upto_region 2 with (fail)
  obtain ⟨wa, B, hwa, hB, hrow, hka⟩ := box_of w1 #[.slice A1 n1 k1, .int .i64 T, .slice A2 n2 k2, .slice A3 n3 k3, .slice A4 n4 k4] 31
  rw [← hwa, ← hB]
  have a0 : wa.cell? ⟨B, 0, none⟩ = some (.slice A1 n1 k1) := cell_of_row _ _ 0 _ _ _ hrow
  have a1 : wa.cell? ⟨B, 1, none⟩ = some (.int .i64 T) := cell_of_row _ _ 1 _ _ _ hrow
  have a2 : wa.cell? ⟨B, 2, none⟩ = some (.slice A2 n2 k2) := cell_of_row _ _ 2 _ _ _ hrow
  have a3 : wa.cell? ⟨B, 3, none⟩ = some (.slice A3 n3 k3) := cell_of_row _ _ 3 _ _ _ hrow
  have a4 : wa.cell? ⟨B, 4, none⟩ = some (.slice A4 n4 k4) := cell_of_row _ _ 4 _ _ _ hrow
  have af : ∀ o, wa.frozen? ⟨B, o, none⟩ = false := fun o => frz_of_row _ _ o _ _ hrow
  have Hc := Lib.hid (Hc.out.on hka)
  have Hk1 := Lib.hid (Hk1.out.trans hka)
  clear hwa hB hrow hka af
  go_wp2_with fail
  refine (c_Config Hc.out).mono ?_
  rintro e w2 ⟨hk, h⟩
  obtain ⟨h1, _⟩ | ⟨_, u, rfl, hu⟩ := h
  · cases h1
  obtain ⟨Au, nu, ku, rfl, hnu, _, _⟩ := hu.form'
  have a0 := hk.cell a0 id
  have a1 := hk.cell a1 id
  have a2 := hk.cell a2 id
  have a3 := hk.cell a3 id
  have a4 := hk.cell a4 id
  have Hc := Lib.hid (Hc.out.on hk)
  have Hu := Lib.hid hu
  have Hk2 := Lib.hid (Hk1.out.trans hk)
  clear hk hu hnu
  go_wp2_with fail
  refine (c_ReadConfig Hu.out lineC_len).mono ?_
  intro e w3 h
  obtain ⟨v, rfl, hd, hk⟩ := h.back (fun x hx => reads_cfg x hx) lineC_fit
  obtain ⟨B1, m1, l1, S, B2, m2, l2, B3, m3, l3, B4, m4, l4, rfl, _⟩ := hd.form
  have a0 := hk.cell a0 id
  have a1 := hk.cell a1 id
  have a2 := hk.cell a2 id
  have a3 := hk.cell a3 id
  have a4 := hk.cell a4 id
  have Hc := Lib.hid (Hc.out.on hk)
  have Hd := Lib.hid hd
  have Hk3 := Lib.hid (Hk2.out.trans hk)
  clear hk hd h
  go_upto_region 4 with (fail)
  obtain ⟨wb, D, hwa, hB, hrow, hka⟩ := box_of w3 #[.slice B1 m1 l1, .int .i64 S, .slice B2 m2 l2, .slice B3 m3 l3, .slice B4 m4 l4] 31
  rw [← hwa, ← hB]
  have b0 : wb.cell? ⟨D, 0, none⟩ = some (.slice B1 m1 l1) := cell_of_row _ _ 0 _ _ _ hrow
  have b1 : wb.cell? ⟨D, 1, none⟩ = some (.int .i64 S) := cell_of_row _ _ 1 _ _ _ hrow
  have b2 : wb.cell? ⟨D, 2, none⟩ = some (.slice B2 m2 l2) := cell_of_row _ _ 2 _ _ _ hrow
  have b3 : wb.cell? ⟨D, 3, none⟩ = some (.slice B3 m3 l3) := cell_of_row _ _ 3 _ _ _ hrow
  have b4 : wb.cell? ⟨D, 4, none⟩ = some (.slice B4 m4 l4) := cell_of_row _ _ 4 _ _ _ hrow
  have bf : ∀ o, wb.frozen? ⟨D, o, none⟩ = false := fun o => frz_of_row _ _ o _ _ hrow
  have a0 := hka.cell a0 id
  have a1 := hka.cell a1 id
  have a2 := hka.cell a2 id
  have a3 := hka.cell a3 id
  have a4 := hka.cell a4 id
  have Hc := Lib.hid (Hc.out.on hka)
  have Hd := Lib.hid (Hd.out.on hka)
  have Hk3 := Lib.hid (Hk3.out.trans hka)
  clear hwa hB hrow hka bf
  go_wp2_with fail
  refine (c_Letter (isLt_awake _)).mono ?_
  rintro e w4 ⟨hk, h⟩
  obtain ⟨h1, _⟩ | ⟨_, u, rfl, hu⟩ := h
  · cases h1
  obtain ⟨Al, nl, kl, rfl, hnl, _, _⟩ := hu.form'
  obtain rfl : nl = 56 := hnl.out.trans awakeT_len
  have a0 := hk.cell a0 id
  have a1 := hk.cell a1 id
  have a2 := hk.cell a2 id
  have a3 := hk.cell a3 id
  have a4 := hk.cell a4 id
  have b0 := hk.cell b0 id
  have b1 := hk.cell b1 id
  have b2 := hk.cell b2 id
  have b3 := hk.cell b3 id
  have b4 := hk.cell b4 id
  have Hc := Lib.hid (Hc.out.on hk)
  have Hd := Lib.hid (Hd.out.on hk)
  have Hl := Lib.hid hu
  have Hk4 := Lib.hid (Hk3.out.trans hk)
  clear hk hu hnl
  go_wp2_with fail
  refine (c_ReadLetter Hl.out (by rw [awakeT_len]; omega)).mono ?_
  intro e w5 h
  obtain ⟨v, rfl, hd, hk⟩ := h.back (fun x hx => reads_lt x hx) awakeT_fit
  obtain ⟨z0, _, _, z3⟩ := line_i
  obtain ⟨v1, rfl, hd1⟩ := hd
  obtain ⟨Ax, nx, kx, rfl, _, _, _⟩ := hd1.form'
  rw [show awakeT.kind = 3 from rfl, show awakeT.fro = 0 from rfl, show awakeT.to = 3 from rfl, show awakeT.version = 0 from rfl, show awakeT.serial = 0 from rfl, z0, z3]
  have a0 := hk.cell a0 id
  have a1 := hk.cell a1 id
  have a2 := hk.cell a2 id
  have a3 := hk.cell a3 id
  have a4 := hk.cell a4 id
  have b0 := hk.cell b0 id
  have b1 := hk.cell b1 id
  have b2 := hk.cell b2 id
  have b3 := hk.cell b3 id
  have b4 := hk.cell b4 id
  have Hc := Lib.hid (Hc.out.on hk)
  have Hd := Lib.hid (Hd.out.on hk)
  have Hk5 := Lib.hid (Hk4.out.trans hk)
  clear hk hd1 h z0 z3
  go_upto_region 6 with (fail)
  obtain ⟨wc, C, hwa, hB, hrow, hka⟩ := box_of w5 #[.int .i64 3, .int .i64 0, .int .i64 3, .int .i64 0, .int .i64 0, .slice Ax nx kx] 46
  rw [← hwa, ← hB]
  have c0 : wc.cell? ⟨C, 0, none⟩ = some (.int .i64 3) := cell_of_row _ _ 0 _ _ _ hrow
  have c1 : wc.cell? ⟨C, 1, none⟩ = some (.int .i64 0) := cell_of_row _ _ 1 _ _ _ hrow
  have c2 : wc.cell? ⟨C, 2, none⟩ = some (.int .i64 3) := cell_of_row _ _ 2 _ _ _ hrow
  have c3 : wc.cell? ⟨C, 3, none⟩ = some (.int .i64 0) := cell_of_row _ _ 3 _ _ _ hrow
  have c4 : wc.cell? ⟨C, 4, none⟩ = some (.int .i64 0) := cell_of_row _ _ 4 _ _ _ hrow
  have c5 : wc.cell? ⟨C, 5, none⟩ = some (.slice Ax nx kx) := cell_of_row _ _ 5 _ _ _ hrow
  have cf : ∀ o, wc.frozen? ⟨C, o, none⟩ = false := fun o => frz_of_row _ _ o _ _ hrow
  have a0 := hka.cell a0 id
  have a1 := hka.cell a1 id
  have a2 := hka.cell a2 id
  have a3 := hka.cell a3 id
  have a4 := hka.cell a4 id
  have b0 := hka.cell b0 id
  have b1 := hka.cell b1 id
  have b2 := hka.cell b2 id
  have b3 := hka.cell b3 id
  have b4 := hka.cell b4 id
  have Hc := Lib.hid (Hc.out.on hka)
  have Hd := Lib.hid (Hd.out.on hka)
  have Hk5 := Lib.hid (Hk5.out.trans hka)
  clear hwa hB hrow hka cf
  go_wp2_with fail
  refine (c_Same Hc.out Hd.out).mono ?_
  rintro e w6 ⟨b, rfl, hb, hk⟩
  obtain rfl : b = true := hb.2 rfl
  have c2 := hk.cell c2 id
  have Hk6 := Lib.hid (Hk5.out.trans hk)
  clear hb hk
  go_wp2_with fail
  go_ret
  exact ⟨rfl, Hk6.out⟩
end Go.Proofs.Ytpaldbejnbcokaa
