/- Contracts of package wire: written; Config, Letter, Entry. -/
import Derived.Test.YtpaldbejnbcokaaWirC
namespace Go.Proofs.Ytpaldbejnbcokaa
open Go.RowKit

def sealW (ws : List UInt64) : List UInt8 := enc8 ws ++ putF (sumF (enc8 ws)) 8
/-- What Config, Letter, Entry hand back. -/
def WrOut (w w' : World) (fit : Bool) (ws : List UInt64) (e : Ending) : Prop :=
  Kp No w w' ∧ ((fit = false ∧ e = .returned (.tuple #[.slice none 0 0, .int .i64 4])) ∨ (fit = true ∧ ∃ v, e = .returned (.tuple #[v, .int .i64 0]) ∧ SliceAt u8R w' (From w.heap.size) (sealW ws) v))
/-- A writer as it is laid. -/
theorem wir_new (w : World) : WirAt ((w.alloc (.cells #[.slice none 0 0] 160)).alloc (.cells #[.pointer (some ⟨w.heap.size, 0, none⟩), .bool false] 133)) (From w.heap.size) [] false (w.heap.size + 1) ∧
    New ((w.alloc (.cells #[.slice none 0 0] 160)).alloc (.cells #[.pointer (some ⟨w.heap.size, 0, none⟩), .bool false] 133)) (From w.heap.size) := by
  have h := (WriterAt.new w).clip
  have hz := alloc_size w (.cells #[.slice none 0 0] 160)
  have ha := heap_alloc_new (w.alloc (.cells #[.slice none 0 0] 160)) (.cells #[.pointer (some ⟨w.heap.size, 0, none⟩), .bool false] 133)
  rw [hz] at ha h
  refine ⟨⟨w.heap.size, ha, Nat.le_succ _, (h.kp ((Kp.refl No _).alloc _) (fun _ _ => id)).mono fun b hb => ⟨hb.1, Nat.ne_of_lt hb.2⟩⟩, fun b hb => ?_⟩
  rw [alloc_size, hz] at hb
  unfold From
  omega


set_option maxHeartbeats 1000000 in
theorem wir_written_config (w : World) (F : Nat → Prop) (c : Cfg) (v1 v2 v3 v4 : Value) (hv1 : SliceAt ptR.slice w F c.ports v1) (hv2 : SliceAt prR w F c.peers v2) (hv3 : SliceAt wyR w F c.ways v3) (hv4 : SliceAt rlR.slice.slice w F c.tables v4) (hF : ∀ b, F b → b < w.heap.size) :
    Calls Try.prog 35 #[.func (.func 36) #[] #[], .agg #[v1, .int .i64 (i64of c.tenants), v2, v3, v4]] w fun e w' => WrOut w w' c.fit c.words e := by
  obtain ⟨A1, n1, k1, rfl, _, _, _⟩ := hv1.form'
  obtain ⟨A2, n2, k2, rfl, _, _, _⟩ := hv2.form'
  obtain ⟨A3, n3, k3, rfl, _, _, _⟩ := hv3.form'
  obtain ⟨A4, n4, k4, rfl, _, _, _⟩ := hv4.form'
  obtain ⟨wx, hwx⟩ : ∃ wx, wx = w.alloc (.cells #[.slice A1 n1 k1, .int .i64 (i64of c.tenants), .slice A2 n2 k2, .slice A3 n3 k3, .slice A4 n4 k4] 31) := ⟨_, rfl⟩
  have hax := heap_alloc_new w (.cells #[.slice A1 n1 k1, .int .i64 (i64of c.tenants), .slice A2 n2 k2, .slice A3 n3 k3, .slice A4 n4 k4] 31)
  have hka : Kp No w wx := by rw [hwx]; exact (Kp.refl No w).alloc _
  have hsz : wx.heap.size = w.heap.size + 1 := by rw [hwx, alloc_size]
  rw [← hwx] at hax
  have hn := wir_new wx
  obtain ⟨wc, hwc⟩ : ∃ wc, wc = (wx.alloc (.cells #[.slice none 0 0] 160)).alloc (.cells #[.pointer (some ⟨wx.heap.size, 0, none⟩), .bool false] 133) := ⟨_, rfl⟩
  have hkc : Kp No wx wc := by rw [hwc]; exact ((Kp.refl No wx).alloc _).alloc _
  rw [← hwc] at hn
  have hfx : ∀ b, F b → ¬ From wx.heap.size b := fun b hb h => by have := hF b hb; unfold From at h; omega
  have Hwx := Lib.hid hwx
  have Hwc := Lib.hid hwc
  have Hsz := Lib.hid hsz
  have Hax := Lib.hid hax
  have Hka := Lib.hid (hka.trans hkc)
  have Hn := Lib.hid hn
  have Hfx := Lib.hid hfx
  have Hv1 := Lib.hid (hv1.kp (hka.trans hkc) (fun _ _ => id))
  have Hv2 := Lib.hid (hv2.kp (hka.trans hkc) (fun _ _ => id))
  have Hv3 := Lib.hid (hv3.kp (hka.trans hkc) (fun _ _ => id))
  have Hv4 := Lib.hid (hv4.kp (hka.trans hkc) (fun _ _ => id))
  clear hwx hwc hax hka hsz hn hkc hfx hF hv1 hv2 hv3 hv4
  go_enter Try.func35, Try.ntmps35
  go_wp2_with fail
  rw [← Hwx.out]
  refine (pack_New _).mono ?_
  rintro e w1 ⟨rfl, rfl⟩
  have hc0 : ∀ o1 o2, ((wx.alloc o1).alloc o2).cell? ⟨w.heap.size, 0, none⟩ = some (.slice A1 n1 k1) := fun o1 o2 => cell_of_row _ _ 0 _ _ _ ((((Kp.refl No wx).alloc o1).alloc o2).heap Hax.out id)
  have hc1 : ∀ o1 o2, ((wx.alloc o1).alloc o2).cell? ⟨w.heap.size, 1, none⟩ = some (.int .i64 (i64of c.tenants)) := fun o1 o2 => cell_of_row _ _ 1 _ _ _ ((((Kp.refl No wx).alloc o1).alloc o2).heap Hax.out id)
  have hc2 : ∀ o1 o2, ((wx.alloc o1).alloc o2).cell? ⟨w.heap.size, 2, none⟩ = some (.slice A2 n2 k2) := fun o1 o2 => cell_of_row _ _ 2 _ _ _ ((((Kp.refl No wx).alloc o1).alloc o2).heap Hax.out id)
  have hc3 : ∀ o1 o2, ((wx.alloc o1).alloc o2).cell? ⟨w.heap.size, 3, none⟩ = some (.slice A3 n3 k3) := fun o1 o2 => cell_of_row _ _ 3 _ _ _ ((((Kp.refl No wx).alloc o1).alloc o2).heap Hax.out id)
  have hc4 : ∀ o1 o2, ((wx.alloc o1).alloc o2).cell? ⟨w.heap.size, 4, none⟩ = some (.slice A4 n4 k4) := fun o1 o2 => cell_of_row _ _ 4 _ _ _ ((((Kp.refl No wx).alloc o1).alloc o2).heap Hax.out id)
  go_wp2_with fail
  rw [← Hwc.out]
  refine (wir_config _ _ F _ _ _ c _ _ _ _ Hn.out.1 Hn.out.2 Hv1.out Hv2.out Hv3.out Hv4.out Hfx.out (by simp)).mono ?_
  rintro e w2 ⟨rfl, l2, h2, hk2, hl2, he2⟩
  clear hc0 hc1 hc2 hc3 hc4
  obtain ⟨p, hq, hXq, hpw⟩ := h2
  by_cases hfit : c.fit = true
  · have e1 : (false || !c.fit) = false := by rw [hfit]; rfl
    rw [e1] at hq
    have h1 : w2.cell? ⟨wx.heap.size + 1, 1, none⟩ = some (.bool false) := cell_of_row w2 _ 1 _ _ _ hq
    have h0 : w2.cell? ⟨wx.heap.size + 1, 0, none⟩ = some (.pointer (some ⟨p, 0, none⟩)) := cell_of_row w2 _ 0 _ _ _ hq
    have Hfit := Lib.hid hfit
    have Hpw := Lib.hid hpw
    have Hk2 := Lib.hid hk2
    have Hl2 := Lib.hid hl2
    have He2 := Lib.hid (he2 hfit)
    clear e1 hq hXq hpw hfit hk2 hl2 he2
    go_wp2_with fail
    refine (Writer_Bytes _ _ _ _ Hpw.out (by have := Hl2.out; simp at this; omega)).mono ?_
    rintro e w3 ⟨v3, rfl, hs3, hk3⟩
    have Hs3 := Lib.hid hs3
    have Hk3 := Lib.hid hk3
    clear hs3 hk3 h0 h1
    go_wp2_with fail
    go_ret2
    have hk := Hka.out.trans2 Hk2.out (fun g hg hb => by have := Hsz.out; unfold From at hb; exact absurd hb (by omega))
    refine ⟨hk.trans Hk3.out, .inr ⟨Hfit.out, v3, rfl, ?_⟩⟩
    have e2 : l2 = enc8 c.words := by rw [He2.out]; rfl
    unfold sealW
    rw [← e2]
    exact Hs3.out.mono fun b _ hb => Nat.le_trans hk.size hb
  · have hfit' : c.fit = false := by simpa using hfit
    have e1 : (false || !c.fit) = true := by rw [hfit']; rfl
    rw [e1] at hq
    have h1 : w2.cell? ⟨wx.heap.size + 1, 1, none⟩ = some (.bool true) := cell_of_row w2 _ 1 _ _ _ hq
    have Hfit := Lib.hid hfit'
    have Hk2 := Lib.hid hk2
    clear hq hXq hpw hfit hfit' hk2 hl2 he2 e1
    go_wp2_with fail
    go_ret2
    exact ⟨Hka.out.trans2 Hk2.out (fun g hg hb => by have := Hsz.out; unfold From at hb; exact absurd hb (by omega)), .inl ⟨Hfit.out, rfl⟩⟩


set_option maxHeartbeats 1000000 in
theorem wir_Config (w : World) (F : Nat → Prop) (c : Cfg) (v1 v2 v3 v4 : Value) (hv1 : SliceAt ptR.slice w F c.ports v1) (hv2 : SliceAt prR w F c.peers v2) (hv3 : SliceAt wyR w F c.ways v3) (hv4 : SliceAt rlR.slice.slice w F c.tables v4) (hF : ∀ b, F b → b < w.heap.size) :
    Calls Try.prog 12 #[.agg #[v1, .int .i64 (i64of c.tenants), v2, v3, v4]] w fun e w' => WrOut w w' c.fit c.words e := by
  obtain ⟨A1, n1, k1, rfl, _, _, _⟩ := hv1.form'
  obtain ⟨A2, n2, k2, rfl, _, _, _⟩ := hv2.form'
  obtain ⟨A3, n3, k3, rfl, _, _, _⟩ := hv3.form'
  obtain ⟨A4, n4, k4, rfl, _, _, _⟩ := hv4.form'
  obtain ⟨wx, hwx⟩ : ∃ wx, wx = w.alloc (.cells #[.slice A1 n1 k1, .int .i64 (i64of c.tenants), .slice A2 n2 k2, .slice A3 n3 k3, .slice A4 n4 k4] 31) := ⟨_, rfl⟩
  have hax := heap_alloc_new w (.cells #[.slice A1 n1 k1, .int .i64 (i64of c.tenants), .slice A2 n2 k2, .slice A3 n3 k3, .slice A4 n4 k4] 31)
  have hka : Kp No w wx := by rw [hwx]; exact (Kp.refl No w).alloc _
  rw [← hwx] at hax
  have Hwx := Lib.hid hwx
  have Hka := Lib.hid hka
  have HF := Lib.hid (show ∀ b, F b → b < wx.heap.size from fun b hb => Nat.lt_of_lt_of_le (hF b hb) hka.size)
  have Hv1 := Lib.hid (hv1.kp hka (fun _ _ => id))
  have Hv2 := Lib.hid (hv2.kp hka (fun _ _ => id))
  have Hv3 := Lib.hid (hv3.kp hka (fun _ _ => id))
  have Hv4 := Lib.hid (hv4.kp hka (fun _ _ => id))
  have hc0 : wx.cell? ⟨w.heap.size, 0, none⟩ = some (.slice A1 n1 k1) := cell_of_row _ _ 0 _ _ _ hax
  have hc1 : wx.cell? ⟨w.heap.size, 1, none⟩ = some (.int .i64 (i64of c.tenants)) := cell_of_row _ _ 1 _ _ _ hax
  have hc2 : wx.cell? ⟨w.heap.size, 2, none⟩ = some (.slice A2 n2 k2) := cell_of_row _ _ 2 _ _ _ hax
  have hc3 : wx.cell? ⟨w.heap.size, 3, none⟩ = some (.slice A3 n3 k3) := cell_of_row _ _ 3 _ _ _ hax
  have hc4 : wx.cell? ⟨w.heap.size, 4, none⟩ = some (.slice A4 n4 k4) := cell_of_row _ _ 4 _ _ _ hax
  clear hwx hax hka hF hv1 hv2 hv3 hv4
  go_enter Try.func12, Try.ntmps12
  go_wp2_with fail
  rw [← Hwx.out]
  go_wp2_with fail
  refine (wir_written_config _ F c _ _ _ _ Hv1.out Hv2.out Hv3.out Hv4.out HF.out).mono ?_
  rintro e w1 ⟨hk1, hc⟩
  have Hk := Lib.hid (Hka.out.trans hk1)
  clear hk1 hc0 hc1 hc2 hc3 hc4
  rcases hc with ⟨hf, rfl⟩ | ⟨hf, v, rfl, hs⟩
  · have Hf := Lib.hid hf
    clear hf
    go_wp2_with fail
    go_ret2
    exact ⟨Hk.out, .inl ⟨Hf.out, rfl⟩⟩
  · have Hf := Lib.hid hf
    have Hs := Lib.hid hs
    clear hf hs
    go_wp2_with fail
    go_ret2
    exact ⟨Hk.out, .inr ⟨Hf.out, v, rfl, Hs.out.mono fun b _ hb => Nat.le_trans Hka.out.size hb⟩⟩


set_option maxHeartbeats 1000000 in
theorem wir_written_letter (w : World) (F : Nat → Prop) (x : Lt) (v1 : Value) (hv1 : SliceAt rlR.slice w F x.tables v1) (hF : ∀ b, F b → b < w.heap.size) :
    Calls Try.prog 44 #[.func (.func 45) #[] #[], .agg #[.int .i64 (i64of x.kind), .int .i64 (i64of x.fro), .int .i64 (i64of x.to), .int .i64 (i64of x.version), .int .i64 (i64of x.serial), v1]] w fun e w' => WrOut w w' (tablesFit x.tables) x.words e := by
  obtain ⟨A1, n1, k1, rfl, _, _, _⟩ := hv1.form'
  obtain ⟨wx, hwx⟩ : ∃ wx, wx = w.alloc (.cells #[.int .i64 (i64of x.kind), .int .i64 (i64of x.fro), .int .i64 (i64of x.to), .int .i64 (i64of x.version), .int .i64 (i64of x.serial), .slice A1 n1 k1] 46) := ⟨_, rfl⟩
  have hax := heap_alloc_new w (.cells #[.int .i64 (i64of x.kind), .int .i64 (i64of x.fro), .int .i64 (i64of x.to), .int .i64 (i64of x.version), .int .i64 (i64of x.serial), .slice A1 n1 k1] 46)
  have hka : Kp No w wx := by rw [hwx]; exact (Kp.refl No w).alloc _
  have hsz : wx.heap.size = w.heap.size + 1 := by rw [hwx, alloc_size]
  rw [← hwx] at hax
  have hn := wir_new wx
  obtain ⟨wc, hwc⟩ : ∃ wc, wc = (wx.alloc (.cells #[.slice none 0 0] 160)).alloc (.cells #[.pointer (some ⟨wx.heap.size, 0, none⟩), .bool false] 133) := ⟨_, rfl⟩
  have hkc : Kp No wx wc := by rw [hwc]; exact ((Kp.refl No wx).alloc _).alloc _
  rw [← hwc] at hn
  have hfx : ∀ b, F b → ¬ From wx.heap.size b := fun b hb h => by have := hF b hb; unfold From at h; omega
  have Hwx := Lib.hid hwx
  have Hwc := Lib.hid hwc
  have Hsz := Lib.hid hsz
  have Hax := Lib.hid hax
  have Hka := Lib.hid (hka.trans hkc)
  have Hn := Lib.hid hn
  have Hfx := Lib.hid hfx
  have Hv1 := Lib.hid (hv1.kp (hka.trans hkc) (fun _ _ => id))
  clear hwx hwc hax hka hsz hn hkc hfx hF hv1
  go_enter Try.func44, Try.ntmps44
  go_wp2_with fail
  rw [← Hwx.out]
  refine (pack_New _).mono ?_
  rintro e w1 ⟨rfl, rfl⟩
  have hc0 : ∀ o1 o2, ((wx.alloc o1).alloc o2).cell? ⟨w.heap.size, 0, none⟩ = some (.int .i64 (i64of x.kind)) := fun o1 o2 => cell_of_row _ _ 0 _ _ _ ((((Kp.refl No wx).alloc o1).alloc o2).heap Hax.out id)
  have hc1 : ∀ o1 o2, ((wx.alloc o1).alloc o2).cell? ⟨w.heap.size, 1, none⟩ = some (.int .i64 (i64of x.fro)) := fun o1 o2 => cell_of_row _ _ 1 _ _ _ ((((Kp.refl No wx).alloc o1).alloc o2).heap Hax.out id)
  have hc2 : ∀ o1 o2, ((wx.alloc o1).alloc o2).cell? ⟨w.heap.size, 2, none⟩ = some (.int .i64 (i64of x.to)) := fun o1 o2 => cell_of_row _ _ 2 _ _ _ ((((Kp.refl No wx).alloc o1).alloc o2).heap Hax.out id)
  have hc3 : ∀ o1 o2, ((wx.alloc o1).alloc o2).cell? ⟨w.heap.size, 3, none⟩ = some (.int .i64 (i64of x.version)) := fun o1 o2 => cell_of_row _ _ 3 _ _ _ ((((Kp.refl No wx).alloc o1).alloc o2).heap Hax.out id)
  have hc4 : ∀ o1 o2, ((wx.alloc o1).alloc o2).cell? ⟨w.heap.size, 4, none⟩ = some (.int .i64 (i64of x.serial)) := fun o1 o2 => cell_of_row _ _ 4 _ _ _ ((((Kp.refl No wx).alloc o1).alloc o2).heap Hax.out id)
  have hc5 : ∀ o1 o2, ((wx.alloc o1).alloc o2).cell? ⟨w.heap.size, 5, none⟩ = some (.slice A1 n1 k1) := fun o1 o2 => cell_of_row _ _ 5 _ _ _ ((((Kp.refl No wx).alloc o1).alloc o2).heap Hax.out id)
  go_wp2_with fail
  rw [← Hwc.out]
  refine (wir_letter _ _ F _ _ _ x _ Hn.out.1 Hn.out.2 Hv1.out Hfx.out (by simp)).mono ?_
  rintro e w2 ⟨rfl, l2, h2, hk2, hl2, he2⟩
  clear hc0 hc1 hc2 hc3 hc4 hc5
  obtain ⟨p, hq, hXq, hpw⟩ := h2
  by_cases hfit : (tablesFit x.tables) = true
  · have e1 : (false || !(tablesFit x.tables)) = false := by rw [hfit]; rfl
    rw [e1] at hq
    have h1 : w2.cell? ⟨wx.heap.size + 1, 1, none⟩ = some (.bool false) := cell_of_row w2 _ 1 _ _ _ hq
    have h0 : w2.cell? ⟨wx.heap.size + 1, 0, none⟩ = some (.pointer (some ⟨p, 0, none⟩)) := cell_of_row w2 _ 0 _ _ _ hq
    have Hfit := Lib.hid hfit
    have Hpw := Lib.hid hpw
    have Hk2 := Lib.hid hk2
    have Hl2 := Lib.hid hl2
    have He2 := Lib.hid (he2 hfit)
    clear e1 hq hXq hpw hfit hk2 hl2 he2
    go_wp2_with fail
    refine (Writer_Bytes _ _ _ _ Hpw.out (by have := Hl2.out; simp at this; omega)).mono ?_
    rintro e w3 ⟨v3, rfl, hs3, hk3⟩
    have Hs3 := Lib.hid hs3
    have Hk3 := Lib.hid hk3
    clear hs3 hk3 h0 h1
    go_wp2_with fail
    go_ret2
    have hk := Hka.out.trans2 Hk2.out (fun g hg hb => by have := Hsz.out; unfold From at hb; exact absurd hb (by omega))
    refine ⟨hk.trans Hk3.out, .inr ⟨Hfit.out, v3, rfl, ?_⟩⟩
    have e2 : l2 = enc8 x.words := by rw [He2.out]; rfl
    unfold sealW
    rw [← e2]
    exact Hs3.out.mono fun b _ hb => Nat.le_trans hk.size hb
  · have hfit' : (tablesFit x.tables) = false := by simpa using hfit
    have e1 : (false || !(tablesFit x.tables)) = true := by rw [hfit']; rfl
    rw [e1] at hq
    have h1 : w2.cell? ⟨wx.heap.size + 1, 1, none⟩ = some (.bool true) := cell_of_row w2 _ 1 _ _ _ hq
    have Hfit := Lib.hid hfit'
    have Hk2 := Lib.hid hk2
    clear hq hXq hpw hfit hfit' hk2 hl2 he2 e1
    go_wp2_with fail
    go_ret2
    exact ⟨Hka.out.trans2 Hk2.out (fun g hg hb => by have := Hsz.out; unfold From at hb; exact absurd hb (by omega)), .inl ⟨Hfit.out, rfl⟩⟩


set_option maxHeartbeats 1000000 in
theorem wir_Letter (w : World) (F : Nat → Prop) (x : Lt) (v1 : Value) (hv1 : SliceAt rlR.slice w F x.tables v1) (hF : ∀ b, F b → b < w.heap.size) :
    Calls Try.prog 18 #[.agg #[.int .i64 (i64of x.kind), .int .i64 (i64of x.fro), .int .i64 (i64of x.to), .int .i64 (i64of x.version), .int .i64 (i64of x.serial), v1]] w fun e w' => WrOut w w' (tablesFit x.tables) x.words e := by
  obtain ⟨A1, n1, k1, rfl, _, _, _⟩ := hv1.form'
  obtain ⟨wx, hwx⟩ : ∃ wx, wx = w.alloc (.cells #[.int .i64 (i64of x.kind), .int .i64 (i64of x.fro), .int .i64 (i64of x.to), .int .i64 (i64of x.version), .int .i64 (i64of x.serial), .slice A1 n1 k1] 46) := ⟨_, rfl⟩
  have hax := heap_alloc_new w (.cells #[.int .i64 (i64of x.kind), .int .i64 (i64of x.fro), .int .i64 (i64of x.to), .int .i64 (i64of x.version), .int .i64 (i64of x.serial), .slice A1 n1 k1] 46)
  have hka : Kp No w wx := by rw [hwx]; exact (Kp.refl No w).alloc _
  rw [← hwx] at hax
  have Hwx := Lib.hid hwx
  have Hka := Lib.hid hka
  have HF := Lib.hid (show ∀ b, F b → b < wx.heap.size from fun b hb => Nat.lt_of_lt_of_le (hF b hb) hka.size)
  have Hv1 := Lib.hid (hv1.kp hka (fun _ _ => id))
  have hc0 : wx.cell? ⟨w.heap.size, 0, none⟩ = some (.int .i64 (i64of x.kind)) := cell_of_row _ _ 0 _ _ _ hax
  have hc1 : wx.cell? ⟨w.heap.size, 1, none⟩ = some (.int .i64 (i64of x.fro)) := cell_of_row _ _ 1 _ _ _ hax
  have hc2 : wx.cell? ⟨w.heap.size, 2, none⟩ = some (.int .i64 (i64of x.to)) := cell_of_row _ _ 2 _ _ _ hax
  have hc3 : wx.cell? ⟨w.heap.size, 3, none⟩ = some (.int .i64 (i64of x.version)) := cell_of_row _ _ 3 _ _ _ hax
  have hc4 : wx.cell? ⟨w.heap.size, 4, none⟩ = some (.int .i64 (i64of x.serial)) := cell_of_row _ _ 4 _ _ _ hax
  have hc5 : wx.cell? ⟨w.heap.size, 5, none⟩ = some (.slice A1 n1 k1) := cell_of_row _ _ 5 _ _ _ hax
  clear hwx hax hka hF hv1
  go_enter Try.func18, Try.ntmps18
  go_wp2_with fail
  rw [← Hwx.out]
  go_wp2_with fail
  refine (wir_written_letter _ F x _ Hv1.out HF.out).mono ?_
  rintro e w1 ⟨hk1, hc⟩
  have Hk := Lib.hid (Hka.out.trans hk1)
  clear hk1 hc0 hc1 hc2 hc3 hc4 hc5
  rcases hc with ⟨hf, rfl⟩ | ⟨hf, v, rfl, hs⟩
  · have Hf := Lib.hid hf
    clear hf
    go_wp2_with fail
    go_ret2
    exact ⟨Hk.out, .inl ⟨Hf.out, rfl⟩⟩
  · have Hf := Lib.hid hf
    have Hs := Lib.hid hs
    clear hf hs
    go_wp2_with fail
    go_ret2
    exact ⟨Hk.out, .inr ⟨Hf.out, v, rfl, Hs.out.mono fun b _ hb => Nat.le_trans Hka.out.size hb⟩⟩


set_option maxHeartbeats 1000000 in
theorem wir_written_entry (w : World) (F : Nat → Prop) (x : En) (v1 v2 v3 v4 : Value) (hv1 : SliceAt ptR.slice w F x.cfg.ports v1) (hv2 : SliceAt prR w F x.cfg.peers v2) (hv3 : SliceAt wyR w F x.cfg.ways v3) (hv4 : SliceAt rlR.slice.slice w F x.cfg.tables v4) (hF : ∀ b, F b → b < w.heap.size) :
    Calls Try.prog 49 #[.func (.func 50) #[] #[], .agg #[.int .i64 (i64of x.kind), .int .i64 (i64of x.version), .int .i64 (i64of x.serial), v1, .int .i64 (i64of x.cfg.tenants), v2, v3, v4]] w fun e w' => WrOut w w' x.cfg.fit x.words e := by
  obtain ⟨A1, n1, k1, rfl, _, _, _⟩ := hv1.form'
  obtain ⟨A2, n2, k2, rfl, _, _, _⟩ := hv2.form'
  obtain ⟨A3, n3, k3, rfl, _, _, _⟩ := hv3.form'
  obtain ⟨A4, n4, k4, rfl, _, _, _⟩ := hv4.form'
  obtain ⟨wx, hwx⟩ : ∃ wx, wx = w.alloc (.cells #[.int .i64 (i64of x.kind), .int .i64 (i64of x.version), .int .i64 (i64of x.serial), .slice A1 n1 k1, .int .i64 (i64of x.cfg.tenants), .slice A2 n2 k2, .slice A3 n3 k3, .slice A4 n4 k4] 57) := ⟨_, rfl⟩
  have hax := heap_alloc_new w (.cells #[.int .i64 (i64of x.kind), .int .i64 (i64of x.version), .int .i64 (i64of x.serial), .slice A1 n1 k1, .int .i64 (i64of x.cfg.tenants), .slice A2 n2 k2, .slice A3 n3 k3, .slice A4 n4 k4] 57)
  have hka : Kp No w wx := by rw [hwx]; exact (Kp.refl No w).alloc _
  have hsz : wx.heap.size = w.heap.size + 1 := by rw [hwx, alloc_size]
  rw [← hwx] at hax
  have hn := wir_new wx
  obtain ⟨wc, hwc⟩ : ∃ wc, wc = (wx.alloc (.cells #[.slice none 0 0] 160)).alloc (.cells #[.pointer (some ⟨wx.heap.size, 0, none⟩), .bool false] 133) := ⟨_, rfl⟩
  have hkc : Kp No wx wc := by rw [hwc]; exact ((Kp.refl No wx).alloc _).alloc _
  rw [← hwc] at hn
  have hfx : ∀ b, F b → ¬ From wx.heap.size b := fun b hb h => by have := hF b hb; unfold From at h; omega
  have Hwx := Lib.hid hwx
  have Hwc := Lib.hid hwc
  have Hsz := Lib.hid hsz
  have Hax := Lib.hid hax
  have Hka := Lib.hid (hka.trans hkc)
  have Hn := Lib.hid hn
  have Hfx := Lib.hid hfx
  have Hv1 := Lib.hid (hv1.kp (hka.trans hkc) (fun _ _ => id))
  have Hv2 := Lib.hid (hv2.kp (hka.trans hkc) (fun _ _ => id))
  have Hv3 := Lib.hid (hv3.kp (hka.trans hkc) (fun _ _ => id))
  have Hv4 := Lib.hid (hv4.kp (hka.trans hkc) (fun _ _ => id))
  clear hwx hwc hax hka hsz hn hkc hfx hF hv1 hv2 hv3 hv4
  go_enter Try.func49, Try.ntmps49
  go_wp2_with fail
  rw [← Hwx.out]
  refine (pack_New _).mono ?_
  rintro e w1 ⟨rfl, rfl⟩
  have hc0 : ∀ o1 o2, ((wx.alloc o1).alloc o2).cell? ⟨w.heap.size, 0, none⟩ = some (.int .i64 (i64of x.kind)) := fun o1 o2 => cell_of_row _ _ 0 _ _ _ ((((Kp.refl No wx).alloc o1).alloc o2).heap Hax.out id)
  have hc1 : ∀ o1 o2, ((wx.alloc o1).alloc o2).cell? ⟨w.heap.size, 1, none⟩ = some (.int .i64 (i64of x.version)) := fun o1 o2 => cell_of_row _ _ 1 _ _ _ ((((Kp.refl No wx).alloc o1).alloc o2).heap Hax.out id)
  have hc2 : ∀ o1 o2, ((wx.alloc o1).alloc o2).cell? ⟨w.heap.size, 2, none⟩ = some (.int .i64 (i64of x.serial)) := fun o1 o2 => cell_of_row _ _ 2 _ _ _ ((((Kp.refl No wx).alloc o1).alloc o2).heap Hax.out id)
  have hc3 : ∀ o1 o2, ((wx.alloc o1).alloc o2).cell? ⟨w.heap.size, 3, none⟩ = some (.slice A1 n1 k1) := fun o1 o2 => cell_of_row _ _ 3 _ _ _ ((((Kp.refl No wx).alloc o1).alloc o2).heap Hax.out id)
  have hc4 : ∀ o1 o2, ((wx.alloc o1).alloc o2).cell? ⟨w.heap.size, 4, none⟩ = some (.int .i64 (i64of x.cfg.tenants)) := fun o1 o2 => cell_of_row _ _ 4 _ _ _ ((((Kp.refl No wx).alloc o1).alloc o2).heap Hax.out id)
  have hc5 : ∀ o1 o2, ((wx.alloc o1).alloc o2).cell? ⟨w.heap.size, 5, none⟩ = some (.slice A2 n2 k2) := fun o1 o2 => cell_of_row _ _ 5 _ _ _ ((((Kp.refl No wx).alloc o1).alloc o2).heap Hax.out id)
  have hc6 : ∀ o1 o2, ((wx.alloc o1).alloc o2).cell? ⟨w.heap.size, 6, none⟩ = some (.slice A3 n3 k3) := fun o1 o2 => cell_of_row _ _ 6 _ _ _ ((((Kp.refl No wx).alloc o1).alloc o2).heap Hax.out id)
  have hc7 : ∀ o1 o2, ((wx.alloc o1).alloc o2).cell? ⟨w.heap.size, 7, none⟩ = some (.slice A4 n4 k4) := fun o1 o2 => cell_of_row _ _ 7 _ _ _ ((((Kp.refl No wx).alloc o1).alloc o2).heap Hax.out id)
  go_wp2_with fail
  rw [← Hwc.out]
  refine (wir_entry _ _ F _ _ _ x _ _ _ _ Hn.out.1 Hn.out.2 Hv1.out Hv2.out Hv3.out Hv4.out Hfx.out (by simp)).mono ?_
  rintro e w2 ⟨rfl, l2, h2, hk2, hl2, he2⟩
  clear hc0 hc1 hc2 hc3 hc4 hc5 hc6 hc7
  obtain ⟨p, hq, hXq, hpw⟩ := h2
  by_cases hfit : x.cfg.fit = true
  · have e1 : (false || !x.cfg.fit) = false := by rw [hfit]; rfl
    rw [e1] at hq
    have h1 : w2.cell? ⟨wx.heap.size + 1, 1, none⟩ = some (.bool false) := cell_of_row w2 _ 1 _ _ _ hq
    have h0 : w2.cell? ⟨wx.heap.size + 1, 0, none⟩ = some (.pointer (some ⟨p, 0, none⟩)) := cell_of_row w2 _ 0 _ _ _ hq
    have Hfit := Lib.hid hfit
    have Hpw := Lib.hid hpw
    have Hk2 := Lib.hid hk2
    have Hl2 := Lib.hid hl2
    have He2 := Lib.hid (he2 hfit)
    clear e1 hq hXq hpw hfit hk2 hl2 he2
    go_wp2_with fail
    refine (Writer_Bytes _ _ _ _ Hpw.out (by have := Hl2.out; simp at this; omega)).mono ?_
    rintro e w3 ⟨v3, rfl, hs3, hk3⟩
    have Hs3 := Lib.hid hs3
    have Hk3 := Lib.hid hk3
    clear hs3 hk3 h0 h1
    go_wp2_with fail
    go_ret2
    have hk := Hka.out.trans2 Hk2.out (fun g hg hb => by have := Hsz.out; unfold From at hb; exact absurd hb (by omega))
    refine ⟨hk.trans Hk3.out, .inr ⟨Hfit.out, v3, rfl, ?_⟩⟩
    have e2 : l2 = enc8 x.words := by rw [He2.out]; rfl
    unfold sealW
    rw [← e2]
    exact Hs3.out.mono fun b _ hb => Nat.le_trans hk.size hb
  · have hfit' : x.cfg.fit = false := by simpa using hfit
    have e1 : (false || !x.cfg.fit) = true := by rw [hfit']; rfl
    rw [e1] at hq
    have h1 : w2.cell? ⟨wx.heap.size + 1, 1, none⟩ = some (.bool true) := cell_of_row w2 _ 1 _ _ _ hq
    have Hfit := Lib.hid hfit'
    have Hk2 := Lib.hid hk2
    clear hq hXq hpw hfit hfit' hk2 hl2 he2 e1
    go_wp2_with fail
    go_ret2
    exact ⟨Hka.out.trans2 Hk2.out (fun g hg hb => by have := Hsz.out; unfold From at hb; exact absurd hb (by omega)), .inl ⟨Hfit.out, rfl⟩⟩


set_option maxHeartbeats 1000000 in
theorem wir_Entry (w : World) (F : Nat → Prop) (x : En) (v1 v2 v3 v4 : Value) (hv1 : SliceAt ptR.slice w F x.cfg.ports v1) (hv2 : SliceAt prR w F x.cfg.peers v2) (hv3 : SliceAt wyR w F x.cfg.ways v3) (hv4 : SliceAt rlR.slice.slice w F x.cfg.tables v4) (hF : ∀ b, F b → b < w.heap.size) :
    Calls Try.prog 23 #[.agg #[.int .i64 (i64of x.kind), .int .i64 (i64of x.version), .int .i64 (i64of x.serial), v1, .int .i64 (i64of x.cfg.tenants), v2, v3, v4]] w fun e w' => WrOut w w' x.cfg.fit x.words e := by
  obtain ⟨A1, n1, k1, rfl, _, _, _⟩ := hv1.form'
  obtain ⟨A2, n2, k2, rfl, _, _, _⟩ := hv2.form'
  obtain ⟨A3, n3, k3, rfl, _, _, _⟩ := hv3.form'
  obtain ⟨A4, n4, k4, rfl, _, _, _⟩ := hv4.form'
  obtain ⟨wx, hwx⟩ : ∃ wx, wx = w.alloc (.cells #[.int .i64 (i64of x.kind), .int .i64 (i64of x.version), .int .i64 (i64of x.serial), .slice A1 n1 k1, .int .i64 (i64of x.cfg.tenants), .slice A2 n2 k2, .slice A3 n3 k3, .slice A4 n4 k4] 57) := ⟨_, rfl⟩
  have hax := heap_alloc_new w (.cells #[.int .i64 (i64of x.kind), .int .i64 (i64of x.version), .int .i64 (i64of x.serial), .slice A1 n1 k1, .int .i64 (i64of x.cfg.tenants), .slice A2 n2 k2, .slice A3 n3 k3, .slice A4 n4 k4] 57)
  have hka : Kp No w wx := by rw [hwx]; exact (Kp.refl No w).alloc _
  rw [← hwx] at hax
  have Hwx := Lib.hid hwx
  have Hka := Lib.hid hka
  have HF := Lib.hid (show ∀ b, F b → b < wx.heap.size from fun b hb => Nat.lt_of_lt_of_le (hF b hb) hka.size)
  have Hv1 := Lib.hid (hv1.kp hka (fun _ _ => id))
  have Hv2 := Lib.hid (hv2.kp hka (fun _ _ => id))
  have Hv3 := Lib.hid (hv3.kp hka (fun _ _ => id))
  have Hv4 := Lib.hid (hv4.kp hka (fun _ _ => id))
  have hc0 : wx.cell? ⟨w.heap.size, 0, none⟩ = some (.int .i64 (i64of x.kind)) := cell_of_row _ _ 0 _ _ _ hax
  have hc1 : wx.cell? ⟨w.heap.size, 1, none⟩ = some (.int .i64 (i64of x.version)) := cell_of_row _ _ 1 _ _ _ hax
  have hc2 : wx.cell? ⟨w.heap.size, 2, none⟩ = some (.int .i64 (i64of x.serial)) := cell_of_row _ _ 2 _ _ _ hax
  have hc3 : wx.cell? ⟨w.heap.size, 3, none⟩ = some (.slice A1 n1 k1) := cell_of_row _ _ 3 _ _ _ hax
  have hc4 : wx.cell? ⟨w.heap.size, 4, none⟩ = some (.int .i64 (i64of x.cfg.tenants)) := cell_of_row _ _ 4 _ _ _ hax
  have hc5 : wx.cell? ⟨w.heap.size, 5, none⟩ = some (.slice A2 n2 k2) := cell_of_row _ _ 5 _ _ _ hax
  have hc6 : wx.cell? ⟨w.heap.size, 6, none⟩ = some (.slice A3 n3 k3) := cell_of_row _ _ 6 _ _ _ hax
  have hc7 : wx.cell? ⟨w.heap.size, 7, none⟩ = some (.slice A4 n4 k4) := cell_of_row _ _ 7 _ _ _ hax
  clear hwx hax hka hF hv1 hv2 hv3 hv4
  go_enter Try.func23, Try.ntmps23
  go_wp2_with fail
  rw [← Hwx.out]
  go_wp2_with fail
  refine (wir_written_entry _ F x _ _ _ _ Hv1.out Hv2.out Hv3.out Hv4.out HF.out).mono ?_
  rintro e w1 ⟨hk1, hc⟩
  have Hk := Lib.hid (Hka.out.trans hk1)
  clear hk1 hc0 hc1 hc2 hc3 hc4 hc5 hc6 hc7
  rcases hc with ⟨hf, rfl⟩ | ⟨hf, v, rfl, hs⟩
  · have Hf := Lib.hid hf
    clear hf
    go_wp2_with fail
    go_ret2
    exact ⟨Hk.out, .inl ⟨Hf.out, rfl⟩⟩
  · have Hf := Lib.hid hf
    have Hs := Lib.hid hs
    clear hf hs
    go_wp2_with fail
    go_ret2
    exact ⟨Hk.out, .inr ⟨Hf.out, v, rfl, Hs.out.mono fun b _ hb => Nat.le_trans Hka.out.size hb⟩⟩

end Go.Proofs.Ytpaldbejnbcokaa
