/- Contracts of package wire: config, letter, entry as they are written. -/
import Derived.Test.YtpaldbejnbcokaaWirI
import Derived.Test.YtpaldbejnbcokaaPackB
namespace Go.Proofs.Ytpaldbejnbcokaa
open Go.RowKit

def CfgAt (w : World) (F : Nat → Prop) (c : Cfg) (cs : List Value) : Prop :=
  ∃ v1 v2 v3 v4, cs = [v1, .int .i64 (i64of c.tenants), v2, v3, v4] ∧ SliceAt ptR.slice w F c.ports v1 ∧ SliceAt prR w F c.peers v2 ∧ SliceAt wyR w F c.ways v3 ∧ SliceAt rlR.slice.slice w F c.tables v4
theorem one_slice {α : Type} {R : Rep α} {w : World} {F : Nat → Prop} {xs : List α} {v : Value} (h : SliceAt R w F xs v) : v.oneCell' = true := by
  obtain ⟨A, c, rfl, _⟩ := h
  simp [Value.oneCell']
def cfgR : Rep Cfg where
  n := 5
  rel := CfgAt
  len := fun h => by obtain ⟨_, _, _, _, rfl, _⟩ := h; rfl
  one := fun h => by
    obtain ⟨v1, v2, v3, v4, rfl, h1, h2, h3, h4⟩ := h
    intro u hu
    simp only [List.mem_cons, List.not_mem_nil, or_false] at hu
    rcases hu with rfl | rfl | rfl | rfl | rfl
    · exact one_slice h1
    · simp [Value.oneCell']
    · exact one_slice h2
    · exact one_slice h3
    · exact one_slice h4
  keep := fun h hk => by
    obtain ⟨v1, v2, v3, v4, rfl, h1, h2, h3, h4⟩ := h
    exact ⟨v1, v2, v3, v4, rfl, h1.keep hk, h2.keep hk, h3.keep hk, h4.keep hk⟩
  mono := fun h hk => by
    obtain ⟨v1, v2, v3, v4, rfl, h1, h2, h3, h4⟩ := h
    exact ⟨v1, v2, v3, v4, rfl, h1.mono hk, h2.mono hk, h3.mono hk, h4.mono hk⟩
theorem CfgAt.kp {w w' : World} {F S : Nat → Prop} {c : Cfg} {cs : List Value} (h : CfgAt w F c cs) (hk : Kp S w w') (hd : ∀ b, F b → ¬ S b) : CfgAt w' F c cs := cfgR.kp h hk hd

theorem Wrote.seq {w w1 w2 : World} {X : Nat → Prop} {l l1 : List UInt8} {lg f1 f2 : Bool} {q : Nat} {ws1 ws2 : List UInt64} {M1 M2 : Nat} (hk : Kp X w w1) (hl : l1.length ≤ l.length + M1) (he : f1 = true → l1 = l ++ enc8 ws1)
    (h : Wrote w1 w2 X l1 (lg || !f1) q f2 ws2 M2) : Wrote w w2 X l lg q (f1 && f2) (ws1 ++ ws2) (M1 + M2) := by
  obtain ⟨l2, h1, h2, h3, h4⟩ := h
  refine ⟨l2, ?_, hk.trans h2, by omega, fun hf => ?_⟩
  · have e : (lg || !(f1 && f2)) = (lg || !f1 || !f2) := by cases lg <;> cases f1 <;> cases f2 <;> rfl
    rw [e]
    exact h1
  · rw [Bool.and_eq_true] at hf
    rw [h4 hf.2, he hf.1, List.append_assoc, ← enc8_append]
theorem Wrote.of {w w1 : World} {X : Nat → Prop} {l : List UInt8} {lg : Bool} {q : Nat} {f f' : Bool} {ws ws' : List UInt64} {M M' : Nat} (h : Wrote w w1 X l lg q f ws M) (hf : f = f') (hw : ws = ws') (hM : M ≤ M') : Wrote w w1 X l lg q f' ws' M' := by
  subst hf; subst hw
  obtain ⟨l', h1, h2, h3, h4⟩ := h
  exact ⟨l', h1, h2, by omega, h4⟩

set_option maxHeartbeats 2000000 in
theorem wir_config (w : World) (X F : Nat → Prop) (l : List UInt8) (lg : Bool) (q : Nat) (c : Cfg) (v1 v2 v3 v4 : Value) (h : WirAt w X l lg q) (hX : New w X) (hv1 : SliceAt ptR.slice w F c.ports v1) (hv2 : SliceAt prR w F c.peers v2) (hv3 : SliceAt wyR w F c.ways v3) (hv4 : SliceAt rlR.slice.slice w F c.tables v4)
    (hF : ∀ b, F b → ¬ X b) (hb : l.length + 1000000000 ≤ 140737488355328) :
    Calls Try.prog 36 #[.pointer (some ⟨q, 0, none⟩), .agg #[v1, .int .i64 (i64of c.tenants), v2, v3, v4]] w fun e w' => e = .returned (.tuple #[]) ∧ Wrote w w' X l lg q c.fit c.words 1000000000 := by
  obtain ⟨A1, n1, k1, rfl, _, _, _⟩ := hv1.form'
  obtain ⟨A2, n2, k2, rfl, _, _, _⟩ := hv2.form'
  obtain ⟨A3, n3, k3, rfl, _, _, _⟩ := hv3.form'
  obtain ⟨A4, n4, k4, rfl, _, _, _⟩ := hv4.form'
  obtain ⟨h1, h2⟩ := h.box hX (.cells #[.slice A1 n1 k1, .int .i64 (i64of c.tenants), .slice A2 n2 k2, .slice A3 n3 k3, .slice A4 n4 k4] 31)
  obtain ⟨wx, hwx⟩ : ∃ wx, wx = w.alloc (.cells #[.slice A1 n1 k1, .int .i64 (i64of c.tenants), .slice A2 n2 k2, .slice A3 n3 k3, .slice A4 n4 k4] 31) := ⟨_, rfl⟩
  have hax := heap_alloc_new w (.cells #[.slice A1 n1 k1, .int .i64 (i64of c.tenants), .slice A2 n2 k2, .slice A3 n3 k3, .slice A4 n4 k4] 31)
  have hka : Kp No w wx := by rw [hwx]; exact (Kp.refl No w).alloc _
  rw [← hwx] at hax h1 h2
  have Hwx := Lib.hid hwx
  have H1 := Lib.hid h1
  have H2 := Lib.hid h2
  have Hb := Lib.hid hb
  have Hax := Lib.hid hax
  have Hv1 := Lib.hid (hv1.kp hka (fun _ _ => id))
  have Hv2 := Lib.hid (hv2.kp hka (fun _ _ => id))
  have Hv3 := Lib.hid (hv3.kp hka (fun _ _ => id))
  have Hv4 := Lib.hid (hv4.kp hka (fun _ _ => id))
  have HF := Lib.hid (show ∀ b, F b → ¬ (X b ∧ b ≠ w.heap.size) from fun b hb h => hF b hb h.1)
  clear h hX hwx hax h1 h2 hb hka hv1 hv2 hv3 hv4 hF
  go_enter Try.func36, Try.ntmps36
  go_wp2_with fail
  rw [← Hwx.out]
  refine (wir_items_portss _ _ F _ _ _ _ c.ports H1.out H2.out Hv1.out HF.out (by have := Hb.out; omega)).mono ?_
  rintro e w1 ⟨rfl, l1, h1, hk1, hl1, he1⟩
  have hax1 := hk1.heap Hax.out (fun h => h.2 rfl)
  have c1 : w1.cell? ⟨w.heap.size, 1, none⟩ = some (.int .i64 (i64of c.tenants)) := cell_of_row w1 _ 1 _ _ _ hax1
  have H3 := Lib.hid h1
  have Hk1 := Lib.hid hk1
  have Hl1 := Lib.hid hl1
  have He1 := Lib.hid he1
  have Hn1 := Lib.hid (H2.out.kp hk1)
  clear h1 hk1 hax1 hl1 he1
  go_wp2_with fail
  refine (wir_nums_lit w1 _ _ _ _ [c.tenants] _ 1 _ rfl rfl rfl H3.out Hn1.out (by have := Hb.out; have := Hl1.out; simp; omega) (by simp)).mono ?_
  rintro e w2 ⟨rfl, h1, hk2⟩
  clear c1
  have Hs2 := Lib.hid (Wrote.seq Hk1.out Hl1.out He1.out (Wrote.exact h1 hk2 (Nat.le_refl _)))
  have Hk2 := Lib.hid (Hk1.out.trans hk2)
  have Hn2 := Lib.hid (Hn1.out.kp hk2)
  have hax2 := Hk2.out.heap Hax.out (fun h => h.2 rfl)
  have c2 : w2.cell? ⟨w.heap.size, 2, none⟩ = some (.slice A2 n2 k2) := cell_of_row w2 _ 2 _ _ _ hax2
  clear h1 hk2 hax2 H3
  obtain ⟨l2, h2, _, hl2, he2⟩ := Hs2.out
  have H4 := Lib.hid h2
  have Hl2 := Lib.hid hl2
  have He2 := Lib.hid he2
  clear h2 hl2 he2
  go_wp2_with fail
  refine (wir_items_peers _ _ F _ _ _ _ c.peers H4.out Hn2.out (Hv2.out.kp Hk2.out HF.out) HF.out (by have := Hb.out; have := Hl2.out; simp at this; omega)).mono ?_
  rintro e w3 ⟨rfl, h3⟩
  clear c2 H4 Hs2
  have Hs3 := Lib.hid (Wrote.seq Hk2.out Hl2.out He2.out h3)
  clear h3
  obtain ⟨l3, h3, hk3, hl3, he3⟩ := Hs3.out
  have Hk3 := Lib.hid hk3
  have Hn3 := Lib.hid (H2.out.kp hk3)
  have hax3 := hk3.heap Hax.out (fun h => h.2 rfl)
  have c3 : w3.cell? ⟨w.heap.size, 3, none⟩ = some (.slice A3 n3 k3) := cell_of_row w3 _ 3 _ _ _ hax3
  have H4 := Lib.hid h3
  have Hl3 := Lib.hid hl3
  have He3 := Lib.hid he3
  clear h3 hl3 he3 hk3 hax3 Hs3
  go_wp2_with fail
  refine (wir_items_ways _ _ F _ _ _ _ c.ways H4.out Hn3.out (Hv3.out.kp Hk3.out HF.out) HF.out (by have := Hb.out; have := Hl3.out; simp at this; omega)).mono ?_
  rintro e w4 ⟨rfl, h4⟩
  clear c3 H4
  have Hs4 := Lib.hid (Wrote.seq Hk3.out Hl3.out He3.out h4)
  clear h4
  obtain ⟨l4, h4, hk4, hl4, he4⟩ := Hs4.out
  have Hk4 := Lib.hid hk4
  have Hn4 := Lib.hid (H2.out.kp hk4)
  have hax4 := hk4.heap Hax.out (fun h => h.2 rfl)
  have c4 : w4.cell? ⟨w.heap.size, 4, none⟩ = some (.slice A4 n4 k4) := cell_of_row w4 _ 4 _ _ _ hax4
  have H4 := Lib.hid h4
  have Hl4 := Lib.hid hl4
  have He4 := Lib.hid he4
  clear h4 hl4 he4 hk4 hax4 Hs4
  go_wp2_with fail
  refine (wir_items_tabless _ _ F _ _ _ _ c.tables H4.out Hn4.out (Hv4.out.kp Hk4.out HF.out) HF.out (by have := Hb.out; have := Hl4.out; simp at this; omega)).mono ?_
  rintro e w5 ⟨rfl, h5⟩
  clear c4
  have Hs5 := Lib.hid (Wrote.seq Hk4.out Hl4.out He4.out h5)
  clear h5
  go_wp2_with fail
  go_end0
  have e1 : (fitL portsFit c.ports && true && fitL yes c.peers && fitL yes c.ways && fitL tablesFit c.tables) = c.fit := by simp [Cfg.fit, Bool.and_assoc]
  have e2 : itemsW portsW c.ports ++ [c.tenants] ++ itemsW Pr.words c.peers ++ itemsW Wy.words c.ways ++ itemsW tablesW c.tables = c.words := by simp [Cfg.words]
  exact ⟨rfl, Wrote.unbox (by rw [← Hwx.out]; exact Hs5.out.of e1 e2 (by simp))⟩


set_option maxHeartbeats 1000000 in
theorem wir_letter (w : World) (X F : Nat → Prop) (l : List UInt8) (lg : Bool) (q : Nat) (x : Lt) (v1 : Value) (h : WirAt w X l lg q) (hX : New w X) (hv1 : SliceAt rlR.slice w F x.tables v1)
    (hF : ∀ b, F b → ¬ X b) (hb : l.length + 1000001000 ≤ 140737488355328) :
    Calls Try.prog 45 #[.pointer (some ⟨q, 0, none⟩), .agg #[.int .i64 (i64of x.kind), .int .i64 (i64of x.fro), .int .i64 (i64of x.to), .int .i64 (i64of x.version), .int .i64 (i64of x.serial), v1]] w fun e w' => e = .returned (.tuple #[]) ∧ Wrote w w' X l lg q (tablesFit x.tables) x.words 1000001000 := by
  obtain ⟨A1, n1, k1, rfl, _, _, _⟩ := hv1.form'
  obtain ⟨h1, h2⟩ := h.box hX (.cells #[.int .i64 (i64of x.kind), .int .i64 (i64of x.fro), .int .i64 (i64of x.to), .int .i64 (i64of x.version), .int .i64 (i64of x.serial), .slice A1 n1 k1] 46)
  obtain ⟨wx, hwx⟩ : ∃ wx, wx = w.alloc (.cells #[.int .i64 (i64of x.kind), .int .i64 (i64of x.fro), .int .i64 (i64of x.to), .int .i64 (i64of x.version), .int .i64 (i64of x.serial), .slice A1 n1 k1] 46) := ⟨_, rfl⟩
  have hax := heap_alloc_new w (.cells #[.int .i64 (i64of x.kind), .int .i64 (i64of x.fro), .int .i64 (i64of x.to), .int .i64 (i64of x.version), .int .i64 (i64of x.serial), .slice A1 n1 k1] 46)
  have hka : Kp No w wx := by rw [hwx]; exact (Kp.refl No w).alloc _
  have hsz : w.heap.size + 1 = wx.heap.size := by rw [hwx, alloc_size]
  rw [← hwx] at hax h1 h2
  have Hwx := Lib.hid hwx
  have Hsz := Lib.hid hsz
  have H1 := Lib.hid h1
  have H2 := Lib.hid h2
  have Hb := Lib.hid hb
  have Hax := Lib.hid hax
  have Hv1 := Lib.hid (hv1.kp hka (fun _ _ => id))
  have HF := Lib.hid (show ∀ b, F b → ¬ (X b ∧ b ≠ w.heap.size) from fun b hb h => hF b hb h.1)
  clear h hX hwx hax h1 h2 hb hka hsz hF hv1
  go_enter Try.func45, Try.ntmps45
  go_wp2_with fail
  rw [← Hwx.out]
  refine (wir_nums_lit wx _ _ _ _ [x.kind, x.fro, x.to, x.version, x.serial] _ 5 _ Hsz.out rfl rfl H1.out H2.out (by have := Hb.out; simp only [List.length_cons, List.length_nil]; omega) (by simp only [List.length_cons, List.length_nil]; omega)).mono ?_
  rintro e w1 ⟨rfl, h1, hk1⟩
  have hax1 := hk1.heap Hax.out (fun h => h.2 rfl)
  have c5 : w1.cell? ⟨w.heap.size, 5, none⟩ = some (.slice A1 n1 k1) := cell_of_row w1 _ 5 _ _ _ hax1
  have Hk1 := Lib.hid hk1
  have H3 := Lib.hid h1
  have Hn1 := Lib.hid (H2.out.kp hk1)
  clear h1 hk1 hax1
  go_wp2_with fail
  refine (wir_tables _ _ F _ _ _ _ x.tables H3.out Hn1.out (Hv1.out.kp Hk1.out HF.out) HF.out (by have := Hb.out; rw [List.length_append, enc8_len]; simp only [List.length_cons, List.length_nil]; omega)).mono ?_
  rintro e w2 ⟨rfl, h5⟩
  have Hs2 := Lib.hid (Wrote.seq (l := l) (lg := lg) (f1 := true) (M1 := 40) (ws1 := [x.kind, x.fro, x.to, x.version, x.serial]) Hk1.out (by rw [List.length_append, enc8_len]; simp only [List.length_cons, List.length_nil]; omega) (fun _ => rfl) (by rw [Bool.not_true, Bool.or_false]; exact h5))
  clear h5
  go_wp2_with fail
  go_end0
  exact ⟨rfl, Wrote.unbox (by rw [← Hwx.out]; exact Hs2.out.of (Bool.true_and _) rfl (by omega))⟩


set_option maxHeartbeats 1000000 in
theorem wir_entry (w : World) (X F : Nat → Prop) (l : List UInt8) (lg : Bool) (q : Nat) (x : En) (v1 v2 v3 v4 : Value) (h : WirAt w X l lg q) (hX : New w X) (hv1 : SliceAt ptR.slice w F x.cfg.ports v1) (hv2 : SliceAt prR w F x.cfg.peers v2) (hv3 : SliceAt wyR w F x.cfg.ways v3) (hv4 : SliceAt rlR.slice.slice w F x.cfg.tables v4)
    (hF : ∀ b, F b → ¬ X b) (hb : l.length + 1000001000 ≤ 140737488355328) :
    Calls Try.prog 50 #[.pointer (some ⟨q, 0, none⟩), .agg #[.int .i64 (i64of x.kind), .int .i64 (i64of x.version), .int .i64 (i64of x.serial), v1, .int .i64 (i64of x.cfg.tenants), v2, v3, v4]] w fun e w' => e = .returned (.tuple #[]) ∧ Wrote w w' X l lg q x.cfg.fit x.words 1000001000 := by
  obtain ⟨A1, n1, k1, rfl, _, _, _⟩ := hv1.form'
  obtain ⟨A2, n2, k2, rfl, _, _, _⟩ := hv2.form'
  obtain ⟨A3, n3, k3, rfl, _, _, _⟩ := hv3.form'
  obtain ⟨A4, n4, k4, rfl, _, _, _⟩ := hv4.form'
  obtain ⟨h1, h2⟩ := h.box hX (.cells #[.int .i64 (i64of x.kind), .int .i64 (i64of x.version), .int .i64 (i64of x.serial), .slice A1 n1 k1, .int .i64 (i64of x.cfg.tenants), .slice A2 n2 k2, .slice A3 n3 k3, .slice A4 n4 k4] 57)
  obtain ⟨wx, hwx⟩ : ∃ wx, wx = w.alloc (.cells #[.int .i64 (i64of x.kind), .int .i64 (i64of x.version), .int .i64 (i64of x.serial), .slice A1 n1 k1, .int .i64 (i64of x.cfg.tenants), .slice A2 n2 k2, .slice A3 n3 k3, .slice A4 n4 k4] 57) := ⟨_, rfl⟩
  have hax := heap_alloc_new w (.cells #[.int .i64 (i64of x.kind), .int .i64 (i64of x.version), .int .i64 (i64of x.serial), .slice A1 n1 k1, .int .i64 (i64of x.cfg.tenants), .slice A2 n2 k2, .slice A3 n3 k3, .slice A4 n4 k4] 57)
  have hka : Kp No w wx := by rw [hwx]; exact (Kp.refl No w).alloc _
  have hsz : w.heap.size + 1 = wx.heap.size := by rw [hwx, alloc_size]
  rw [← hwx] at hax h1 h2
  have Hwx := Lib.hid hwx
  have Hsz := Lib.hid hsz
  have H1 := Lib.hid h1
  have H2 := Lib.hid h2
  have Hb := Lib.hid hb
  have Hax := Lib.hid hax
  have Hv1 := Lib.hid (hv1.kp hka (fun _ _ => id))
  have Hv2 := Lib.hid (hv2.kp hka (fun _ _ => id))
  have Hv3 := Lib.hid (hv3.kp hka (fun _ _ => id))
  have Hv4 := Lib.hid (hv4.kp hka (fun _ _ => id))
  have HF := Lib.hid (show ∀ b, F b → ¬ (X b ∧ b ≠ w.heap.size) from fun b hb h => hF b hb h.1)
  clear h hX hwx hax h1 h2 hb hka hsz hF hv1 hv2 hv3 hv4
  go_enter Try.func50, Try.ntmps50
  go_wp2_with fail
  rw [← Hwx.out]
  refine (wir_nums_lit wx _ _ _ _ [x.kind, x.version, x.serial] _ 3 _ Hsz.out rfl rfl H1.out H2.out (by have := Hb.out; simp only [List.length_cons, List.length_nil]; omega) (by simp only [List.length_cons, List.length_nil]; omega)).mono ?_
  rintro e w1 ⟨rfl, h1, hk1⟩
  have hax1 := hk1.heap Hax.out (fun h => h.2 rfl)
  have c3 : w1.cell? ⟨w.heap.size, 3, none⟩ = some (.slice A1 n1 k1) := cell_of_row w1 _ 3 _ _ _ hax1
  have c4 : w1.cell? ⟨w.heap.size, 4, none⟩ = some (.int .i64 (i64of x.cfg.tenants)) := cell_of_row w1 _ 4 _ _ _ hax1
  have c5 : w1.cell? ⟨w.heap.size, 5, none⟩ = some (.slice A2 n2 k2) := cell_of_row w1 _ 5 _ _ _ hax1
  have c6 : w1.cell? ⟨w.heap.size, 6, none⟩ = some (.slice A3 n3 k3) := cell_of_row w1 _ 6 _ _ _ hax1
  have c7 : w1.cell? ⟨w.heap.size, 7, none⟩ = some (.slice A4 n4 k4) := cell_of_row w1 _ 7 _ _ _ hax1
  have Hk1 := Lib.hid hk1
  have H3 := Lib.hid h1
  have Hn1 := Lib.hid (H2.out.kp hk1)
  clear h1 hk1 hax1
  go_wp2_with fail
  refine (wir_config _ _ F _ _ _ x.cfg _ _ _ _ H3.out Hn1.out (Hv1.out.kp Hk1.out HF.out) (Hv2.out.kp Hk1.out HF.out) (Hv3.out.kp Hk1.out HF.out) (Hv4.out.kp Hk1.out HF.out) HF.out (by have := Hb.out; rw [List.length_append, enc8_len]; simp only [List.length_cons, List.length_nil]; omega)).mono ?_
  rintro e w2 ⟨rfl, h5⟩
  have Hs2 := Lib.hid (Wrote.seq (l := l) (lg := lg) (f1 := true) (M1 := 24) (ws1 := [x.kind, x.version, x.serial]) Hk1.out (by rw [List.length_append, enc8_len]; simp only [List.length_cons, List.length_nil]; omega) (fun _ => rfl) (by rw [Bool.not_true, Bool.or_false]; exact h5))
  clear h5
  go_wp2_with fail
  go_end0
  exact ⟨rfl, Wrote.unbox (by rw [← Hwx.out]; exact Hs2.out.of (Bool.true_and _) rfl (by omega))⟩

end Go.Proofs.Ytpaldbejnbcokaa
