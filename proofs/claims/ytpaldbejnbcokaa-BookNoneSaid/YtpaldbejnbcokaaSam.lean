/- Contracts of package customhouseref08: Ports, Rules (two lists of lists compared). -/
import Derived.Test.YtpaldbejnbcokaaEqs
import Derived.Deep.Quiet
import Derived.Deep.QuietTactic
import Derived.Deep.Cut
import Derived.Deep.CutRange
import Derived.Deep.CutBlock
namespace Go.Proofs.Ytpaldbejnbcokaa
open Go.RowKit
set_option linter.unusedSimpArgs false
set_option linter.unusedVariables false

set_option maxRecDepth 100000 in
theorem ref_Ports_r11 (w : World) (q q2 n ca cb k j ba oa bb ob b3 o3 b4 o4 nx cx cy : Nat) (p0 p1 p2 p3 p4 r0 r1 r2 r3 r4 : Int) (b : Bool) (hkn : (k : Int) < (n : Int)) (hjn : (j : Int) < (nx : Int)) (ea : w.cell? ⟨ba, oa + k, none⟩ = some (.slice (some ⟨b3, o3, none⟩) nx cx)) (eb : w.cell? ⟨bb, ob + k, none⟩ = some (.slice (some ⟨b4, o4, none⟩) nx cy)) (a0 : w.cell? ⟨q, 0, none⟩ = some (.slice (some ⟨ba, oa, none⟩) n ca)) (b0 : w.cell? ⟨q2, 0, none⟩ = some (.slice (some ⟨bb, ob, none⟩) n cb)) (e0 : w.cell? ⟨b3, o3 + j * 5, none⟩ = some (.int .i64 p0)) (e1 : w.cell? ⟨b3, o3 + j * 5 + 1, none⟩ = some (.int .i64 p1)) (e2 : w.cell? ⟨b3, o3 + j * 5 + 2, none⟩ = some (.int .i64 p2)) (e3 : w.cell? ⟨b3, o3 + j * 5 + 3, none⟩ = some (.int .i64 p3)) (e4 : w.cell? ⟨b3, o3 + j * 5 + 4, none⟩ = some (.int .i64 p4)) (f0 : w.cell? ⟨b4, o4 + j * 5, none⟩ = some (.int .i64 r0)) (f1 : w.cell? ⟨b4, o4 + j * 5 + 1, none⟩ = some (.int .i64 r1)) (f2 : w.cell? ⟨b4, o4 + j * 5 + 2, none⟩ = some (.int .i64 r2)) (f3 : w.cell? ⟨b4, o4 + j * 5 + 3, none⟩ = some (.int .i64 r3)) (f4 : w.cell? ⟨b4, o4 + j * 5 + 4, none⟩ = some (.int .i64 r4)) (hneq : ∀ w : World, (binOp .neq 88 (.agg #[.int .i64 p0, .int .i64 p1, .int .i64 p2, .int .i64 p3, .int .i64 p4]) (.agg #[.int .i64 r0, .int .i64 r1, .int .i64 r2, .int .i64 r3, .int .i64 r4])).run Try.prog w = .ok (.bool b) w) {K : Act → World → Prop} {Q' : Exit → Act → World → Prop} {u0 u1 u4 u7 u8 u9 u10 u11 u12 u13 u14 u15 u16 u17 u18 u19 u20 u21 u22 u23 u24 u25 u26 u27 u28 u29 u30 u31 u32 u33 u34 u35 u36 u37 u38 u39 u40 u41 u42 u43 u44 u45 u46 u47 u48 u49 u50 u51 u52 u53 u54 u55 u56 u57 u58 u59 u60 : Value}
    (HK : Hid (∀ (v44 v45 v46 v47 v48 v49 v50 v51 v52 v53 v54 v55 v56 v57 v58 v59 o : Value) (wr : World), (o = .bool b ∧ ∃ n, wr = w.drewN n) → K { tmps := #[u0, u1, .pointer (some ⟨q, 0, none⟩), .pointer (some ⟨q2, 0, none⟩), u4, .int .i64 k, .int .i64 j, u7, u8, u9, u10, u11, u12, u13, u14, u15, u16, u17, u18, u19, u20, u21, u22, u23, u24, u25, u26, u27, u28, u29, u30, u31, u32, u33, u34, u35, u36, u37, u38, u39, u40, u41, u42, u43, v44, v45, v46, v47, v48, v49, v50, v51, v52, v53, v54, v55, v56, v57, v58, v59, o], defers := [] } wr)) :
    ∀ cc, secRegion 11 (Try.f41.body.getD .skip) = cc → cc.wp Try.prog (Exit.then K Q') { tmps := #[u0, u1, .pointer (some ⟨q, 0, none⟩), .pointer (some ⟨q2, 0, none⟩), u4, .int .i64 k, .int .i64 j, u7, u8, u9, u10, u11, u12, u13, u14, u15, u16, u17, u18, u19, u20, u21, u22, u23, u24, u25, u26, u27, u28, u29, u30, u31, u32, u33, u34, u35, u36, u37, u38, u39, u40, u41, u42, u43, u44, u45, u46, u47, u48, u49, u50, u51, u52, u53, u54, u55, u56, u57, u58, u59, u60], defers := [] } w := by
  rintro cc rfl
  show Code.wp _ (Code.region 11 _ _) _ _ _
  go_quiet (fail)
  refine HK.out _ _ _ _ _ _ _ _ _ _ _ _ _ _ _ _ _ _ ?_
  exact ⟨rfl, _, rfl⟩

set_option maxRecDepth 100000 in
set_option maxHeartbeats 4000000 in
theorem ref_Ports (w : World) (F G : Nat → Prop) (xs ys : List (List Pt)) (va vb : Value) (ha : SliceAt ptR.slice w F xs va) (hb : SliceAt ptR.slice w G ys vb) :
    Calls Try.prog 41 #[.agg #[va], .agg #[vb]] w fun e w' => SameOut w w' (xs = ys) e := by
  obtain ⟨A, n, ca, rfl, Hn, hca1, hca2⟩ := ha.form'
  obtain ⟨B, m, cb, rfl, Hm, hcb1, hcb2⟩ := hb.form'
  obtain ⟨wx, hwx⟩ : ∃ wx, wx = (w.alloc (.cells #[.slice A n ca] 24)).alloc (.cells #[.slice B m cb] 24) := ⟨_, rfl⟩
  have hk0 : Kp No w wx := by rw [hwx]; exact ((Kp.refl No w).alloc _).alloc _
  obtain ⟨q, hq⟩ : ∃ q, q = w.heap.size := ⟨_, rfl⟩
  have r1 : wx.heap[q]? = some (.cells #[.slice A n ca] 24 (0, 0)) := by rw [hwx, hq]; exact ((Kp.refl No _).alloc _).heap (heap_alloc_new w _) id
  have r2 : wx.heap[q + 1]? = some (.cells #[.slice B m cb] 24 (0, 0)) := by
    have := heap_alloc_new (w.alloc (.cells #[.slice A n ca] 24)) (.cells #[.slice B m cb] 24)
    rw [alloc_size, ← hq] at this
    rw [hwx]; exact this
  have a0 : wx.cell? ⟨q, 0, none⟩ = some (.slice A n ca) := cell_of_row _ _ 0 _ _ _ r1
  have af : ∀ o, wx.frozen? ⟨q, o, none⟩ = false := fun o => frz_of_row _ _ o _ _ r1
  have b0 : wx.cell? ⟨q + 1, 0, none⟩ = some (.slice B m cb) := cell_of_row _ _ 0 _ _ _ r2
  have bf : ∀ o, wx.frozen? ⟨q + 1, o, none⟩ = false := fun o => frz_of_row _ _ o _ _ r2
  have Ha := Lib.hid (ha.kp hk0 (fun _ _ => id))
  have Hb := Lib.hid (hb.kp hk0 (fun _ _ => id))
  have Hk0 := Lib.hid hk0
  have Hwx := Lib.hid hwx
  have Hq := Lib.hid hq
  clear ha hb hk0 hwx hq r1 r2 af bf
  go_enter Try.func41, Try.ntmps41
  go_upto_region 1 with (fail)
  rw [← Hwx.out, ← Hq.out]
  by_cases hnm : n = m
  rotate_left
  · have q1 : ¬ (n : Int) = (m : Int) := by omega
    have Hne := Lib.hid (diff_len (fun h => hnm (Hn.out.trans (h.trans Hm.out.symm))))
    clear hnm
    go_wp2_with fail
    go_ret
    exact ⟨false, rfl, ⟨(fun h => by cases h), fun h => (Hne.out h).elim⟩, Hk0.out⟩
  subst hnm
  go_wp2_with fail
  go_loopw [5] (fun i wr => ∃ k : Nat, k ≤ n ∧ i = .int .i64 k ∧ (∀ i < k, xs[i]? = ys[i]?) ∧ Kp No wx wr) (fun i _ => n - (intOf i).toNat)
  case atStart => exact ⟨0, Nat.zero_le _, rfl, fun i h => absurd h (Nat.not_lt_zero _), Kp.refl No _⟩
  case round =>
    obtain ⟨k, hk, rfl, hsm, hkr⟩ := hrel
    have q3 : (0 : Int) ≤ (k : Int) := by omega
    have Hsm := Lib.hid hsm
    have HkW := Lib.hid hkr
    have a0 := hkr.cell a0 id
    have b0 := hkr.cell b0 id
    by_cases hlt : k < n
    · have q1 : (k : Int) < (n : Int) := by omega
      obtain ⟨x, hx⟩ : ∃ x, xs[k]? = some x := ⟨_, List.getElem?_eq_getElem (by rw [← Hn.out]; exact hlt)⟩
      obtain ⟨y, hy⟩ : ∃ y, ys[k]? = some y := ⟨_, List.getElem?_eq_getElem (by rw [← Hm.out]; exact hlt)⟩
      obtain ⟨ba, oa, ua, rfl, hFa, ea, hxa⟩ := (Ha.out.kp hkr (fun _ _ => id)).get_slice hx
      obtain ⟨bb, ob, ub, rfl, hFb, eb, hyb⟩ := (Hb.out.kp hkr (fun _ _ => id)).get_slice hy
      obtain ⟨Ax, nx, cx, rfl, Hnx, hcx1, hcx2⟩ := hxa.form'
      obtain ⟨By, ny, cy, rfl, Hny, hcy1, hcy2⟩ := hyb.form'
      have Hxa := Lib.hid hxa
      have Hyb := Lib.hid hyb
      have Hx := Lib.hid hx
      have Hy := Lib.hid hy
      have Hlt := Lib.hid hlt
      clear hxa hyb hx hy hlt hsm hkr
      by_cases hxy : nx = ny
      rotate_left
      · have q4 : ¬ (nx : Int) = (ny : Int) := by omega
        have Hne := Lib.hid (diff_at Hx.out Hy.out (diff_len (fun h => hxy (Hnx.out.trans (h.trans Hny.out.symm)))))
        clear hxy
        go_upto_region 6 with (fail)
        go_quiet (fail)
        go_wp2_with fail
        go_ret
        exact ⟨false, rfl, ⟨(fun h => by cases h), fun h => (Hne.out h).elim⟩, (Hk0.out.trans HkW.out).drewN _⟩
      subst hxy
      go_upto_region 6 with (fail)
      go_quiet (fail)
      obtain ⟨wq, hwq⟩ : ∃ wq, wq = wr.drewN nq := ⟨_, rfl⟩
      rw [← hwq]
      have hkq : Kp No wr wq := by rw [hwq]; exact (Kp.refl No wr).drewN _
      have ea := hkq.cell ea id
      have eb := hkq.cell eb id
      have a0 := hkq.cell a0 id
      have b0 := hkq.cell b0 id
      have Hxa := Lib.hid (Hxa.out.kp hkq (fun _ _ => id))
      have Hyb := Lib.hid (Hyb.out.kp hkq (fun _ _ => id))
      have HkW := Lib.hid (HkW.out.trans hkq)
      clear hkq hwq
      go_wp2_with fail
      go_loopw [6] (fun i wr => ∃ j : Nat, j ≤ nx ∧ i = .int .i64 j ∧ (∀ i < j, x[i]? = y[i]?) ∧ Kp No wq wr) (fun i _ => nx - (intOf i).toNat)
      case atStart => exact ⟨0, Nat.zero_le _, rfl, fun i h => absurd h (Nat.not_lt_zero _), Kp.refl No _⟩
      case round =>
        obtain ⟨j, hj, rfl, hsm, hkr⟩ := hrel
        have q5 : (0 : Int) ≤ (j : Int) := by omega
        have Hsm2 := Lib.hid hsm
        have HkW2 := Lib.hid hkr
        have ea := hkr.cell ea id
        have eb := hkr.cell eb id
        have a0 := hkr.cell a0 id
        have b0 := hkr.cell b0 id
        by_cases hjl : j < nx
        · have q6 : (j : Int) < (nx : Int) := by omega
          obtain ⟨p, hp⟩ : ∃ p, x[j]? = some p := ⟨_, List.getElem?_eq_getElem (by rw [← Hnx.out]; exact hjl)⟩
          obtain ⟨r, hr⟩ : ∃ r, y[j]? = some r := ⟨_, List.getElem?_eq_getElem (by rw [← Hny.out]; exact hjl)⟩
          obtain ⟨b3, o3, rfl, _, e0, e1, e2, e3, e4⟩ := (Hxa.out.kp hkr (fun _ _ => id)).get_Pt hp
          obtain ⟨b4, o4, rfl, _, f0, f1, f2, f3, f4⟩ := (Hyb.out.kp hkr (fun _ _ => id)).get_Pt hr
          have Hp := Lib.hid hp
          have Hr := Lib.hid hr
          have Hjl := Lib.hid hjl
          have hneq := fun w : World => neq_Pt w p r
          generalize i64of p.kind = p0 at e0 hneq
          generalize i64of r.kind = r0 at f0 hneq
          generalize i64of p.tenant = p1 at e1 hneq
          generalize i64of r.tenant = r1 at f1 hneq
          generalize i64of p.peer = p2 at e2 hneq
          generalize i64of r.peer = r2 at f2 hneq
          generalize i64of p.at_ = p3 at e3 hneq
          generalize i64of r.at_ = r3 at f3 hneq
          generalize i64of p.cost = p4 at e4 hneq
          generalize i64of r.cost = r4 at f4 hneq
          clear hp hr hjl hsm hkr
          by_cases hpr : p.words = r.words
          · have Heq := Lib.hid (words_Pt.1 hpr)
            simp only [decide_eq_true hpr, Bool.not_true] at hneq
            clear hpr
            go_upto_region 11 with (fail)
            refine ref_Ports_r11 _ q (q + 1) n ca cb k j ba oa bb ob b3 o3 b4 o4 nx cx cy p0 p1 p2 p3 p4 r0 r1 r2 r3 r4 _ q1 q6 ea eb a0 b0 e0 e1 e2 e3 e4 f0 f1 f2 f3 f4 hneq (Lib.hid ?_) _ rfl
            intro v44 v45 v46 v47 v48 v49 v50 v51 v52 v53 v54 v55 v56 v57 v58 v59 o wr hrel
            obtain ⟨rfl, nq, rfl⟩ := hrel
            go_wp2_with fail
            go_roundw
            case rel => exact ⟨j + 1, by have := Hjl.out; omega, by go_num, same_step Hsm2.out Hp.out Hr.out Heq.out, HkW2.out.drewN _⟩
            case measure => simp [intOf]; have := Hjl.out; omega
          · have Hne := Lib.hid (diff_at Hx.out Hy.out (diff_at Hp.out Hr.out (fun h => hpr (words_Pt.2 h))))
            simp only [decide_eq_false hpr, Bool.not_false] at hneq
            clear hpr
            go_upto_region 11 with (fail)
            refine ref_Ports_r11 _ q (q + 1) n ca cb k j ba oa bb ob b3 o3 b4 o4 nx cx cy p0 p1 p2 p3 p4 r0 r1 r2 r3 r4 _ q1 q6 ea eb a0 b0 e0 e1 e2 e3 e4 f0 f1 f2 f3 f4 hneq (Lib.hid ?_) _ rfl
            intro v44 v45 v46 v47 v48 v49 v50 v51 v52 v53 v54 v55 v56 v57 v58 v59 o wr hrel
            obtain ⟨rfl, nq, rfl⟩ := hrel
            go_wp2_with fail
            go_ret
            exact ⟨false, rfl, ⟨(fun h => by cases h), fun h => (Hne.out h).elim⟩, (Hk0.out.trans (HkW.out.trans HkW2.out)).drewN _⟩
        · have q6 : ¬ (j : Int) < (nx : Int) := by omega
          have Hxy := Lib.hid (same_all Hsm2.out (by rw [← Hnx.out]; omega) (by rw [← Hny.out]; omega))
          clear hjl hsm hkr
          go_wp2_with fail
          go_roundw
          case rel => exact ⟨k + 1, by have := Hlt.out; omega, by go_num, same_step Hsm.out Hx.out Hy.out Hxy.out, HkW.out.trans HkW2.out⟩
          case measure => simp [intOf]; have := Hlt.out; omega
    · have q1 : ¬ (k : Int) < (n : Int) := by omega
      have Hxy := Lib.hid (same_all Hsm.out (by rw [← Hn.out]; omega) (by rw [← Hm.out]; omega))
      clear hlt hsm hkr
      go_wp2_with fail
      go_ret
      exact ⟨true, rfl, ⟨fun _ => Hxy.out, fun _ => rfl⟩, Hk0.out.trans HkW.out⟩
set_option maxRecDepth 100000 in
theorem ref_Rules_r11 (w : World) (n ca cb k j ba oa bb ob b3 o3 b4 o4 nx cx cy : Nat) (p0 p1 p2 p3 p4 p5 p6 p7 p8 p9 p10 p11 r0 r1 r2 r3 r4 r5 r6 r7 r8 r9 r10 r11 : Int) (b : Bool) (hkn : (k : Int) < (n : Int)) (hjn : (j : Int) < (nx : Int)) (ea : w.cell? ⟨ba, oa + k, none⟩ = some (.slice (some ⟨b3, o3, none⟩) nx cx)) (eb : w.cell? ⟨bb, ob + k, none⟩ = some (.slice (some ⟨b4, o4, none⟩) nx cy)) (e0 : w.cell? ⟨b3, o3 + j * 12, none⟩ = some (.int .i64 p0)) (e1 : w.cell? ⟨b3, o3 + j * 12 + 1, none⟩ = some (.int .u64 p1)) (e2 : w.cell? ⟨b3, o3 + j * 12 + 2, none⟩ = some (.int .u64 p2)) (e3 : w.cell? ⟨b3, o3 + j * 12 + 3, none⟩ = some (.int .u64 p3)) (e4 : w.cell? ⟨b3, o3 + j * 12 + 4, none⟩ = some (.int .u64 p4)) (e5 : w.cell? ⟨b3, o3 + j * 12 + 5, none⟩ = some (.int .i64 p5)) (e6 : w.cell? ⟨b3, o3 + j * 12 + 6, none⟩ = some (.int .i64 p6)) (e7 : w.cell? ⟨b3, o3 + j * 12 + 7, none⟩ = some (.int .i64 p7)) (e8 : w.cell? ⟨b3, o3 + j * 12 + 8, none⟩ = some (.int .u64 p8)) (e9 : w.cell? ⟨b3, o3 + j * 12 + 9, none⟩ = some (.int .u64 p9)) (e10 : w.cell? ⟨b3, o3 + j * 12 + 10, none⟩ = some (.int .u64 p10)) (e11 : w.cell? ⟨b3, o3 + j * 12 + 11, none⟩ = some (.int .u64 p11)) (f0 : w.cell? ⟨b4, o4 + j * 12, none⟩ = some (.int .i64 r0)) (f1 : w.cell? ⟨b4, o4 + j * 12 + 1, none⟩ = some (.int .u64 r1)) (f2 : w.cell? ⟨b4, o4 + j * 12 + 2, none⟩ = some (.int .u64 r2)) (f3 : w.cell? ⟨b4, o4 + j * 12 + 3, none⟩ = some (.int .u64 r3)) (f4 : w.cell? ⟨b4, o4 + j * 12 + 4, none⟩ = some (.int .u64 r4)) (f5 : w.cell? ⟨b4, o4 + j * 12 + 5, none⟩ = some (.int .i64 r5)) (f6 : w.cell? ⟨b4, o4 + j * 12 + 6, none⟩ = some (.int .i64 r6)) (f7 : w.cell? ⟨b4, o4 + j * 12 + 7, none⟩ = some (.int .i64 r7)) (f8 : w.cell? ⟨b4, o4 + j * 12 + 8, none⟩ = some (.int .u64 r8)) (f9 : w.cell? ⟨b4, o4 + j * 12 + 9, none⟩ = some (.int .u64 r9)) (f10 : w.cell? ⟨b4, o4 + j * 12 + 10, none⟩ = some (.int .u64 r10)) (f11 : w.cell? ⟨b4, o4 + j * 12 + 11, none⟩ = some (.int .u64 r11)) (hneq : ∀ w : World, (binOp .neq 112 (.agg #[.int .i64 p0, .int .u64 p1, .int .u64 p2, .int .u64 p3, .int .u64 p4, .int .i64 p5, .int .i64 p6, .int .i64 p7, .int .u64 p8, .int .u64 p9, .int .u64 p10, .int .u64 p11]) (.agg #[.int .i64 r0, .int .u64 r1, .int .u64 r2, .int .u64 r3, .int .u64 r4, .int .i64 r5, .int .i64 r6, .int .i64 r7, .int .u64 r8, .int .u64 r9, .int .u64 r10, .int .u64 r11])).run Try.prog w = .ok (.bool b) w) {K : Act → World → Prop} {Q' : Exit → Act → World → Prop} {u2 u3 u4 u7 u8 u9 u10 u11 u12 u13 u14 u15 u16 u17 u18 u19 u20 u21 u22 u23 u24 u25 u26 u27 u28 u29 u30 u31 u32 u33 u34 u35 u36 u37 u38 u39 u40 u41 u42 u43 u44 u45 u46 u47 u48 u49 u50 u51 u52 : Value}
    (HK : Hid (∀ (v38 v39 v40 v41 v42 v43 v44 v45 v46 v47 v48 v49 v50 v51 o : Value) (wr : World), (o = .bool b ∧ ∃ n, wr = w.drewN n) → K { tmps := #[.slice (some ⟨ba, oa, none⟩) n ca, .slice (some ⟨bb, ob, none⟩) n cb, u2, u3, u4, .int .i64 k, .int .i64 j, u7, u8, u9, u10, u11, u12, u13, u14, u15, u16, u17, u18, u19, u20, u21, u22, u23, u24, u25, u26, u27, u28, u29, u30, u31, u32, u33, u34, u35, u36, u37, v38, v39, v40, v41, v42, v43, v44, v45, v46, v47, v48, v49, v50, v51, o], defers := [] } wr)) :
    ∀ cc, secRegion 11 (Try.f42.body.getD .skip) = cc → cc.wp Try.prog (Exit.then K Q') { tmps := #[.slice (some ⟨ba, oa, none⟩) n ca, .slice (some ⟨bb, ob, none⟩) n cb, u2, u3, u4, .int .i64 k, .int .i64 j, u7, u8, u9, u10, u11, u12, u13, u14, u15, u16, u17, u18, u19, u20, u21, u22, u23, u24, u25, u26, u27, u28, u29, u30, u31, u32, u33, u34, u35, u36, u37, u38, u39, u40, u41, u42, u43, u44, u45, u46, u47, u48, u49, u50, u51, u52], defers := [] } w := by
  rintro cc rfl
  show Code.wp _ (Code.region 11 _ _) _ _ _
  go_quiet (fail)
  refine HK.out _ _ _ _ _ _ _ _ _ _ _ _ _ _ _ _ ?_
  exact ⟨rfl, _, rfl⟩

set_option maxRecDepth 100000 in
set_option maxHeartbeats 4000000 in
theorem ref_Rules (w : World) (F G : Nat → Prop) (xs ys : List (List Rl)) (va vb : Value) (ha : SliceAt rlR.slice w F xs va) (hb : SliceAt rlR.slice w G ys vb) :
    Calls Try.prog 42 #[va, vb] w fun e w' => SameOut w w' (xs = ys) e := by
  obtain ⟨A, n, ca, rfl, Hn, hca1, hca2⟩ := ha.form'
  obtain ⟨B, m, cb, rfl, Hm, hcb1, hcb2⟩ := hb.form'
  have Ha := Lib.hid ha
  have Hb := Lib.hid hb
  have Hk0 := Lib.hid (Kp.refl No w)
  clear ha hb
  go_enter Try.func42, Try.ntmps42
  by_cases hnm : n = m
  rotate_left
  · have q1 : ¬ (n : Int) = (m : Int) := by omega
    have Hne := Lib.hid (diff_len (fun h => hnm (Hn.out.trans (h.trans Hm.out.symm))))
    clear hnm
    go_wp2_with fail
    go_ret
    exact ⟨false, rfl, ⟨(fun h => by cases h), fun h => (Hne.out h).elim⟩, Hk0.out⟩
  subst hnm
  go_wp2_with fail
  go_loopw [5] (fun i wr => ∃ k : Nat, k ≤ n ∧ i = .int .i64 k ∧ (∀ i < k, xs[i]? = ys[i]?) ∧ Kp No w wr) (fun i _ => n - (intOf i).toNat)
  case atStart => exact ⟨0, Nat.zero_le _, rfl, fun i h => absurd h (Nat.not_lt_zero _), Kp.refl No _⟩
  case round =>
    obtain ⟨k, hk, rfl, hsm, hkr⟩ := hrel
    have q3 : (0 : Int) ≤ (k : Int) := by omega
    have Hsm := Lib.hid hsm
    have HkW := Lib.hid hkr
    by_cases hlt : k < n
    · have q1 : (k : Int) < (n : Int) := by omega
      obtain ⟨x, hx⟩ : ∃ x, xs[k]? = some x := ⟨_, List.getElem?_eq_getElem (by rw [← Hn.out]; exact hlt)⟩
      obtain ⟨y, hy⟩ : ∃ y, ys[k]? = some y := ⟨_, List.getElem?_eq_getElem (by rw [← Hm.out]; exact hlt)⟩
      obtain ⟨ba, oa, ua, rfl, hFa, ea, hxa⟩ := (Ha.out.kp hkr (fun _ _ => id)).get_slice hx
      obtain ⟨bb, ob, ub, rfl, hFb, eb, hyb⟩ := (Hb.out.kp hkr (fun _ _ => id)).get_slice hy
      obtain ⟨Ax, nx, cx, rfl, Hnx, hcx1, hcx2⟩ := hxa.form'
      obtain ⟨By, ny, cy, rfl, Hny, hcy1, hcy2⟩ := hyb.form'
      have Hxa := Lib.hid hxa
      have Hyb := Lib.hid hyb
      have Hx := Lib.hid hx
      have Hy := Lib.hid hy
      have Hlt := Lib.hid hlt
      clear hxa hyb hx hy hlt hsm hkr
      by_cases hxy : nx = ny
      rotate_left
      · have q4 : ¬ (nx : Int) = (ny : Int) := by omega
        have Hne := Lib.hid (diff_at Hx.out Hy.out (diff_len (fun h => hxy (Hnx.out.trans (h.trans Hny.out.symm)))))
        clear hxy
        go_upto_region 6 with (fail)
        go_quiet (fail)
        go_wp2_with fail
        go_ret
        exact ⟨false, rfl, ⟨(fun h => by cases h), fun h => (Hne.out h).elim⟩, (Hk0.out.trans HkW.out).drewN _⟩
      subst hxy
      go_upto_region 6 with (fail)
      go_quiet (fail)
      obtain ⟨wq, hwq⟩ : ∃ wq, wq = wr.drewN nq := ⟨_, rfl⟩
      rw [← hwq]
      have hkq : Kp No wr wq := by rw [hwq]; exact (Kp.refl No wr).drewN _
      have ea := hkq.cell ea id
      have eb := hkq.cell eb id
      have Hxa := Lib.hid (Hxa.out.kp hkq (fun _ _ => id))
      have Hyb := Lib.hid (Hyb.out.kp hkq (fun _ _ => id))
      have HkW := Lib.hid (HkW.out.trans hkq)
      clear hkq hwq
      go_wp2_with fail
      go_loopw [6] (fun i wr => ∃ j : Nat, j ≤ nx ∧ i = .int .i64 j ∧ (∀ i < j, x[i]? = y[i]?) ∧ Kp No wq wr) (fun i _ => nx - (intOf i).toNat)
      case atStart => exact ⟨0, Nat.zero_le _, rfl, fun i h => absurd h (Nat.not_lt_zero _), Kp.refl No _⟩
      case round =>
        obtain ⟨j, hj, rfl, hsm, hkr⟩ := hrel
        have q5 : (0 : Int) ≤ (j : Int) := by omega
        have Hsm2 := Lib.hid hsm
        have HkW2 := Lib.hid hkr
        have ea := hkr.cell ea id
        have eb := hkr.cell eb id
        by_cases hjl : j < nx
        · have q6 : (j : Int) < (nx : Int) := by omega
          obtain ⟨p, hp⟩ : ∃ p, x[j]? = some p := ⟨_, List.getElem?_eq_getElem (by rw [← Hnx.out]; exact hjl)⟩
          obtain ⟨r, hr⟩ : ∃ r, y[j]? = some r := ⟨_, List.getElem?_eq_getElem (by rw [← Hny.out]; exact hjl)⟩
          obtain ⟨b3, o3, rfl, _, e0, e1, e2, e3, e4, e5, e6, e7, e8, e9, e10, e11⟩ := (Hxa.out.kp hkr (fun _ _ => id)).get_Rl hp
          obtain ⟨b4, o4, rfl, _, f0, f1, f2, f3, f4, f5, f6, f7, f8, f9, f10, f11⟩ := (Hyb.out.kp hkr (fun _ _ => id)).get_Rl hr
          have Hp := Lib.hid hp
          have Hr := Lib.hid hr
          have Hjl := Lib.hid hjl
          have hneq := fun w : World => neq_Rl w p r
          generalize i64of p.prio = p0 at e0 hneq
          generalize i64of r.prio = r0 at f0 hneq
          generalize ((p.mat.value.hi.toNat : Nat) : Int) = p1 at e1 hneq
          generalize ((r.mat.value.hi.toNat : Nat) : Int) = r1 at f1 hneq
          generalize ((p.mat.value.lo.toNat : Nat) : Int) = p2 at e2 hneq
          generalize ((r.mat.value.lo.toNat : Nat) : Int) = r2 at f2 hneq
          generalize ((p.mat.care.hi.toNat : Nat) : Int) = p3 at e3 hneq
          generalize ((r.mat.care.hi.toNat : Nat) : Int) = r3 at f3 hneq
          generalize ((p.mat.care.lo.toNat : Nat) : Int) = p4 at e4 hneq
          generalize ((r.mat.care.lo.toNat : Nat) : Int) = r4 at f4 hneq
          generalize i64of p.act.kind = p5 at e5 hneq
          generalize i64of r.act.kind = r5 at f5 hneq
          generalize i64of p.act.port = p6 at e6 hneq
          generalize i64of r.act.port = r6 at f6 hneq
          generalize i64of p.act.table = p7 at e7 hneq
          generalize i64of r.act.table = r7 at f7 hneq
          generalize ((p.act.set.value.hi.toNat : Nat) : Int) = p8 at e8 hneq
          generalize ((r.act.set.value.hi.toNat : Nat) : Int) = r8 at f8 hneq
          generalize ((p.act.set.value.lo.toNat : Nat) : Int) = p9 at e9 hneq
          generalize ((r.act.set.value.lo.toNat : Nat) : Int) = r9 at f9 hneq
          generalize ((p.act.set.care.hi.toNat : Nat) : Int) = p10 at e10 hneq
          generalize ((r.act.set.care.hi.toNat : Nat) : Int) = r10 at f10 hneq
          generalize ((p.act.set.care.lo.toNat : Nat) : Int) = p11 at e11 hneq
          generalize ((r.act.set.care.lo.toNat : Nat) : Int) = r11 at f11 hneq
          clear hp hr hjl hsm hkr
          by_cases hpr : p.words = r.words
          · have Heq := Lib.hid (words_Rl.1 hpr)
            simp only [decide_eq_true hpr, Bool.not_true] at hneq
            clear hpr
            go_upto_region 11 with (fail)
            refine ref_Rules_r11 _ n ca cb k j ba oa bb ob b3 o3 b4 o4 nx cx cy p0 p1 p2 p3 p4 p5 p6 p7 p8 p9 p10 p11 r0 r1 r2 r3 r4 r5 r6 r7 r8 r9 r10 r11 _ q1 q6 ea eb e0 e1 e2 e3 e4 e5 e6 e7 e8 e9 e10 e11 f0 f1 f2 f3 f4 f5 f6 f7 f8 f9 f10 f11 hneq (Lib.hid ?_) _ rfl
            intro v38 v39 v40 v41 v42 v43 v44 v45 v46 v47 v48 v49 v50 v51 o wr hrel
            obtain ⟨rfl, nq, rfl⟩ := hrel
            go_wp2_with fail
            go_roundw
            case rel => exact ⟨j + 1, by have := Hjl.out; omega, by go_num, same_step Hsm2.out Hp.out Hr.out Heq.out, HkW2.out.drewN _⟩
            case measure => simp [intOf]; have := Hjl.out; omega
          · have Hne := Lib.hid (diff_at Hx.out Hy.out (diff_at Hp.out Hr.out (fun h => hpr (words_Rl.2 h))))
            simp only [decide_eq_false hpr, Bool.not_false] at hneq
            clear hpr
            go_upto_region 11 with (fail)
            refine ref_Rules_r11 _ n ca cb k j ba oa bb ob b3 o3 b4 o4 nx cx cy p0 p1 p2 p3 p4 p5 p6 p7 p8 p9 p10 p11 r0 r1 r2 r3 r4 r5 r6 r7 r8 r9 r10 r11 _ q1 q6 ea eb e0 e1 e2 e3 e4 e5 e6 e7 e8 e9 e10 e11 f0 f1 f2 f3 f4 f5 f6 f7 f8 f9 f10 f11 hneq (Lib.hid ?_) _ rfl
            intro v38 v39 v40 v41 v42 v43 v44 v45 v46 v47 v48 v49 v50 v51 o wr hrel
            obtain ⟨rfl, nq, rfl⟩ := hrel
            go_wp2_with fail
            go_ret
            exact ⟨false, rfl, ⟨(fun h => by cases h), fun h => (Hne.out h).elim⟩, (Hk0.out.trans (HkW.out.trans HkW2.out)).drewN _⟩
        · have q6 : ¬ (j : Int) < (nx : Int) := by omega
          have Hxy := Lib.hid (same_all Hsm2.out (by rw [← Hnx.out]; omega) (by rw [← Hny.out]; omega))
          clear hjl hsm hkr
          go_wp2_with fail
          go_roundw
          case rel => exact ⟨k + 1, by have := Hlt.out; omega, by go_num, same_step Hsm.out Hx.out Hy.out Hxy.out, HkW.out.trans HkW2.out⟩
          case measure => simp [intOf]; have := Hlt.out; omega
    · have q1 : ¬ (k : Int) < (n : Int) := by omega
      have Hxy := Lib.hid (same_all Hsm.out (by rw [← Hn.out]; omega) (by rw [← Hm.out]; omega))
      clear hlt hsm hkr
      go_wp2_with fail
      go_ret
      exact ⟨true, rfl, ⟨fun _ => Hxy.out, fun _ => rfl⟩, Hk0.out.trans HkW.out⟩
end Go.Proofs.Ytpaldbejnbcokaa
