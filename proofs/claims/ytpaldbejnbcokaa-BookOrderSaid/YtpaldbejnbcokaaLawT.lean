/- Contracts of package customhouselaw21: tables. -/
import Derived.Test.YtpaldbejnbcokaaLawW
namespace Go.Proofs.Ytpaldbejnbcokaa
open Go.RowKit
set_option linter.unusedSimpArgs false
set_option linter.unusedVariables false

theorem u64_toNat_lt (n : Nat) (h : n ≤ 9223372036854775807) : i64of (UInt64.ofNat n) = n := by
  unfold i64of wrap64
  rw [UInt64.toNat_ofNat']
  omega
/-- A count, as it is laid. -/
theorem lw_count (w : World) (m : Nat) (hm : m ≤ 9223372036854775807) :
    Calls Try.prog 20 #[.slice (some ⟨w.heap.size, 0, none⟩) 1 1] (w.alloc (.cells #[.int .i64 m] 3)) fun e w' => e = .returned (.string (bs (putF (UInt64.ofNat m) 8))) ∧ Kp No w w' := by
  have h := lw_nums_lit w [UInt64.ofNat m] #[.int .i64 m] 1 _ rfl (by simp [u64_toNat_lt m hm]) rfl (by simp)
  simpa [enc8] using h
def rlCells (x : Rl) : List Value := [.int .i64 (i64of x.prio), .int .u64 x.mat.value.hi.toNat, .int .u64 x.mat.value.lo.toNat, .int .u64 x.mat.care.hi.toNat, .int .u64 x.mat.care.lo.toNat, .int .i64 (i64of x.act.kind), .int .i64 (i64of x.act.port), .int .i64 (i64of x.act.table), .int .u64 x.act.set.value.hi.toNat, .int .u64 x.act.set.value.lo.toNat, .int .u64 x.act.set.care.hi.toNat, .int .u64 x.act.set.care.lo.toNat]
/-- What tables has written so far. -/
def TabSo (w wr : World) (xs : List (List Rl)) (k : Nat) (L : List UInt8) (ok : Bool) : Prop :=
  ok = (decide (xs.length ≤ 200) && (xs.take k).all rulesFit) ∧ (ok = true → L = enc8 (UInt64.ofNat xs.length :: (xs.take k).flatMap rulesW)) ∧ L.length ≤ 8 + k * 20000 ∧ (200 < xs.length → k = 0) ∧ Kp No w wr
theorem rl_words' (x : Rl) : enc8 [x.prio] ++ enc8 x.mat.words ++ enc8 [x.act.kind, x.act.port, x.act.table] ++ enc8 x.act.set.words = enc8 x.words := by
  rw [← enc8_append, ← enc8_append, ← enc8_append]
  rfl

theorem drew_size (w : World) : w.drew.heap.size = w.heap.size := rfl
theorem alloc_of {S : Nat → Prop} {a w : World} (_h : Kp S a w) (o : Obj) : (w.alloc o).heap[w.heap.size]? = some o := heap_alloc_new w o
theorem alloc_kp {S : Nat → Prop} {a w : World} (_h : Kp S a w) (o : Obj) : Kp No w (w.alloc o) := (Kp.refl No w).alloc o
/-- What tables hands back. -/
def TabOut (w w' : World) (xs : List (List Rl)) (e : Ending) : Prop :=
  ∃ L, e = .returned (.tuple #[.string (bs L), .bool (tablesFit xs)]) ∧ (tablesFit xs = true → L = enc8 (tablesW xs)) ∧ L.length ≤ 5000000 ∧ Kp No w w'
theorem TabSo.done {w wr : World} {xs : List (List Rl)} {k : Nat} {L : List UInt8} {ok : Bool} (h : TabSo w wr xs k L ok) (hk : k ≤ xs.length) (hx : ok = true → k = xs.length) : TabOut w wr xs (.returned (.tuple #[.string (bs L), .bool ok])) := by
  obtain ⟨h1, h2, h3, h4, h5⟩ := h
  have h200 : xs.length ≤ 200 ∨ k = 0 := by omega
  have e : ok = tablesFit xs := by
    cases hok : ok with
    | true =>
      have hk' := hx hok
      rw [hok, hk', List.take_of_length_le (Nat.le_refl _)] at h1
      rw [h1]; rfl
    | false =>
      rw [hok] at h1
      unfold tablesFit fitL
      cases hd : decide (xs.length ≤ 200) with
      | false => rfl
      | true =>
        rw [hd, Bool.true_and] at h1
        have : xs.all rulesFit = false := by
          rw [Bool.eq_false_iff]
          intro ha
          have : (xs.take k).all rulesFit = true := List.all_eq_true.2 fun y hy => List.all_eq_true.1 ha y (List.mem_of_mem_take hy)
          rw [this] at h1
          cases h1
        rw [this]; rfl
  refine ⟨L, by rw [e], fun hf => ?_, by omega, h5⟩
  rw [← e] at hf
  rw [h2 hf, hx hf, List.take_of_length_le (Nat.le_refl _)]
  rfl
theorem rulesW_len (ys : List Rl) : (enc8 (rulesW ys)).length = 8 + ys.length * 96 := by
  rw [enc8_len, rulesW, itemsW, List.length_cons]
  have : ∀ l : List Rl, (l.flatMap Rl.words).length = l.length * 12 := by
    intro l
    induction l with
    | nil => rfl
    | cons x l ih => rw [List.flatMap_cons, List.length_append, ih, List.length_cons]; simp only [Rl.words, List.length_cons, List.length_nil]; omega
  rw [this]
  omega
theorem flat12 (l : List Rl) : (enc8 (l.flatMap Rl.words)).length = l.length * 96 := by
  have := rulesW_len l
  rw [rulesW, itemsW, enc8_cons, List.length_append, putF_len] at this
  omega

theorem tab_step {L LL T4 : List UInt8} {ys : List Rl} {x : Rl} {j m : Nat} (hT : T4 = LL ++ enc8 x.words) (hL : LL = L ++ (putF (UInt64.ofNat m) 8 ++ enc8 ((ys.take j).flatMap Rl.words))) (hx : ys[j]? = some x) :
    T4 = L ++ (putF (UInt64.ofNat m) 8 ++ enc8 ((ys.take (j + 1)).flatMap Rl.words)) := by
  rw [hT, hL, take_snoc hx, List.flatMap_append, enc8_append, List.append_assoc, List.append_assoc]
  simp
theorem tab_round {w wr : World} {xs : List (List Rl)} {ys : List Rl} {k j : Nat} {L LL : List UInt8} {ok : Bool} (hx : xs[k]? = some ys) (h1 : true = (decide (xs.length ≤ 200) && (xs.take k).all rulesFit)) (h2 : L = enc8 (UInt64.ofNat xs.length :: (xs.take k).flatMap rulesW)) (h3 : L.length ≤ 8 + k * 20000) (h4 : xs.length ≤ 200)
    (hok : ok = decide (ys.length ≤ 200)) (hj : ok = true → j = ys.length) (hj2 : j ≤ 200) (hL : LL = L ++ (putF (UInt64.ofNat ys.length) 8 ++ enc8 ((ys.take j).flatMap Rl.words))) (hk : Kp No w wr) : TabSo w wr xs (k + 1) LL ok := by
  have ht := take_snoc hx
  have hr : rulesFit ys = decide (ys.length ≤ 200) := by
    have : ys.all yes = true := List.all_eq_true.2 fun _ _ => rfl
    rw [rulesFit, fitL, this, Bool.and_true]
  refine ⟨?_, fun h => ?_, ?_, fun h => by omega, hk⟩
  · rw [ht, List.all_append, List.all_cons, List.all_nil, Bool.and_true, hr, ← hok, ← Bool.and_assoc, ← h1, Bool.true_and]
  · rw [hL, h2, ht, List.flatMap_append, hj h, List.take_of_length_le (Nat.le_refl _)]
    simp only [List.flatMap_cons, List.flatMap_nil, List.append_nil, enc8_cons, enc8_append, rulesW, itemsW, List.append_assoc]
  · rw [hL, List.length_append, List.length_append, putF_len, flat12]
    have := List.length_take_le j ys
    have : (ys.take j).length * 96 ≤ 200 * 96 := Nat.mul_le_mul_right _ (by omega)
    rw [Nat.add_mul]
    omega
set_option maxRecDepth 100000 in
set_option maxHeartbeats 2000000 in
theorem lw_tables (w : World) (F : Nat → Prop) (v : Value) (xs : List (List Rl)) (hv : SliceAt rlR.slice w F xs v) :
    Calls Try.prog 19 #[v] w fun e w' => TabOut w w' xs e := by
  obtain ⟨A, n, c, rfl, Hn, hc1, hc2⟩ := hv.form'
  have Hv := Lib.hid hv
  clear hv
  go_enter Try.func19, Try.ntmps19
  go_wp2_with fail
  refine (lw_count w n (by omega)).mono ?_
  rintro e w1 ⟨rfl, hk1⟩
  have Hk1 := Lib.hid hk1
  clear hk1
  go_wp2_with fail
  go_loopw [4, 5, 6] (fun s o i wr => ∃ (k : Nat) (L : List UInt8) (ok : Bool), k ≤ n ∧ i = .int .i64 k ∧ s = .string (bs L) ∧ o = .bool ok ∧ TabSo w wr xs k L ok) (fun _ _ i _ => n - (intOf i).toNat)
  case atStart =>
    refine ⟨0, _, decide ((n : Int) ≤ 200), Nat.zero_le _, rfl, rfl, rfl, ?_, fun _ => ?_, by rw [putF_len]; omega, fun _ => rfl, Hk1.out⟩
    · rw [List.take_zero, List.all_nil, Bool.and_true, ← Hn.out]
      apply decide_eq_decide.2
      omega
    · rw [List.take_zero, List.flatMap_nil, enc8_cons, enc8_nil, List.append_nil, ← Hn.out]
  case round =>
    obtain ⟨k, L, ok, hk, rfl, rfl, rfl, hso⟩ := hrel
    have q3 : (0 : Int) ≤ (k : Int) := by omega
    by_cases hlt : k < n
    · have q1 : (k : Int) < (n : Int) := by omega
      cases ok
      case false =>
        have Hso := Lib.hid (hso.done (by rw [← Hn.out]; exact hk) (fun h => by cases h))
        clear hso hlt
        go_wp2_with fail
        go_ret2
        exact Hso.out
      case true =>
        obtain ⟨h1, h2, h3, h4, h5⟩ := hso
        obtain ⟨ys, hx⟩ : ∃ ys, xs[k]? = some ys := ⟨_, List.getElem?_eq_getElem (by rw [← Hn.out]; exact hlt)⟩
        obtain ⟨b, off, u, rfl, hFb, hc, hu⟩ := (Hv.out.kp h5 (fun _ _ => id)).get_slice hx
        obtain ⟨A3, m, c3, rfl, Hm, hc5, hc6⟩ := hu.form'
        have Hu := Lib.hid hu
        have Hx := Lib.hid hx
        have Hok := Lib.hid h1
        have HL := Lib.hid (h2 rfl)
        have Hlen := Lib.hid h3
        have Hk200 := Lib.hid (show k < 200 by
          simp only [Bool.true_eq, Bool.and_eq_true, decide_eq_true_eq] at h1
          rw [← Hn.out] at h1
          omega)
        have Hk5 := Lib.hid h5
        have Hx200 := Lib.hid (show xs.length ≤ 200 by
          simp only [Bool.true_eq, Bool.and_eq_true, decide_eq_true_eq] at h1
          exact h1.1)
        clear h1 h2 h3 h4 h5 hu hx hlt
        go_wp2_with fail
        refine (lw_count wr m (by omega)).mono ?_
        rintro e w2 ⟨rfl, hk2⟩
        have j1 : bs L ++ bs (putF (UInt64.ofNat m) 8) = bs (L ++ putF (UInt64.ofNat m) 8) := bs_append _ _
        have j2 : (bs L).size + (bs (putF (UInt64.ofNat m) 8)).size ≤ 9223372036854775807 := by
          rw [bs_size, bs_size, putF_len]
          have := Hlen.out
          have := Hk200.out
          omega
        have hc2 := hk2.cell hc id
        have Hc := Lib.hid hc
        have Hk2 := Lib.hid hk2
        clear hk2 hc
        obtain ⟨wo, hwo⟩ : ∃ wo : World, wo = wr := ⟨_, rfl⟩
        subst hwo
        by_cases h200 : m ≤ 200
        · have q6 : (m : Int) ≤ 200 := by omega
          go_wp2_with fail
          clear hc2
          go_loopw [4, 7] (fun s i wr => ∃ (j : Nat) (LL : List UInt8), j ≤ m ∧ i = .int .i64 j ∧ s = .string (bs LL) ∧ LL = L ++ (putF (UInt64.ofNat m) 8 ++ enc8 ((ys.take j).flatMap Rl.words)) ∧ Kp No wo wr) (fun _ i _ => m - (intOf i).toNat)
          case atStart => exact ⟨0, _, Nat.zero_le _, rfl, rfl, by rw [List.take_zero, List.flatMap_nil, enc8_nil, List.append_nil], Hk2.out⟩
          case round =>
            obtain ⟨j, LL, hj, rfl, rfl, hLL, hk3⟩ := hrel
            have q4 : (0 : Int) ≤ (j : Int) := by omega
            have hc := hk3.cell Hc.out id
            have Hk3 := Lib.hid hk3
            have HLL := Lib.hid hLL
            by_cases hlt : j < m
            · have q5 : (j : Int) < (m : Int) := by omega
              obtain ⟨x, hxj⟩ : ∃ x, ys[j]? = some x := ⟨_, List.getElem?_eq_getElem (by rw [← Hm.out]; exact hlt)⟩
              obtain ⟨b3, off3, rfl, _, e0, e1, e2, e3, e4, e5, e6, e7, e8, e9, e10, e11⟩ := (Hu.out.kp hk3 (fun _ _ => id)).get_Rl hxj
              have Hxj := Lib.hid hxj
              obtain ⟨wx, hwx⟩ : ∃ wx, wx = wr.alloc (.cells #[.int .i64 (i64of x.prio), .int .u64 x.mat.value.hi.toNat, .int .u64 x.mat.value.lo.toNat, .int .u64 x.mat.care.hi.toNat, .int .u64 x.mat.care.lo.toNat, .int .i64 (i64of x.act.kind), .int .i64 (i64of x.act.port), .int .i64 (i64of x.act.table), .int .u64 x.act.set.value.hi.toNat, .int .u64 x.act.set.value.lo.toNat, .int .u64 x.act.set.care.hi.toNat, .int .u64 x.act.set.care.lo.toNat] 112) := ⟨_, rfl⟩
              have hax := heap_alloc_new wr (.cells #[.int .i64 (i64of x.prio), .int .u64 x.mat.value.hi.toNat, .int .u64 x.mat.value.lo.toNat, .int .u64 x.mat.care.hi.toNat, .int .u64 x.mat.care.lo.toNat, .int .i64 (i64of x.act.kind), .int .i64 (i64of x.act.port), .int .i64 (i64of x.act.table), .int .u64 x.act.set.value.hi.toNat, .int .u64 x.act.set.value.lo.toNat, .int .u64 x.act.set.care.hi.toNat, .int .u64 x.act.set.care.lo.toNat] 112)
              have hkx : Kp No wo wx := by rw [hwx]; exact hk3.trans ((Kp.refl No _).alloc _)
              rw [← hwx] at hax
              have Hwx := Lib.hid hwx
              have Hkx := Lib.hid hkx
              have d0 : wx.cell? ⟨wr.heap.size, 0, none⟩ = some (.int .i64 (i64of x.prio)) := cell_of_row _ _ 0 _ _ _ hax
              have d1 : wx.cell? ⟨wr.heap.size, 1, none⟩ = some (.int .u64 x.mat.value.hi.toNat) := cell_of_row _ _ 1 _ _ _ hax
              have d2 : wx.cell? ⟨wr.heap.size, 2, none⟩ = some (.int .u64 x.mat.value.lo.toNat) := cell_of_row _ _ 2 _ _ _ hax
              have d3 : wx.cell? ⟨wr.heap.size, 3, none⟩ = some (.int .u64 x.mat.care.hi.toNat) := cell_of_row _ _ 3 _ _ _ hax
              have d4 : wx.cell? ⟨wr.heap.size, 4, none⟩ = some (.int .u64 x.mat.care.lo.toNat) := cell_of_row _ _ 4 _ _ _ hax
              have d5 : wx.cell? ⟨wr.heap.size, 5, none⟩ = some (.int .i64 (i64of x.act.kind)) := cell_of_row _ _ 5 _ _ _ hax
              have d6 : wx.cell? ⟨wr.heap.size, 6, none⟩ = some (.int .i64 (i64of x.act.port)) := cell_of_row _ _ 6 _ _ _ hax
              have d7 : wx.cell? ⟨wr.heap.size, 7, none⟩ = some (.int .i64 (i64of x.act.table)) := cell_of_row _ _ 7 _ _ _ hax
              have d8 : wx.cell? ⟨wr.heap.size, 8, none⟩ = some (.int .u64 x.act.set.value.hi.toNat) := cell_of_row _ _ 8 _ _ _ hax
              have d9 : wx.cell? ⟨wr.heap.size, 9, none⟩ = some (.int .u64 x.act.set.value.lo.toNat) := cell_of_row _ _ 9 _ _ _ hax
              have d10 : wx.cell? ⟨wr.heap.size, 10, none⟩ = some (.int .u64 x.act.set.care.hi.toNat) := cell_of_row _ _ 10 _ _ _ hax
              have d11 : wx.cell? ⟨wr.heap.size, 11, none⟩ = some (.int .u64 x.act.set.care.lo.toNat) := cell_of_row _ _ 11 _ _ _ hax
              have df : ∀ o, wx.frozen? ⟨wr.heap.size, o, none⟩ = false := fun o => frz_of_row _ _ o _ _ hax
              clear hwx hkx hk3 hLL hxj hlt
              go_wp2_with fail
              obtain ⟨T1, hT1⟩ : ∃ T1, T1 = enc8 [x.prio] ++ enc8 x.mat.words := ⟨_, rfl⟩
              obtain ⟨T2, hT2⟩ : ∃ T2, T2 = T1 ++ enc8 [x.act.kind, x.act.port, x.act.table] := ⟨_, rfl⟩
              obtain ⟨T3, hT3⟩ : ∃ T3, T3 = T2 ++ enc8 x.act.set.words := ⟨_, rfl⟩
              obtain ⟨T4, hT4⟩ : ∃ T4, T4 = LL ++ T3 := ⟨_, rfl⟩
              have g1 : T1.length = 40 := by rw [hT1, List.length_append, enc8_len, enc8_len]; rfl
              have g2 : T2.length = 64 := by rw [hT2, List.length_append, enc8_len, g1]; rfl
              have g3 : T3.length = 96 := by rw [hT3, List.length_append, enc8_len, g2]; rfl
              have gL : LL.length ≤ 5000000 := by
                rw [HLL.out, List.length_append, List.length_append, putF_len, flat12, List.length_take]
                have := Hlen.out
                have := Hk200.out
                omega
              have a1 : bs (enc8 [x.prio]) ++ bs (enc8 x.mat.words) = bs T1 := by rw [bs_append, hT1]
              have a2 : bs T1 ++ bs (enc8 [x.act.kind, x.act.port, x.act.table]) = bs T2 := by rw [bs_append, hT2]
              have a3 : bs T2 ++ bs (enc8 x.act.set.words) = bs T3 := by rw [bs_append, hT3]
              have a4 : bs LL ++ bs T3 = bs T4 := by rw [bs_append, hT4]
              have b1 : ¬ 9223372036854775807 < (bs (enc8 [x.prio])).size + (bs (enc8 x.mat.words)).size := by rw [bs_size, bs_size, enc8_len, enc8_len]; simp [Cb.words]
              have b2 : ¬ 9223372036854775807 < (bs T1).size + (bs (enc8 [x.act.kind, x.act.port, x.act.table])).size := by rw [bs_size, bs_size, enc8_len, g1]; simp
              have b3 : ¬ 9223372036854775807 < (bs T2).size + (bs (enc8 x.act.set.words)).size := by rw [bs_size, bs_size, enc8_len, g2]; simp [Cb.words]
              have b4 : ¬ 9223372036854775807 < (bs LL).size + (bs T3).size := by rw [bs_size, bs_size, g3]; omega
              have HT := Lib.hid (show T4 = LL ++ enc8 x.words by rw [hT4, hT3, hT2, hT1, rl_words'])
              clear hT1 hT2 hT3 hT4 g1 g2 g3 gL
              rw [← Hwx.out]
              refine wp_region_noPanic ?_
              refine wp_region_held_drew (S := fun w' => Hid (Kp No wx w')) (by kernel_rfl) (Lib.hid (Kp.refl _ _).drew) (fun hHeld => ?_)
              refine wpAnyH_take (i := 0) (oi := ?_) (v := ?_) ?_ (by kernel_rfl) (by kernel_rfl) (by kernel_rfl) (fun _ _ _ h => h) (Or.inl ⟨?_, fun w hSw => ?_⟩) hHeld ?_
              rotate_left 2
              · (simp only [List.getElem?_toArray, List.getElem?_cons_zero]; rfl)
              · rfl
              · (clear hSw; go_simp; try (with_reducible rfl))
              simp only [Act.put, List.setIfInBounds_toArray, List.set_cons_zero, List.set_cons_succ]
              refine wpAnyH_take (i := 1) (oi := ?_) (v := ?_) ?_ (by kernel_rfl) (by kernel_rfl) (by kernel_rfl) (fun _ _ _ h => h) (Or.inl ⟨?_, fun w hSw => ?_⟩) hHeld ?_
              rotate_left 2
              · (simp only [List.getElem?_toArray, List.getElem?_cons_succ, List.getElem?_cons_zero]; rfl)
              · rfl
              · (clear hSw; go_simp; try (with_reducible rfl))
              simp only [Act.put, List.setIfInBounds_toArray, List.set_cons_zero, List.set_cons_succ]
              refine wpAnyH_take (i := 2) (oi := ?_) (v := ?_) ?_ (by kernel_rfl) (by kernel_rfl) (by kernel_rfl) (fun _ _ _ h => h) (Or.inl ⟨?_, fun w hSw => ?_⟩) hHeld ?_
              rotate_left 2
              · (simp only [List.getElem?_toArray, List.getElem?_cons_succ, List.getElem?_cons_zero]; rfl)
              · rfl
              · (have l0 := (Hid.out hSw).cell d0 id; have l1 := (Hid.out hSw).cell d1 id; have l2 := (Hid.out hSw).cell d2 id; have l3 := (Hid.out hSw).cell d3 id; have l4 := (Hid.out hSw).cell d4 id; have l5 := (Hid.out hSw).cell d5 id; have l6 := (Hid.out hSw).cell d6 id; have l7 := (Hid.out hSw).cell d7 id; have l8 := (Hid.out hSw).cell d8 id; have l9 := (Hid.out hSw).cell d9 id; have l10 := (Hid.out hSw).cell d10 id; have l11 := (Hid.out hSw).cell d11 id; clear hSw; go_simp; try (with_reducible rfl))
              simp only [Act.put, List.setIfInBounds_toArray, List.set_cons_zero, List.set_cons_succ]
              refine wpAnyH_take (i := 5) (oi := ?_) (v := ?_) ?_ (by kernel_rfl) (by kernel_rfl) (by kernel_rfl) (fun _ _ _ h => h) (Or.inl ⟨?_, fun w hSw => ?_⟩) hHeld ?_
              rotate_left 2
              · (simp only [List.getElem?_toArray, List.getElem?_cons_succ, List.getElem?_cons_zero]; rfl)
              · rfl
              · (clear hSw; go_simp; try (with_reducible rfl))
              simp only [Act.put, List.setIfInBounds_toArray, List.set_cons_zero, List.set_cons_succ]
              refine wpAnyH_take (i := 6) (oi := ?_) (v := ?_) ?_ (by kernel_rfl) (by kernel_rfl) (by kernel_rfl) (fun _ _ _ h => h) (Or.inl ⟨?_, fun w hSw => ?_⟩) hHeld ?_
              rotate_left 2
              · (simp only [List.getElem?_toArray, List.getElem?_cons_succ, List.getElem?_cons_zero]; rfl)
              · rfl
              · (have l0 := (Hid.out hSw).cell d0 id; have l1 := (Hid.out hSw).cell d1 id; have l2 := (Hid.out hSw).cell d2 id; have l3 := (Hid.out hSw).cell d3 id; have l4 := (Hid.out hSw).cell d4 id; have l5 := (Hid.out hSw).cell d5 id; have l6 := (Hid.out hSw).cell d6 id; have l7 := (Hid.out hSw).cell d7 id; have l8 := (Hid.out hSw).cell d8 id; have l9 := (Hid.out hSw).cell d9 id; have l10 := (Hid.out hSw).cell d10 id; have l11 := (Hid.out hSw).cell d11 id; clear hSw; go_simp; try (with_reducible rfl))
              simp only [Act.put, List.setIfInBounds_toArray, List.set_cons_zero, List.set_cons_succ]
              refine wpAnyH_take (i := 9) (oi := ?_) (v := ?_) ?_ (by kernel_rfl) (by kernel_rfl) (by kernel_rfl) (fun _ _ _ h => h) (Or.inl ⟨?_, fun w hSw => ?_⟩) hHeld ?_
              rotate_left 2
              · (simp only [List.getElem?_toArray, List.getElem?_cons_succ, List.getElem?_cons_zero]; rfl)
              · rfl
              · (clear hSw; go_simp; try (with_reducible rfl))
              simp only [Act.put, List.setIfInBounds_toArray, List.set_cons_zero, List.set_cons_succ]
              refine wpAnyH_take (i := 10) (oi := ?_) (v := ?_) ?_ (by kernel_rfl) (by kernel_rfl) (by kernel_rfl) (fun _ _ _ h => h) (Or.inl ⟨?_, fun w hSw => ?_⟩) hHeld ?_
              rotate_left 2
              · (simp only [List.getElem?_toArray, List.getElem?_cons_succ, List.getElem?_cons_zero]; rfl)
              · rfl
              · (clear hSw; go_simp; try (with_reducible rfl))
              simp only [Act.put, List.setIfInBounds_toArray, List.set_cons_zero, List.set_cons_succ]
              refine wpAnyH_take (i := 11) (oi := ?_) (v := ?_) ?_ (by kernel_rfl) (by kernel_rfl) (by kernel_rfl) (fun _ _ _ h => h) (Or.inl ⟨?_, fun w hSw => ?_⟩) hHeld ?_
              rotate_left 2
              · (simp only [List.getElem?_toArray, List.getElem?_cons_succ, List.getElem?_cons_zero]; rfl)
              · rfl
              · (have l0 := (Hid.out hSw).cell d0 id; have l1 := (Hid.out hSw).cell d1 id; have l2 := (Hid.out hSw).cell d2 id; have l3 := (Hid.out hSw).cell d3 id; have l4 := (Hid.out hSw).cell d4 id; have l5 := (Hid.out hSw).cell d5 id; have l6 := (Hid.out hSw).cell d6 id; have l7 := (Hid.out hSw).cell d7 id; have l8 := (Hid.out hSw).cell d8 id; have l9 := (Hid.out hSw).cell d9 id; have l10 := (Hid.out hSw).cell d10 id; have l11 := (Hid.out hSw).cell d11 id; clear hSw; go_simp; try (with_reducible rfl))
              simp only [Act.put, List.setIfInBounds_toArray, List.set_cons_zero, List.set_cons_succ]
              refine wpAnyH_take (i := 12) (oi := ?_) (v := ?_) ?_ (by kernel_rfl) (by kernel_rfl) (by kernel_rfl) (fun _ _ _ h => h) (Or.inl ⟨?_, fun w hSw => ?_⟩) hHeld ?_
              rotate_left 2
              · (simp only [List.getElem?_toArray, List.getElem?_cons_succ, List.getElem?_cons_zero]; rfl)
              · rfl
              · (clear hSw; go_simp; try (with_reducible rfl))
              simp only [Act.put, List.setIfInBounds_toArray, List.set_cons_zero, List.set_cons_succ]
              refine wpAnyH_take (i := 13) (oi := ?_) (v := ?_) ?_ (by kernel_rfl) (by kernel_rfl) (by kernel_rfl) (fun _ _ _ h => h) (Or.inl ⟨?_, fun w hSw => ?_⟩) hHeld ?_
              rotate_left 2
              · (simp only [List.getElem?_toArray, List.getElem?_cons_succ, List.getElem?_cons_zero]; rfl)
              · rfl
              · (clear hSw; go_simp; try (with_reducible rfl))
              simp only [Act.put, List.setIfInBounds_toArray, List.set_cons_zero, List.set_cons_succ]
              refine wpAnyH_take (i := 14) (oi := ?_) (v := ?_) ?_ (by kernel_rfl) (by kernel_rfl) (by kernel_rfl) (fun _ _ _ h => h) (Or.inl ⟨?_, fun w hSw => ?_⟩) hHeld ?_
              rotate_left 2
              · (simp only [List.getElem?_toArray, List.getElem?_cons_succ, List.getElem?_cons_zero]; rfl)
              · rfl
              · (have l0 := (Hid.out hSw).cell d0 id; have l1 := (Hid.out hSw).cell d1 id; have l2 := (Hid.out hSw).cell d2 id; have l3 := (Hid.out hSw).cell d3 id; have l4 := (Hid.out hSw).cell d4 id; have l5 := (Hid.out hSw).cell d5 id; have l6 := (Hid.out hSw).cell d6 id; have l7 := (Hid.out hSw).cell d7 id; have l8 := (Hid.out hSw).cell d8 id; have l9 := (Hid.out hSw).cell d9 id; have l10 := (Hid.out hSw).cell d10 id; have l11 := (Hid.out hSw).cell d11 id; clear hSw; go_simp; try (with_reducible rfl))
              simp only [Act.put, List.setIfInBounds_toArray, List.set_cons_zero, List.set_cons_succ]
              refine wpAnyH_take (i := 15) (oi := ?_) (v := ?_) ?_ (by kernel_rfl) (by kernel_rfl) (by kernel_rfl) (fun _ _ _ h => h) (Or.inl ⟨?_, fun w hSw => ?_⟩) hHeld ?_
              rotate_left 2
              · (simp only [List.getElem?_toArray, List.getElem?_cons_succ, List.getElem?_cons_zero]; rfl)
              · rfl
              · (clear hSw; go_simp; try (with_reducible rfl))
              simp only [Act.put, List.setIfInBounds_toArray, List.set_cons_zero, List.set_cons_succ]
              refine wpAnyH_take (i := 16) (oi := ?_) (v := ?_) ?_ (by kernel_rfl) (by kernel_rfl) (by kernel_rfl) (fun _ _ _ h => h) (Or.inl ⟨?_, fun w hSw => ?_⟩) hHeld ?_
              rotate_left 2
              · (simp only [List.getElem?_toArray, List.getElem?_cons_succ, List.getElem?_cons_zero]; rfl)
              · rfl
              · (clear hSw; go_simp; try (with_reducible rfl))
              simp only [Act.put, List.setIfInBounds_toArray, List.set_cons_zero, List.set_cons_succ]
              refine wpAnyH_take (i := 17) (oi := ?_) (v := ?_) ?_ (by kernel_rfl) (by kernel_rfl) (by kernel_rfl) (fun _ _ _ h => h) (Or.inl ⟨?_, fun w hSw => ?_⟩) hHeld ?_
              rotate_left 2
              · (simp only [List.getElem?_toArray, List.getElem?_cons_succ, List.getElem?_cons_zero]; rfl)
              · rfl
              · (have l0 := (Hid.out hSw).cell d0 id; have l1 := (Hid.out hSw).cell d1 id; have l2 := (Hid.out hSw).cell d2 id; have l3 := (Hid.out hSw).cell d3 id; have l4 := (Hid.out hSw).cell d4 id; have l5 := (Hid.out hSw).cell d5 id; have l6 := (Hid.out hSw).cell d6 id; have l7 := (Hid.out hSw).cell d7 id; have l8 := (Hid.out hSw).cell d8 id; have l9 := (Hid.out hSw).cell d9 id; have l10 := (Hid.out hSw).cell d10 id; have l11 := (Hid.out hSw).cell d11 id; clear hSw; go_simp; try (with_reducible rfl))
              simp only [Act.put, List.setIfInBounds_toArray, List.set_cons_zero, List.set_cons_succ]
              refine wpAnyH_take (i := 21) (oi := ?_) (v := ?_) ?_ (by kernel_rfl) (by kernel_rfl) (by kernel_rfl) (fun _ _ _ h => h) (Or.inl ⟨?_, fun w hSw => ?_⟩) hHeld ?_
              rotate_left 2
              · (simp only [List.getElem?_toArray, List.getElem?_cons_succ, List.getElem?_cons_zero]; rfl)
              · rfl
              · (clear hSw; go_simp; try (with_reducible rfl))
              simp only [Act.put, List.setIfInBounds_toArray, List.set_cons_zero, List.set_cons_succ]
              refine wpAnyH_take (i := 22) (oi := ?_) (v := ?_) ?_ (by kernel_rfl) (by kernel_rfl) (by kernel_rfl) (fun _ _ _ h => h) (Or.inl ⟨?_, fun w hSw => ?_⟩) hHeld ?_
              rotate_left 2
              · (simp only [List.getElem?_toArray, List.getElem?_cons_succ, List.getElem?_cons_zero]; rfl)
              · rfl
              · (clear hSw; go_simp; try (with_reducible rfl))
              simp only [Act.put, List.setIfInBounds_toArray, List.set_cons_zero, List.set_cons_succ]
              refine wpAnyH_take (i := 23) (oi := ?_) (v := ?_) ?_ (by kernel_rfl) (by kernel_rfl) (by kernel_rfl) (fun _ _ _ h => h) (Or.inl ⟨?_, fun w hSw => ?_⟩) hHeld ?_
              rotate_left 2
              · (simp only [List.getElem?_toArray, List.getElem?_cons_succ, List.getElem?_cons_zero]; rfl)
              · rfl
              · (have l0 := (Hid.out hSw).cell d0 id; have l1 := (Hid.out hSw).cell d1 id; have l2 := (Hid.out hSw).cell d2 id; have l3 := (Hid.out hSw).cell d3 id; have l4 := (Hid.out hSw).cell d4 id; have l5 := (Hid.out hSw).cell d5 id; have l6 := (Hid.out hSw).cell d6 id; have l7 := (Hid.out hSw).cell d7 id; have l8 := (Hid.out hSw).cell d8 id; have l9 := (Hid.out hSw).cell d9 id; have l10 := (Hid.out hSw).cell d10 id; have l11 := (Hid.out hSw).cell d11 id; clear hSw; go_simp; try (with_reducible rfl))
              simp only [Act.put, List.setIfInBounds_toArray, List.set_cons_zero, List.set_cons_succ]
              refine wpAnyH_ready (rs := [3, 18]) (by kernel_rfl) (by simp) ?_
              refine AllReadyH.cons (o := ?_) ?_ (fun K hK => ?_) ?_
              rotate_left
              · (simp only [List.getElem?_toArray, List.getElem?_cons_succ, List.getElem?_cons_zero]; rfl)
              · skip
                go_simp
                have HB := Lib.hid (alloc_of (Hid.out hHeld) (.cells #[.int .i64 (i64of x.prio)] 3))
                have hk := alloc_kp (Hid.out hHeld) (.cells #[.int .i64 (i64of x.prio)] 3)
                have hS := Lib.hid ((Hid.out hHeld).trans hk)
                (try have HB3 := Lib.hid (hk.heap HB3.out id))
                (try have HB18 := Lib.hid (hk.heap HB18.out id))
                have HB3 := HB
                clear hk HB
                refine hK.out _ _ hS (fun hHeld => ?_)
                clear hK K
                (try simp only [Act.put, List.setIfInBounds_toArray, List.set_cons_zero, List.set_cons_succ])
                refine wpAnyH_ready (rs := [4, 18]) (by kernel_rfl) (by simp) ?_
                refine AllReadyH.cons (o := ?_) ?_ (fun K hK => ?_) ?_
                rotate_left
                · (simp only [List.getElem?_toArray, List.getElem?_cons_succ, List.getElem?_cons_zero]; rfl)
                · skip
                  go_simp
                  refine (lw_nums_at _ _ [x.prio] _ _ 1 (by first | (have h := HB3.out; simp only [alloc_size, drew_size] at h; exact h) | exact HB3.out) rfl rfl (by simp)).mono ?_
                  rintro e u4 ⟨rfl, hk⟩
                  have hS := Lib.hid ((Hid.out hHeld).trans hk)
                  (try have HB3 := Lib.hid (hk.heap HB3.out id))
                  (try have HB18 := Lib.hid (hk.heap HB18.out id))
                  clear hk
                  refine hK.out _ _ hS (fun hHeld => ?_)
                  clear hK K
                  (try simp only [Act.put, List.setIfInBounds_toArray, List.set_cons_zero, List.set_cons_succ])
                  refine wpAnyH_ready (rs := [7, 18]) (by kernel_rfl) (by simp) ?_
                  refine AllReadyH.cons (o := ?_) ?_ (fun K hK => ?_) ?_
                  rotate_left
                  · (simp only [List.getElem?_toArray, List.getElem?_cons_succ, List.getElem?_cons_zero]; rfl)
                  · skip
                    go_simp
                    refine (lw_cube _ x.mat).mono ?_
                    rintro e u7 ⟨rfl, hk⟩
                    have hS := Lib.hid ((Hid.out hHeld).trans hk)
                    (try have HB3 := Lib.hid (hk.heap HB3.out id))
                    (try have HB18 := Lib.hid (hk.heap HB18.out id))
                    clear hk
                    refine hK.out _ _ hS (fun hHeld => ?_)
                    clear hK K
                    (try simp only [Act.put, List.setIfInBounds_toArray, List.set_cons_zero, List.set_cons_succ])
                    refine wpAnyH_take (i := 8) (oi := ?_) (v := ?_) ?_ (by kernel_rfl) (by kernel_rfl) (by kernel_rfl) (fun _ _ _ h => h) (Or.inl ⟨?_, fun w hSw => ?_⟩) hHeld ?_
                    rotate_left 2
                    · (simp only [List.getElem?_toArray, List.getElem?_cons_succ, List.getElem?_cons_zero]; rfl)
                    · rfl
                    · (clear hSw; go_simp; try (with_reducible rfl))
                    simp only [Act.put, List.setIfInBounds_toArray, List.set_cons_zero, List.set_cons_succ]
                    refine wpAnyH_ready (rs := [18]) (by kernel_rfl) (by simp) ?_
                    refine AllReadyH.cons (o := ?_) ?_ (fun K hK => ?_) AllReadyH.nil
                    rotate_left
                    · (simp only [List.getElem?_toArray, List.getElem?_cons_succ, List.getElem?_cons_zero]; rfl)
                    go_simp
                    have HB := Lib.hid (alloc_of (Hid.out hHeld) (.cells #[.int .i64 (i64of x.act.kind), .int .i64 (i64of x.act.port), .int .i64 (i64of x.act.table)] 3))
                    have hk := alloc_kp (Hid.out hHeld) (.cells #[.int .i64 (i64of x.act.kind), .int .i64 (i64of x.act.port), .int .i64 (i64of x.act.table)] 3)
                    have hS := Lib.hid ((Hid.out hHeld).trans hk)
                    (try have HB3 := Lib.hid (hk.heap HB3.out id))
                    (try have HB18 := Lib.hid (hk.heap HB18.out id))
                    have HB18 := HB
                    clear hk HB
                    refine hK.out _ _ hS (fun hHeld => ?_)
                    clear hK K
                    (try simp only [Act.put, List.setIfInBounds_toArray, List.set_cons_zero, List.set_cons_succ])
                    refine wpAnyH_ready (rs := [19]) (by kernel_rfl) (by simp) ?_
                    refine AllReadyH.cons (o := ?_) ?_ (fun K hK => ?_) AllReadyH.nil
                    rotate_left
                    · (simp only [List.getElem?_toArray, List.getElem?_cons_succ, List.getElem?_cons_zero]; rfl)
                    go_simp
                    refine (lw_nums_at _ _ [x.act.kind, x.act.port, x.act.table] _ _ 3 (by first | (have h := HB18.out; simp only [alloc_size, drew_size] at h; exact h) | exact HB18.out) rfl rfl (by simp)).mono ?_
                    rintro e u19 ⟨rfl, hk⟩
                    have hS := Lib.hid ((Hid.out hHeld).trans hk)
                    (try have HB3 := Lib.hid (hk.heap HB3.out id))
                    (try have HB18 := Lib.hid (hk.heap HB18.out id))
                    clear hk
                    refine hK.out _ _ hS (fun hHeld => ?_)
                    clear hK K
                    (try simp only [Act.put, List.setIfInBounds_toArray, List.set_cons_zero, List.set_cons_succ])
                    refine wpAnyH_take (i := 20) (oi := ?_) (v := ?_) ?_ (by kernel_rfl) (by kernel_rfl) (by kernel_rfl) (fun _ _ _ h => h) (Or.inl ⟨?_, fun w hSw => ?_⟩) hHeld ?_
                    rotate_left 2
                    · (simp only [List.getElem?_toArray, List.getElem?_cons_succ, List.getElem?_cons_zero]; rfl)
                    · rfl
                    · (clear hSw; go_simp; try (with_reducible rfl))
                    simp only [Act.put, List.setIfInBounds_toArray, List.set_cons_zero, List.set_cons_succ]
                    refine wpAnyH_ready (rs := [24]) (by kernel_rfl) (by simp) ?_
                    refine AllReadyH.cons (o := ?_) ?_ (fun K hK => ?_) AllReadyH.nil
                    rotate_left
                    · (simp only [List.getElem?_toArray, List.getElem?_cons_succ, List.getElem?_cons_zero]; rfl)
                    go_simp
                    refine (lw_cube _ x.act.set).mono ?_
                    rintro e u24 ⟨rfl, hk⟩
                    have hS := Lib.hid ((Hid.out hHeld).trans hk)
                    (try have HB3 := Lib.hid (hk.heap HB3.out id))
                    (try have HB18 := Lib.hid (hk.heap HB18.out id))
                    clear hk
                    refine hK.out _ _ hS (fun hHeld => ?_)
                    clear hK K
                    (try simp only [Act.put, List.setIfInBounds_toArray, List.set_cons_zero, List.set_cons_succ])
                    refine wpAnyH_take (i := 25) (oi := ?_) (v := ?_) ?_ (by kernel_rfl) (by kernel_rfl) (by kernel_rfl) (fun _ _ _ h => h) (Or.inl ⟨?_, fun w hSw => ?_⟩) hHeld ?_
                    rotate_left 2
                    · (simp only [List.getElem?_toArray, List.getElem?_cons_succ, List.getElem?_cons_zero]; rfl)
                    · rfl
                    · (clear hSw; go_simp; try (with_reducible rfl))
                    simp only [Act.put, List.setIfInBounds_toArray, List.set_cons_zero, List.set_cons_succ]
                    refine wpAnyH_take (i := 26) (oi := ?_) (v := ?_) ?_ (by kernel_rfl) (by kernel_rfl) (by kernel_rfl) (fun _ _ _ h => h) (Or.inl ⟨?_, fun w hSw => ?_⟩) hHeld ?_
                    rotate_left 2
                    · (simp only [List.getElem?_toArray, List.getElem?_cons_succ, List.getElem?_cons_zero]; rfl)
                    · rfl
                    · (clear hSw; go_simp; try (with_reducible rfl))
                    simp only [Act.put, List.setIfInBounds_toArray, List.set_cons_zero, List.set_cons_succ]
                    refine wpAnyH_take (i := 27) (oi := ?_) (v := ?_) ?_ (by kernel_rfl) (by kernel_rfl) (by kernel_rfl) (fun _ _ _ h => h) (Or.inl ⟨?_, fun w hSw => ?_⟩) hHeld ?_
                    rotate_left 2
                    · (simp only [List.getElem?_toArray, List.getElem?_cons_succ, List.getElem?_cons_zero]; rfl)
                    · rfl
                    · (clear hSw; go_simp; try (with_reducible rfl))
                    simp only [Act.put, List.setIfInBounds_toArray, List.set_cons_zero, List.set_cons_succ]
                    refine wpAnyH_done (by kernel_rfl) (NoPanic.normal ?_) _
                    have Hf := Lib.hid (Hkx.out.trans (Hid.out hHeld))
                    clear hHeld
                    go_wp2_with fail
                    go_roundw
                    case rel => exact ⟨j + 1, T4, by omega, by go_num, rfl, tab_step HT.out HLL.out Hxj.out, Hf.out⟩
                    case measure => simp [intOf]; omega
                  refine AllReadyH.cons (o := ?_) ?_ (fun K hK => ?_) AllReadyH.nil
                  rotate_left
                  · (simp only [List.getElem?_toArray, List.getElem?_cons_succ, List.getElem?_cons_zero]; rfl)
                  · skip
                    go_simp
                    have HB := Lib.hid (alloc_of (Hid.out hHeld) (.cells #[.int .i64 (i64of x.act.kind), .int .i64 (i64of x.act.port), .int .i64 (i64of x.act.table)] 3))
                    have hk := alloc_kp (Hid.out hHeld) (.cells #[.int .i64 (i64of x.act.kind), .int .i64 (i64of x.act.port), .int .i64 (i64of x.act.table)] 3)
                    have hS := Lib.hid ((Hid.out hHeld).trans hk)
                    (try have HB3 := Lib.hid (hk.heap HB3.out id))
                    (try have HB18 := Lib.hid (hk.heap HB18.out id))
                    have HB18 := HB
                    clear hk HB
                    refine hK.out _ _ hS (fun hHeld => ?_)
                    clear hK K
                    (try simp only [Act.put, List.setIfInBounds_toArray, List.set_cons_zero, List.set_cons_succ])
                    refine wpAnyH_ready (rs := [7]) (by kernel_rfl) (by simp) ?_
                    refine AllReadyH.cons (o := ?_) ?_ (fun K hK => ?_) AllReadyH.nil
                    rotate_left
                    · (simp only [List.getElem?_toArray, List.getElem?_cons_succ, List.getElem?_cons_zero]; rfl)
                    go_simp
                    refine (lw_cube _ x.mat).mono ?_
                    rintro e u7 ⟨rfl, hk⟩
                    have hS := Lib.hid ((Hid.out hHeld).trans hk)
                    (try have HB3 := Lib.hid (hk.heap HB3.out id))
                    (try have HB18 := Lib.hid (hk.heap HB18.out id))
                    clear hk
                    refine hK.out _ _ hS (fun hHeld => ?_)
                    clear hK K
                    (try simp only [Act.put, List.setIfInBounds_toArray, List.set_cons_zero, List.set_cons_succ])
                    refine wpAnyH_take (i := 8) (oi := ?_) (v := ?_) ?_ (by kernel_rfl) (by kernel_rfl) (by kernel_rfl) (fun _ _ _ h => h) (Or.inl ⟨?_, fun w hSw => ?_⟩) hHeld ?_
                    rotate_left 2
                    · (simp only [List.getElem?_toArray, List.getElem?_cons_succ, List.getElem?_cons_zero]; rfl)
                    · rfl
                    · (clear hSw; go_simp; try (with_reducible rfl))
                    simp only [Act.put, List.setIfInBounds_toArray, List.set_cons_zero, List.set_cons_succ]
                    refine wpAnyH_ready (rs := [19]) (by kernel_rfl) (by simp) ?_
                    refine AllReadyH.cons (o := ?_) ?_ (fun K hK => ?_) AllReadyH.nil
                    rotate_left
                    · (simp only [List.getElem?_toArray, List.getElem?_cons_succ, List.getElem?_cons_zero]; rfl)
                    go_simp
                    refine (lw_nums_at _ _ [x.act.kind, x.act.port, x.act.table] _ _ 3 (by first | (have h := HB18.out; simp only [alloc_size, drew_size] at h; exact h) | exact HB18.out) rfl rfl (by simp)).mono ?_
                    rintro e u19 ⟨rfl, hk⟩
                    have hS := Lib.hid ((Hid.out hHeld).trans hk)
                    (try have HB3 := Lib.hid (hk.heap HB3.out id))
                    (try have HB18 := Lib.hid (hk.heap HB18.out id))
                    clear hk
                    refine hK.out _ _ hS (fun hHeld => ?_)
                    clear hK K
                    (try simp only [Act.put, List.setIfInBounds_toArray, List.set_cons_zero, List.set_cons_succ])
                    refine wpAnyH_take (i := 20) (oi := ?_) (v := ?_) ?_ (by kernel_rfl) (by kernel_rfl) (by kernel_rfl) (fun _ _ _ h => h) (Or.inl ⟨?_, fun w hSw => ?_⟩) hHeld ?_
                    rotate_left 2
                    · (simp only [List.getElem?_toArray, List.getElem?_cons_succ, List.getElem?_cons_zero]; rfl)
                    · rfl
                    · (clear hSw; go_simp; try (with_reducible rfl))
                    simp only [Act.put, List.setIfInBounds_toArray, List.set_cons_zero, List.set_cons_succ]
                    refine wpAnyH_ready (rs := [24]) (by kernel_rfl) (by simp) ?_
                    refine AllReadyH.cons (o := ?_) ?_ (fun K hK => ?_) AllReadyH.nil
                    rotate_left
                    · (simp only [List.getElem?_toArray, List.getElem?_cons_succ, List.getElem?_cons_zero]; rfl)
                    go_simp
                    refine (lw_cube _ x.act.set).mono ?_
                    rintro e u24 ⟨rfl, hk⟩
                    have hS := Lib.hid ((Hid.out hHeld).trans hk)
                    (try have HB3 := Lib.hid (hk.heap HB3.out id))
                    (try have HB18 := Lib.hid (hk.heap HB18.out id))
                    clear hk
                    refine hK.out _ _ hS (fun hHeld => ?_)
                    clear hK K
                    (try simp only [Act.put, List.setIfInBounds_toArray, List.set_cons_zero, List.set_cons_succ])
                    refine wpAnyH_take (i := 25) (oi := ?_) (v := ?_) ?_ (by kernel_rfl) (by kernel_rfl) (by kernel_rfl) (fun _ _ _ h => h) (Or.inl ⟨?_, fun w hSw => ?_⟩) hHeld ?_
                    rotate_left 2
                    · (simp only [List.getElem?_toArray, List.getElem?_cons_succ, List.getElem?_cons_zero]; rfl)
                    · rfl
                    · (clear hSw; go_simp; try (with_reducible rfl))
                    simp only [Act.put, List.setIfInBounds_toArray, List.set_cons_zero, List.set_cons_succ]
                    refine wpAnyH_take (i := 26) (oi := ?_) (v := ?_) ?_ (by kernel_rfl) (by kernel_rfl) (by kernel_rfl) (fun _ _ _ h => h) (Or.inl ⟨?_, fun w hSw => ?_⟩) hHeld ?_
                    rotate_left 2
                    · (simp only [List.getElem?_toArray, List.getElem?_cons_succ, List.getElem?_cons_zero]; rfl)
                    · rfl
                    · (clear hSw; go_simp; try (with_reducible rfl))
                    simp only [Act.put, List.setIfInBounds_toArray, List.set_cons_zero, List.set_cons_succ]
                    refine wpAnyH_take (i := 27) (oi := ?_) (v := ?_) ?_ (by kernel_rfl) (by kernel_rfl) (by kernel_rfl) (fun _ _ _ h => h) (Or.inl ⟨?_, fun w hSw => ?_⟩) hHeld ?_
                    rotate_left 2
                    · (simp only [List.getElem?_toArray, List.getElem?_cons_succ, List.getElem?_cons_zero]; rfl)
                    · rfl
                    · (clear hSw; go_simp; try (with_reducible rfl))
                    simp only [Act.put, List.setIfInBounds_toArray, List.set_cons_zero, List.set_cons_succ]
                    refine wpAnyH_done (by kernel_rfl) (NoPanic.normal ?_) _
                    have Hf := Lib.hid (Hkx.out.trans (Hid.out hHeld))
                    clear hHeld
                    go_wp2_with fail
                    go_roundw
                    case rel => exact ⟨j + 1, T4, by omega, by go_num, rfl, tab_step HT.out HLL.out Hxj.out, Hf.out⟩
                    case measure => simp [intOf]; omega
                refine AllReadyH.cons (o := ?_) ?_ (fun K hK => ?_) AllReadyH.nil
                rotate_left
                · (simp only [List.getElem?_toArray, List.getElem?_cons_succ, List.getElem?_cons_zero]; rfl)
                · skip
                  go_simp
                  have HB := Lib.hid (alloc_of (Hid.out hHeld) (.cells #[.int .i64 (i64of x.act.kind), .int .i64 (i64of x.act.port), .int .i64 (i64of x.act.table)] 3))
                  have hk := alloc_kp (Hid.out hHeld) (.cells #[.int .i64 (i64of x.act.kind), .int .i64 (i64of x.act.port), .int .i64 (i64of x.act.table)] 3)
                  have hS := Lib.hid ((Hid.out hHeld).trans hk)
                  (try have HB3 := Lib.hid (hk.heap HB3.out id))
                  (try have HB18 := Lib.hid (hk.heap HB18.out id))
                  have HB18 := HB
                  clear hk HB
                  refine hK.out _ _ hS (fun hHeld => ?_)
                  clear hK K
                  (try simp only [Act.put, List.setIfInBounds_toArray, List.set_cons_zero, List.set_cons_succ])
                  refine wpAnyH_ready (rs := [4]) (by kernel_rfl) (by simp) ?_
                  refine AllReadyH.cons (o := ?_) ?_ (fun K hK => ?_) AllReadyH.nil
                  rotate_left
                  · (simp only [List.getElem?_toArray, List.getElem?_cons_succ, List.getElem?_cons_zero]; rfl)
                  go_simp
                  refine (lw_nums_at _ _ [x.prio] _ _ 1 (by first | (have h := HB3.out; simp only [alloc_size, drew_size] at h; exact h) | exact HB3.out) rfl rfl (by simp)).mono ?_
                  rintro e u4 ⟨rfl, hk⟩
                  have hS := Lib.hid ((Hid.out hHeld).trans hk)
                  (try have HB3 := Lib.hid (hk.heap HB3.out id))
                  (try have HB18 := Lib.hid (hk.heap HB18.out id))
                  clear hk
                  refine hK.out _ _ hS (fun hHeld => ?_)
                  clear hK K
                  (try simp only [Act.put, List.setIfInBounds_toArray, List.set_cons_zero, List.set_cons_succ])
                  refine wpAnyH_ready (rs := [7]) (by kernel_rfl) (by simp) ?_
                  refine AllReadyH.cons (o := ?_) ?_ (fun K hK => ?_) AllReadyH.nil
                  rotate_left
                  · (simp only [List.getElem?_toArray, List.getElem?_cons_succ, List.getElem?_cons_zero]; rfl)
                  go_simp
                  refine (lw_cube _ x.mat).mono ?_
                  rintro e u7 ⟨rfl, hk⟩
                  have hS := Lib.hid ((Hid.out hHeld).trans hk)
                  (try have HB3 := Lib.hid (hk.heap HB3.out id))
                  (try have HB18 := Lib.hid (hk.heap HB18.out id))
                  clear hk
                  refine hK.out _ _ hS (fun hHeld => ?_)
                  clear hK K
                  (try simp only [Act.put, List.setIfInBounds_toArray, List.set_cons_zero, List.set_cons_succ])
                  refine wpAnyH_take (i := 8) (oi := ?_) (v := ?_) ?_ (by kernel_rfl) (by kernel_rfl) (by kernel_rfl) (fun _ _ _ h => h) (Or.inl ⟨?_, fun w hSw => ?_⟩) hHeld ?_
                  rotate_left 2
                  · (simp only [List.getElem?_toArray, List.getElem?_cons_succ, List.getElem?_cons_zero]; rfl)
                  · rfl
                  · (clear hSw; go_simp; try (with_reducible rfl))
                  simp only [Act.put, List.setIfInBounds_toArray, List.set_cons_zero, List.set_cons_succ]
                  refine wpAnyH_ready (rs := [19]) (by kernel_rfl) (by simp) ?_
                  refine AllReadyH.cons (o := ?_) ?_ (fun K hK => ?_) AllReadyH.nil
                  rotate_left
                  · (simp only [List.getElem?_toArray, List.getElem?_cons_succ, List.getElem?_cons_zero]; rfl)
                  go_simp
                  refine (lw_nums_at _ _ [x.act.kind, x.act.port, x.act.table] _ _ 3 (by first | (have h := HB18.out; simp only [alloc_size, drew_size] at h; exact h) | exact HB18.out) rfl rfl (by simp)).mono ?_
                  rintro e u19 ⟨rfl, hk⟩
                  have hS := Lib.hid ((Hid.out hHeld).trans hk)
                  (try have HB3 := Lib.hid (hk.heap HB3.out id))
                  (try have HB18 := Lib.hid (hk.heap HB18.out id))
                  clear hk
                  refine hK.out _ _ hS (fun hHeld => ?_)
                  clear hK K
                  (try simp only [Act.put, List.setIfInBounds_toArray, List.set_cons_zero, List.set_cons_succ])
                  refine wpAnyH_take (i := 20) (oi := ?_) (v := ?_) ?_ (by kernel_rfl) (by kernel_rfl) (by kernel_rfl) (fun _ _ _ h => h) (Or.inl ⟨?_, fun w hSw => ?_⟩) hHeld ?_
                  rotate_left 2
                  · (simp only [List.getElem?_toArray, List.getElem?_cons_succ, List.getElem?_cons_zero]; rfl)
                  · rfl
                  · (clear hSw; go_simp; try (with_reducible rfl))
                  simp only [Act.put, List.setIfInBounds_toArray, List.set_cons_zero, List.set_cons_succ]
                  refine wpAnyH_ready (rs := [24]) (by kernel_rfl) (by simp) ?_
                  refine AllReadyH.cons (o := ?_) ?_ (fun K hK => ?_) AllReadyH.nil
                  rotate_left
                  · (simp only [List.getElem?_toArray, List.getElem?_cons_succ, List.getElem?_cons_zero]; rfl)
                  go_simp
                  refine (lw_cube _ x.act.set).mono ?_
                  rintro e u24 ⟨rfl, hk⟩
                  have hS := Lib.hid ((Hid.out hHeld).trans hk)
                  (try have HB3 := Lib.hid (hk.heap HB3.out id))
                  (try have HB18 := Lib.hid (hk.heap HB18.out id))
                  clear hk
                  refine hK.out _ _ hS (fun hHeld => ?_)
                  clear hK K
                  (try simp only [Act.put, List.setIfInBounds_toArray, List.set_cons_zero, List.set_cons_succ])
                  refine wpAnyH_take (i := 25) (oi := ?_) (v := ?_) ?_ (by kernel_rfl) (by kernel_rfl) (by kernel_rfl) (fun _ _ _ h => h) (Or.inl ⟨?_, fun w hSw => ?_⟩) hHeld ?_
                  rotate_left 2
                  · (simp only [List.getElem?_toArray, List.getElem?_cons_succ, List.getElem?_cons_zero]; rfl)
                  · rfl
                  · (clear hSw; go_simp; try (with_reducible rfl))
                  simp only [Act.put, List.setIfInBounds_toArray, List.set_cons_zero, List.set_cons_succ]
                  refine wpAnyH_take (i := 26) (oi := ?_) (v := ?_) ?_ (by kernel_rfl) (by kernel_rfl) (by kernel_rfl) (fun _ _ _ h => h) (Or.inl ⟨?_, fun w hSw => ?_⟩) hHeld ?_
                  rotate_left 2
                  · (simp only [List.getElem?_toArray, List.getElem?_cons_succ, List.getElem?_cons_zero]; rfl)
                  · rfl
                  · (clear hSw; go_simp; try (with_reducible rfl))
                  simp only [Act.put, List.setIfInBounds_toArray, List.set_cons_zero, List.set_cons_succ]
                  refine wpAnyH_take (i := 27) (oi := ?_) (v := ?_) ?_ (by kernel_rfl) (by kernel_rfl) (by kernel_rfl) (fun _ _ _ h => h) (Or.inl ⟨?_, fun w hSw => ?_⟩) hHeld ?_
                  rotate_left 2
                  · (simp only [List.getElem?_toArray, List.getElem?_cons_succ, List.getElem?_cons_zero]; rfl)
                  · rfl
                  · (clear hSw; go_simp; try (with_reducible rfl))
                  simp only [Act.put, List.setIfInBounds_toArray, List.set_cons_zero, List.set_cons_succ]
                  refine wpAnyH_done (by kernel_rfl) (NoPanic.normal ?_) _
                  have Hf := Lib.hid (Hkx.out.trans (Hid.out hHeld))
                  clear hHeld
                  go_wp2_with fail
                  go_roundw
                  case rel => exact ⟨j + 1, T4, by omega, by go_num, rfl, tab_step HT.out HLL.out Hxj.out, Hf.out⟩
                  case measure => simp [intOf]; omega
              refine AllReadyH.cons (o := ?_) ?_ (fun K hK => ?_) AllReadyH.nil
              rotate_left
              · (simp only [List.getElem?_toArray, List.getElem?_cons_succ, List.getElem?_cons_zero]; rfl)
              · skip
                go_simp
                have HB := Lib.hid (alloc_of (Hid.out hHeld) (.cells #[.int .i64 (i64of x.act.kind), .int .i64 (i64of x.act.port), .int .i64 (i64of x.act.table)] 3))
                have hk := alloc_kp (Hid.out hHeld) (.cells #[.int .i64 (i64of x.act.kind), .int .i64 (i64of x.act.port), .int .i64 (i64of x.act.table)] 3)
                have hS := Lib.hid ((Hid.out hHeld).trans hk)
                (try have HB3 := Lib.hid (hk.heap HB3.out id))
                (try have HB18 := Lib.hid (hk.heap HB18.out id))
                have HB18 := HB
                clear hk HB
                refine hK.out _ _ hS (fun hHeld => ?_)
                clear hK K
                (try simp only [Act.put, List.setIfInBounds_toArray, List.set_cons_zero, List.set_cons_succ])
                refine wpAnyH_ready (rs := [3]) (by kernel_rfl) (by simp) ?_
                refine AllReadyH.cons (o := ?_) ?_ (fun K hK => ?_) AllReadyH.nil
                rotate_left
                · (simp only [List.getElem?_toArray, List.getElem?_cons_succ, List.getElem?_cons_zero]; rfl)
                go_simp
                have HB := Lib.hid (alloc_of (Hid.out hHeld) (.cells #[.int .i64 (i64of x.prio)] 3))
                have hk := alloc_kp (Hid.out hHeld) (.cells #[.int .i64 (i64of x.prio)] 3)
                have hS := Lib.hid ((Hid.out hHeld).trans hk)
                (try have HB3 := Lib.hid (hk.heap HB3.out id))
                (try have HB18 := Lib.hid (hk.heap HB18.out id))
                have HB3 := HB
                clear hk HB
                refine hK.out _ _ hS (fun hHeld => ?_)
                clear hK K
                (try simp only [Act.put, List.setIfInBounds_toArray, List.set_cons_zero, List.set_cons_succ])
                refine wpAnyH_ready (rs := [4]) (by kernel_rfl) (by simp) ?_
                refine AllReadyH.cons (o := ?_) ?_ (fun K hK => ?_) AllReadyH.nil
                rotate_left
                · (simp only [List.getElem?_toArray, List.getElem?_cons_succ, List.getElem?_cons_zero]; rfl)
                go_simp
                refine (lw_nums_at _ _ [x.prio] _ _ 1 (by first | (have h := HB3.out; simp only [alloc_size, drew_size] at h; exact h) | exact HB3.out) rfl rfl (by simp)).mono ?_
                rintro e u4 ⟨rfl, hk⟩
                have hS := Lib.hid ((Hid.out hHeld).trans hk)
                (try have HB3 := Lib.hid (hk.heap HB3.out id))
                (try have HB18 := Lib.hid (hk.heap HB18.out id))
                clear hk
                refine hK.out _ _ hS (fun hHeld => ?_)
                clear hK K
                (try simp only [Act.put, List.setIfInBounds_toArray, List.set_cons_zero, List.set_cons_succ])
                refine wpAnyH_ready (rs := [7]) (by kernel_rfl) (by simp) ?_
                refine AllReadyH.cons (o := ?_) ?_ (fun K hK => ?_) AllReadyH.nil
                rotate_left
                · (simp only [List.getElem?_toArray, List.getElem?_cons_succ, List.getElem?_cons_zero]; rfl)
                go_simp
                refine (lw_cube _ x.mat).mono ?_
                rintro e u7 ⟨rfl, hk⟩
                have hS := Lib.hid ((Hid.out hHeld).trans hk)
                (try have HB3 := Lib.hid (hk.heap HB3.out id))
                (try have HB18 := Lib.hid (hk.heap HB18.out id))
                clear hk
                refine hK.out _ _ hS (fun hHeld => ?_)
                clear hK K
                (try simp only [Act.put, List.setIfInBounds_toArray, List.set_cons_zero, List.set_cons_succ])
                refine wpAnyH_take (i := 8) (oi := ?_) (v := ?_) ?_ (by kernel_rfl) (by kernel_rfl) (by kernel_rfl) (fun _ _ _ h => h) (Or.inl ⟨?_, fun w hSw => ?_⟩) hHeld ?_
                rotate_left 2
                · (simp only [List.getElem?_toArray, List.getElem?_cons_succ, List.getElem?_cons_zero]; rfl)
                · rfl
                · (clear hSw; go_simp; try (with_reducible rfl))
                simp only [Act.put, List.setIfInBounds_toArray, List.set_cons_zero, List.set_cons_succ]
                refine wpAnyH_ready (rs := [19]) (by kernel_rfl) (by simp) ?_
                refine AllReadyH.cons (o := ?_) ?_ (fun K hK => ?_) AllReadyH.nil
                rotate_left
                · (simp only [List.getElem?_toArray, List.getElem?_cons_succ, List.getElem?_cons_zero]; rfl)
                go_simp
                refine (lw_nums_at _ _ [x.act.kind, x.act.port, x.act.table] _ _ 3 (by first | (have h := HB18.out; simp only [alloc_size, drew_size] at h; exact h) | exact HB18.out) rfl rfl (by simp)).mono ?_
                rintro e u19 ⟨rfl, hk⟩
                have hS := Lib.hid ((Hid.out hHeld).trans hk)
                (try have HB3 := Lib.hid (hk.heap HB3.out id))
                (try have HB18 := Lib.hid (hk.heap HB18.out id))
                clear hk
                refine hK.out _ _ hS (fun hHeld => ?_)
                clear hK K
                (try simp only [Act.put, List.setIfInBounds_toArray, List.set_cons_zero, List.set_cons_succ])
                refine wpAnyH_take (i := 20) (oi := ?_) (v := ?_) ?_ (by kernel_rfl) (by kernel_rfl) (by kernel_rfl) (fun _ _ _ h => h) (Or.inl ⟨?_, fun w hSw => ?_⟩) hHeld ?_
                rotate_left 2
                · (simp only [List.getElem?_toArray, List.getElem?_cons_succ, List.getElem?_cons_zero]; rfl)
                · rfl
                · (clear hSw; go_simp; try (with_reducible rfl))
                simp only [Act.put, List.setIfInBounds_toArray, List.set_cons_zero, List.set_cons_succ]
                refine wpAnyH_ready (rs := [24]) (by kernel_rfl) (by simp) ?_
                refine AllReadyH.cons (o := ?_) ?_ (fun K hK => ?_) AllReadyH.nil
                rotate_left
                · (simp only [List.getElem?_toArray, List.getElem?_cons_succ, List.getElem?_cons_zero]; rfl)
                go_simp
                refine (lw_cube _ x.act.set).mono ?_
                rintro e u24 ⟨rfl, hk⟩
                have hS := Lib.hid ((Hid.out hHeld).trans hk)
                (try have HB3 := Lib.hid (hk.heap HB3.out id))
                (try have HB18 := Lib.hid (hk.heap HB18.out id))
                clear hk
                refine hK.out _ _ hS (fun hHeld => ?_)
                clear hK K
                (try simp only [Act.put, List.setIfInBounds_toArray, List.set_cons_zero, List.set_cons_succ])
                refine wpAnyH_take (i := 25) (oi := ?_) (v := ?_) ?_ (by kernel_rfl) (by kernel_rfl) (by kernel_rfl) (fun _ _ _ h => h) (Or.inl ⟨?_, fun w hSw => ?_⟩) hHeld ?_
                rotate_left 2
                · (simp only [List.getElem?_toArray, List.getElem?_cons_succ, List.getElem?_cons_zero]; rfl)
                · rfl
                · (clear hSw; go_simp; try (with_reducible rfl))
                simp only [Act.put, List.setIfInBounds_toArray, List.set_cons_zero, List.set_cons_succ]
                refine wpAnyH_take (i := 26) (oi := ?_) (v := ?_) ?_ (by kernel_rfl) (by kernel_rfl) (by kernel_rfl) (fun _ _ _ h => h) (Or.inl ⟨?_, fun w hSw => ?_⟩) hHeld ?_
                rotate_left 2
                · (simp only [List.getElem?_toArray, List.getElem?_cons_succ, List.getElem?_cons_zero]; rfl)
                · rfl
                · (clear hSw; go_simp; try (with_reducible rfl))
                simp only [Act.put, List.setIfInBounds_toArray, List.set_cons_zero, List.set_cons_succ]
                refine wpAnyH_take (i := 27) (oi := ?_) (v := ?_) ?_ (by kernel_rfl) (by kernel_rfl) (by kernel_rfl) (fun _ _ _ h => h) (Or.inl ⟨?_, fun w hSw => ?_⟩) hHeld ?_
                rotate_left 2
                · (simp only [List.getElem?_toArray, List.getElem?_cons_succ, List.getElem?_cons_zero]; rfl)
                · rfl
                · (clear hSw; go_simp; try (with_reducible rfl))
                simp only [Act.put, List.setIfInBounds_toArray, List.set_cons_zero, List.set_cons_succ]
                refine wpAnyH_done (by kernel_rfl) (NoPanic.normal ?_) _
                have Hf := Lib.hid (Hkx.out.trans (Hid.out hHeld))
                clear hHeld
                go_wp2_with fail
                go_roundw
                case rel => exact ⟨j + 1, T4, by omega, by go_num, rfl, tab_step HT.out HLL.out Hxj.out, Hf.out⟩
                case measure => simp [intOf]; omega
            · have q7 : ¬ (j : Int) < (m : Int) := by omega
              have Hso := Lib.hid (tab_round Hx.out (L := L) (LL := LL) (j := j) (ok := true) Hok.out HL.out Hlen.out Hx200.out (by rw [← Hm.out]; exact (decide_eq_true h200).symm) (fun _ => Nat.le_antisymm (by rw [← Hm.out]; exact hj) (by rw [← Hm.out]; omega)) (by omega) (by rw [← Hm.out]; exact HLL.out) (Hk5.out.trans Hk3.out))
              clear hk3 hLL hlt
              go_wp2_with fail
              go_roundw
              case rel => exact ⟨k + 1, LL, true, by omega, by go_num, rfl, rfl, Hso.out⟩
              case measure => simp [intOf]; omega
        · have q6 : ¬ (m : Int) ≤ 200 := by omega
          have q7 : decide ((m : Int) ≤ 200) = false := by simpa using q6
          go_wp2_with fail
          clear hc2
          go_loopw [4, 7] (fun s i wr => i = .int .i64 0 ∧ s = .string (bs (L ++ putF (UInt64.ofNat m) 8)) ∧ Kp No wo wr) (fun _ i _ => 0)
          case atStart => exact ⟨rfl, rfl, Hk2.out⟩
          case round =>
            obtain ⟨rfl, rfl, hk3⟩ := hrel
            have hc := hk3.cell Hc.out id
            have Hso := Lib.hid (tab_round Hx.out (L := L) (LL := L ++ putF (UInt64.ofNat m) 8) (j := 0) (ok := false) Hok.out HL.out Hlen.out Hx200.out (by rw [← Hm.out]; exact (decide_eq_false h200).symm) (fun h => by cases h) (by omega) (by rw [List.take_zero, List.flatMap_nil, enc8_nil, List.append_nil, ← Hm.out]) (Hk5.out.trans hk3))
            clear hk3
            go_wp2_with fail
            go_roundw
            case rel => exact ⟨k + 1, _, false, by omega, by go_num, rfl, rfl, Hso.out⟩
            case measure => simp [intOf]; omega
    · have Hso := Lib.hid (hso.done (by rw [← Hn.out]; exact hk) (fun _ => by rw [← Hn.out]; omega))
      have q1 : ¬ (k : Int) < (n : Int) := by omega
      clear hso
      go_wp2_with fail
      go_ret2
      exact Hso.out
end Go.Proofs.Ytpaldbejnbcokaa
