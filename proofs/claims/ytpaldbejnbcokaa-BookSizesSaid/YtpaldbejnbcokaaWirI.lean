/- Contracts of package wire: items, for each type of items; the lists. -/
import Derived.Test.YtpaldbejnbcokaaWirS
import Derived.Test.YtpaldbejnbcokaaCfgR
namespace Go.Proofs.Ytpaldbejnbcokaa
open Go.RowKit

/-- The writer has written so many words, of what fits. -/
def Wrote (w w' : World) (X : Nat → Prop) (l : List UInt8) (lg : Bool) (q : Nat) (fit : Bool) (ws : List UInt64) (M : Nat) : Prop :=
  ∃ l', WirAt w' X l' (lg || !fit) q ∧ Kp X w w' ∧ l'.length ≤ l.length + M ∧ (fit = true → l' = l ++ enc8 ws)
theorem Wrote.exact {w w' : World} {X : Nat → Prop} {l : List UInt8} {lg : Bool} {q : Nat} {ws : List UInt64} {M : Nat} (h : WirAt w' X (l ++ enc8 ws) lg q) (hk : Kp X w w') (hM : 8 * ws.length ≤ M) : Wrote w w' X l lg q true ws M :=
  ⟨_, by simpa using h, hk, by rw [List.length_append, enc8_len]; omega, fun _ => rfl⟩
/-- What the loop over items has written so far. -/
def SoFar {α : Type} (f : α → List UInt64) (ok : α → Bool) (M : Nat) (w wr : World) (X : Nat → Prop) (l : List UInt8) (lg : Bool) (q : Nat) (xs : List α) (k : Nat) : Prop :=
  ∃ l', WirAt wr X l' (lg || !(xs.take k).all ok) q ∧ Kp X w wr ∧ l'.length ≤ l.length + 8 + k * M ∧ ((xs.take k).all ok = true → l' = l ++ enc8 (UInt64.ofNat xs.length :: (xs.take k).flatMap f))
theorem ofInt_ofNat (n : Nat) : UInt64.ofInt (n : Int) = UInt64.ofNat n := by
  apply UInt64.toNat_inj.1
  have h1 := u64_ofInt (n : Int)
  have h2 := u64_wrap n
  omega
theorem SoFar.start {α : Type} {f : α → List UInt64} {ok : α → Bool} {M : Nat} {w wr : World} {X : Nat → Prop} {l : List UInt8} {lg : Bool} {q : Nat} {xs : List α} (h : WirAt wr X (l ++ putF (UInt64.ofNat xs.length) 8) lg q) (hk : Kp X w wr) : SoFar f ok M w wr X l lg q xs 0 :=
  ⟨_, by simpa using h, hk, by rw [List.length_append, putF_len]; omega, fun _ => by rw [List.take_zero, List.flatMap_nil, enc8_cons, enc8_nil, List.append_nil]⟩
theorem SoFar.next {α : Type} {f : α → List UInt64} {ok : α → Bool} {M : Nat} {w wr w' : World} {X : Nat → Prop} {l l' : List UInt8} {lg : Bool} {q : Nat} {xs : List α} {k : Nat} {x : α} (hx : xs[k]? = some x)
    (hk : Kp X w wr) (hl : l'.length ≤ l.length + 8 + k * M) (he : (xs.take k).all ok = true → l' = l ++ enc8 (UInt64.ofNat xs.length :: (xs.take k).flatMap f))
    (hn : Wrote wr w' X l' (lg || !(xs.take k).all ok) q (ok x) (f x) M) : SoFar f ok M w w' X l lg q xs (k + 1) := by
  obtain ⟨l2, h1, h2, h3, h4⟩ := hn
  have ht := take_snoc hx
  have ha : (xs.take (k + 1)).all ok = ((xs.take k).all ok && ok x) := by rw [ht]; simp
  refine ⟨l2, ?_, hk.trans h2, by rw [Nat.add_mul]; omega, fun h => ?_⟩
  · have e : (lg || !((xs.take k).all ok && ok x)) = (lg || !(xs.take k).all ok || !ok x) := by cases lg <;> cases (xs.take k).all ok <;> cases ok x <;> rfl
    rw [ha, e]
    exact h1
  · rw [ha, Bool.and_eq_true] at h
    rw [h4 h.2, he h.1, ht, List.flatMap_append, List.append_assoc, ← enc8_append]
    simp
theorem SoFar.done {α : Type} {f : α → List UInt64} {ok : α → Bool} {M N : Nat} {w wr : World} {X : Nat → Prop} {l : List UInt8} {lg : Bool} {q : Nat} {xs : List α} {k : Nat} (h : SoFar f ok M w wr X l lg q xs k) (hk : k = xs.length) (h2 : xs.length ≤ 200) (hN : 8 + 200 * M = N) :
    Wrote w wr X l lg q (fitL ok xs) (itemsW f xs) N := by
  subst hk
  obtain ⟨l', h1, h3, h4, h5⟩ := h
  rw [List.take_of_length_le (Nat.le_refl _)] at h1 h5
  have hf : fitL ok xs = xs.all ok := by simp [fitL, h2]
  have : xs.length * M ≤ 200 * M := Nat.mul_le_mul_right _ h2
  exact ⟨l', by rw [hf]; exact h1, h3, by omega, by rw [hf]; exact h5⟩
theorem Wrote.over {α : Type} {f : α → List UInt64} {ok : α → Bool} {N : Nat} {w : World} {X : Nat → Prop} {l : List UInt8} {lg : Bool} {q : Nat} {xs : List α} (h : WirAt w X l lg q) (h2 : 200 < xs.length) :
    Wrote w (w.setCell ⟨q, 1, none⟩ (.bool true)) X l lg q (fitL ok xs) (itemsW f xs) N := by
  have hf : fitL ok xs = false := by simp only [fitL, Bool.and_eq_false_iff, decide_eq_false_iff_not]; left; omega
  exact ⟨l, by rw [hf]; simpa using h.long.1, h.long.2, Nat.le_add_right _ _, by rw [hf]; intro h; cases h⟩
theorem Wrote.unbox {w w1 : World} {X : Nat → Prop} {l : List UInt8} {lg : Bool} {q : Nat} {fit : Bool} {ws : List UInt64} {M : Nat} {o : Obj} (h : Wrote (w.alloc o) w1 (fun b => X b ∧ b ≠ w.heap.size) l lg q fit ws M) : Wrote w w1 X l lg q fit ws M := by
  obtain ⟨l', h1, h2, h3, h4⟩ := h
  exact ⟨l', h1.unbox, h2.unbox, h3, h4⟩


set_option maxHeartbeats 1000000 in
theorem wir_items_ports (w : World) (X F : Nat → Prop) (l : List UInt8) (lg : Bool) (q : Nat) (v : Value) (xs : List (Pt)) (h : WirAt w X l lg q) (hX : New w X) (hv : SliceAt ptR w F xs v) (hF : ∀ b, F b → ¬ X b) (hb : l.length + 8008 ≤ 140737488355328) :
    Calls Try.prog 85 #[.pointer (some ⟨q, 0, none⟩), v, .func (.func 86) #[.pointer (some ⟨q, 0, none⟩)] #[]] w fun e w' => e = .returned (.tuple #[]) ∧ Wrote w w' X l lg q (fitL yes xs) (itemsW Pt.words xs) 8008 := by
  obtain ⟨A, n, c, rfl, Hn, hc1, hc2⟩ := hv.form'
  have Hv := Lib.hid hv
  have Hw := Lib.hid h
  have HX := Lib.hid hX
  have HF := Lib.hid hF
  have Hb := Lib.hid hb
  obtain ⟨p, hq, hXq, hpw⟩ := h
  have h0 : w.cell? ⟨q, 0, none⟩ = some (.pointer (some ⟨p, 0, none⟩)) := cell_of_row w q 0 _ _ _ hq
  have h1 : w.cell? ⟨q, 1, none⟩ = some (.bool lg) := cell_of_row w q 1 _ _ _ hq
  have hf1 : w.frozen? ⟨q, 1, none⟩ = false := by simp [World.frozen?, hq]
  have Hq := Lib.hid hq
  have HXq := Lib.hid hXq
  have Hpw := Lib.hid hpw
  clear hv hX hF hb hq hXq hpw
  by_cases hbig : 200 < n
  · have hb1 : (200 : Int) < (n : Int) := by omega
    have Hbig := Lib.hid hbig
    clear hbig
    go_enter Try.func85, Try.ntmps85
    go_wp2_with fail
    (try simp only [Exit.inBlock, Exit.then])
    refine bodyPost_ret (results_none rfl _ _ _) rfl ?_
    exact ⟨rfl, Wrote.over Hw.out (by rw [← Hn.out]; exact Hbig.out)⟩
  · have hb1 : (n : Int) ≤ 200 := by omega
    have Hsm := Lib.hid (show n ≤ 200 by omega)
    clear hbig
    go_enter Try.func85, Try.ntmps85
    go_wp2_with fail
    refine (Writer_Num _ _ _ _ (n : Int) Hpw.out (by have := Hb.out; omega)).mono ?_
    rintro e w1 ⟨rfl, h2, hk2⟩
    have hnn : UInt64.ofInt (n : Int) = UInt64.ofNat xs.length := by rw [← Hn.out, ofInt_ofNat]
    rw [hnn] at h2
    have H4 := Lib.hid (WirAt.put Hq.out HXq.out HX.out h2 hk2)
    clear h2 hk2 hnn h0 h1 hf1
    go_wp2_with fail
    go_loopw [23] (fun i wr => ∃ k : Nat, k ≤ n ∧ i = .int .i64 k ∧ SoFar Pt.words yes 40 w wr X l lg q xs k) (fun i _ => n - (intOf i).toNat)
    case atStart => exact ⟨0, Nat.zero_le _, rfl, SoFar.start H4.out.1 H4.out.2⟩
    case round =>
      clear H4
      obtain ⟨k, hk, rfl, hso⟩ := hrel
      have q3 : (0 : Int) ≤ (k : Int) := by omega
      by_cases hlt : k < n
      · obtain ⟨l', hw, hkp, hl, he⟩ := hso
        have Hkm := Lib.hid (show k * 40 ≤ 199 * 40 from Nat.mul_le_mul_right _ (by have := Hsm.out; omega))
        have Hkp := Lib.hid hkp
        have Hl := Lib.hid hl
        have He := Lib.hid he
        obtain ⟨x, hx⟩ : ∃ x, xs[k]? = some x := ⟨_, List.getElem?_eq_getElem (by rw [← Hn.out]; exact hlt)⟩
        have Hx := Lib.hid hx
        obtain ⟨b, off, rfl, hFb, c0, c1, c2, c3, c4⟩ := (Hv.out.kp Hkp.out HF.out).get_Pt hx
        obtain ⟨h1, h2⟩ := hw.box (HX.out.kp hkp) (.cells #[.int .i64 (i64of x.kind), .int .i64 (i64of x.tenant), .int .i64 (i64of x.peer), .int .i64 (i64of x.at_), .int .i64 (i64of x.cost)] 88)
        obtain ⟨wx, hwx⟩ : ∃ wx, wx = wr.alloc (.cells #[.int .i64 (i64of x.kind), .int .i64 (i64of x.tenant), .int .i64 (i64of x.peer), .int .i64 (i64of x.at_), .int .i64 (i64of x.cost)] 88) := ⟨_, rfl⟩
        rw [← hwx] at h1 h2
        have Hwx := Lib.hid hwx
        have H1 := Lib.hid h1
        have H2 := Lib.hid h2
        have q1 : (k : Int) < (n : Int) := by omega
        clear hwx h1 h2 hw hkp hl he hx hFb hlt
        go_wp2_with fail
        rw [← Hwx.out]
        refine (wir_port _ _ _ _ _ x H1.out H2.out (by have := Hl.out; have := Hb.out; have := Hkm.out; omega)).mono ?_
        rintro e w2 ⟨rfl, h3, hk3⟩
        have H3 := Lib.hid (show Wrote wx w2 (fun b => X b ∧ b ≠ wr.heap.size) l' (lg || !(xs.take k).all yes) q true (Pt.words x) 40 from Wrote.exact h3 hk3 (by simp [Pt.words]))
        clear h3 hk3
        go_wp2_with fail
        go_roundw
        case rel => exact ⟨k + 1, by omega, by go_num, SoFar.next Hx.out Hkp.out Hl.out He.out (Wrote.unbox (by rw [← Hwx.out]; exact H3.out))⟩
        case measure => simp [intOf]; omega
      · have Hso := Lib.hid hso
        clear hso
        go_wp2_with fail
        go_end0
        exact ⟨rfl, Hso.out.done (by rw [← Hn.out]; omega) (by rw [← Hn.out]; exact Hsm.out) rfl⟩


set_option maxHeartbeats 400000 in
theorem wir_ports (w : World) (X F : Nat → Prop) (l : List UInt8) (lg : Bool) (q : Nat) (v : Value) (xs : List (Pt)) (h : WirAt w X l lg q) (hX : New w X) (hv : SliceAt ptR w F xs v) (hF : ∀ b, F b → ¬ X b) (hb : l.length + 8008 ≤ 140737488355328) :
    Calls Try.prog 60 #[.pointer (some ⟨q, 0, none⟩), v] w fun e w' => e = .returned (.tuple #[]) ∧ Wrote w w' X l lg q (portsFit xs) (portsW xs) 8008 := by
  have h2 := wir_items_ports w X F l lg q v xs h hX hv hF hb
  have H2 := Lib.hid h2
  clear h2 h hX hv hF hb
  go_enter Try.func60, Try.ntmps60
  go_wp2_with fail
  refine H2.out.mono ?_
  rintro e w1 ⟨rfl, h3⟩
  have H3 := Lib.hid h3
  clear h3
  go_wp2_with fail
  go_end0
  exact ⟨rfl, H3.out⟩


set_option maxHeartbeats 1000000 in
theorem wir_items_peers (w : World) (X F : Nat → Prop) (l : List UInt8) (lg : Bool) (q : Nat) (v : Value) (xs : List (Pr)) (h : WirAt w X l lg q) (hX : New w X) (hv : SliceAt prR w F xs v) (hF : ∀ b, F b → ¬ X b) (hb : l.length + 3208 ≤ 140737488355328) :
    Calls Try.prog 62 #[.pointer (some ⟨q, 0, none⟩), v, .func (.func 63) #[.pointer (some ⟨q, 0, none⟩)] #[]] w fun e w' => e = .returned (.tuple #[]) ∧ Wrote w w' X l lg q (fitL yes xs) (itemsW Pr.words xs) 3208 := by
  obtain ⟨A, n, c, rfl, Hn, hc1, hc2⟩ := hv.form'
  have Hv := Lib.hid hv
  have Hw := Lib.hid h
  have HX := Lib.hid hX
  have HF := Lib.hid hF
  have Hb := Lib.hid hb
  obtain ⟨p, hq, hXq, hpw⟩ := h
  have h0 : w.cell? ⟨q, 0, none⟩ = some (.pointer (some ⟨p, 0, none⟩)) := cell_of_row w q 0 _ _ _ hq
  have h1 : w.cell? ⟨q, 1, none⟩ = some (.bool lg) := cell_of_row w q 1 _ _ _ hq
  have hf1 : w.frozen? ⟨q, 1, none⟩ = false := by simp [World.frozen?, hq]
  have Hq := Lib.hid hq
  have HXq := Lib.hid hXq
  have Hpw := Lib.hid hpw
  clear hv hX hF hb hq hXq hpw
  by_cases hbig : 200 < n
  · have hb1 : (200 : Int) < (n : Int) := by omega
    have Hbig := Lib.hid hbig
    clear hbig
    go_enter Try.func62, Try.ntmps62
    go_wp2_with fail
    (try simp only [Exit.inBlock, Exit.then])
    refine bodyPost_ret (results_none rfl _ _ _) rfl ?_
    exact ⟨rfl, Wrote.over Hw.out (by rw [← Hn.out]; exact Hbig.out)⟩
  · have hb1 : (n : Int) ≤ 200 := by omega
    have Hsm := Lib.hid (show n ≤ 200 by omega)
    clear hbig
    go_enter Try.func62, Try.ntmps62
    go_wp2_with fail
    refine (Writer_Num _ _ _ _ (n : Int) Hpw.out (by have := Hb.out; omega)).mono ?_
    rintro e w1 ⟨rfl, h2, hk2⟩
    have hnn : UInt64.ofInt (n : Int) = UInt64.ofNat xs.length := by rw [← Hn.out, ofInt_ofNat]
    rw [hnn] at h2
    have H4 := Lib.hid (WirAt.put Hq.out HXq.out HX.out h2 hk2)
    clear h2 hk2 hnn h0 h1 hf1
    go_wp2_with fail
    go_loopw [23] (fun i wr => ∃ k : Nat, k ≤ n ∧ i = .int .i64 k ∧ SoFar Pr.words yes 16 w wr X l lg q xs k) (fun i _ => n - (intOf i).toNat)
    case atStart => exact ⟨0, Nat.zero_le _, rfl, SoFar.start H4.out.1 H4.out.2⟩
    case round =>
      clear H4
      obtain ⟨k, hk, rfl, hso⟩ := hrel
      have q3 : (0 : Int) ≤ (k : Int) := by omega
      by_cases hlt : k < n
      · obtain ⟨l', hw, hkp, hl, he⟩ := hso
        have Hkm := Lib.hid (show k * 16 ≤ 199 * 16 from Nat.mul_le_mul_right _ (by have := Hsm.out; omega))
        have Hkp := Lib.hid hkp
        have Hl := Lib.hid hl
        have He := Lib.hid he
        obtain ⟨x, hx⟩ : ∃ x, xs[k]? = some x := ⟨_, List.getElem?_eq_getElem (by rw [← Hn.out]; exact hlt)⟩
        have Hx := Lib.hid hx
        obtain ⟨b, off, rfl, hFb, c0, c1⟩ := (Hv.out.kp Hkp.out HF.out).get_Pr hx
        obtain ⟨h1, h2⟩ := hw.box (HX.out.kp hkp) (.cells #[.int .i64 (i64of x.a), .int .i64 (i64of x.b)] 89)
        obtain ⟨wx, hwx⟩ : ∃ wx, wx = wr.alloc (.cells #[.int .i64 (i64of x.a), .int .i64 (i64of x.b)] 89) := ⟨_, rfl⟩
        rw [← hwx] at h1 h2
        have Hwx := Lib.hid hwx
        have H1 := Lib.hid h1
        have H2 := Lib.hid h2
        have q1 : (k : Int) < (n : Int) := by omega
        clear hwx h1 h2 hw hkp hl he hx hFb hlt
        go_wp2_with fail
        rw [← Hwx.out]
        refine (wir_peer _ _ _ _ _ x H1.out H2.out (by have := Hl.out; have := Hb.out; have := Hkm.out; omega)).mono ?_
        rintro e w2 ⟨rfl, h3, hk3⟩
        have H3 := Lib.hid (show Wrote wx w2 (fun b => X b ∧ b ≠ wr.heap.size) l' (lg || !(xs.take k).all yes) q true (Pr.words x) 16 from Wrote.exact h3 hk3 (by simp [Pr.words]))
        clear h3 hk3
        go_wp2_with fail
        go_roundw
        case rel => exact ⟨k + 1, by omega, by go_num, SoFar.next Hx.out Hkp.out Hl.out He.out (Wrote.unbox (by rw [← Hwx.out]; exact H3.out))⟩
        case measure => simp [intOf]; omega
      · have Hso := Lib.hid hso
        clear hso
        go_wp2_with fail
        go_end0
        exact ⟨rfl, Hso.out.done (by rw [← Hn.out]; omega) (by rw [← Hn.out]; exact Hsm.out) rfl⟩


set_option maxHeartbeats 1000000 in
theorem wir_items_ways (w : World) (X F : Nat → Prop) (l : List UInt8) (lg : Bool) (q : Nat) (v : Value) (xs : List (Wy)) (h : WirAt w X l lg q) (hX : New w X) (hv : SliceAt wyR w F xs v) (hF : ∀ b, F b → ¬ X b) (hb : l.length + 4808 ≤ 140737488355328) :
    Calls Try.prog 64 #[.pointer (some ⟨q, 0, none⟩), v, .func (.func 65) #[.pointer (some ⟨q, 0, none⟩)] #[]] w fun e w' => e = .returned (.tuple #[]) ∧ Wrote w w' X l lg q (fitL yes xs) (itemsW Wy.words xs) 4808 := by
  obtain ⟨A, n, c, rfl, Hn, hc1, hc2⟩ := hv.form'
  have Hv := Lib.hid hv
  have Hw := Lib.hid h
  have HX := Lib.hid hX
  have HF := Lib.hid hF
  have Hb := Lib.hid hb
  obtain ⟨p, hq, hXq, hpw⟩ := h
  have h0 : w.cell? ⟨q, 0, none⟩ = some (.pointer (some ⟨p, 0, none⟩)) := cell_of_row w q 0 _ _ _ hq
  have h1 : w.cell? ⟨q, 1, none⟩ = some (.bool lg) := cell_of_row w q 1 _ _ _ hq
  have hf1 : w.frozen? ⟨q, 1, none⟩ = false := by simp [World.frozen?, hq]
  have Hq := Lib.hid hq
  have HXq := Lib.hid hXq
  have Hpw := Lib.hid hpw
  clear hv hX hF hb hq hXq hpw
  by_cases hbig : 200 < n
  · have hb1 : (200 : Int) < (n : Int) := by omega
    have Hbig := Lib.hid hbig
    clear hbig
    go_enter Try.func64, Try.ntmps64
    go_wp2_with fail
    (try simp only [Exit.inBlock, Exit.then])
    refine bodyPost_ret (results_none rfl _ _ _) rfl ?_
    exact ⟨rfl, Wrote.over Hw.out (by rw [← Hn.out]; exact Hbig.out)⟩
  · have hb1 : (n : Int) ≤ 200 := by omega
    have Hsm := Lib.hid (show n ≤ 200 by omega)
    clear hbig
    go_enter Try.func64, Try.ntmps64
    go_wp2_with fail
    refine (Writer_Num _ _ _ _ (n : Int) Hpw.out (by have := Hb.out; omega)).mono ?_
    rintro e w1 ⟨rfl, h2, hk2⟩
    have hnn : UInt64.ofInt (n : Int) = UInt64.ofNat xs.length := by rw [← Hn.out, ofInt_ofNat]
    rw [hnn] at h2
    have H4 := Lib.hid (WirAt.put Hq.out HXq.out HX.out h2 hk2)
    clear h2 hk2 hnn h0 h1 hf1
    go_wp2_with fail
    go_loopw [23] (fun i wr => ∃ k : Nat, k ≤ n ∧ i = .int .i64 k ∧ SoFar Wy.words yes 24 w wr X l lg q xs k) (fun i _ => n - (intOf i).toNat)
    case atStart => exact ⟨0, Nat.zero_le _, rfl, SoFar.start H4.out.1 H4.out.2⟩
    case round =>
      clear H4
      obtain ⟨k, hk, rfl, hso⟩ := hrel
      have q3 : (0 : Int) ≤ (k : Int) := by omega
      by_cases hlt : k < n
      · obtain ⟨l', hw, hkp, hl, he⟩ := hso
        have Hkm := Lib.hid (show k * 24 ≤ 199 * 24 from Nat.mul_le_mul_right _ (by have := Hsm.out; omega))
        have Hkp := Lib.hid hkp
        have Hl := Lib.hid hl
        have He := Lib.hid he
        obtain ⟨x, hx⟩ : ∃ x, xs[k]? = some x := ⟨_, List.getElem?_eq_getElem (by rw [← Hn.out]; exact hlt)⟩
        have Hx := Lib.hid hx
        obtain ⟨b, off, rfl, hFb, c0, c1, c2⟩ := (Hv.out.kp Hkp.out HF.out).get_Wy hx
        obtain ⟨h1, h2⟩ := hw.box (HX.out.kp hkp) (.cells #[.int .i64 (i64of x.fro), .int .i64 (i64of x.to), .int .i64 (i64of x.via)] 91)
        obtain ⟨wx, hwx⟩ : ∃ wx, wx = wr.alloc (.cells #[.int .i64 (i64of x.fro), .int .i64 (i64of x.to), .int .i64 (i64of x.via)] 91) := ⟨_, rfl⟩
        rw [← hwx] at h1 h2
        have Hwx := Lib.hid hwx
        have H1 := Lib.hid h1
        have H2 := Lib.hid h2
        have q1 : (k : Int) < (n : Int) := by omega
        clear hwx h1 h2 hw hkp hl he hx hFb hlt
        go_wp2_with fail
        rw [← Hwx.out]
        refine (wir_way _ _ _ _ _ x H1.out H2.out (by have := Hl.out; have := Hb.out; have := Hkm.out; omega)).mono ?_
        rintro e w2 ⟨rfl, h3, hk3⟩
        have H3 := Lib.hid (show Wrote wx w2 (fun b => X b ∧ b ≠ wr.heap.size) l' (lg || !(xs.take k).all yes) q true (Wy.words x) 24 from Wrote.exact h3 hk3 (by simp [Wy.words]))
        clear h3 hk3
        go_wp2_with fail
        go_roundw
        case rel => exact ⟨k + 1, by omega, by go_num, SoFar.next Hx.out Hkp.out Hl.out He.out (Wrote.unbox (by rw [← Hwx.out]; exact H3.out))⟩
        case measure => simp [intOf]; omega
      · have Hso := Lib.hid hso
        clear hso
        go_wp2_with fail
        go_end0
        exact ⟨rfl, Hso.out.done (by rw [← Hn.out]; omega) (by rw [← Hn.out]; exact Hsm.out) rfl⟩


set_option maxHeartbeats 1000000 in
theorem wir_items_rules (w : World) (X F : Nat → Prop) (l : List UInt8) (lg : Bool) (q : Nat) (v : Value) (xs : List (Rl)) (h : WirAt w X l lg q) (hX : New w X) (hv : SliceAt rlR w F xs v) (hF : ∀ b, F b → ¬ X b) (hb : l.length + 19208 ≤ 140737488355328) :
    Calls Try.prog 97 #[.pointer (some ⟨q, 0, none⟩), v, .func (.func 98) #[.pointer (some ⟨q, 0, none⟩)] #[]] w fun e w' => e = .returned (.tuple #[]) ∧ Wrote w w' X l lg q (fitL yes xs) (itemsW Rl.words xs) 19208 := by
  obtain ⟨A, n, c, rfl, Hn, hc1, hc2⟩ := hv.form'
  have Hv := Lib.hid hv
  have Hw := Lib.hid h
  have HX := Lib.hid hX
  have HF := Lib.hid hF
  have Hb := Lib.hid hb
  obtain ⟨p, hq, hXq, hpw⟩ := h
  have h0 : w.cell? ⟨q, 0, none⟩ = some (.pointer (some ⟨p, 0, none⟩)) := cell_of_row w q 0 _ _ _ hq
  have h1 : w.cell? ⟨q, 1, none⟩ = some (.bool lg) := cell_of_row w q 1 _ _ _ hq
  have hf1 : w.frozen? ⟨q, 1, none⟩ = false := by simp [World.frozen?, hq]
  have Hq := Lib.hid hq
  have HXq := Lib.hid hXq
  have Hpw := Lib.hid hpw
  clear hv hX hF hb hq hXq hpw
  by_cases hbig : 200 < n
  · have hb1 : (200 : Int) < (n : Int) := by omega
    have Hbig := Lib.hid hbig
    clear hbig
    go_enter Try.func97, Try.ntmps97
    go_wp2_with fail
    (try simp only [Exit.inBlock, Exit.then])
    refine bodyPost_ret (results_none rfl _ _ _) rfl ?_
    exact ⟨rfl, Wrote.over Hw.out (by rw [← Hn.out]; exact Hbig.out)⟩
  · have hb1 : (n : Int) ≤ 200 := by omega
    have Hsm := Lib.hid (show n ≤ 200 by omega)
    clear hbig
    go_enter Try.func97, Try.ntmps97
    go_wp2_with fail
    refine (Writer_Num _ _ _ _ (n : Int) Hpw.out (by have := Hb.out; omega)).mono ?_
    rintro e w1 ⟨rfl, h2, hk2⟩
    have hnn : UInt64.ofInt (n : Int) = UInt64.ofNat xs.length := by rw [← Hn.out, ofInt_ofNat]
    rw [hnn] at h2
    have H4 := Lib.hid (WirAt.put Hq.out HXq.out HX.out h2 hk2)
    clear h2 hk2 hnn h0 h1 hf1
    go_wp2_with fail
    go_loopw [23] (fun i wr => ∃ k : Nat, k ≤ n ∧ i = .int .i64 k ∧ SoFar Rl.words yes 96 w wr X l lg q xs k) (fun i _ => n - (intOf i).toNat)
    case atStart => exact ⟨0, Nat.zero_le _, rfl, SoFar.start H4.out.1 H4.out.2⟩
    case round =>
      clear H4
      obtain ⟨k, hk, rfl, hso⟩ := hrel
      have q3 : (0 : Int) ≤ (k : Int) := by omega
      by_cases hlt : k < n
      · obtain ⟨l', hw, hkp, hl, he⟩ := hso
        have Hkm := Lib.hid (show k * 96 ≤ 199 * 96 from Nat.mul_le_mul_right _ (by have := Hsm.out; omega))
        have Hkp := Lib.hid hkp
        have Hl := Lib.hid hl
        have He := Lib.hid he
        obtain ⟨x, hx⟩ : ∃ x, xs[k]? = some x := ⟨_, List.getElem?_eq_getElem (by rw [← Hn.out]; exact hlt)⟩
        have Hx := Lib.hid hx
        obtain ⟨b, off, rfl, hFb, c0, c1, c2, c3, c4, c5, c6, c7, c8, c9, c10, c11⟩ := (Hv.out.kp Hkp.out HF.out).get_Rl hx
        obtain ⟨h1, h2⟩ := hw.box (HX.out.kp hkp) (.cells #[.int .i64 (i64of x.prio), .int .u64 x.mat.value.hi.toNat, .int .u64 x.mat.value.lo.toNat, .int .u64 x.mat.care.hi.toNat, .int .u64 x.mat.care.lo.toNat, .int .i64 (i64of x.act.kind), .int .i64 (i64of x.act.port), .int .i64 (i64of x.act.table), .int .u64 x.act.set.value.hi.toNat, .int .u64 x.act.set.value.lo.toNat, .int .u64 x.act.set.care.hi.toNat, .int .u64 x.act.set.care.lo.toNat] 112)
        obtain ⟨wx, hwx⟩ : ∃ wx, wx = wr.alloc (.cells #[.int .i64 (i64of x.prio), .int .u64 x.mat.value.hi.toNat, .int .u64 x.mat.value.lo.toNat, .int .u64 x.mat.care.hi.toNat, .int .u64 x.mat.care.lo.toNat, .int .i64 (i64of x.act.kind), .int .i64 (i64of x.act.port), .int .i64 (i64of x.act.table), .int .u64 x.act.set.value.hi.toNat, .int .u64 x.act.set.value.lo.toNat, .int .u64 x.act.set.care.hi.toNat, .int .u64 x.act.set.care.lo.toNat] 112) := ⟨_, rfl⟩
        rw [← hwx] at h1 h2
        have Hwx := Lib.hid hwx
        have H1 := Lib.hid h1
        have H2 := Lib.hid h2
        have q1 : (k : Int) < (n : Int) := by omega
        clear hwx h1 h2 hw hkp hl he hx hFb hlt
        go_wp2_with fail
        rw [← Hwx.out]
        refine (wir_rule _ _ _ _ _ x H1.out H2.out (by have := Hl.out; have := Hb.out; have := Hkm.out; omega)).mono ?_
        rintro e w2 ⟨rfl, h3, hk3⟩
        have H3 := Lib.hid (show Wrote wx w2 (fun b => X b ∧ b ≠ wr.heap.size) l' (lg || !(xs.take k).all yes) q true (Rl.words x) 96 from Wrote.exact h3 hk3 (by simp [Rl.words]))
        clear h3 hk3
        go_wp2_with fail
        go_roundw
        case rel => exact ⟨k + 1, by omega, by go_num, SoFar.next Hx.out Hkp.out Hl.out He.out (Wrote.unbox (by rw [← Hwx.out]; exact H3.out))⟩
        case measure => simp [intOf]; omega
      · have Hso := Lib.hid hso
        clear hso
        go_wp2_with fail
        go_end0
        exact ⟨rfl, Hso.out.done (by rw [← Hn.out]; omega) (by rw [← Hn.out]; exact Hsm.out) rfl⟩


set_option maxHeartbeats 400000 in
theorem wir_rules (w : World) (X F : Nat → Prop) (l : List UInt8) (lg : Bool) (q : Nat) (v : Value) (xs : List (Rl)) (h : WirAt w X l lg q) (hX : New w X) (hv : SliceAt rlR w F xs v) (hF : ∀ b, F b → ¬ X b) (hb : l.length + 19208 ≤ 140737488355328) :
    Calls Try.prog 88 #[.pointer (some ⟨q, 0, none⟩), v] w fun e w' => e = .returned (.tuple #[]) ∧ Wrote w w' X l lg q (rulesFit xs) (rulesW xs) 19208 := by
  have h2 := wir_items_rules w X F l lg q v xs h hX hv hF hb
  have H2 := Lib.hid h2
  clear h2 h hX hv hF hb
  go_enter Try.func88, Try.ntmps88
  go_wp2_with fail
  refine H2.out.mono ?_
  rintro e w1 ⟨rfl, h3⟩
  have H3 := Lib.hid h3
  clear h3
  go_wp2_with fail
  go_end0
  exact ⟨rfl, H3.out⟩


set_option maxHeartbeats 1000000 in
theorem wir_items_portss (w : World) (X F : Nat → Prop) (l : List UInt8) (lg : Bool) (q : Nat) (v : Value) (xs : List (List Pt)) (h : WirAt w X l lg q) (hX : New w X) (hv : SliceAt ptR.slice w F xs v) (hF : ∀ b, F b → ¬ X b) (hb : l.length + 1601608 ≤ 140737488355328) :
    Calls Try.prog 59 #[.pointer (some ⟨q, 0, none⟩), v, .func (.func 60) #[.pointer (some ⟨q, 0, none⟩)] #[]] w fun e w' => e = .returned (.tuple #[]) ∧ Wrote w w' X l lg q (fitL portsFit xs) (itemsW portsW xs) 1601608 := by
  obtain ⟨A, n, c, rfl, Hn, hc1, hc2⟩ := hv.form'
  have Hv := Lib.hid hv
  have Hw := Lib.hid h
  have HX := Lib.hid hX
  have HF := Lib.hid hF
  have Hb := Lib.hid hb
  obtain ⟨p, hq, hXq, hpw⟩ := h
  have h0 : w.cell? ⟨q, 0, none⟩ = some (.pointer (some ⟨p, 0, none⟩)) := cell_of_row w q 0 _ _ _ hq
  have h1 : w.cell? ⟨q, 1, none⟩ = some (.bool lg) := cell_of_row w q 1 _ _ _ hq
  have hf1 : w.frozen? ⟨q, 1, none⟩ = false := by simp [World.frozen?, hq]
  have Hq := Lib.hid hq
  have HXq := Lib.hid hXq
  have Hpw := Lib.hid hpw
  clear hv hX hF hb hq hXq hpw
  by_cases hbig : 200 < n
  · have hb1 : (200 : Int) < (n : Int) := by omega
    have Hbig := Lib.hid hbig
    clear hbig
    go_enter Try.func59, Try.ntmps59
    go_wp2_with fail
    (try simp only [Exit.inBlock, Exit.then])
    refine bodyPost_ret (results_none rfl _ _ _) rfl ?_
    exact ⟨rfl, Wrote.over Hw.out (by rw [← Hn.out]; exact Hbig.out)⟩
  · have hb1 : (n : Int) ≤ 200 := by omega
    have Hsm := Lib.hid (show n ≤ 200 by omega)
    clear hbig
    go_enter Try.func59, Try.ntmps59
    go_wp2_with fail
    refine (Writer_Num _ _ _ _ (n : Int) Hpw.out (by have := Hb.out; omega)).mono ?_
    rintro e w1 ⟨rfl, h2, hk2⟩
    have hnn : UInt64.ofInt (n : Int) = UInt64.ofNat xs.length := by rw [← Hn.out, ofInt_ofNat]
    rw [hnn] at h2
    have H4 := Lib.hid (WirAt.put Hq.out HXq.out HX.out h2 hk2)
    clear h2 hk2 hnn h0 h1 hf1
    go_wp2_with fail
    go_loopw [23] (fun i wr => ∃ k : Nat, k ≤ n ∧ i = .int .i64 k ∧ SoFar portsW portsFit 8008 w wr X l lg q xs k) (fun i _ => n - (intOf i).toNat)
    case atStart => exact ⟨0, Nat.zero_le _, rfl, SoFar.start H4.out.1 H4.out.2⟩
    case round =>
      clear H4
      obtain ⟨k, hk, rfl, hso⟩ := hrel
      have q3 : (0 : Int) ≤ (k : Int) := by omega
      by_cases hlt : k < n
      · obtain ⟨l', hw, hkp, hl, he⟩ := hso
        have Hkm := Lib.hid (show k * 8008 ≤ 199 * 8008 from Nat.mul_le_mul_right _ (by have := Hsm.out; omega))
        have Hkp := Lib.hid hkp
        have Hl := Lib.hid hl
        have He := Lib.hid he
        obtain ⟨x, hx⟩ : ∃ x, xs[k]? = some x := ⟨_, List.getElem?_eq_getElem (by rw [← Hn.out]; exact hlt)⟩
        have Hx := Lib.hid hx
        obtain ⟨b, off, u, rfl, hFb, hc, hu⟩ := (Hv.out.kp Hkp.out HF.out).get_slice hx
        obtain ⟨A3, n3, c3, rfl, Hn3, hc5, hc6⟩ := hu.form'
        have Hu := Lib.hid hu
        clear hu
        have H1 := Lib.hid hw
        have H2 := Lib.hid (HX.out.kp hkp)
        have q1 : (k : Int) < (n : Int) := by omega
        clear hw hkp hl he hx hFb hlt
        go_wp2_with fail
        skip
        refine (wir_ports _ _ F _ _ _ _ x H1.out H2.out Hu.out HF.out (by have := Hl.out; have := Hb.out; have := Hkm.out; omega)).mono ?_
        rintro e w2 ⟨rfl, h3⟩
        have H3 := Lib.hid h3
        clear h3
        go_wp2_with fail
        go_roundw
        case rel => exact ⟨k + 1, by omega, by go_num, SoFar.next Hx.out Hkp.out Hl.out He.out H3.out⟩
        case measure => simp [intOf]; omega
      · have Hso := Lib.hid hso
        clear hso
        go_wp2_with fail
        go_end0
        exact ⟨rfl, Hso.out.done (by rw [← Hn.out]; omega) (by rw [← Hn.out]; exact Hsm.out) rfl⟩


set_option maxHeartbeats 1000000 in
theorem wir_items_ruless (w : World) (X F : Nat → Prop) (l : List UInt8) (lg : Bool) (q : Nat) (v : Value) (xs : List (List Rl)) (h : WirAt w X l lg q) (hX : New w X) (hv : SliceAt rlR.slice w F xs v) (hF : ∀ b, F b → ¬ X b) (hb : l.length + 3841608 ≤ 140737488355328) :
    Calls Try.prog 87 #[.pointer (some ⟨q, 0, none⟩), v, .func (.func 88) #[.pointer (some ⟨q, 0, none⟩)] #[]] w fun e w' => e = .returned (.tuple #[]) ∧ Wrote w w' X l lg q (fitL rulesFit xs) (itemsW rulesW xs) 3841608 := by
  obtain ⟨A, n, c, rfl, Hn, hc1, hc2⟩ := hv.form'
  have Hv := Lib.hid hv
  have Hw := Lib.hid h
  have HX := Lib.hid hX
  have HF := Lib.hid hF
  have Hb := Lib.hid hb
  obtain ⟨p, hq, hXq, hpw⟩ := h
  have h0 : w.cell? ⟨q, 0, none⟩ = some (.pointer (some ⟨p, 0, none⟩)) := cell_of_row w q 0 _ _ _ hq
  have h1 : w.cell? ⟨q, 1, none⟩ = some (.bool lg) := cell_of_row w q 1 _ _ _ hq
  have hf1 : w.frozen? ⟨q, 1, none⟩ = false := by simp [World.frozen?, hq]
  have Hq := Lib.hid hq
  have HXq := Lib.hid hXq
  have Hpw := Lib.hid hpw
  clear hv hX hF hb hq hXq hpw
  by_cases hbig : 200 < n
  · have hb1 : (200 : Int) < (n : Int) := by omega
    have Hbig := Lib.hid hbig
    clear hbig
    go_enter Try.func87, Try.ntmps87
    go_wp2_with fail
    (try simp only [Exit.inBlock, Exit.then])
    refine bodyPost_ret (results_none rfl _ _ _) rfl ?_
    exact ⟨rfl, Wrote.over Hw.out (by rw [← Hn.out]; exact Hbig.out)⟩
  · have hb1 : (n : Int) ≤ 200 := by omega
    have Hsm := Lib.hid (show n ≤ 200 by omega)
    clear hbig
    go_enter Try.func87, Try.ntmps87
    go_wp2_with fail
    refine (Writer_Num _ _ _ _ (n : Int) Hpw.out (by have := Hb.out; omega)).mono ?_
    rintro e w1 ⟨rfl, h2, hk2⟩
    have hnn : UInt64.ofInt (n : Int) = UInt64.ofNat xs.length := by rw [← Hn.out, ofInt_ofNat]
    rw [hnn] at h2
    have H4 := Lib.hid (WirAt.put Hq.out HXq.out HX.out h2 hk2)
    clear h2 hk2 hnn h0 h1 hf1
    go_wp2_with fail
    go_loopw [23] (fun i wr => ∃ k : Nat, k ≤ n ∧ i = .int .i64 k ∧ SoFar rulesW rulesFit 19208 w wr X l lg q xs k) (fun i _ => n - (intOf i).toNat)
    case atStart => exact ⟨0, Nat.zero_le _, rfl, SoFar.start H4.out.1 H4.out.2⟩
    case round =>
      clear H4
      obtain ⟨k, hk, rfl, hso⟩ := hrel
      have q3 : (0 : Int) ≤ (k : Int) := by omega
      by_cases hlt : k < n
      · obtain ⟨l', hw, hkp, hl, he⟩ := hso
        have Hkm := Lib.hid (show k * 19208 ≤ 199 * 19208 from Nat.mul_le_mul_right _ (by have := Hsm.out; omega))
        have Hkp := Lib.hid hkp
        have Hl := Lib.hid hl
        have He := Lib.hid he
        obtain ⟨x, hx⟩ : ∃ x, xs[k]? = some x := ⟨_, List.getElem?_eq_getElem (by rw [← Hn.out]; exact hlt)⟩
        have Hx := Lib.hid hx
        obtain ⟨b, off, u, rfl, hFb, hc, hu⟩ := (Hv.out.kp Hkp.out HF.out).get_slice hx
        obtain ⟨A3, n3, c3, rfl, Hn3, hc5, hc6⟩ := hu.form'
        have Hu := Lib.hid hu
        clear hu
        have H1 := Lib.hid hw
        have H2 := Lib.hid (HX.out.kp hkp)
        have q1 : (k : Int) < (n : Int) := by omega
        clear hw hkp hl he hx hFb hlt
        go_wp2_with fail
        skip
        refine (wir_rules _ _ F _ _ _ _ x H1.out H2.out Hu.out HF.out (by have := Hl.out; have := Hb.out; have := Hkm.out; omega)).mono ?_
        rintro e w2 ⟨rfl, h3⟩
        have H3 := Lib.hid h3
        clear h3
        go_wp2_with fail
        go_roundw
        case rel => exact ⟨k + 1, by omega, by go_num, SoFar.next Hx.out Hkp.out Hl.out He.out H3.out⟩
        case measure => simp [intOf]; omega
      · have Hso := Lib.hid hso
        clear hso
        go_wp2_with fail
        go_end0
        exact ⟨rfl, Hso.out.done (by rw [← Hn.out]; omega) (by rw [← Hn.out]; exact Hsm.out) rfl⟩


set_option maxHeartbeats 400000 in
theorem wir_tables (w : World) (X F : Nat → Prop) (l : List UInt8) (lg : Bool) (q : Nat) (v : Value) (xs : List (List Rl)) (h : WirAt w X l lg q) (hX : New w X) (hv : SliceAt rlR.slice w F xs v) (hF : ∀ b, F b → ¬ X b) (hb : l.length + 3841608 ≤ 140737488355328) :
    Calls Try.prog 67 #[.pointer (some ⟨q, 0, none⟩), v] w fun e w' => e = .returned (.tuple #[]) ∧ Wrote w w' X l lg q (tablesFit xs) (tablesW xs) 3841608 := by
  have h2 := wir_items_ruless w X F l lg q v xs h hX hv hF hb
  have H2 := Lib.hid h2
  clear h2 h hX hv hF hb
  go_enter Try.func67, Try.ntmps67
  go_wp2_with fail
  refine H2.out.mono ?_
  rintro e w1 ⟨rfl, h3⟩
  have H3 := Lib.hid h3
  clear h3
  go_wp2_with fail
  go_end0
  exact ⟨rfl, H3.out⟩


set_option maxHeartbeats 1000000 in
theorem wir_items_tabless (w : World) (X F : Nat → Prop) (l : List UInt8) (lg : Bool) (q : Nat) (v : Value) (xs : List (List (List Rl))) (h : WirAt w X l lg q) (hX : New w X) (hv : SliceAt rlR.slice.slice w F xs v) (hF : ∀ b, F b → ¬ X b) (hb : l.length + 768321608 ≤ 140737488355328) :
    Calls Try.prog 66 #[.pointer (some ⟨q, 0, none⟩), v, .func (.func 67) #[.pointer (some ⟨q, 0, none⟩)] #[]] w fun e w' => e = .returned (.tuple #[]) ∧ Wrote w w' X l lg q (fitL tablesFit xs) (itemsW tablesW xs) 768321608 := by
  obtain ⟨A, n, c, rfl, Hn, hc1, hc2⟩ := hv.form'
  have Hv := Lib.hid hv
  have Hw := Lib.hid h
  have HX := Lib.hid hX
  have HF := Lib.hid hF
  have Hb := Lib.hid hb
  obtain ⟨p, hq, hXq, hpw⟩ := h
  have h0 : w.cell? ⟨q, 0, none⟩ = some (.pointer (some ⟨p, 0, none⟩)) := cell_of_row w q 0 _ _ _ hq
  have h1 : w.cell? ⟨q, 1, none⟩ = some (.bool lg) := cell_of_row w q 1 _ _ _ hq
  have hf1 : w.frozen? ⟨q, 1, none⟩ = false := by simp [World.frozen?, hq]
  have Hq := Lib.hid hq
  have HXq := Lib.hid hXq
  have Hpw := Lib.hid hpw
  clear hv hX hF hb hq hXq hpw
  by_cases hbig : 200 < n
  · have hb1 : (200 : Int) < (n : Int) := by omega
    have Hbig := Lib.hid hbig
    clear hbig
    go_enter Try.func66, Try.ntmps66
    go_wp2_with fail
    (try simp only [Exit.inBlock, Exit.then])
    refine bodyPost_ret (results_none rfl _ _ _) rfl ?_
    exact ⟨rfl, Wrote.over Hw.out (by rw [← Hn.out]; exact Hbig.out)⟩
  · have hb1 : (n : Int) ≤ 200 := by omega
    have Hsm := Lib.hid (show n ≤ 200 by omega)
    clear hbig
    go_enter Try.func66, Try.ntmps66
    go_wp2_with fail
    refine (Writer_Num _ _ _ _ (n : Int) Hpw.out (by have := Hb.out; omega)).mono ?_
    rintro e w1 ⟨rfl, h2, hk2⟩
    have hnn : UInt64.ofInt (n : Int) = UInt64.ofNat xs.length := by rw [← Hn.out, ofInt_ofNat]
    rw [hnn] at h2
    have H4 := Lib.hid (WirAt.put Hq.out HXq.out HX.out h2 hk2)
    clear h2 hk2 hnn h0 h1 hf1
    go_wp2_with fail
    go_loopw [23] (fun i wr => ∃ k : Nat, k ≤ n ∧ i = .int .i64 k ∧ SoFar tablesW tablesFit 3841608 w wr X l lg q xs k) (fun i _ => n - (intOf i).toNat)
    case atStart => exact ⟨0, Nat.zero_le _, rfl, SoFar.start H4.out.1 H4.out.2⟩
    case round =>
      clear H4
      obtain ⟨k, hk, rfl, hso⟩ := hrel
      have q3 : (0 : Int) ≤ (k : Int) := by omega
      by_cases hlt : k < n
      · obtain ⟨l', hw, hkp, hl, he⟩ := hso
        have Hkm := Lib.hid (show k * 3841608 ≤ 199 * 3841608 from Nat.mul_le_mul_right _ (by have := Hsm.out; omega))
        have Hkp := Lib.hid hkp
        have Hl := Lib.hid hl
        have He := Lib.hid he
        obtain ⟨x, hx⟩ : ∃ x, xs[k]? = some x := ⟨_, List.getElem?_eq_getElem (by rw [← Hn.out]; exact hlt)⟩
        have Hx := Lib.hid hx
        obtain ⟨b, off, u, rfl, hFb, hc, hu⟩ := (Hv.out.kp Hkp.out HF.out).get_slice hx
        obtain ⟨A3, n3, c3, rfl, Hn3, hc5, hc6⟩ := hu.form'
        have Hu := Lib.hid hu
        clear hu
        have H1 := Lib.hid hw
        have H2 := Lib.hid (HX.out.kp hkp)
        have q1 : (k : Int) < (n : Int) := by omega
        clear hw hkp hl he hx hFb hlt
        go_wp2_with fail
        skip
        refine (wir_tables _ _ F _ _ _ _ x H1.out H2.out Hu.out HF.out (by have := Hl.out; have := Hb.out; have := Hkm.out; omega)).mono ?_
        rintro e w2 ⟨rfl, h3⟩
        have H3 := Lib.hid h3
        clear h3
        go_wp2_with fail
        go_roundw
        case rel => exact ⟨k + 1, by omega, by go_num, SoFar.next Hx.out Hkp.out Hl.out He.out H3.out⟩
        case measure => simp [intOf]; omega
      · have Hso := Lib.hid hso
        clear hso
        go_wp2_with fail
        go_end0
        exact ⟨rfl, Hso.out.done (by rw [← Hn.out]; omega) (by rw [← Hn.out]; exact Hsm.out) rfl⟩

end Go.Proofs.Ytpaldbejnbcokaa
