/- Contract of package customhouseref08's Same: two configurations compared; in parts. -/
import Derived.Test.YtpaldbejnbcokaaSam
namespace Go.Proofs.Ytpaldbejnbcokaa
open Go.RowKit
set_option linter.unusedSimpArgs false
set_option linter.unusedVariables false

theorem two_rows (w : World) (R S : Obj) : ((w.alloc R).alloc S).drew.heap[w.heap.size]? = some R ∧ ((w.alloc R).alloc S).drew.heap[w.heap.size + 1]? = some S ∧ Kp No w ((w.alloc R).alloc S).drew := by
  have h1 := heap_alloc_new w R
  have h2 := heap_alloc_new (w.alloc R) S
  rw [alloc_size] at h2
  exact ⟨((Kp.refl No _).alloc S).drew.heap h1 id, ((Kp.refl No _).drew).heap h2 id, (((Kp.refl No w).alloc R).alloc S).drew⟩

set_option maxRecDepth 100000 in
set_option maxHeartbeats 4000000 in
theorem same_r1 (w : World) (ba bb : Nat) (T1 T2 : Int) (A B : Option Addr) (C D : Option Addr) (n ca m cb n2 cc m2 cd : Nat) (a1 : w.cell? ⟨ba, 1, none⟩ = some (.int .i64 T1)) (a2 : w.cell? ⟨ba, 2, none⟩ = some (.slice A n ca)) (a3 : w.cell? ⟨ba, 3, none⟩ = some (.slice C n2 cc)) (b1 : w.cell? ⟨bb, 1, none⟩ = some (.int .i64 T2)) (b2 : w.cell? ⟨bb, 2, none⟩ = some (.slice B m cb)) (b3 : w.cell? ⟨bb, 3, none⟩ = some (.slice D m2 cd)) {K : Act → World → Prop} {Q' : Exit → Act → World → Prop} {u0 u1 u4 u5 u6 u7 u8 u9 u10 u11 u12 u13 u14 u15 u16 u17 u18 u19 u20 u21 u22 u23 u24 u25 u26 u27 u28 u29 u30 u31 u32 u33 u34 u35 u36 u37 u38 u39 u40 u41 u42 u43 u44 u45 u46 u47 u48 u49 u50 u51 u52 u53 u54 u55 u56 u57 u58 u59 u60 u61 u62 u63 u64 u65 u66 u67 u68 u69 u70 u71 u72 u73 u74 u75 u76 u77 u78 u79 u80 u81 u82 u83 u84 u85 u86 u87 u88 u89 u90 u91 u92 u93 u94 u95 u96 u97 u98 u99 u100 u101 u102 u103 u104 u105 u106 u107 u108 : Value}
    (HK : Hid (∀ (o o2 v10 v11 v12 v13 : Value) (wr : World), (∃ P Q, o = .pointer (some ⟨P, 0, none⟩) ∧ o2 = .pointer (some ⟨Q, 0, none⟩) ∧ wr.heap[P]? = some (.cells #[.int .i64 T1, .slice A n ca, .slice C n2 cc] 28 (0, 0)) ∧ wr.heap[Q]? = some (.cells #[.int .i64 T2, .slice B m cb, .slice D m2 cd] 28 (0, 0)) ∧ Kp No w wr) → K { tmps := #[u0, u1, .pointer (some ⟨ba, 0, none⟩), .pointer (some ⟨bb, 0, none⟩), u4, o, o2, u7, u8, u9, v10, v11, v12, v13, u14, u15, u16, u17, u18, u19, u20, u21, u22, u23, u24, u25, u26, u27, u28, u29, u30, u31, u32, u33, u34, u35, u36, u37, u38, u39, u40, u41, u42, u43, u44, u45, u46, u47, u48, u49, u50, u51, u52, u53, u54, u55, u56, u57, u58, u59, u60, u61, u62, u63, u64, u65, u66, u67, u68, u69, u70, u71, u72, u73, u74, u75, u76, u77, u78, u79, u80, u81, u82, u83, u84, u85, u86, u87, u88, u89, u90, u91, u92, u93, u94, u95, u96, u97, u98, u99, u100, u101, u102, u103, u104, u105, u106, u107, u108], defers := [] } wr)) :
    ∀ cc, secRegion 1 (Try.f16.body.getD .skip) = cc → cc.wp Try.prog (Exit.then K Q') { tmps := #[u0, u1, .pointer (some ⟨ba, 0, none⟩), .pointer (some ⟨bb, 0, none⟩), u4, u5, u6, u7, u8, u9, u10, u11, u12, u13, u14, u15, u16, u17, u18, u19, u20, u21, u22, u23, u24, u25, u26, u27, u28, u29, u30, u31, u32, u33, u34, u35, u36, u37, u38, u39, u40, u41, u42, u43, u44, u45, u46, u47, u48, u49, u50, u51, u52, u53, u54, u55, u56, u57, u58, u59, u60, u61, u62, u63, u64, u65, u66, u67, u68, u69, u70, u71, u72, u73, u74, u75, u76, u77, u78, u79, u80, u81, u82, u83, u84, u85, u86, u87, u88, u89, u90, u91, u92, u93, u94, u95, u96, u97, u98, u99, u100, u101, u102, u103, u104, u105, u106, u107, u108], defers := [] } w := by
  rintro cc rfl
  show Code.wp _ (Code.region 1 _ _) _ _ _
  refine wp_region_noPanic ?_
  refine wp_region_held_drew (S := fun w' => Hid (Kp No w w')) (by kernel_rfl) (Lib.hid (Kp.refl _ _).drew) (fun hHeld => ?_)
  refine wpAnyH_take (i := 0) (oi := ?_) (v := ?_) ?_ (by kernel_rfl) (by kernel_rfl) (by kernel_rfl) (fun _ _ _ h => h) (Or.inl ⟨?_, fun w hSw => ?_⟩) hHeld ?_
  rotate_left 2
  · (simp only [List.getElem?_toArray, List.getElem?_cons_zero]; rfl)
  · rfl
  · (clear hSw; go_simp; try (with_reducible rfl))
  simp only [Act.put, List.setIfInBounds_toArray, List.set_cons_zero, List.set_cons_succ]
  refine wpAnyH_take (i := 1) (oi := ?_) (v := ?_) ?_ (by kernel_rfl) (by kernel_rfl) (by kernel_rfl) (fun _ _ _ h => h) (Or.inl ⟨?_, fun w hSw => ?_⟩) hHeld ?_
  rotate_left 2
  · (simp only [List.getElem?_toArray, List.getElem?_cons_succ, List.getElem?_cons_zero]; rfl)
  · rfl
  · (have l1 := (Hid.out hSw).cell a1 id; have l2 := (Hid.out hSw).cell a2 id; have l3 := (Hid.out hSw).cell a3 id;  have m1 := (Hid.out hSw).cell b1 id; have m2 := (Hid.out hSw).cell b2 id; have m3 := (Hid.out hSw).cell b3 id; clear hSw; go_simp; try (with_reducible rfl))
  simp only [Act.put, List.setIfInBounds_toArray, List.set_cons_zero, List.set_cons_succ]
  refine wpAnyH_take (i := 2) (oi := ?_) (v := ?_) ?_ (by kernel_rfl) (by kernel_rfl) (by kernel_rfl) (fun _ _ _ h => h) (Or.inl ⟨?_, fun w hSw => ?_⟩) hHeld ?_
  rotate_left 2
  · (simp only [List.getElem?_toArray, List.getElem?_cons_succ, List.getElem?_cons_zero]; rfl)
  · rfl
  · (clear hSw; go_simp; try (with_reducible rfl))
  simp only [Act.put, List.setIfInBounds_toArray, List.set_cons_zero, List.set_cons_succ]
  refine wpAnyH_take (i := 3) (oi := ?_) (v := ?_) ?_ (by kernel_rfl) (by kernel_rfl) (by kernel_rfl) (fun _ _ _ h => h) (Or.inl ⟨?_, fun w hSw => ?_⟩) hHeld ?_
  rotate_left 2
  · (simp only [List.getElem?_toArray, List.getElem?_cons_succ, List.getElem?_cons_zero]; rfl)
  · rfl
  · (have l1 := (Hid.out hSw).cell a1 id; have l2 := (Hid.out hSw).cell a2 id; have l3 := (Hid.out hSw).cell a3 id;  have m1 := (Hid.out hSw).cell b1 id; have m2 := (Hid.out hSw).cell b2 id; have m3 := (Hid.out hSw).cell b3 id; clear hSw; go_simp; try (with_reducible rfl))
  simp only [Act.put, List.setIfInBounds_toArray, List.set_cons_zero, List.set_cons_succ]
  refine wpAnyH_ready (rs := [4, 5]) (by kernel_rfl) (by simp) ?_
  refine AllReadyH.cons (o := ?_) ?_ (fun K hK => ?_) ?_
  rotate_left
  · (simp only [List.getElem?_toArray, List.getElem?_cons_succ, List.getElem?_cons_zero]; rfl)
  · skip
    go_simp
    refine hK.out _ _ (Lib.hid (by repeat (first | with_reducible exact Kp.refl _ _ | with_reducible refine Kp.alloc ?_ _ | with_reducible refine Kp.drew ?_ | with_reducible refine Kp.drewN ?_ _ | with_reducible refine Kp.setRow ?_ (from_le (by first | exact Nat.le_refl _ | omega)) _ | with_reducible refine Kp.setCell ?_ (Or.inl (from_le (by first | (dsimp only; omega) | omega | (simp; omega) | (simp; done)))) _))) (fun hHeld => ?_)
    clear hK K
    (try simp only [Act.put, List.setIfInBounds_toArray, List.set_cons_zero, List.set_cons_succ])
    refine wpAnyH_ready (rs := [5]) (by kernel_rfl) (by simp) ?_
    refine AllReadyH.cons (o := ?_) ?_ (fun K hK => ?_) AllReadyH.nil
    rotate_left
    · (simp only [List.getElem?_toArray, List.getElem?_cons_succ, List.getElem?_cons_zero]; rfl)
    go_simp
    refine hK.out _ _ (Lib.hid (by repeat (first | with_reducible exact Kp.refl _ _ | with_reducible refine Kp.alloc ?_ _ | with_reducible refine Kp.drew ?_ | with_reducible refine Kp.drewN ?_ _ | with_reducible refine Kp.setRow ?_ (from_le (by first | exact Nat.le_refl _ | omega)) _ | with_reducible refine Kp.setCell ?_ (Or.inl (from_le (by first | (dsimp only; omega) | omega | (simp; omega) | (simp; done)))) _))) (fun hHeld => ?_)
    clear hK K
    (try simp only [Act.put, List.setIfInBounds_toArray, List.set_cons_zero, List.set_cons_succ])
    refine wpAnyH_ready (rs := [6]) (by kernel_rfl) (by simp) ?_
    refine AllReadyH.cons (o := ?_) ?_ (fun K hK => ?_) AllReadyH.nil
    rotate_left
    · (simp only [List.getElem?_toArray, List.getElem?_cons_succ, List.getElem?_cons_zero]; rfl)
    go_simp
    refine hK.out _ _ (Lib.hid (by repeat (first | with_reducible exact Kp.refl _ _ | with_reducible refine Kp.alloc ?_ _ | with_reducible refine Kp.drew ?_ | with_reducible refine Kp.drewN ?_ _ | with_reducible refine Kp.setRow ?_ (from_le (by first | exact Nat.le_refl _ | omega)) _ | with_reducible refine Kp.setCell ?_ (Or.inl (from_le (by first | (dsimp only; omega) | omega | (simp; omega) | (simp; done)))) _))) (fun hHeld => ?_)
    clear hK K
    (try simp only [Act.put, List.setIfInBounds_toArray, List.set_cons_zero, List.set_cons_succ])
    refine wpAnyH_ready (rs := [7]) (by kernel_rfl) (by simp) ?_
    refine AllReadyH.cons (o := ?_) ?_ (fun K hK => ?_) AllReadyH.nil
    rotate_left
    · (simp only [List.getElem?_toArray, List.getElem?_cons_succ, List.getElem?_cons_zero]; rfl)
    go_simp
    refine hK.out _ _ (Lib.hid (by repeat (first | with_reducible exact Kp.refl _ _ | with_reducible refine Kp.alloc ?_ _ | with_reducible refine Kp.drew ?_ | with_reducible refine Kp.drewN ?_ _ | with_reducible refine Kp.setRow ?_ (from_le (by first | exact Nat.le_refl _ | omega)) _ | with_reducible refine Kp.setCell ?_ (Or.inl (from_le (by first | (dsimp only; omega) | omega | (simp; omega) | (simp; done)))) _))) (fun hHeld => ?_)
    clear hK K
    (try simp only [Act.put, List.setIfInBounds_toArray, List.set_cons_zero, List.set_cons_succ])
    refine wpAnyH_done (by kernel_rfl) (NoPanic.normal ?_) _
    have h := two_rows w
    refine HK.out _ _ _ _ _ _ _ ?_
    first
      | exact ⟨_, _, rfl, rfl, (h _ _).1, (h _ _).2.1, (h _ _).2.2⟩
      | exact ⟨_, _, rfl, rfl, (h _ _).2.1, (h _ _).1, (h _ _).2.2⟩
  refine AllReadyH.cons (o := ?_) ?_ (fun K hK => ?_) AllReadyH.nil
  rotate_left
  · (simp only [List.getElem?_toArray, List.getElem?_cons_succ, List.getElem?_cons_zero]; rfl)
  · skip
    go_simp
    refine hK.out _ _ (Lib.hid (by repeat (first | with_reducible exact Kp.refl _ _ | with_reducible refine Kp.alloc ?_ _ | with_reducible refine Kp.drew ?_ | with_reducible refine Kp.drewN ?_ _ | with_reducible refine Kp.setRow ?_ (from_le (by first | exact Nat.le_refl _ | omega)) _ | with_reducible refine Kp.setCell ?_ (Or.inl (from_le (by first | (dsimp only; omega) | omega | (simp; omega) | (simp; done)))) _))) (fun hHeld => ?_)
    clear hK K
    (try simp only [Act.put, List.setIfInBounds_toArray, List.set_cons_zero, List.set_cons_succ])
    refine wpAnyH_ready (rs := [4]) (by kernel_rfl) (by simp) ?_
    refine AllReadyH.cons (o := ?_) ?_ (fun K hK => ?_) AllReadyH.nil
    rotate_left
    · (simp only [List.getElem?_toArray, List.getElem?_cons_succ, List.getElem?_cons_zero]; rfl)
    go_simp
    refine hK.out _ _ (Lib.hid (by repeat (first | with_reducible exact Kp.refl _ _ | with_reducible refine Kp.alloc ?_ _ | with_reducible refine Kp.drew ?_ | with_reducible refine Kp.drewN ?_ _ | with_reducible refine Kp.setRow ?_ (from_le (by first | exact Nat.le_refl _ | omega)) _ | with_reducible refine Kp.setCell ?_ (Or.inl (from_le (by first | (dsimp only; omega) | omega | (simp; omega) | (simp; done)))) _))) (fun hHeld => ?_)
    clear hK K
    (try simp only [Act.put, List.setIfInBounds_toArray, List.set_cons_zero, List.set_cons_succ])
    refine wpAnyH_ready (rs := [6]) (by kernel_rfl) (by simp) ?_
    refine AllReadyH.cons (o := ?_) ?_ (fun K hK => ?_) AllReadyH.nil
    rotate_left
    · (simp only [List.getElem?_toArray, List.getElem?_cons_succ, List.getElem?_cons_zero]; rfl)
    go_simp
    refine hK.out _ _ (Lib.hid (by repeat (first | with_reducible exact Kp.refl _ _ | with_reducible refine Kp.alloc ?_ _ | with_reducible refine Kp.drew ?_ | with_reducible refine Kp.drewN ?_ _ | with_reducible refine Kp.setRow ?_ (from_le (by first | exact Nat.le_refl _ | omega)) _ | with_reducible refine Kp.setCell ?_ (Or.inl (from_le (by first | (dsimp only; omega) | omega | (simp; omega) | (simp; done)))) _))) (fun hHeld => ?_)
    clear hK K
    (try simp only [Act.put, List.setIfInBounds_toArray, List.set_cons_zero, List.set_cons_succ])
    refine wpAnyH_ready (rs := [7]) (by kernel_rfl) (by simp) ?_
    refine AllReadyH.cons (o := ?_) ?_ (fun K hK => ?_) AllReadyH.nil
    rotate_left
    · (simp only [List.getElem?_toArray, List.getElem?_cons_succ, List.getElem?_cons_zero]; rfl)
    go_simp
    refine hK.out _ _ (Lib.hid (by repeat (first | with_reducible exact Kp.refl _ _ | with_reducible refine Kp.alloc ?_ _ | with_reducible refine Kp.drew ?_ | with_reducible refine Kp.drewN ?_ _ | with_reducible refine Kp.setRow ?_ (from_le (by first | exact Nat.le_refl _ | omega)) _ | with_reducible refine Kp.setCell ?_ (Or.inl (from_le (by first | (dsimp only; omega) | omega | (simp; omega) | (simp; done)))) _))) (fun hHeld => ?_)
    clear hK K
    (try simp only [Act.put, List.setIfInBounds_toArray, List.set_cons_zero, List.set_cons_succ])
    refine wpAnyH_done (by kernel_rfl) (NoPanic.normal ?_) _
    have h := two_rows w
    refine HK.out _ _ _ _ _ _ _ ?_
    first
      | exact ⟨_, _, rfl, rfl, (h _ _).1, (h _ _).2.1, (h _ _).2.2⟩
      | exact ⟨_, _, rfl, rfl, (h _ _).2.1, (h _ _).1, (h _ _).2.2⟩

set_option maxRecDepth 100000 in
set_option maxHeartbeats 4000000 in
theorem same_r2 (w : World) (F G : Nat → Prop) (xs ys : List (List Pt)) (va vb : Value) (Ha : Hid (SliceAt ptR.slice w F xs va)) (Hb : Hid (SliceAt ptR.slice w G ys vb)) (P Q ba bb : Nat) (T1 T2 : Int) (A B C D X Y : Option Addr) (n ca m cb n2 cc m2 cd n3 ce m3 cf : Nat) (p0 : w.cell? ⟨P, 0, none⟩ = some (.int .i64 T1)) (p1 : w.cell? ⟨P, 1, none⟩ = some (.slice A n ca)) (p2 : w.cell? ⟨P, 2, none⟩ = some (.slice C n2 cc)) (q0 : w.cell? ⟨Q, 0, none⟩ = some (.int .i64 T2)) (q1 : w.cell? ⟨Q, 1, none⟩ = some (.slice B m cb)) (q2 : w.cell? ⟨Q, 2, none⟩ = some (.slice D m2 cd)) (a0 : w.cell? ⟨ba, 0, none⟩ = some va) (b0 : w.cell? ⟨bb, 0, none⟩ = some vb) (a4 : w.cell? ⟨ba, 4, none⟩ = some (.slice X n3 ce)) (b4 : w.cell? ⟨bb, 4, none⟩ = some (.slice Y m3 cf)) {K : Act → World → Prop} {Q' : Exit → Act → World → Prop} {u0 u1 u4 u7 u8 u9 u10 u11 u12 u13 u14 u15 u16 u17 u18 u19 u20 u21 u22 u23 u24 u25 u26 u27 u28 u29 u30 u31 u32 u33 u34 u35 u36 u37 u38 u39 u40 u41 u42 u43 u44 u45 u46 u47 u48 u49 u50 u51 u52 u53 u54 u55 u56 u57 u58 u59 u60 u61 u62 u63 u64 u65 u66 u67 u68 u69 u70 u71 u72 u73 u74 u75 u76 u77 u78 u79 u80 u81 u82 u83 u84 u85 u86 u87 u88 u89 u90 u91 u92 u93 u94 u95 u96 u97 u98 u99 u100 u101 u102 u103 u104 u105 u106 u107 u108 : Value}
    (HK : Hid (∀ (v14 v15 v16 v17 v18 v19 v20 v21 v22 v23 v24 v25 v26 v27 v28 v29 v30 v31 v32 v33 v34 v35 v36 v37 v38 v39 v40 v41 v42 v43 v44 v45 v46 v47 v48 v49 v50 v51 v52 o : Value) (wr : World), (∃ b : Bool, o = .bool b ∧ (b = false ↔ xs = ys ∧ T1 = T2 ∧ n = m ∧ n2 = m2 ∧ n3 = m3) ∧ Kp No w wr) → K { tmps := #[u0, u1, .pointer (some ⟨ba, 0, none⟩), .pointer (some ⟨bb, 0, none⟩), u4, .pointer (some ⟨P, 0, none⟩), .pointer (some ⟨Q, 0, none⟩), u7, u8, u9, u10, u11, u12, u13, v14, v15, v16, v17, v18, v19, v20, v21, v22, v23, v24, v25, v26, v27, v28, v29, v30, v31, v32, v33, v34, v35, v36, v37, v38, v39, v40, v41, v42, v43, v44, v45, v46, v47, v48, v49, v50, v51, v52, o, u54, u55, u56, u57, u58, u59, u60, u61, u62, u63, u64, u65, u66, u67, u68, u69, u70, u71, u72, u73, u74, u75, u76, u77, u78, u79, u80, u81, u82, u83, u84, u85, u86, u87, u88, u89, u90, u91, u92, u93, u94, u95, u96, u97, u98, u99, u100, u101, u102, u103, u104, u105, u106, u107, u108], defers := [] } wr)) :
    ∀ cc, secRegion 2 (Try.f16.body.getD .skip) = cc → cc.wp Try.prog (Exit.then K Q') { tmps := #[u0, u1, .pointer (some ⟨ba, 0, none⟩), .pointer (some ⟨bb, 0, none⟩), u4, .pointer (some ⟨P, 0, none⟩), .pointer (some ⟨Q, 0, none⟩), u7, u8, u9, u10, u11, u12, u13, u14, u15, u16, u17, u18, u19, u20, u21, u22, u23, u24, u25, u26, u27, u28, u29, u30, u31, u32, u33, u34, u35, u36, u37, u38, u39, u40, u41, u42, u43, u44, u45, u46, u47, u48, u49, u50, u51, u52, u53, u54, u55, u56, u57, u58, u59, u60, u61, u62, u63, u64, u65, u66, u67, u68, u69, u70, u71, u72, u73, u74, u75, u76, u77, u78, u79, u80, u81, u82, u83, u84, u85, u86, u87, u88, u89, u90, u91, u92, u93, u94, u95, u96, u97, u98, u99, u100, u101, u102, u103, u104, u105, u106, u107, u108], defers := [] } w := by
  rintro cc rfl
  show Code.wp _ (Code.region 2 _ _) _ _ _
  obtain ⟨A0, h0, c0, rfl, Hn0, _, _⟩ := Ha.out.form'
  obtain ⟨B0, g0, e0, rfl, Hm0, _, _⟩ := Hb.out.form'
  go_wp2_with fail
  refine (ref_Ports _ F G xs ys _ _ Ha.out Hb.out).mono ?_
  rintro e w2 ⟨b, rfl, hb, hk⟩
  have p0 := hk.cell p0 id
  have p1 := hk.cell p1 id
  have p2 := hk.cell p2 id
  have q0 := hk.cell q0 id
  have q1 := hk.cell q1 id
  have q2 := hk.cell q2 id
  have a4 := hk.cell a4 id
  have b4 := hk.cell b4 id
  have Hb2 := Lib.hid hb
  have Hk := Lib.hid hk
  clear hb hk a0 b0
  cases b with
  | false =>
    go_wp2_with fail
    refine HK.out _ _ _ _ _ _ _ _ _ _ _ _ _ _ _ _ _ _ _ _ _ _ _ _ _ _ _ _ _ _ _ _ _ _ _ _ _ _ _ _ _ ?_
    exact ⟨true, rfl, ⟨(fun h => by cases h), fun h => by have := Hb2.out.2 h.1; cases this⟩, Hk.out⟩
  | true =>
    have Hxy := Lib.hid (Hb2.out.1 rfl)
    by_cases d1 : T1 = T2
    rotate_left
    · go_wp2_with fail
      refine HK.out _ _ _ _ _ _ _ _ _ _ _ _ _ _ _ _ _ _ _ _ _ _ _ _ _ _ _ _ _ _ _ _ _ _ _ _ _ _ _ _ _ ?_
      exact ⟨true, rfl, ⟨(fun h => by cases h), fun h => absurd h.2.1 d1⟩, Hk.out⟩
    by_cases d2 : n = m
    rotate_left
    · have e2 : ¬ (n : Int) = (m : Int) := by omega
      go_wp2_with fail
      refine HK.out _ _ _ _ _ _ _ _ _ _ _ _ _ _ _ _ _ _ _ _ _ _ _ _ _ _ _ _ _ _ _ _ _ _ _ _ _ _ _ _ _ ?_
      exact ⟨true, rfl, ⟨(fun h => by cases h), fun h => absurd h.2.2.1 d2⟩, Hk.out⟩
    by_cases d3 : n2 = m2
    rotate_left
    · have e3 : ¬ (n2 : Int) = (m2 : Int) := by omega
      go_wp2_with fail
      refine HK.out _ _ _ _ _ _ _ _ _ _ _ _ _ _ _ _ _ _ _ _ _ _ _ _ _ _ _ _ _ _ _ _ _ _ _ _ _ _ _ _ _ ?_
      exact ⟨true, rfl, ⟨(fun h => by cases h), fun h => absurd h.2.2.2.1 d3⟩, Hk.out⟩
    by_cases d4 : n3 = m3
    rotate_left
    · have e4 : ((n3 : Int) != (m3 : Int)) = true := by simp; omega
      go_wp2_with fail
      refine HK.out _ _ _ _ _ _ _ _ _ _ _ _ _ _ _ _ _ _ _ _ _ _ _ _ _ _ _ _ _ _ _ _ _ _ _ _ _ _ _ _ _ ?_
      exact ⟨true, by first | rfl | rw [e4], ⟨(fun h => by cases h), fun h => absurd h.2.2.2.2 d4⟩, Hk.out⟩
    have D1 := Lib.hid d1
    have D2 := Lib.hid d2
    have D3 := Lib.hid d3
    have D4 := Lib.hid d4
    subst d1 d2 d3 d4
    go_wp2_with fail
    refine HK.out _ _ _ _ _ _ _ _ _ _ _ _ _ _ _ _ _ _ _ _ _ _ _ _ _ _ _ _ _ _ _ _ _ _ _ _ _ _ _ _ _ ?_
    exact ⟨false, by first | rfl | simp, ⟨fun _ => by simp [Hxy.out], fun _ => rfl⟩, Hk.out⟩

set_option maxRecDepth 100000 in
theorem same_peers_r (w : World) (P Q n ca cb k b3 o3 b4 o4 : Nat) (p0 p1 r0 r1 : Int) (b : Bool) (hkn : (k : Int) < (n : Int)) (ea : w.cell? ⟨P, 1, none⟩ = some (.slice (some ⟨b3, o3, none⟩) n ca)) (eb : w.cell? ⟨Q, 1, none⟩ = some (.slice (some ⟨b4, o4, none⟩) n cb)) (e0 : w.cell? ⟨b3, o3 + k * 2, none⟩ = some (.int .i64 p0)) (e1 : w.cell? ⟨b3, o3 + k * 2 + 1, none⟩ = some (.int .i64 p1)) (f0 : w.cell? ⟨b4, o4 + k * 2, none⟩ = some (.int .i64 r0)) (f1 : w.cell? ⟨b4, o4 + k * 2 + 1, none⟩ = some (.int .i64 r1)) (hneq : ∀ w : World, (binOp .neq 89 (.agg #[.int .i64 p0, .int .i64 p1]) (.agg #[.int .i64 r0, .int .i64 r1])).run Try.prog w = .ok (.bool b) w) {K : Act → World → Prop} {Q' : Exit → Act → World → Prop} {u0 u1 u2 u3 u4 u8 u9 u10 u11 u12 u13 u14 u15 u16 u17 u18 u19 u20 u21 u22 u23 u24 u25 u26 u27 u28 u29 u30 u31 u32 u33 u34 u35 u36 u37 u38 u39 u40 u41 u42 u43 u44 u45 u46 u47 u48 u49 u50 u51 u52 u53 u54 u55 u56 u57 u58 u59 u60 u61 u62 u63 u64 u65 u66 u67 u68 u69 u70 u71 u72 u73 u74 u75 u76 u77 u78 u79 u80 u81 u82 u83 u84 u85 u86 u87 u88 u89 u90 u91 u92 u93 u94 u95 u96 u97 u98 u99 u100 u101 u102 u103 u104 u105 u106 u107 u108 : Value}
    (HK : Hid (∀ (v61 v62 v63 v64 v65 v66 v67 v68 v69 v70 o : Value) (wr : World), (o = .bool b ∧ ∃ n, wr = w.drewN n) → K { tmps := #[u0, u1, u2, u3, u4, .pointer (some ⟨P, 0, none⟩), .pointer (some ⟨Q, 0, none⟩), .int .i64 k, u8, u9, u10, u11, u12, u13, u14, u15, u16, u17, u18, u19, u20, u21, u22, u23, u24, u25, u26, u27, u28, u29, u30, u31, u32, u33, u34, u35, u36, u37, u38, u39, u40, u41, u42, u43, u44, u45, u46, u47, u48, u49, u50, u51, u52, u53, u54, u55, u56, u57, u58, u59, u60, v61, v62, v63, v64, v65, v66, v67, v68, v69, v70, o, u72, u73, u74, u75, u76, u77, u78, u79, u80, u81, u82, u83, u84, u85, u86, u87, u88, u89, u90, u91, u92, u93, u94, u95, u96, u97, u98, u99, u100, u101, u102, u103, u104, u105, u106, u107, u108], defers := [] } wr)) :
    ∀ cc, secRegion 7 (Try.f16.body.getD .skip) = cc → cc.wp Try.prog (Exit.then K Q') { tmps := #[u0, u1, u2, u3, u4, .pointer (some ⟨P, 0, none⟩), .pointer (some ⟨Q, 0, none⟩), .int .i64 k, u8, u9, u10, u11, u12, u13, u14, u15, u16, u17, u18, u19, u20, u21, u22, u23, u24, u25, u26, u27, u28, u29, u30, u31, u32, u33, u34, u35, u36, u37, u38, u39, u40, u41, u42, u43, u44, u45, u46, u47, u48, u49, u50, u51, u52, u53, u54, u55, u56, u57, u58, u59, u60, u61, u62, u63, u64, u65, u66, u67, u68, u69, u70, u71, u72, u73, u74, u75, u76, u77, u78, u79, u80, u81, u82, u83, u84, u85, u86, u87, u88, u89, u90, u91, u92, u93, u94, u95, u96, u97, u98, u99, u100, u101, u102, u103, u104, u105, u106, u107, u108], defers := [] } w := by
  rintro cc rfl
  show Code.wp _ (Code.region 7 _ _) _ _ _
  go_quiet (fail)
  refine HK.out _ _ _ _ _ _ _ _ _ _ _ _ ?_
  exact ⟨rfl, _, rfl⟩

set_option maxRecDepth 100000 in
set_option maxHeartbeats 4000000 in
theorem same_peers (wx w1 : World) (F G : Nat → Prop) (xs ys : List Pr) (A B : Option Addr) (n ca cb P Q : Nat) (Ha : Hid (SliceAt prR wx F xs (.slice A n ca))) (Hb : Hid (SliceAt prR wx G ys (.slice B n cb))) (Hn : Hid (n = xs.length)) (Hm : Hid (n = ys.length)) (hca : n ≤ ca) (hca2 : ca ≤ 9223372036854775807) (hcb : n ≤ cb) (hcb2 : cb ≤ 9223372036854775807) (cp : wx.cell? ⟨P, 1, none⟩ = some (.slice A n ca)) (cq : wx.cell? ⟨Q, 1, none⟩ = some (.slice B n cb)) (Hk : Hid (Kp No wx w1)) {K : Act → World → Prop} {Q' : Exit → Act → World → Prop} {u0 u1 u2 u3 u4 u8 u9 u10 u11 u12 u13 u14 u15 u16 u17 u18 u19 u20 u21 u22 u23 u24 u25 u26 u27 u28 u29 u30 u31 u32 u33 u34 u35 u36 u37 u38 u39 u40 u41 u42 u43 u44 u45 u46 u47 u48 u49 u50 u51 u52 u53 u54 u55 u56 u57 u58 u59 u60 u61 u62 u63 u64 u65 u66 u67 u68 u69 u70 u71 u72 u73 u74 u75 u76 u77 u78 u79 u80 u81 u82 u83 u84 u85 u86 u87 u88 u89 u90 u91 u92 u93 u94 u95 u96 u97 u98 u99 u100 u101 u102 u103 u104 u105 u106 u107 u108 : Value}
    (HK : Hid (∀ (o v7 v54 v55 v56 v57 v58 v59 v60 v61 v62 v63 v64 v65 v66 v67 v68 v69 v70 v71 : Value) (wr : World), (xs = ys ∧ Kp No wx wr) → K { tmps := #[u0, u1, u2, u3, o, .pointer (some ⟨P, 0, none⟩), .pointer (some ⟨Q, 0, none⟩), v7, u8, u9, u10, u11, u12, u13, u14, u15, u16, u17, u18, u19, u20, u21, u22, u23, u24, u25, u26, u27, u28, u29, u30, u31, u32, u33, u34, u35, u36, u37, u38, u39, u40, u41, u42, u43, u44, u45, u46, u47, u48, u49, u50, u51, u52, u53, v54, v55, v56, v57, v58, v59, v60, v61, v62, v63, v64, v65, v66, v67, v68, v69, v70, v71, u72, u73, u74, u75, u76, u77, u78, u79, u80, u81, u82, u83, u84, u85, u86, u87, u88, u89, u90, u91, u92, u93, u94, u95, u96, u97, u98, u99, u100, u101, u102, u103, u104, u105, u106, u107, u108], defers := [] } wr))
    (HR : Hid (∀ (o v7 v54 v55 v56 v57 v58 v59 v60 v61 v62 v63 v64 v65 v66 v67 v68 v69 v70 v71 : Value) (wr : World), (o = .bool false ∧ ¬ xs = ys ∧ Kp No wx wr) → Q' Exit.ret { tmps := #[u0, u1, u2, u3, o, .pointer (some ⟨P, 0, none⟩), .pointer (some ⟨Q, 0, none⟩), v7, u8, u9, u10, u11, u12, u13, u14, u15, u16, u17, u18, u19, u20, u21, u22, u23, u24, u25, u26, u27, u28, u29, u30, u31, u32, u33, u34, u35, u36, u37, u38, u39, u40, u41, u42, u43, u44, u45, u46, u47, u48, u49, u50, u51, u52, u53, v54, v55, v56, v57, v58, v59, v60, v61, v62, v63, v64, v65, v66, v67, v68, v69, v70, v71, u72, u73, u74, u75, u76, u77, u78, u79, u80, u81, u82, u83, u84, u85, u86, u87, u88, u89, u90, u91, u92, u93, u94, u95, u96, u97, u98, u99, u100, u101, u102, u103, u104, u105, u106, u107, u108], defers := [] } wr)) :
    ∀ cc, secBlock 0 (Try.f16.body.getD .skip) = cc → cc.wp Try.prog (Exit.then K Q') { tmps := #[u0, u1, u2, u3, u4, .pointer (some ⟨P, 0, none⟩), .pointer (some ⟨Q, 0, none⟩), .int .i64 0, u8, u9, u10, u11, u12, u13, u14, u15, u16, u17, u18, u19, u20, u21, u22, u23, u24, u25, u26, u27, u28, u29, u30, u31, u32, u33, u34, u35, u36, u37, u38, u39, u40, u41, u42, u43, u44, u45, u46, u47, u48, u49, u50, u51, u52, u53, u54, u55, u56, u57, u58, u59, u60, u61, u62, u63, u64, u65, u66, u67, u68, u69, u70, u71, u72, u73, u74, u75, u76, u77, u78, u79, u80, u81, u82, u83, u84, u85, u86, u87, u88, u89, u90, u91, u92, u93, u94, u95, u96, u97, u98, u99, u100, u101, u102, u103, u104, u105, u106, u107, u108], defers := [] } w1 := by
  rintro cc rfl
  show Code.wp _ (Code.block 0 _) _ _ _
  go_wp2_with fail
  go_loopw [7] (fun i wr => ∃ k : Nat, k ≤ n ∧ i = .int .i64 k ∧ (∀ i < k, xs[i]? = ys[i]?) ∧ Kp No wx wr) (fun i _ => n - (intOf i).toNat)
  case atStart => exact ⟨0, Nat.zero_le _, rfl, fun i h => absurd h (Nat.not_lt_zero _), Hk.out⟩
  case round =>
    obtain ⟨k, hk, rfl, hsm, hkr⟩ := hrel
    have q3 : (0 : Int) ≤ (k : Int) := by omega
    have Hsm := Lib.hid hsm
    have HkW := Lib.hid hkr
    have cp := hkr.cell cp id
    have cq := hkr.cell cq id
    by_cases hlt : k < n
    · have q4 : (k : Int) < (n : Int) := by omega
      obtain ⟨x, hx⟩ : ∃ x, xs[k]? = some x := ⟨_, List.getElem?_eq_getElem (by rw [← Hn.out]; exact hlt)⟩
      obtain ⟨y, hy⟩ : ∃ y, ys[k]? = some y := ⟨_, List.getElem?_eq_getElem (by rw [← Hm.out]; exact hlt)⟩
      obtain ⟨b3, o3, rfl, _, e0, e1⟩ := (Ha.out.kp hkr (fun _ _ => id)).get_Pr hx
      obtain ⟨b4, o4, rfl, _, f0, f1⟩ := (Hb.out.kp hkr (fun _ _ => id)).get_Pr hy
      have Hx := Lib.hid hx
      have Hy := Lib.hid hy
      have Hlt := Lib.hid hlt
      have hneq := fun w : World => neq_Pr w x y
      generalize i64of x.a = p0 at e0 hneq
      generalize i64of y.a = r0 at f0 hneq
      generalize i64of x.b = p1 at e1 hneq
      generalize i64of y.b = r1 at f1 hneq
      clear hx hy hlt hsm hkr
      by_cases hxy : x.words = y.words
      · have Heq := Lib.hid (words_Pr.1 hxy)
        simp only [decide_eq_true hxy, Bool.not_true] at hneq
        clear hxy
        go_upto_region 7 with (fail)
        refine same_peers_r _ P Q n ca cb k b3 o3 b4 o4 p0 p1 r0 r1 _ q4 cp cq e0 e1 f0 f1 hneq (Lib.hid ?_) _ rfl
        intro v61 v62 v63 v64 v65 v66 v67 v68 v69 v70 o wr hrel
        obtain ⟨rfl, nq, rfl⟩ := hrel
        go_wp2_with fail
        go_roundw
        case rel => exact ⟨k + 1, by have := Hlt.out; omega, by go_num, same_step Hsm.out Hx.out Hy.out Heq.out, HkW.out.drewN _⟩
        case measure => simp [intOf]; have := Hlt.out; omega
      · have Hne := Lib.hid (diff_at Hx.out Hy.out (fun h => hxy (words_Pr.2 h)))
        simp only [decide_eq_false hxy, Bool.not_false] at hneq
        clear hxy
        go_upto_region 7 with (fail)
        refine same_peers_r _ P Q n ca cb k b3 o3 b4 o4 p0 p1 r0 r1 _ q4 cp cq e0 e1 f0 f1 hneq (Lib.hid ?_) _ rfl
        intro v61 v62 v63 v64 v65 v66 v67 v68 v69 v70 o wr hrel
        obtain ⟨rfl, nq, rfl⟩ := hrel
        go_wp2_with fail
        (try simp only [Exit.inBlock, Exit.then]); refine HR.out _ _ _ _ _ _ _ _ _ _ _ _ _ _ _ _ _ _ _ _ _ ?_
        exact ⟨rfl, Hne.out, HkW.out.drewN _⟩
    · have q4 : ¬ (k : Int) < (n : Int) := by omega
      have Hxy := Lib.hid (same_all Hsm.out (by rw [← Hn.out]; omega) (by rw [← Hm.out]; omega))
      clear hlt hsm hkr
      go_wp2_with fail
      refine HK.out _ _ _ _ _ _ _ _ _ _ _ _ _ _ _ _ _ _ _ _ _ ?_
      exact ⟨Hxy.out, HkW.out⟩

set_option maxRecDepth 100000 in
theorem same_ways_r (w : World) (P Q n ca cb k b3 o3 b4 o4 : Nat) (p0 p1 p2 r0 r1 r2 : Int) (b : Bool) (hkn : (k : Int) < (n : Int)) (ea : w.cell? ⟨P, 2, none⟩ = some (.slice (some ⟨b3, o3, none⟩) n ca)) (eb : w.cell? ⟨Q, 2, none⟩ = some (.slice (some ⟨b4, o4, none⟩) n cb)) (e0 : w.cell? ⟨b3, o3 + k * 3, none⟩ = some (.int .i64 p0)) (e1 : w.cell? ⟨b3, o3 + k * 3 + 1, none⟩ = some (.int .i64 p1)) (e2 : w.cell? ⟨b3, o3 + k * 3 + 2, none⟩ = some (.int .i64 p2)) (f0 : w.cell? ⟨b4, o4 + k * 3, none⟩ = some (.int .i64 r0)) (f1 : w.cell? ⟨b4, o4 + k * 3 + 1, none⟩ = some (.int .i64 r1)) (f2 : w.cell? ⟨b4, o4 + k * 3 + 2, none⟩ = some (.int .i64 r2)) (hneq : ∀ w : World, (binOp .neq 91 (.agg #[.int .i64 p0, .int .i64 p1, .int .i64 p2]) (.agg #[.int .i64 r0, .int .i64 r1, .int .i64 r2])).run Try.prog w = .ok (.bool b) w) {K : Act → World → Prop} {Q' : Exit → Act → World → Prop} {u0 u1 u2 u3 u4 u7 u9 u10 u11 u12 u13 u14 u15 u16 u17 u18 u19 u20 u21 u22 u23 u24 u25 u26 u27 u28 u29 u30 u31 u32 u33 u34 u35 u36 u37 u38 u39 u40 u41 u42 u43 u44 u45 u46 u47 u48 u49 u50 u51 u52 u53 u54 u55 u56 u57 u58 u59 u60 u61 u62 u63 u64 u65 u66 u67 u68 u69 u70 u71 u72 u73 u74 u75 u76 u77 u78 u79 u80 u81 u82 u83 u84 u85 u86 u87 u88 u89 u90 u91 u92 u93 u94 u95 u96 u97 u98 u99 u100 u101 u102 u103 u104 u105 u106 u107 u108 : Value}
    (HK : Hid (∀ (v79 v80 v81 v82 v83 v84 v85 v86 v87 v88 o : Value) (wr : World), (o = .bool b ∧ ∃ n, wr = w.drewN n) → K { tmps := #[u0, u1, u2, u3, u4, .pointer (some ⟨P, 0, none⟩), .pointer (some ⟨Q, 0, none⟩), u7, .int .i64 k, u9, u10, u11, u12, u13, u14, u15, u16, u17, u18, u19, u20, u21, u22, u23, u24, u25, u26, u27, u28, u29, u30, u31, u32, u33, u34, u35, u36, u37, u38, u39, u40, u41, u42, u43, u44, u45, u46, u47, u48, u49, u50, u51, u52, u53, u54, u55, u56, u57, u58, u59, u60, u61, u62, u63, u64, u65, u66, u67, u68, u69, u70, u71, u72, u73, u74, u75, u76, u77, u78, v79, v80, v81, v82, v83, v84, v85, v86, v87, v88, o, u90, u91, u92, u93, u94, u95, u96, u97, u98, u99, u100, u101, u102, u103, u104, u105, u106, u107, u108], defers := [] } wr)) :
    ∀ cc, secRegion 12 (Try.f16.body.getD .skip) = cc → cc.wp Try.prog (Exit.then K Q') { tmps := #[u0, u1, u2, u3, u4, .pointer (some ⟨P, 0, none⟩), .pointer (some ⟨Q, 0, none⟩), u7, .int .i64 k, u9, u10, u11, u12, u13, u14, u15, u16, u17, u18, u19, u20, u21, u22, u23, u24, u25, u26, u27, u28, u29, u30, u31, u32, u33, u34, u35, u36, u37, u38, u39, u40, u41, u42, u43, u44, u45, u46, u47, u48, u49, u50, u51, u52, u53, u54, u55, u56, u57, u58, u59, u60, u61, u62, u63, u64, u65, u66, u67, u68, u69, u70, u71, u72, u73, u74, u75, u76, u77, u78, u79, u80, u81, u82, u83, u84, u85, u86, u87, u88, u89, u90, u91, u92, u93, u94, u95, u96, u97, u98, u99, u100, u101, u102, u103, u104, u105, u106, u107, u108], defers := [] } w := by
  rintro cc rfl
  show Code.wp _ (Code.region 12 _ _) _ _ _
  go_quiet (fail)
  refine HK.out _ _ _ _ _ _ _ _ _ _ _ _ ?_
  exact ⟨rfl, _, rfl⟩

set_option maxRecDepth 100000 in
set_option maxHeartbeats 4000000 in
theorem same_ways (wx w1 : World) (F G : Nat → Prop) (xs ys : List Wy) (A B : Option Addr) (n ca cb P Q : Nat) (Ha : Hid (SliceAt wyR wx F xs (.slice A n ca))) (Hb : Hid (SliceAt wyR wx G ys (.slice B n cb))) (Hn : Hid (n = xs.length)) (Hm : Hid (n = ys.length)) (hca : n ≤ ca) (hca2 : ca ≤ 9223372036854775807) (hcb : n ≤ cb) (hcb2 : cb ≤ 9223372036854775807) (cp : wx.cell? ⟨P, 2, none⟩ = some (.slice A n ca)) (cq : wx.cell? ⟨Q, 2, none⟩ = some (.slice B n cb)) (Hk : Hid (Kp No wx w1)) {K : Act → World → Prop} {Q' : Exit → Act → World → Prop} {u0 u1 u2 u3 u4 u7 u9 u10 u11 u12 u13 u14 u15 u16 u17 u18 u19 u20 u21 u22 u23 u24 u25 u26 u27 u28 u29 u30 u31 u32 u33 u34 u35 u36 u37 u38 u39 u40 u41 u42 u43 u44 u45 u46 u47 u48 u49 u50 u51 u52 u53 u54 u55 u56 u57 u58 u59 u60 u61 u62 u63 u64 u65 u66 u67 u68 u69 u70 u71 u72 u73 u74 u75 u76 u77 u78 u79 u80 u81 u82 u83 u84 u85 u86 u87 u88 u89 u90 u91 u92 u93 u94 u95 u96 u97 u98 u99 u100 u101 u102 u103 u104 u105 u106 u107 u108 : Value}
    (HK : Hid (∀ (o v8 v72 v73 v74 v75 v76 v77 v78 v79 v80 v81 v82 v83 v84 v85 v86 v87 v88 v89 : Value) (wr : World), (xs = ys ∧ Kp No wx wr) → K { tmps := #[u0, u1, u2, u3, o, .pointer (some ⟨P, 0, none⟩), .pointer (some ⟨Q, 0, none⟩), u7, v8, u9, u10, u11, u12, u13, u14, u15, u16, u17, u18, u19, u20, u21, u22, u23, u24, u25, u26, u27, u28, u29, u30, u31, u32, u33, u34, u35, u36, u37, u38, u39, u40, u41, u42, u43, u44, u45, u46, u47, u48, u49, u50, u51, u52, u53, u54, u55, u56, u57, u58, u59, u60, u61, u62, u63, u64, u65, u66, u67, u68, u69, u70, u71, v72, v73, v74, v75, v76, v77, v78, v79, v80, v81, v82, v83, v84, v85, v86, v87, v88, v89, u90, u91, u92, u93, u94, u95, u96, u97, u98, u99, u100, u101, u102, u103, u104, u105, u106, u107, u108], defers := [] } wr))
    (HR : Hid (∀ (o v8 v72 v73 v74 v75 v76 v77 v78 v79 v80 v81 v82 v83 v84 v85 v86 v87 v88 v89 : Value) (wr : World), (o = .bool false ∧ ¬ xs = ys ∧ Kp No wx wr) → Q' Exit.ret { tmps := #[u0, u1, u2, u3, o, .pointer (some ⟨P, 0, none⟩), .pointer (some ⟨Q, 0, none⟩), u7, v8, u9, u10, u11, u12, u13, u14, u15, u16, u17, u18, u19, u20, u21, u22, u23, u24, u25, u26, u27, u28, u29, u30, u31, u32, u33, u34, u35, u36, u37, u38, u39, u40, u41, u42, u43, u44, u45, u46, u47, u48, u49, u50, u51, u52, u53, u54, u55, u56, u57, u58, u59, u60, u61, u62, u63, u64, u65, u66, u67, u68, u69, u70, u71, v72, v73, v74, v75, v76, v77, v78, v79, v80, v81, v82, v83, v84, v85, v86, v87, v88, v89, u90, u91, u92, u93, u94, u95, u96, u97, u98, u99, u100, u101, u102, u103, u104, u105, u106, u107, u108], defers := [] } wr)) :
    ∀ cc, secBlock 2 (Try.f16.body.getD .skip) = cc → cc.wp Try.prog (Exit.then K Q') { tmps := #[u0, u1, u2, u3, u4, .pointer (some ⟨P, 0, none⟩), .pointer (some ⟨Q, 0, none⟩), u7, .int .i64 0, u9, u10, u11, u12, u13, u14, u15, u16, u17, u18, u19, u20, u21, u22, u23, u24, u25, u26, u27, u28, u29, u30, u31, u32, u33, u34, u35, u36, u37, u38, u39, u40, u41, u42, u43, u44, u45, u46, u47, u48, u49, u50, u51, u52, u53, u54, u55, u56, u57, u58, u59, u60, u61, u62, u63, u64, u65, u66, u67, u68, u69, u70, u71, u72, u73, u74, u75, u76, u77, u78, u79, u80, u81, u82, u83, u84, u85, u86, u87, u88, u89, u90, u91, u92, u93, u94, u95, u96, u97, u98, u99, u100, u101, u102, u103, u104, u105, u106, u107, u108], defers := [] } w1 := by
  rintro cc rfl
  show Code.wp _ (Code.block 2 _) _ _ _
  go_wp2_with fail
  go_loopw [8] (fun i wr => ∃ k : Nat, k ≤ n ∧ i = .int .i64 k ∧ (∀ i < k, xs[i]? = ys[i]?) ∧ Kp No wx wr) (fun i _ => n - (intOf i).toNat)
  case atStart => exact ⟨0, Nat.zero_le _, rfl, fun i h => absurd h (Nat.not_lt_zero _), Hk.out⟩
  case round =>
    obtain ⟨k, hk, rfl, hsm, hkr⟩ := hrel
    have q3 : (0 : Int) ≤ (k : Int) := by omega
    have Hsm := Lib.hid hsm
    have HkW := Lib.hid hkr
    have cp := hkr.cell cp id
    have cq := hkr.cell cq id
    by_cases hlt : k < n
    · have q4 : (k : Int) < (n : Int) := by omega
      obtain ⟨x, hx⟩ : ∃ x, xs[k]? = some x := ⟨_, List.getElem?_eq_getElem (by rw [← Hn.out]; exact hlt)⟩
      obtain ⟨y, hy⟩ : ∃ y, ys[k]? = some y := ⟨_, List.getElem?_eq_getElem (by rw [← Hm.out]; exact hlt)⟩
      obtain ⟨b3, o3, rfl, _, e0, e1, e2⟩ := (Ha.out.kp hkr (fun _ _ => id)).get_Wy hx
      obtain ⟨b4, o4, rfl, _, f0, f1, f2⟩ := (Hb.out.kp hkr (fun _ _ => id)).get_Wy hy
      have Hx := Lib.hid hx
      have Hy := Lib.hid hy
      have Hlt := Lib.hid hlt
      have hneq := fun w : World => neq_Wy w x y
      generalize i64of x.fro = p0 at e0 hneq
      generalize i64of y.fro = r0 at f0 hneq
      generalize i64of x.to = p1 at e1 hneq
      generalize i64of y.to = r1 at f1 hneq
      generalize i64of x.via = p2 at e2 hneq
      generalize i64of y.via = r2 at f2 hneq
      clear hx hy hlt hsm hkr
      by_cases hxy : x.words = y.words
      · have Heq := Lib.hid (words_Wy.1 hxy)
        simp only [decide_eq_true hxy, Bool.not_true] at hneq
        clear hxy
        go_upto_region 12 with (fail)
        refine same_ways_r _ P Q n ca cb k b3 o3 b4 o4 p0 p1 p2 r0 r1 r2 _ q4 cp cq e0 e1 e2 f0 f1 f2 hneq (Lib.hid ?_) _ rfl
        intro v79 v80 v81 v82 v83 v84 v85 v86 v87 v88 o wr hrel
        obtain ⟨rfl, nq, rfl⟩ := hrel
        go_wp2_with fail
        go_roundw
        case rel => exact ⟨k + 1, by have := Hlt.out; omega, by go_num, same_step Hsm.out Hx.out Hy.out Heq.out, HkW.out.drewN _⟩
        case measure => simp [intOf]; have := Hlt.out; omega
      · have Hne := Lib.hid (diff_at Hx.out Hy.out (fun h => hxy (words_Wy.2 h)))
        simp only [decide_eq_false hxy, Bool.not_false] at hneq
        clear hxy
        go_upto_region 12 with (fail)
        refine same_ways_r _ P Q n ca cb k b3 o3 b4 o4 p0 p1 p2 r0 r1 r2 _ q4 cp cq e0 e1 e2 f0 f1 f2 hneq (Lib.hid ?_) _ rfl
        intro v79 v80 v81 v82 v83 v84 v85 v86 v87 v88 o wr hrel
        obtain ⟨rfl, nq, rfl⟩ := hrel
        go_wp2_with fail
        (try simp only [Exit.inBlock, Exit.then]); refine HR.out _ _ _ _ _ _ _ _ _ _ _ _ _ _ _ _ _ _ _ _ _ ?_
        exact ⟨rfl, Hne.out, HkW.out.drewN _⟩
    · have q4 : ¬ (k : Int) < (n : Int) := by omega
      have Hxy := Lib.hid (same_all Hsm.out (by rw [← Hn.out]; omega) (by rw [← Hm.out]; omega))
      clear hlt hsm hkr
      go_wp2_with fail
      refine HK.out _ _ _ _ _ _ _ _ _ _ _ _ _ _ _ _ _ _ _ _ _ ?_
      exact ⟨Hxy.out, HkW.out⟩

set_option maxRecDepth 100000 in
set_option maxHeartbeats 4000000 in
theorem same_tables (wx w1 : World) (F G : Nat → Prop) (xs ys : List (List (List Rl))) (A B : Option Addr) (n ca cb P Q : Nat) (Ha : Hid (SliceAt rlR.slice.slice wx F xs (.slice A n ca))) (Hb : Hid (SliceAt rlR.slice.slice wx G ys (.slice B n cb))) (Hn : Hid (n = xs.length)) (Hm : Hid (n = ys.length)) (hca : n ≤ ca) (hca2 : ca ≤ 9223372036854775807) (hcb : n ≤ cb) (hcb2 : cb ≤ 9223372036854775807) (p1 : wx.cell? ⟨P, 4, none⟩ = some (.slice A n ca)) (q1 : wx.cell? ⟨Q, 4, none⟩ = some (.slice B n cb)) (Hk : Hid (Kp No wx w1)) {K : Act → World → Prop} {Q' : Exit → Act → World → Prop} {u0 u1 u4 u5 u6 u7 u8 u10 u11 u12 u13 u14 u15 u16 u17 u18 u19 u20 u21 u22 u23 u24 u25 u26 u27 u28 u29 u30 u31 u32 u33 u34 u35 u36 u37 u38 u39 u40 u41 u42 u43 u44 u45 u46 u47 u48 u49 u50 u51 u52 u53 u54 u55 u56 u57 u58 u59 u60 u61 u62 u63 u64 u65 u66 u67 u68 u69 u70 u71 u72 u73 u74 u75 u76 u77 u78 u79 u80 u81 u82 u83 u84 u85 u86 u87 u88 u89 u90 u91 u92 u93 u94 u95 u96 u97 u98 u99 u100 u101 u102 u103 u104 u105 u106 u107 u108 : Value}
    (HK : Hid (∀ (o v9 v90 v91 v92 v93 v94 v95 v96 v97 v98 v99 v100 v101 v102 v103 v104 v105 v106 v107 v108 : Value) (wr : World), (xs = ys ∧ Kp No wx wr) → K { tmps := #[u0, u1, .pointer (some ⟨P, 0, none⟩), .pointer (some ⟨Q, 0, none⟩), o, u5, u6, u7, u8, v9, u10, u11, u12, u13, u14, u15, u16, u17, u18, u19, u20, u21, u22, u23, u24, u25, u26, u27, u28, u29, u30, u31, u32, u33, u34, u35, u36, u37, u38, u39, u40, u41, u42, u43, u44, u45, u46, u47, u48, u49, u50, u51, u52, u53, u54, u55, u56, u57, u58, u59, u60, u61, u62, u63, u64, u65, u66, u67, u68, u69, u70, u71, u72, u73, u74, u75, u76, u77, u78, u79, u80, u81, u82, u83, u84, u85, u86, u87, u88, u89, v90, v91, v92, v93, v94, v95, v96, v97, v98, v99, v100, v101, v102, v103, v104, v105, v106, v107, v108], defers := [] } wr))
    (HR : Hid (∀ (o v9 v90 v91 v92 v93 v94 v95 v96 v97 v98 v99 v100 v101 v102 v103 v104 v105 v106 v107 v108 : Value) (wr : World), (o = .bool false ∧ ¬ xs = ys ∧ Kp No wx wr) → Q' Exit.ret { tmps := #[u0, u1, .pointer (some ⟨P, 0, none⟩), .pointer (some ⟨Q, 0, none⟩), o, u5, u6, u7, u8, v9, u10, u11, u12, u13, u14, u15, u16, u17, u18, u19, u20, u21, u22, u23, u24, u25, u26, u27, u28, u29, u30, u31, u32, u33, u34, u35, u36, u37, u38, u39, u40, u41, u42, u43, u44, u45, u46, u47, u48, u49, u50, u51, u52, u53, u54, u55, u56, u57, u58, u59, u60, u61, u62, u63, u64, u65, u66, u67, u68, u69, u70, u71, u72, u73, u74, u75, u76, u77, u78, u79, u80, u81, u82, u83, u84, u85, u86, u87, u88, u89, v90, v91, v92, v93, v94, v95, v96, v97, v98, v99, v100, v101, v102, v103, v104, v105, v106, v107, v108], defers := [] } wr)) :
    ∀ cc, secBlock 4 (Try.f16.body.getD .skip) = cc → cc.wp Try.prog (Exit.then K Q') { tmps := #[u0, u1, .pointer (some ⟨P, 0, none⟩), .pointer (some ⟨Q, 0, none⟩), u4, u5, u6, u7, u8, .int .i64 0, u10, u11, u12, u13, u14, u15, u16, u17, u18, u19, u20, u21, u22, u23, u24, u25, u26, u27, u28, u29, u30, u31, u32, u33, u34, u35, u36, u37, u38, u39, u40, u41, u42, u43, u44, u45, u46, u47, u48, u49, u50, u51, u52, u53, u54, u55, u56, u57, u58, u59, u60, u61, u62, u63, u64, u65, u66, u67, u68, u69, u70, u71, u72, u73, u74, u75, u76, u77, u78, u79, u80, u81, u82, u83, u84, u85, u86, u87, u88, u89, u90, u91, u92, u93, u94, u95, u96, u97, u98, u99, u100, u101, u102, u103, u104, u105, u106, u107, u108], defers := [] } w1 := by
  rintro cc rfl
  show Code.wp _ (Code.block 4 _) _ _ _
  go_wp2_with fail
  go_loopw [9] (fun i wr => ∃ k : Nat, k ≤ n ∧ i = .int .i64 k ∧ (∀ i < k, xs[i]? = ys[i]?) ∧ Kp No wx wr) (fun i _ => n - (intOf i).toNat)
  case atStart => exact ⟨0, Nat.zero_le _, rfl, fun i h => absurd h (Nat.not_lt_zero _), Hk.out⟩
  case round =>
    obtain ⟨k, hk, rfl, hsm, hkr⟩ := hrel
    have q3 : (0 : Int) ≤ (k : Int) := by omega
    have Hsm := Lib.hid hsm
    have HkW := Lib.hid hkr
    have p1 := hkr.cell p1 id
    have q1 := hkr.cell q1 id
    by_cases hlt : k < n
    · have q4 : (k : Int) < (n : Int) := by omega
      obtain ⟨x, hx⟩ : ∃ x, xs[k]? = some x := ⟨_, List.getElem?_eq_getElem (by rw [← Hn.out]; exact hlt)⟩
      obtain ⟨y, hy⟩ : ∃ y, ys[k]? = some y := ⟨_, List.getElem?_eq_getElem (by rw [← Hm.out]; exact hlt)⟩
      obtain ⟨ba, oa, ua, rfl, hFa, ea, hxa⟩ := (Ha.out.kp hkr (fun _ _ => id)).get_slice hx
      obtain ⟨bb, ob, ub, rfl, hFb, eb, hyb⟩ := (Hb.out.kp hkr (fun _ _ => id)).get_slice hy
      obtain ⟨Ax, nx, cx, rfl, Hnx, hcx1, hcx2⟩ := hxa.form'
      obtain ⟨By, ny, cy, rfl, Hny, hcy1, hcy2⟩ := hyb.form'
      have Hx := Lib.hid hx
      have Hy := Lib.hid hy
      have Hlt := Lib.hid hlt
      have Hxa := Lib.hid hxa
      have Hyb := Lib.hid hyb
      clear hx hy hlt hsm hkr hxa hyb
      go_upto_region 17 with (fail)
      refine wp_region_noPanic ?_
      refine wp_region_held_drew (S := fun w' => Hid (Kp No wr w')) (by kernel_rfl) (Lib.hid (Kp.refl _ _).drew) (fun hHeld => ?_)
      refine wpAnyH_take (i := 0) (oi := ?_) (v := ?_) ?_ (by kernel_rfl) (by kernel_rfl) (by kernel_rfl) (fun _ _ _ h => h) (Or.inl ⟨?_, fun w hSw => ?_⟩) hHeld ?_
      rotate_left 2
      · (simp only [List.getElem?_toArray, List.getElem?_cons_zero]; rfl)
      · rfl
      · (clear hSw; go_simp; try (with_reducible rfl))
      simp only [Act.put, List.setIfInBounds_toArray, List.set_cons_zero, List.set_cons_succ]
      refine wpAnyH_take (i := 1) (oi := ?_) (v := ?_) ?_ (by kernel_rfl) (by kernel_rfl) (by kernel_rfl) (fun _ _ _ h => h) (Or.inl ⟨?_, fun w hSw => ?_⟩) hHeld ?_
      rotate_left 2
      · (simp only [List.getElem?_toArray, List.getElem?_cons_succ, List.getElem?_cons_zero]; rfl)
      · rfl
      · (have l2 := (Hid.out hSw).cell p1 id; have l3 := (Hid.out hSw).cell q1 id; have l4 := (Hid.out hSw).cell ea id; have l5 := (Hid.out hSw).cell eb id; clear hSw; go_simp; try (with_reducible rfl))
      simp only [Act.put, List.setIfInBounds_toArray, List.set_cons_zero, List.set_cons_succ]
      refine wpAnyH_take (i := 2) (oi := ?_) (v := ?_) ?_ (by kernel_rfl) (by kernel_rfl) (by kernel_rfl) (fun _ _ _ h => h) (Or.inl ⟨?_, fun w hSw => ?_⟩) hHeld ?_
      rotate_left 2
      · (simp only [List.getElem?_toArray, List.getElem?_cons_succ, List.getElem?_cons_zero]; rfl)
      · rfl
      · (clear hSw; go_simp; try (with_reducible rfl))
      simp only [Act.put, List.setIfInBounds_toArray, List.set_cons_zero, List.set_cons_succ]
      refine wpAnyH_take (i := 3) (oi := ?_) (v := ?_) ?_ (by kernel_rfl) (by kernel_rfl) (by kernel_rfl) (fun _ _ _ h => h) (Or.inl ⟨?_, fun w hSw => ?_⟩) hHeld ?_
      rotate_left 2
      · (simp only [List.getElem?_toArray, List.getElem?_cons_succ, List.getElem?_cons_zero]; rfl)
      · rfl
      · (clear hSw; go_simp; try (with_reducible rfl))
      simp only [Act.put, List.setIfInBounds_toArray, List.set_cons_zero, List.set_cons_succ]
      refine wpAnyH_take (i := 4) (oi := ?_) (v := ?_) ?_ (by kernel_rfl) (by kernel_rfl) (by kernel_rfl) (fun _ _ _ h => h) (Or.inl ⟨?_, fun w hSw => ?_⟩) hHeld ?_
      rotate_left 2
      · (simp only [List.getElem?_toArray, List.getElem?_cons_succ, List.getElem?_cons_zero]; rfl)
      · rfl
      · (have l2 := (Hid.out hSw).cell p1 id; have l3 := (Hid.out hSw).cell q1 id; have l4 := (Hid.out hSw).cell ea id; have l5 := (Hid.out hSw).cell eb id; clear hSw; go_simp; try (with_reducible rfl))
      simp only [Act.put, List.setIfInBounds_toArray, List.set_cons_zero, List.set_cons_succ]
      refine wpAnyH_take (i := 5) (oi := ?_) (v := ?_) ?_ (by kernel_rfl) (by kernel_rfl) (by kernel_rfl) (fun _ _ _ h => h) (Or.inl ⟨?_, fun w hSw => ?_⟩) hHeld ?_
      rotate_left 2
      · (simp only [List.getElem?_toArray, List.getElem?_cons_succ, List.getElem?_cons_zero]; rfl)
      · rfl
      · (clear hSw; go_simp; try (with_reducible rfl))
      simp only [Act.put, List.setIfInBounds_toArray, List.set_cons_zero, List.set_cons_succ]
      refine wpAnyH_take (i := 6) (oi := ?_) (v := ?_) ?_ (by kernel_rfl) (by kernel_rfl) (by kernel_rfl) (fun _ _ _ h => h) (Or.inl ⟨?_, fun w hSw => ?_⟩) hHeld ?_
      rotate_left 2
      · (simp only [List.getElem?_toArray, List.getElem?_cons_succ, List.getElem?_cons_zero]; rfl)
      · rfl
      · (have l2 := (Hid.out hSw).cell p1 id; have l3 := (Hid.out hSw).cell q1 id; have l4 := (Hid.out hSw).cell ea id; have l5 := (Hid.out hSw).cell eb id; clear hSw; go_simp; try (with_reducible rfl))
      simp only [Act.put, List.setIfInBounds_toArray, List.set_cons_zero, List.set_cons_succ]
      refine wpAnyH_take (i := 7) (oi := ?_) (v := ?_) ?_ (by kernel_rfl) (by kernel_rfl) (by kernel_rfl) (fun _ _ _ h => h) (Or.inl ⟨?_, fun w hSw => ?_⟩) hHeld ?_
      rotate_left 2
      · (simp only [List.getElem?_toArray, List.getElem?_cons_succ, List.getElem?_cons_zero]; rfl)
      · rfl
      · (clear hSw; go_simp; try (with_reducible rfl))
      simp only [Act.put, List.setIfInBounds_toArray, List.set_cons_zero, List.set_cons_succ]
      refine wpAnyH_take (i := 8) (oi := ?_) (v := ?_) ?_ (by kernel_rfl) (by kernel_rfl) (by kernel_rfl) (fun _ _ _ h => h) (Or.inl ⟨?_, fun w hSw => ?_⟩) hHeld ?_
      rotate_left 2
      · (simp only [List.getElem?_toArray, List.getElem?_cons_succ, List.getElem?_cons_zero]; rfl)
      · rfl
      · (clear hSw; go_simp; try (with_reducible rfl))
      simp only [Act.put, List.setIfInBounds_toArray, List.set_cons_zero, List.set_cons_succ]
      refine wpAnyH_take (i := 9) (oi := ?_) (v := ?_) ?_ (by kernel_rfl) (by kernel_rfl) (by kernel_rfl) (fun _ _ _ h => h) (Or.inl ⟨?_, fun w hSw => ?_⟩) hHeld ?_
      rotate_left 2
      · (simp only [List.getElem?_toArray, List.getElem?_cons_succ, List.getElem?_cons_zero]; rfl)
      · rfl
      · (have l2 := (Hid.out hSw).cell p1 id; have l3 := (Hid.out hSw).cell q1 id; have l4 := (Hid.out hSw).cell ea id; have l5 := (Hid.out hSw).cell eb id; clear hSw; go_simp; try (with_reducible rfl))
      simp only [Act.put, List.setIfInBounds_toArray, List.set_cons_zero, List.set_cons_succ]
      refine wpAnyH_ready (rs := [10]) (by kernel_rfl) (by simp) ?_
      refine AllReadyH.cons (o := ?_) ?_ (fun K hK => ?_) AllReadyH.nil
      rotate_left
      · (simp only [List.getElem?_toArray, List.getElem?_cons_succ, List.getElem?_cons_zero]; rfl)
      go_simp
      refine (ref_Rules _ F G _ _ _ _ (Hxa.out.kp (Hid.out hHeld) (fun _ _ => id)) (Hyb.out.kp (Hid.out hHeld) (fun _ _ => id))).mono ?_
      rintro e w4 ⟨b, rfl, hb, hk⟩
      have Hbb := Lib.hid hb
      have hS := Lib.hid ((Hid.out hHeld).trans hk)
      clear hk hb
      refine hK.out _ _ hS (fun hHeld => ?_)
      clear hK K
      (try simp only [Act.put, List.setIfInBounds_toArray, List.set_cons_zero, List.set_cons_succ])
      refine wpAnyH_take (i := 11) (oi := ?_) (v := ?_) ?_ (by kernel_rfl) (by kernel_rfl) (by kernel_rfl) (fun _ _ _ h => h) (Or.inl ⟨?_, fun w hSw => ?_⟩) hHeld ?_
      rotate_left 2
      · (simp only [List.getElem?_toArray, List.getElem?_cons_succ, List.getElem?_cons_zero]; rfl)
      · rfl
      · (clear hSw; go_simp; try (with_reducible rfl))
      simp only [Act.put, List.setIfInBounds_toArray, List.set_cons_zero, List.set_cons_succ]
      refine wpAnyH_done (by kernel_rfl) (NoPanic.normal ?_) _
      have Hkf := hHeld
      clear hHeld
      cases b with
      | true =>
        have Heq := Lib.hid (Hbb.out.1 rfl)
        go_wp2_with fail
        go_roundw
        case rel => exact ⟨k + 1, by have := Hlt.out; omega, by go_num, same_step Hsm.out Hx.out Hy.out Heq.out, HkW.out.trans Hkf.out⟩
        case measure => simp [intOf]; have := Hlt.out; omega
      | false =>
        have Hne := Lib.hid (diff_at Hx.out Hy.out (fun h => by have := Hbb.out.2 h; cases this))
        go_wp2_with fail
        (try simp only [Exit.inBlock, Exit.then]); refine HR.out _ _ _ _ _ _ _ _ _ _ _ _ _ _ _ _ _ _ _ _ _ _ ?_
        exact ⟨rfl, Hne.out, HkW.out.trans Hkf.out⟩
    · have q4 : ¬ (k : Int) < (n : Int) := by omega
      have Hxy := Lib.hid (same_all Hsm.out (by rw [← Hn.out]; omega) (by rw [← Hm.out]; omega))
      clear hlt hsm hkr
      go_wp2_with fail
      refine HK.out _ _ _ _ _ _ _ _ _ _ _ _ _ _ _ _ _ _ _ _ _ _ ?_
      exact ⟨Hxy.out, HkW.out⟩


set_option maxRecDepth 100000 in
set_option maxHeartbeats 4000000 in
theorem ref_Same (w : World) (F G : Nat → Prop) (c d : Cfg) (v1 v2 v3 v4 u1 u2 u3 u4 : Value) (hv1 : SliceAt ptR.slice w F c.ports v1) (hv2 : SliceAt prR w F c.peers v2) (hv3 : SliceAt wyR w F c.ways v3) (hv4 : SliceAt rlR.slice.slice w F c.tables v4) (hu1 : SliceAt ptR.slice w G d.ports u1) (hu2 : SliceAt prR w G d.peers u2) (hu3 : SliceAt wyR w G d.ways u3) (hu4 : SliceAt rlR.slice.slice w G d.tables u4) :
    Calls Try.prog 16 #[.agg #[v1, .int .i64 (i64of c.tenants), v2, v3, v4], .agg #[u1, .int .i64 (i64of d.tenants), u2, u3, u4]] w fun e w' => SameOut w w' (c = d) e := by
  obtain ⟨A1, n1, k1, rfl, HA1, hbA1, hcA1⟩ := hv1.form'
  obtain ⟨A2, n2, k2, rfl, HA2, hbA2, hcA2⟩ := hv2.form'
  obtain ⟨A3, n3, k3, rfl, HA3, hbA3, hcA3⟩ := hv3.form'
  obtain ⟨A4, n4, k4, rfl, HA4, hbA4, hcA4⟩ := hv4.form'
  obtain ⟨B1, m1, l1, rfl, HB1, hbB1, hcB1⟩ := hu1.form'
  obtain ⟨B2, m2, l2, rfl, HB2, hbB2, hcB2⟩ := hu2.form'
  obtain ⟨B3, m3, l3, rfl, HB3, hbB3, hcB3⟩ := hu3.form'
  obtain ⟨B4, m4, l4, rfl, HB4, hbB4, hcB4⟩ := hu4.form'
  have hT : (i64of c.tenants = i64of d.tenants) = (c.tenants = d.tenants) := i64of_eq _ _
  generalize i64of c.tenants = T1 at hT ⊢
  generalize i64of d.tenants = T2 at hT ⊢
  have HT := Lib.hid hT
  clear hT
  obtain ⟨wx, hwx⟩ : ∃ wx, wx = (w.alloc (.cells #[.slice A1 n1 k1, .int .i64 T1, .slice A2 n2 k2, .slice A3 n3 k3, .slice A4 n4 k4] 31)).alloc (.cells #[.slice B1 m1 l1, .int .i64 T2, .slice B2 m2 l2, .slice B3 m3 l3, .slice B4 m4 l4] 31) := ⟨_, rfl⟩
  have hk0 : Kp No w wx := by rw [hwx]; exact ((Kp.refl No w).alloc _).alloc _
  obtain ⟨q, hq⟩ : ∃ q, q = w.heap.size := ⟨_, rfl⟩
  have r1 : wx.heap[q]? = some (.cells #[.slice A1 n1 k1, .int .i64 T1, .slice A2 n2 k2, .slice A3 n3 k3, .slice A4 n4 k4] 31 (0, 0)) := by rw [hwx, hq]; exact ((Kp.refl No _).alloc _).heap (heap_alloc_new w _) id
  have r2 : wx.heap[q + 1]? = some (.cells #[.slice B1 m1 l1, .int .i64 T2, .slice B2 m2 l2, .slice B3 m3 l3, .slice B4 m4 l4] 31 (0, 0)) := by
    have := heap_alloc_new (w.alloc (.cells #[.slice A1 n1 k1, .int .i64 T1, .slice A2 n2 k2, .slice A3 n3 k3, .slice A4 n4 k4] 31)) (.cells #[.slice B1 m1 l1, .int .i64 T2, .slice B2 m2 l2, .slice B3 m3 l3, .slice B4 m4 l4] 31)
    rw [alloc_size, ← hq] at this
    rw [hwx]; exact this
  have a0 : wx.cell? ⟨q, 0, none⟩ = some (.slice A1 n1 k1) := cell_of_row _ _ 0 _ _ _ r1
  have a1 : wx.cell? ⟨q, 1, none⟩ = some (.int .i64 T1) := cell_of_row _ _ 1 _ _ _ r1
  have a2 : wx.cell? ⟨q, 2, none⟩ = some (.slice A2 n2 k2) := cell_of_row _ _ 2 _ _ _ r1
  have a3 : wx.cell? ⟨q, 3, none⟩ = some (.slice A3 n3 k3) := cell_of_row _ _ 3 _ _ _ r1
  have a4 : wx.cell? ⟨q, 4, none⟩ = some (.slice A4 n4 k4) := cell_of_row _ _ 4 _ _ _ r1
  have af : ∀ o, wx.frozen? ⟨q, o, none⟩ = false := fun o => frz_of_row _ _ o _ _ r1
  have b0 : wx.cell? ⟨q + 1, 0, none⟩ = some (.slice B1 m1 l1) := cell_of_row _ _ 0 _ _ _ r2
  have b1 : wx.cell? ⟨q + 1, 1, none⟩ = some (.int .i64 T2) := cell_of_row _ _ 1 _ _ _ r2
  have b2 : wx.cell? ⟨q + 1, 2, none⟩ = some (.slice B2 m2 l2) := cell_of_row _ _ 2 _ _ _ r2
  have b3 : wx.cell? ⟨q + 1, 3, none⟩ = some (.slice B3 m3 l3) := cell_of_row _ _ 3 _ _ _ r2
  have b4 : wx.cell? ⟨q + 1, 4, none⟩ = some (.slice B4 m4 l4) := cell_of_row _ _ 4 _ _ _ r2
  have bf : ∀ o, wx.frozen? ⟨q + 1, o, none⟩ = false := fun o => frz_of_row _ _ o _ _ r2
  have Hv1 := Lib.hid (hv1.kp hk0 (fun _ _ => id))
  have Hu1 := Lib.hid (hu1.kp hk0 (fun _ _ => id))
  have Hv2 := Lib.hid (hv2.kp hk0 (fun _ _ => id))
  have Hu2 := Lib.hid (hu2.kp hk0 (fun _ _ => id))
  have Hv3 := Lib.hid (hv3.kp hk0 (fun _ _ => id))
  have Hu3 := Lib.hid (hu3.kp hk0 (fun _ _ => id))
  have Hv4 := Lib.hid (hv4.kp hk0 (fun _ _ => id))
  have Hu4 := Lib.hid (hu4.kp hk0 (fun _ _ => id))
  have Hk0 := Lib.hid hk0
  have Hwx := Lib.hid hwx
  have Hq := Lib.hid hq
  clear hv1 hv2 hv3 hv4 hu1 hu2 hu3 hu4 hk0 hwx hq r1 r2 af bf
  go_enter Try.func16, Try.ntmps16
  go_upto_region 1 with (fail)
  rw [← Hwx.out, ← Hq.out]
  refine same_r1 wx q (q + 1) T1 T2 A2 B2 A3 B3 n2 k2 m2 l2 n3 k3 m3 l3 a1 a2 a3 b1 b2 b3 (Lib.hid ?_) _ rfl
  intro o o2 v10 v11 v12 v13 wr hrel
  obtain ⟨P, Q, rfl, rfl, hP, hQ, hk⟩ := hrel
  have a0 := hk.cell a0 id
  have a4 := hk.cell a4 id
  have b0 := hk.cell b0 id
  have b4 := hk.cell b4 id
  have p0 : wr.cell? ⟨P, 0, none⟩ = some (.int .i64 T1) := cell_of_row _ _ 0 _ _ _ hP
  have p1 : wr.cell? ⟨P, 1, none⟩ = some (.slice A2 n2 k2) := cell_of_row _ _ 1 _ _ _ hP
  have p2 : wr.cell? ⟨P, 2, none⟩ = some (.slice A3 n3 k3) := cell_of_row _ _ 2 _ _ _ hP
  have pf : ∀ o, wr.frozen? ⟨P, o, none⟩ = false := fun o => frz_of_row _ _ o _ _ hP
  have q0 : wr.cell? ⟨Q, 0, none⟩ = some (.int .i64 T2) := cell_of_row _ _ 0 _ _ _ hQ
  have q1 : wr.cell? ⟨Q, 1, none⟩ = some (.slice B2 m2 l2) := cell_of_row _ _ 1 _ _ _ hQ
  have q2 : wr.cell? ⟨Q, 2, none⟩ = some (.slice B3 m3 l3) := cell_of_row _ _ 2 _ _ _ hQ
  have qf : ∀ o, wr.frozen? ⟨Q, o, none⟩ = false := fun o => frz_of_row _ _ o _ _ hQ
  have Hv1 := Lib.hid (Hv1.out.kp hk (fun _ _ => id))
  have Hu1 := Lib.hid (Hu1.out.kp hk (fun _ _ => id))
  have Hv2 := Lib.hid (Hv2.out.kp hk (fun _ _ => id))
  have Hu2 := Lib.hid (Hu2.out.kp hk (fun _ _ => id))
  have Hv3 := Lib.hid (Hv3.out.kp hk (fun _ _ => id))
  have Hu3 := Lib.hid (Hu3.out.kp hk (fun _ _ => id))
  have Hv4 := Lib.hid (Hv4.out.kp hk (fun _ _ => id))
  have Hu4 := Lib.hid (Hu4.out.kp hk (fun _ _ => id))
  have Hk1 := Lib.hid (Hk0.out.trans hk)
  clear hk hP hQ pf qf a1 a2 a3 b1 b2 b3
  obtain ⟨wo, hwo⟩ : ∃ wo : World, wo = wr := ⟨_, rfl⟩
  subst hwo
  go_upto_region 2 with (fail)
  refine same_r2 wo F G c.ports d.ports _ _ Hv1 Hu1 P Q q (q + 1) T1 T2 A2 B2 A3 B3 A4 B4 n2 k2 m2 l2 n3 k3 m3 l3 n4 k4 m4 l4 p0 p1 p2 q0 q1 q2 a0 b0 a4 b4 (Lib.hid ?_) _ rfl
  intro v14 v15 v16 v17 v18 v19 v20 v21 v22 v23 v24 v25 v26 v27 v28 v29 v30 v31 v32 v33 v34 v35 v36 v37 v38 v39 v40 v41 v42 v43 v44 v45 v46 v47 v48 v49 v50 v51 v52 o wr hrel
  obtain ⟨b, rfl, hb, hk⟩ := hrel
  have Hk2 := Lib.hid hk
  clear hk
  cases b with
  | true =>
    have Hne := Lib.hid (show ¬ c = d from fun h => by
      have := hb.2 (by
        subst h
        exact ⟨rfl, HT.out.mpr rfl, HA2.out.trans HB2.out.symm, HA3.out.trans HB3.out.symm, HA4.out.trans HB4.out.symm⟩)
      cases this)
    clear hb
    go_wp2_with fail
    go_ret
    exact ⟨false, rfl, ⟨(fun h => by cases h), fun h => (Hne.out h).elim⟩, Hk1.out.trans Hk2.out⟩
  | false =>
    obtain ⟨e1, e2, e3, e4, e5⟩ := hb.1 rfl
    have E1 := Lib.hid e1
    have E2 := Lib.hid (HT.out.mp e2)
    clear hb e1 e2
    subst e3 e4 e5
    go_upto_block 0 with (fail)
    refine same_peers wo wr F G c.peers d.peers A2 B2 n2 k2 l2 P Q Hv2 Hu2 HA2 HB2 hbA2 hcA2 hbB2 hcB2 p1 q1 Hk2 (Lib.hid ?_) (Lib.hid ?_) _ rfl
    rotate_left
    · intro o v7 v54 v55 v56 v57 v58 v59 v60 v61 v62 v63 v64 v65 v66 v67 v68 v69 v70 v71 wr hret
      obtain ⟨rfl, hne, hk⟩ := hret
      go_ret
      exact ⟨false, rfl, ⟨(fun h => by cases h), fun h => (hne (by rw [h])).elim⟩, Hk1.out.trans hk⟩
    intro o v7 v54 v55 v56 v57 v58 v59 v60 v61 v62 v63 v64 v65 v66 v67 v68 v69 v70 v71 wr hrel
    obtain ⟨e2, hk3⟩ := hrel
    have E3 := Lib.hid e2
    have Hk3 := Lib.hid hk3
    clear e2 hk3
    go_upto_block 2 with (fail)
    refine same_ways wo wr F G c.ways d.ways A3 B3 n3 k3 l3 P Q Hv3 Hu3 HA3 HB3 hbA3 hcA3 hbB3 hcB3 p2 q2 Hk3 (Lib.hid ?_) (Lib.hid ?_) _ rfl
    rotate_left
    · intro o v8 v72 v73 v74 v75 v76 v77 v78 v79 v80 v81 v82 v83 v84 v85 v86 v87 v88 v89 wr hret
      obtain ⟨rfl, hne, hk⟩ := hret
      go_ret
      exact ⟨false, rfl, ⟨(fun h => by cases h), fun h => (hne (by rw [h])).elim⟩, Hk1.out.trans hk⟩
    intro o v8 v72 v73 v74 v75 v76 v77 v78 v79 v80 v81 v82 v83 v84 v85 v86 v87 v88 v89 wr hrel
    obtain ⟨e2, hk4⟩ := hrel
    have E4 := Lib.hid e2
    have Hk4 := Lib.hid hk4
    clear e2 hk4
    go_upto_block 4 with (fail)
    refine same_tables wo wr F G c.tables d.tables A4 B4 n4 k4 l4 q (q + 1) Hv4 Hu4 HA4 HB4 hbA4 hcA4 hbB4 hcB4 a4 b4 Hk4 (Lib.hid ?_) (Lib.hid ?_) _ rfl
    rotate_left
    · intro o v9 v90 v91 v92 v93 v94 v95 v96 v97 v98 v99 v100 v101 v102 v103 v104 v105 v106 v107 v108 wr hret
      obtain ⟨rfl, hne, hk⟩ := hret
      go_ret
      exact ⟨false, rfl, ⟨(fun h => by cases h), fun h => (hne (by rw [h])).elim⟩, Hk1.out.trans hk⟩
    intro o v9 v90 v91 v92 v93 v94 v95 v96 v97 v98 v99 v100 v101 v102 v103 v104 v105 v106 v107 v108 wr hrel
    obtain ⟨e2, hk5⟩ := hrel
    have E5 := Lib.hid e2
    have Hk5 := Lib.hid hk5
    clear e2 hk5
    go_wp2_with fail
    go_ret
    refine ⟨true, rfl, ⟨fun _ => ?_, fun _ => rfl⟩, Hk1.out.trans Hk5.out⟩
    have g1 := E1.out
    have g2 := E2.out
    have g3 := E3.out
    have g4 := E4.out
    have g5 := E5.out
    cases c
    cases d
    simp only at g1 g2 g3 g4 g5
    subst g1 g2 g3 g4 g5
    rfl
end Go.Proofs.Ytpaldbejnbcokaa
