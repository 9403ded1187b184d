/- Contracts of the program's functions over data, and the plain laws that they meet (part 6). No condition. -/
import Derived.Test.YtahjjfhjjbgjaaaGreatJze
import Derived.WalkKit
import Derived.WalkSpells
import Derived.WalkLawsBesides
import Derived.Lib.Hide
import Derived.Deep.RegionHeld3
import Derived.Maps.AppendAt
import Derived.KernelRfl
import Derived.Lib.AppendStr
import Derived.Orders
import Derived.LoopTactic
import Derived.Laws.CopyRow
import Derived.Laws.Cells
import Derived.Great.BuildSlice
import Derived.Laws.ResultCell
import Derived.Laws.StructEq
import Derived.Laws.MakeOwn
import Derived.Deep.Slices
import Derived.Deep.Fields
import Derived.ChangeSame
import Derived.ProofKit
import Derived.OpenShut
import Derived.SizedLaws
import Derived.Test.YtahjjfhjjbgjaaaGreatProg
import Derived.Shelf.Spec.BitsCarry
import Derived.Lib.AppendZerosOnto
import Derived.DeepKeys4
import Derived.MapKept
set_option linter.unusedVariables false
set_option linter.unusedSimpArgs false
set_option maxRecDepth 100000
set_option maxHeartbeats 4000000
section
namespace Go.Proofs.YtahjjfhjjbgjaaaGreat.Sm
open Go.RowKit
theorem op_indexR0 {P : Program} {N : Nat} {o : Oper} {s : St} (k : Nat) {α : Type} (cF : α → List AV) (l : List α) {t e id ep n : Nat} {ti ei : TI} {x i : Operand} {kd : IntKind} (hlt : k < n) (ho : o.op = .indexAddr t x i) (ht : TiOk P t ti) (hk : ti.k = .slice e) (he : TiOk P e ei) (hx : s.ev x = .row id ep 0 n) (hid : s.σ id = ⟨ep, some (.row e ei.n (l.map cF))⟩) (hi : s.ev i = .i kd (k : Int)) :
  OpLoc P N o s ⟨.el id ep k 0, [], [id]⟩ := by
 have h := op_indexR (N := N) ho ht hk he hx hid hi hlt rfl
 rw [Nat.zero_add] at h
 exact h
theorem op_loadRow {P : Program} {N : Nat} {o : Oper} {s : St} (k : Nat) {α : Type} (cF : α → List AV) (l : List α) (c : α) (hk : l[k]? = some c) {t ty m id ep : Nat} {ti : TI} {p : Operand} (ho : o.op = .load t p) (ht : TiOk P t ti) (hp : s.ev p = .el id ep k 0) (hid : s.σ id = ⟨ep, some (.row ty m (l.map cF))⟩) (hr : ldA ti (cF c) = some (.agg (cF c))) :
  OpLoc P N o s ⟨.agg (cF c), [], [id]⟩ := by
 refine op_load ho ht (cs := (cF c).drop 0) (by rw [hp]; exact .el hid (by rw [List.getElem?_map, hk]; rfl)) ?_
 rw [List.drop_zero]
 exact hr
theorem op_storeRow {P : Program} {N : Nat} {o : Oper} {s : St} (k : Nat) {α : Type} (cF : α → List AV) (l : List α) (c : α) (hk : k < l.length) {t ty m id ep : Nat} {ti : TI} {p x : Operand} (ho : o.op = .store t p x) (ht : TiOk P t ti) (hp : s.ev p = .el id ep k 0) (hid : s.σ id = ⟨ep, some (.row ty m (l.map cF))⟩) (hx : s.ev x = .agg (cF c))
  (h1 : (cF c).all AV.one = true) (h2 : (cF c).all AV.pu1 = true) (hn : ∀ y, (cF y).length = ti.n) : OpLoc P N o s ⟨.tup [], [(id, ⟨ep, some (.row ty m ((l.set k c).map cF))⟩)], []⟩ := by
 have hkk : (l.map cF)[k]? = some (cF l[k]) := by rw [List.getElem?_map, List.getElem?_eq_getElem hk]; rfl
 have h := op_storeE (N := N) ho ht hp hid hkk (by rw [hx]; rfl) h1 h2 (hn c) (by rw [hn]; omega)
 have e : ovw (cF l[k]) 0 (cF c) = cF c := by
  apply List.ext_getElem?
  intro i
  rw [ovw_get _ _ _ _ (by rw [hn, hn]; omega), hn]
  by_cases h : i < ti.n
  ·rw [if_pos (by omega), Nat.sub_zero]
  ·rw [if_neg (by omega), List.getElem?_eq_none (by rw [hn]; omega), List.getElem?_eq_none (by rw [hn]; omega)]
 rw [e] at h
 rw [List.map_set]
 exact h
def wideI (a b : Cb) : Int := IntKind.i64.wrap (a.care.ones - b.care.ones)
theorem d_wide (a b : Cb) : PDoes Tryz.prog 119 [.agg (cCb a), .agg (cCb b)] (.i .i64 (wideI a b)) := by
 refine PDoes.of_bodyN Tryz.func119 rfl (by kernel_rfl) rfl rfl ?_
 skip;(repeat(first|(with_reducible first|apply wA|apply wB|apply wC|(apply wD;first|(refine wE ⟨?_,?_⟩;· kernel_rfl)|apply wE))|((with_reducible first|apply wF|apply wG);refine wH rfl ?_)))
 refine RG.callS rfl rfl rfl rfl rfl (d_Ones a.care) rfl rfl ?_
 refine wH rfl ?_
 refine RG.callS rfl rfl rfl rfl rfl (d_Ones b.care) rfl rfl ?_
 refine wH rfl ?_;(repeat(first|(with_reducible first|apply wA|apply wB|apply wC|(apply wD;first|(refine wE ⟨?_,?_⟩;· kernel_rfl)|apply wE))|((with_reducible first|apply wF|apply wG);refine wH rfl ?_)))
 refine AW.ret (retQA ty_ok rfl rfl rfl ?_)
 rfl
def swapC (m : List Cb) (j : Nat) : List Cb := (m.set (j + 1) (m.getD j Cb.zero)).set j (m.getD (j + 1) Cb.zero)
def insIn (m : List Cb) : Nat → List Cb
 | 0 => m
 | j + 1 => bif decide (wideI (m.getD (j + 1) Cb.zero) (m.getD j Cb.zero) < 0) then insIn (swapC m j) j else m
def insOut : Nat → Nat → List Cb → List Cb
 | 0, _, m => m
 | f + 1, i, m => insOut f (i + 1) (insIn m i)
def insS (m : List Cb) : List Cb := insOut (m.length - 1) 1 m
theorem swapC_len (m : List Cb) (j : Nat) : (swapC m j).length = m.length := by simp [swapC]
theorem insIn_len : ∀ (j : Nat) (m : List Cb), (insIn m j).length = m.length
 | 0, m => rfl
 | j + 1, m => by
  rw [insIn]
  cases decide (wideI (m.getD (j + 1) Cb.zero) (m.getD j Cb.zero) < 0)
  ·rfl
  ·rw [cond_true, insIn_len j, swapC_len]
theorem getD_eq {m : List Cb} {j : Nat} (h : j < m.length) : m.getD j Cb.zero = m[j] := by
 rw [List.getD_eq_getElem?_getD, List.getElem?_eq_getElem h]; rfl
theorem swapC_perm (m : List Cb) (j : Nat) (h : j + 1 < m.length) : (swapC m j).Perm m := by
 rw [swapC, getD_eq h, getD_eq (by omega)]
 exact List.set_set_perm h (by omega)
theorem insIn_perm : ∀ (j : Nat) (m : List Cb), j < m.length → (insIn m j).Perm m
 | 0, m, _ => List.Perm.refl m
 | j + 1, m, h => by
  rw [insIn]
  cases decide (wideI (m.getD (j + 1) Cb.zero) (m.getD j Cb.zero) < 0)
  ·exact List.Perm.refl m
  ·exact (insIn_perm j _ (by rw [swapC_len]; omega)).trans (swapC_perm m j h)
theorem insOut_perm : ∀ (f i : Nat) (m : List Cb), i + f ≤ m.length → (insOut f i m).Perm m
 | 0, _, m, _ => List.Perm.refl m
 | f + 1, i, m, h => by
  rw [insOut]
  exact (insOut_perm f (i + 1) _ (by rw [insIn_len]; omega)).trans (insIn_perm i m (by omega))
theorem insS_perm (m : List Cb) : (insS m).Perm m := by
 cases m with
 | nil => exact List.Perm.refl _
 | cons x m => exact insOut_perm _ 1 _ (by simp; omega)
def srB (m0 : List Cb) (n : Nat) (l : List Cb) : List (Nat × SB) := [(200, ⟨0, some (.box 185 [.row 201 0 0 n, .ref 202 0 .map])⟩), (201, ⟨0, some (.row 50 4 (l.map cCb))⟩), (202, ⟨0, some (mapO m0)⟩)]
theorem sr_end {s : St} {q : Nat → Option (Nat × Nat)} {m0 l : List Cb} {e e1 e1' e2 e2' g g2 n : Nat} {els : List (List AV)} {o : Body} (h0 : s.σ 200 = ⟨e, some (.box 185 [.row 201 e1 0 n, .ref 202 e2 .map])⟩) (h1 : s.σ 201 = ⟨e1', some (.row 50 4 els)⟩) (h2 : s.σ 202 = ⟨e2', some o⟩)
  (hg : s.σ 1100 = ⟨g, some (.ghost 200 e (q 200))⟩) (hg2 : s.σ 1102 = ⟨g2, some (.ghost 202 e2' (q 202))⟩)
  (he : e1 = e1') (he2 : e2 = e2') (hel : els = l.map cCb) (ho : o = mapO m0) : WkB s (lkB (gl q [200, 202] (srB m0 n l))) (gl q [200, 202] (srB m0 n l)) := by
 subst he he2 hel ho
 exact ⟨.ghost hg h0 rfl, .ghost hg2 h2 rfl, .boxL h0 ⟨Rn.rowIs rfl h1 rfl, Rn.refIs rfl h2 rfl, trivial⟩ rfl, .row h1 rfl, .obj h2 rfl, trivial⟩
theorem m_insert (m0 l : List Cb) (n : Nat) (hn : n = (l.map cCb).length) (hl : n ≤ 100000000) (q : Nat → Option (Nat × Nat)) : MDoes Tryz.prog 179 [.row 201 0 0 n, .i .i64 0, .i .i64 (n : Nat), .fn 119 [] []] (gl q [200, 202] (srB m0 n l)) (.tup []) (gl q [200, 202] (srB m0 n (insS l))) := by
 refine MDoes.of_body Tryz.func179 rfl (by kernel_rfl) rfl rfl ?_
 generalize hG : insS l = G
 have hn' : n = l.length := by rw [hn, List.length_map]
 skip;(repeat(first|(with_reducible first|apply wA|apply wB|apply wC|(apply wD;first|(refine wE ⟨?_,?_⟩;· kernel_rfl)|apply wE))|((with_reducible first|apply wF|apply wG);refine wH rfl ?_)))
 refine AW.loopL (ι := Nat × List Cb) (fun i => [(0, .row 201 0 0 n), (1, .i .i64 0), (2, .i .i64 (n : Nat)), (3, .fn 119 [] []), (8, .i .i64 ((i.1 + 1 : Nat) : Int))]) (fun i => gl q [200, 202] (srB m0 n i.2)) (fun i => i.2.length = n ∧ insOut (n - (i.1 + 1)) (i.1 + 1) i.2 = G) (fun i => n - i.1) (0, l) ⟨hn'.symm, by rw [← hG, insS, hn']⟩ ⟨Rn.rowIs rfl rfl rfl, Rn.is rfl rfl, Rn.is rfl rfl, Rn.fnF rfl rfl, Rn.is rfl rfl, trivial⟩ (sr_end rfl rfl rfl rfl rfl rfl rfl rfl rfl) fun i hi => ?_
 obtain ⟨k, m⟩ := i
 obtain ⟨hm, hf⟩ := hi
 simp only at hm hf
 skip;(repeat(first|(with_reducible first|apply wA|apply wB|apply wC|(apply wD;first|(refine wE ⟨?_,?_⟩;· kernel_rfl)|apply wE))|((with_reducible first|apply wF|apply wG);refine wH rfl ?_)))
 refine AW.cond rfl (fun h0 => ?_) (fun h0 => ?_)
 rotate_left
 ·have h : ¬ k + 1 < n := by
   have := of_decide_eq_false h0
   omega
  rw [show n - (k + 1) = 0 by omega, insOut] at hf
  subst hf
  skip;(repeat(first|(with_reducible first|apply wA|apply wB|apply wC|(apply wD;first|(refine wE ⟨?_,?_⟩;· kernel_rfl)|apply wE))|((with_reducible first|apply wF|apply wG);refine wH rfl ?_)))
  refine AW.exit ?_; refine Eq.mpr (if_pos rfl) ?_; skip;(repeat(first|(with_reducible first|apply wA|apply wB|apply wC|(apply wD;first|(refine wE ⟨?_,?_⟩;· kernel_rfl)|apply wE))|((with_reducible first|apply wF|apply wG);refine wH rfl ?_)))
  exact retM0 rfl (.inl rfl) (sr_end rfl rfl rfl rfl rfl rfl rfl rfl rfl)
 have h : k + 1 < n := by
  have := of_decide_eq_true h0
  omega
 rw [show n - (k + 1) = n - (k + 1 + 1) + 1 by omega, insOut] at hf
 skip;(repeat(first|(with_reducible first|apply wA|apply wB|apply wC|(apply wD;first|(refine wE ⟨?_,?_⟩;· kernel_rfl)|apply wE))|((with_reducible first|apply wF|apply wG);refine wH rfl ?_)))
 refine AW.loopL (ι := Nat × List Cb) (fun i => [(0, .row 201 0 0 n), (1, .i .i64 0), (2, .i .i64 (n : Nat)), (3, .fn 119 [] []), (8, .i .i64 ((k + 1 : Nat) : Int)), (9, .i .i64 (i.1 : Nat))]) (fun i => gl q [200, 202] (srB m0 n i.2)) (fun i => (i.1 ≤ k + 1 ∧ i.2.length = n) ∧ insOut (n - (k + 1 + 1)) (k + 1 + 1) (insIn i.2 i.1) = G) (fun i => i.1) (k + 1, m) ⟨⟨Nat.le_refl _, hm⟩, hf⟩ ⟨Rn.rowIs rfl rfl rfl, Rn.is rfl rfl, Rn.is rfl rfl, Rn.fnF rfl rfl, Rn.is rfl rfl, Rn.is rfl rfl, trivial⟩ (sr_end rfl rfl rfl rfl rfl rfl rfl rfl rfl) fun i hi => ?_
 clear hf hm
 obtain ⟨j, m⟩ := i
 obtain ⟨⟨hj, hm⟩, hf⟩ := hi
 simp only at hj hm hf
 skip;(repeat(first|(with_reducible first|apply wA|apply wB|apply wC|(apply wD;first|(refine wE ⟨?_,?_⟩;· kernel_rfl)|apply wE))))
 cases j with
 | zero =>
  rw [insIn] at hf
  have g1 : ¬ (((0 : Nat) : Int) > 0) := by omega
  refine AW.draws mixed_ok ?_
  refine RG.runO ty_ok 0 [(20, .b false)] 400 rfl (by repeat' (first|exact trivial|apply And.intro|exact dT ‹_›|exact dF ‹_›|exact dN ‹_›|exact dM ‹_›|exact dI ‹_›)) ?_
  skip;(repeat(first|(with_reducible first|apply wA|apply wB|apply wC|(apply wD;first|(refine wE ⟨?_,?_⟩;· kernel_rfl)|apply wE))))
  refine AW.condF rfl ?_; skip;(repeat(first|(with_reducible first|apply wA|apply wB|apply wC|(apply wD;first|(refine wE ⟨?_,?_⟩;· kernel_rfl)|apply wE))|((with_reducible first|apply wF|apply wG);refine wH rfl ?_)))
  refine AW.exit ?_; refine Eq.mpr (if_pos rfl) ?_; skip;(repeat(first|(with_reducible first|apply wA|apply wB|apply wC|(apply wD;first|(refine wE ⟨?_,?_⟩;· kernel_rfl)|apply wE))|((with_reducible first|apply wF|apply wG);refine wH rfl ?_)))
  exact ⟨(k + 1, m), ⟨⟨hm, hf⟩, by show n - (k + 1) < n - k; omega⟩, ⟨Rn.rowIs rfl rfl rfl, Rn.is rfl rfl, Rn.is rfl rfl, Rn.fnF rfl rfl, Rn.is (i64_next (show k + 1 < 100000000 by omega) (by decide)) rfl, trivial⟩, sr_end rfl rfl rfl rfl rfl rfl rfl rfl rfl⟩
 | succ j =>
  rw [insIn] at hf
  have g1 : ((j + 1 : Nat) : Int) > 0 := by omega
  have g2 : IntKind.i64.wrap (((j + 1 : Nat) : Int) - Int.ofNat 1) = (j : Nat) := by
   rw [IntKind.wrap_i64]
   simp only [Int.ofNat_eq_natCast]
   omega
  have e1 : m[j + 1]? = some (m.getD (j + 1) Cb.zero) := by rw [getD_eq (by omega)]; exact List.getElem?_eq_getElem _
  have e2 : m[j]? = some (m.getD j Cb.zero) := by rw [getD_eq (by omega)]; exact List.getElem?_eq_getElem _
  have hsw : swapC m j = (m.set (j + 1) (m.getD j Cb.zero)).set j (m.getD (j + 1) Cb.zero) := rfl
  generalize m.getD (j + 1) Cb.zero = a at hf e1 hsw
  generalize m.getD j Cb.zero = b at hf e2 hsw
  refine AW.draws mixed_ok ?_
  refine RG.runO ty_ok 0 [(20, .b true)] 400 rfl (by repeat' (first|exact trivial|apply And.intro|exact dT ‹_›|exact dF ‹_›|exact dN ‹_›|exact dM ‹_›|exact dI ‹_›)) ?_
  refine RG.opS rfl (op_indexR0 (j + 1) cCb (m) (by omega) rfl (tab_ok ty_ok rfl) rfl (tab_ok ty_ok rfl) rfl rfl rfl) rfl ?_
  refine RG.opS rfl (op_loadRow (j + 1) cCb (m) a e1 rfl (tab_ok ty_ok rfl) rfl rfl rfl) rfl ?_
  refine RG.runO ty_ok 0 [(29, .i .i64 (j : Nat))] 400 rfl (by repeat' (first|exact trivial|apply And.intro|exact dT ‹_›|exact dF ‹_›|exact dN ‹_›|exact dM ‹_›|exact dI ‹_›)) ?_
  refine RG.opS rfl (op_indexR0 (j) cCb (m) (by omega) rfl (tab_ok ty_ok rfl) rfl (tab_ok ty_ok rfl) rfl rfl rfl) rfl ?_
  refine RG.opS rfl (op_loadRow (j) cCb (m) b e2 rfl (tab_ok ty_ok rfl) rfl rfl rfl) rfl ?_
  refine wH rfl ?_
  refine RG.callS rfl rfl rfl rfl rfl (d_wide a b) rfl rfl ?_
  refine wH rfl ?_; skip;(repeat(first|(with_reducible first|apply wA|apply wB|apply wC|(apply wD;first|(refine wE ⟨?_,?_⟩;· kernel_rfl)|apply wE))))
  refine AW.cond rfl (fun h1 => ?_) (fun h1 => ?_)
  ·have h1 : wideI a b < 0 := of_decide_eq_true h1
   rw [decide_eq_true h1, cond_true, hsw] at hf
   skip;(repeat(first|(with_reducible first|apply wA|apply wB|apply wC|(apply wD;first|(refine wE ⟨?_,?_⟩;· kernel_rfl)|apply wE))))
   refine AW.draws mixed_ok ?_
   refine RG.runO ty_ok 0 [(41, .i .i64 (j : Nat)), (44, .i .i64 (j : Nat))] 400 rfl (by repeat' (first|exact trivial|apply And.intro|exact dT ‹_›|exact dF ‹_›|exact dN ‹_›|exact dM ‹_›|exact dI ‹_›)) ?_
   refine RG.opS rfl (op_indexR0 (j) cCb (m) (by omega) rfl (tab_ok ty_ok rfl) rfl (tab_ok ty_ok rfl) rfl rfl rfl) rfl ?_
   refine RG.opS rfl (op_loadRow (j) cCb (m) b e2 rfl (tab_ok ty_ok rfl) rfl rfl rfl) rfl ?_
   refine wH rfl ?_
   refine RG.opS rfl (op_indexR0 (j + 1) cCb (m) (by omega) rfl (tab_ok ty_ok rfl) rfl (tab_ok ty_ok rfl) rfl rfl rfl) rfl ?_
   refine RG.opS rfl (op_loadRow (j + 1) cCb (m) a e1 rfl (tab_ok ty_ok rfl) rfl rfl rfl) rfl ?_
   refine RG.opS rfl (op_indexR0 (j + 1) cCb (m) (by omega) rfl (tab_ok ty_ok rfl) rfl (tab_ok ty_ok rfl) rfl rfl rfl) rfl ?_
   refine RG.opS rfl (op_storeRow (j + 1) cCb (m) b (by omega) rfl (tab_ok ty_ok rfl) rfl rfl rfl rfl rfl (fun _ => rfl)) rfl ?_
   refine RG.opS rfl (op_indexR0 (j) cCb (m.set (j + 1) b) (by omega) rfl (tab_ok ty_ok rfl) rfl (tab_ok ty_ok rfl) rfl rfl rfl) rfl ?_
   refine RG.opS rfl (op_storeRow (j) cCb (m.set (j + 1) b) a (by rw [List.length_set]; omega) rfl (tab_ok ty_ok rfl) rfl rfl rfl rfl rfl (fun _ => rfl)) rfl ?_
   refine wH rfl ?_; skip;(repeat(first|(with_reducible first|apply wA|apply wB|apply wC|(apply wD;first|(refine wE ⟨?_,?_⟩;· kernel_rfl)|apply wE))))
   refine AW.text ?_
   refine RG.runO ty_ok 0 [(36, .i .i64 (j : Nat))] 400 rfl (by repeat' (first|exact trivial|apply And.intro|exact dT ‹_›|exact dF ‹_›|exact dN ‹_›|exact dM ‹_›|exact dI ‹_›)) ?_
   skip;(repeat(first|(with_reducible first|apply wA|apply wB|apply wC|(apply wD;first|(refine wE ⟨?_,?_⟩;· kernel_rfl)|apply wE))))
   exact ⟨(j, (m.set (j + 1) b).set j a), ⟨⟨⟨by show j ≤ k + 1; omega, by rw [List.length_set, List.length_set]; exact hm⟩, hf⟩, by show j < j + 1; omega⟩, ⟨Rn.rowIs rfl rfl rfl, Rn.is rfl rfl, Rn.is rfl rfl, Rn.fnF rfl rfl, Rn.is rfl rfl, Rn.is rfl rfl, trivial⟩, sr_end rfl rfl rfl rfl rfl rfl rfl rfl rfl⟩
  ·have h1 : ¬ wideI a b < 0 := of_decide_eq_false h1
   rw [decide_eq_false h1, cond_false] at hf
   skip;(repeat(first|(with_reducible first|apply wA|apply wB|apply wC|(apply wD;first|(refine wE ⟨?_,?_⟩;· kernel_rfl)|apply wE))|((with_reducible first|apply wF|apply wG);refine wH rfl ?_)))
   refine AW.exit ?_; refine Eq.mpr (if_pos rfl) ?_; skip;(repeat(first|(with_reducible first|apply wA|apply wB|apply wC|(apply wD;first|(refine wE ⟨?_,?_⟩;· kernel_rfl)|apply wE))|((with_reducible first|apply wF|apply wG);refine wH rfl ?_)))
   exact ⟨(k + 1, m), ⟨⟨hm, hf⟩, by show n - (k + 1) < n - k; omega⟩, ⟨Rn.rowIs rfl rfl rfl, Rn.is rfl rfl, Rn.is rfl rfl, Rn.fnF rfl rfl, Rn.is (i64_next (show k + 1 < 100000000 by omega) (by decide)) rfl, trivial⟩, sr_end rfl rfl rfl rfl rfl rfl rfl rfl rfl⟩
theorem m_stable (m0 l : List Cb) (n : Nat) (hn : n = (l.map cCb).length) (hl : n < 20) (q : Nat → Option (Nat × Nat)) : MDoes Tryz.prog 157 [.row 201 0 0 n, .i .i64 (n : Nat), .fn 119 [] []] (gl q [200, 202] (srB m0 n l)) (.tup []) (gl q [200, 202] (srB m0 n (insS l))) := by
 refine MDoes.of_body Tryz.func157 rfl (by kernel_rfl) rfl rfl ?_
 skip;(repeat(first|(with_reducible first|apply wA|apply wB|apply wC|(apply wD;first|(refine wE ⟨?_,?_⟩;· kernel_rfl)|apply wE))|((with_reducible first|apply wF|apply wG);refine wH rfl ?_)))
 refine AW.loopL (ι := Nat) (fun _ => [(0, .row 201 0 0 n), (1, .i .i64 (n : Nat)), (2, .fn 119 [] []), (6, .i .i64 20), (7, .i .i64 0), (8, .i .i64 20)]) (fun _ => gl q [200, 202] (srB m0 n l)) (fun _ => True) (fun _ => 0) 0 trivial ⟨Rn.rowIs rfl rfl rfl, Rn.is rfl rfl, Rn.fnF rfl rfl, Rn.is rfl rfl, Rn.is rfl rfl, Rn.is rfl rfl, trivial⟩ (sr_end rfl rfl rfl rfl rfl rfl rfl rfl rfl) fun _ _ => ?_
 skip;(repeat(first|(with_reducible first|apply wA|apply wB|apply wC|(apply wD;first|(refine wE ⟨?_,?_⟩;· kernel_rfl)|apply wE))|((with_reducible first|apply wF|apply wG);refine wH rfl ?_)))
 refine AW.cond rfl (fun h0 => ?_) (fun h0 => ?_)
 ·exact absurd (of_decide_eq_true h0) (by omega)
 skip;(repeat(first|(with_reducible first|apply wA|apply wB|apply wC|(apply wD;first|(refine wE ⟨?_,?_⟩;· kernel_rfl)|apply wE))|((with_reducible first|apply wF|apply wG);refine wH rfl ?_)))
 refine AW.exit ?_; refine Eq.mpr (if_pos rfl) ?_; skip;(repeat(first|(with_reducible first|apply wA|apply wB|apply wC|(apply wD;first|(refine wE ⟨?_,?_⟩;· kernel_rfl)|apply wE))|((with_reducible first|apply wF|apply wG);refine wH rfl ?_)))
 refine RG.ownN [(200, 200), (201, 201), (202, 202)] [(200, 200), (201, 201), (202, 202)] (fun q => m_insert m0 l n hn (by omega) q) rfl rfl rfl rfl rfl rfl rfl rfl rfl rfl ?_
 refine wH rfl ?_;(repeat(first|(with_reducible first|apply wA|apply wB|apply wC|(apply wD;first|(refine wE ⟨?_,?_⟩;· kernel_rfl)|apply wE))|((with_reducible first|apply wF|apply wG);refine wH rfl ?_)))
 refine AW.loopL (ι := Nat) (fun _ => [(1, .i .i64 (n : Nat)), (6, .i .i64 20)]) (fun _ => gl q [200, 202] (srB m0 n (insS l))) (fun _ => True) (fun _ => 0) 0 trivial ⟨Rn.is rfl rfl, Rn.is rfl rfl, trivial⟩ (sr_end rfl rfl rfl rfl rfl rfl rfl rfl rfl) fun _ _ => ?_
 skip;(repeat(first|(with_reducible first|apply wA|apply wB|apply wC|(apply wD;first|(refine wE ⟨?_,?_⟩;· kernel_rfl)|apply wE))|((with_reducible first|apply wF|apply wG);refine wH rfl ?_)))
 refine AW.cond rfl (fun h1 => ?_) (fun h1 => ?_)
 ·exact absurd (of_decide_eq_true h1) (by omega)
 skip;(repeat(first|(with_reducible first|apply wA|apply wB|apply wC|(apply wD;first|(refine wE ⟨?_,?_⟩;· kernel_rfl)|apply wE))|((with_reducible first|apply wF|apply wG);refine wH rfl ?_)))
 refine AW.exit ?_; refine Eq.mpr (if_pos rfl) ?_; skip;(repeat(first|(with_reducible first|apply wA|apply wB|apply wC|(apply wD;first|(refine wE ⟨?_,?_⟩;· kernel_rfl)|apply wE))|((with_reducible first|apply wF|apply wG);refine wH rfl ?_)))
 exact retM0 rfl (.inl rfl) (sr_end rfl rfl rfl rfl rfl rfl rfl rfl rfl)
def MSort (l l' : List Cb) : Prop := ∀ (m0 : List Cb) (n : Nat), n = (l.map cCb).length → ∀ q, MDoes Tryz.prog 118 [.row 201 0 0 n, .fn 119 [] []] (gl q [200, 202] (srB m0 n l)) (.tup []) (gl q [200, 202] (srB m0 n l'))
theorem sort_few (l : List Cb) (hl : l.length < 20) : MSort l (insS l) := by
 intro m0 n hn q
 have hS := m_stable m0 l n hn (by rw [hn, List.length_map]; exact hl)
 refine MDoes.of_body Tryz.func118 rfl (by kernel_rfl) rfl rfl ?_
 skip;(repeat(first|(with_reducible first|apply wA|apply wB|apply wC|(apply wD;first|(refine wE ⟨?_,?_⟩;· kernel_rfl)|apply wE))|((with_reducible first|apply wF|apply wG);refine wH rfl ?_)))
 refine RG.ownN [(200, 200), (201, 201), (202, 202)] [(200, 200), (201, 201), (202, 202)] hS rfl rfl rfl rfl rfl rfl rfl rfl rfl rfl ?_
 refine wH rfl ?_;(repeat(first|(with_reducible first|apply wA|apply wB|apply wC|(apply wD;first|(refine wE ⟨?_,?_⟩;· kernel_rfl)|apply wE))|((with_reducible first|apply wF|apply wG);refine wH rfl ?_)))
 exact retM0 rfl (.inl rfl) (sr_end rfl rfl rfl rfl rfl rfl rfl rfl rfl)
end Go.Proofs.YtahjjfhjjbgjaaaGreat.Sm
end
section
namespace Go.Proofs.YtahjjfhjjbgjaaaGreat.Sm
open Go.RowKit
def Cf.Small (c : Cf) : Prop := ∀ t ∈ c.tables, t.flatten.length ≤ 1000000000000000
theorem countT_len : ∀ (t : List (List Rl)) (n : Nat), n + t.flatten.length ≤ 4000000000000000 → countT t n = ((n + t.flatten.length : Nat) : Int)
 | [], n, _ => by simp [countT]
 | l :: t, n, h => by
  rw [List.flatten_cons, List.length_append] at h ⊢
  have e : IntKind.i64.wrap ((n : Int) + (l.length : Nat)) = ((n + l.length : Nat) : Int) := by
   rw [IntKind.wrap_i64]
   omega
  rw [countT, e, countT_len t _ (by omega)]
  congr 1
  omega
theorem flat_bound {α : Type} {m : Nat} : ∀ (l : List (List α)), (∀ x ∈ l, x.length ≤ m) → l.flatten.length ≤ m * l.length
 | [], _ => by simp
 | x :: l, h => by
  have h1 := h x List.mem_cons_self
  have h2 := flat_bound l fun y hy => h y (List.mem_cons_of_mem _ hy)
  rw [List.flatten_cons, List.length_append, List.length_cons, Nat.mul_add, Nat.mul_one]
  omega
theorem rulesOf_len {c : Cf} (h : c.Ok) (hS : c.Small) : (rulesOf c).length ≤ 576 := by
 have h0 := topoSound_ok h.topo
 have hl := h.len
 have h1 : ∀ x ∈ c.tables.map List.flatten, x.length ≤ 96 := fun x hx => by
  obtain ⟨t, ht, rfl⟩ := List.mem_map.1 hx
  obtain ⟨n, hn⟩ := List.mem_iff_getElem?.1 ht
  have := (tabSound_ok (h.tabs n t hn))
  have h3 := hS t ht
  have h2 := countT_len t 0 (by omega)
  have h4 : ((0 : Nat) : Int) = 0 := rfl
  rw [h4] at h2
  omega
 have h2 := flat_bound _ h1
 have h3 : (rulesOf c).length = (c.tables.map List.flatten).flatten.length := by
  rw [rulesOf, List.flatten_flatten]
 rw [h3]
 rw [List.length_map] at h2
 omega
theorem setsR_eq : ∀ (rs : List Rl) (l : List Cb), rs.foldl setC l = setsR l rs
 | [], l => rfl
 | r :: rs, l => by rw [List.foldl_cons, setsR_eq, setsR]; rfl
theorem addAll_len : ∀ (xs l : List Cb), (addAll l xs).length ≤ l.length + xs.length
 | [], l => Nat.le_refl _
 | x :: xs, l => by
  rw [addAll]
  have := addAll_len xs (addC l x)
  have := addC_len l x
  rw [List.length_cons]
  omega
theorem setsR_len : ∀ (rs : List Rl) (l : List Cb), (setsR l rs).length ≤ l.length + rs.length
 | [], l => Nat.le_refl _
 | r :: rs, l => by
  have h1 := setsR_len rs (setC l r)
  have h2 := setC_len l r
  rw [List.length_cons]
  show (setsR (setC l r) rs).length ≤ _
  omega
def ls7B (c : Cf) (l : List Cb) : List (Nat × SB) := (2, ⟨0, some (.box 31 (cCf c))⟩) :: (7, ⟨0, some (.box 180 [.own 200 0 0])⟩) :: lsB l
theorem ls_end7 {s : St} {c : Cf} {l : List Cb} {e e9 e8 e8' e1 e1' e2 e2' n : Nat} {els : List (List AV)} {o : Body} (h9 : s.σ 2 = ⟨e9, some (.box 31 (cCf c))⟩) (h8 : s.σ 7 = ⟨e8, some (.box 180 [.own 200 e8' 0])⟩) (h0 : s.σ 200 = ⟨e, some (.box 185 [.row 201 e1 0 n, .ref 202 e2 .map])⟩) (h1 : s.σ 201 = ⟨e1', some (.row 50 4 els)⟩) (h2 : s.σ 202 = ⟨e2', some o⟩)
  (h8e : e8' = e) (he : e1 = e1') (he2 : e2 = e2') (hn : n = (l.map cCb).length) (hel : els = l.map cCb) (ho : o = mapO l) : WkB s (lkB (ls7B c l)) (ls7B c l) := by
 subst h8e he he2 hn hel ho
 exact ⟨WkB1.same h9 rfl rfl, .boxL h8 ⟨Rn.ownIs rfl h0 rfl, trivial⟩ rfl, .boxL h0 ⟨Rn.rowIs rfl h1 rfl, Rn.refIs rfl h2 rfl, trivial⟩ rfl, .row h1 rfl, .obj h2 rfl, trivial⟩
theorem d_Sets (c : Cf) (h0 : c.sound = 0) (hS : c.Small) (V : Nat) (hV : V ≤ 255) : PDoes Tryz.prog 112 [.agg (cCf c), .i .i64 (V : Nat)] (.tup [.sl ((setsOf c V).map cCb), .i .i64 0]) := by
  have hc := Cf.ok h0
  have hE := edges_len hc.topo
  have hR := rulesOf_len hc hS
  refine PDoes.of_bodyN Tryz.func112 rfl (by kernel_rfl) rfl rfl ?_
  have hm : (edges c.topo.ports).length ≤ 9223372036854775807 := by omega
  have hCS := d_CSound c
  rw [h0] at hCS
  skip;(repeat(first|(with_reducible first|apply wA|apply wB|apply wC|(apply wD;first|(refine wE ⟨?_,?_⟩;· kernel_rfl)|apply wE))|((with_reducible first|apply wF|apply wG);refine wH rfl ?_)))
  refine RG.callS rfl rfl rfl rfl rfl hCS rfl rfl ?_; refine wH rfl ?_;(repeat(first|(with_reducible first|apply wA|apply wB|apply wC|(apply wD;first|(refine wE ⟨?_,?_⟩;· kernel_rfl)|apply wE))|((with_reducible first|apply wF|apply wG);refine wH rfl ?_)))
  refine AW.condF rfl ?_; skip;(repeat(first|(with_reducible first|apply wA|apply wB|apply wC|(apply wD;first|(refine wE ⟨?_,?_⟩;· kernel_rfl)|apply wE))))
  refine AW.text ?_
  have g1 : ¬ ((V : Nat) : Int) < 0 := by omega
  have g2 : ¬ ((V : Nat) : Int) > 255 := by omega
  refine RG.runO ty_ok 0 [(18, .b false), (21, .b false)] 400 rfl (by repeat' (first|exact trivial|apply And.intro|exact dT ‹_›|exact dF ‹_›|exact dN ‹_›|exact dM ‹_›|exact dI ‹_›)) ?_
  skip;(repeat(first|(with_reducible first|apply wA|apply wB|apply wC|(apply wD;first|(refine wE ⟨?_,?_⟩;· kernel_rfl)|apply wE))))
  refine AW.condF rfl ?_; skip;(repeat(first|(with_reducible first|apply wA|apply wB|apply wC|(apply wD;first|(refine wE ⟨?_,?_⟩;· kernel_rfl)|apply wE))|((with_reducible first|apply wF|apply wG);refine wH rfl ?_)))
  refine RG.ownN [] [(3, 200), (1, 202), (9, 201)] m_fresh rfl rfl rfl rfl rfl rfl rfl rfl rfl rfl ?_
  refine wH rfl ?_;(repeat(first|(with_reducible first|apply wA|apply wB|apply wC|(apply wD;first|(refine wE ⟨?_,?_⟩;· kernel_rfl)|apply wE))|((with_reducible first|apply wF|apply wG);refine wH rfl ?_)))
  refine RG.callMS rfl rfl rfl rfl rfl rfl (d_Edges c.topo.ports hc.topo) rfl ?_; refine wH rfl ?_;(repeat(first|(with_reducible first|apply wA|apply wB|apply wC|(apply wD;first|(refine wE ⟨?_,?_⟩;· kernel_rfl)|apply wE))|((with_reducible first|apply wF|apply wG);refine wH rfl ?_)))
  generalize hA : addAll [] ((edges c.topo.ports).map fun s => stampOf c s V) = A
  have hG : setsR A (rulesOf c) = setsOf c V := by rw [setsOf, hA]
  have hAl : A.length ≤ 36 := by
    rw [← hA]
    have := addAll_len ((edges c.topo.ports).map fun s => stampOf c s V) []
    rw [List.length_map] at this
    simp at this
    omega
  have hst : ∀ s ∈ edges c.topo.ports, PDoes Tryz.prog 85 [.agg (cCf c), .agg (cSp s), .i .i64 (V : Nat)] (.tup [.agg (cCb (stampOf c s V)), .i .i64 0]) := fun s hs => by
    have h := d_CStamp c s V
    have e : stampE c s V = 0 := by rw [stampE, if_pos h0, if_neg (by omega), if_pos hs]
    rw [stampC, if_pos e, e] at h
    exact h
  refine AW.loopL (ι := Nat × List Cb) (fun i => [(1, .i .i64 (V : Nat)), (2, .own 2 0 0), (7, .own 7 0 0), (27, .sl ((edges c.topo.ports).map cSp)), (28, .i .i64 ((edges c.topo.ports).map cSp).length), (29, .i .i64 (i.1 : Nat))]) (fun i => ls7B c i.2) (fun i => (i.1 ≤ (edges c.topo.ports).length ∧ i.2.length ≤ i.1) ∧ addAll i.2 (((edges c.topo.ports).drop i.1).map fun s => stampOf c s V) = A) (fun i => (edges c.topo.ports).length - i.1) (0, []) ⟨⟨Nat.zero_le _, Nat.zero_le _⟩, hA⟩ ⟨Rn.is rfl rfl, Rn.ownIs rfl rfl rfl, Rn.ownIs rfl rfl rfl, Rn.is rfl rfl, Rn.is rfl rfl, Rn.is rfl rfl, trivial⟩ (ls_end7 rfl rfl rfl rfl rfl rfl rfl rfl rfl rfl rfl) fun i hi => ?_
  clear hA
  obtain ⟨k, l⟩ := i
  obtain ⟨⟨hk, hl⟩, hf⟩ := hi
  simp only at hk hl hf
  skip;(repeat(first|(with_reducible first|apply wA|apply wB|apply wC|(apply wD;first|(refine wE ⟨?_,?_⟩;· kernel_rfl)|apply wE))|((with_reducible first|apply wF|apply wG);refine wH rfl ?_)))
  refine AW.cond rfl (fun h1 => ?_) (fun h1 => ?_)
  rotate_left
  · have h : ¬ k < (edges c.topo.ports).length := by simpa using h1
    obtain rfl : k = (edges c.topo.ports).length := by omega
    rw [List.drop_length] at hf
    obtain rfl : l = A := hf
    have hsl := setsR_len (rulesOf c) l
    skip;(repeat(first|(with_reducible first|apply wA|apply wB|apply wC|(apply wD;first|(refine wE ⟨?_,?_⟩;· kernel_rfl)|apply wE))|((with_reducible first|apply wF|apply wG);refine wH rfl ?_)))
    refine AW.exit ?_; refine Eq.mpr (if_pos rfl) ?_; skip;(repeat(first|(with_reducible first|apply wA|apply wB|apply wC|(apply wD;first|(refine wE ⟨?_,?_⟩;· kernel_rfl)|apply wE))|((with_reducible first|apply wF|apply wG);refine wH rfl ?_)))
    refine RG.ownN [(200, 200), (201, 201), (202, 202)] [(200, 200), (201, 201), (202, 202)] (fun q => m_rules 154 setC setC_len m_set c l (by omega) q) rfl rfl rfl rfl rfl rfl rfl rfl rfl rfl ?_
    rw [setsR_eq, hG]
    refine wH rfl ?_;(repeat(first|(with_reducible first|apply wA|apply wB|apply wC|(apply wD;first|(refine wE ⟨?_,?_⟩;· kernel_rfl)|apply wE))|((with_reducible first|apply wF|apply wG);refine wH rfl ?_)))
    refine RG.callMS rfl rfl rfl rfl (congrArg (fun x => [x]) (rowAll rfl)) rfl (d_Clip_Cb (setsOf c V)) rfl ?_; refine wH rfl ?_;(repeat(first|(with_reducible first|apply wA|apply wB|apply wC|(apply wD;first|(refine wE ⟨?_,?_⟩;· kernel_rfl)|apply wE))|((with_reducible first|apply wF|apply wG);refine wH rfl ?_)))
    refine AW.ret (retQA ty_ok rfl rfl rfl ?_)
    rfl
  have h : k < (edges c.topo.ports).length := by simpa using h1
  rw [List.drop_eq_getElem_cons h, List.map_cons, addAll] at hf
  have hs := hst _ (List.getElem_mem h)
  skip;(repeat(first|(with_reducible first|apply wA|apply wB|apply wC|(apply wD;first|(refine wE ⟨?_,?_⟩;· kernel_rfl)|apply wE))))
  refine AW.text ?_
  refine RG.opS rfl (op_index rfl (tab_ok ty_ok rfl) rfl (tab_ok ty_ok rfl) rfl rfl (show ((edges c.topo.ports).map cSp)[k]? = some (cSp (edges c.topo.ports)[k]) by rw [List.getElem?_map, List.getElem?_eq_getElem (by assumption)]; rfl) rfl) rfl ?_
  generalize (edges c.topo.ports)[k] = s at hf hs
  refine wH rfl ?_;(repeat(first|(with_reducible first|apply wA|apply wB|apply wC|(apply wD;first|(refine wE ⟨?_,?_⟩;· kernel_rfl)|apply wE))|((with_reducible first|apply wF|apply wG);refine wH rfl ?_)))
  refine RG.callMS rfl rfl rfl rfl rfl rfl hs rfl ?_; refine wH rfl ?_;(repeat(first|(with_reducible first|apply wA|apply wB|apply wC|(apply wD;first|(refine wE ⟨?_,?_⟩;· kernel_rfl)|apply wE))|((with_reducible first|apply wF|apply wG);refine wH rfl ?_)))
  refine AW.condF rfl ?_; skip;(repeat(first|(with_reducible first|apply wA|apply wB|apply wC|(apply wD;first|(refine wE ⟨?_,?_⟩;· kernel_rfl)|apply wE))|((with_reducible first|apply wF|apply wG);refine wH rfl ?_)))
  refine RG.ownN [(200, 200), (201, 201), (202, 202)] [(200, 200), (201, 201), (202, 202)] (fun q => m_add l (stampOf c s V) (by omega) q) rfl rfl rfl rfl rfl rfl rfl rfl rfl rfl ?_
  refine wH rfl ?_;(repeat(first|(with_reducible first|apply wA|apply wB|apply wC|(apply wD;first|(refine wE ⟨?_,?_⟩;· kernel_rfl)|apply wE))|((with_reducible first|apply wF|apply wG);refine wH rfl ?_)))
  have hal := addC_len l (stampOf c s V)
  exact ⟨(k + 1, addC l (stampOf c s V)), ⟨⟨⟨h, by show (addC l (stampOf c s V)).length ≤ k + 1; omega⟩, hf⟩, by show (edges c.topo.ports).length - (k + 1) < (edges c.topo.ports).length - k; omega⟩, ⟨Rn.is rfl rfl, Rn.ownIs rfl rfl rfl, Rn.ownIs rfl rfl rfl, Rn.is rfl rfl, Rn.is rfl rfl, Rn.is (i64_next h hm) rfl, trivial⟩, (ls_end7 rfl rfl rfl rfl rfl rfl rfl rfl rfl rfl rfl)⟩
end Go.Proofs.YtahjjfhjjbgjaaaGreat.Sm
end
section
namespace Go.Proofs.YtahjjfhjjbgjaaaGreat.Sm
open Go.RowKit
def matC (l : List Cb) (r : Rl) : List Cb := addC l r.mat
theorem matC_eq : ∀ (rs : List Rl) (l : List Cb), rs.foldl matC l = addAll l (rs.map Rl.mat)
 | [], l => rfl
 | r :: rs, l => by rw [List.foldl_cons, matC_eq, List.map_cons, addAll]; rfl
theorem addC_get {l : List Cb} {x p : Cb} {n : Nat} (h : l[n]? = some p) : (addC l x)[n]? = some p := by
 obtain ⟨m, hm⟩ := addC_pre (l := l) (x := x)
 rw [hm, List.getElem?_append_left (List.getElem?_eq_some_iff.1 h).1]
 exact h
def ls8B (l : List Cb) : List (Nat × SB) := (8, ⟨0, some (.box 180 [.own 200 0 0])⟩) :: lsB l
theorem ls_end8 {s : St} {l : List Cb} {e e8 e8' e1 e1' e2 e2' n : Nat} {els : List (List AV)} {o : Body} (h8 : s.σ 8 = ⟨e8, some (.box 180 [.own 200 e8' 0])⟩) (h0 : s.σ 200 = ⟨e, some (.box 185 [.row 201 e1 0 n, .ref 202 e2 .map])⟩) (h1 : s.σ 201 = ⟨e1', some (.row 50 4 els)⟩) (h2 : s.σ 202 = ⟨e2', some o⟩)
  (h8e : e8' = e) (he : e1 = e1') (he2 : e2 = e2') (hn : n = (l.map cCb).length) (hel : els = l.map cCb) (ho : o = mapO l) : WkB s (lkB (ls8B l)) (ls8B l) := by
 subst h8e he he2 hn hel ho
 exact ⟨.boxL h8 ⟨Rn.ownIs rfl h0 rfl, trivial⟩ rfl, .boxL h0 ⟨Rn.rowIs rfl h1 rfl, Rn.refIs rfl h2 rfl, trivial⟩ rfl, .row h1 rfl, .obj h2 rfl, trivial⟩
def ofR (a : List Cb) (l' : List Cb) : AV := bif decide (a.length > 500) then .tup [.sl [], .i .i64 10] else .tup [.sl (l'.map cCb), .i .i64 0]
theorem d_Of (c : Cf) (h0 : c.sound = 0) (hS : c.Small) (V : Nat) (hV : V ≤ 255) (l' : List Cb) (hP : l'.Perm (askedOf c V)) (hM : (askedOf c V).length ≤ 500 → MSort (askedOf c V) l') : PDoes Tryz.prog 72 [.agg (cCf c), .i .i64 (V : Nat)] (ofR (askedOf c V) l') := by
  have hc := Cf.ok h0
  have hE := edges_len hc.topo
  have hR := rulesOf_len hc hS
  have hsl : (setsOf c V).length ≤ 700 := by
    rw [setsOf]
    have h1 := setsR_len (rulesOf c) (addAll [] ((edges c.topo.ports).map fun s => stampOf c s V))
    have h2 := addAll_len ((edges c.topo.ports).map fun s => stampOf c s V) []
    rw [List.length_map, List.length_nil] at h2
    omega
  have hal := addAll_len ((rulesOf c).map Rl.mat) []
  rw [List.length_map, List.length_nil] at hal
  have hms := d_Sets c h0 hS V hV
  rw [askedOf] at hP hM ⊢
  refine PDoes.of_bodyN Tryz.func72 rfl (by kernel_rfl) rfl rfl ?_
  generalize setsOf c V = sets at hP hM hsl hms ⊢
  have hm : sets.length ≤ 9223372036854775807 := by omega
  generalize hA : closeF sets 501 0 (addAll [] ((rulesOf c).map Rl.mat)) = A at hP hM ⊢
  skip;(repeat(first|(with_reducible first|apply wA|apply wB|apply wC|(apply wD;first|(refine wE ⟨?_,?_⟩;· kernel_rfl)|apply wE))|((with_reducible first|apply wF|apply wG);refine wH rfl ?_)))
  refine RG.callMS rfl rfl rfl rfl rfl rfl hms rfl ?_; refine wH rfl ?_;(repeat(first|(with_reducible first|apply wA|apply wB|apply wC|(apply wD;first|(refine wE ⟨?_,?_⟩;· kernel_rfl)|apply wE))|((with_reducible first|apply wF|apply wG);refine wH rfl ?_)))
  refine AW.condF rfl ?_; skip;(repeat(first|(with_reducible first|apply wA|apply wB|apply wC|(apply wD;first|(refine wE ⟨?_,?_⟩;· kernel_rfl)|apply wE))|((with_reducible first|apply wF|apply wG);refine wH rfl ?_)))
  refine RG.ownN [] [(3, 200), (1, 202), (9, 201)] m_fresh rfl rfl rfl rfl rfl rfl rfl rfl rfl rfl ?_
  refine wH rfl ?_;(repeat(first|(with_reducible first|apply wA|apply wB|apply wC|(apply wD;first|(refine wE ⟨?_,?_⟩;· kernel_rfl)|apply wE))|((with_reducible first|apply wF|apply wG);refine wH rfl ?_)))
  refine RG.ownN [(200, 200), (201, 201), (202, 202)] [(200, 200), (201, 201), (202, 202)] (fun q => m_rules 115 matC (fun l r => addC_len l r.mat) m_match c [] (by simp; omega) q) rfl rfl rfl rfl rfl rfl rfl rfl rfl rfl ?_
  rw [matC_eq]
  generalize addAll [] ((rulesOf c).map Rl.mat) = all at hA hal
  refine wH rfl ?_;(repeat(first|(with_reducible first|apply wA|apply wB|apply wC|(apply wD;first|(refine wE ⟨?_,?_⟩;· kernel_rfl)|apply wE))|((with_reducible first|apply wF|apply wG);refine wH rfl ?_)))
  refine AW.loopL (ι := Nat × List Cb) (fun i => [(6, .sl (sets.map cCb)), (8, .own 8 0 0), (9, .i .i64 (i.1 : Nat))]) (fun i => ls8B i.2) (fun i => (i.1 ≤ 501 ∧ i.2.length ≤ 2000) ∧ closeF sets (501 - i.1) i.1 i.2 = A) (fun i => 501 - i.1) (0, all) ⟨⟨Nat.zero_le _, by show all.length ≤ 2000; omega⟩, hA⟩ ⟨Rn.is rfl rfl, Rn.ownIs rfl rfl rfl, Rn.is rfl rfl, trivial⟩ (ls_end8 rfl rfl rfl rfl rfl rfl rfl rfl rfl rfl) fun i hi => ?_
  clear hA hal all
  obtain ⟨n, all⟩ := i
  obtain ⟨⟨hn, hl⟩, hf⟩ := hi
  simp only at hn hl hf
  have hlm : (all.map cCb).length = all.length := List.length_map ..
  skip;(repeat(first|(with_reducible first|apply wA|apply wB|apply wC|(apply wD;first|(refine wE ⟨?_,?_⟩;· kernel_rfl)|apply wE))))
  refine AW.text ?_
  by_cases g1 : ((n : Nat) : Int) < ((all.map cCb).length : Nat)
  · by_cases g2 : (((all.map cCb).length : Nat) : Int) ≤ 500
    · refine RG.runO ty_ok 0 [(36, .b true), (44, .b true)] 400 rfl (by repeat' (first|exact trivial|apply And.intro|exact dT ‹_›|exact dF ‹_›|exact dN ‹_›|exact dM ‹_›|exact dI ‹_›)) ?_
      have hn5 : n < 500 := by omega
      have e1 : all[n]? = some (all.getD n Cb.zero) := by rw [getD_eq (by omega)]; exact List.getElem?_eq_getElem _
      rw [show 501 - n = (501 - (n + 1)) + 1 by omega, closeF, decide_eq_true (show n < all.length by omega), decide_eq_true (show all.length ≤ 500 by omega), Bool.and_self, cond_true] at hf
      have hl5 : all.length ≤ 500 := by omega
      generalize all.getD n Cb.zero = p at hf e1
      skip;(repeat(first|(with_reducible first|apply wA|apply wB|apply wC|(apply wD;first|(refine wE ⟨?_,?_⟩;· kernel_rfl)|apply wE))))
      refine AW.condT rfl ?_; skip;(repeat(first|(with_reducible first|apply wA|apply wB|apply wC|(apply wD;first|(refine wE ⟨?_,?_⟩;· kernel_rfl)|apply wE))|((with_reducible first|apply wF|apply wG);refine wH rfl ?_)))
      refine AW.loopL (ι := Nat × List Cb) (fun i => [(6, .sl (sets.map cCb)), (8, .own 8 0 0), (9, .i .i64 (n : Nat)), (48, .sl (sets.map cCb)), (49, .i .i64 (sets.map cCb).length), (50, .i .i64 (i.1 : Nat))]) (fun i => ls8B i.2) (fun i => (i.1 ≤ sets.length ∧ i.2.length ≤ 500 + i.1 ∧ i.2[n]? = some p) ∧ closeF sets (501 - (n + 1)) (n + 1) (closeRow p (sets.drop i.1) i.2) = A) (fun i => sets.length - i.1) (0, all) ⟨⟨Nat.zero_le _, hl5, e1⟩, hf⟩ ⟨Rn.is rfl rfl, Rn.ownIs rfl rfl rfl, Rn.is rfl rfl, Rn.is rfl rfl, Rn.is rfl rfl, Rn.is rfl rfl, trivial⟩ (ls_end8 rfl rfl rfl rfl rfl rfl rfl rfl rfl rfl) fun i hi => ?_
      clear hf e1 hl5
      obtain ⟨k, out⟩ := i
      obtain ⟨⟨hk, hl2, e1⟩, hf⟩ := hi
      simp only at hk hl2 e1 hf
      have hno := (List.getElem?_eq_some_iff.1 e1).1
      skip;(repeat(first|(with_reducible first|apply wA|apply wB|apply wC|(apply wD;first|(refine wE ⟨?_,?_⟩;· kernel_rfl)|apply wE))|((with_reducible first|apply wF|apply wG);refine wH rfl ?_)))
      refine AW.cond rfl (fun h3 => ?_) (fun h3 => ?_)
      rotate_left
      · have h : ¬ k < sets.length := by simpa using h3
        obtain rfl : k = sets.length := by omega
        rw [List.drop_length, closeRow] at hf
        skip;(repeat(first|(with_reducible first|apply wA|apply wB|apply wC|(apply wD;first|(refine wE ⟨?_,?_⟩;· kernel_rfl)|apply wE))|((with_reducible first|apply wF|apply wG);refine wH rfl ?_)))
        refine AW.exit ?_; refine Eq.mpr (if_pos rfl) ?_; skip;(repeat(first|(with_reducible first|apply wA|apply wB|apply wC|(apply wD;first|(refine wE ⟨?_,?_⟩;· kernel_rfl)|apply wE))|((with_reducible first|apply wF|apply wG);refine wH rfl ?_)))
        exact ⟨(n + 1, out), ⟨⟨⟨by show n + 1 ≤ 501; omega, by show out.length ≤ 2000; omega⟩, hf⟩, by show 501 - (n + 1) < 501 - n; omega⟩, ⟨Rn.is rfl rfl, Rn.ownIs rfl rfl rfl, Rn.is (i64_next (show n < 1000 by omega) (by decide)) rfl, trivial⟩, ls_end8 rfl rfl rfl rfl rfl rfl rfl rfl rfl rfl⟩
      have h : k < sets.length := by simpa using h3
      rw [List.drop_eq_getElem_cons h, closeRow] at hf
      skip;(repeat(first|(with_reducible first|apply wA|apply wB|apply wC|(apply wD;first|(refine wE ⟨?_,?_⟩;· kernel_rfl)|apply wE))))
      refine AW.text ?_
      refine RG.opS rfl (op_index rfl (tab_ok ty_ok rfl) rfl (tab_ok ty_ok rfl) rfl rfl (show (sets.map cCb)[k]? = some (cCb sets[k]) by rw [List.getElem?_map, List.getElem?_eq_getElem (by assumption)]; rfl) rfl) rfl ?_
      generalize sets[k] = s at hf
      refine wH rfl ?_;(repeat(first|(with_reducible first|apply wA|apply wB|apply wC|(apply wD;first|(refine wE ⟨?_,?_⟩;· kernel_rfl)|apply wE))|((with_reducible first|apply wF|apply wG);refine wH rfl ?_)))
      refine RG.opS rfl (op_indexR0 (n) cCb (out) (by rw [List.length_map]; exact hno) rfl (tab_ok ty_ok rfl) rfl (tab_ok ty_ok rfl) rfl rfl rfl) rfl ?_
      refine RG.opS rfl (op_loadRow (n) cCb (out) p e1 rfl (tab_ok ty_ok rfl) rfl rfl rfl) rfl ?_
      refine wH rfl ?_
      cases hh : p.hits s
      · rw [hh, cond_false] at hf
        refine RG.callS rfl rfl rfl rfl rfl (d_Before p s _ hh) rfl rfl ?_; refine wH rfl ?_;(repeat(first|(with_reducible first|apply wA|apply wB|apply wC|(apply wD;first|(refine wE ⟨?_,?_⟩;· kernel_rfl)|apply wE))|((with_reducible first|apply wF|apply wG);refine wH rfl ?_)))
        refine AW.condF rfl ?_; skip;(repeat(first|(with_reducible first|apply wA|apply wB|apply wC|(apply wD;first|(refine wE ⟨?_,?_⟩;· kernel_rfl)|apply wE))|((with_reducible first|apply wF|apply wG);refine wH rfl ?_)))
        exact ⟨(k + 1, out), ⟨⟨⟨h, by show out.length ≤ 500 + (k + 1); omega, e1⟩, hf⟩, by show sets.length - (k + 1) < sets.length - k; omega⟩, ⟨Rn.is rfl rfl, Rn.ownIs rfl rfl rfl, Rn.is rfl rfl, Rn.is rfl rfl, Rn.is rfl rfl, Rn.is (i64_next h hm) rfl, trivial⟩, ls_end8 rfl rfl rfl rfl rfl rfl rfl rfl rfl rfl⟩
      · rw [hh, cond_true] at hf
        have ha := addC_len out (p.before s)
        refine RG.callS rfl rfl rfl rfl rfl (d_Before p s _ hh) rfl rfl ?_; refine wH rfl ?_;(repeat(first|(with_reducible first|apply wA|apply wB|apply wC|(apply wD;first|(refine wE ⟨?_,?_⟩;· kernel_rfl)|apply wE))|((with_reducible first|apply wF|apply wG);refine wH rfl ?_)))
        refine AW.condT rfl ?_; skip;(repeat(first|(with_reducible first|apply wA|apply wB|apply wC|(apply wD;first|(refine wE ⟨?_,?_⟩;· kernel_rfl)|apply wE))|((with_reducible first|apply wF|apply wG);refine wH rfl ?_)))
        refine RG.ownN [(200, 200), (201, 201), (202, 202)] [(200, 200), (201, 201), (202, 202)] (fun q => m_add out (p.before s) (by omega) q) rfl rfl rfl rfl rfl rfl rfl rfl rfl rfl ?_
        refine wH rfl ?_;(repeat(first|(with_reducible first|apply wA|apply wB|apply wC|(apply wD;first|(refine wE ⟨?_,?_⟩;· kernel_rfl)|apply wE))|((with_reducible first|apply wF|apply wG);refine wH rfl ?_)))
        exact ⟨(k + 1, addC out (p.before s)), ⟨⟨⟨h, by show (addC out (p.before s)).length ≤ 500 + (k + 1); omega, addC_get e1⟩, hf⟩, by show sets.length - (k + 1) < sets.length - k; omega⟩, ⟨Rn.is rfl rfl, Rn.ownIs rfl rfl rfl, Rn.is rfl rfl, Rn.is rfl rfl, Rn.is rfl rfl, Rn.is (i64_next h hm) rfl, trivial⟩, ls_end8 rfl rfl rfl rfl rfl rfl rfl rfl rfl rfl⟩
    · refine RG.runO ty_ok 0 [(36, .b true), (44, .b false)] 400 rfl (by repeat' (first|exact trivial|apply And.intro|exact dT ‹_›|exact dF ‹_›|exact dN ‹_›|exact dM ‹_›|exact dI ‹_›)) ?_
      have e : all = A := by
        by_cases hz : 501 - n = 0
        · rw [hz, closeF] at hf; exact hf
        · rw [show 501 - n = (501 - n - 1) + 1 by omega, closeF] at hf
          have : (decide (n < all.length) && decide (all.length ≤ 500)) = false := by
            rw [Bool.and_eq_false_iff]
            simp only [decide_eq_false_iff_not]
            omega
          rw [this] at hf
          exact hf
      subst e
      clear hf
      skip;(repeat(first|(with_reducible first|apply wA|apply wB|apply wC|(apply wD;first|(refine wE ⟨?_,?_⟩;· kernel_rfl)|apply wE))))
      refine AW.condF rfl ?_; skip;(repeat(first|(with_reducible first|apply wA|apply wB|apply wC|(apply wD;first|(refine wE ⟨?_,?_⟩;· kernel_rfl)|apply wE))|((with_reducible first|apply wF|apply wG);refine wH rfl ?_)))
      refine AW.exit ?_; refine Eq.mpr (if_pos rfl) ?_; skip;(repeat(first|(with_reducible first|apply wA|apply wB|apply wC|(apply wD;first|(refine wE ⟨?_,?_⟩;· kernel_rfl)|apply wE))|((with_reducible first|apply wF|apply wG);refine wH rfl ?_)))
      refine AW.cond rfl (fun h3 => ?_) (fun h3 => ?_)
      · have h3 : (((all.map cCb).length : Nat) : Int) > 500 := of_decide_eq_true h3
        have e : ofR all l' = .tup [.sl [], .i .i64 10] := by rw [ofR, decide_eq_true (by omega)]; rfl
        rw [e]
        skip;(repeat(first|(with_reducible first|apply wA|apply wB|apply wC|(apply wD;first|(refine wE ⟨?_,?_⟩;· kernel_rfl)|apply wE))|((with_reducible first|apply wF|apply wG);refine wH rfl ?_)))
        refine AW.ret (retQA ty_ok rfl rfl rfl ?_)
        rfl
      · have h3 : ¬ (((all.map cCb).length : Nat) : Int) > 500 := of_decide_eq_false h3
        have hl' := hP.length_eq
        have e : ofR all l' = .tup [.sl (l'.map cCb), .i .i64 0] := by rw [ofR, decide_eq_false (by omega)]; rfl
        rw [e]
        skip;(repeat(first|(with_reducible first|apply wA|apply wB|apply wC|(apply wD;first|(refine wE ⟨?_,?_⟩;· kernel_rfl)|apply wE))|((with_reducible first|apply wF|apply wG);refine wH rfl ?_)))
        refine RG.ownN [(200, 200), (201, 201), (202, 202)] [(200, 200), (201, 201), (202, 202)] (fun q => hM (by omega) all _ rfl q) rfl rfl rfl rfl rfl rfl rfl rfl rfl rfl ?_
        refine wH rfl ?_;(repeat(first|(with_reducible first|apply wA|apply wB|apply wC|(apply wD;first|(refine wE ⟨?_,?_⟩;· kernel_rfl)|apply wE))|((with_reducible first|apply wF|apply wG);refine wH rfl ?_)))
        refine RG.callMS rfl rfl rfl rfl (congrArg (fun x => [x]) (show AV.sl (List.take (all.map cCb).length (List.drop 0 (l'.map cCb))) = .sl (l'.map cCb) by rw [List.drop_zero, List.take_of_length_le (by rw [List.length_map, List.length_map]; omega)])) rfl (d_Clip_Cb l') rfl ?_; refine wH rfl ?_;(repeat(first|(with_reducible first|apply wA|apply wB|apply wC|(apply wD;first|(refine wE ⟨?_,?_⟩;· kernel_rfl)|apply wE))|((with_reducible first|apply wF|apply wG);refine wH rfl ?_)))
        refine AW.ret (retQA ty_ok rfl rfl rfl ?_)
        rfl
  · refine RG.runO ty_ok 0 [(36, .b false)] 400 rfl (by repeat' (first|exact trivial|apply And.intro|exact dT ‹_›|exact dF ‹_›|exact dN ‹_›|exact dM ‹_›|exact dI ‹_›)) ?_
    have e : all = A := by
      by_cases hz : 501 - n = 0
      · rw [hz, closeF] at hf; exact hf
      · rw [show 501 - n = (501 - n - 1) + 1 by omega, closeF] at hf
        have : (decide (n < all.length) && decide (all.length ≤ 500)) = false := by
          rw [Bool.and_eq_false_iff]
          simp only [decide_eq_false_iff_not]
          omega
        rw [this] at hf
        exact hf
    subst e
    clear hf
    skip;(repeat(first|(with_reducible first|apply wA|apply wB|apply wC|(apply wD;first|(refine wE ⟨?_,?_⟩;· kernel_rfl)|apply wE))))
    refine AW.condF rfl ?_; skip;(repeat(first|(with_reducible first|apply wA|apply wB|apply wC|(apply wD;first|(refine wE ⟨?_,?_⟩;· kernel_rfl)|apply wE))|((with_reducible first|apply wF|apply wG);refine wH rfl ?_)))
    refine AW.exit ?_; refine Eq.mpr (if_pos rfl) ?_; skip;(repeat(first|(with_reducible first|apply wA|apply wB|apply wC|(apply wD;first|(refine wE ⟨?_,?_⟩;· kernel_rfl)|apply wE))|((with_reducible first|apply wF|apply wG);refine wH rfl ?_)))
    refine AW.cond rfl (fun h3 => ?_) (fun h3 => ?_)
    · have h3 : (((all.map cCb).length : Nat) : Int) > 500 := of_decide_eq_true h3
      have e : ofR all l' = .tup [.sl [], .i .i64 10] := by rw [ofR, decide_eq_true (by omega)]; rfl
      rw [e]
      skip;(repeat(first|(with_reducible first|apply wA|apply wB|apply wC|(apply wD;first|(refine wE ⟨?_,?_⟩;· kernel_rfl)|apply wE))|((with_reducible first|apply wF|apply wG);refine wH rfl ?_)))
      refine AW.ret (retQA ty_ok rfl rfl rfl ?_)
      rfl
    · have h3 : ¬ (((all.map cCb).length : Nat) : Int) > 500 := of_decide_eq_false h3
      have hl' := hP.length_eq
      have e : ofR all l' = .tup [.sl (l'.map cCb), .i .i64 0] := by rw [ofR, decide_eq_false (by omega)]; rfl
      rw [e]
      skip;(repeat(first|(with_reducible first|apply wA|apply wB|apply wC|(apply wD;first|(refine wE ⟨?_,?_⟩;· kernel_rfl)|apply wE))|((with_reducible first|apply wF|apply wG);refine wH rfl ?_)))
      refine RG.ownN [(200, 200), (201, 201), (202, 202)] [(200, 200), (201, 201), (202, 202)] (fun q => hM (by omega) all _ rfl q) rfl rfl rfl rfl rfl rfl rfl rfl rfl rfl ?_
      refine wH rfl ?_;(repeat(first|(with_reducible first|apply wA|apply wB|apply wC|(apply wD;first|(refine wE ⟨?_,?_⟩;· kernel_rfl)|apply wE))|((with_reducible first|apply wF|apply wG);refine wH rfl ?_)))
      refine RG.callMS rfl rfl rfl rfl (congrArg (fun x => [x]) (show AV.sl (List.take (all.map cCb).length (List.drop 0 (l'.map cCb))) = .sl (l'.map cCb) by rw [List.drop_zero, List.take_of_length_le (by rw [List.length_map, List.length_map]; omega)])) rfl (d_Clip_Cb l') rfl ?_; refine wH rfl ?_;(repeat(first|(with_reducible first|apply wA|apply wB|apply wC|(apply wD;first|(refine wE ⟨?_,?_⟩;· kernel_rfl)|apply wE))|((with_reducible first|apply wF|apply wG);refine wH rfl ?_)))
      refine AW.ret (retQA ty_ok rfl rfl rfl ?_)
      rfl
end Go.Proofs.YtahjjfhjjbgjaaaGreat.Sm
end
section
namespace Go.Proofs.YtahjjfhjjbgjaaaGreat.Sm
open Go.RowKit
theorem d_jtenant (c : Cf) (ht : topoSound c.topo.ports = 0) (s : Sp) : PDoes Tryz.prog 65 [.agg (cCf c), .agg (cSp s)] (.i .i64 (edgeOf c.topo.ports s)) := by
 refine PDoes.of_bodyN Tryz.func65 rfl (by kernel_rfl) rfl rfl ?_
 by_cases hs : s ∈ edges c.topo.ports
 ·obtain ⟨n, r, a, p, hr, hp, hk, rfl⟩ := edges_mem.1 hs
  have e : edgeOf c.topo.ports ⟨n, a⟩ = p.tenant := by
   have h1 : (c.topo.ports.getD n []) = r := by rw [List.getD_eq_getElem?_getD, hr]; rfl
   have h2 : r.getD a Pt.zero = p := by rw [List.getD_eq_getElem?_getD, hp]; rfl
   have h3 : portAt c.topo.ports ⟨n, a⟩ = p := by rw [portAt]; simp only [Int.toNat_natCast]; rw [h1, h2]
   have h4 : spotIn c.topo.ports ⟨n, a⟩ = true := by
    simp only [spotIn, Bool.and_eq_true, decide_eq_true_eq, Int.toNat_natCast, h1]
    exact ⟨by omega, Int.ofNat_lt.2 (List.getElem?_eq_some_iff.1 hr).1, by omega, Int.ofNat_lt.2 (List.getElem?_eq_some_iff.1 hp).1⟩
   rw [edgeOf, h4, h3, decide_eq_true hk]
   rfl
  rw [e]
  have hrx : (c.topo.ports.map cPts)[n]? = some (cPts r) := by rw [List.getElem?_map, hr]; rfl
  have hpx : (r.map cPt)[a]? = some (cPt p) := by rw [List.getElem?_map, hp]; rfl
  skip;(repeat(first|(with_reducible first|apply wA|apply wB|apply wC|(apply wD;first|(refine wE ⟨?_,?_⟩;· kernel_rfl)|apply wE))|((with_reducible first|apply wF|apply wG);refine wH rfl ?_)))
  refine RG.callMS rfl rfl rfl rfl rfl rfl (d_Edges c.topo.ports ht) rfl ?_
  refine wH rfl ?_
  refine RG.callS rfl rfl rfl rfl rfl (d_Contains_Sp _ _ true (decide_eq_true hs)) rfl rfl ?_; refine wH rfl ?_;(repeat(first|(with_reducible first|apply wA|apply wB|apply wC|(apply wD;first|(refine wE ⟨?_,?_⟩;· kernel_rfl)|apply wE))|((with_reducible first|apply wF|apply wG);refine wH rfl ?_)))
  refine AW.condF rfl ?_; skip;(repeat(first|(with_reducible first|apply wA|apply wB|apply wC|(apply wD;first|(refine wE ⟨?_,?_⟩;· kernel_rfl)|apply wE))|((with_reducible first|apply wF|apply wG);refine wH rfl ?_)))
  refine RG.opS rfl (op_index rfl (tab_ok ty_ok rfl) rfl (tab_ok ty_ok rfl) rfl rfl hrx rfl) rfl ?_
  refine wH rfl ?_
  refine RG.opS rfl (op_index rfl (tab_ok ty_ok rfl) rfl (tab_ok ty_ok rfl) rfl rfl hpx rfl) rfl ?_
  refine wH rfl ?_;(repeat(first|(with_reducible first|apply wA|apply wB|apply wC|(apply wD;first|(refine wE ⟨?_,?_⟩;· kernel_rfl)|apply wE))|((with_reducible first|apply wF|apply wG);refine wH rfl ?_)))
  refine AW.ret (retQA ty_ok rfl rfl rfl ?_)
  rfl
 ·have e : edgeOf c.topo.ports s = -1 := edgeOf_neg ht hs
  rw [e]
  skip;(repeat(first|(with_reducible first|apply wA|apply wB|apply wC|(apply wD;first|(refine wE ⟨?_,?_⟩;· kernel_rfl)|apply wE))|((with_reducible first|apply wF|apply wG);refine wH rfl ?_)))
  refine RG.callMS rfl rfl rfl rfl rfl rfl (d_Edges c.topo.ports ht) rfl ?_
  refine wH rfl ?_
  refine RG.callS rfl rfl rfl rfl rfl (d_Contains_Sp _ _ false (decide_eq_false hs)) rfl rfl ?_; refine wH rfl ?_;(repeat(first|(with_reducible first|apply wA|apply wB|apply wC|(apply wD;first|(refine wE ⟨?_,?_⟩;· kernel_rfl)|apply wE))|((with_reducible first|apply wF|apply wG);refine wH rfl ?_)))
  refine AW.condT rfl ?_; skip;(repeat(first|(with_reducible first|apply wA|apply wB|apply wC|(apply wD;first|(refine wE ⟨?_,?_⟩;· kernel_rfl)|apply wE))|((with_reducible first|apply wF|apply wG);refine wH rfl ?_)))
  refine AW.ret (retQA ty_ok rfl rfl rfl ?_)
  rfl
theorem d_WrongFn (n : Int) (r : Run) : PDoes Tryz.prog 69 [.i .i64 n, .ro (cRun r)] (.b (!passed r n)) := by
 refine PDoes.of_bodyN Tryz.func69 rfl (by kernel_rfl) rfl rfl ?_
 skip;(repeat(first|(with_reducible first|apply wA|apply wB|apply wC|(apply wD;first|(refine wE ⟨?_,?_⟩;· kernel_rfl)|apply wE))|((with_reducible first|apply wF|apply wG);refine wH rfl ?_)))
 refine RG.callS rfl rfl rfl rfl rfl (d_Passed r n _ rfl) rfl rfl ?_; refine wH rfl ?_;(repeat(first|(with_reducible first|apply wA|apply wB|apply wC|(apply wD;first|(refine wE ⟨?_,?_⟩;· kernel_rfl)|apply wE))|((with_reducible first|apply wF|apply wG);refine wH rfl ?_)))
 refine AW.ret (retQA ty_ok rfl rfl rfl ?_)
 rfl
def wrongJ (c : Cf) (s : Sp) (r : Run) : Int := if c.sound = 0 ∧ ¬ edgeOf c.topo.ports s < 0 then wrongOf c s r else 0
theorem d_JWrong (c : Cf) (s : Sp) (r : Run) : PDoes Tryz.prog 31 [.agg (cCf c), .agg (cSp s), .agg (cRun r)] (.i .i64 (wrongJ c s r)) := by
  refine PDoes.of_bodyN Tryz.func31 rfl (by kernel_rfl) rfl rfl ?_
  have hCS := d_CSound c
  by_cases h0 : c.sound = 0
  rotate_left
  · rw [wrongJ, if_neg fun h => h0 h.1]
    skip;(repeat(first|(with_reducible first|apply wA|apply wB|apply wC|(apply wD;first|(refine wE ⟨?_,?_⟩;· kernel_rfl)|apply wE))|((with_reducible first|apply wF|apply wG);refine wH rfl ?_)))
    refine RG.callS rfl rfl rfl rfl rfl hCS rfl rfl ?_; refine wH rfl ?_;(repeat(first|(with_reducible first|apply wA|apply wB|apply wC|(apply wD;first|(refine wE ⟨?_,?_⟩;· kernel_rfl)|apply wE))|((with_reducible first|apply wF|apply wG);refine wH rfl ?_)))
    refine AW.cond rfl (fun h => ?_) (fun h => ?_)
    · exact absurd (of_decide_eq_true h) h0
    skip;(repeat(first|(with_reducible first|apply wA|apply wB|apply wC|(apply wD;first|(refine wE ⟨?_,?_⟩;· kernel_rfl)|apply wE))|((with_reducible first|apply wF|apply wG);refine wH rfl ?_)))
    refine AW.condT rfl ?_; skip;(repeat(first|(with_reducible first|apply wA|apply wB|apply wC|(apply wD;first|(refine wE ⟨?_,?_⟩;· kernel_rfl)|apply wE))|((with_reducible first|apply wF|apply wG);refine wH rfl ?_)))
    refine AW.ret (retQA ty_ok rfl rfl rfl ?_)
    rfl
  have hc := Cf.ok h0
  have hsz := sizes_le hc.sizes
  rw [h0] at hCS
  skip;(repeat(first|(with_reducible first|apply wA|apply wB|apply wC|(apply wD;first|(refine wE ⟨?_,?_⟩;· kernel_rfl)|apply wE))|((with_reducible first|apply wF|apply wG);refine wH rfl ?_)))
  refine RG.callS rfl rfl rfl rfl rfl hCS rfl rfl ?_; refine wH rfl ?_;(repeat(first|(with_reducible first|apply wA|apply wB|apply wC|(apply wD;first|(refine wE ⟨?_,?_⟩;· kernel_rfl)|apply wE))|((with_reducible first|apply wF|apply wG);refine wH rfl ?_)))
  refine AW.condT rfl ?_; skip;(repeat(first|(with_reducible first|apply wA|apply wB|apply wC|(apply wD;first|(refine wE ⟨?_,?_⟩;· kernel_rfl)|apply wE))|((with_reducible first|apply wF|apply wG);refine wH rfl ?_)))
  refine RG.callS rfl rfl rfl rfl rfl (d_jtenant c hc.topo s) rfl rfl ?_; refine wH rfl ?_;(repeat(first|(with_reducible first|apply wA|apply wB|apply wC|(apply wD;first|(refine wE ⟨?_,?_⟩;· kernel_rfl)|apply wE))|((with_reducible first|apply wF|apply wG);refine wH rfl ?_)))
  refine AW.cond rfl (fun h1 => ?_) (fun h1 => ?_)
  · have h1 : edgeOf c.topo.ports s < 0 := of_decide_eq_true h1
    rw [wrongJ, if_neg fun h => h.2 h1]
    skip;(repeat(first|(with_reducible first|apply wA|apply wB|apply wC|(apply wD;first|(refine wE ⟨?_,?_⟩;· kernel_rfl)|apply wE))|((with_reducible first|apply wF|apply wG);refine wH rfl ?_)))
    refine AW.ret (retQA ty_ok rfl rfl rfl ?_)
    rfl
  have h1 : ¬ edgeOf c.topo.ports s < 0 := of_decide_eq_false h1
  rw [wrongJ, if_pos ⟨h0, h1⟩]
  skip;(repeat(first|(with_reducible first|apply wA|apply wB|apply wC|(apply wD;first|(refine wE ⟨?_,?_⟩;· kernel_rfl)|apply wE))|((with_reducible first|apply wF|apply wG);refine wH rfl ?_)))
  refine AW.cond rfl (fun k3 => ?_) (fun k3 => ?_)
  · have k3 : r.fin = 3 := of_decide_eq_true k3
    skip;(repeat(first|(with_reducible first|apply wA|apply wB|apply wC|(apply wD;first|(refine wE ⟨?_,?_⟩;· kernel_rfl)|apply wE))|((with_reducible first|apply wF|apply wG);refine wH rfl ?_)))
    refine AW.ret (retQA ty_ok rfl rfl rfl ?_)
    rw [wrongOf, if_pos k3]
    rfl
  have k3 : ¬ r.fin = 3 := of_decide_eq_false k3
  skip;(repeat(first|(with_reducible first|apply wA|apply wB|apply wC|(apply wD;first|(refine wE ⟨?_,?_⟩;· kernel_rfl)|apply wE))|((with_reducible first|apply wF|apply wG);refine wH rfl ?_)))
  refine AW.cond rfl (fun k4 => ?_) (fun k4 => ?_)
  · have k4 : r.fin = 4 := of_decide_eq_true k4
    skip;(repeat(first|(with_reducible first|apply wA|apply wB|apply wC|(apply wD;first|(refine wE ⟨?_,?_⟩;· kernel_rfl)|apply wE))|((with_reducible first|apply wF|apply wG);refine wH rfl ?_)))
    refine AW.ret (retQA ty_ok rfl rfl rfl ?_)
    rw [wrongOf, if_neg k3, if_pos k4]
    rfl
  have k4 : ¬ r.fin = 4 := of_decide_eq_false k4
  skip;(repeat(first|(with_reducible first|apply wA|apply wB|apply wC|(apply wD;first|(refine wE ⟨?_,?_⟩;· kernel_rfl)|apply wE))|((with_reducible first|apply wF|apply wG);refine wH rfl ?_)))
  refine AW.cond rfl (fun k2 => ?_) (fun k2 => ?_)
  rotate_left
  · have k2 : ¬ r.fin = 2 := by simpa using k2
    skip;(repeat(first|(with_reducible first|apply wA|apply wB|apply wC|(apply wD;first|(refine wE ⟨?_,?_⟩;· kernel_rfl)|apply wE))|((with_reducible first|apply wF|apply wG);refine wH rfl ?_)))
    refine AW.ret (retQA ty_ok rfl rfl rfl ?_)
    rw [wrongOf, if_neg k3, if_neg k4, if_neg k2]
    rfl
  have k2 : r.fin = 2 := by simpa using k2
  rw [wrongOf, if_neg k3, if_neg k4, if_pos k2]
  have hfn : ∀ x ∈ vias c.pol (edgeOf c.topo.ports s) (edgeOf c.topo.ports r.at_), PDoes Tryz.prog 69 [.i .i64 x, .ro (cRun r)] (.b (!passed r x)) := fun x _ => d_WrongFn x r
  skip;(repeat(first|(with_reducible first|apply wA|apply wB|apply wC|(apply wD;first|(refine wE ⟨?_,?_⟩;· kernel_rfl)|apply wE))|((with_reducible first|apply wF|apply wG);refine wH rfl ?_)))
  refine RG.callS rfl rfl rfl rfl rfl (d_jtenant c hc.topo r.at_) rfl rfl ?_; refine wH rfl ?_;(repeat(first|(with_reducible first|apply wA|apply wB|apply wC|(apply wD;first|(refine wE ⟨?_,?_⟩;· kernel_rfl)|apply wE))|((with_reducible first|apply wF|apply wG);refine wH rfl ?_)))
  cases ha : allowed c.pol (edgeOf c.topo.ports s) (edgeOf c.topo.ports r.at_)
  · refine RG.callS rfl rfl rfl rfl rfl (d_Allowed c.pol _ _ _ ha) rfl rfl ?_; refine wH rfl ?_;(repeat(first|(with_reducible first|apply wA|apply wB|apply wC|(apply wD;first|(refine wE ⟨?_,?_⟩;· kernel_rfl)|apply wE))|((with_reducible first|apply wF|apply wG);refine wH rfl ?_)))
    refine AW.condT rfl ?_; skip;(repeat(first|(with_reducible first|apply wA|apply wB|apply wC|(apply wD;first|(refine wE ⟨?_,?_⟩;· kernel_rfl)|apply wE))|((with_reducible first|apply wF|apply wG);refine wH rfl ?_)))
    refine AW.ret (retQA ty_ok rfl rfl rfl ?_)
    rfl
  refine RG.callS rfl rfl rfl rfl rfl (d_Allowed c.pol _ _ _ ha) rfl rfl ?_; refine wH rfl ?_;(repeat(first|(with_reducible first|apply wA|apply wB|apply wC|(apply wD;first|(refine wE ⟨?_,?_⟩;· kernel_rfl)|apply wE))|((with_reducible first|apply wF|apply wG);refine wH rfl ?_)))
  refine AW.condF rfl ?_; skip;(repeat(first|(with_reducible first|apply wA|apply wB|apply wC|(apply wD;first|(refine wE ⟨?_,?_⟩;· kernel_rfl)|apply wE))|((with_reducible first|apply wF|apply wG);refine wH rfl ?_)))
  refine RG.callMS rfl rfl rfl rfl rfl rfl (d_Vias c.pol _ _ hsz.2) rfl ?_; refine wH rfl ?_;(repeat(first|(with_reducible first|apply wA|apply wB|apply wC|(apply wD;first|(refine wE ⟨?_,?_⟩;· kernel_rfl)|apply wE))|((with_reducible first|apply wF|apply wG);refine wH rfl ?_)))
  cases hv : (vias c.pol (edgeOf c.topo.ports s) (edgeOf c.topo.ports r.at_)).any (fun n => !passed r n)
  · refine RG.callS rfl rfl rfl rfl rfl (d_ContainsFunc_Int 69 (cRun r) _ _ hfn _ hv) rfl rfl ?_; refine wH rfl ?_;(repeat(first|(with_reducible first|apply wA|apply wB|apply wC|(apply wD;first|(refine wE ⟨?_,?_⟩;· kernel_rfl)|apply wE))|((with_reducible first|apply wF|apply wG);refine wH rfl ?_)))
    refine AW.condF rfl ?_; skip;(repeat(first|(with_reducible first|apply wA|apply wB|apply wC|(apply wD;first|(refine wE ⟨?_,?_⟩;· kernel_rfl)|apply wE))|((with_reducible first|apply wF|apply wG);refine wH rfl ?_)))
    refine AW.ret (retQA ty_ok rfl rfl rfl ?_)
    rfl
  · refine RG.callS rfl rfl rfl rfl rfl (d_ContainsFunc_Int 69 (cRun r) _ _ hfn _ hv) rfl rfl ?_; refine wH rfl ?_;(repeat(first|(with_reducible first|apply wA|apply wB|apply wC|(apply wD;first|(refine wE ⟨?_,?_⟩;· kernel_rfl)|apply wE))|((with_reducible first|apply wF|apply wG);refine wH rfl ?_)))
    refine AW.condT rfl ?_; skip;(repeat(first|(with_reducible first|apply wA|apply wB|apply wC|(apply wD;first|(refine wE ⟨?_,?_⟩;· kernel_rfl)|apply wE))|((with_reducible first|apply wF|apply wG);refine wH rfl ?_)))
    refine AW.ret (retQA ty_ok rfl rfl rfl ?_)
    rfl
def Run.zero : Run := ⟨0, ⟨0, 0⟩, []⟩
def vdE (kind e : Int) : Vd := ⟨kind, e, 0, ⟨0, 0⟩, Hd.zero, Run.zero⟩
def malE (c : Cf) (V : Int) : Int := if c.sound = 0 then (if V < 0 ∨ V > 255 then 4 else 0) else c.sound
theorem d_malformed (c : Cf) (V : Int) : PDoes Tryz.prog 71 [.agg (cCf c), .i .i64 V] (.tup [.agg (cVd (vdE 3 (malE c V))), .b (!decide (malE c V = 0))]) := by
  refine PDoes.of_bodyN Tryz.func71 rfl (by kernel_rfl) rfl rfl ?_
  by_cases h0 : c.sound = 0
  rotate_left
  · have e : malE c V = c.sound := by rw [malE, if_neg h0]
    rw [e]
    skip;(repeat(first|(with_reducible first|apply wA|apply wB|apply wC|(apply wD;first|(refine wE ⟨?_,?_⟩;· kernel_rfl)|apply wE))|((with_reducible first|apply wF|apply wG);refine wH rfl ?_)))
    refine RG.callS rfl rfl rfl rfl rfl (d_CSound c) rfl rfl ?_
    refine wH rfl ?_; skip;(repeat(first|(with_reducible first|apply wA|apply wB|apply wC|(apply wD;first|(refine wE ⟨?_,?_⟩;· kernel_rfl)|apply wE))))
    refine AW.text ?_
    refine RG.runO ty_ok 0 [(10, .b false)] 400 rfl (by repeat' (first|exact trivial|apply And.intro|exact dT ‹_›|exact dF ‹_›|exact dN ‹_›|exact dM ‹_›|exact dI ‹_›)) ?_
    skip;(repeat(first|(with_reducible first|apply wA|apply wB|apply wC|(apply wD;first|(refine wE ⟨?_,?_⟩;· kernel_rfl)|apply wE)))); refine AW.condF rfl ?_; skip;(repeat(first|(with_reducible first|apply wA|apply wB|apply wC|(apply wD;first|(refine wE ⟨?_,?_⟩;· kernel_rfl)|apply wE))|((with_reducible first|apply wF|apply wG);refine wH rfl ?_)))
    refine AW.ret (retQA ty_ok rfl rfl rfl ?_)
    rfl
  have hCS := d_CSound c
  rw [h0] at hCS
  skip;(repeat(first|(with_reducible first|apply wA|apply wB|apply wC|(apply wD;first|(refine wE ⟨?_,?_⟩;· kernel_rfl)|apply wE))|((with_reducible first|apply wF|apply wG);refine wH rfl ?_)))
  refine RG.callS rfl rfl rfl rfl rfl hCS rfl rfl ?_
  refine wH rfl ?_; skip;(repeat(first|(with_reducible first|apply wA|apply wB|apply wC|(apply wD;first|(refine wE ⟨?_,?_⟩;· kernel_rfl)|apply wE))))
  refine AW.text ?_
  by_cases g1 : V < 0
  · refine RG.runO ty_ok 0 [(13, .b true)] 400 rfl (by repeat' (first|exact trivial|apply And.intro|exact dT ‹_›|exact dF ‹_›|exact dN ‹_›|exact dM ‹_›|exact dI ‹_›)) ?_
    have e : malE c V = 4 := by rw [malE, if_pos h0, if_pos (by omega)]
    rw [e]
    skip;(repeat(first|(with_reducible first|apply wA|apply wB|apply wC|(apply wD;first|(refine wE ⟨?_,?_⟩;· kernel_rfl)|apply wE)))); refine AW.condT rfl ?_; skip;(repeat(first|(with_reducible first|apply wA|apply wB|apply wC|(apply wD;first|(refine wE ⟨?_,?_⟩;· kernel_rfl)|apply wE))|((with_reducible first|apply wF|apply wG);refine wH rfl ?_)))
    refine AW.ret (retQA ty_ok rfl rfl rfl ?_)
    rfl
  · by_cases g2 : V > 255
    · refine RG.runO ty_ok 0 [(13, .b false), (16, .b true)] 400 rfl (by repeat' (first|exact trivial|apply And.intro|exact dT ‹_›|exact dF ‹_›|exact dN ‹_›|exact dM ‹_›|exact dI ‹_›)) ?_
      have e : malE c V = 4 := by rw [malE, if_pos h0, if_pos (by omega)]
      rw [e]
      skip;(repeat(first|(with_reducible first|apply wA|apply wB|apply wC|(apply wD;first|(refine wE ⟨?_,?_⟩;· kernel_rfl)|apply wE)))); refine AW.condT rfl ?_; skip;(repeat(first|(with_reducible first|apply wA|apply wB|apply wC|(apply wD;first|(refine wE ⟨?_,?_⟩;· kernel_rfl)|apply wE))|((with_reducible first|apply wF|apply wG);refine wH rfl ?_)))
      refine AW.ret (retQA ty_ok rfl rfl rfl ?_)
      rfl
    · refine RG.runO ty_ok 0 [(13, .b false), (16, .b false)] 400 rfl (by repeat' (first|exact trivial|apply And.intro|exact dT ‹_›|exact dF ‹_›|exact dN ‹_›|exact dM ‹_›|exact dI ‹_›)) ?_
      have e : malE c V = 0 := by rw [malE, if_pos h0, if_neg (by omega)]
      rw [e]
      skip;(repeat(first|(with_reducible first|apply wA|apply wB|apply wC|(apply wD;first|(refine wE ⟨?_,?_⟩;· kernel_rfl)|apply wE)))); refine AW.condF rfl ?_; skip;(repeat(first|(with_reducible first|apply wA|apply wB|apply wC|(apply wD;first|(refine wE ⟨?_,?_⟩;· kernel_rfl)|apply wE))|((with_reducible first|apply wF|apply wG);refine wH rfl ?_)))
      refine AW.ret (retQA ty_ok rfl rfl rfl ?_)
      rfl
def overA (c : Cf) (V : Int) (s : Sp) : List Atom → Option Vd
 | [] => none
 | a :: l => bif decide (wrongJ c s (runOf c s a.head V 10800) = 0) then overA c V s l else some ⟨2, 0, wrongJ c s (runOf c s a.head V 10800), s, a.head, runOf c s a.head V 10800⟩
def overE (c : Cf) (V : Int) (list : List Atom) : List Sp → Vd
 | [] => vdE 1 0
 | s :: ss => match overA c V s list with
  | some v => v
  | none => overE c V list ss
def overOf (c : Cf) (V : Int) (list : List Atom) : Vd := bif decide (malE c V = 0) then overE c V list (edges c.topo.ports) else vdE 3 (malE c V)
theorem d_Over (c : Cf) (V : Int) (list : List Atom) (hL : malE c V = 0 → LooksOk c) : PDoes Tryz.prog 36 [.agg (cCf c), .i .i64 V, .sl (list.map cAtom)] (.agg (cVd (overOf c V list))) := by
  refine PDoes.of_bodyN Tryz.func36 rfl (by kernel_rfl) rfl rfl ?_
  rw [overOf]
  by_cases h1 : malE c V = 0
  rotate_left
  · have hm := d_malformed c V
    rw [decide_eq_false h1] at hm ⊢
    skip;(repeat(first|(with_reducible first|apply wA|apply wB|apply wC|(apply wD;first|(refine wE ⟨?_,?_⟩;· kernel_rfl)|apply wE))|((with_reducible first|apply wF|apply wG);refine wH rfl ?_)))
    refine RG.callMS rfl rfl rfl rfl rfl rfl hm rfl ?_; refine wH rfl ?_;(repeat(first|(with_reducible first|apply wA|apply wB|apply wC|(apply wD;first|(refine wE ⟨?_,?_⟩;· kernel_rfl)|apply wE))|((with_reducible first|apply wF|apply wG);refine wH rfl ?_)))
    refine AW.condT rfl ?_; skip;(repeat(first|(with_reducible first|apply wA|apply wB|apply wC|(apply wD;first|(refine wE ⟨?_,?_⟩;· kernel_rfl)|apply wE))|((with_reducible first|apply wF|apply wG);refine wH rfl ?_)))
    refine AW.ret (retQA ty_ok rfl rfl rfl ?_)
    rfl
  have hLk := hL h1
  clear hL
  have hm := d_malformed c V
  rw [decide_eq_true h1] at hm ⊢
  rw [h1] at hm
  rw [malE] at h1
  split at h1
  · rename_i h0
    split at h1
    · cases h1
    rename_i hV
    obtain ⟨v, rfl⟩ : ∃ v : Nat, V = v := ⟨V.toNat, by omega⟩
    have hV : v ≤ 255 := by omega
    have hc := Cf.ok h0
    have hE := edges_len hc.topo
    have hme : (edges c.topo.ports).length ≤ 9223372036854775807 := by omega
    rw [cond_true]
    skip;(repeat(first|(with_reducible first|apply wA|apply wB|apply wC|(apply wD;first|(refine wE ⟨?_,?_⟩;· kernel_rfl)|apply wE))|((with_reducible first|apply wF|apply wG);refine wH rfl ?_)))
    refine RG.callMS rfl rfl rfl rfl rfl rfl hm rfl ?_; refine wH rfl ?_;(repeat(first|(with_reducible first|apply wA|apply wB|apply wC|(apply wD;first|(refine wE ⟨?_,?_⟩;· kernel_rfl)|apply wE))|((with_reducible first|apply wF|apply wG);refine wH rfl ?_)))
    refine AW.condF rfl ?_; skip;(repeat(first|(with_reducible first|apply wA|apply wB|apply wC|(apply wD;first|(refine wE ⟨?_,?_⟩;· kernel_rfl)|apply wE))|((with_reducible first|apply wF|apply wG);refine wH rfl ?_)))
    refine RG.callMS rfl rfl rfl rfl rfl rfl (d_Edges c.topo.ports hc.topo) rfl ?_; refine wH rfl ?_;(repeat(first|(with_reducible first|apply wA|apply wB|apply wC|(apply wD;first|(refine wE ⟨?_,?_⟩;· kernel_rfl)|apply wE))|((with_reducible first|apply wF|apply wG);refine wH rfl ?_)))
    generalize hG : overE c v list (edges c.topo.ports) = G
    refine AW.lens 2 rfl fun hml => ?_
    rw [List.length_map] at hml
    refine AW.loopL (ι := Nat) (fun k => [(1, .i .i64 (v : Nat)), (2, .sl (list.map cAtom)), (3, .own 3 0 0), (6, .own 6 0 0), (26, .sl ((edges c.topo.ports).map cSp)), (27, .i .i64 ((edges c.topo.ports).map cSp).length), (28, .i .i64 (k : Nat))]) (fun _ => [(3, ⟨0, some (.box 31 (cCf c))⟩), (6, ⟨0, some (.box 64 [.i .i64 0, .i .i64 0, .i .i64 0, .i .i64 0, .i .i64 0, .u 0, .u 0, .i .i64 0, .i .i64 0, .i .i64 0, .raw (.slice none 0 0)])⟩)]) (fun k => k ≤ (edges c.topo.ports).length ∧ overE c v list ((edges c.topo.ports).drop k) = G) (fun k => (edges c.topo.ports).length - k) 0 ⟨Nat.zero_le _, hG⟩ (by repeat(first|exact trivial|refine ⟨rI rfl rfl,?_⟩|refine ⟨rO rfl rfl rfl,?_⟩|refine ⟨rR rfl rfl rfl,?_⟩|refine ⟨bR rfl rfl,?_⟩|refine ⟨bS rfl rfl rfl,?_⟩)) (by repeat(first|exact trivial|refine ⟨rI rfl rfl,?_⟩|refine ⟨rO rfl rfl rfl,?_⟩|refine ⟨rR rfl rfl rfl,?_⟩|refine ⟨bR rfl rfl,?_⟩|refine ⟨bS rfl rfl rfl,?_⟩)) fun k hk => ?_
    clear hG
    obtain ⟨hk, hf⟩ := hk
    skip;(repeat(first|(with_reducible first|apply wA|apply wB|apply wC|(apply wD;first|(refine wE ⟨?_,?_⟩;· kernel_rfl)|apply wE))|((with_reducible first|apply wF|apply wG);refine wH rfl ?_)))
    refine AW.cond rfl (fun h2 => ?_) (fun h2 => ?_)
    rotate_left
    · have h : ¬ k < (edges c.topo.ports).length := by simpa using h2
      obtain rfl : k = (edges c.topo.ports).length := by omega
      rw [List.drop_length, overE] at hf
      skip;(repeat(first|(with_reducible first|apply wA|apply wB|apply wC|(apply wD;first|(refine wE ⟨?_,?_⟩;· kernel_rfl)|apply wE))|((with_reducible first|apply wF|apply wG);refine wH rfl ?_)))
      refine AW.exit ?_; refine Eq.mpr (if_pos rfl) ?_; skip;(repeat(first|(with_reducible first|apply wA|apply wB|apply wC|(apply wD;first|(refine wE ⟨?_,?_⟩;· kernel_rfl)|apply wE))|((with_reducible first|apply wF|apply wG);refine wH rfl ?_)))
      refine AW.ret (retQA ty_ok rfl rfl rfl ?_)
      rw [← hf]
      rfl
    have h : k < (edges c.topo.ports).length := by simpa using h2
    have hs := List.getElem_mem h
    rw [List.drop_eq_getElem_cons h, overE] at hf
    skip;(repeat(first|(with_reducible first|apply wA|apply wB|apply wC|(apply wD;first|(refine wE ⟨?_,?_⟩;· kernel_rfl)|apply wE))))
    refine AW.text ?_
    refine RG.opS rfl (op_index rfl (tab_ok ty_ok rfl) rfl (tab_ok ty_ok rfl) rfl rfl (show ((edges c.topo.ports).map cSp)[k]? = some (cSp (edges c.topo.ports)[k]) by rw [List.getElem?_map, List.getElem?_eq_getElem (by assumption)]; rfl) rfl) rfl ?_
    generalize (edges c.topo.ports)[k] = s at hf hs
    have hns : ¬ edgeOf c.topo.ports s < 0 := by
      have := (edgeOf_iff hc.topo).2 hs
      omega
    refine wH rfl ?_;(repeat(first|(with_reducible first|apply wA|apply wB|apply wC|(apply wD;first|(refine wE ⟨?_,?_⟩;· kernel_rfl)|apply wE))|((with_reducible first|apply wF|apply wG);refine wH rfl ?_)))
    refine AW.loopL (ι := Nat) (fun j => [(1, .i .i64 (v : Nat)), (2, .sl (list.map cAtom)), (3, .own 3 0 0), (6, .own 6 0 0), (26, .sl ((edges c.topo.ports).map cSp)), (27, .i .i64 ((edges c.topo.ports).map cSp).length), (28, .i .i64 (k : Nat)), (10, .own 10 0 0), (32, .sl (list.map cAtom)), (33, .i .i64 (list.map cAtom).length), (34, .i .i64 (j : Nat))]) (fun _ => [(3, ⟨0, some (.box 31 (cCf c))⟩), (6, ⟨0, some (.box 64 [.i .i64 0, .i .i64 0, .i .i64 0, .i .i64 0, .i .i64 0, .u 0, .u 0, .i .i64 0, .i .i64 0, .i .i64 0, .raw (.slice none 0 0)])⟩), (10, ⟨0, some (.box 33 (cSp s))⟩)]) (fun j => j ≤ list.length ∧ (match overA c v s (list.drop j) with | some w => w | none => overE c v list ((edges c.topo.ports).drop (k + 1))) = G) (fun j => list.length - j) 0 ⟨Nat.zero_le _, hf⟩ (by repeat(first|exact trivial|refine ⟨rI rfl rfl,?_⟩|refine ⟨rO rfl rfl rfl,?_⟩|refine ⟨rR rfl rfl rfl,?_⟩|refine ⟨bR rfl rfl,?_⟩|refine ⟨bS rfl rfl rfl,?_⟩)) (by repeat(first|exact trivial|refine ⟨rI rfl rfl,?_⟩|refine ⟨rO rfl rfl rfl,?_⟩|refine ⟨rR rfl rfl rfl,?_⟩|refine ⟨bR rfl rfl,?_⟩|refine ⟨bS rfl rfl rfl,?_⟩)) fun j hj => ?_
    clear hf
    obtain ⟨hj, hf⟩ := hj
    skip;(repeat(first|(with_reducible first|apply wA|apply wB|apply wC|(apply wD;first|(refine wE ⟨?_,?_⟩;· kernel_rfl)|apply wE))|((with_reducible first|apply wF|apply wG);refine wH rfl ?_)))
    refine AW.cond rfl (fun h3 => ?_) (fun h3 => ?_)
    rotate_left
    · have h' : ¬ j < list.length := by simpa using h3
      obtain rfl : j = list.length := by omega
      rw [List.drop_length, overA] at hf
      skip;(repeat(first|(with_reducible first|apply wA|apply wB|apply wC|(apply wD;first|(refine wE ⟨?_,?_⟩;· kernel_rfl)|apply wE))|((with_reducible first|apply wF|apply wG);refine wH rfl ?_)))
      refine AW.exit ?_; refine Eq.mpr (if_pos rfl) ?_; skip;(repeat(first|(with_reducible first|apply wA|apply wB|apply wC|(apply wD;first|(refine wE ⟨?_,?_⟩;· kernel_rfl)|apply wE))|((with_reducible first|apply wF|apply wG);refine wH rfl ?_)))
      exact ⟨k + 1, ⟨⟨h, hf⟩, by omega⟩, ⟨Rn.is rfl rfl, Rn.is rfl rfl, Rn.ownIs rfl rfl rfl, Rn.ownIs rfl rfl rfl, Rn.is rfl rfl, Rn.is rfl rfl, Rn.is (i64_next h hme) rfl, trivial⟩, (by repeat(first|exact trivial|refine ⟨rI rfl rfl,?_⟩|refine ⟨rO rfl rfl rfl,?_⟩|refine ⟨rR rfl rfl rfl,?_⟩|refine ⟨bR rfl rfl,?_⟩|refine ⟨bS rfl rfl rfl,?_⟩))⟩
    have h' : j < list.length := by simpa using h3
    rw [List.drop_eq_getElem_cons h', overA] at hf
    skip;(repeat(first|(with_reducible first|apply wA|apply wB|apply wC|(apply wD;first|(refine wE ⟨?_,?_⟩;· kernel_rfl)|apply wE))))
    refine AW.text ?_
    refine RG.opS rfl (op_index rfl (tab_ok ty_ok rfl) rfl (tab_ok ty_ok rfl) rfl rfl (show (list.map cAtom)[j]? = some (cAtom list[j]) by rw [List.getElem?_map, List.getElem?_eq_getElem (by assumption)]; rfl) rfl) rfl ?_
    generalize list[j] = a at hf
    have hR := d_Run c h0 hLk s hs a.head v hV
    generalize runOf c s a.head v 10800 = r at hf hR
    refine wH rfl ?_;(repeat(first|(with_reducible first|apply wA|apply wB|apply wC|(apply wD;first|(refine wE ⟨?_,?_⟩;· kernel_rfl)|apply wE))|((with_reducible first|apply wF|apply wG);refine wH rfl ?_)))
    refine RG.callMS rfl rfl rfl rfl rfl rfl hR rfl ?_; refine wH rfl ?_;(repeat(first|(with_reducible first|apply wA|apply wB|apply wC|(apply wD;first|(refine wE ⟨?_,?_⟩;· kernel_rfl)|apply wE))|((with_reducible first|apply wF|apply wG);refine wH rfl ?_)))
    refine RG.callS rfl rfl rfl rfl rfl (d_JWrong c s r) rfl rfl ?_; refine wH rfl ?_;(repeat(first|(with_reducible first|apply wA|apply wB|apply wC|(apply wD;first|(refine wE ⟨?_,?_⟩;· kernel_rfl)|apply wE))|((with_reducible first|apply wF|apply wG);refine wH rfl ?_)))
    refine AW.cond rfl (fun h4 => ?_) (fun h4 => ?_)
    · have h4 : ¬ wrongJ c s r = 0 := by simpa using h4
      rw [decide_eq_false h4, cond_false] at hf
      skip;(repeat(first|(with_reducible first|apply wA|apply wB|apply wC|(apply wD;first|(refine wE ⟨?_,?_⟩;· kernel_rfl)|apply wE))|((with_reducible first|apply wF|apply wG);refine wH rfl ?_)))
      refine AW.ret (retQA ty_ok rfl rfl rfl ?_)
      rw [← hf]
      rfl
    · have h4 : wrongJ c s r = 0 := by simpa using h4
      rw [decide_eq_true h4, cond_true] at hf
      skip;(repeat(first|(with_reducible first|apply wA|apply wB|apply wC|(apply wD;first|(refine wE ⟨?_,?_⟩;· kernel_rfl)|apply wE))|((with_reducible first|apply wF|apply wG);refine wH rfl ?_)))
      exact ⟨j + 1, ⟨⟨h', hf⟩, by omega⟩, ⟨Rn.is rfl rfl, Rn.is rfl rfl, Rn.ownIs rfl rfl rfl, Rn.ownIs rfl rfl rfl, Rn.is rfl rfl, Rn.is rfl rfl, Rn.is rfl rfl, Rn.ownIs rfl rfl rfl, Rn.is rfl rfl, Rn.is rfl rfl, Rn.is (i64_next h' hml) rfl, trivial⟩, (by repeat(first|exact trivial|refine ⟨rI rfl rfl,?_⟩|refine ⟨rO rfl rfl rfl,?_⟩|refine ⟨rR rfl rfl rfl,?_⟩|refine ⟨bR rfl rfl,?_⟩|refine ⟨bS rfl rfl rfl,?_⟩))⟩
  · rename_i h0
    exact absurd h1 h0
def judgeOf (c : Cf) (V : Int) (l' : List Cb) : Vd :=
 bif decide (malE c V = 0) then (bif decide ((askedOf c V).length > 500) then vdE 4 10 else bif decide ((atomsOf l').2 = 0) then overOf c V (atomsOf l').1 else vdE 4 (atomsOf l').2) else vdE 3 (malE c V)
theorem d_Judge (c : Cf) (V : Int) (l' : List Cb) (hL : malE c V = 0 → LooksOk c) (hS : malE c V = 0 → c.Small) (hP : malE c V = 0 → l'.Perm (askedOf c V)) (hM : malE c V = 0 → (askedOf c V).length ≤ 500 → MSort (askedOf c V) l') : PDoes Tryz.prog 32 [.agg (cCf c), .i .i64 V] (.agg (cVd (judgeOf c V l'))) := by
  refine PDoes.of_bodyN Tryz.func32 rfl (by kernel_rfl) rfl rfl ?_
  rw [judgeOf]
  have hO := d_Over c V (atomsOf l').1 hL
  by_cases h1 : malE c V = 0
  rotate_left
  · have hm := d_malformed c V
    rw [decide_eq_false h1] at hm ⊢
    skip;(repeat(first|(with_reducible first|apply wA|apply wB|apply wC|(apply wD;first|(refine wE ⟨?_,?_⟩;· kernel_rfl)|apply wE))|((with_reducible first|apply wF|apply wG);refine wH rfl ?_)))
    refine RG.callMS rfl rfl rfl rfl rfl rfl hm rfl ?_; refine wH rfl ?_;(repeat(first|(with_reducible first|apply wA|apply wB|apply wC|(apply wD;first|(refine wE ⟨?_,?_⟩;· kernel_rfl)|apply wE))|((with_reducible first|apply wF|apply wG);refine wH rfl ?_)))
    refine AW.condT rfl ?_; skip;(repeat(first|(with_reducible first|apply wA|apply wB|apply wC|(apply wD;first|(refine wE ⟨?_,?_⟩;· kernel_rfl)|apply wE))|((with_reducible first|apply wF|apply wG);refine wH rfl ?_)))
    refine AW.ret (retQA ty_ok rfl rfl rfl ?_)
    rfl
  replace hS := hS h1
  replace hP := hP h1
  replace hM := hM h1
  have hm := d_malformed c V
  rw [decide_eq_true h1] at hm ⊢
  rw [h1] at hm
  rw [malE] at h1
  split at h1
  · rename_i h0
    split at h1
    · cases h1
    rename_i hV
    obtain ⟨v, rfl⟩ : ∃ v : Nat, V = v := ⟨V.toNat, by omega⟩
    have hV : v ≤ 255 := by omega
    have hOf := d_Of c h0 hS v hV l' hP hM
    rw [ofR] at hOf
    rw [cond_true]
    skip;(repeat(first|(with_reducible first|apply wA|apply wB|apply wC|(apply wD;first|(refine wE ⟨?_,?_⟩;· kernel_rfl)|apply wE))|((with_reducible first|apply wF|apply wG);refine wH rfl ?_)))
    refine RG.callMS rfl rfl rfl rfl rfl rfl hm rfl ?_; refine wH rfl ?_;(repeat(first|(with_reducible first|apply wA|apply wB|apply wC|(apply wD;first|(refine wE ⟨?_,?_⟩;· kernel_rfl)|apply wE))|((with_reducible first|apply wF|apply wG);refine wH rfl ?_)))
    refine AW.condF rfl ?_; skip;(repeat(first|(with_reducible first|apply wA|apply wB|apply wC|(apply wD;first|(refine wE ⟨?_,?_⟩;· kernel_rfl)|apply wE))|((with_reducible first|apply wF|apply wG);refine wH rfl ?_)))
    by_cases h2 : (askedOf c v).length > 500
    · rw [decide_eq_true h2] at hOf ⊢
      refine RG.callMS rfl rfl rfl rfl rfl rfl hOf rfl ?_; refine wH rfl ?_;(repeat(first|(with_reducible first|apply wA|apply wB|apply wC|(apply wD;first|(refine wE ⟨?_,?_⟩;· kernel_rfl)|apply wE))|((with_reducible first|apply wF|apply wG);refine wH rfl ?_)))
      refine AW.condT rfl ?_; skip;(repeat(first|(with_reducible first|apply wA|apply wB|apply wC|(apply wD;first|(refine wE ⟨?_,?_⟩;· kernel_rfl)|apply wE))|((with_reducible first|apply wF|apply wG);refine wH rfl ?_)))
      refine AW.ret (retQA ty_ok rfl rfl rfl ?_)
      rfl
    rw [decide_eq_false h2] at hOf ⊢
    rw [cond_false]
    refine RG.callMS rfl rfl rfl rfl rfl rfl hOf rfl ?_; refine wH rfl ?_;(repeat(first|(with_reducible first|apply wA|apply wB|apply wC|(apply wD;first|(refine wE ⟨?_,?_⟩;· kernel_rfl)|apply wE))|((with_reducible first|apply wF|apply wG);refine wH rfl ?_)))
    refine AW.condF rfl ?_; skip;(repeat(first|(with_reducible first|apply wA|apply wB|apply wC|(apply wD;first|(refine wE ⟨?_,?_⟩;· kernel_rfl)|apply wE))|((with_reducible first|apply wF|apply wG);refine wH rfl ?_)))
    refine RG.callMS rfl rfl rfl rfl rfl rfl (d_Split l') rfl ?_; refine wH rfl ?_;(repeat(first|(with_reducible first|apply wA|apply wB|apply wC|(apply wD;first|(refine wE ⟨?_,?_⟩;· kernel_rfl)|apply wE))|((with_reducible first|apply wF|apply wG);refine wH rfl ?_)))
    refine AW.cond rfl (fun h3 => ?_) (fun h3 => ?_)
    · have h3 : ¬ (atomsOf l').2 = 0 := by simpa using h3
      rw [decide_eq_false h3, cond_false]
      skip;(repeat(first|(with_reducible first|apply wA|apply wB|apply wC|(apply wD;first|(refine wE ⟨?_,?_⟩;· kernel_rfl)|apply wE))|((with_reducible first|apply wF|apply wG);refine wH rfl ?_)))
      refine AW.ret (retQA ty_ok rfl rfl rfl ?_)
      rfl
    · have h3 : (atomsOf l').2 = 0 := by simpa using h3
      rw [decide_eq_true h3, cond_true]
      skip;(repeat(first|(with_reducible first|apply wA|apply wB|apply wC|(apply wD;first|(refine wE ⟨?_,?_⟩;· kernel_rfl)|apply wE))|((with_reducible first|apply wF|apply wG);refine wH rfl ?_)))
      refine RG.callMS rfl rfl rfl rfl rfl rfl hO rfl ?_; refine wH rfl ?_;(repeat(first|(with_reducible first|apply wA|apply wB|apply wC|(apply wD;first|(refine wE ⟨?_,?_⟩;· kernel_rfl)|apply wE))|((with_reducible first|apply wF|apply wG);refine wH rfl ?_)))
      refine AW.ret (retQA ty_ok rfl rfl rfl ?_)
      rfl
  · rename_i h0
    exact absurd h1 h0
end Go.Proofs.YtahjjfhjjbgjaaaGreat.Sm
end
section
namespace Go.Proofs.YtahjjfhjjbgjaaaGreat.Sm
open Go.RowKit
section
variable {P : Program} {N : Nat} {o : Oper} {s : St}
theorem op_buildRef {t e len id : Nat} {ti ei : TI} {parts : Array (Nat × Operand)} {xs cs : List AV} (ho : o.op = .buildSlice t len parts) (ht : TiOk P t ti) (hk : ti.k = .slice e) (he : TiOk P e ei) (h1 : ei.n = 1) (hlen : 0 < len) (hbig : Nat.ble len 1000000 = true)
    (hx : parts.toList.map (fun p => s.ev p.2) = xs) (hf : fillA (fun i => some (i * ei.n, ei.n)) (List.replicate len ei.z).flatten ((parts.toList.map (·.1)).zip xs) = some cs) (hl : cs.length = len) (hone : cs.all AV.one = true) :
    OpLoc P N o s ⟨.ref id ((s.σ id).ep + 1) (.sl 0 len len), [(id, ⟨(s.σ id).ep + 1, some (.box e cs)⟩)], []⟩ := by
  subst hx
  have hbig := Nat.le_of_ble_eq_true hbig
  refine oploc_new [] fun s' W F μ a g1 g2 hid hs => ?_
  obtain ⟨inf, d, z, q1, q2, q3, q4, q5, q6, q7⟩ := he.h
  have hp := parts_rel (s := s) hs (parts := parts) fun p hp => g1 p.2 (by rw [ho]; simp only [Op.operands, List.mem_map]; exact ⟨p, hp, rfl⟩)
  have hzr := zsOk_rel (W := W) (F := F) q7
  have hzn := he.zl
  have hzl : ei.z.length = z.cells.size := by rw [← Array.length_toList]; exact hzr.1.symm
  have hzip : (parts.toList.map (·.1)).zip (parts.toList.map fun p => s.ev p.2) = parts.toList.map fun p => (p.1, s.ev p.2) := by
    rw [List.zip_map']
  rw [hzip] at hf
  obtain ⟨us, k1, k2, k3⟩ := fill_ok (W := W) (F := F) (μ := μ) (σ := s'.σ) (parts.toList.map fun p => (p.1, s.ev p.2)) (parts.map fun (p : Nat × Operand) => (p.1, a.eval p.2)).toList (List.replicate len ei.z).flatten
    ((Array.range (len * ei.n)).map (z.cells[· % z.cells.size]!)) cs hp.1 hp.2 (by rw [flat_len (m := ei.n) (by intro cs hcs; rw [(List.mem_replicate.1 hcs).2]; exact hzn)]; simp) (fun j x v hx hv => by
      have hj : j < len * ei.n := by
        have := (List.getElem?_eq_some_iff.1 hx).1
        rw [flat_len (m := ei.n) (by intro cs hcs; rw [(List.mem_replicate.1 hcs).2]; exact hzn)] at this
        simpa using this
      rw [rep_flat _ _ _ (by rw [hzn]; exact hj), hzn] at hx
      rw [Array.getElem?_map] at hv
      have : (Array.range (len * ei.n))[j]? = some j := by simp [hj]
      rw [this] at hv
      have hlt : j % ei.n < z.cells.size := by rw [← hzl, hzn]; exact Nat.mod_lt _ (by omega)
      have hv' : z.cells.toList[j % ei.n]? = some v := by
        rw [Array.getElem?_toList, Array.getElem?_eq_getElem hlt]
        simp only [Option.map_some, ← hzl, hzn] at hv
        rw [getElem!_pos z.cells _ hlt] at hv
        exact hv
      have := hzr.2 _ x v hx hv'
      exact ⟨this.2, .pure this.1⟩) hf
  have hpos : ¬ len * ei.n = 0 := by rw [h1]; omega
  refine ⟨.slice (some ⟨W.heap.size, 0, none⟩) len len, us.toList, e, len, ?_, fun μ' σ' hst hσ hμ => ⟨⟨W.heap.size, len, us.toList, rfl, heap_alloc_new W _, by simp [k2], fun j x v hx hv => ?_⟩, .ref id _ (.sl 0 len len) _ (by rw [hσ]; exact Nat.le_refl _) rfl fun bd hbd => ⟨W.heap.size, len, hμ, rfl⟩⟩⟩
  · have e3 : us.toList.toArray = us := by simp
    have hrun := run_buildSlice (P := P) W t e len (parts.map fun (p : Nat × Operand) => (p.1, a.eval p.2)) us inf z (ht.slice hk) q1 q6 (by rw [q3, h1]; omega) (by rw [q3]; exact hpos) (by rw [q3]; exact k1)
    simp only [execOp, ho, Sem.run_bind, hrun, Result.andThen_ok, Sem.run_pure, e3]
  · obtain ⟨r1, r2⟩ := k3 j x v hx (by simpa using hv)
    exact ⟨r1, r2.stp hs.inv hst⟩
theorem op_indexRef (k : Nat) {t e id ep n cap ty : Nat} {ti ei : TI} {x i : Operand} {kd : IntKind} {cs : List AV} (ho : o.op = .indexAddr t x i) (ht : TiOk P t ti) (hk : ti.k = .slice e) (he : TiOk P e ei) (h1 : ei.n = 1) (hx : s.ev x = .ref id ep (.sl 0 n cap)) (hid : s.σ id = ⟨ep, some (.box ty cs)⟩) (hi : s.ev i = .i kd (k : Int)) (hlt : k < n) :
  OpLoc P N o s ⟨.own id ep k, [], [id]⟩ := by
 refine oploc_val [id] _ fun s' W F μ a g1 g2 hs => ?_
 have hid' := (g2 id (by simp)).trans hid
 have ex := hs.ev x
 rw [g1 x (by rw [ho]; simp [Op.operands]), hx] at ex
 have ei' := hs.ev i
 rw [g1 i (by rw [ho]; simp [Op.operands]), hi] at ei'
 obtain ⟨b, c, hm, hv⟩ := (Rel.ref' ex).2.2 _ hid'
 have hcond : (0 : Int) ≤ (k : Int) ∧ (k : Int) < (n : Int) := by omega
 refine ⟨.pointer (some ⟨b, k, none⟩), ?_, .own id ep k _ (by rw [hid']; exact Nat.le_refl _) rfl fun bd hbd => ⟨b, c, hm, rfl⟩⟩
 have h0 : (0 : Nat) + k * ei.n = k := by rw [h1]; omega
 simp only [execOp, ho, Instr.indexAt, hv, RK.val, ei'.i', asIntOf, Sem.run_bind, Sem.run_pure, Result.andThen_ok, run_underlying (ht.slice hk), if_pos hcond, he.size, Int.toNat_natCast, ca_ptr (W := W), h0]
end
end Go.Proofs.YtahjjfhjjbgjaaaGreat.Sm
end
section
namespace Go.Proofs.YtahjjfhjjbgjaaaGreat.Sm
open Go.RowKit
def lnCube : Cb := ⟨⟨0, 1⟩, ⟨0, 1⟩⟩
def lnDrop : Rl := ⟨0, Cb.zero, ⟨1, 0, 0, Cb.zero⟩⟩
def lnR0 : List Rl := [⟨1, lnCube, ⟨3, 1, 0, Cb.zero⟩⟩, lnDrop]
def lnR1 : List Rl := [⟨1, lnCube, ⟨2, 1, 0, Cb.zero⟩⟩, lnDrop]
def lnPorts : List (List Pt) := [[⟨1, 0, 0, 0, 0⟩, ⟨2, 0, 1, 0, 1⟩], [⟨2, 0, 0, 1, 1⟩, ⟨1, 0, 0, 0, 0⟩]]
def lineC : Cf := ⟨⟨lnPorts⟩, ⟨1, [], []⟩, [[lnR0], [lnR1]]⟩
def lnB : List (Nat × SB) := [(300, ⟨0, some (.box 57 [.ref 301 0 (.sl 0 1 1), .ref 302 0 (.sl 0 1 1)])⟩), (301, ⟨0, some (.box 58 [.row 24 0 0 2])⟩), (302, ⟨0, some (.box 58 [.row 30 0 0 2])⟩), (24, ⟨0, some (.row 54 12 (lnR0.map cRl))⟩), (30, ⟨0, some (.row 54 12 (lnR1.map cRl))⟩), (12, ⟨0, some (.row 111 1 (lnPorts.map cPts))⟩)]
def lnV : AV := .agg [.row 12 0 0 2, .i .i64 1, .sl [], .sl [], .ref 300 0 (.sl 0 2 2)]
def RmL (π : List (Nat × Nat)) (σ σ' : Sto) : List AV → List AV → Prop
 | [], [] => True
 | x :: xs, y :: ys => (Rm π σ σ' x y ∧ y.one = true) ∧ RmL π σ σ' xs ys
 | _, _ => False
theorem RmL.ok {π : List (Nat × Nat)} {σ σ' : Sto} : ∀ {xs ys : List AV}, RmL π σ σ' xs ys → ys.length = xs.length ∧ ∀ (j : Nat) (x y : AV), xs[j]? = some x → ys[j]? = some y → Rm π σ σ' x y ∧ y.one = true
 | [], [], _ => ⟨rfl, fun j x y h => by simp at h⟩
 | x :: xs, y :: ys, h => by
  obtain ⟨h1, h2⟩ := h
  obtain ⟨g1, g2⟩ := RmL.ok h2
  refine ⟨by rw [List.length_cons, List.length_cons, g1], fun j a b ha hb => ?_⟩
  cases j with
  | zero =>
   obtain rfl : x = a := by simpa using ha
   obtain rfl : y = b := by simpa using hb
   exact h1
  | succ j => exact g2 j a b (by simpa using ha) (by simpa using hb)
 | [], y :: ys, h => h.elim
 | x :: xs, [], h => h.elim
theorem Rm.aggL {π : List (Nat × Nat)} {σ σ' : Sto} {z : AV} {xs ys : List AV} (e : z = .agg xs) (h : RmL π σ σ' xs ys) : Rm π σ σ' z (.agg ys) := by
 subst e
 obtain ⟨g1, g2⟩ := h.ok
 refine .agg g1 (fun j y hy => ?_) fun j x y hx hy => (g2 j x y hx hy).1
 obtain ⟨x, hx⟩ : ∃ x, xs[j]? = some x := ⟨_, List.getElem?_eq_getElem (by rw [← g1]; exact (List.getElem?_eq_some_iff.1 hy).1)⟩
 exact (g2 j x y hx hy).2
theorem Rm.refIs {π : List (Nat × Nat)} {σ σ' : Sto} {x : AV} {id id' ep ep' : Nat} {k : RK} {bd bd' : Body} (e : x = .ref id ep k) (hm : lkP π id = some id') (h : σ id = ⟨ep, some bd⟩) (h' : σ' id' = ⟨ep', some bd'⟩) : Rm π σ σ' x (.ref id' ep' k) := e ▸ .ref (lkP_ok hm) h h'
theorem m_line15 (q : Nat → Option (Nat × Nat)) : MDoes Tryz.prog 63 [] (gl q [] []) lnV (gl q [] lnB) := by
 refine MDoes.of_body Tryz.func63 rfl (by kernel_rfl) rfl rfl ?_
 skip;(repeat(first|(with_reducible first|apply wA|apply wB|apply wC|(apply wD;first|(refine wE ⟨?_,?_⟩;· kernel_rfl)|apply wE))))
 refine wF ?_;refine wH rfl ?_;(repeat(first|(with_reducible first|apply wA|apply wB|apply wC|(apply wD;first|(refine wE ⟨?_,?_⟩;· kernel_rfl)|apply wE))))
 refine wF ?_;refine wH rfl ?_;(repeat(first|(with_reducible first|apply wA|apply wB|apply wC|(apply wD;first|(refine wE ⟨?_,?_⟩;· kernel_rfl)|apply wE))))
 refine wF ?_;refine wH rfl ?_;(repeat(first|(with_reducible first|apply wA|apply wB|apply wC|(apply wD;first|(refine wE ⟨?_,?_⟩;· kernel_rfl)|apply wE))))
 refine wF ?_;refine wH rfl ?_;(repeat(first|(with_reducible first|apply wA|apply wB|apply wC|(apply wD;first|(refine wE ⟨?_,?_⟩;· kernel_rfl)|apply wE))))
 refine wF ?_;refine wH rfl ?_;(repeat(first|(with_reducible first|apply wA|apply wB|apply wC|(apply wD;first|(refine wE ⟨?_,?_⟩;· kernel_rfl)|apply wE))))
 refine AW.text ?_
 refine RG.runG ty_ok 0 5 rfl ?_
 refine RG.opS rfl (op_buildRef (id := 301) rfl (tab_ok ty_ok rfl) rfl (tab_ok ty_ok rfl) rfl (by decide) rfl rfl rfl rfl rfl) rfl ?_
 refine RG.runG ty_ok 0 5 rfl ?_
 refine RG.opS rfl (op_buildRef (id := 302) rfl (tab_ok ty_ok rfl) rfl (tab_ok ty_ok rfl) rfl (by decide) rfl rfl rfl rfl rfl) rfl ?_
 refine RG.opS rfl (op_buildRef (id := 300) rfl (tab_ok ty_ok rfl) rfl (tab_ok ty_ok rfl) rfl (by decide) rfl rfl rfl rfl rfl) rfl ?_
 refine wH rfl ?_;(repeat(first|(with_reducible first|apply wA|apply wB|apply wC|(apply wD;first|(refine wE ⟨?_,?_⟩;· kernel_rfl)|apply wE))|((with_reducible first|apply wF|apply wG);refine wH rfl ?_)))
 refine AW.ret (retMA ty_ok rfl rfl (Rm.aggL rfl ⟨⟨Rm.rowIs rfl rfl rfl rfl, rfl⟩, ⟨Rm.is rfl rfl, rfl⟩, ⟨.nil, rfl⟩, ⟨.nil, rfl⟩, ⟨Rm.refIs rfl rfl rfl rfl, rfl⟩, trivial⟩) ⟨.boxL rfl ⟨Rn.refIs rfl rfl rfl, Rn.refIs rfl rfl rfl, trivial⟩ rfl, .boxL rfl ⟨Rn.rowIs rfl rfl rfl, trivial⟩ rfl, .boxL rfl ⟨Rn.rowIs rfl rfl rfl, trivial⟩ rfl, .row rfl rfl, .row rfl rfl, .row rfl rfl, trivial⟩)
end Go.Proofs.YtahjjfhjjbgjaaaGreat.Sm
end
section
namespace Go.Proofs.YtahjjfhjjbgjaaaGreat.Sm
open Go.RowKit
theorem looks_of {c : Cf} (h : ∀ tb ∈ c.tables, ∀ l ∈ tb, Falls l ∧ l.length ≤ 12) : LooksOk c := by
 intro n t
 have h0 : LookOk [] := look_falls (fun k x y h => by simp at h) (Nat.zero_le _)
 rw [tabOf, List.getD_eq_getElem?_getD, List.getD_eq_getElem?_getD]
 cases h1 : c.tables[n]? with
 | none => exact h0
 | some tb =>
  show LookOk (tb[t]?.getD [])
  cases h2 : tb[t]? with
  | none => exact h0
  | some l =>
   obtain ⟨g1, g2⟩ := h tb (List.mem_of_getElem? h1) l (List.mem_of_getElem? h2)
   exact look_falls g1 g2
theorem falls0 : Falls lnR0 := by
 intro k x y hx hy
 match k with
 | 0 =>
  obtain rfl := Option.some.inj hx
  obtain rfl := Option.some.inj hy
  decide
 | k + 1 => simp [lnR0] at hy
theorem falls1 : Falls lnR1 := by
 intro k x y hx hy
 match k with
 | 0 =>
  obtain rfl := Option.some.inj hx
  obtain rfl := Option.some.inj hy
  decide
 | k + 1 => simp [lnR1] at hy
theorem fallsT {l : List Rl} : Falls (l.take 1) := by
 intro k x y hx hy
 rw [List.getElem?_take] at hy
 rw [if_neg (by omega)] at hy
 cases hy
theorem lineC_looks : LooksOk lineC := looks_of (by
 intro tb htb l hl
 simp only [lineC, List.mem_cons, List.not_mem_nil, or_false] at htb
 rcases htb with rfl | rfl
 ·simp only [List.mem_cons, List.not_mem_nil, or_false] at hl
  subst hl
  exact ⟨falls0, by decide⟩
 ·simp only [List.mem_cons, List.not_mem_nil, or_false] at hl
  subst hl
  exact ⟨falls1, by decide⟩)
def badC : Cf := ⟨⟨lnPorts⟩, ⟨1, [], []⟩, [[lnR0], [lnR1.take 1]]⟩
theorem badC_looks : LooksOk badC := looks_of (by
 intro tb htb l hl
 simp only [badC, List.mem_cons, List.not_mem_nil, or_false] at htb
 rcases htb with rfl | rfl
 ·simp only [List.mem_cons, List.not_mem_nil, or_false] at hl
  subst hl
  exact ⟨falls0, by decide⟩
 ·simp only [List.mem_cons, List.not_mem_nil, or_false] at hl
  subst hl
  exact ⟨fallsT, by decide⟩)
end Go.Proofs.YtahjjfhjjbgjaaaGreat.Sm
end
section
namespace Go.Proofs.YtahjjfhjjbgjaaaGreat.Sm
open Go.RowKit
theorem small_of {c : Cf} (h : c.tables.all (fun t => Nat.ble t.flatten.length 1000) = true) : c.Small := fun t ht => by
 have := Nat.le_of_ble_eq_true (List.all_eq_true.1 h t ht)
 omega
theorem d_JudgeC (c : Cf) (V : Int) (r : Vd) (hL : LooksOk c) (hs : c.tables.all (fun t => Nat.ble t.flatten.length 1000) = true) (hl : Nat.blt (askedOf c V).length 20 = true) (hr : judgeOf c V (insS (askedOf c V)) = r) : PDoes Tryz.prog 32 [.agg (cCf c), .i .i64 V] (.agg (cVd r)) := by
 subst hr
 exact d_Judge c V _ (fun _ => hL) (fun _ => small_of hs) (fun _ => insS_perm _) fun _ _ => sort_few _ (Nat.le_of_ble_eq_true hl)
theorem j15_bad : ∃ e h r, judgeOf badC 0 (insS (askedOf badC 0)) = ⟨2, e, 1, ⟨1, 1⟩, h, r⟩ := ⟨(judgeOf badC 0 (insS (askedOf badC 0))).e, (judgeOf badC 0 (insS (askedOf badC 0))).head, (judgeOf badC 0 (insS (askedOf badC 0))).run, by kernel_rfl⟩
theorem j15_line : judgeOf lineC 0 (insS (askedOf lineC 0)) = vdE 1 0 := by kernel_rfl
theorem j15_neg : judgeOf lineC (-1) (insS (askedOf lineC (-1))) = vdE 3 4 := by kernel_rfl
theorem d_awake15 : PDoes Tryz.prog 30 [] (.b true) := by
 refine PDoes.of_bodyN Tryz.func30 rfl (by kernel_rfl) rfl rfl ?_
 obtain ⟨be, bh, br, hb⟩ := j15_bad
 have hJb := d_JudgeC badC 0 _ badC_looks rfl (by kernel_rfl) hb
 have hJl := d_JudgeC lineC 0 _ lineC_looks rfl (by kernel_rfl) j15_line
 have hJn := d_JudgeC lineC (-1) _ lineC_looks rfl (by kernel_rfl) j15_neg
 have hW := d_JWrong lineC ⟨0, 0⟩ ⟨4, ⟨0, 0⟩, []⟩
 rw [show wrongJ lineC ⟨0, 0⟩ ⟨4, ⟨0, 0⟩, []⟩ = 2 by kernel_rfl] at hW
 clear hb
 skip;(repeat(first|(with_reducible first|apply wA|apply wB|apply wC|(apply wD;first|(refine wE ⟨?_,?_⟩;· kernel_rfl)|apply wE))|((with_reducible first|apply wF|apply wG);refine wH rfl ?_)))
 refine RG.ownN [] [(300, 310), (301, 311), (302, 312), (24, 324), (30, 330), (12, 313)] m_line15 rfl rfl rfl rfl rfl rfl rfl rfl rfl rfl ?_
 refine wH rfl ?_;(repeat(first|(with_reducible first|apply wA|apply wB|apply wC|(apply wD;first|(refine wE ⟨?_,?_⟩;· kernel_rfl)|apply wE))|((with_reducible first|apply wF|apply wG);refine wH rfl ?_)))
 refine RG.ownN [] [(300, 410), (301, 411), (302, 412), (24, 424), (30, 430), (12, 413)] m_line15 rfl rfl rfl rfl rfl rfl rfl rfl rfl rfl ?_
 refine wH rfl ?_;(repeat(first|(with_reducible first|apply wA|apply wB|apply wC|(apply wD;first|(refine wE ⟨?_,?_⟩;· kernel_rfl)|apply wE))|((with_reducible first|apply wF|apply wG);refine wH rfl ?_)))
 refine RG.opS rfl (op_indexRef 1 rfl (tab_ok ty_ok rfl) rfl (tab_ok ty_ok rfl) rfl rfl rfl rfl (by decide)) rfl ?_
 refine wH rfl ?_
 refine RG.opS rfl (op_indexRef 1 rfl (tab_ok ty_ok rfl) rfl (tab_ok ty_ok rfl) rfl rfl rfl rfl (by decide)) rfl ?_
 refine wH rfl ?_
 refine RG.opS rfl (op_indexRef 0 rfl (tab_ok ty_ok rfl) rfl (tab_ok ty_ok rfl) rfl rfl rfl rfl (by decide)) rfl ?_
 refine wH rfl ?_
 refine RG.opS rfl (op_sliceR (h := 1) rfl (tab_ok ty_ok rfl) rfl (tab_ok ty_ok rfl) rfl rfl .no (.at_ rfl) (by decide)) rfl ?_
 refine wH rfl ?_
 refine RG.opS rfl (op_indexRef 0 rfl (tab_ok ty_ok rfl) rfl (tab_ok ty_ok rfl) rfl rfl rfl rfl (by decide)) rfl ?_
 refine wH rfl ?_; skip;(repeat(first|(with_reducible first|apply wA|apply wB|apply wC|(apply wD;first|(refine wE ⟨?_,?_⟩;· kernel_rfl)|apply wE))))
 refine AW.freeze [310, 311, 312, 324, 330, 313, 410, 411, 412, 424, 430, 413] [(1, .own 1 0 0), (2, .own 2 0 0)] [(1, ⟨0, some (.box 31 (cCf lineC))⟩), (2, ⟨0, some (.box 31 (cCf badC))⟩)] ⟨.rn (Rn.ownIs rfl rfl rfl), .rn (Rn.ownIs rfl rfl rfl), trivial⟩ ⟨.boxL rfl ⟨.fzA rfl rfl rfl, RnF.is rfl rfl, RnF.is rfl rfl, RnF.is rfl rfl, .fzA rfl rfl rfl, trivial⟩ rfl, .boxL rfl ⟨.fzA rfl rfl rfl, RnF.is rfl rfl, RnF.is rfl rfl, RnF.is rfl rfl, .fzA rfl rfl rfl, trivial⟩ rfl, trivial⟩ rfl ?_
 skip;(repeat(first|(with_reducible first|apply wA|apply wB|apply wC|(apply wD;first|(refine wE ⟨?_,?_⟩;· kernel_rfl)|apply wE))|((with_reducible first|apply wF|apply wG);refine wH rfl ?_)))
 refine RG.callMS rfl rfl rfl rfl rfl rfl hJb rfl ?_; refine wH rfl ?_;(repeat(first|(with_reducible first|apply wA|apply wB|apply wC|(apply wD;first|(refine wE ⟨?_,?_⟩;· kernel_rfl)|apply wE))|((with_reducible first|apply wF|apply wG);refine wH rfl ?_)))
 refine RG.callMS rfl rfl rfl rfl rfl rfl hJl rfl ?_
 refine wH rfl ?_
 refine RG.opS rfl (op_eqG rfl ty_ok (by kernel_rfl) (by kernel_rfl) rfl rfl (eq_Sp ⟨1, 1⟩ ⟨1, 1⟩) (decide_eq_true rfl)) rfl ?_
 refine wH rfl ?_
 refine RG.callMS rfl rfl rfl rfl rfl rfl hJn rfl ?_
 refine wH rfl ?_
 refine RG.callS rfl rfl rfl rfl rfl hW rfl rfl ?_; refine wH rfl ?_;(repeat(first|(with_reducible first|apply wA|apply wB|apply wC|(apply wD;first|(refine wE ⟨?_,?_⟩;· kernel_rfl)|apply wE))|((with_reducible first|apply wF|apply wG);refine wH rfl ?_)))
 refine AW.ret (retQA ty_ok rfl rfl rfl ?_)
 rfl
end Go.Proofs.YtahjjfhjjbgjaaaGreat.Sm
end
section
namespace Go.Proofs.YtahjjfhjjbgjaaaGreat.Sm
open Go.RowKit
theorem JudgeWrong_d (c : Cf) (s : Sp) (r : Run) : PDoes Tryz.prog 7 [.agg (cCf c), .agg (cSp s), .agg (cRun r)] (.b true) := by
  refine PDoes.of_bodyN Tryz.func7 rfl (by kernel_rfl) rfl rfl ?_
  have hJ := d_JWrong c s r
  have hCS := d_rCSound c
  by_cases h0 : c.sound = 0
  rotate_left
  · rw [wrongJ, if_neg fun h => h0 h.1] at hJ
    skip;(repeat(first|(with_reducible first|apply wA|apply wB|apply wC|(apply wD;first|(refine wE ⟨?_,?_⟩;· kernel_rfl)|apply wE)))); refine wF ?_;refine wH rfl ?_;(repeat(first|(with_reducible first|apply wA|apply wB|apply wC|(apply wD;first|(refine wE ⟨?_,?_⟩;· kernel_rfl)|apply wE)))); refine wF ?_;refine wH rfl ?_;(repeat(first|(with_reducible first|apply wA|apply wB|apply wC|(apply wD;first|(refine wE ⟨?_,?_⟩;· kernel_rfl)|apply wE))))
    refine AW.text ?_
    refine wH rfl ?_
    refine RG.callS rfl rfl rfl rfl rfl hCS rfl rfl ?_
    refine RG.runO ty_ok 0 [(10, .b false)] 400 rfl (by repeat' (first|exact trivial|apply And.intro|exact dT ‹_›|exact dF ‹_›|exact dN ‹_›|exact dM ‹_›|exact dI ‹_›)) ?_
    skip;(repeat(first|(with_reducible first|apply wA|apply wB|apply wC|(apply wD;first|(refine wE ⟨?_,?_⟩;· kernel_rfl)|apply wE)))); refine AW.condF rfl ?_; skip;(repeat(first|(with_reducible first|apply wA|apply wB|apply wC|(apply wD;first|(refine wE ⟨?_,?_⟩;· kernel_rfl)|apply wE))|((with_reducible first|apply wF|apply wG);refine wH rfl ?_)))
    refine RG.callS rfl rfl rfl rfl rfl d_awake15 rfl rfl ?_
    refine wH rfl ?_
    refine RG.callS rfl rfl rfl rfl rfl hJ rfl rfl ?_; refine wH rfl ?_;(repeat(first|(with_reducible first|apply wA|apply wB|apply wC|(apply wD;first|(refine wE ⟨?_,?_⟩;· kernel_rfl)|apply wE))|((with_reducible first|apply wF|apply wG);refine wH rfl ?_)))
    refine AW.ret (retQA ty_ok rfl rfl rfl ?_)
    rfl
  rw [h0] at hCS
  have hc := Cf.ok h0
  by_cases h1 : edgeOf c.topo.ports s < 0
  · have g : ¬ edgeOf c.topo.ports s ≥ 0 := by omega
    rw [wrongJ, if_neg fun h => h.2 h1] at hJ
    skip;(repeat(first|(with_reducible first|apply wA|apply wB|apply wC|(apply wD;first|(refine wE ⟨?_,?_⟩;· kernel_rfl)|apply wE)))); refine wF ?_;refine wH rfl ?_;(repeat(first|(with_reducible first|apply wA|apply wB|apply wC|(apply wD;first|(refine wE ⟨?_,?_⟩;· kernel_rfl)|apply wE)))); refine wF ?_;refine wH rfl ?_;(repeat(first|(with_reducible first|apply wA|apply wB|apply wC|(apply wD;first|(refine wE ⟨?_,?_⟩;· kernel_rfl)|apply wE))))
    refine AW.text ?_
    refine wH rfl ?_
    refine RG.callS rfl rfl rfl rfl rfl hCS rfl rfl ?_
    refine wH rfl ?_
    refine RG.callS rfl rfl rfl rfl rfl (d_Edge c.topo.ports s) rfl rfl ?_
    refine RG.runO ty_ok 0 [(16, .b false)] 400 rfl (by repeat' (first|exact trivial|apply And.intro|exact dT ‹_›|exact dF ‹_›|exact dN ‹_›|exact dM ‹_›|exact dI ‹_›)) ?_
    skip;(repeat(first|(with_reducible first|apply wA|apply wB|apply wC|(apply wD;first|(refine wE ⟨?_,?_⟩;· kernel_rfl)|apply wE)))); refine AW.condF rfl ?_; skip;(repeat(first|(with_reducible first|apply wA|apply wB|apply wC|(apply wD;first|(refine wE ⟨?_,?_⟩;· kernel_rfl)|apply wE))|((with_reducible first|apply wF|apply wG);refine wH rfl ?_)))
    refine RG.callS rfl rfl rfl rfl rfl d_awake15 rfl rfl ?_
    refine wH rfl ?_
    refine RG.callS rfl rfl rfl rfl rfl hJ rfl rfl ?_; refine wH rfl ?_;(repeat(first|(with_reducible first|apply wA|apply wB|apply wC|(apply wD;first|(refine wE ⟨?_,?_⟩;· kernel_rfl)|apply wE))|((with_reducible first|apply wF|apply wG);refine wH rfl ?_)))
    refine AW.ret (retQA ty_ok rfl rfl rfl ?_)
    rfl
  · have g : edgeOf c.topo.ports s ≥ 0 := by omega
    rw [wrongJ, if_pos ⟨h0, h1⟩] at hJ
    skip;(repeat(first|(with_reducible first|apply wA|apply wB|apply wC|(apply wD;first|(refine wE ⟨?_,?_⟩;· kernel_rfl)|apply wE)))); refine wF ?_;refine wH rfl ?_;(repeat(first|(with_reducible first|apply wA|apply wB|apply wC|(apply wD;first|(refine wE ⟨?_,?_⟩;· kernel_rfl)|apply wE)))); refine wF ?_;refine wH rfl ?_;(repeat(first|(with_reducible first|apply wA|apply wB|apply wC|(apply wD;first|(refine wE ⟨?_,?_⟩;· kernel_rfl)|apply wE))))
    refine AW.text ?_
    refine wH rfl ?_
    refine RG.callS rfl rfl rfl rfl rfl hCS rfl rfl ?_
    refine wH rfl ?_
    refine RG.callS rfl rfl rfl rfl rfl (d_Edge c.topo.ports s) rfl rfl ?_
    refine RG.runO ty_ok 0 [(16, .b true)] 400 rfl (by repeat' (first|exact trivial|apply And.intro|exact dT ‹_›|exact dF ‹_›|exact dN ‹_›|exact dM ‹_›|exact dI ‹_›)) ?_
    skip;(repeat(first|(with_reducible first|apply wA|apply wB|apply wC|(apply wD;first|(refine wE ⟨?_,?_⟩;· kernel_rfl)|apply wE)))); refine AW.condT rfl ?_; skip;(repeat(first|(with_reducible first|apply wA|apply wB|apply wC|(apply wD;first|(refine wE ⟨?_,?_⟩;· kernel_rfl)|apply wE))|((with_reducible first|apply wF|apply wG);refine wH rfl ?_)))
    refine RG.callS rfl rfl rfl rfl rfl (d_rWrong c hc s r) rfl rfl ?_; refine wH rfl ?_;(repeat(first|(with_reducible first|apply wA|apply wB|apply wC|(apply wD;first|(refine wE ⟨?_,?_⟩;· kernel_rfl)|apply wE))|((with_reducible first|apply wF|apply wG);refine wH rfl ?_)))
    refine RG.callS rfl rfl rfl rfl rfl d_awake15 rfl rfl ?_
    refine wH rfl ?_
    refine RG.callS rfl rfl rfl rfl rfl hJ rfl rfl ?_; refine wH rfl ?_;(repeat(first|(with_reducible first|apply wA|apply wB|apply wC|(apply wD;first|(refine wE ⟨?_,?_⟩;· kernel_rfl)|apply wE))|((with_reducible first|apply wF|apply wG);refine wH rfl ?_)))
    refine AW.ret (retQA ty_ok rfl rfl rfl ?_)
    exact congrArg AV.b (decide_eq_true rfl)
end Go.Proofs.YtahjjfhjjbgjaaaGreat.Sm
end
section
namespace Go.Proofs.YtahjjfhjjbgjaaaGreat
open Go.RowKit Go.WideShapes Go.ChangeShapes Go.Deep Sm
theorem JudgeWrong_law {H : Type} {e : TypeId × Value → H} (W : World) (b0 : Nat)
  (v0 : Value) (d0 : DataW H) (p0 : List MemPlace) (ok0 : Value.okWide Tryz.prog W .any b0 31 v0) (h0 : DataW.Trod e Tryz.prog W 0 (fun _ => true) true 31 v0 d0 p0)
  (v1 : Value) (d1 : DataW H) (p1 : List MemPlace) (ok1 : Value.okWide Tryz.prog W .any b0 33 v1) (h1 : DataW.Trod e Tryz.prog W 0 (fun _ => true) true 33 v1 d1 p1)
  (v2 : Value) (d2 : DataW H) (p2 : List MemPlace) (ok2 : Value.okWide Tryz.prog W .any b0 46 v2) (h2 : DataW.Trod e Tryz.prog W 0 (fun _ => true) true 46 v2 d2 p2)
  : Calls Tryz.prog 7 #[v0, v1, v2] W fun e W' => e = .returned (.bool true) ∧ Kp No W W' := by
 obtain ⟨a0, r0⟩ := ra_Cf.arg_struct Tryz.underlying31 ok0 h0
 obtain ⟨a1, r1⟩ := ra_Sp.arg_struct Tryz.underlying33 ok1 h1
 obtain ⟨a2, r2⟩ := ra_Run.arg_struct Tryz.underlying46 ok2 h2
 exact (JudgeWrong_d a0 a1 a2).law (vs := [v0, v1, v2]) rfl (pw_cons r0 (pw_cons r1 (pw_cons r2 (pw_nil))))
end Go.Proofs.YtahjjfhjjbgjaaaGreat
end
