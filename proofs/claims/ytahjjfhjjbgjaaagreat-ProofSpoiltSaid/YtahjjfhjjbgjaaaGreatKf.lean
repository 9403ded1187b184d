/- Contracts of the program's functions over data, and the plain laws that they meet (part 6). No condition. -/
import Derived.Test.YtahjjfhjjbgjaaaGreatKe
import Derived.WalkKit
import Derived.WalkSpells
import Derived.WalkLawsBesides
import Derived.Lib.Hide
import Derived.Deep.RegionHeld3
import Derived.Maps.AppendAt
import Derived.KernelRfl
import Derived.Lib.AppendStr
import Derived.Orders
import Derived.LoopTactic
import Derived.Laws.CopyRow
import Derived.Laws.Cells
import Derived.Great.BuildSlice
import Derived.Laws.ResultCell
import Derived.Laws.StructEq
import Derived.Laws.MakeOwn
import Derived.Deep.Slices
import Derived.Deep.Fields
import Derived.ChangeSame
import Derived.ProofKit
import Derived.OpenShut
import Derived.SizedLaws
import Derived.Test.YtahjjfhjjbgjaaaGreatProg
import Derived.Shelf.Spec.BitsCarry
import Derived.Lib.AppendZerosOnto
import Derived.DeepKeys4
import Derived.MapKept
set_option linter.unusedVariables false
set_option linter.unusedSimpArgs false
set_option maxRecDepth 100000
set_option maxHeartbeats 4000000
section
namespace Go.Proofs.YtahjjfhjjbgjaaaGreat.Sm
open Go.RowKit
def lsB (l : List Cb) : List (Nat × SB) := [(200, ⟨0, some (.box 185 [.row 201 0 0 (l.map cCb).length, .ref 202 0 .map])⟩), (201, ⟨0, some (.row 50 4 (l.map cCb))⟩), (202, ⟨0, some (mapO l)⟩)]
theorem ls_end {s : St} {q : Nat → Option (Nat × Nat)} {l : List Cb} {e e1 e1' e2 e2' g g2 n : Nat} {els : List (List AV)} {o : Body} (h0 : s.σ 200 = ⟨e, some (.box 185 [.row 201 e1 0 n, .ref 202 e2 .map])⟩) (h1 : s.σ 201 = ⟨e1', some (.row 50 4 els)⟩) (h2 : s.σ 202 = ⟨e2', some o⟩)
  (hg : s.σ 1100 = ⟨g, some (.ghost 200 e (q 200))⟩) (hg2 : s.σ 1102 = ⟨g2, some (.ghost 202 e2' (q 202))⟩)
  (he : e1 = e1') (he2 : e2 = e2') (hn : n = (l.map cCb).length) (hel : els = l.map cCb) (ho : o = mapO l) : WkB s (lkB (gl q [200, 202] (lsB l))) (gl q [200, 202] (lsB l)) := by
 subst he he2 hn hel ho
 exact ⟨.ghost hg h0 rfl, .ghost hg2 h2 rfl, .boxL h0 ⟨Rn.rowIs rfl h1 rfl, Rn.refIs rfl h2 rfl, trivial⟩ rfl, .row h1 rfl, .obj h2 rfl, trivial⟩
theorem m_fresh (q : Nat → Option (Nat × Nat)) : MDoes Tryz.prog 113 [] (gl q [] []) (.own 3 0 0) (gl q [] [(3, ⟨0, some (.box 185 [.row 9 0 0 0, .ref 1 0 .map])⟩), (1, ⟨0, some (mapO [])⟩), (9, ⟨0, some (.row 50 4 [])⟩)]) := by
 refine MDoes.of_body Tryz.func113 rfl (by kernel_rfl) rfl rfl ?_
 skip;(repeat(first|(with_reducible first|apply wA|apply wB|apply wC|(apply wD;first|(refine wE ⟨?_,?_⟩;· kernel_rfl)|apply wE))|((with_reducible first|apply wF|apply wG);refine wH rfl ?_)))
 refine RG.opS rfl (op_makeMap (id := 1) rfl) rfl ?_
 refine wH rfl ?_;(repeat(first|(with_reducible first|apply wA|apply wB|apply wC|(apply wD;first|(refine wE ⟨?_,?_⟩;· kernel_rfl)|apply wE))|((with_reducible first|apply wF|apply wG);refine wH rfl ?_)))
 refine AW.nilRow 9 0 50 4 [(0, .own 3 0 0)] [(3, ⟨0, some (.box 185 [.row 9 0 0 0, .ref 1 0 .map])⟩), (1, ⟨0, some (mapO [])⟩), (9, ⟨0, some (.row 50 4 [])⟩)] ⟨.rn (Rn.ownIs rfl rfl rfl), trivial⟩ ⟨.boxL rfl ⟨.nil rfl, .rn (Rn.refIs rfl rfl rfl), trivial⟩ rfl, .old (.obj rfl rfl), .old (.row rfl rfl), trivial⟩ ?_
 refine AW.ret (retM1 rfl (Rm.ownIs rfl rfl rfl rfl) ⟨.boxL rfl ⟨Rn.rowIs rfl rfl rfl, Rn.refIs rfl rfl rfl, trivial⟩ rfl, .obj rfl rfl, .row rfl rfl, trivial⟩)
theorem addC_in {l : List Cb} {x : Cb} (h : x ∈ l) : addC l x = l := by rw [addC, decide_eq_true h]; rfl
theorem addC_out {l : List Cb} {x : Cb} (h : ¬ x ∈ l) : addC l x = l ++ [x] := by rw [addC, decide_eq_false h]; rfl
theorem m_add (l : List Cb) (x : Cb) (hl : l.length ≤ 100000000) (q : Nat → Option (Nat × Nat)) : MDoes Tryz.prog 117 [.own 200 0 0, .agg (cCb x)] (gl q [200, 202] (lsB l)) (.tup []) (gl q [200, 202] (lsB (addC l x))) := by
 refine MDoes.of_body Tryz.func117 rfl (by kernel_rfl) rfl rfl ?_
 by_cases h : x ∈ l
 ·rw [addC_in h]
  skip;(repeat(first|(with_reducible first|apply wA|apply wB|apply wC|(apply wD;first|(refine wE ⟨?_,?_⟩;· kernel_rfl)|apply wE))|((with_reducible first|apply wF|apply wG);refine wH rfl ?_)))
  refine RG.opS rfl (op_lookCb rfl rfl rfl rfl (decide_eq_true h)) rfl ?_
  refine wH rfl ?_;(repeat(first|(with_reducible first|apply wA|apply wB|apply wC|(apply wD;first|(refine wE ⟨?_,?_⟩;· kernel_rfl)|apply wE))|((with_reducible first|apply wF|apply wG);refine wH rfl ?_)))
  refine AW.condF rfl ?_; skip;(repeat(first|(with_reducible first|apply wA|apply wB|apply wC|(apply wD;first|(refine wE ⟨?_,?_⟩;· kernel_rfl)|apply wE))|((with_reducible first|apply wF|apply wG);refine wH rfl ?_)))
  exact retM0 rfl (.inl rfl) (ls_end rfl rfl rfl rfl rfl rfl rfl rfl rfl rfl)
 ·rw [addC_out h]
  skip;(repeat(first|(with_reducible first|apply wA|apply wB|apply wC|(apply wD;first|(refine wE ⟨?_,?_⟩;· kernel_rfl)|apply wE))|((with_reducible first|apply wF|apply wG);refine wH rfl ?_)))
  refine RG.opS rfl (op_lookCb rfl rfl rfl rfl (decide_eq_false h)) rfl ?_
  refine wH rfl ?_;(repeat(first|(with_reducible first|apply wA|apply wB|apply wC|(apply wD;first|(refine wE ⟨?_,?_⟩;· kernel_rfl)|apply wE))|((with_reducible first|apply wF|apply wG);refine wH rfl ?_)))
  refine AW.condT rfl ?_; skip;(repeat(first|(with_reducible first|apply wA|apply wB|apply wC|(apply wD;first|(refine wE ⟨?_,?_⟩;· kernel_rfl)|apply wE))|((with_reducible first|apply wF|apply wG);refine wH rfl ?_)))
  refine RG.opS rfl (op_putCb rfl rfl rfl rfl rfl h) rfl ?_
  refine wH rfl ?_;(repeat(first|(with_reducible first|apply wA|apply wB|apply wC|(apply wD;first|(refine wE ⟨?_,?_⟩;· kernel_rfl)|apply wE))|((with_reducible first|apply wF|apply wG);refine wH rfl ?_)))
  refine RG.opS rfl (op_app1 cCb l x hl rfl rfl rfl rfl (tab_ok ty_ok rfl) rfl (tab_ok ty_ok rfl) rfl rfl ⟨_, rfl, rfl⟩ rfl rfl) rfl ?_; refine wH rfl ?_;(repeat(first|(with_reducible first|apply wA|apply wB|apply wC|(apply wD;first|(refine wE ⟨?_,?_⟩;· kernel_rfl)|apply wE))|((with_reducible first|apply wF|apply wG);refine wH rfl ?_)))
  exact retM0 rfl (.inl rfl) (ls_end rfl rfl rfl rfl rfl rfl rfl rfl rfl rfl)
theorem m_match (l : List Cb) (r : Rl) (hl : l.length ≤ 100000000) (q : Nat → Option (Nat × Nat)) : MDoes Tryz.prog 115 [.agg [.own 200 0 0], .agg (cRl r)] (gl q [200, 202] (lsB l)) (.tup []) (gl q [200, 202] (lsB (addC l r.mat))) := by
 refine MDoes.of_body Tryz.func115 rfl (by kernel_rfl) rfl rfl ?_
 skip;(repeat(first|(with_reducible first|apply wA|apply wB|apply wC|(apply wD;first|(refine wE ⟨?_,?_⟩;· kernel_rfl)|apply wE))|((with_reducible first|apply wF|apply wG);refine wH rfl ?_)))
 refine RG.ownN [(200, 200), (201, 201), (202, 202)] [(200, 200), (201, 201), (202, 202)] (fun q => m_add l r.mat hl q) rfl rfl rfl rfl rfl rfl rfl rfl rfl rfl ?_
 refine wH rfl ?_;(repeat(first|(with_reducible first|apply wA|apply wB|apply wC|(apply wD;first|(refine wE ⟨?_,?_⟩;· kernel_rfl)|apply wE))|((with_reducible first|apply wF|apply wG);refine wH rfl ?_)))
 exact retM0 rfl (.inl rfl) (ls_end rfl rfl rfl rfl rfl rfl rfl rfl rfl rfl)
def setC (l : List Cb) (r : Rl) : List Cb := bif decide (r.act.set = Cb.zero) then l else addC l r.act.set
theorem m_set (l : List Cb) (r : Rl) (hl : l.length ≤ 100000000) (q : Nat → Option (Nat × Nat)) : MDoes Tryz.prog 154 [.agg [.own 200 0 0], .agg (cRl r)] (gl q [200, 202] (lsB l)) (.tup []) (gl q [200, 202] (lsB (setC l r))) := by
  refine MDoes.of_body Tryz.func154 rfl (by kernel_rfl) rfl rfl ?_
  by_cases h : r.act.set = Cb.zero
  · have e : setC l r = l := by rw [setC, decide_eq_true h]; rfl
    rw [e]
    skip;(repeat(first|(with_reducible first|apply wA|apply wB|apply wC|(apply wD;first|(refine wE ⟨?_,?_⟩;· kernel_rfl)|apply wE))|((with_reducible first|apply wF|apply wG);refine wH rfl ?_)))
    refine RG.opS rfl (op_neG rfl ty_ok (by kernel_rfl) (by kernel_rfl) rfl rfl (eq_Cb r.act.set Cb.zero) (congrArg Bool.not (decide_eq_true h))) rfl ?_
    refine wH rfl ?_;(repeat(first|(with_reducible first|apply wA|apply wB|apply wC|(apply wD;first|(refine wE ⟨?_,?_⟩;· kernel_rfl)|apply wE))|((with_reducible first|apply wF|apply wG);refine wH rfl ?_)))
    refine AW.condF rfl ?_; skip;(repeat(first|(with_reducible first|apply wA|apply wB|apply wC|(apply wD;first|(refine wE ⟨?_,?_⟩;· kernel_rfl)|apply wE))|((with_reducible first|apply wF|apply wG);refine wH rfl ?_)))
    exact retM0 rfl (.inl rfl) (ls_end rfl rfl rfl rfl rfl rfl rfl rfl rfl rfl)
  · have e : setC l r = addC l r.act.set := by rw [setC, decide_eq_false h]; rfl
    rw [e]
    skip;(repeat(first|(with_reducible first|apply wA|apply wB|apply wC|(apply wD;first|(refine wE ⟨?_,?_⟩;· kernel_rfl)|apply wE))|((with_reducible first|apply wF|apply wG);refine wH rfl ?_)))
    refine RG.opS rfl (op_neG rfl ty_ok (by kernel_rfl) (by kernel_rfl) rfl rfl (eq_Cb r.act.set Cb.zero) (congrArg Bool.not (decide_eq_false h))) rfl ?_
    refine wH rfl ?_;(repeat(first|(with_reducible first|apply wA|apply wB|apply wC|(apply wD;first|(refine wE ⟨?_,?_⟩;· kernel_rfl)|apply wE))|((with_reducible first|apply wF|apply wG);refine wH rfl ?_)))
    refine AW.condT rfl ?_; skip;(repeat(first|(with_reducible first|apply wA|apply wB|apply wC|(apply wD;first|(refine wE ⟨?_,?_⟩;· kernel_rfl)|apply wE))|((with_reducible first|apply wF|apply wG);refine wH rfl ?_)))
    refine RG.ownN [(200, 200), (201, 201), (202, 202)] [(200, 200), (201, 201), (202, 202)] (fun q => m_add l r.act.set hl q) rfl rfl rfl rfl rfl rfl rfl rfl rfl rfl ?_
    refine wH rfl ?_;(repeat(first|(with_reducible first|apply wA|apply wB|apply wC|(apply wD;first|(refine wE ⟨?_,?_⟩;· kernel_rfl)|apply wE))|((with_reducible first|apply wF|apply wG);refine wH rfl ?_)))
    exact retM0 rfl (.inl rfl) (ls_end rfl rfl rfl rfl rfl rfl rfl rfl rfl rfl)
theorem addC_len (l : List Cb) (x : Cb) : (addC l x).length ≤ l.length + 1 := by
 rw [addC]
 cases decide (x ∈ l)
 ·simp
 ·simp
theorem setC_len (l : List Cb) (r : Rl) : (setC l r).length ≤ l.length + 1 := by
 rw [setC]
 cases decide (r.act.set = Cb.zero)
 ·exact addC_len l _
 ·simp
theorem Rn.fnAgg {σ σ' : Sto} {x : AV} {f : FuncId} {id ep ep' off : Nat} {bd bd' : Body} (e : x = .fn f [.agg [.own id ep off]] []) (h : σ id = ⟨ep, some bd⟩) (h' : σ' id = ⟨ep', some bd'⟩) : Rn σ σ' x (.fn f [.agg [.own id ep' off]] []) := by
 subst e
 refine .fn rfl rfl (fun j x x' h1 h2 => ?_) (fun j x x' h1 h2 => by cases h1)
 match j with
 | 0 =>
  cases h1; cases h2
  refine .agg rfl (fun j x h1 => ?_) (fun j x x' h1 h2 => ?_)
  ·match j with
   | 0 => cases h1; rfl
   | j + 1 => cases h1
  ·match j with
   | 0 => cases h1; cases h2; exact .own h h'
   | j + 1 => cases h1
 | j + 1 => cases h1
theorem m_rules (F : Nat) (step : List Cb → Rl → List Cb) (hstep : ∀ l r, (step l r).length ≤ l.length + 1) (H : ∀ l r, l.length ≤ 100000000 → ∀ q, MDoes Tryz.prog F [.agg [.own 200 0 0], .agg (cRl r)] (gl q [200, 202] (lsB l)) (.tup []) (gl q [200, 202] (lsB (step l r)))) (c : Cf) (l : List Cb) (hl : l.length + (rulesOf c).length ≤ 100000000) (q : Nat → Option (Nat × Nat)) :
    MDoes Tryz.prog 114 [.agg (cCf c), .fn F [.agg [.own 200 0 0]] []] (gl q [200, 202] (lsB l)) (.tup []) (gl q [200, 202] (lsB ((rulesOf c).foldl step l))) := by
  refine MDoes.of_body Tryz.func114 rfl (by kernel_rfl) rfl rfl ?_
  skip;(repeat(first|(with_reducible first|apply wA|apply wB|apply wC|(apply wD;first|(refine wE ⟨?_,?_⟩;· kernel_rfl)|apply wE))|((with_reducible first|apply wF|apply wG);refine wH rfl ?_)))
  refine AW.lens 11 rfl fun hm1 => ?_
  rw [List.length_map] at hm1
  generalize hG : (rulesOf c).foldl step l = G
  refine AW.loopL (ι := Nat × List Cb) (fun i => [(1, .fn F [.agg [.own 200 0 0]] []), (11, .sl (c.tables.map cTab)), (12, .i .i64 (c.tables.map cTab).length), (13, .i .i64 (i.1 : Nat))]) (fun i => gl q [200, 202] (lsB i.2)) (fun i => i.1 ≤ c.tables.length ∧ i.2.length + ((c.tables.drop i.1).flatten.flatten).length ≤ 100000000 ∧ ((c.tables.drop i.1).flatten.flatten).foldl step i.2 = G) (fun i => c.tables.length - i.1) (0, l) ⟨Nat.zero_le _, hl, hG⟩ ⟨Rn.fnAgg rfl rfl rfl, Rn.is rfl rfl, Rn.is rfl rfl, Rn.is rfl rfl, trivial⟩ (ls_end rfl rfl rfl rfl rfl rfl rfl rfl rfl rfl) fun i hi => ?_
  clear hG hl
  obtain ⟨k, l⟩ := i
  obtain ⟨hk, hb, hf⟩ := hi
  simp only at hk hb hf
  skip;(repeat(first|(with_reducible first|apply wA|apply wB|apply wC|(apply wD;first|(refine wE ⟨?_,?_⟩;· kernel_rfl)|apply wE))|((with_reducible first|apply wF|apply wG);refine wH rfl ?_)))
  refine AW.cond rfl (fun h0 => ?_) (fun h0 => ?_)
  rotate_left
  · have h : ¬ k < c.tables.length := by simpa using h0
    obtain rfl : k = c.tables.length := by omega
    rw [List.drop_length] at hf
    subst hf
    skip;(repeat(first|(with_reducible first|apply wA|apply wB|apply wC|(apply wD;first|(refine wE ⟨?_,?_⟩;· kernel_rfl)|apply wE))|((with_reducible first|apply wF|apply wG);refine wH rfl ?_)))
    refine AW.exit ?_; refine Eq.mpr (if_pos rfl) ?_; skip;(repeat(first|(with_reducible first|apply wA|apply wB|apply wC|(apply wD;first|(refine wE ⟨?_,?_⟩;· kernel_rfl)|apply wE))|((with_reducible first|apply wF|apply wG);refine wH rfl ?_)))
    exact retM0 rfl (.inl rfl) (ls_end rfl rfl rfl rfl rfl rfl rfl rfl rfl rfl)
  have h : k < c.tables.length := by simpa using h0
  rw [List.drop_eq_getElem_cons h, List.flatten_cons, List.flatten_append] at hf hb
  skip;(repeat(first|(with_reducible first|apply wA|apply wB|apply wC|(apply wD;first|(refine wE ⟨?_,?_⟩;· kernel_rfl)|apply wE))))
  refine AW.text ?_
  refine RG.opS rfl (op_index rfl (tab_ok ty_ok rfl) rfl (tab_ok ty_ok rfl) rfl rfl (show (c.tables.map cTab)[k]? = some (cTab c.tables[k]) by rw [List.getElem?_map, List.getElem?_eq_getElem (by assumption)]; rfl) rfl) rfl ?_
  generalize c.tables[k] = tab at hf hb
  generalize hR : (c.tables.drop (k + 1)).flatten.flatten = R at hf hb
  refine wH rfl ?_;(repeat(first|(with_reducible first|apply wA|apply wB|apply wC|(apply wD;first|(refine wE ⟨?_,?_⟩;· kernel_rfl)|apply wE))|((with_reducible first|apply wF|apply wG);refine wH rfl ?_)))
  refine AW.lens 17 rfl fun hm2 => ?_
  rw [List.length_map] at hm2
  refine AW.loopL (ι := Nat × List Cb) (fun i => [(1, .fn F [.agg [.own 200 0 0]] []), (11, .sl (c.tables.map cTab)), (12, .i .i64 (c.tables.map cTab).length), (13, .i .i64 (k : Nat)), (17, .sl (tab.map cRls)), (18, .i .i64 (tab.map cRls).length), (19, .i .i64 (i.1 : Nat))]) (fun i => gl q [200, 202] (lsB i.2)) (fun i => i.1 ≤ tab.length ∧ i.2.length + ((tab.drop i.1).flatten ++ R).length ≤ 100000000 ∧ ((tab.drop i.1).flatten ++ R).foldl step i.2 = G) (fun i => tab.length - i.1) (0, l) ⟨Nat.zero_le _, hb, hf⟩ ⟨Rn.fnAgg rfl rfl rfl, Rn.is rfl rfl, Rn.is rfl rfl, Rn.is rfl rfl, Rn.is rfl rfl, Rn.is rfl rfl, Rn.is rfl rfl, trivial⟩ (ls_end rfl rfl rfl rfl rfl rfl rfl rfl rfl rfl) fun i hi => ?_
  clear hf hb
  obtain ⟨j, l⟩ := i
  obtain ⟨hj, hb, hf⟩ := hi
  simp only at hj hb hf
  skip;(repeat(first|(with_reducible first|apply wA|apply wB|apply wC|(apply wD;first|(refine wE ⟨?_,?_⟩;· kernel_rfl)|apply wE))|((with_reducible first|apply wF|apply wG);refine wH rfl ?_)))
  refine AW.cond rfl (fun h1 => ?_) (fun h1 => ?_)
  rotate_left
  · have h' : ¬ j < tab.length := by simpa using h1
    obtain rfl : j = tab.length := by omega
    rw [List.drop_length] at hf hb
    skip;(repeat(first|(with_reducible first|apply wA|apply wB|apply wC|(apply wD;first|(refine wE ⟨?_,?_⟩;· kernel_rfl)|apply wE))|((with_reducible first|apply wF|apply wG);refine wH rfl ?_)))
    refine AW.exit ?_; refine Eq.mpr (if_pos rfl) ?_; skip;(repeat(first|(with_reducible first|apply wA|apply wB|apply wC|(apply wD;first|(refine wE ⟨?_,?_⟩;· kernel_rfl)|apply wE))|((with_reducible first|apply wF|apply wG);refine wH rfl ?_)))
    refine ⟨(k + 1, l), ⟨⟨h, ?_, ?_⟩, by show c.tables.length - (k + 1) < c.tables.length - k; omega⟩, ⟨Rn.fnAgg rfl rfl rfl, Rn.is rfl rfl, Rn.is rfl rfl, Rn.is (i64_next h hm1) rfl, trivial⟩, ls_end rfl rfl rfl rfl rfl rfl rfl rfl rfl rfl⟩
    · rw [hR]; exact hb
    · rw [hR]; exact hf
  have h' : j < tab.length := by simpa using h1
  rw [List.drop_eq_getElem_cons h', List.flatten_cons, List.append_assoc] at hf hb
  skip;(repeat(first|(with_reducible first|apply wA|apply wB|apply wC|(apply wD;first|(refine wE ⟨?_,?_⟩;· kernel_rfl)|apply wE))))
  refine AW.text ?_
  refine RG.opS rfl (op_index rfl (tab_ok ty_ok rfl) rfl (tab_ok ty_ok rfl) rfl rfl (show (tab.map cRls)[j]? = some (cRls tab[j]) by rw [List.getElem?_map, List.getElem?_eq_getElem (by assumption)]; rfl) rfl) rfl ?_
  generalize tab[j] = rls at hf hb
  generalize hR2 : (tab.drop (j + 1)).flatten ++ R = R2 at hf hb
  refine wH rfl ?_;(repeat(first|(with_reducible first|apply wA|apply wB|apply wC|(apply wD;first|(refine wE ⟨?_,?_⟩;· kernel_rfl)|apply wE))|((with_reducible first|apply wF|apply wG);refine wH rfl ?_)))
  refine AW.lens 23 rfl fun hm3 => ?_
  rw [List.length_map] at hm3
  refine AW.loopL (ι := Nat × List Cb) (fun i => [(1, .fn F [.agg [.own 200 0 0]] []), (11, .sl (c.tables.map cTab)), (12, .i .i64 (c.tables.map cTab).length), (13, .i .i64 (k : Nat)), (17, .sl (tab.map cRls)), (18, .i .i64 (tab.map cRls).length), (19, .i .i64 (j : Nat)), (23, .sl (rls.map cRl)), (24, .i .i64 (rls.map cRl).length), (25, .i .i64 (i.1 : Nat))]) (fun i => gl q [200, 202] (lsB i.2)) (fun i => i.1 ≤ rls.length ∧ i.2.length + (rls.drop i.1 ++ R2).length ≤ 100000000 ∧ (rls.drop i.1 ++ R2).foldl step i.2 = G) (fun i => rls.length - i.1) (0, l) ⟨Nat.zero_le _, hb, hf⟩ ⟨Rn.fnAgg rfl rfl rfl, Rn.is rfl rfl, Rn.is rfl rfl, Rn.is rfl rfl, Rn.is rfl rfl, Rn.is rfl rfl, Rn.is rfl rfl, Rn.is rfl rfl, Rn.is rfl rfl, Rn.is rfl rfl, trivial⟩ (ls_end rfl rfl rfl rfl rfl rfl rfl rfl rfl rfl) fun i hi => ?_
  clear hf hb
  obtain ⟨m, l⟩ := i
  obtain ⟨hmm, hb, hf⟩ := hi
  simp only at hmm hb hf
  skip;(repeat(first|(with_reducible first|apply wA|apply wB|apply wC|(apply wD;first|(refine wE ⟨?_,?_⟩;· kernel_rfl)|apply wE))|((with_reducible first|apply wF|apply wG);refine wH rfl ?_)))
  refine AW.cond rfl (fun h2 => ?_) (fun h2 => ?_)
  rotate_left
  · have h'' : ¬ m < rls.length := by simpa using h2
    obtain rfl : m = rls.length := by omega
    rw [List.drop_length] at hf hb
    skip;(repeat(first|(with_reducible first|apply wA|apply wB|apply wC|(apply wD;first|(refine wE ⟨?_,?_⟩;· kernel_rfl)|apply wE))|((with_reducible first|apply wF|apply wG);refine wH rfl ?_)))
    refine AW.exit ?_; refine Eq.mpr (if_pos rfl) ?_; skip;(repeat(first|(with_reducible first|apply wA|apply wB|apply wC|(apply wD;first|(refine wE ⟨?_,?_⟩;· kernel_rfl)|apply wE))|((with_reducible first|apply wF|apply wG);refine wH rfl ?_)))
    refine ⟨(j + 1, l), ⟨⟨h', ?_, ?_⟩, by show tab.length - (j + 1) < tab.length - j; omega⟩, ⟨Rn.fnAgg rfl rfl rfl, Rn.is rfl rfl, Rn.is rfl rfl, Rn.is rfl rfl, Rn.is rfl rfl, Rn.is rfl rfl, Rn.is (i64_next h' hm2) rfl, trivial⟩, ls_end rfl rfl rfl rfl rfl rfl rfl rfl rfl rfl⟩
    · rw [hR2]; exact hb
    · rw [hR2]; exact hf
  have h'' : m < rls.length := by simpa using h2
  rw [List.drop_eq_getElem_cons h''] at hf hb
  skip;(repeat(first|(with_reducible first|apply wA|apply wB|apply wC|(apply wD;first|(refine wE ⟨?_,?_⟩;· kernel_rfl)|apply wE))))
  refine AW.text ?_
  refine RG.opS rfl (op_index rfl (tab_ok ty_ok rfl) rfl (tab_ok ty_ok rfl) rfl rfl (show (rls.map cRl)[m]? = some (cRl rls[m]) by rw [List.getElem?_map, List.getElem?_eq_getElem (by assumption)]; rfl) rfl) rfl ?_
  generalize rls[m] = r at hf hb
  have hs := hstep l r
  rw [List.cons_append, List.length_cons] at hb
  rw [List.cons_append, List.foldl_cons] at hf
  refine wH rfl ?_;(repeat(first|(with_reducible first|apply wA|apply wB|apply wC|(apply wD;first|(refine wE ⟨?_,?_⟩;· kernel_rfl)|apply wE))|((with_reducible first|apply wF|apply wG);refine wH rfl ?_)))
  refine RG.ownN [(200, 200), (201, 201), (202, 202)] [(200, 200), (201, 201), (202, 202)] (fun q => H l r (by omega) q) rfl rfl rfl rfl rfl rfl rfl rfl rfl rfl ?_
  refine wH rfl ?_;(repeat(first|(with_reducible first|apply wA|apply wB|apply wC|(apply wD;first|(refine wE ⟨?_,?_⟩;· kernel_rfl)|apply wE))|((with_reducible first|apply wF|apply wG);refine wH rfl ?_)))
  exact ⟨(m + 1, step l r), ⟨⟨h'', by show (step l r).length + (rls.drop (m + 1) ++ R2).length ≤ 100000000; omega, hf⟩, by show rls.length - (m + 1) < rls.length - m; omega⟩, ⟨Rn.fnAgg rfl rfl rfl, Rn.is rfl rfl, Rn.is rfl rfl, Rn.is rfl rfl, Rn.is rfl rfl, Rn.is rfl rfl, Rn.is rfl rfl, Rn.is rfl rfl, Rn.is rfl rfl, Rn.is (i64_next h'' hm3) rfl, trivial⟩, ls_end rfl rfl rfl rfl rfl rfl rfl rfl rfl rfl⟩
end Go.Proofs.YtahjjfhjjbgjaaaGreat.Sm
end
section
namespace Go.Proofs.YtahjjfhjjbgjaaaGreat.Sm
open Go.RowKit
theorem op_indexR0 {P : Program} {N : Nat} {o : Oper} {s : St} (k : Nat) {α : Type} (cF : α → List AV) (l : List α) {t e id ep n : Nat} {ti ei : TI} {x i : Operand} {kd : IntKind} (hlt : k < n) (ho : o.op = .indexAddr t x i) (ht : TiOk P t ti) (hk : ti.k = .slice e) (he : TiOk P e ei) (hx : s.ev x = .row id ep 0 n) (hid : s.σ id = ⟨ep, some (.row e ei.n (l.map cF))⟩) (hi : s.ev i = .i kd (k : Int)) :
  OpLoc P N o s ⟨.el id ep k 0, [], [id]⟩ := by
 have h := op_indexR (N := N) ho ht hk he hx hid hi hlt rfl
 rw [Nat.zero_add] at h
 exact h
theorem op_loadRow {P : Program} {N : Nat} {o : Oper} {s : St} (k : Nat) {α : Type} (cF : α → List AV) (l : List α) (c : α) (hk : l[k]? = some c) {t ty m id ep : Nat} {ti : TI} {p : Operand} (ho : o.op = .load t p) (ht : TiOk P t ti) (hp : s.ev p = .el id ep k 0) (hid : s.σ id = ⟨ep, some (.row ty m (l.map cF))⟩) (hr : ldA ti (cF c) = some (.agg (cF c))) :
  OpLoc P N o s ⟨.agg (cF c), [], [id]⟩ := by
 refine op_load ho ht (cs := (cF c).drop 0) (by rw [hp]; exact .el hid (by rw [List.getElem?_map, hk]; rfl)) ?_
 rw [List.drop_zero]
 exact hr
theorem op_storeRow {P : Program} {N : Nat} {o : Oper} {s : St} (k : Nat) {α : Type} (cF : α → List AV) (l : List α) (c : α) (hk : k < l.length) {t ty m id ep : Nat} {ti : TI} {p x : Operand} (ho : o.op = .store t p x) (ht : TiOk P t ti) (hp : s.ev p = .el id ep k 0) (hid : s.σ id = ⟨ep, some (.row ty m (l.map cF))⟩) (hx : s.ev x = .agg (cF c))
  (h1 : (cF c).all AV.one = true) (h2 : (cF c).all AV.pu1 = true) (hn : ∀ y, (cF y).length = ti.n) : OpLoc P N o s ⟨.tup [], [(id, ⟨ep, some (.row ty m ((l.set k c).map cF))⟩)], []⟩ := by
 have hkk : (l.map cF)[k]? = some (cF l[k]) := by rw [List.getElem?_map, List.getElem?_eq_getElem hk]; rfl
 have h := op_storeE (N := N) ho ht hp hid hkk (by rw [hx]; rfl) h1 h2 (hn c) (by rw [hn]; omega)
 have e : ovw (cF l[k]) 0 (cF c) = cF c := by
  apply List.ext_getElem?
  intro i
  rw [ovw_get _ _ _ _ (by rw [hn, hn]; omega), hn]
  by_cases h : i < ti.n
  ·rw [if_pos (by omega), Nat.sub_zero]
  ·rw [if_neg (by omega), List.getElem?_eq_none (by rw [hn]; omega), List.getElem?_eq_none (by rw [hn]; omega)]
 rw [e] at h
 rw [List.map_set]
 exact h
def wideI (a b : Cb) : Int := IntKind.i64.wrap (a.care.ones - b.care.ones)
theorem d_wide (a b : Cb) : PDoes Tryz.prog 119 [.agg (cCb a), .agg (cCb b)] (.i .i64 (wideI a b)) := by
 refine PDoes.of_bodyN Tryz.func119 rfl (by kernel_rfl) rfl rfl ?_
 skip;(repeat(first|(with_reducible first|apply wA|apply wB|apply wC|(apply wD;first|(refine wE ⟨?_,?_⟩;· kernel_rfl)|apply wE))|((with_reducible first|apply wF|apply wG);refine wH rfl ?_)))
 refine RG.callS rfl rfl rfl rfl rfl (d_Ones a.care) rfl rfl ?_
 refine wH rfl ?_
 refine RG.callS rfl rfl rfl rfl rfl (d_Ones b.care) rfl rfl ?_
 refine wH rfl ?_;(repeat(first|(with_reducible first|apply wA|apply wB|apply wC|(apply wD;first|(refine wE ⟨?_,?_⟩;· kernel_rfl)|apply wE))|((with_reducible first|apply wF|apply wG);refine wH rfl ?_)))
 refine AW.ret (retQA ty_ok rfl rfl rfl ?_)
 rfl
def swapC (m : List Cb) (j : Nat) : List Cb := (m.set (j + 1) (m.getD j Cb.zero)).set j (m.getD (j + 1) Cb.zero)
def insIn (m : List Cb) : Nat → List Cb
 | 0 => m
 | j + 1 => bif decide (wideI (m.getD (j + 1) Cb.zero) (m.getD j Cb.zero) < 0) then insIn (swapC m j) j else m
def insOut : Nat → Nat → List Cb → List Cb
 | 0, _, m => m
 | f + 1, i, m => insOut f (i + 1) (insIn m i)
def insS (m : List Cb) : List Cb := insOut (m.length - 1) 1 m
theorem swapC_len (m : List Cb) (j : Nat) : (swapC m j).length = m.length := by simp [swapC]
theorem insIn_len : ∀ (j : Nat) (m : List Cb), (insIn m j).length = m.length
 | 0, m => rfl
 | j + 1, m => by
  rw [insIn]
  cases decide (wideI (m.getD (j + 1) Cb.zero) (m.getD j Cb.zero) < 0)
  ·rfl
  ·rw [cond_true, insIn_len j, swapC_len]
theorem getD_eq {m : List Cb} {j : Nat} (h : j < m.length) : m.getD j Cb.zero = m[j] := by
 rw [List.getD_eq_getElem?_getD, List.getElem?_eq_getElem h]; rfl
theorem swapC_perm (m : List Cb) (j : Nat) (h : j + 1 < m.length) : (swapC m j).Perm m := by
 rw [swapC, getD_eq h, getD_eq (by omega)]
 exact List.set_set_perm h (by omega)
theorem insIn_perm : ∀ (j : Nat) (m : List Cb), j < m.length → (insIn m j).Perm m
 | 0, m, _ => List.Perm.refl m
 | j + 1, m, h => by
  rw [insIn]
  cases decide (wideI (m.getD (j + 1) Cb.zero) (m.getD j Cb.zero) < 0)
  ·exact List.Perm.refl m
  ·exact (insIn_perm j _ (by rw [swapC_len]; omega)).trans (swapC_perm m j h)
theorem insOut_perm : ∀ (f i : Nat) (m : List Cb), i + f ≤ m.length → (insOut f i m).Perm m
 | 0, _, m, _ => List.Perm.refl m
 | f + 1, i, m, h => by
  rw [insOut]
  exact (insOut_perm f (i + 1) _ (by rw [insIn_len]; omega)).trans (insIn_perm i m (by omega))
theorem insS_perm (m : List Cb) : (insS m).Perm m := by
 cases m with
 | nil => exact List.Perm.refl _
 | cons x m => exact insOut_perm _ 1 _ (by simp; omega)
def srB (m0 : List Cb) (n : Nat) (l : List Cb) : List (Nat × SB) := [(200, ⟨0, some (.box 185 [.row 201 0 0 n, .ref 202 0 .map])⟩), (201, ⟨0, some (.row 50 4 (l.map cCb))⟩), (202, ⟨0, some (mapO m0)⟩)]
theorem sr_end {s : St} {q : Nat → Option (Nat × Nat)} {m0 l : List Cb} {e e1 e1' e2 e2' g g2 n : Nat} {els : List (List AV)} {o : Body} (h0 : s.σ 200 = ⟨e, some (.box 185 [.row 201 e1 0 n, .ref 202 e2 .map])⟩) (h1 : s.σ 201 = ⟨e1', some (.row 50 4 els)⟩) (h2 : s.σ 202 = ⟨e2', some o⟩)
  (hg : s.σ 1100 = ⟨g, some (.ghost 200 e (q 200))⟩) (hg2 : s.σ 1102 = ⟨g2, some (.ghost 202 e2' (q 202))⟩)
  (he : e1 = e1') (he2 : e2 = e2') (hel : els = l.map cCb) (ho : o = mapO m0) : WkB s (lkB (gl q [200, 202] (srB m0 n l))) (gl q [200, 202] (srB m0 n l)) := by
 subst he he2 hel ho
 exact ⟨.ghost hg h0 rfl, .ghost hg2 h2 rfl, .boxL h0 ⟨Rn.rowIs rfl h1 rfl, Rn.refIs rfl h2 rfl, trivial⟩ rfl, .row h1 rfl, .obj h2 rfl, trivial⟩
theorem m_insert (m0 l : List Cb) (n : Nat) (hn : n = (l.map cCb).length) (hl : n ≤ 100000000) (q : Nat → Option (Nat × Nat)) : MDoes Tryz.prog 179 [.row 201 0 0 n, .i .i64 0, .i .i64 (n : Nat), .fn 119 [] []] (gl q [200, 202] (srB m0 n l)) (.tup []) (gl q [200, 202] (srB m0 n (insS l))) := by
 refine MDoes.of_body Tryz.func179 rfl (by kernel_rfl) rfl rfl ?_
 generalize hG : insS l = G
 have hn' : n = l.length := by rw [hn, List.length_map]
 skip;(repeat(first|(with_reducible first|apply wA|apply wB|apply wC|(apply wD;first|(refine wE ⟨?_,?_⟩;· kernel_rfl)|apply wE))|((with_reducible first|apply wF|apply wG);refine wH rfl ?_)))
 refine AW.loopL (ι := Nat × List Cb) (fun i => [(0, .row 201 0 0 n), (1, .i .i64 0), (2, .i .i64 (n : Nat)), (3, .fn 119 [] []), (8, .i .i64 ((i.1 + 1 : Nat) : Int))]) (fun i => gl q [200, 202] (srB m0 n i.2)) (fun i => i.2.length = n ∧ insOut (n - (i.1 + 1)) (i.1 + 1) i.2 = G) (fun i => n - i.1) (0, l) ⟨hn'.symm, by rw [← hG, insS, hn']⟩ ⟨Rn.rowIs rfl rfl rfl, Rn.is rfl rfl, Rn.is rfl rfl, Rn.fnF rfl rfl, Rn.is rfl rfl, trivial⟩ (sr_end rfl rfl rfl rfl rfl rfl rfl rfl rfl) fun i hi => ?_
 obtain ⟨k, m⟩ := i
 obtain ⟨hm, hf⟩ := hi
 simp only at hm hf
 skip;(repeat(first|(with_reducible first|apply wA|apply wB|apply wC|(apply wD;first|(refine wE ⟨?_,?_⟩;· kernel_rfl)|apply wE))|((with_reducible first|apply wF|apply wG);refine wH rfl ?_)))
 refine AW.cond rfl (fun h0 => ?_) (fun h0 => ?_)
 rotate_left
 ·have h : ¬ k + 1 < n := by
   have := of_decide_eq_false h0
   omega
  rw [show n - (k + 1) = 0 by omega, insOut] at hf
  subst hf
  skip;(repeat(first|(with_reducible first|apply wA|apply wB|apply wC|(apply wD;first|(refine wE ⟨?_,?_⟩;· kernel_rfl)|apply wE))|((with_reducible first|apply wF|apply wG);refine wH rfl ?_)))
  refine AW.exit ?_; refine Eq.mpr (if_pos rfl) ?_; skip;(repeat(first|(with_reducible first|apply wA|apply wB|apply wC|(apply wD;first|(refine wE ⟨?_,?_⟩;· kernel_rfl)|apply wE))|((with_reducible first|apply wF|apply wG);refine wH rfl ?_)))
  exact retM0 rfl (.inl rfl) (sr_end rfl rfl rfl rfl rfl rfl rfl rfl rfl)
 have h : k + 1 < n := by
  have := of_decide_eq_true h0
  omega
 rw [show n - (k + 1) = n - (k + 1 + 1) + 1 by omega, insOut] at hf
 skip;(repeat(first|(with_reducible first|apply wA|apply wB|apply wC|(apply wD;first|(refine wE ⟨?_,?_⟩;· kernel_rfl)|apply wE))|((with_reducible first|apply wF|apply wG);refine wH rfl ?_)))
 refine AW.loopL (ι := Nat × List Cb) (fun i => [(0, .row 201 0 0 n), (1, .i .i64 0), (2, .i .i64 (n : Nat)), (3, .fn 119 [] []), (8, .i .i64 ((k + 1 : Nat) : Int)), (9, .i .i64 (i.1 : Nat))]) (fun i => gl q [200, 202] (srB m0 n i.2)) (fun i => (i.1 ≤ k + 1 ∧ i.2.length = n) ∧ insOut (n - (k + 1 + 1)) (k + 1 + 1) (insIn i.2 i.1) = G) (fun i => i.1) (k + 1, m) ⟨⟨Nat.le_refl _, hm⟩, hf⟩ ⟨Rn.rowIs rfl rfl rfl, Rn.is rfl rfl, Rn.is rfl rfl, Rn.fnF rfl rfl, Rn.is rfl rfl, Rn.is rfl rfl, trivial⟩ (sr_end rfl rfl rfl rfl rfl rfl rfl rfl rfl) fun i hi => ?_
 clear hf hm
 obtain ⟨j, m⟩ := i
 obtain ⟨⟨hj, hm⟩, hf⟩ := hi
 simp only at hj hm hf
 skip;(repeat(first|(with_reducible first|apply wA|apply wB|apply wC|(apply wD;first|(refine wE ⟨?_,?_⟩;· kernel_rfl)|apply wE))))
 cases j with
 | zero =>
  rw [insIn] at hf
  have g1 : ¬ (((0 : Nat) : Int) > 0) := by omega
  refine AW.draws mixed_ok ?_
  refine RG.runO ty_ok 0 [(20, .b false)] 400 rfl (by repeat' (first|exact trivial|apply And.intro|exact dT ‹_›|exact dF ‹_›|exact dN ‹_›|exact dM ‹_›|exact dI ‹_›)) ?_
  skip;(repeat(first|(with_reducible first|apply wA|apply wB|apply wC|(apply wD;first|(refine wE ⟨?_,?_⟩;· kernel_rfl)|apply wE))))
  refine AW.condF rfl ?_; skip;(repeat(first|(with_reducible first|apply wA|apply wB|apply wC|(apply wD;first|(refine wE ⟨?_,?_⟩;· kernel_rfl)|apply wE))|((with_reducible first|apply wF|apply wG);refine wH rfl ?_)))
  refine AW.exit ?_; refine Eq.mpr (if_pos rfl) ?_; skip;(repeat(first|(with_reducible first|apply wA|apply wB|apply wC|(apply wD;first|(refine wE ⟨?_,?_⟩;· kernel_rfl)|apply wE))|((with_reducible first|apply wF|apply wG);refine wH rfl ?_)))
  exact ⟨(k + 1, m), ⟨⟨hm, hf⟩, by show n - (k + 1) < n - k; omega⟩, ⟨Rn.rowIs rfl rfl rfl, Rn.is rfl rfl, Rn.is rfl rfl, Rn.fnF rfl rfl, Rn.is (i64_next (show k + 1 < 100000000 by omega) (by decide)) rfl, trivial⟩, sr_end rfl rfl rfl rfl rfl rfl rfl rfl rfl⟩
 | succ j =>
  rw [insIn] at hf
  have g1 : ((j + 1 : Nat) : Int) > 0 := by omega
  have g2 : IntKind.i64.wrap (((j + 1 : Nat) : Int) - Int.ofNat 1) = (j : Nat) := by
   rw [IntKind.wrap_i64]
   simp only [Int.ofNat_eq_natCast]
   omega
  have e1 : m[j + 1]? = some (m.getD (j + 1) Cb.zero) := by rw [getD_eq (by omega)]; exact List.getElem?_eq_getElem _
  have e2 : m[j]? = some (m.getD j Cb.zero) := by rw [getD_eq (by omega)]; exact List.getElem?_eq_getElem _
  have hsw : swapC m j = (m.set (j + 1) (m.getD j Cb.zero)).set j (m.getD (j + 1) Cb.zero) := rfl
  generalize m.getD (j + 1) Cb.zero = a at hf e1 hsw
  generalize m.getD j Cb.zero = b at hf e2 hsw
  refine AW.draws mixed_ok ?_
  refine RG.runO ty_ok 0 [(20, .b true)] 400 rfl (by repeat' (first|exact trivial|apply And.intro|exact dT ‹_›|exact dF ‹_›|exact dN ‹_›|exact dM ‹_›|exact dI ‹_›)) ?_
  refine RG.opS rfl (op_indexR0 (j + 1) cCb (m) (by omega) rfl (tab_ok ty_ok rfl) rfl (tab_ok ty_ok rfl) rfl rfl rfl) rfl ?_
  refine RG.opS rfl (op_loadRow (j + 1) cCb (m) a e1 rfl (tab_ok ty_ok rfl) rfl rfl rfl) rfl ?_
  refine RG.runO ty_ok 0 [(29, .i .i64 (j : Nat))] 400 rfl (by repeat' (first|exact trivial|apply And.intro|exact dT ‹_›|exact dF ‹_›|exact dN ‹_›|exact dM ‹_›|exact dI ‹_›)) ?_
  refine RG.opS rfl (op_indexR0 (j) cCb (m) (by omega) rfl (tab_ok ty_ok rfl) rfl (tab_ok ty_ok rfl) rfl rfl rfl) rfl ?_
  refine RG.opS rfl (op_loadRow (j) cCb (m) b e2 rfl (tab_ok ty_ok rfl) rfl rfl rfl) rfl ?_
  refine wH rfl ?_
  refine RG.callS rfl rfl rfl rfl rfl (d_wide a b) rfl rfl ?_
  refine wH rfl ?_; skip;(repeat(first|(with_reducible first|apply wA|apply wB|apply wC|(apply wD;first|(refine wE ⟨?_,?_⟩;· kernel_rfl)|apply wE))))
  refine AW.cond rfl (fun h1 => ?_) (fun h1 => ?_)
  ·have h1 : wideI a b < 0 := of_decide_eq_true h1
   rw [decide_eq_true h1, cond_true, hsw] at hf
   skip;(repeat(first|(with_reducible first|apply wA|apply wB|apply wC|(apply wD;first|(refine wE ⟨?_,?_⟩;· kernel_rfl)|apply wE))))
   refine AW.draws mixed_ok ?_
   refine RG.runO ty_ok 0 [(41, .i .i64 (j : Nat)), (44, .i .i64 (j : Nat))] 400 rfl (by repeat' (first|exact trivial|apply And.intro|exact dT ‹_›|exact dF ‹_›|exact dN ‹_›|exact dM ‹_›|exact dI ‹_›)) ?_
   refine RG.opS rfl (op_indexR0 (j) cCb (m) (by omega) rfl (tab_ok ty_ok rfl) rfl (tab_ok ty_ok rfl) rfl rfl rfl) rfl ?_
   refine RG.opS rfl (op_loadRow (j) cCb (m) b e2 rfl (tab_ok ty_ok rfl) rfl rfl rfl) rfl ?_
   refine wH rfl ?_
   refine RG.opS rfl (op_indexR0 (j + 1) cCb (m) (by omega) rfl (tab_ok ty_ok rfl) rfl (tab_ok ty_ok rfl) rfl rfl rfl) rfl ?_
   refine RG.opS rfl (op_loadRow (j + 1) cCb (m) a e1 rfl (tab_ok ty_ok rfl) rfl rfl rfl) rfl ?_
   refine RG.opS rfl (op_indexR0 (j + 1) cCb (m) (by omega) rfl (tab_ok ty_ok rfl) rfl (tab_ok ty_ok rfl) rfl rfl rfl) rfl ?_
   refine RG.opS rfl (op_storeRow (j + 1) cCb (m) b (by omega) rfl (tab_ok ty_ok rfl) rfl rfl rfl rfl rfl (fun _ => rfl)) rfl ?_
   refine RG.opS rfl (op_indexR0 (j) cCb (m.set (j + 1) b) (by omega) rfl (tab_ok ty_ok rfl) rfl (tab_ok ty_ok rfl) rfl rfl rfl) rfl ?_
   refine RG.opS rfl (op_storeRow (j) cCb (m.set (j + 1) b) a (by rw [List.length_set]; omega) rfl (tab_ok ty_ok rfl) rfl rfl rfl rfl rfl (fun _ => rfl)) rfl ?_
   refine wH rfl ?_; skip;(repeat(first|(with_reducible first|apply wA|apply wB|apply wC|(apply wD;first|(refine wE ⟨?_,?_⟩;· kernel_rfl)|apply wE))))
   refine AW.text ?_
   refine RG.runO ty_ok 0 [(36, .i .i64 (j : Nat))] 400 rfl (by repeat' (first|exact trivial|apply And.intro|exact dT ‹_›|exact dF ‹_›|exact dN ‹_›|exact dM ‹_›|exact dI ‹_›)) ?_
   skip;(repeat(first|(with_reducible first|apply wA|apply wB|apply wC|(apply wD;first|(refine wE ⟨?_,?_⟩;· kernel_rfl)|apply wE))))
   exact ⟨(j, (m.set (j + 1) b).set j a), ⟨⟨⟨by show j ≤ k + 1; omega, by rw [List.length_set, List.length_set]; exact hm⟩, hf⟩, by show j < j + 1; omega⟩, ⟨Rn.rowIs rfl rfl rfl, Rn.is rfl rfl, Rn.is rfl rfl, Rn.fnF rfl rfl, Rn.is rfl rfl, Rn.is rfl rfl, trivial⟩, sr_end rfl rfl rfl rfl rfl rfl rfl rfl rfl⟩
  ·have h1 : ¬ wideI a b < 0 := of_decide_eq_false h1
   rw [decide_eq_false h1, cond_false] at hf
   skip;(repeat(first|(with_reducible first|apply wA|apply wB|apply wC|(apply wD;first|(refine wE ⟨?_,?_⟩;· kernel_rfl)|apply wE))|((with_reducible first|apply wF|apply wG);refine wH rfl ?_)))
   refine AW.exit ?_; refine Eq.mpr (if_pos rfl) ?_; skip;(repeat(first|(with_reducible first|apply wA|apply wB|apply wC|(apply wD;first|(refine wE ⟨?_,?_⟩;· kernel_rfl)|apply wE))|((with_reducible first|apply wF|apply wG);refine wH rfl ?_)))
   exact ⟨(k + 1, m), ⟨⟨hm, hf⟩, by show n - (k + 1) < n - k; omega⟩, ⟨Rn.rowIs rfl rfl rfl, Rn.is rfl rfl, Rn.is rfl rfl, Rn.fnF rfl rfl, Rn.is (i64_next (show k + 1 < 100000000 by omega) (by decide)) rfl, trivial⟩, sr_end rfl rfl rfl rfl rfl rfl rfl rfl rfl⟩
theorem m_stable (m0 l : List Cb) (n : Nat) (hn : n = (l.map cCb).length) (hl : n < 20) (q : Nat → Option (Nat × Nat)) : MDoes Tryz.prog 157 [.row 201 0 0 n, .i .i64 (n : Nat), .fn 119 [] []] (gl q [200, 202] (srB m0 n l)) (.tup []) (gl q [200, 202] (srB m0 n (insS l))) := by
 refine MDoes.of_body Tryz.func157 rfl (by kernel_rfl) rfl rfl ?_
 skip;(repeat(first|(with_reducible first|apply wA|apply wB|apply wC|(apply wD;first|(refine wE ⟨?_,?_⟩;· kernel_rfl)|apply wE))|((with_reducible first|apply wF|apply wG);refine wH rfl ?_)))
 refine AW.loopL (ι := Nat) (fun _ => [(0, .row 201 0 0 n), (1, .i .i64 (n : Nat)), (2, .fn 119 [] []), (6, .i .i64 20), (7, .i .i64 0), (8, .i .i64 20)]) (fun _ => gl q [200, 202] (srB m0 n l)) (fun _ => True) (fun _ => 0) 0 trivial ⟨Rn.rowIs rfl rfl rfl, Rn.is rfl rfl, Rn.fnF rfl rfl, Rn.is rfl rfl, Rn.is rfl rfl, Rn.is rfl rfl, trivial⟩ (sr_end rfl rfl rfl rfl rfl rfl rfl rfl rfl) fun _ _ => ?_
 skip;(repeat(first|(with_reducible first|apply wA|apply wB|apply wC|(apply wD;first|(refine wE ⟨?_,?_⟩;· kernel_rfl)|apply wE))|((with_reducible first|apply wF|apply wG);refine wH rfl ?_)))
 refine AW.cond rfl (fun h0 => ?_) (fun h0 => ?_)
 ·exact absurd (of_decide_eq_true h0) (by omega)
 skip;(repeat(first|(with_reducible first|apply wA|apply wB|apply wC|(apply wD;first|(refine wE ⟨?_,?_⟩;· kernel_rfl)|apply wE))|((with_reducible first|apply wF|apply wG);refine wH rfl ?_)))
 refine AW.exit ?_; refine Eq.mpr (if_pos rfl) ?_; skip;(repeat(first|(with_reducible first|apply wA|apply wB|apply wC|(apply wD;first|(refine wE ⟨?_,?_⟩;· kernel_rfl)|apply wE))|((with_reducible first|apply wF|apply wG);refine wH rfl ?_)))
 refine RG.ownN [(200, 200), (201, 201), (202, 202)] [(200, 200), (201, 201), (202, 202)] (fun q => m_insert m0 l n hn (by omega) q) rfl rfl rfl rfl rfl rfl rfl rfl rfl rfl ?_
 refine wH rfl ?_;(repeat(first|(with_reducible first|apply wA|apply wB|apply wC|(apply wD;first|(refine wE ⟨?_,?_⟩;· kernel_rfl)|apply wE))|((with_reducible first|apply wF|apply wG);refine wH rfl ?_)))
 refine AW.loopL (ι := Nat) (fun _ => [(1, .i .i64 (n : Nat)), (6, .i .i64 20)]) (fun _ => gl q [200, 202] (srB m0 n (insS l))) (fun _ => True) (fun _ => 0) 0 trivial ⟨Rn.is rfl rfl, Rn.is rfl rfl, trivial⟩ (sr_end rfl rfl rfl rfl rfl rfl rfl rfl rfl) fun _ _ => ?_
 skip;(repeat(first|(with_reducible first|apply wA|apply wB|apply wC|(apply wD;first|(refine wE ⟨?_,?_⟩;· kernel_rfl)|apply wE))|((with_reducible first|apply wF|apply wG);refine wH rfl ?_)))
 refine AW.cond rfl (fun h1 => ?_) (fun h1 => ?_)
 ·exact absurd (of_decide_eq_true h1) (by omega)
 skip;(repeat(first|(with_reducible first|apply wA|apply wB|apply wC|(apply wD;first|(refine wE ⟨?_,?_⟩;· kernel_rfl)|apply wE))|((with_reducible first|apply wF|apply wG);refine wH rfl ?_)))
 refine AW.exit ?_; refine Eq.mpr (if_pos rfl) ?_; skip;(repeat(first|(with_reducible first|apply wA|apply wB|apply wC|(apply wD;first|(refine wE ⟨?_,?_⟩;· kernel_rfl)|apply wE))|((with_reducible first|apply wF|apply wG);refine wH rfl ?_)))
 exact retM0 rfl (.inl rfl) (sr_end rfl rfl rfl rfl rfl rfl rfl rfl rfl)
def MSort (l l' : List Cb) : Prop := ∀ (m0 : List Cb) (n : Nat), n = (l.map cCb).length → ∀ q, MDoes Tryz.prog 118 [.row 201 0 0 n, .fn 119 [] []] (gl q [200, 202] (srB m0 n l)) (.tup []) (gl q [200, 202] (srB m0 n l'))
theorem sort_few (l : List Cb) (hl : l.length < 20) : MSort l (insS l) := by
 intro m0 n hn q
 have hS := m_stable m0 l n hn (by rw [hn, List.length_map]; exact hl)
 refine MDoes.of_body Tryz.func118 rfl (by kernel_rfl) rfl rfl ?_
 skip;(repeat(first|(with_reducible first|apply wA|apply wB|apply wC|(apply wD;first|(refine wE ⟨?_,?_⟩;· kernel_rfl)|apply wE))|((with_reducible first|apply wF|apply wG);refine wH rfl ?_)))
 refine RG.ownN [(200, 200), (201, 201), (202, 202)] [(200, 200), (201, 201), (202, 202)] hS rfl rfl rfl rfl rfl rfl rfl rfl rfl rfl ?_
 refine wH rfl ?_;(repeat(first|(with_reducible first|apply wA|apply wB|apply wC|(apply wD;first|(refine wE ⟨?_,?_⟩;· kernel_rfl)|apply wE))|((with_reducible first|apply wF|apply wG);refine wH rfl ?_)))
 exact retM0 rfl (.inl rfl) (sr_end rfl rfl rfl rfl rfl rfl rfl rfl rfl)
end Go.Proofs.YtahjjfhjjbgjaaaGreat.Sm
end
section
namespace Go.Proofs.YtahjjfhjjbgjaaaGreat.Sm
open Go.RowKit
def Cf.Small (c : Cf) : Prop := ∀ t ∈ c.tables, t.flatten.length ≤ 1000000000000000
theorem countT_len : ∀ (t : List (List Rl)) (n : Nat), n + t.flatten.length ≤ 4000000000000000 → countT t n = ((n + t.flatten.length : Nat) : Int)
 | [], n, _ => by simp [countT]
 | l :: t, n, h => by
  rw [List.flatten_cons, List.length_append] at h ⊢
  have e : IntKind.i64.wrap ((n : Int) + (l.length : Nat)) = ((n + l.length : Nat) : Int) := by
   rw [IntKind.wrap_i64]
   omega
  rw [countT, e, countT_len t _ (by omega)]
  congr 1
  omega
theorem flat_bound {α : Type} {m : Nat} : ∀ (l : List (List α)), (∀ x ∈ l, x.length ≤ m) → l.flatten.length ≤ m * l.length
 | [], _ => by simp
 | x :: l, h => by
  have h1 := h x List.mem_cons_self
  have h2 := flat_bound l fun y hy => h y (List.mem_cons_of_mem _ hy)
  rw [List.flatten_cons, List.length_append, List.length_cons, Nat.mul_add, Nat.mul_one]
  omega
theorem rulesOf_len {c : Cf} (h : c.Ok) (hS : c.Small) : (rulesOf c).length ≤ 576 := by
 have h0 := topoSound_ok h.topo
 have hl := h.len
 have h1 : ∀ x ∈ c.tables.map List.flatten, x.length ≤ 96 := fun x hx => by
  obtain ⟨t, ht, rfl⟩ := List.mem_map.1 hx
  obtain ⟨n, hn⟩ := List.mem_iff_getElem?.1 ht
  have := (tabSound_ok (h.tabs n t hn))
  have h3 := hS t ht
  have h2 := countT_len t 0 (by omega)
  have h4 : ((0 : Nat) : Int) = 0 := rfl
  rw [h4] at h2
  omega
 have h2 := flat_bound _ h1
 have h3 : (rulesOf c).length = (c.tables.map List.flatten).flatten.length := by
  rw [rulesOf, List.flatten_flatten]
 rw [h3]
 rw [List.length_map] at h2
 omega
theorem setsR_eq : ∀ (rs : List Rl) (l : List Cb), rs.foldl setC l = setsR l rs
 | [], l => rfl
 | r :: rs, l => by rw [List.foldl_cons, setsR_eq, setsR]; rfl
theorem addAll_len : ∀ (xs l : List Cb), (addAll l xs).length ≤ l.length + xs.length
 | [], l => Nat.le_refl _
 | x :: xs, l => by
  rw [addAll]
  have := addAll_len xs (addC l x)
  have := addC_len l x
  rw [List.length_cons]
  omega
theorem setsR_len : ∀ (rs : List Rl) (l : List Cb), (setsR l rs).length ≤ l.length + rs.length
 | [], l => Nat.le_refl _
 | r :: rs, l => by
  have h1 := setsR_len rs (setC l r)
  have h2 := setC_len l r
  rw [List.length_cons]
  show (setsR (setC l r) rs).length ≤ _
  omega
def ls7B (c : Cf) (l : List Cb) : List (Nat × SB) := (2, ⟨0, some (.box 31 (cCf c))⟩) :: (7, ⟨0, some (.box 180 [.own 200 0 0])⟩) :: lsB l
theorem ls_end7 {s : St} {c : Cf} {l : List Cb} {e e9 e8 e8' e1 e1' e2 e2' n : Nat} {els : List (List AV)} {o : Body} (h9 : s.σ 2 = ⟨e9, some (.box 31 (cCf c))⟩) (h8 : s.σ 7 = ⟨e8, some (.box 180 [.own 200 e8' 0])⟩) (h0 : s.σ 200 = ⟨e, some (.box 185 [.row 201 e1 0 n, .ref 202 e2 .map])⟩) (h1 : s.σ 201 = ⟨e1', some (.row 50 4 els)⟩) (h2 : s.σ 202 = ⟨e2', some o⟩)
  (h8e : e8' = e) (he : e1 = e1') (he2 : e2 = e2') (hn : n = (l.map cCb).length) (hel : els = l.map cCb) (ho : o = mapO l) : WkB s (lkB (ls7B c l)) (ls7B c l) := by
 subst h8e he he2 hn hel ho
 exact ⟨WkB1.same h9 rfl rfl, .boxL h8 ⟨Rn.ownIs rfl h0 rfl, trivial⟩ rfl, .boxL h0 ⟨Rn.rowIs rfl h1 rfl, Rn.refIs rfl h2 rfl, trivial⟩ rfl, .row h1 rfl, .obj h2 rfl, trivial⟩
theorem d_Sets (c : Cf) (h0 : c.sound = 0) (hS : c.Small) (V : Nat) (hV : V ≤ 255) : PDoes Tryz.prog 112 [.agg (cCf c), .i .i64 (V : Nat)] (.tup [.sl ((setsOf c V).map cCb), .i .i64 0]) := by
  have hc := Cf.ok h0
  have hE := edges_len hc.topo
  have hR := rulesOf_len hc hS
  refine PDoes.of_bodyN Tryz.func112 rfl (by kernel_rfl) rfl rfl ?_
  have hm : (edges c.topo.ports).length ≤ 9223372036854775807 := by omega
  have hCS := d_CSound c
  rw [h0] at hCS
  skip;(repeat(first|(with_reducible first|apply wA|apply wB|apply wC|(apply wD;first|(refine wE ⟨?_,?_⟩;· kernel_rfl)|apply wE))|((with_reducible first|apply wF|apply wG);refine wH rfl ?_)))
  refine RG.callS rfl rfl rfl rfl rfl hCS rfl rfl ?_; refine wH rfl ?_;(repeat(first|(with_reducible first|apply wA|apply wB|apply wC|(apply wD;first|(refine wE ⟨?_,?_⟩;· kernel_rfl)|apply wE))|((with_reducible first|apply wF|apply wG);refine wH rfl ?_)))
  refine AW.condF rfl ?_; skip;(repeat(first|(with_reducible first|apply wA|apply wB|apply wC|(apply wD;first|(refine wE ⟨?_,?_⟩;· kernel_rfl)|apply wE))))
  refine AW.text ?_
  have g1 : ¬ ((V : Nat) : Int) < 0 := by omega
  have g2 : ¬ ((V : Nat) : Int) > 255 := by omega
  refine RG.runO ty_ok 0 [(18, .b false), (21, .b false)] 400 rfl (by repeat' (first|exact trivial|apply And.intro|exact dT ‹_›|exact dF ‹_›|exact dN ‹_›|exact dM ‹_›|exact dI ‹_›)) ?_
  skip;(repeat(first|(with_reducible first|apply wA|apply wB|apply wC|(apply wD;first|(refine wE ⟨?_,?_⟩;· kernel_rfl)|apply wE))))
  refine AW.condF rfl ?_; skip;(repeat(first|(with_reducible first|apply wA|apply wB|apply wC|(apply wD;first|(refine wE ⟨?_,?_⟩;· kernel_rfl)|apply wE))|((with_reducible first|apply wF|apply wG);refine wH rfl ?_)))
  refine RG.ownN [] [(3, 200), (1, 202), (9, 201)] m_fresh rfl rfl rfl rfl rfl rfl rfl rfl rfl rfl ?_
  refine wH rfl ?_;(repeat(first|(with_reducible first|apply wA|apply wB|apply wC|(apply wD;first|(refine wE ⟨?_,?_⟩;· kernel_rfl)|apply wE))|((with_reducible first|apply wF|apply wG);refine wH rfl ?_)))
  refine RG.callMS rfl rfl rfl rfl rfl rfl (d_Edges c.topo.ports hc.topo) rfl ?_; refine wH rfl ?_;(repeat(first|(with_reducible first|apply wA|apply wB|apply wC|(apply wD;first|(refine wE ⟨?_,?_⟩;· kernel_rfl)|apply wE))|((with_reducible first|apply wF|apply wG);refine wH rfl ?_)))
  generalize hA : addAll [] ((edges c.topo.ports).map fun s => stampOf c s V) = A
  have hG : setsR A (rulesOf c) = setsOf c V := by rw [setsOf, hA]
  have hAl : A.length ≤ 36 := by
    rw [← hA]
    have := addAll_len ((edges c.topo.ports).map fun s => stampOf c s V) []
    rw [List.length_map] at this
    simp at this
    omega
  have hst : ∀ s ∈ edges c.topo.ports, PDoes Tryz.prog 85 [.agg (cCf c), .agg (cSp s), .i .i64 (V : Nat)] (.tup [.agg (cCb (stampOf c s V)), .i .i64 0]) := fun s hs => by
    have h := d_CStamp c s V
    have e : stampE c s V = 0 := by rw [stampE, if_pos h0, if_neg (by omega), if_pos hs]
    rw [stampC, if_pos e, e] at h
    exact h
  refine AW.loopL (ι := Nat × List Cb) (fun i => [(1, .i .i64 (V : Nat)), (2, .own 2 0 0), (7, .own 7 0 0), (27, .sl ((edges c.topo.ports).map cSp)), (28, .i .i64 ((edges c.topo.ports).map cSp).length), (29, .i .i64 (i.1 : Nat))]) (fun i => ls7B c i.2) (fun i => (i.1 ≤ (edges c.topo.ports).length ∧ i.2.length ≤ i.1) ∧ addAll i.2 (((edges c.topo.ports).drop i.1).map fun s => stampOf c s V) = A) (fun i => (edges c.topo.ports).length - i.1) (0, []) ⟨⟨Nat.zero_le _, Nat.zero_le _⟩, hA⟩ ⟨Rn.is rfl rfl, Rn.ownIs rfl rfl rfl, Rn.ownIs rfl rfl rfl, Rn.is rfl rfl, Rn.is rfl rfl, Rn.is rfl rfl, trivial⟩ (ls_end7 rfl rfl rfl rfl rfl rfl rfl rfl rfl rfl rfl) fun i hi => ?_
  clear hA
  obtain ⟨k, l⟩ := i
  obtain ⟨⟨hk, hl⟩, hf⟩ := hi
  simp only at hk hl hf
  skip;(repeat(first|(with_reducible first|apply wA|apply wB|apply wC|(apply wD;first|(refine wE ⟨?_,?_⟩;· kernel_rfl)|apply wE))|((with_reducible first|apply wF|apply wG);refine wH rfl ?_)))
  refine AW.cond rfl (fun h1 => ?_) (fun h1 => ?_)
  rotate_left
  · have h : ¬ k < (edges c.topo.ports).length := by simpa using h1
    obtain rfl : k = (edges c.topo.ports).length := by omega
    rw [List.drop_length] at hf
    obtain rfl : l = A := hf
    have hsl := setsR_len (rulesOf c) l
    skip;(repeat(first|(with_reducible first|apply wA|apply wB|apply wC|(apply wD;first|(refine wE ⟨?_,?_⟩;· kernel_rfl)|apply wE))|((with_reducible first|apply wF|apply wG);refine wH rfl ?_)))
    refine AW.exit ?_; refine Eq.mpr (if_pos rfl) ?_; skip;(repeat(first|(with_reducible first|apply wA|apply wB|apply wC|(apply wD;first|(refine wE ⟨?_,?_⟩;· kernel_rfl)|apply wE))|((with_reducible first|apply wF|apply wG);refine wH rfl ?_)))
    refine RG.ownN [(200, 200), (201, 201), (202, 202)] [(200, 200), (201, 201), (202, 202)] (fun q => m_rules 154 setC setC_len m_set c l (by omega) q) rfl rfl rfl rfl rfl rfl rfl rfl rfl rfl ?_
    rw [setsR_eq, hG]
    refine wH rfl ?_;(repeat(first|(with_reducible first|apply wA|apply wB|apply wC|(apply wD;first|(refine wE ⟨?_,?_⟩;· kernel_rfl)|apply wE))|((with_reducible first|apply wF|apply wG);refine wH rfl ?_)))
    refine RG.callMS rfl rfl rfl rfl (congrArg (fun x => [x]) (rowAll rfl)) rfl (d_Clip_Cb (setsOf c V)) rfl ?_; refine wH rfl ?_;(repeat(first|(with_reducible first|apply wA|apply wB|apply wC|(apply wD;first|(refine wE ⟨?_,?_⟩;· kernel_rfl)|apply wE))|((with_reducible first|apply wF|apply wG);refine wH rfl ?_)))
    refine AW.ret (retQA ty_ok rfl rfl rfl ?_)
    rfl
  have h : k < (edges c.topo.ports).length := by simpa using h1
  rw [List.drop_eq_getElem_cons h, List.map_cons, addAll] at hf
  have hs := hst _ (List.getElem_mem h)
  skip;(repeat(first|(with_reducible first|apply wA|apply wB|apply wC|(apply wD;first|(refine wE ⟨?_,?_⟩;· kernel_rfl)|apply wE))))
  refine AW.text ?_
  refine RG.opS rfl (op_index rfl (tab_ok ty_ok rfl) rfl (tab_ok ty_ok rfl) rfl rfl (show ((edges c.topo.ports).map cSp)[k]? = some (cSp (edges c.topo.ports)[k]) by rw [List.getElem?_map, List.getElem?_eq_getElem (by assumption)]; rfl) rfl) rfl ?_
  generalize (edges c.topo.ports)[k] = s at hf hs
  refine wH rfl ?_;(repeat(first|(with_reducible first|apply wA|apply wB|apply wC|(apply wD;first|(refine wE ⟨?_,?_⟩;· kernel_rfl)|apply wE))|((with_reducible first|apply wF|apply wG);refine wH rfl ?_)))
  refine RG.callMS rfl rfl rfl rfl rfl rfl hs rfl ?_; refine wH rfl ?_;(repeat(first|(with_reducible first|apply wA|apply wB|apply wC|(apply wD;first|(refine wE ⟨?_,?_⟩;· kernel_rfl)|apply wE))|((with_reducible first|apply wF|apply wG);refine wH rfl ?_)))
  refine AW.condF rfl ?_; skip;(repeat(first|(with_reducible first|apply wA|apply wB|apply wC|(apply wD;first|(refine wE ⟨?_,?_⟩;· kernel_rfl)|apply wE))|((with_reducible first|apply wF|apply wG);refine wH rfl ?_)))
  refine RG.ownN [(200, 200), (201, 201), (202, 202)] [(200, 200), (201, 201), (202, 202)] (fun q => m_add l (stampOf c s V) (by omega) q) rfl rfl rfl rfl rfl rfl rfl rfl rfl rfl ?_
  refine wH rfl ?_;(repeat(first|(with_reducible first|apply wA|apply wB|apply wC|(apply wD;first|(refine wE ⟨?_,?_⟩;· kernel_rfl)|apply wE))|((with_reducible first|apply wF|apply wG);refine wH rfl ?_)))
  have hal := addC_len l (stampOf c s V)
  exact ⟨(k + 1, addC l (stampOf c s V)), ⟨⟨⟨h, by show (addC l (stampOf c s V)).length ≤ k + 1; omega⟩, hf⟩, by show (edges c.topo.ports).length - (k + 1) < (edges c.topo.ports).length - k; omega⟩, ⟨Rn.is rfl rfl, Rn.ownIs rfl rfl rfl, Rn.ownIs rfl rfl rfl, Rn.is rfl rfl, Rn.is rfl rfl, Rn.is (i64_next h hm) rfl, trivial⟩, (ls_end7 rfl rfl rfl rfl rfl rfl rfl rfl rfl rfl rfl)⟩
end Go.Proofs.YtahjjfhjjbgjaaaGreat.Sm
end
section
namespace Go.Proofs.YtahjjfhjjbgjaaaGreat.Sm
open Go.RowKit
def matC (l : List Cb) (r : Rl) : List Cb := addC l r.mat
theorem matC_eq : ∀ (rs : List Rl) (l : List Cb), rs.foldl matC l = addAll l (rs.map Rl.mat)
 | [], l => rfl
 | r :: rs, l => by rw [List.foldl_cons, matC_eq, List.map_cons, addAll]; rfl
theorem addC_get {l : List Cb} {x p : Cb} {n : Nat} (h : l[n]? = some p) : (addC l x)[n]? = some p := by
 obtain ⟨m, hm⟩ := addC_pre (l := l) (x := x)
 rw [hm, List.getElem?_append_left (List.getElem?_eq_some_iff.1 h).1]
 exact h
def ls8B (l : List Cb) : List (Nat × SB) := (8, ⟨0, some (.box 180 [.own 200 0 0])⟩) :: lsB l
theorem ls_end8 {s : St} {l : List Cb} {e e8 e8' e1 e1' e2 e2' n : Nat} {els : List (List AV)} {o : Body} (h8 : s.σ 8 = ⟨e8, some (.box 180 [.own 200 e8' 0])⟩) (h0 : s.σ 200 = ⟨e, some (.box 185 [.row 201 e1 0 n, .ref 202 e2 .map])⟩) (h1 : s.σ 201 = ⟨e1', some (.row 50 4 els)⟩) (h2 : s.σ 202 = ⟨e2', some o⟩)
  (h8e : e8' = e) (he : e1 = e1') (he2 : e2 = e2') (hn : n = (l.map cCb).length) (hel : els = l.map cCb) (ho : o = mapO l) : WkB s (lkB (ls8B l)) (ls8B l) := by
 subst h8e he he2 hn hel ho
 exact ⟨.boxL h8 ⟨Rn.ownIs rfl h0 rfl, trivial⟩ rfl, .boxL h0 ⟨Rn.rowIs rfl h1 rfl, Rn.refIs rfl h2 rfl, trivial⟩ rfl, .row h1 rfl, .obj h2 rfl, trivial⟩
def ofR (a : List Cb) (l' : List Cb) : AV := bif decide (a.length > 500) then .tup [.sl [], .i .i64 10] else .tup [.sl (l'.map cCb), .i .i64 0]
theorem d_Of (c : Cf) (h0 : c.sound = 0) (hS : c.Small) (V : Nat) (hV : V ≤ 255) (l' : List Cb) (hP : l'.Perm (askedOf c V)) (hM : (askedOf c V).length ≤ 500 → MSort (askedOf c V) l') : PDoes Tryz.prog 72 [.agg (cCf c), .i .i64 (V : Nat)] (ofR (askedOf c V) l') := by
  have hc := Cf.ok h0
  have hE := edges_len hc.topo
  have hR := rulesOf_len hc hS
  have hsl : (setsOf c V).length ≤ 700 := by
    rw [setsOf]
    have h1 := setsR_len (rulesOf c) (addAll [] ((edges c.topo.ports).map fun s => stampOf c s V))
    have h2 := addAll_len ((edges c.topo.ports).map fun s => stampOf c s V) []
    rw [List.length_map, List.length_nil] at h2
    omega
  have hal := addAll_len ((rulesOf c).map Rl.mat) []
  rw [List.length_map, List.length_nil] at hal
  have hms := d_Sets c h0 hS V hV
  rw [askedOf] at hP hM ⊢
  refine PDoes.of_bodyN Tryz.func72 rfl (by kernel_rfl) rfl rfl ?_
  generalize setsOf c V = sets at hP hM hsl hms ⊢
  have hm : sets.length ≤ 9223372036854775807 := by omega
  generalize hA : closeF sets 501 0 (addAll [] ((rulesOf c).map Rl.mat)) = A at hP hM ⊢
  skip;(repeat(first|(with_reducible first|apply wA|apply wB|apply wC|(apply wD;first|(refine wE ⟨?_,?_⟩;· kernel_rfl)|apply wE))|((with_reducible first|apply wF|apply wG);refine wH rfl ?_)))
  refine RG.callMS rfl rfl rfl rfl rfl rfl hms rfl ?_; refine wH rfl ?_;(repeat(first|(with_reducible first|apply wA|apply wB|apply wC|(apply wD;first|(refine wE ⟨?_,?_⟩;· kernel_rfl)|apply wE))|((with_reducible first|apply wF|apply wG);refine wH rfl ?_)))
  refine AW.condF rfl ?_; skip;(repeat(first|(with_reducible first|apply wA|apply wB|apply wC|(apply wD;first|(refine wE ⟨?_,?_⟩;· kernel_rfl)|apply wE))|((with_reducible first|apply wF|apply wG);refine wH rfl ?_)))
  refine RG.ownN [] [(3, 200), (1, 202), (9, 201)] m_fresh rfl rfl rfl rfl rfl rfl rfl rfl rfl rfl ?_
  refine wH rfl ?_;(repeat(first|(with_reducible first|apply wA|apply wB|apply wC|(apply wD;first|(refine wE ⟨?_,?_⟩;· kernel_rfl)|apply wE))|((with_reducible first|apply wF|apply wG);refine wH rfl ?_)))
  refine RG.ownN [(200, 200), (201, 201), (202, 202)] [(200, 200), (201, 201), (202, 202)] (fun q => m_rules 115 matC (fun l r => addC_len l r.mat) m_match c [] (by simp; omega) q) rfl rfl rfl rfl rfl rfl rfl rfl rfl rfl ?_
  rw [matC_eq]
  generalize addAll [] ((rulesOf c).map Rl.mat) = all at hA hal
  refine wH rfl ?_;(repeat(first|(with_reducible first|apply wA|apply wB|apply wC|(apply wD;first|(refine wE ⟨?_,?_⟩;· kernel_rfl)|apply wE))|((with_reducible first|apply wF|apply wG);refine wH rfl ?_)))
  refine AW.loopL (ι := Nat × List Cb) (fun i => [(6, .sl (sets.map cCb)), (8, .own 8 0 0), (9, .i .i64 (i.1 : Nat))]) (fun i => ls8B i.2) (fun i => (i.1 ≤ 501 ∧ i.2.length ≤ 2000) ∧ closeF sets (501 - i.1) i.1 i.2 = A) (fun i => 501 - i.1) (0, all) ⟨⟨Nat.zero_le _, by show all.length ≤ 2000; omega⟩, hA⟩ ⟨Rn.is rfl rfl, Rn.ownIs rfl rfl rfl, Rn.is rfl rfl, trivial⟩ (ls_end8 rfl rfl rfl rfl rfl rfl rfl rfl rfl rfl) fun i hi => ?_
  clear hA hal all
  obtain ⟨n, all⟩ := i
  obtain ⟨⟨hn, hl⟩, hf⟩ := hi
  simp only at hn hl hf
  have hlm : (all.map cCb).length = all.length := List.length_map ..
  skip;(repeat(first|(with_reducible first|apply wA|apply wB|apply wC|(apply wD;first|(refine wE ⟨?_,?_⟩;· kernel_rfl)|apply wE))))
  refine AW.text ?_
  by_cases g1 : ((n : Nat) : Int) < ((all.map cCb).length : Nat)
  · by_cases g2 : (((all.map cCb).length : Nat) : Int) ≤ 500
    · refine RG.runO ty_ok 0 [(36, .b true), (44, .b true)] 400 rfl (by repeat' (first|exact trivial|apply And.intro|exact dT ‹_›|exact dF ‹_›|exact dN ‹_›|exact dM ‹_›|exact dI ‹_›)) ?_
      have hn5 : n < 500 := by omega
      have e1 : all[n]? = some (all.getD n Cb.zero) := by rw [getD_eq (by omega)]; exact List.getElem?_eq_getElem _
      rw [show 501 - n = (501 - (n + 1)) + 1 by omega, closeF, decide_eq_true (show n < all.length by omega), decide_eq_true (show all.length ≤ 500 by omega), Bool.and_self, cond_true] at hf
      have hl5 : all.length ≤ 500 := by omega
      generalize all.getD n Cb.zero = p at hf e1
      skip;(repeat(first|(with_reducible first|apply wA|apply wB|apply wC|(apply wD;first|(refine wE ⟨?_,?_⟩;· kernel_rfl)|apply wE))))
      refine AW.condT rfl ?_; skip;(repeat(first|(with_reducible first|apply wA|apply wB|apply wC|(apply wD;first|(refine wE ⟨?_,?_⟩;· kernel_rfl)|apply wE))|((with_reducible first|apply wF|apply wG);refine wH rfl ?_)))
      refine AW.loopL (ι := Nat × List Cb) (fun i => [(6, .sl (sets.map cCb)), (8, .own 8 0 0), (9, .i .i64 (n : Nat)), (48, .sl (sets.map cCb)), (49, .i .i64 (sets.map cCb).length), (50, .i .i64 (i.1 : Nat))]) (fun i => ls8B i.2) (fun i => (i.1 ≤ sets.length ∧ i.2.length ≤ 500 + i.1 ∧ i.2[n]? = some p) ∧ closeF sets (501 - (n + 1)) (n + 1) (closeRow p (sets.drop i.1) i.2) = A) (fun i => sets.length - i.1) (0, all) ⟨⟨Nat.zero_le _, hl5, e1⟩, hf⟩ ⟨Rn.is rfl rfl, Rn.ownIs rfl rfl rfl, Rn.is rfl rfl, Rn.is rfl rfl, Rn.is rfl rfl, Rn.is rfl rfl, trivial⟩ (ls_end8 rfl rfl rfl rfl rfl rfl rfl rfl rfl rfl) fun i hi => ?_
      clear hf e1 hl5
      obtain ⟨k, out⟩ := i
      obtain ⟨⟨hk, hl2, e1⟩, hf⟩ := hi
      simp only at hk hl2 e1 hf
      have hno := (List.getElem?_eq_some_iff.1 e1).1
      skip;(repeat(first|(with_reducible first|apply wA|apply wB|apply wC|(apply wD;first|(refine wE ⟨?_,?_⟩;· kernel_rfl)|apply wE))|((with_reducible first|apply wF|apply wG);refine wH rfl ?_)))
      refine AW.cond rfl (fun h3 => ?_) (fun h3 => ?_)
      rotate_left
      · have h : ¬ k < sets.length := by simpa using h3
        obtain rfl : k = sets.length := by omega
        rw [List.drop_length, closeRow] at hf
        skip;(repeat(first|(with_reducible first|apply wA|apply wB|apply wC|(apply wD;first|(refine wE ⟨?_,?_⟩;· kernel_rfl)|apply wE))|((with_reducible first|apply wF|apply wG);refine wH rfl ?_)))
        refine AW.exit ?_; refine Eq.mpr (if_pos rfl) ?_; skip;(repeat(first|(with_reducible first|apply wA|apply wB|apply wC|(apply wD;first|(refine wE ⟨?_,?_⟩;· kernel_rfl)|apply wE))|((with_reducible first|apply wF|apply wG);refine wH rfl ?_)))
        exact ⟨(n + 1, out), ⟨⟨⟨by show n + 1 ≤ 501; omega, by show out.length ≤ 2000; omega⟩, hf⟩, by show 501 - (n + 1) < 501 - n; omega⟩, ⟨Rn.is rfl rfl, Rn.ownIs rfl rfl rfl, Rn.is (i64_next (show n < 1000 by omega) (by decide)) rfl, trivial⟩, ls_end8 rfl rfl rfl rfl rfl rfl rfl rfl rfl rfl⟩
      have h : k < sets.length := by simpa using h3
      rw [List.drop_eq_getElem_cons h, closeRow] at hf
      skip;(repeat(first|(with_reducible first|apply wA|apply wB|apply wC|(apply wD;first|(refine wE ⟨?_,?_⟩;· kernel_rfl)|apply wE))))
      refine AW.text ?_
      refine RG.opS rfl (op_index rfl (tab_ok ty_ok rfl) rfl (tab_ok ty_ok rfl) rfl rfl (show (sets.map cCb)[k]? = some (cCb sets[k]) by rw [List.getElem?_map, List.getElem?_eq_getElem (by assumption)]; rfl) rfl) rfl ?_
      generalize sets[k] = s at hf
      refine wH rfl ?_;(repeat(first|(with_reducible first|apply wA|apply wB|apply wC|(apply wD;first|(refine wE ⟨?_,?_⟩;· kernel_rfl)|apply wE))|((with_reducible first|apply wF|apply wG);refine wH rfl ?_)))
      refine RG.opS rfl (op_indexR0 (n) cCb (out) (by rw [List.length_map]; exact hno) rfl (tab_ok ty_ok rfl) rfl (tab_ok ty_ok rfl) rfl rfl rfl) rfl ?_
      refine RG.opS rfl (op_loadRow (n) cCb (out) p e1 rfl (tab_ok ty_ok rfl) rfl rfl rfl) rfl ?_
      refine wH rfl ?_
      cases hh : p.hits s
      · rw [hh, cond_false] at hf
        refine RG.callS rfl rfl rfl rfl rfl (d_Before p s _ hh) rfl rfl ?_; refine wH rfl ?_;(repeat(first|(with_reducible first|apply wA|apply wB|apply wC|(apply wD;first|(refine wE ⟨?_,?_⟩;· kernel_rfl)|apply wE))|((with_reducible first|apply wF|apply wG);refine wH rfl ?_)))
        refine AW.condF rfl ?_; skip;(repeat(first|(with_reducible first|apply wA|apply wB|apply wC|(apply wD;first|(refine wE ⟨?_,?_⟩;· kernel_rfl)|apply wE))|((with_reducible first|apply wF|apply wG);refine wH rfl ?_)))
        exact ⟨(k + 1, out), ⟨⟨⟨h, by show out.length ≤ 500 + (k + 1); omega, e1⟩, hf⟩, by show sets.length - (k + 1) < sets.length - k; omega⟩, ⟨Rn.is rfl rfl, Rn.ownIs rfl rfl rfl, Rn.is rfl rfl, Rn.is rfl rfl, Rn.is rfl rfl, Rn.is (i64_next h hm) rfl, trivial⟩, ls_end8 rfl rfl rfl rfl rfl rfl rfl rfl rfl rfl⟩
      · rw [hh, cond_true] at hf
        have ha := addC_len out (p.before s)
        refine RG.callS rfl rfl rfl rfl rfl (d_Before p s _ hh) rfl rfl ?_; refine wH rfl ?_;(repeat(first|(with_reducible first|apply wA|apply wB|apply wC|(apply wD;first|(refine wE ⟨?_,?_⟩;· kernel_rfl)|apply wE))|((with_reducible first|apply wF|apply wG);refine wH rfl ?_)))
        refine AW.condT rfl ?_; skip;(repeat(first|(with_reducible first|apply wA|apply wB|apply wC|(apply wD;first|(refine wE ⟨?_,?_⟩;· kernel_rfl)|apply wE))|((with_reducible first|apply wF|apply wG);refine wH rfl ?_)))
        refine RG.ownN [(200, 200), (201, 201), (202, 202)] [(200, 200), (201, 201), (202, 202)] (fun q => m_add out (p.before s) (by omega) q) rfl rfl rfl rfl rfl rfl rfl rfl rfl rfl ?_
        refine wH rfl ?_;(repeat(first|(with_reducible first|apply wA|apply wB|apply wC|(apply wD;first|(refine wE ⟨?_,?_⟩;· kernel_rfl)|apply wE))|((with_reducible first|apply wF|apply wG);refine wH rfl ?_)))
        exact ⟨(k + 1, addC out (p.before s)), ⟨⟨⟨h, by show (addC out (p.before s)).length ≤ 500 + (k + 1); omega, addC_get e1⟩, hf⟩, by show sets.length - (k + 1) < sets.length - k; omega⟩, ⟨Rn.is rfl rfl, Rn.ownIs rfl rfl rfl, Rn.is rfl rfl, Rn.is rfl rfl, Rn.is rfl rfl, Rn.is (i64_next h hm) rfl, trivial⟩, ls_end8 rfl rfl rfl rfl rfl rfl rfl rfl rfl rfl⟩
    · refine RG.runO ty_ok 0 [(36, .b true), (44, .b false)] 400 rfl (by repeat' (first|exact trivial|apply And.intro|exact dT ‹_›|exact dF ‹_›|exact dN ‹_›|exact dM ‹_›|exact dI ‹_›)) ?_
      have e : all = A := by
        by_cases hz : 501 - n = 0
        · rw [hz, closeF] at hf; exact hf
        · rw [show 501 - n = (501 - n - 1) + 1 by omega, closeF] at hf
          have : (decide (n < all.length) && decide (all.length ≤ 500)) = false := by
            rw [Bool.and_eq_false_iff]
            simp only [decide_eq_false_iff_not]
            omega
          rw [this] at hf
          exact hf
      subst e
      clear hf
      skip;(repeat(first|(with_reducible first|apply wA|apply wB|apply wC|(apply wD;first|(refine wE ⟨?_,?_⟩;· kernel_rfl)|apply wE))))
      refine AW.condF rfl ?_; skip;(repeat(first|(with_reducible first|apply wA|apply wB|apply wC|(apply wD;first|(refine wE ⟨?_,?_⟩;· kernel_rfl)|apply wE))|((with_reducible first|apply wF|apply wG);refine wH rfl ?_)))
      refine AW.exit ?_; refine Eq.mpr (if_pos rfl) ?_; skip;(repeat(first|(with_reducible first|apply wA|apply wB|apply wC|(apply wD;first|(refine wE ⟨?_,?_⟩;· kernel_rfl)|apply wE))|((with_reducible first|apply wF|apply wG);refine wH rfl ?_)))
      refine AW.cond rfl (fun h3 => ?_) (fun h3 => ?_)
      · have h3 : (((all.map cCb).length : Nat) : Int) > 500 := of_decide_eq_true h3
        have e : ofR all l' = .tup [.sl [], .i .i64 10] := by rw [ofR, decide_eq_true (by omega)]; rfl
        rw [e]
        skip;(repeat(first|(with_reducible first|apply wA|apply wB|apply wC|(apply wD;first|(refine wE ⟨?_,?_⟩;· kernel_rfl)|apply wE))|((with_reducible first|apply wF|apply wG);refine wH rfl ?_)))
        refine AW.ret (retQA ty_ok rfl rfl rfl ?_)
        rfl
      · have h3 : ¬ (((all.map cCb).length : Nat) : Int) > 500 := of_decide_eq_false h3
        have hl' := hP.length_eq
        have e : ofR all l' = .tup [.sl (l'.map cCb), .i .i64 0] := by rw [ofR, decide_eq_false (by omega)]; rfl
        rw [e]
        skip;(repeat(first|(with_reducible first|apply wA|apply wB|apply wC|(apply wD;first|(refine wE ⟨?_,?_⟩;· kernel_rfl)|apply wE))|((with_reducible first|apply wF|apply wG);refine wH rfl ?_)))
        refine RG.ownN [(200, 200), (201, 201), (202, 202)] [(200, 200), (201, 201), (202, 202)] (fun q => hM (by omega) all _ rfl q) rfl rfl rfl rfl rfl rfl rfl rfl rfl rfl ?_
        refine wH rfl ?_;(repeat(first|(with_reducible first|apply wA|apply wB|apply wC|(apply wD;first|(refine wE ⟨?_,?_⟩;· kernel_rfl)|apply wE))|((with_reducible first|apply wF|apply wG);refine wH rfl ?_)))
        refine RG.callMS rfl rfl rfl rfl (congrArg (fun x => [x]) (show AV.sl (List.take (all.map cCb).length (List.drop 0 (l'.map cCb))) = .sl (l'.map cCb) by rw [List.drop_zero, List.take_of_length_le (by rw [List.length_map, List.length_map]; omega)])) rfl (d_Clip_Cb l') rfl ?_; refine wH rfl ?_;(repeat(first|(with_reducible first|apply wA|apply wB|apply wC|(apply wD;first|(refine wE ⟨?_,?_⟩;· kernel_rfl)|apply wE))|((with_reducible first|apply wF|apply wG);refine wH rfl ?_)))
        refine AW.ret (retQA ty_ok rfl rfl rfl ?_)
        rfl
  · refine RG.runO ty_ok 0 [(36, .b false)] 400 rfl (by repeat' (first|exact trivial|apply And.intro|exact dT ‹_›|exact dF ‹_›|exact dN ‹_›|exact dM ‹_›|exact dI ‹_›)) ?_
    have e : all = A := by
      by_cases hz : 501 - n = 0
      · rw [hz, closeF] at hf; exact hf
      · rw [show 501 - n = (501 - n - 1) + 1 by omega, closeF] at hf
        have : (decide (n < all.length) && decide (all.length ≤ 500)) = false := by
          rw [Bool.and_eq_false_iff]
          simp only [decide_eq_false_iff_not]
          omega
        rw [this] at hf
        exact hf
    subst e
    clear hf
    skip;(repeat(first|(with_reducible first|apply wA|apply wB|apply wC|(apply wD;first|(refine wE ⟨?_,?_⟩;· kernel_rfl)|apply wE))))
    refine AW.condF rfl ?_; skip;(repeat(first|(with_reducible first|apply wA|apply wB|apply wC|(apply wD;first|(refine wE ⟨?_,?_⟩;· kernel_rfl)|apply wE))|((with_reducible first|apply wF|apply wG);refine wH rfl ?_)))
    refine AW.exit ?_; refine Eq.mpr (if_pos rfl) ?_; skip;(repeat(first|(with_reducible first|apply wA|apply wB|apply wC|(apply wD;first|(refine wE ⟨?_,?_⟩;· kernel_rfl)|apply wE))|((with_reducible first|apply wF|apply wG);refine wH rfl ?_)))
    refine AW.cond rfl (fun h3 => ?_) (fun h3 => ?_)
    · have h3 : (((all.map cCb).length : Nat) : Int) > 500 := of_decide_eq_true h3
      have e : ofR all l' = .tup [.sl [], .i .i64 10] := by rw [ofR, decide_eq_true (by omega)]; rfl
      rw [e]
      skip;(repeat(first|(with_reducible first|apply wA|apply wB|apply wC|(apply wD;first|(refine wE ⟨?_,?_⟩;· kernel_rfl)|apply wE))|((with_reducible first|apply wF|apply wG);refine wH rfl ?_)))
      refine AW.ret (retQA ty_ok rfl rfl rfl ?_)
      rfl
    · have h3 : ¬ (((all.map cCb).length : Nat) : Int) > 500 := of_decide_eq_false h3
      have hl' := hP.length_eq
      have e : ofR all l' = .tup [.sl (l'.map cCb), .i .i64 0] := by rw [ofR, decide_eq_false (by omega)]; rfl
      rw [e]
      skip;(repeat(first|(with_reducible first|apply wA|apply wB|apply wC|(apply wD;first|(refine wE ⟨?_,?_⟩;· kernel_rfl)|apply wE))|((with_reducible first|apply wF|apply wG);refine wH rfl ?_)))
      refine RG.ownN [(200, 200), (201, 201), (202, 202)] [(200, 200), (201, 201), (202, 202)] (fun q => hM (by omega) all _ rfl q) rfl rfl rfl rfl rfl rfl rfl rfl rfl rfl ?_
      refine wH rfl ?_;(repeat(first|(with_reducible first|apply wA|apply wB|apply wC|(apply wD;first|(refine wE ⟨?_,?_⟩;· kernel_rfl)|apply wE))|((with_reducible first|apply wF|apply wG);refine wH rfl ?_)))
      refine RG.callMS rfl rfl rfl rfl (congrArg (fun x => [x]) (show AV.sl (List.take (all.map cCb).length (List.drop 0 (l'.map cCb))) = .sl (l'.map cCb) by rw [List.drop_zero, List.take_of_length_le (by rw [List.length_map, List.length_map]; omega)])) rfl (d_Clip_Cb l') rfl ?_; refine wH rfl ?_;(repeat(first|(with_reducible first|apply wA|apply wB|apply wC|(apply wD;first|(refine wE ⟨?_,?_⟩;· kernel_rfl)|apply wE))|((with_reducible first|apply wF|apply wG);refine wH rfl ?_)))
      refine AW.ret (retQA ty_ok rfl rfl rfl ?_)
      rfl
end Go.Proofs.YtahjjfhjjbgjaaaGreat.Sm
end
section
namespace Go.Proofs.YtahjjfhjjbgjaaaGreat.Sm
open Go.RowKit
theorem d_jtenant (c : Cf) (ht : topoSound c.topo.ports = 0) (s : Sp) : PDoes Tryz.prog 65 [.agg (cCf c), .agg (cSp s)] (.i .i64 (edgeOf c.topo.ports s)) := by
 refine PDoes.of_bodyN Tryz.func65 rfl (by kernel_rfl) rfl rfl ?_
 by_cases hs : s ∈ edges c.topo.ports
 ·obtain ⟨n, r, a, p, hr, hp, hk, rfl⟩ := edges_mem.1 hs
  have e : edgeOf c.topo.ports ⟨n, a⟩ = p.tenant := by
   have h1 : (c.topo.ports.getD n []) = r := by rw [List.getD_eq_getElem?_getD, hr]; rfl
   have h2 : r.getD a Pt.zero = p := by rw [List.getD_eq_getElem?_getD, hp]; rfl
   have h3 : portAt c.topo.ports ⟨n, a⟩ = p := by rw [portAt]; simp only [Int.toNat_natCast]; rw [h1, h2]
   have h4 : spotIn c.topo.ports ⟨n, a⟩ = true := by
    simp only [spotIn, Bool.and_eq_true, decide_eq_true_eq, Int.toNat_natCast, h1]
    exact ⟨by omega, Int.ofNat_lt.2 (List.getElem?_eq_some_iff.1 hr).1, by omega, Int.ofNat_lt.2 (List.getElem?_eq_some_iff.1 hp).1⟩
   rw [edgeOf, h4, h3, decide_eq_true hk]
   rfl
  rw [e]
  have hrx : (c.topo.ports.map cPts)[n]? = some (cPts r) := by rw [List.getElem?_map, hr]; rfl
  have hpx : (r.map cPt)[a]? = some (cPt p) := by rw [List.getElem?_map, hp]; rfl
  skip;(repeat(first|(with_reducible first|apply wA|apply wB|apply wC|(apply wD;first|(refine wE ⟨?_,?_⟩;· kernel_rfl)|apply wE))|((with_reducible first|apply wF|apply wG);refine wH rfl ?_)))
  refine RG.callMS rfl rfl rfl rfl rfl rfl (d_Edges c.topo.ports ht) rfl ?_
  refine wH rfl ?_
  refine RG.callS rfl rfl rfl rfl rfl (d_Contains_Sp _ _ true (decide_eq_true hs)) rfl rfl ?_; refine wH rfl ?_;(repeat(first|(with_reducible first|apply wA|apply wB|apply wC|(apply wD;first|(refine wE ⟨?_,?_⟩;· kernel_rfl)|apply wE))|((with_reducible first|apply wF|apply wG);refine wH rfl ?_)))
  refine AW.condF rfl ?_; skip;(repeat(first|(with_reducible first|apply wA|apply wB|apply wC|(apply wD;first|(refine wE ⟨?_,?_⟩;· kernel_rfl)|apply wE))|((with_reducible first|apply wF|apply wG);refine wH rfl ?_)))
  refine RG.opS rfl (op_index rfl (tab_ok ty_ok rfl) rfl (tab_ok ty_ok rfl) rfl rfl hrx rfl) rfl ?_
  refine wH rfl ?_
  refine RG.opS rfl (op_index rfl (tab_ok ty_ok rfl) rfl (tab_ok ty_ok rfl) rfl rfl hpx rfl) rfl ?_
  refine wH rfl ?_;(repeat(first|(with_reducible first|apply wA|apply wB|apply wC|(apply wD;first|(refine wE ⟨?_,?_⟩;· kernel_rfl)|apply wE))|((with_reducible first|apply wF|apply wG);refine wH rfl ?_)))
  refine AW.ret (retQA ty_ok rfl rfl rfl ?_)
  rfl
 ·have e : edgeOf c.topo.ports s = -1 := edgeOf_neg ht hs
  rw [e]
  skip;(repeat(first|(with_reducible first|apply wA|apply wB|apply wC|(apply wD;first|(refine wE ⟨?_,?_⟩;· kernel_rfl)|apply wE))|((with_reducible first|apply wF|apply wG);refine wH rfl ?_)))
  refine RG.callMS rfl rfl rfl rfl rfl rfl (d_Edges c.topo.ports ht) rfl ?_
  refine wH rfl ?_
  refine RG.callS rfl rfl rfl rfl rfl (d_Contains_Sp _ _ false (decide_eq_false hs)) rfl rfl ?_; refine wH rfl ?_;(repeat(first|(with_reducible first|apply wA|apply wB|apply wC|(apply wD;first|(refine wE ⟨?_,?_⟩;· kernel_rfl)|apply wE))|((with_reducible first|apply wF|apply wG);refine wH rfl ?_)))
  refine AW.condT rfl ?_; skip;(repeat(first|(with_reducible first|apply wA|apply wB|apply wC|(apply wD;first|(refine wE ⟨?_,?_⟩;· kernel_rfl)|apply wE))|((with_reducible first|apply wF|apply wG);refine wH rfl ?_)))
  refine AW.ret (retQA ty_ok rfl rfl rfl ?_)
  rfl
theorem d_WrongFn (n : Int) (r : Run) : PDoes Tryz.prog 69 [.i .i64 n, .ro (cRun r)] (.b (!passed r n)) := by
 refine PDoes.of_bodyN Tryz.func69 rfl (by kernel_rfl) rfl rfl ?_
 skip;(repeat(first|(with_reducible first|apply wA|apply wB|apply wC|(apply wD;first|(refine wE ⟨?_,?_⟩;· kernel_rfl)|apply wE))|((with_reducible first|apply wF|apply wG);refine wH rfl ?_)))
 refine RG.callS rfl rfl rfl rfl rfl (d_Passed r n _ rfl) rfl rfl ?_; refine wH rfl ?_;(repeat(first|(with_reducible first|apply wA|apply wB|apply wC|(apply wD;first|(refine wE ⟨?_,?_⟩;· kernel_rfl)|apply wE))|((with_reducible first|apply wF|apply wG);refine wH rfl ?_)))
 refine AW.ret (retQA ty_ok rfl rfl rfl ?_)
 rfl
def wrongJ (c : Cf) (s : Sp) (r : Run) : Int := if c.sound = 0 ∧ ¬ edgeOf c.topo.ports s < 0 then wrongOf c s r else 0
theorem d_JWrong (c : Cf) (s : Sp) (r : Run) : PDoes Tryz.prog 31 [.agg (cCf c), .agg (cSp s), .agg (cRun r)] (.i .i64 (wrongJ c s r)) := by
  refine PDoes.of_bodyN Tryz.func31 rfl (by kernel_rfl) rfl rfl ?_
  have hCS := d_CSound c
  by_cases h0 : c.sound = 0
  rotate_left
  · rw [wrongJ, if_neg fun h => h0 h.1]
    skip;(repeat(first|(with_reducible first|apply wA|apply wB|apply wC|(apply wD;first|(refine wE ⟨?_,?_⟩;· kernel_rfl)|apply wE))|((with_reducible first|apply wF|apply wG);refine wH rfl ?_)))
    refine RG.callS rfl rfl rfl rfl rfl hCS rfl rfl ?_; refine wH rfl ?_;(repeat(first|(with_reducible first|apply wA|apply wB|apply wC|(apply wD;first|(refine wE ⟨?_,?_⟩;· kernel_rfl)|apply wE))|((with_reducible first|apply wF|apply wG);refine wH rfl ?_)))
    refine AW.cond rfl (fun h => ?_) (fun h => ?_)
    · exact absurd (of_decide_eq_true h) h0
    skip;(repeat(first|(with_reducible first|apply wA|apply wB|apply wC|(apply wD;first|(refine wE ⟨?_,?_⟩;· kernel_rfl)|apply wE))|((with_reducible first|apply wF|apply wG);refine wH rfl ?_)))
    refine AW.condT rfl ?_; skip;(repeat(first|(with_reducible first|apply wA|apply wB|apply wC|(apply wD;first|(refine wE ⟨?_,?_⟩;· kernel_rfl)|apply wE))|((with_reducible first|apply wF|apply wG);refine wH rfl ?_)))
    refine AW.ret (retQA ty_ok rfl rfl rfl ?_)
    rfl
  have hc := Cf.ok h0
  have hsz := sizes_le hc.sizes
  rw [h0] at hCS
  skip;(repeat(first|(with_reducible first|apply wA|apply wB|apply wC|(apply wD;first|(refine wE ⟨?_,?_⟩;· kernel_rfl)|apply wE))|((with_reducible first|apply wF|apply wG);refine wH rfl ?_)))
  refine RG.callS rfl rfl rfl rfl rfl hCS rfl rfl ?_; refine wH rfl ?_;(repeat(first|(with_reducible first|apply wA|apply wB|apply wC|(apply wD;first|(refine wE ⟨?_,?_⟩;· kernel_rfl)|apply wE))|((with_reducible first|apply wF|apply wG);refine wH rfl ?_)))
  refine AW.condT rfl ?_; skip;(repeat(first|(with_reducible first|apply wA|apply wB|apply wC|(apply wD;first|(refine wE ⟨?_,?_⟩;· kernel_rfl)|apply wE))|((with_reducible first|apply wF|apply wG);refine wH rfl ?_)))
  refine RG.callS rfl rfl rfl rfl rfl (d_jtenant c hc.topo s) rfl rfl ?_; refine wH rfl ?_;(repeat(first|(with_reducible first|apply wA|apply wB|apply wC|(apply wD;first|(refine wE ⟨?_,?_⟩;· kernel_rfl)|apply wE))|((with_reducible first|apply wF|apply wG);refine wH rfl ?_)))
  refine AW.cond rfl (fun h1 => ?_) (fun h1 => ?_)
  · have h1 : edgeOf c.topo.ports s < 0 := of_decide_eq_true h1
    rw [wrongJ, if_neg fun h => h.2 h1]
    skip;(repeat(first|(with_reducible first|apply wA|apply wB|apply wC|(apply wD;first|(refine wE ⟨?_,?_⟩;· kernel_rfl)|apply wE))|((with_reducible first|apply wF|apply wG);refine wH rfl ?_)))
    refine AW.ret (retQA ty_ok rfl rfl rfl ?_)
    rfl
  have h1 : ¬ edgeOf c.topo.ports s < 0 := of_decide_eq_false h1
  rw [wrongJ, if_pos ⟨h0, h1⟩]
  skip;(repeat(first|(with_reducible first|apply wA|apply wB|apply wC|(apply wD;first|(refine wE ⟨?_,?_⟩;· kernel_rfl)|apply wE))|((with_reducible first|apply wF|apply wG);refine wH rfl ?_)))
  refine AW.cond rfl (fun k3 => ?_) (fun k3 => ?_)
  · have k3 : r.fin = 3 := of_decide_eq_true k3
    skip;(repeat(first|(with_reducible first|apply wA|apply wB|apply wC|(apply wD;first|(refine wE ⟨?_,?_⟩;· kernel_rfl)|apply wE))|((with_reducible first|apply wF|apply wG);refine wH rfl ?_)))
    refine AW.ret (retQA ty_ok rfl rfl rfl ?_)
    rw [wrongOf, if_pos k3]
    rfl
  have k3 : ¬ r.fin = 3 := of_decide_eq_false k3
  skip;(repeat(first|(with_reducible first|apply wA|apply wB|apply wC|(apply wD;first|(refine wE ⟨?_,?_⟩;· kernel_rfl)|apply wE))|((with_reducible first|apply wF|apply wG);refine wH rfl ?_)))
  refine AW.cond rfl (fun k4 => ?_) (fun k4 => ?_)
  · have k4 : r.fin = 4 := of_decide_eq_true k4
    skip;(repeat(first|(with_reducible first|apply wA|apply wB|apply wC|(apply wD;first|(refine wE ⟨?_,?_⟩;· kernel_rfl)|apply wE))|((with_reducible first|apply wF|apply wG);refine wH rfl ?_)))
    refine AW.ret (retQA ty_ok rfl rfl rfl ?_)
    rw [wrongOf, if_neg k3, if_pos k4]
    rfl
  have k4 : ¬ r.fin = 4 := of_decide_eq_false k4
  skip;(repeat(first|(with_reducible first|apply wA|apply wB|apply wC|(apply wD;first|(refine wE ⟨?_,?_⟩;· kernel_rfl)|apply wE))|((with_reducible first|apply wF|apply wG);refine wH rfl ?_)))
  refine AW.cond rfl (fun k2 => ?_) (fun k2 => ?_)
  rotate_left
  · have k2 : ¬ r.fin = 2 := by simpa using k2
    skip;(repeat(first|(with_reducible first|apply wA|apply wB|apply wC|(apply wD;first|(refine wE ⟨?_,?_⟩;· kernel_rfl)|apply wE))|((with_reducible first|apply wF|apply wG);refine wH rfl ?_)))
    refine AW.ret (retQA ty_ok rfl rfl rfl ?_)
    rw [wrongOf, if_neg k3, if_neg k4, if_neg k2]
    rfl
  have k2 : r.fin = 2 := by simpa using k2
  rw [wrongOf, if_neg k3, if_neg k4, if_pos k2]
  have hfn : ∀ x ∈ vias c.pol (edgeOf c.topo.ports s) (edgeOf c.topo.ports r.at_), PDoes Tryz.prog 69 [.i .i64 x, .ro (cRun r)] (.b (!passed r x)) := fun x _ => d_WrongFn x r
  skip;(repeat(first|(with_reducible first|apply wA|apply wB|apply wC|(apply wD;first|(refine wE ⟨?_,?_⟩;· kernel_rfl)|apply wE))|((with_reducible first|apply wF|apply wG);refine wH rfl ?_)))
  refine RG.callS rfl rfl rfl rfl rfl (d_jtenant c hc.topo r.at_) rfl rfl ?_; refine wH rfl ?_;(repeat(first|(with_reducible first|apply wA|apply wB|apply wC|(apply wD;first|(refine wE ⟨?_,?_⟩;· kernel_rfl)|apply wE))|((with_reducible first|apply wF|apply wG);refine wH rfl ?_)))
  cases ha : allowed c.pol (edgeOf c.topo.ports s) (edgeOf c.topo.ports r.at_)
  · refine RG.callS rfl rfl rfl rfl rfl (d_Allowed c.pol _ _ _ ha) rfl rfl ?_; refine wH rfl ?_;(repeat(first|(with_reducible first|apply wA|apply wB|apply wC|(apply wD;first|(refine wE ⟨?_,?_⟩;· kernel_rfl)|apply wE))|((with_reducible first|apply wF|apply wG);refine wH rfl ?_)))
    refine AW.condT rfl ?_; skip;(repeat(first|(with_reducible first|apply wA|apply wB|apply wC|(apply wD;first|(refine wE ⟨?_,?_⟩;· kernel_rfl)|apply wE))|((with_reducible first|apply wF|apply wG);refine wH rfl ?_)))
    refine AW.ret (retQA ty_ok rfl rfl rfl ?_)
    rfl
  refine RG.callS rfl rfl rfl rfl rfl (d_Allowed c.pol _ _ _ ha) rfl rfl ?_; refine wH rfl ?_;(repeat(first|(with_reducible first|apply wA|apply wB|apply wC|(apply wD;first|(refine wE ⟨?_,?_⟩;· kernel_rfl)|apply wE))|((with_reducible first|apply wF|apply wG);refine wH rfl ?_)))
  refine AW.condF rfl ?_; skip;(repeat(first|(with_reducible first|apply wA|apply wB|apply wC|(apply wD;first|(refine wE ⟨?_,?_⟩;· kernel_rfl)|apply wE))|((with_reducible first|apply wF|apply wG);refine wH rfl ?_)))
  refine RG.callMS rfl rfl rfl rfl rfl rfl (d_Vias c.pol _ _ hsz.2) rfl ?_; refine wH rfl ?_;(repeat(first|(with_reducible first|apply wA|apply wB|apply wC|(apply wD;first|(refine wE ⟨?_,?_⟩;· kernel_rfl)|apply wE))|((with_reducible first|apply wF|apply wG);refine wH rfl ?_)))
  cases hv : (vias c.pol (edgeOf c.topo.ports s) (edgeOf c.topo.ports r.at_)).any (fun n => !passed r n)
  · refine RG.callS rfl rfl rfl rfl rfl (d_ContainsFunc_Int 69 (cRun r) _ _ hfn _ hv) rfl rfl ?_; refine wH rfl ?_;(repeat(first|(with_reducible first|apply wA|apply wB|apply wC|(apply wD;first|(refine wE ⟨?_,?_⟩;· kernel_rfl)|apply wE))|((with_reducible first|apply wF|apply wG);refine wH rfl ?_)))
    refine AW.condF rfl ?_; skip;(repeat(first|(with_reducible first|apply wA|apply wB|apply wC|(apply wD;first|(refine wE ⟨?_,?_⟩;· kernel_rfl)|apply wE))|((with_reducible first|apply wF|apply wG);refine wH rfl ?_)))
    refine AW.ret (retQA ty_ok rfl rfl rfl ?_)
    rfl
  · refine RG.callS rfl rfl rfl rfl rfl (d_ContainsFunc_Int 69 (cRun r) _ _ hfn _ hv) rfl rfl ?_; refine wH rfl ?_;(repeat(first|(with_reducible first|apply wA|apply wB|apply wC|(apply wD;first|(refine wE ⟨?_,?_⟩;· kernel_rfl)|apply wE))|((with_reducible first|apply wF|apply wG);refine wH rfl ?_)))
    refine AW.condT rfl ?_; skip;(repeat(first|(with_reducible first|apply wA|apply wB|apply wC|(apply wD;first|(refine wE ⟨?_,?_⟩;· kernel_rfl)|apply wE))|((with_reducible first|apply wF|apply wG);refine wH rfl ?_)))
    refine AW.ret (retQA ty_ok rfl rfl rfl ?_)
    rfl
def Run.zero : Run := ⟨0, ⟨0, 0⟩, []⟩
def vdE (kind e : Int) : Vd := ⟨kind, e, 0, ⟨0, 0⟩, Hd.zero, Run.zero⟩
def malE (c : Cf) (V : Int) : Int := if c.sound = 0 then (if V < 0 ∨ V > 255 then 4 else 0) else c.sound
theorem d_malformed (c : Cf) (V : Int) : PDoes Tryz.prog 71 [.agg (cCf c), .i .i64 V] (.tup [.agg (cVd (vdE 3 (malE c V))), .b (!decide (malE c V = 0))]) := by
  refine PDoes.of_bodyN Tryz.func71 rfl (by kernel_rfl) rfl rfl ?_
  by_cases h0 : c.sound = 0
  rotate_left
  · have e : malE c V = c.sound := by rw [malE, if_neg h0]
    rw [e]
    skip;(repeat(first|(with_reducible first|apply wA|apply wB|apply wC|(apply wD;first|(refine wE ⟨?_,?_⟩;· kernel_rfl)|apply wE))|((with_reducible first|apply wF|apply wG);refine wH rfl ?_)))
    refine RG.callS rfl rfl rfl rfl rfl (d_CSound c) rfl rfl ?_
    refine wH rfl ?_; skip;(repeat(first|(with_reducible first|apply wA|apply wB|apply wC|(apply wD;first|(refine wE ⟨?_,?_⟩;· kernel_rfl)|apply wE))))
    refine AW.text ?_
    refine RG.runO ty_ok 0 [(10, .b false)] 400 rfl (by repeat' (first|exact trivial|apply And.intro|exact dT ‹_›|exact dF ‹_›|exact dN ‹_›|exact dM ‹_›|exact dI ‹_›)) ?_
    skip;(repeat(first|(with_reducible first|apply wA|apply wB|apply wC|(apply wD;first|(refine wE ⟨?_,?_⟩;· kernel_rfl)|apply wE)))); refine AW.condF rfl ?_; skip;(repeat(first|(with_reducible first|apply wA|apply wB|apply wC|(apply wD;first|(refine wE ⟨?_,?_⟩;· kernel_rfl)|apply wE))|((with_reducible first|apply wF|apply wG);refine wH rfl ?_)))
    refine AW.ret (retQA ty_ok rfl rfl rfl ?_)
    rfl
  have hCS := d_CSound c
  rw [h0] at hCS
  skip;(repeat(first|(with_reducible first|apply wA|apply wB|apply wC|(apply wD;first|(refine wE ⟨?_,?_⟩;· kernel_rfl)|apply wE))|((with_reducible first|apply wF|apply wG);refine wH rfl ?_)))
  refine RG.callS rfl rfl rfl rfl rfl hCS rfl rfl ?_
  refine wH rfl ?_; skip;(repeat(first|(with_reducible first|apply wA|apply wB|apply wC|(apply wD;first|(refine wE ⟨?_,?_⟩;· kernel_rfl)|apply wE))))
  refine AW.text ?_
  by_cases g1 : V < 0
  · refine RG.runO ty_ok 0 [(13, .b true)] 400 rfl (by repeat' (first|exact trivial|apply And.intro|exact dT ‹_›|exact dF ‹_›|exact dN ‹_›|exact dM ‹_›|exact dI ‹_›)) ?_
    have e : malE c V = 4 := by rw [malE, if_pos h0, if_pos (by omega)]
    rw [e]
    skip;(repeat(first|(with_reducible first|apply wA|apply wB|apply wC|(apply wD;first|(refine wE ⟨?_,?_⟩;· kernel_rfl)|apply wE)))); refine AW.condT rfl ?_; skip;(repeat(first|(with_reducible first|apply wA|apply wB|apply wC|(apply wD;first|(refine wE ⟨?_,?_⟩;· kernel_rfl)|apply wE))|((with_reducible first|apply wF|apply wG);refine wH rfl ?_)))
    refine AW.ret (retQA ty_ok rfl rfl rfl ?_)
    rfl
  · by_cases g2 : V > 255
    · refine RG.runO ty_ok 0 [(13, .b false), (16, .b true)] 400 rfl (by repeat' (first|exact trivial|apply And.intro|exact dT ‹_›|exact dF ‹_›|exact dN ‹_›|exact dM ‹_›|exact dI ‹_›)) ?_
      have e : malE c V = 4 := by rw [malE, if_pos h0, if_pos (by omega)]
      rw [e]
      skip;(repeat(first|(with_reducible first|apply wA|apply wB|apply wC|(apply wD;first|(refine wE ⟨?_,?_⟩;· kernel_rfl)|apply wE)))); refine AW.condT rfl ?_; skip;(repeat(first|(with_reducible first|apply wA|apply wB|apply wC|(apply wD;first|(refine wE ⟨?_,?_⟩;· kernel_rfl)|apply wE))|((with_reducible first|apply wF|apply wG);refine wH rfl ?_)))
      refine AW.ret (retQA ty_ok rfl rfl rfl ?_)
      rfl
    · refine RG.runO ty_ok 0 [(13, .b false), (16, .b false)] 400 rfl (by repeat' (first|exact trivial|apply And.intro|exact dT ‹_›|exact dF ‹_›|exact dN ‹_›|exact dM ‹_›|exact dI ‹_›)) ?_
      have e : malE c V = 0 := by rw [malE, if_pos h0, if_neg (by omega)]
      rw [e]
      skip;(repeat(first|(with_reducible first|apply wA|apply wB|apply wC|(apply wD;first|(refine wE ⟨?_,?_⟩;· kernel_rfl)|apply wE)))); refine AW.condF rfl ?_; skip;(repeat(first|(with_reducible first|apply wA|apply wB|apply wC|(apply wD;first|(refine wE ⟨?_,?_⟩;· kernel_rfl)|apply wE))|((with_reducible first|apply wF|apply wG);refine wH rfl ?_)))
      refine AW.ret (retQA ty_ok rfl rfl rfl ?_)
      rfl
def overA (c : Cf) (V : Int) (s : Sp) : List Atom → Option Vd
 | [] => none
 | a :: l => bif decide (wrongJ c s (runOf c s a.head V 10800) = 0) then overA c V s l else some ⟨2, 0, wrongJ c s (runOf c s a.head V 10800), s, a.head, runOf c s a.head V 10800⟩
def overE (c : Cf) (V : Int) (list : List Atom) : List Sp → Vd
 | [] => vdE 1 0
 | s :: ss => match overA c V s list with
  | some v => v
  | none => overE c V list ss
def overOf (c : Cf) (V : Int) (list : List Atom) : Vd := bif decide (malE c V = 0) then overE c V list (edges c.topo.ports) else vdE 3 (malE c V)
theorem d_Over (c : Cf) (V : Int) (list : List Atom) (hL : malE c V = 0 → LooksOk c) : PDoes Tryz.prog 36 [.agg (cCf c), .i .i64 V, .sl (list.map cAtom)] (.agg (cVd (overOf c V list))) := by
  refine PDoes.of_bodyN Tryz.func36 rfl (by kernel_rfl) rfl rfl ?_
  rw [overOf]
  by_cases h1 : malE c V = 0
  rotate_left
  · have hm := d_malformed c V
    rw [decide_eq_false h1] at hm ⊢
    skip;(repeat(first|(with_reducible first|apply wA|apply wB|apply wC|(apply wD;first|(refine wE ⟨?_,?_⟩;· kernel_rfl)|apply wE))|((with_reducible first|apply wF|apply wG);refine wH rfl ?_)))
    refine RG.callMS rfl rfl rfl rfl rfl rfl hm rfl ?_; refine wH rfl ?_;(repeat(first|(with_reducible first|apply wA|apply wB|apply wC|(apply wD;first|(refine wE ⟨?_,?_⟩;· kernel_rfl)|apply wE))|((with_reducible first|apply wF|apply wG);refine wH rfl ?_)))
    refine AW.condT rfl ?_; skip;(repeat(first|(with_reducible first|apply wA|apply wB|apply wC|(apply wD;first|(refine wE ⟨?_,?_⟩;· kernel_rfl)|apply wE))|((with_reducible first|apply wF|apply wG);refine wH rfl ?_)))
    refine AW.ret (retQA ty_ok rfl rfl rfl ?_)
    rfl
  have hLk := hL h1
  clear hL
  have hm := d_malformed c V
  rw [decide_eq_true h1] at hm ⊢
  rw [h1] at hm
  rw [malE] at h1
  split at h1
  · rename_i h0
    split at h1
    · cases h1
    rename_i hV
    obtain ⟨v, rfl⟩ : ∃ v : Nat, V = v := ⟨V.toNat, by omega⟩
    have hV : v ≤ 255 := by omega
    have hc := Cf.ok h0
    have hE := edges_len hc.topo
    have hme : (edges c.topo.ports).length ≤ 9223372036854775807 := by omega
    rw [cond_true]
    skip;(repeat(first|(with_reducible first|apply wA|apply wB|apply wC|(apply wD;first|(refine wE ⟨?_,?_⟩;· kernel_rfl)|apply wE))|((with_reducible first|apply wF|apply wG);refine wH rfl ?_)))
    refine RG.callMS rfl rfl rfl rfl rfl rfl hm rfl ?_; refine wH rfl ?_;(repeat(first|(with_reducible first|apply wA|apply wB|apply wC|(apply wD;first|(refine wE ⟨?_,?_⟩;· kernel_rfl)|apply wE))|((with_reducible first|apply wF|apply wG);refine wH rfl ?_)))
    refine AW.condF rfl ?_; skip;(repeat(first|(with_reducible first|apply wA|apply wB|apply wC|(apply wD;first|(refine wE ⟨?_,?_⟩;· kernel_rfl)|apply wE))|((with_reducible first|apply wF|apply wG);refine wH rfl ?_)))
    refine RG.callMS rfl rfl rfl rfl rfl rfl (d_Edges c.topo.ports hc.topo) rfl ?_; refine wH rfl ?_;(repeat(first|(with_reducible first|apply wA|apply wB|apply wC|(apply wD;first|(refine wE ⟨?_,?_⟩;· kernel_rfl)|apply wE))|((with_reducible first|apply wF|apply wG);refine wH rfl ?_)))
    generalize hG : overE c v list (edges c.topo.ports) = G
    refine AW.lens 2 rfl fun hml => ?_
    rw [List.length_map] at hml
    refine AW.loopL (ι := Nat) (fun k => [(1, .i .i64 (v : Nat)), (2, .sl (list.map cAtom)), (3, .own 3 0 0), (6, .own 6 0 0), (26, .sl ((edges c.topo.ports).map cSp)), (27, .i .i64 ((edges c.topo.ports).map cSp).length), (28, .i .i64 (k : Nat))]) (fun _ => [(3, ⟨0, some (.box 31 (cCf c))⟩), (6, ⟨0, some (.box 64 [.i .i64 0, .i .i64 0, .i .i64 0, .i .i64 0, .i .i64 0, .u 0, .u 0, .i .i64 0, .i .i64 0, .i .i64 0, .raw (.slice none 0 0)])⟩)]) (fun k => k ≤ (edges c.topo.ports).length ∧ overE c v list ((edges c.topo.ports).drop k) = G) (fun k => (edges c.topo.ports).length - k) 0 ⟨Nat.zero_le _, hG⟩ (by repeat(first|exact trivial|refine ⟨rI rfl rfl,?_⟩|refine ⟨rO rfl rfl rfl,?_⟩|refine ⟨rR rfl rfl rfl,?_⟩|refine ⟨bR rfl rfl,?_⟩|refine ⟨bS rfl rfl rfl,?_⟩)) (by repeat(first|exact trivial|refine ⟨rI rfl rfl,?_⟩|refine ⟨rO rfl rfl rfl,?_⟩|refine ⟨rR rfl rfl rfl,?_⟩|refine ⟨bR rfl rfl,?_⟩|refine ⟨bS rfl rfl rfl,?_⟩)) fun k hk => ?_
    clear hG
    obtain ⟨hk, hf⟩ := hk
    skip;(repeat(first|(with_reducible first|apply wA|apply wB|apply wC|(apply wD;first|(refine wE ⟨?_,?_⟩;· kernel_rfl)|apply wE))|((with_reducible first|apply wF|apply wG);refine wH rfl ?_)))
    refine AW.cond rfl (fun h2 => ?_) (fun h2 => ?_)
    rotate_left
    · have h : ¬ k < (edges c.topo.ports).length := by simpa using h2
      obtain rfl : k = (edges c.topo.ports).length := by omega
      rw [List.drop_length, overE] at hf
      skip;(repeat(first|(with_reducible first|apply wA|apply wB|apply wC|(apply wD;first|(refine wE ⟨?_,?_⟩;· kernel_rfl)|apply wE))|((with_reducible first|apply wF|apply wG);refine wH rfl ?_)))
      refine AW.exit ?_; refine Eq.mpr (if_pos rfl) ?_; skip;(repeat(first|(with_reducible first|apply wA|apply wB|apply wC|(apply wD;first|(refine wE ⟨?_,?_⟩;· kernel_rfl)|apply wE))|((with_reducible first|apply wF|apply wG);refine wH rfl ?_)))
      refine AW.ret (retQA ty_ok rfl rfl rfl ?_)
      rw [← hf]
      rfl
    have h : k < (edges c.topo.ports).length := by simpa using h2
    have hs := List.getElem_mem h
    rw [List.drop_eq_getElem_cons h, overE] at hf
    skip;(repeat(first|(with_reducible first|apply wA|apply wB|apply wC|(apply wD;first|(refine wE ⟨?_,?_⟩;· kernel_rfl)|apply wE))))
    refine AW.text ?_
    refine RG.opS rfl (op_index rfl (tab_ok ty_ok rfl) rfl (tab_ok ty_ok rfl) rfl rfl (show ((edges c.topo.ports).map cSp)[k]? = some (cSp (edges c.topo.ports)[k]) by rw [List.getElem?_map, List.getElem?_eq_getElem (by assumption)]; rfl) rfl) rfl ?_
    generalize (edges c.topo.ports)[k] = s at hf hs
    have hns : ¬ edgeOf c.topo.ports s < 0 := by
      have := (edgeOf_iff hc.topo).2 hs
      omega
    refine wH rfl ?_;(repeat(first|(with_reducible first|apply wA|apply wB|apply wC|(apply wD;first|(refine wE ⟨?_,?_⟩;· kernel_rfl)|apply wE))|((with_reducible first|apply wF|apply wG);refine wH rfl ?_)))
    refine AW.loopL (ι := Nat) (fun j => [(1, .i .i64 (v : Nat)), (2, .sl (list.map cAtom)), (3, .own 3 0 0), (6, .own 6 0 0), (26, .sl ((edges c.topo.ports).map cSp)), (27, .i .i64 ((edges c.topo.ports).map cSp).length), (28, .i .i64 (k : Nat)), (10, .own 10 0 0), (32, .sl (list.map cAtom)), (33, .i .i64 (list.map cAtom).length), (34, .i .i64 (j : Nat))]) (fun _ => [(3, ⟨0, some (.box 31 (cCf c))⟩), (6, ⟨0, some (.box 64 [.i .i64 0, .i .i64 0, .i .i64 0, .i .i64 0, .i .i64 0, .u 0, .u 0, .i .i64 0, .i .i64 0, .i .i64 0, .raw (.slice none 0 0)])⟩), (10, ⟨0, some (.box 33 (cSp s))⟩)]) (fun j => j ≤ list.length ∧ (match overA c v s (list.drop j) with | some w => w | none => overE c v list ((edges c.topo.ports).drop (k + 1))) = G) (fun j => list.length - j) 0 ⟨Nat.zero_le _, hf⟩ (by repeat(first|exact trivial|refine ⟨rI rfl rfl,?_⟩|refine ⟨rO rfl rfl rfl,?_⟩|refine ⟨rR rfl rfl rfl,?_⟩|refine ⟨bR rfl rfl,?_⟩|refine ⟨bS rfl rfl rfl,?_⟩)) (by repeat(first|exact trivial|refine ⟨rI rfl rfl,?_⟩|refine ⟨rO rfl rfl rfl,?_⟩|refine ⟨rR rfl rfl rfl,?_⟩|refine ⟨bR rfl rfl,?_⟩|refine ⟨bS rfl rfl rfl,?_⟩)) fun j hj => ?_
    clear hf
    obtain ⟨hj, hf⟩ := hj
    skip;(repeat(first|(with_reducible first|apply wA|apply wB|apply wC|(apply wD;first|(refine wE ⟨?_,?_⟩;· kernel_rfl)|apply wE))|((with_reducible first|apply wF|apply wG);refine wH rfl ?_)))
    refine AW.cond rfl (fun h3 => ?_) (fun h3 => ?_)
    rotate_left
    · have h' : ¬ j < list.length := by simpa using h3
      obtain rfl : j = list.length := by omega
      rw [List.drop_length, overA] at hf
      skip;(repeat(first|(with_reducible first|apply wA|apply wB|apply wC|(apply wD;first|(refine wE ⟨?_,?_⟩;· kernel_rfl)|apply wE))|((with_reducible first|apply wF|apply wG);refine wH rfl ?_)))
      refine AW.exit ?_; refine Eq.mpr (if_pos rfl) ?_; skip;(repeat(first|(with_reducible first|apply wA|apply wB|apply wC|(apply wD;first|(refine wE ⟨?_,?_⟩;· kernel_rfl)|apply wE))|((with_reducible first|apply wF|apply wG);refine wH rfl ?_)))
      exact ⟨k + 1, ⟨⟨h, hf⟩, by omega⟩, ⟨Rn.is rfl rfl, Rn.is rfl rfl, Rn.ownIs rfl rfl rfl, Rn.ownIs rfl rfl rfl, Rn.is rfl rfl, Rn.is rfl rfl, Rn.is (i64_next h hme) rfl, trivial⟩, (by repeat(first|exact trivial|refine ⟨rI rfl rfl,?_⟩|refine ⟨rO rfl rfl rfl,?_⟩|refine ⟨rR rfl rfl rfl,?_⟩|refine ⟨bR rfl rfl,?_⟩|refine ⟨bS rfl rfl rfl,?_⟩))⟩
    have h' : j < list.length := by simpa using h3
    rw [List.drop_eq_getElem_cons h', overA] at hf
    skip;(repeat(first|(with_reducible first|apply wA|apply wB|apply wC|(apply wD;first|(refine wE ⟨?_,?_⟩;· kernel_rfl)|apply wE))))
    refine AW.text ?_
    refine RG.opS rfl (op_index rfl (tab_ok ty_ok rfl) rfl (tab_ok ty_ok rfl) rfl rfl (show (list.map cAtom)[j]? = some (cAtom list[j]) by rw [List.getElem?_map, List.getElem?_eq_getElem (by assumption)]; rfl) rfl) rfl ?_
    generalize list[j] = a at hf
    have hR := d_Run c h0 hLk s hs a.head v hV
    generalize runOf c s a.head v 10800 = r at hf hR
    refine wH rfl ?_;(repeat(first|(with_reducible first|apply wA|apply wB|apply wC|(apply wD;first|(refine wE ⟨?_,?_⟩;· kernel_rfl)|apply wE))|((with_reducible first|apply wF|apply wG);refine wH rfl ?_)))
    refine RG.callMS rfl rfl rfl rfl rfl rfl hR rfl ?_; refine wH rfl ?_;(repeat(first|(with_reducible first|apply wA|apply wB|apply wC|(apply wD;first|(refine wE ⟨?_,?_⟩;· kernel_rfl)|apply wE))|((with_reducible first|apply wF|apply wG);refine wH rfl ?_)))
    refine RG.callS rfl rfl rfl rfl rfl (d_JWrong c s r) rfl rfl ?_; refine wH rfl ?_;(repeat(first|(with_reducible first|apply wA|apply wB|apply wC|(apply wD;first|(refine wE ⟨?_,?_⟩;· kernel_rfl)|apply wE))|((with_reducible first|apply wF|apply wG);refine wH rfl ?_)))
    refine AW.cond rfl (fun h4 => ?_) (fun h4 => ?_)
    · have h4 : ¬ wrongJ c s r = 0 := by simpa using h4
      rw [decide_eq_false h4, cond_false] at hf
      skip;(repeat(first|(with_reducible first|apply wA|apply wB|apply wC|(apply wD;first|(refine wE ⟨?_,?_⟩;· kernel_rfl)|apply wE))|((with_reducible first|apply wF|apply wG);refine wH rfl ?_)))
      refine AW.ret (retQA ty_ok rfl rfl rfl ?_)
      rw [← hf]
      rfl
    · have h4 : wrongJ c s r = 0 := by simpa using h4
      rw [decide_eq_true h4, cond_true] at hf
      skip;(repeat(first|(with_reducible first|apply wA|apply wB|apply wC|(apply wD;first|(refine wE ⟨?_,?_⟩;· kernel_rfl)|apply wE))|((with_reducible first|apply wF|apply wG);refine wH rfl ?_)))
      exact ⟨j + 1, ⟨⟨h', hf⟩, by omega⟩, ⟨Rn.is rfl rfl, Rn.is rfl rfl, Rn.ownIs rfl rfl rfl, Rn.ownIs rfl rfl rfl, Rn.is rfl rfl, Rn.is rfl rfl, Rn.is rfl rfl, Rn.ownIs rfl rfl rfl, Rn.is rfl rfl, Rn.is rfl rfl, Rn.is (i64_next h' hml) rfl, trivial⟩, (by repeat(first|exact trivial|refine ⟨rI rfl rfl,?_⟩|refine ⟨rO rfl rfl rfl,?_⟩|refine ⟨rR rfl rfl rfl,?_⟩|refine ⟨bR rfl rfl,?_⟩|refine ⟨bS rfl rfl rfl,?_⟩))⟩
  · rename_i h0
    exact absurd h1 h0
def judgeOf (c : Cf) (V : Int) (l' : List Cb) : Vd :=
 bif decide (malE c V = 0) then (bif decide ((askedOf c V).length > 500) then vdE 4 10 else bif decide ((atomsOf l').2 = 0) then overOf c V (atomsOf l').1 else vdE 4 (atomsOf l').2) else vdE 3 (malE c V)
theorem d_Judge (c : Cf) (V : Int) (l' : List Cb) (hL : malE c V = 0 → LooksOk c) (hS : malE c V = 0 → c.Small) (hP : malE c V = 0 → l'.Perm (askedOf c V)) (hM : malE c V = 0 → (askedOf c V).length ≤ 500 → MSort (askedOf c V) l') : PDoes Tryz.prog 32 [.agg (cCf c), .i .i64 V] (.agg (cVd (judgeOf c V l'))) := by
  refine PDoes.of_bodyN Tryz.func32 rfl (by kernel_rfl) rfl rfl ?_
  rw [judgeOf]
  have hO := d_Over c V (atomsOf l').1 hL
  by_cases h1 : malE c V = 0
  rotate_left
  · have hm := d_malformed c V
    rw [decide_eq_false h1] at hm ⊢
    skip;(repeat(first|(with_reducible first|apply wA|apply wB|apply wC|(apply wD;first|(refine wE ⟨?_,?_⟩;· kernel_rfl)|apply wE))|((with_reducible first|apply wF|apply wG);refine wH rfl ?_)))
    refine RG.callMS rfl rfl rfl rfl rfl rfl hm rfl ?_; refine wH rfl ?_;(repeat(first|(with_reducible first|apply wA|apply wB|apply wC|(apply wD;first|(refine wE ⟨?_,?_⟩;· kernel_rfl)|apply wE))|((with_reducible first|apply wF|apply wG);refine wH rfl ?_)))
    refine AW.condT rfl ?_; skip;(repeat(first|(with_reducible first|apply wA|apply wB|apply wC|(apply wD;first|(refine wE ⟨?_,?_⟩;· kernel_rfl)|apply wE))|((with_reducible first|apply wF|apply wG);refine wH rfl ?_)))
    refine AW.ret (retQA ty_ok rfl rfl rfl ?_)
    rfl
  replace hS := hS h1
  replace hP := hP h1
  replace hM := hM h1
  have hm := d_malformed c V
  rw [decide_eq_true h1] at hm ⊢
  rw [h1] at hm
  rw [malE] at h1
  split at h1
  · rename_i h0
    split at h1
    · cases h1
    rename_i hV
    obtain ⟨v, rfl⟩ : ∃ v : Nat, V = v := ⟨V.toNat, by omega⟩
    have hV : v ≤ 255 := by omega
    have hOf := d_Of c h0 hS v hV l' hP hM
    rw [ofR] at hOf
    rw [cond_true]
    skip;(repeat(first|(with_reducible first|apply wA|apply wB|apply wC|(apply wD;first|(refine wE ⟨?_,?_⟩;· kernel_rfl)|apply wE))|((with_reducible first|apply wF|apply wG);refine wH rfl ?_)))
    refine RG.callMS rfl rfl rfl rfl rfl rfl hm rfl ?_; refine wH rfl ?_;(repeat(first|(with_reducible first|apply wA|apply wB|apply wC|(apply wD;first|(refine wE ⟨?_,?_⟩;· kernel_rfl)|apply wE))|((with_reducible first|apply wF|apply wG);refine wH rfl ?_)))
    refine AW.condF rfl ?_; skip;(repeat(first|(with_reducible first|apply wA|apply wB|apply wC|(apply wD;first|(refine wE ⟨?_,?_⟩;· kernel_rfl)|apply wE))|((with_reducible first|apply wF|apply wG);refine wH rfl ?_)))
    by_cases h2 : (askedOf c v).length > 500
    · rw [decide_eq_true h2] at hOf ⊢
      refine RG.callMS rfl rfl rfl rfl rfl rfl hOf rfl ?_; refine wH rfl ?_;(repeat(first|(with_reducible first|apply wA|apply wB|apply wC|(apply wD;first|(refine wE ⟨?_,?_⟩;· kernel_rfl)|apply wE))|((with_reducible first|apply wF|apply wG);refine wH rfl ?_)))
      refine AW.condT rfl ?_; skip;(repeat(first|(with_reducible first|apply wA|apply wB|apply wC|(apply wD;first|(refine wE ⟨?_,?_⟩;· kernel_rfl)|apply wE))|((with_reducible first|apply wF|apply wG);refine wH rfl ?_)))
      refine AW.ret (retQA ty_ok rfl rfl rfl ?_)
      rfl
    rw [decide_eq_false h2] at hOf ⊢
    rw [cond_false]
    refine RG.callMS rfl rfl rfl rfl rfl rfl hOf rfl ?_; refine wH rfl ?_;(repeat(first|(with_reducible first|apply wA|apply wB|apply wC|(apply wD;first|(refine wE ⟨?_,?_⟩;· kernel_rfl)|apply wE))|((with_reducible first|apply wF|apply wG);refine wH rfl ?_)))
    refine AW.condF rfl ?_; skip;(repeat(first|(with_reducible first|apply wA|apply wB|apply wC|(apply wD;first|(refine wE ⟨?_,?_⟩;· kernel_rfl)|apply wE))|((with_reducible first|apply wF|apply wG);refine wH rfl ?_)))
    refine RG.callMS rfl rfl rfl rfl rfl rfl (d_Split l') rfl ?_; refine wH rfl ?_;(repeat(first|(with_reducible first|apply wA|apply wB|apply wC|(apply wD;first|(refine wE ⟨?_,?_⟩;· kernel_rfl)|apply wE))|((with_reducible first|apply wF|apply wG);refine wH rfl ?_)))
    refine AW.cond rfl (fun h3 => ?_) (fun h3 => ?_)
    · have h3 : ¬ (atomsOf l').2 = 0 := by simpa using h3
      rw [decide_eq_false h3, cond_false]
      skip;(repeat(first|(with_reducible first|apply wA|apply wB|apply wC|(apply wD;first|(refine wE ⟨?_,?_⟩;· kernel_rfl)|apply wE))|((with_reducible first|apply wF|apply wG);refine wH rfl ?_)))
      refine AW.ret (retQA ty_ok rfl rfl rfl ?_)
      rfl
    · have h3 : (atomsOf l').2 = 0 := by simpa using h3
      rw [decide_eq_true h3, cond_true]
      skip;(repeat(first|(with_reducible first|apply wA|apply wB|apply wC|(apply wD;first|(refine wE ⟨?_,?_⟩;· kernel_rfl)|apply wE))|((with_reducible first|apply wF|apply wG);refine wH rfl ?_)))
      refine RG.callMS rfl rfl rfl rfl rfl rfl hO rfl ?_; refine wH rfl ?_;(repeat(first|(with_reducible first|apply wA|apply wB|apply wC|(apply wD;first|(refine wE ⟨?_,?_⟩;· kernel_rfl)|apply wE))|((with_reducible first|apply wF|apply wG);refine wH rfl ?_)))
      refine AW.ret (retQA ty_ok rfl rfl rfl ?_)
      rfl
  · rename_i h0
    exact absurd h1 h0
end Go.Proofs.YtahjjfhjjbgjaaaGreat.Sm
end
section
namespace Go.Proofs.YtahjjfhjjbgjaaaGreat.Sm
open Go.RowKit
section
variable {P : Program} {N : Nat} {o : Oper} {s : St}
theorem op_buildRef {t e len id : Nat} {ti ei : TI} {parts : Array (Nat × Operand)} {xs cs : List AV} (ho : o.op = .buildSlice t len parts) (ht : TiOk P t ti) (hk : ti.k = .slice e) (he : TiOk P e ei) (h1 : ei.n = 1) (hlen : 0 < len) (hbig : Nat.ble len 1000000 = true)
    (hx : parts.toList.map (fun p => s.ev p.2) = xs) (hf : fillA (fun i => some (i * ei.n, ei.n)) (List.replicate len ei.z).flatten ((parts.toList.map (·.1)).zip xs) = some cs) (hl : cs.length = len) (hone : cs.all AV.one = true) :
    OpLoc P N o s ⟨.ref id ((s.σ id).ep + 1) (.sl 0 len len), [(id, ⟨(s.σ id).ep + 1, some (.box e cs)⟩)], []⟩ := by
  subst hx
  have hbig := Nat.le_of_ble_eq_true hbig
  refine oploc_new [] fun s' W F μ a g1 g2 hid hs => ?_
  obtain ⟨inf, d, z, q1, q2, q3, q4, q5, q6, q7⟩ := he.h
  have hp := parts_rel (s := s) hs (parts := parts) fun p hp => g1 p.2 (by rw [ho]; simp only [Op.operands, List.mem_map]; exact ⟨p, hp, rfl⟩)
  have hzr := zsOk_rel (W := W) (F := F) q7
  have hzn := he.zl
  have hzl : ei.z.length = z.cells.size := by rw [← Array.length_toList]; exact hzr.1.symm
  have hzip : (parts.toList.map (·.1)).zip (parts.toList.map fun p => s.ev p.2) = parts.toList.map fun p => (p.1, s.ev p.2) := by
    rw [List.zip_map']
  rw [hzip] at hf
  obtain ⟨us, k1, k2, k3⟩ := fill_ok (W := W) (F := F) (μ := μ) (σ := s'.σ) (parts.toList.map fun p => (p.1, s.ev p.2)) (parts.map fun (p : Nat × Operand) => (p.1, a.eval p.2)).toList (List.replicate len ei.z).flatten
    ((Array.range (len * ei.n)).map (z.cells[· % z.cells.size]!)) cs hp.1 hp.2 (by rw [flat_len (m := ei.n) (by intro cs hcs; rw [(List.mem_replicate.1 hcs).2]; exact hzn)]; simp) (fun j x v hx hv => by
      have hj : j < len * ei.n := by
        have := (List.getElem?_eq_some_iff.1 hx).1
        rw [flat_len (m := ei.n) (by intro cs hcs; rw [(List.mem_replicate.1 hcs).2]; exact hzn)] at this
        simpa using this
      rw [rep_flat _ _ _ (by rw [hzn]; exact hj), hzn] at hx
      rw [Array.getElem?_map] at hv
      have : (Array.range (len * ei.n))[j]? = some j := by simp [hj]
      rw [this] at hv
      have hlt : j % ei.n < z.cells.size := by rw [← hzl, hzn]; exact Nat.mod_lt _ (by omega)
      have hv' : z.cells.toList[j % ei.n]? = some v := by
        rw [Array.getElem?_toList, Array.getElem?_eq_getElem hlt]
        simp only [Option.map_some, ← hzl, hzn] at hv
        rw [getElem!_pos z.cells _ hlt] at hv
        exact hv
      have := hzr.2 _ x v hx hv'
      exact ⟨this.2, .pure this.1⟩) hf
  have hpos : ¬ len * ei.n = 0 := by rw [h1]; omega
  refine ⟨.slice (some ⟨W.heap.size, 0, none⟩) len len, us.toList, e, len, ?_, fun μ' σ' hst hσ hμ => ⟨⟨W.heap.size, len, us.toList, rfl, heap_alloc_new W _, by simp [k2], fun j x v hx hv => ?_⟩, .ref id _ (.sl 0 len len) _ (by rw [hσ]; exact Nat.le_refl _) rfl fun bd hbd => ⟨W.heap.size, len, hμ, rfl⟩⟩⟩
  · have e3 : us.toList.toArray = us := by simp
    have hrun := run_buildSlice (P := P) W t e len (parts.map fun (p : Nat × Operand) => (p.1, a.eval p.2)) us inf z (ht.slice hk) q1 q6 (by rw [q3, h1]; omega) (by rw [q3]; exact hpos) (by rw [q3]; exact k1)
    simp only [execOp, ho, Sem.run_bind, hrun, Result.andThen_ok, Sem.run_pure, e3]
  · obtain ⟨r1, r2⟩ := k3 j x v hx (by simpa using hv)
    exact ⟨r1, r2.stp hs.inv hst⟩
theorem op_indexRef (k : Nat) {t e id ep n cap ty : Nat} {ti ei : TI} {x i : Operand} {kd : IntKind} {cs : List AV} (ho : o.op = .indexAddr t x i) (ht : TiOk P t ti) (hk : ti.k = .slice e) (he : TiOk P e ei) (h1 : ei.n = 1) (hx : s.ev x = .ref id ep (.sl 0 n cap)) (hid : s.σ id = ⟨ep, some (.box ty cs)⟩) (hi : s.ev i = .i kd (k : Int)) (hlt : k < n) :
  OpLoc P N o s ⟨.own id ep k, [], [id]⟩ := by
 refine oploc_val [id] _ fun s' W F μ a g1 g2 hs => ?_
 have hid' := (g2 id (by simp)).trans hid
 have ex := hs.ev x
 rw [g1 x (by rw [ho]; simp [Op.operands]), hx] at ex
 have ei' := hs.ev i
 rw [g1 i (by rw [ho]; simp [Op.operands]), hi] at ei'
 obtain ⟨b, c, hm, hv⟩ := (Rel.ref' ex).2.2 _ hid'
 have hcond : (0 : Int) ≤ (k : Int) ∧ (k : Int) < (n : Int) := by omega
 refine ⟨.pointer (some ⟨b, k, none⟩), ?_, .own id ep k _ (by rw [hid']; exact Nat.le_refl _) rfl fun bd hbd => ⟨b, c, hm, rfl⟩⟩
 have h0 : (0 : Nat) + k * ei.n = k := by rw [h1]; omega
 simp only [execOp, ho, Instr.indexAt, hv, RK.val, ei'.i', asIntOf, Sem.run_bind, Sem.run_pure, Result.andThen_ok, run_underlying (ht.slice hk), if_pos hcond, he.size, Int.toNat_natCast, ca_ptr (W := W), h0]
end
end Go.Proofs.YtahjjfhjjbgjaaaGreat.Sm
end
section
namespace Go.Proofs.YtahjjfhjjbgjaaaGreat.Sm
open Go.RowKit
def lnCube : Cb := ⟨⟨0, 1⟩, ⟨0, 1⟩⟩
def lnDrop : Rl := ⟨0, Cb.zero, ⟨1, 0, 0, Cb.zero⟩⟩
def lnR0 : List Rl := [⟨1, lnCube, ⟨3, 1, 0, Cb.zero⟩⟩, lnDrop]
def lnR1 : List Rl := [⟨1, lnCube, ⟨2, 1, 0, Cb.zero⟩⟩, lnDrop]
def lnPorts : List (List Pt) := [[⟨1, 0, 0, 0, 0⟩, ⟨2, 0, 1, 0, 1⟩], [⟨2, 0, 0, 1, 1⟩, ⟨1, 0, 0, 0, 0⟩]]
def lineC : Cf := ⟨⟨lnPorts⟩, ⟨1, [], []⟩, [[lnR0], [lnR1]]⟩
def lnB : List (Nat × SB) := [(300, ⟨0, some (.box 57 [.ref 301 0 (.sl 0 1 1), .ref 302 0 (.sl 0 1 1)])⟩), (301, ⟨0, some (.box 58 [.row 24 0 0 2])⟩), (302, ⟨0, some (.box 58 [.row 30 0 0 2])⟩), (24, ⟨0, some (.row 54 12 (lnR0.map cRl))⟩), (30, ⟨0, some (.row 54 12 (lnR1.map cRl))⟩), (12, ⟨0, some (.row 111 1 (lnPorts.map cPts))⟩)]
def lnV : AV := .agg [.row 12 0 0 2, .i .i64 1, .sl [], .sl [], .ref 300 0 (.sl 0 2 2)]
def RmL (π : List (Nat × Nat)) (σ σ' : Sto) : List AV → List AV → Prop
 | [], [] => True
 | x :: xs, y :: ys => (Rm π σ σ' x y ∧ y.one = true) ∧ RmL π σ σ' xs ys
 | _, _ => False
theorem RmL.ok {π : List (Nat × Nat)} {σ σ' : Sto} : ∀ {xs ys : List AV}, RmL π σ σ' xs ys → ys.length = xs.length ∧ ∀ (j : Nat) (x y : AV), xs[j]? = some x → ys[j]? = some y → Rm π σ σ' x y ∧ y.one = true
 | [], [], _ => ⟨rfl, fun j x y h => by simp at h⟩
 | x :: xs, y :: ys, h => by
  obtain ⟨h1, h2⟩ := h
  obtain ⟨g1, g2⟩ := RmL.ok h2
  refine ⟨by rw [List.length_cons, List.length_cons, g1], fun j a b ha hb => ?_⟩
  cases j with
  | zero =>
   obtain rfl : x = a := by simpa using ha
   obtain rfl : y = b := by simpa using hb
   exact h1
  | succ j => exact g2 j a b (by simpa using ha) (by simpa using hb)
 | [], y :: ys, h => h.elim
 | x :: xs, [], h => h.elim
theorem Rm.aggL {π : List (Nat × Nat)} {σ σ' : Sto} {z : AV} {xs ys : List AV} (e : z = .agg xs) (h : RmL π σ σ' xs ys) : Rm π σ σ' z (.agg ys) := by
 subst e
 obtain ⟨g1, g2⟩ := h.ok
 refine .agg g1 (fun j y hy => ?_) fun j x y hx hy => (g2 j x y hx hy).1
 obtain ⟨x, hx⟩ : ∃ x, xs[j]? = some x := ⟨_, List.getElem?_eq_getElem (by rw [← g1]; exact (List.getElem?_eq_some_iff.1 hy).1)⟩
 exact (g2 j x y hx hy).2
theorem Rm.refIs {π : List (Nat × Nat)} {σ σ' : Sto} {x : AV} {id id' ep ep' : Nat} {k : RK} {bd bd' : Body} (e : x = .ref id ep k) (hm : lkP π id = some id') (h : σ id = ⟨ep, some bd⟩) (h' : σ' id' = ⟨ep', some bd'⟩) : Rm π σ σ' x (.ref id' ep' k) := e ▸ .ref (lkP_ok hm) h h'
theorem m_line16 (q : Nat → Option (Nat × Nat)) : MDoes Tryz.prog 88 [] (gl q [] []) lnV (gl q [] lnB) := by
 refine MDoes.of_body Tryz.func88 rfl (by kernel_rfl) rfl rfl ?_
 skip;(repeat(first|(with_reducible first|apply wA|apply wB|apply wC|(apply wD;first|(refine wE ⟨?_,?_⟩;· kernel_rfl)|apply wE))))
 refine wF ?_;refine wH rfl ?_;(repeat(first|(with_reducible first|apply wA|apply wB|apply wC|(apply wD;first|(refine wE ⟨?_,?_⟩;· kernel_rfl)|apply wE))))
 refine wF ?_;refine wH rfl ?_;(repeat(first|(with_reducible first|apply wA|apply wB|apply wC|(apply wD;first|(refine wE ⟨?_,?_⟩;· kernel_rfl)|apply wE))))
 refine wF ?_;refine wH rfl ?_;(repeat(first|(with_reducible first|apply wA|apply wB|apply wC|(apply wD;first|(refine wE ⟨?_,?_⟩;· kernel_rfl)|apply wE))))
 refine wF ?_;refine wH rfl ?_;(repeat(first|(with_reducible first|apply wA|apply wB|apply wC|(apply wD;first|(refine wE ⟨?_,?_⟩;· kernel_rfl)|apply wE))))
 refine wF ?_;refine wH rfl ?_;(repeat(first|(with_reducible first|apply wA|apply wB|apply wC|(apply wD;first|(refine wE ⟨?_,?_⟩;· kernel_rfl)|apply wE))))
 refine AW.text ?_
 refine RG.runG ty_ok 0 5 rfl ?_
 refine RG.opS rfl (op_buildRef (id := 301) rfl (tab_ok ty_ok rfl) rfl (tab_ok ty_ok rfl) rfl (by decide) rfl rfl rfl rfl rfl) rfl ?_
 refine RG.runG ty_ok 0 5 rfl ?_
 refine RG.opS rfl (op_buildRef (id := 302) rfl (tab_ok ty_ok rfl) rfl (tab_ok ty_ok rfl) rfl (by decide) rfl rfl rfl rfl rfl) rfl ?_
 refine RG.opS rfl (op_buildRef (id := 300) rfl (tab_ok ty_ok rfl) rfl (tab_ok ty_ok rfl) rfl (by decide) rfl rfl rfl rfl rfl) rfl ?_
 refine wH rfl ?_;(repeat(first|(with_reducible first|apply wA|apply wB|apply wC|(apply wD;first|(refine wE ⟨?_,?_⟩;· kernel_rfl)|apply wE))|((with_reducible first|apply wF|apply wG);refine wH rfl ?_)))
 refine AW.ret (retMA ty_ok rfl rfl (Rm.aggL rfl ⟨⟨Rm.rowIs rfl rfl rfl rfl, rfl⟩, ⟨Rm.is rfl rfl, rfl⟩, ⟨.nil, rfl⟩, ⟨.nil, rfl⟩, ⟨Rm.refIs rfl rfl rfl rfl, rfl⟩, trivial⟩) ⟨.boxL rfl ⟨Rn.refIs rfl rfl rfl, Rn.refIs rfl rfl rfl, trivial⟩ rfl, .boxL rfl ⟨Rn.rowIs rfl rfl rfl, trivial⟩ rfl, .boxL rfl ⟨Rn.rowIs rfl rfl rfl, trivial⟩ rfl, .row rfl rfl, .row rfl rfl, .row rfl rfl, trivial⟩)
end Go.Proofs.YtahjjfhjjbgjaaaGreat.Sm
end
section
namespace Go.Proofs.YtahjjfhjjbgjaaaGreat.Sm
open Go.RowKit
theorem looks_of {c : Cf} (h : ∀ tb ∈ c.tables, ∀ l ∈ tb, Falls l ∧ l.length ≤ 12) : LooksOk c := by
 intro n t
 have h0 : LookOk [] := look_falls (fun k x y h => by simp at h) (Nat.zero_le _)
 rw [tabOf, List.getD_eq_getElem?_getD, List.getD_eq_getElem?_getD]
 cases h1 : c.tables[n]? with
 | none => exact h0
 | some tb =>
  show LookOk (tb[t]?.getD [])
  cases h2 : tb[t]? with
  | none => exact h0
  | some l =>
   obtain ⟨g1, g2⟩ := h tb (List.mem_of_getElem? h1) l (List.mem_of_getElem? h2)
   exact look_falls g1 g2
theorem falls0 : Falls lnR0 := by
 intro k x y hx hy
 match k with
 | 0 =>
  obtain rfl := Option.some.inj hx
  obtain rfl := Option.some.inj hy
  decide
 | k + 1 => simp [lnR0] at hy
theorem falls1 : Falls lnR1 := by
 intro k x y hx hy
 match k with
 | 0 =>
  obtain rfl := Option.some.inj hx
  obtain rfl := Option.some.inj hy
  decide
 | k + 1 => simp [lnR1] at hy
theorem fallsT {l : List Rl} : Falls (l.take 1) := by
 intro k x y hx hy
 rw [List.getElem?_take] at hy
 rw [if_neg (by omega)] at hy
 cases hy
theorem lineC_looks : LooksOk lineC := looks_of (by
 intro tb htb l hl
 simp only [lineC, List.mem_cons, List.not_mem_nil, or_false] at htb
 rcases htb with rfl | rfl
 ·simp only [List.mem_cons, List.not_mem_nil, or_false] at hl
  subst hl
  exact ⟨falls0, by decide⟩
 ·simp only [List.mem_cons, List.not_mem_nil, or_false] at hl
  subst hl
  exact ⟨falls1, by decide⟩)
def badD : Cf := ⟨⟨lnPorts⟩, ⟨1, [], []⟩, [[lnR0.take 1], [lnR1]]⟩
theorem badD_looks : LooksOk badD := looks_of (by
 intro tb htb l hl
 simp only [badD, List.mem_cons, List.not_mem_nil, or_false] at htb
 rcases htb with rfl | rfl
 ·simp only [List.mem_cons, List.not_mem_nil, or_false] at hl
  subst hl
  exact ⟨fallsT, by decide⟩
 ·simp only [List.mem_cons, List.not_mem_nil, or_false] at hl
  subst hl
  exact ⟨falls1, by decide⟩)
end Go.Proofs.YtahjjfhjjbgjaaaGreat.Sm
end
section
namespace Go.Proofs.YtahjjfhjjbgjaaaGreat.Sm
open Go.RowKit
theorem small_of {c : Cf} (h : c.tables.all (fun t => Nat.ble t.flatten.length 1000) = true) : c.Small := fun t ht => by
 have := Nat.le_of_ble_eq_true (List.all_eq_true.1 h t ht)
 omega
theorem d_JudgeC (c : Cf) (V : Int) (r : Vd) (hL : LooksOk c) (hs : c.tables.all (fun t => Nat.ble t.flatten.length 1000) = true) (hl : Nat.blt (askedOf c V).length 20 = true) (hr : judgeOf c V (insS (askedOf c V)) = r) : PDoes Tryz.prog 32 [.agg (cCf c), .i .i64 V] (.agg (cVd r)) := by
 subst hr
 exact d_Judge c V _ (fun _ => hL) (fun _ => small_of hs) (fun _ => insS_perm _) fun _ _ => sort_few _ (Nat.le_of_ble_eq_true hl)
end Go.Proofs.YtahjjfhjjbgjaaaGreat.Sm
end
section
namespace Go.Proofs.YtahjjfhjjbgjaaaGreat.Sm
open Go.RowKit
def Hop.zero : Hop := ⟨0, 0, 0, Hd.zero⟩
def thereB (c : Cf) (h : Hop) : Bool := decide (0 ≤ h.sw) && (decide (h.sw < (c.tables.length : Nat)) && (decide (0 ≤ h.table) && (decide (h.table < ((c.tables.getD h.sw.toNat []).length : Nat)) && (decide (-1 ≤ h.rule) && decide (h.rule < ((tabOf c h.sw.toNat h.table.toNat).length : Nat))))))
def firstB (rl p : Int) (k : Nat) (r : Rl) : Bool := decide (rl < 0) || (decide (r.prio > p) || (decide (r.prio = p) && decide ((k : Int) < rl)))
def noneF (rl p : Int) (h : Hd) : Nat → List Rl → Bool
 | _, [] => true
 | k, r :: rs => bif firstB rl p k r && (!decide ((k : Int) = rl) && r.mat.has h) then false else noneF rl p h (k + 1) rs
def matchB (c : Cf) (h : Hop) : Bool := noneF h.rule ((tabOf c h.sw.toNat h.table.toNat).getD h.rule.toNat Rl.zero).prio h.head 0 (tabOf c h.sw.toNat h.table.toNat) && (decide (h.rule < 0) || ((tabOf c h.sw.toNat h.table.toNat).getD h.rule.toNat Rl.zero).mat.has h.head)
def ruleAt (c : Cf) (h : Hop) : Rl := (tabOf c h.sw.toNat h.table.toNat).getD h.rule.toNat Rl.zero
def nextH (c : Cf) (h : Hop) : Hop := if h.rule < 0 then Hop.zero else if (ruleAt c h).act.kind = 4 then ⟨h.sw, (ruleAt c h).act.table, 0, h.head.set (ruleAt c h).act.set⟩ else if (ruleAt c h).act.kind = 3 then ⟨(portAt c.topo.ports ⟨h.sw, (ruleAt c h).act.port⟩).peer, 0, 0, h.head.set (ruleAt c h).act.set⟩ else Hop.zero
def nextE (c : Cf) (h : Hop) : Int := if h.rule < 0 then 3 else if (ruleAt c h).act.kind = 4 then 0 else if (ruleAt c h).act.kind = 3 then 0 else if (ruleAt c h).act.kind = 2 then 2 else 1
def nextA (c : Cf) (h : Hop) : Sp := if h.rule < 0 then Sp.zero else if (ruleAt c h).act.kind = 2 then ⟨h.sw, (ruleAt c h).act.port⟩ else Sp.zero
def okB (c : Cf) (want h : Hop) : Bool := decide (h = ⟨want.sw, want.table, h.rule, want.head⟩) && (thereB c h && matchB c h)
def lastE (i : Nat) (e : Int) : Int := if e = 0 ∧ i = 10799 then 4 else e
def flw (c : Cf) : Nat → Hop → Int → Sp → List Hop → Option (Int × Sp)
 | _, _, fin, a, [] => some (fin, a)
 | i, want, fin, a, h :: hs => bif okB c want h && decide (fin = 0) then flw c (i + 1) (nextH c h) (lastE i (nextE c h)) (nextA c h) hs else none
def traceB (c : Cf) (s : Sp) (h : Hd) (V : Int) (r : Run) : Bool :=
 bif decide (stampE c s V = 0) then (match flw c 0 ⟨s.sw, 0, 0, h.set (stampOf c s V)⟩ 0 Sp.zero r.hops with
  | none => false
  | some (f, a) => decide (0 < r.hops.length) && (decide (f = r.fin) && (!decide (f = 0) && decide (a = r.at_)))) else false
theorem flw_stop {c : Cf} {i : Nat} {w : Hop} {fin : Int} {a : Sp} {xs : List Hop} (h : fin ≠ 0) : flw c i w fin a xs = if xs = [] then some (fin, a) else none := by
 cases xs with
 | nil => rfl
 | cons x xs => rw [flw, decide_eq_false h, Bool.and_false]; rfl
theorem noneF_iff {rl p : Int} {h : Hd} : ∀ (l : List Rl) (k : Nat), noneF rl p h k l = true ↔ ∀ (m : Nat) (r : Rl), l[m]? = some r → firstB rl p (k + m) r = true → ((k + m : Nat) : Int) ≠ rl → r.mat.has h = false
 | [], k => by simp [noneF]
 | r :: l, k => by
  rw [noneF]
  cases hb : (firstB rl p k r && (!decide ((k : Int) = rl) && r.mat.has h))
  ·rw [cond_false, noneF_iff l (k + 1)]
   constructor
   ·intro H m q hq hf hn
    cases m with
    | zero =>
     obtain rfl : r = q := by simpa using hq
     rw [Nat.add_zero] at hf hn
     rw [hf, decide_eq_false hn] at hb
     simpa using hb
    | succ m => exact H m q (by simpa using hq) (by rw [show k + 1 + m = k + (m + 1) by omega]; exact hf) (by rw [show k + 1 + m = k + (m + 1) by omega]; exact hn)
   ·intro H m q hq hf hn
    exact H (m + 1) q (by simpa using hq) (by rw [show k + (m + 1) = k + 1 + m by omega]; exact hf) (by rw [show k + (m + 1) = k + 1 + m by omega]; exact hn)
  ·rw [cond_true]
   refine ⟨fun h => (by cases h), fun H => ?_⟩
   simp only [Bool.and_eq_true, Bool.not_eq_true', decide_eq_false_iff_not] at hb
   have := H 0 r rfl hb.1 hb.2.1
   rw [hb.2.2] at this
   cases this
theorem getR {l : List Rl} {m : Nat} {r : Rl} (h : l[m]? = some r) : l.getD m Rl.zero = r := by rw [List.getD_eq_getElem?_getD, h]; rfl
def ruleOf (c : Cf) (n t : Nat) (h : Hd) : Int := match fnd (tabOf c n t) h with | none => -1 | some r => (r : Nat)
theorem fnd_better {l : List Rl} {h : Hd} {r : Nat} (H : fnd l h = some r) : ∀ m, Hits l h m → Better l r m := by
 have hi := fndF_inv l h l 0 none rfl (Nat.zero_le _) fun m hm => absurd hm (Nat.not_lt_zero m)
 rw [fnd] at H
 cases hf : fndF h 0 l none with
 | none => rw [hf] at H; cases H
 | some x =>
  rw [hf] at H hi
  have e : x.1 = r := Option.some.inj H
  rw [← e]
  exact fun m hm => hi.2.2.2 m hm.1 hm
theorem fnd_no {l : List Rl} {h : Hd} (H : fnd l h = none) : ∀ m, ¬ Hits l h m := by
 have hi := fndF_inv l h l 0 none rfl (Nat.zero_le _) fun m hm => absurd hm (Nat.not_lt_zero m)
 rw [fnd] at H
 cases hf : fndF h 0 l none with
 | none => rw [hf] at hi; exact fun m hm => hi m hm.1 hm
 | some x => rw [hf] at H; cases H
theorem match_iff {c : Cf} {n t : Nat} {rl : Int} {h : Hd} (h1 : -1 ≤ rl) (h2 : rl < ((tabOf c n t).length : Nat)) : matchB c ⟨n, t, rl, h⟩ = true ↔ rl = ruleOf c n t h := by
  rw [matchB, Bool.and_eq_true, noneF_iff, ruleOf]
  simp only [Int.toNat_natCast, Bool.or_eq_true, decide_eq_true_eq, Nat.zero_add]
  generalize tabOf c n t = l at h2
  by_cases h0 : rl < 0
  · obtain rfl : rl = -1 := by omega
    constructor
    · rintro ⟨H, _⟩
      rw [fnd_none fun m hm => ?_]
      obtain ⟨r, hr⟩ : ∃ r, l[m]? = some r := ⟨_, List.getElem?_eq_getElem hm.1⟩
      have h4 := hm.2
      rw [getR hr, H m r hr (by simp [firstB]) (by omega)] at h4
      cases h4
    · intro e
      refine ⟨fun m r hr _ _ => ?_, .inl (by omega)⟩
      cases hf : fnd l h with
      | some q => rw [hf] at e; simp only at e; omega
      | none =>
        cases hh : r.mat.has h
        · rfl
        · exact absurd ⟨(List.getElem?_eq_some_iff.1 hr).1, by rw [getR hr]; exact hh⟩ (fnd_no hf m)
  · obtain ⟨m, rfl⟩ : ∃ m : Nat, rl = m := ⟨rl.toNat, by omega⟩
    have hml : m < l.length := by omega
    simp only [Int.toNat_natCast]
    constructor
    · rintro ⟨H, hh⟩
      have hh : (l.getD m Rl.zero).mat.has h = true := hh.resolve_left h0
      rw [fnd_best (r := m) ⟨hml, hh⟩ fun k hk => ?_]
      obtain ⟨r, hr⟩ : ∃ r, l[k]? = some r := ⟨_, List.getElem?_eq_getElem hk.1⟩
      have h4 := hk.2
      rw [getR hr] at h4
      rw [Better, getR hr]
      by_cases hkm : k = m
      · subst hkm
        rw [getR hr]
        exact .inr ⟨rfl, Nat.le_refl _⟩
      have hnf : ¬ firstB (m : Nat) (l.getD m Rl.zero).prio k r = true := fun hf => by
        have := H k r hr hf (by omega)
        rw [this] at h4
        cases h4
      simp only [firstB, Bool.or_eq_true, Bool.and_eq_true, decide_eq_true_eq] at hnf
      omega
    · intro e
      cases hf : fnd l h with
      | none => rw [hf] at e; simp only at e; omega
      | some q =>
        rw [hf] at e
        obtain rfl : m = q := by
          have e' : ((m : Nat) : Int) = (q : Nat) := e
          omega
        obtain ⟨g1, g2, g3⟩ := fnd_lt hf
        refine ⟨fun k r hr hfb hn => ?_, .inr g3⟩
        cases hh : r.mat.has h
        · rfl
        · have hb := fnd_better hf k ⟨(List.getElem?_eq_some_iff.1 hr).1, by rw [getR hr]; exact hh⟩
          rw [Better, getR hr] at hb
          simp only [firstB, Bool.or_eq_true, Bool.and_eq_true, decide_eq_true_eq] at hfb
          omega
theorem ruleOf_in {c : Cf} {n t : Nat} {h : Hd} : -1 ≤ ruleOf c n t h ∧ ruleOf c n t h < ((tabOf c n t).length : Nat) := by
 rw [ruleOf]
 cases hf : fnd (tabOf c n t) h with
 | none => exact ⟨by simp, by simp only; omega⟩
 | some r =>
  have := (fnd_lt hf).1
  exact ⟨by simp only; omega, by simp only; omega⟩
theorem ok_iff {c : Cf} {n t : Nat} {h : Hd} (hat : At c n t) {rl : Int} {x : Hop} : okB c ⟨n, t, rl, h⟩ x = true ↔ x = ⟨n, t, ruleOf c n t h, h⟩ := by
 rw [okB, Bool.and_eq_true, Bool.and_eq_true, decide_eq_true_eq]
 obtain ⟨sw, tb, r, hd⟩ := x
 simp only [Hop.mk.injEq, true_and, and_true]
 constructor
 ·rintro ⟨⟨rfl, rfl, rfl⟩, h1, h2⟩
  simp only [thereB, Bool.and_eq_true, decide_eq_true_eq, Int.toNat_natCast] at h1
  exact ⟨rfl, rfl, (match_iff h1.2.2.2.2.1 h1.2.2.2.2.2).1 h2, rfl⟩
 ·rintro ⟨rfl, rfl, rfl, rfl⟩
  have hr := ruleOf_in (c := c) (n := n) (t := t) (h := hd)
  refine ⟨⟨rfl, rfl, rfl⟩, ?_, (match_iff hr.1 hr.2).2 rfl⟩
  simp only [thereB, Bool.and_eq_true, decide_eq_true_eq, Int.toNat_natCast]
  exact ⟨by omega, Int.ofNat_lt.2 hat.sw, by omega, Int.ofNat_lt.2 hat.tab, hr.1, hr.2⟩
theorem goF_pre {c : Cf} : ∀ (f n t : Nat) (h : Hd) (pre : List Hop), ∃ m, (goF c f n t h pre).hops = pre ++ m
 | 0, n, t, h, pre => ⟨[], by rw [goF, List.append_nil]⟩
 | f + 1, n, t, h, pre => by
  rw [goF]
  split
  ·exact ⟨_, rfl⟩
  ·rename_i r _
   split
   ·obtain ⟨m, hm⟩ := goF_pre f n ((tabOf c n t).getD r Rl.zero).act.table.toNat (h.set ((tabOf c n t).getD r Rl.zero).act.set) (pre ++ [⟨n, t, r, h⟩])
    exact ⟨_, by rw [hm, List.append_assoc]⟩
   split
   ·obtain ⟨m, hm⟩ := goF_pre f (portAt c.topo.ports ⟨n, ((tabOf c n t).getD r Rl.zero).act.port⟩).peer.toNat 0 (h.set ((tabOf c n t).getD r Rl.zero).act.set) (pre ++ [⟨n, t, r, h⟩])
    exact ⟨_, by rw [hm, List.append_assoc]⟩
   split
   ·exact ⟨_, rfl⟩
   ·exact ⟨_, rfl⟩
theorem goF_one {c : Cf} {f n t : Nat} {h : Hd} {pre : List Hop} : ∃ m, (goF c (f + 1) n t h pre).hops = pre ++ (⟨n, t, ruleOf c n t h, h⟩ :: m) := by
 rw [goF, ruleOf]
 split
 ·rename_i h0; exact ⟨[], by simp [h0]⟩
 ·rename_i r h0
  rw [h0]
  split
  ·obtain ⟨m, hm⟩ := goF_pre (c := c) f n ((tabOf c n t).getD r Rl.zero).act.table.toNat (h.set ((tabOf c n t).getD r Rl.zero).act.set) (pre ++ [⟨n, t, r, h⟩])
   exact ⟨m, by rw [hm, List.append_assoc]; rfl⟩
  split
  ·obtain ⟨m, hm⟩ := goF_pre (c := c) f (portAt c.topo.ports ⟨n, ((tabOf c n t).getD r Rl.zero).act.port⟩).peer.toNat 0 (h.set ((tabOf c n t).getD r Rl.zero).act.set) (pre ++ [⟨n, t, r, h⟩])
   exact ⟨m, by rw [hm, List.append_assoc]; rfl⟩
  split
  ·exact ⟨[], rfl⟩
  ·exact ⟨[], rfl⟩
theorem run_ext {a b : Run} (h1 : a.fin = b.fin) (h2 : a.at_ = b.at_) (h3 : a.hops = b.hops) : a = b := by
 cases a; cases b; simp only at h1 h2 h3; subst h1 h2 h3; rfl
theorem stop_iff {c : Cf} {i : Nat} {w : Hop} {f : Int} {a : Sp} {xs pre : List Hop} {x : Hop} {fin : Int} {at_ : Sp} (h : f ≠ 0) : (flw c i w f a xs = some (fin, at_) ∧ fin ≠ 0) ↔ (⟨f, a, pre ++ [x]⟩ : Run) = ⟨fin, at_, pre ++ x :: xs⟩ := by
 rw [flw_stop h]
 by_cases hx : xs = []
 ·subst hx
  rw [if_pos rfl]
  simp only [Option.some.injEq, Prod.mk.injEq, Run.mk.injEq, and_true]
  exact ⟨fun H => H.1, fun H => ⟨H, by rw [← H.1]; exact h⟩⟩
 ·rw [if_neg hx]
  refine ⟨fun H => (by cases H.1), fun H => ?_⟩
  have := congrArg List.length (congrArg Run.hops H)
  simp only [List.length_append, List.length_cons, List.length_nil] at this
  exact absurd (List.length_eq_zero_iff.1 (show xs.length = 0 by omega)) hx
theorem flw_go {c : Cf} (hc : c.Ok) : ∀ (f i : Nat), i + f = 10800 → 0 < f → ∀ (n t : Nat) (rl : Int) (h : Hd) (hs pre : List Hop) (fin : Int) (at_ : Sp), At c n t →
    ((flw c i ⟨n, t, rl, h⟩ 0 Sp.zero hs = some (fin, at_) ∧ fin ≠ 0) ↔ goF c f n t h pre = ⟨fin, at_, pre ++ hs⟩)
  | 0, i, _, h0, _, _, _, _, _, _, _, _, _ => absurd h0 (Nat.lt_irrefl 0)
  | f + 1, i, hi, _, n, t, rl, h, [], pre, fin, at_, hat => by
    rw [flw]
    obtain ⟨m, hm⟩ := goF_one (c := c) (f := f) (n := n) (t := t) (h := h) (pre := pre)
    constructor
    · rintro ⟨H, h1⟩
      cases H
      exact absurd rfl h1
    · intro H
      rw [H] at hm
      have := congrArg List.length hm
      simp at this
  | f + 1, i, hi, _, n, t, rl, h, x :: hs, pre, fin, at_, hat => by
    rw [flw, decide_eq_true (rfl : (0 : Int) = 0), Bool.and_true]
    cases hok : okB c ⟨n, t, rl, h⟩ x
    · rw [cond_false]
      refine ⟨fun H => (by cases H.1), fun H => ?_⟩
      obtain ⟨m, hm⟩ := goF_one (c := c) (f := f) (n := n) (t := t) (h := h) (pre := pre)
      rw [H] at hm
      have := List.append_cancel_left hm
      rw [List.cons.injEq] at this
      rw [(ok_iff hat).2 this.1] at hok
      cases hok
    · rw [cond_true]
      have hx := (ok_iff hat).1 hok
      subst hx
      rw [goF]
      cases hf : fnd (tabOf c n t) h with
      | none =>
        have hr : ruleOf c n t h = -1 := by rw [ruleOf, hf]
        rw [hr]
        have e1 : nextE c ⟨n, t, -1, h⟩ = 3 := by rw [nextE, if_pos (show (-1 : Int) < 0 by decide)]
        have e2 : nextA c ⟨n, t, -1, h⟩ = Sp.zero := by rw [nextA, if_pos (show (-1 : Int) < 0 by decide)]
        rw [e1, e2, lastE, if_neg (by omega)]
        exact stop_iff (by decide)
      | some r =>
        have hr : ruleOf c n t h = (r : Nat) := by rw [ruleOf, hf]
        obtain ⟨k1, k2, k3⟩ := fnd_lt hf
        rw [hr]
        have hra : ruleAt c ⟨n, t, (r : Nat), h⟩ = (tabOf c n t).getD r Rl.zero := rfl
        simp only
        generalize hq : (tabOf c n t).getD r Rl.zero = q at k2 hra
        have hge : ¬ ((r : Nat) : Int) < 0 := by omega
        by_cases q4 : q.act.kind = 4
        · have e1 : nextE c ⟨n, t, (r : Nat), h⟩ = 0 := by rw [nextE, if_neg hge, hra, if_pos q4]
          have e2 : nextA c ⟨n, t, (r : Nat), h⟩ = Sp.zero := by rw [nextA, if_neg hge, hra, if_neg (by omega)]
          have e3 : nextH c ⟨n, t, (r : Nat), h⟩ = ⟨n, q.act.table.toNat, 0, h.set q.act.set⟩ := by
            have := (Rl.does_goto (Rl.sound_does (hat.rule hc k2).1).2.2 q4).1
            rw [nextH, if_neg hge, hra, if_pos q4]
            simp only [Hop.mk.injEq, true_and, and_true]
            omega
          rw [e1, e2, e3, if_pos q4, lastE]
          by_cases hl : i = 10799
          · obtain rfl : f = 0 := by omega
            rw [if_pos ⟨rfl, hl⟩, goF]
            exact stop_iff (by decide)
          · rw [if_neg fun h => hl h.2, show pre ++ (⟨n, t, (r : Nat), h⟩ : Hop) :: hs = (pre ++ [⟨n, t, (r : Nat), h⟩]) ++ hs by simp]
            exact flw_go hc f (i + 1) (by omega) (by omega) _ _ _ _ _ _ _ _ (hat.goto hc k2 q4)
        rw [if_neg q4]
        by_cases q3 : q.act.kind = 3
        · have e1 : nextE c ⟨n, t, (r : Nat), h⟩ = 0 := by rw [nextE, if_neg hge, hra, if_neg q4, if_pos q3]
          have e2 : nextA c ⟨n, t, (r : Nat), h⟩ = Sp.zero := by rw [nextA, if_neg hge, hra, if_neg (by omega)]
          have e3 : nextH c ⟨n, t, (r : Nat), h⟩ = ⟨(portAt c.topo.ports ⟨n, q.act.port⟩).peer.toNat, (0 : Nat), 0, h.set q.act.set⟩ := by
            have := (hat.link hc k2 q3).1
            rw [nextH, if_neg hge, hra, if_neg q4, if_pos q3]
            simp only [Hop.mk.injEq, true_and, and_true]
            exact ⟨by omega, rfl⟩
          rw [e1, e2, e3, if_pos q3, lastE]
          by_cases hl : i = 10799
          · obtain rfl : f = 0 := by omega
            rw [if_pos ⟨rfl, hl⟩, goF]
            exact stop_iff (by decide)
          · rw [if_neg fun h => hl h.2, show pre ++ (⟨n, t, (r : Nat), h⟩ : Hop) :: hs = (pre ++ [⟨n, t, (r : Nat), h⟩]) ++ hs by simp]
            exact flw_go hc f (i + 1) (by omega) (by omega) _ _ _ _ _ _ _ _ (hat.forward hc k2 q3)
        rw [if_neg q3]
        by_cases q2 : q.act.kind = 2
        · have e1 : nextE c ⟨n, t, (r : Nat), h⟩ = 2 := by rw [nextE, if_neg hge, hra, if_neg q4, if_neg q3, if_pos q2]
          have e2 : nextA c ⟨n, t, (r : Nat), h⟩ = ⟨n, q.act.port⟩ := by rw [nextA, if_neg hge, hra, if_pos q2]
          rw [e1, e2, if_pos q2, lastE, if_neg (by omega)]
          exact stop_iff (by decide)
        · have e1 : nextE c ⟨n, t, (r : Nat), h⟩ = 1 := by rw [nextE, if_neg hge, hra, if_neg q4, if_neg q3, if_neg q2]
          have e2 : nextA c ⟨n, t, (r : Nat), h⟩ = Sp.zero := by rw [nextA, if_neg hge, hra, if_neg q2]
          rw [e1, e2, if_neg q2, lastE, if_neg (by omega)]
          exact stop_iff (by decide)
theorem traceB_iff {c : Cf} {s : Sp} {h : Hd} {V : Int} {r : Run} : traceB c s h V r = true ↔ stampE c s V = 0 ∧ r = runOf c s h V 10800 := by
 rw [traceB]
 by_cases e : stampE c s V = 0
 rotate_left
 ·rw [decide_eq_false e]
  exact ⟨fun H => (by cases H), fun H => absurd H.1 e⟩
 rw [decide_eq_true e, cond_true]
 have e' := e
 rw [stampE] at e'
 split at e'
 ·rename_i h0
  split at e'
  ·cases e'
  split at e'
  ·rename_i hs
   have hc := Cf.ok h0
   obtain ⟨n, rr, a, p, hr, hp, hk, rfl⟩ := edges_mem.1 hs
   have hn : n < c.topo.ports.length := (List.getElem?_eq_some_iff.1 hr).1
   have key := fun fin at_ => flw_go hc 10800 0 rfl (by decide) n 0 0 (h.set (stampOf c ⟨n, a⟩ V)) r.hops [] fin at_ (At.start hc hn)
   have hro : runOf c ⟨n, a⟩ h V 10800 = goF c 10800 n 0 (h.set (stampOf c ⟨n, a⟩ V)) [] := rfl
   rw [hro]
   simp only [List.nil_append] at key
   have hz : (⟨((n : Nat) : Int), ((0 : Nat) : Int), 0, h.set (stampOf c ⟨n, a⟩ V)⟩ : Hop) = ⟨n, 0, 0, h.set (stampOf c ⟨n, a⟩ V)⟩ := rfl
   rw [hz] at key
   generalize goF c 10800 n 0 (h.set (stampOf c ⟨n, a⟩ V)) [] = g at key
   simp only
   cases hf : flw c 0 ⟨n, 0, 0, h.set (stampOf c ⟨n, a⟩ V)⟩ 0 Sp.zero r.hops with
   | none =>
    refine ⟨fun H => (by cases H), fun H => ?_⟩
    obtain ⟨_, rfl⟩ := H
    have := (key r.fin r.at_).2 rfl
    rw [hf] at this
    cases this.1
   | some x =>
    obtain ⟨f, at_⟩ := x
    simp only [Bool.and_eq_true, Bool.not_eq_true', decide_eq_true_eq, decide_eq_false_iff_not]
    constructor
    ·rintro ⟨_, h1, h2, h3⟩
     refine ⟨e, ?_⟩
     have := (key f at_).1 ⟨hf, h2⟩
     rw [this]
     exact run_ext h1.symm h3.symm rfl
    ·rintro ⟨_, H⟩
     subst H
     have := (key r.fin r.at_).2 rfl
     rw [hf] at this
     obtain ⟨h1, h2⟩ := this
     simp only [Option.some.injEq, Prod.mk.injEq] at h1
     refine ⟨?_, h1.1, by rw [h1.1]; exact h2, h1.2⟩
     cases hh : r.hops with
     | nil =>
      rw [hh, flw] at hf
      simp only [Option.some.injEq, Prod.mk.injEq] at hf
      exact absurd (h1.1 ▸ hf.1.symm) h2
     | cons x xs => simp
  ·cases e'
 ·rename_i h0
  exact absurd e' h0
end Go.Proofs.YtahjjfhjjbgjaaaGreat.Sm
end
section
namespace Go.Proofs.YtahjjfhjjbgjaaaGreat.Sm
open Go.RowKit
def cCk (c : Cf) (hops : List Hop) : List AV := [.sl (c.topo.ports.map cPts), .i .i64 c.pol.tenants, .sl (c.pol.peers.map cPr), .sl (c.pol.ways.map cWy), .sl (c.tables.map cTab), .sl (hops.map cHop)]
theorem d_there (c : Cf) (hops : List Hop) (h : Hop) : PDoes Tryz.prog 137 [.agg (cCk c hops), .agg (cHop h)] (.b (thereB c h)) := by
 refine PDoes.of_bodyN Tryz.func137 rfl (by kernel_rfl) rfl rfl ?_
 obtain ⟨sw, tb, rl, hd⟩ := h
 have hl : (c.tables.map cTab).length = c.tables.length := List.length_map ..
 skip;(repeat(first|(with_reducible first|apply wA|apply wB|apply wC|(apply wD;first|(refine wE ⟨?_,?_⟩;· kernel_rfl)|apply wE)))); refine wF ?_;refine wH rfl ?_;(repeat(first|(with_reducible first|apply wA|apply wB|apply wC|(apply wD;first|(refine wE ⟨?_,?_⟩;· kernel_rfl)|apply wE))))
 refine AW.draws mixed_ok ?_
 by_cases g1 : sw < 0
 ·have e : thereB c ⟨sw, tb, rl, hd⟩ = false := by
   rw [Bool.eq_false_iff]; intro h; simp only [thereB, Bool.and_eq_true, decide_eq_true_eq] at h; omega
  rw [e]
  refine RG.runO ty_ok 0 [(7, .b true)] 400 rfl (by repeat' (first|exact trivial|apply And.intro|exact dT ‹_›|exact dF ‹_›|exact dN ‹_›|exact dM ‹_›|exact dI ‹_›)) ?_
  skip;(repeat(first|(with_reducible first|apply wA|apply wB|apply wC|(apply wD;first|(refine wE ⟨?_,?_⟩;· kernel_rfl)|apply wE)))); refine AW.condT rfl ?_; skip;(repeat(first|(with_reducible first|apply wA|apply wB|apply wC|(apply wD;first|(refine wE ⟨?_,?_⟩;· kernel_rfl)|apply wE))|((with_reducible first|apply wF|apply wG);refine wH rfl ?_)))
  refine AW.ret (retQA ty_ok rfl rfl rfl ?_)
  rfl
 by_cases g2 : sw ≥ (((c.tables.map cTab).length : Nat) : Int)
 ·have e : thereB c ⟨sw, tb, rl, hd⟩ = false := by
   rw [Bool.eq_false_iff]; intro h; simp only [thereB, Bool.and_eq_true, decide_eq_true_eq] at h; omega
  rw [e]
  refine RG.runO ty_ok 0 [(7, .b false), (15, .b true)] 400 rfl (by repeat' (first|exact trivial|apply And.intro|exact dT ‹_›|exact dF ‹_›|exact dN ‹_›|exact dM ‹_›|exact dI ‹_›)) ?_
  skip;(repeat(first|(with_reducible first|apply wA|apply wB|apply wC|(apply wD;first|(refine wE ⟨?_,?_⟩;· kernel_rfl)|apply wE)))); refine AW.condT rfl ?_; skip;(repeat(first|(with_reducible first|apply wA|apply wB|apply wC|(apply wD;first|(refine wE ⟨?_,?_⟩;· kernel_rfl)|apply wE))|((with_reducible first|apply wF|apply wG);refine wH rfl ?_)))
  refine AW.ret (retQA ty_ok rfl rfl rfl ?_)
  rfl
 by_cases g3 : tb < 0
 ·have e : thereB c ⟨sw, tb, rl, hd⟩ = false := by
   rw [Bool.eq_false_iff]; intro h; simp only [thereB, Bool.and_eq_true, decide_eq_true_eq] at h; omega
  rw [e]
  refine RG.runO ty_ok 0 [(7, .b false), (15, .b false), (20, .b true)] 400 rfl (by repeat' (first|exact trivial|apply And.intro|exact dT ‹_›|exact dF ‹_›|exact dN ‹_›|exact dM ‹_›|exact dI ‹_›)) ?_
  skip;(repeat(first|(with_reducible first|apply wA|apply wB|apply wC|(apply wD;first|(refine wE ⟨?_,?_⟩;· kernel_rfl)|apply wE)))); refine AW.condT rfl ?_; skip;(repeat(first|(with_reducible first|apply wA|apply wB|apply wC|(apply wD;first|(refine wE ⟨?_,?_⟩;· kernel_rfl)|apply wE))|((with_reducible first|apply wF|apply wG);refine wH rfl ?_)))
  refine AW.ret (retQA ty_ok rfl rfl rfl ?_)
  rfl
 obtain ⟨n, rfl⟩ : ∃ n : Nat, sw = n := ⟨sw.toNat, by omega⟩
 obtain ⟨t, rfl⟩ : ∃ t : Nat, tb = t := ⟨tb.toNat, by omega⟩
 have hn : n < c.tables.length := by omega
 obtain ⟨ts, hts⟩ : ∃ ts, c.tables[n]? = some ts := ⟨_, List.getElem?_eq_getElem hn⟩
 have hx : (c.tables.map cTab)[n]? = some (cTab ts) := by rw [List.getElem?_map, hts]; rfl
 have hg : c.tables.getD ((n : Nat) : Int).toNat [] = ts := by rw [Int.toNat_natCast, List.getD_eq_getElem?_getD, hts]; rfl
 have hl2 : (ts.map cRls).length = ts.length := List.length_map ..
 refine RG.runO ty_ok 0 [(7, .b false), (15, .b false), (20, .b false)] 400 rfl (by repeat' (first|exact trivial|apply And.intro|exact dT ‹_›|exact dF ‹_›|exact dN ‹_›|exact dM ‹_›|exact dI ‹_›)) ?_
 refine RG.opS rfl (op_index rfl (tab_ok ty_ok rfl) rfl (tab_ok ty_ok rfl) rfl rfl hx rfl) rfl ?_
 by_cases g4 : ((t : Nat) : Int) ≥ (((ts.map cRls).length : Nat) : Int)
 ·have e : thereB c ⟨(n : Nat), (t : Nat), rl, hd⟩ = false := by
   rw [Bool.eq_false_iff]; intro h; simp only [thereB, Bool.and_eq_true, decide_eq_true_eq, hg] at h; omega
  rw [e]
  refine RG.runO ty_ok 0 [(33, .b true)] 400 rfl (by repeat' (first|exact trivial|apply And.intro|exact dT ‹_›|exact dF ‹_›|exact dN ‹_›|exact dM ‹_›|exact dI ‹_›)) ?_
  skip;(repeat(first|(with_reducible first|apply wA|apply wB|apply wC|(apply wD;first|(refine wE ⟨?_,?_⟩;· kernel_rfl)|apply wE)))); refine AW.condT rfl ?_; skip;(repeat(first|(with_reducible first|apply wA|apply wB|apply wC|(apply wD;first|(refine wE ⟨?_,?_⟩;· kernel_rfl)|apply wE))|((with_reducible first|apply wF|apply wG);refine wH rfl ?_)))
  refine AW.ret (retQA ty_ok rfl rfl rfl ?_)
  rfl
 have ht : t < ts.length := by omega
 obtain ⟨l, hlt⟩ : ∃ l, ts[t]? = some l := ⟨_, List.getElem?_eq_getElem ht⟩
 have hy : (ts.map cRls)[t]? = some (cRls l) := by rw [List.getElem?_map, hlt]; rfl
 have hg2 : tabOf c ((n : Nat) : Int).toNat ((t : Nat) : Int).toNat = l := by rw [tabOf, hg, Int.toNat_natCast, List.getD_eq_getElem?_getD, hlt]; rfl
 have hl3 : (l.map cRl).length = l.length := List.length_map ..
 refine RG.runO ty_ok 0 [(33, .b false)] 400 rfl (by repeat' (first|exact trivial|apply And.intro|exact dT ‹_›|exact dF ‹_›|exact dN ‹_›|exact dM ‹_›|exact dI ‹_›)) ?_
 skip;(repeat(first|(with_reducible first|apply wA|apply wB|apply wC|(apply wD;first|(refine wE ⟨?_,?_⟩;· kernel_rfl)|apply wE)))); refine AW.condF rfl ?_; skip;(repeat(first|(with_reducible first|apply wA|apply wB|apply wC|(apply wD;first|(refine wE ⟨?_,?_⟩;· kernel_rfl)|apply wE))))
 refine AW.draws mixed_ok ?_
 by_cases g5 : rl ≥ -1
 ·have e : thereB c ⟨(n : Nat), (t : Nat), rl, hd⟩ = decide (rl < (((l.map cRl).length : Nat) : Int)) := by
   rw [Bool.eq_iff_iff]
   simp only [thereB, Bool.and_eq_true, decide_eq_true_eq, hg, hg2]
   omega
  rw [e]
  refine RG.runO ty_ok 0 [(37, .b true)] 400 rfl (by repeat' (first|exact trivial|apply And.intro|exact dT ‹_›|exact dF ‹_›|exact dN ‹_›|exact dM ‹_›|exact dI ‹_›)) ?_
  refine RG.opS rfl (op_index rfl (tab_ok ty_ok rfl) rfl (tab_ok ty_ok rfl) rfl rfl hx rfl) rfl ?_
  refine wH rfl ?_
  refine RG.opS rfl (op_index rfl (tab_ok ty_ok rfl) rfl (tab_ok ty_ok rfl) rfl rfl hy rfl) rfl ?_
  refine wH rfl ?_;(repeat(first|(with_reducible first|apply wA|apply wB|apply wC|(apply wD;first|(refine wE ⟨?_,?_⟩;· kernel_rfl)|apply wE))|((with_reducible first|apply wF|apply wG);refine wH rfl ?_)))
  refine AW.ret (retQA ty_ok rfl rfl rfl ?_)
  rfl
 ·have e : thereB c ⟨(n : Nat), (t : Nat), rl, hd⟩ = false := by
   rw [Bool.eq_false_iff]; intro h; simp only [thereB, Bool.and_eq_true, decide_eq_true_eq] at h; omega
  rw [e]
  refine RG.runO ty_ok 0 [(37, .b false)] 400 rfl (by repeat' (first|exact trivial|apply And.intro|exact dT ‹_›|exact dF ‹_›|exact dN ‹_›|exact dM ‹_›|exact dI ‹_›)) ?_
  skip;(repeat(first|(with_reducible first|apply wA|apply wB|apply wC|(apply wD;first|(refine wE ⟨?_,?_⟩;· kernel_rfl)|apply wE))|((with_reducible first|apply wF|apply wG);refine wH rfl ?_)))
  refine AW.ret (retQA ty_ok rfl rfl rfl ?_)
  rfl
theorem d_matches (c : Cf) (hops : List Hop) (n t : Nat) (rl : Int) (hd : Hd) (hat : At c n t) (h1 : -1 ≤ rl) (h2 : rl < ((tabOf c n t).length : Nat)) : PDoes Tryz.prog 138 [.agg (cCk c hops), .agg (cHop ⟨n, t, rl, hd⟩)] (.b (matchB c ⟨n, t, rl, hd⟩)) := by
  refine PDoes.of_bodyN Tryz.func138 rfl (by kernel_rfl) rfl rfl ?_
  obtain ⟨ts, ht1, ht2⟩ := hat.get
  have hx : (c.tables.map cTab)[n]? = some (cTab ts) := by rw [List.getElem?_map, ht1]; rfl
  have hy : (ts.map cRls)[t]? = some (cRls (tabOf c n t)) := by rw [List.getElem?_map, ht2]; rfl
  rw [matchB]
  simp only [Int.toNat_natCast]
  generalize tabOf c n t = l at hy h2
  generalize hp : (l.getD rl.toNat Rl.zero).prio = p
  generalize hq : (decide (rl < 0) || (l.getD rl.toNat Rl.zero).mat.has hd) = Q
  skip;(repeat(first|(with_reducible first|apply wA|apply wB|apply wC|(apply wD;first|(refine wE ⟨?_,?_⟩;· kernel_rfl)|apply wE)))); refine wF ?_;refine wH rfl ?_;(repeat(first|(with_reducible first|apply wA|apply wB|apply wC|(apply wD;first|(refine wE ⟨?_,?_⟩;· kernel_rfl)|apply wE))))
  refine AW.draws mixed_ok ?_
  refine wH rfl ?_
  refine RG.opS rfl (op_index rfl (tab_ok ty_ok rfl) rfl (tab_ok ty_ok rfl) rfl rfl hx rfl) rfl ?_
  refine wH rfl ?_
  refine RG.opS rfl (op_index rfl (tab_ok ty_ok rfl) rfl (tab_ok ty_ok rfl) rfl rfl hy rfl) rfl ?_
  refine wH rfl ?_;(repeat(first|(with_reducible first|apply wA|apply wB|apply wC|(apply wD;first|(refine wE ⟨?_,?_⟩;· kernel_rfl)|apply wE))|((with_reducible first|apply wF|apply wG);refine wH rfl ?_)))
  refine AW.lens 20 rfl fun hm => ?_
  rw [List.length_map] at hm
  generalize hN : noneF rl p hd 0 l = N
  refine AW.loopL (ι := Nat) (fun k => [(2, .own 2 0 0), (3, .own 3 0 0), (5, .sl (l.map cRl)), (20, .sl (l.map cRl)), (21, .i .i64 (l.map cRl).length), (22, .i .i64 (k : Nat))]) (fun _ => [(2, ⟨0, some (.box 149 (cCk c hops))⟩), (3, ⟨0, some (.box 94 (cHop ⟨n, t, rl, hd⟩))⟩)]) (fun k => k ≤ l.length ∧ noneF rl p hd k (l.drop k) = N) (fun k => l.length - k) 0 ⟨Nat.zero_le _, hN⟩ (by repeat(first|exact trivial|refine ⟨rI rfl rfl,?_⟩|refine ⟨rO rfl rfl rfl,?_⟩|refine ⟨rR rfl rfl rfl,?_⟩|refine ⟨bR rfl rfl,?_⟩|refine ⟨bS rfl rfl rfl,?_⟩)) (by repeat(first|exact trivial|refine ⟨rI rfl rfl,?_⟩|refine ⟨rO rfl rfl rfl,?_⟩|refine ⟨rR rfl rfl rfl,?_⟩|refine ⟨bR rfl rfl,?_⟩|refine ⟨bS rfl rfl rfl,?_⟩)) fun k hk => ?_
  clear hN
  obtain ⟨hk, hf⟩ := hk
  skip;(repeat(first|(with_reducible first|apply wA|apply wB|apply wC|(apply wD;first|(refine wE ⟨?_,?_⟩;· kernel_rfl)|apply wE))|((with_reducible first|apply wF|apply wG);refine wH rfl ?_)))
  refine AW.cond rfl (fun h3 => ?_) (fun h3 => ?_)
  rotate_left
  · have h : ¬ k < l.length := by simpa using h3
    obtain rfl : k = l.length := by omega
    rw [List.drop_length, noneF] at hf
    rw [← hf, Bool.true_and, ← hq]
    skip;(repeat(first|(with_reducible first|apply wA|apply wB|apply wC|(apply wD;first|(refine wE ⟨?_,?_⟩;· kernel_rfl)|apply wE)))); refine AW.exit ?_; refine Eq.mpr (if_pos rfl) ?_; skip;(repeat(first|(with_reducible first|apply wA|apply wB|apply wC|(apply wD;first|(refine wE ⟨?_,?_⟩;· kernel_rfl)|apply wE))))
    refine AW.draws mixed_ok ?_
    by_cases g : rl < 0
    · refine RG.runO ty_ok 0 [(75, .b true)] 400 rfl (by repeat' (first|exact trivial|apply And.intro|exact dT ‹_›|exact dF ‹_›|exact dN ‹_›|exact dM ‹_›|exact dI ‹_›)) ?_
      skip;(repeat(first|(with_reducible first|apply wA|apply wB|apply wC|(apply wD;first|(refine wE ⟨?_,?_⟩;· kernel_rfl)|apply wE))|((with_reducible first|apply wF|apply wG);refine wH rfl ?_)))
      refine AW.ret (retQA ty_ok rfl rfl rfl ?_)
      exact congrArg AV.b (by rw [decide_eq_true g]; rfl)
    · obtain ⟨m, rfl⟩ : ∃ m : Nat, rl = m := ⟨rl.toNat, by omega⟩
      obtain ⟨r, hr⟩ : ∃ r, l[m]? = some r := ⟨_, List.getElem?_eq_getElem (by omega)⟩
      have hrx : (l.map cRl)[m]? = some (cRl r) := by rw [List.getElem?_map, hr]; rfl
      rw [Int.toNat_natCast, getR hr]
      refine RG.runO ty_ok 0 [(75, .b false)] 400 rfl (by repeat' (first|exact trivial|apply And.intro|exact dT ‹_›|exact dF ‹_›|exact dN ‹_›|exact dM ‹_›|exact dI ‹_›)) ?_
      refine RG.opS rfl (op_index rfl (tab_ok ty_ok rfl) rfl (tab_ok ty_ok rfl) rfl rfl hrx rfl) rfl ?_
      refine wH rfl ?_
      refine RG.callS rfl rfl rfl rfl rfl (d_Has r.mat hd _ rfl) rfl rfl ?_; refine wH rfl ?_;(repeat(first|(with_reducible first|apply wA|apply wB|apply wC|(apply wD;first|(refine wE ⟨?_,?_⟩;· kernel_rfl)|apply wE))|((with_reducible first|apply wF|apply wG);refine wH rfl ?_)))
      refine AW.ret (retQA ty_ok rfl rfl rfl ?_)
      exact congrArg AV.b (by rw [decide_eq_false g]; rfl)
  have h : k < l.length := by simpa using h3
  rw [List.drop_eq_getElem_cons h, noneF] at hf
  skip;(repeat(first|(with_reducible first|apply wA|apply wB|apply wC|(apply wD;first|(refine wE ⟨?_,?_⟩;· kernel_rfl)|apply wE))))
  refine AW.text ?_
  refine wH rfl ?_
  refine RG.opS rfl (op_index rfl (tab_ok ty_ok rfl) rfl (tab_ok ty_ok rfl) rfl rfl (show (l.map cRl)[k]? = some (cRl l[k]) by rw [List.getElem?_map, List.getElem?_eq_getElem (by assumption)]; rfl) rfl) rfl ?_
  generalize l[k] = r at hf
  refine wH rfl ?_; skip;(repeat(first|(with_reducible first|apply wA|apply wB|apply wC|(apply wD;first|(refine wE ⟨?_,?_⟩;· kernel_rfl)|apply wE))))
  refine AW.cutT (ι := Unit) (fun _ => [(2, .own 2 0 0), (3, .own 3 0 0), (5, .sl (l.map cRl)), (20, .sl (l.map cRl)), (21, .i .i64 (l.map cRl).length), (22, .i .i64 (k : Nat)), (6, .i .i64 (k : Nat)), (7, .own 7 0 0), (8, .b (firstB rl p k r))]) (fun _ => [(2, ⟨0, some (.box 149 (cCk c hops))⟩), (3, ⟨0, some (.box 94 (cHop ⟨n, t, rl, hd⟩))⟩), (7, ⟨0, some (.box 54 (cRl r))⟩)]) (fun _ => True) ?_ fun _ _ => ?_
  · skip
    refine AW.draws mixed_ok ?_
    by_cases g : rl < 0
    · have e : true = firstB rl p k r := by rw [firstB, decide_eq_true g]; rfl
      refine RG.runO ty_ok 0 [(29, .b true)] 400 rfl (by repeat' (first|exact trivial|apply And.intro|exact dT ‹_›|exact dF ‹_›|exact dN ‹_›|exact dM ‹_›|exact dI ‹_›)) ?_
      skip;(repeat(first|(with_reducible first|apply wA|apply wB|apply wC|(apply wD;first|(refine wE ⟨?_,?_⟩;· kernel_rfl)|apply wE))|((with_reducible first|apply wF|apply wG);refine wH rfl ?_)))
      exact ⟨(), trivial, ⟨rO rfl rfl rfl, rO rfl rfl rfl, rI rfl rfl, rI rfl rfl, rI rfl rfl, rI rfl rfl, rI rfl rfl, rO rfl rfl rfl, rI (congrArg AV.b e) rfl, trivial⟩, (by repeat(first|exact trivial|refine ⟨rI rfl rfl,?_⟩|refine ⟨rO rfl rfl rfl,?_⟩|refine ⟨rR rfl rfl rfl,?_⟩|refine ⟨bR rfl rfl,?_⟩|refine ⟨bS rfl rfl rfl,?_⟩))⟩
    · obtain ⟨m, rfl⟩ : ∃ m : Nat, rl = m := ⟨rl.toNat, by omega⟩
      obtain ⟨x, hr⟩ : ∃ r, l[m]? = some r := ⟨_, List.getElem?_eq_getElem (by omega)⟩
      have hrx : (l.map cRl)[m]? = some (cRl x) := by rw [List.getElem?_map, hr]; rfl
      rw [Int.toNat_natCast, getR hr] at hp
      subst hp
      refine RG.runO ty_ok 0 [(29, .b false)] 400 rfl (by repeat' (first|exact trivial|apply And.intro|exact dT ‹_›|exact dF ‹_›|exact dN ‹_›|exact dM ‹_›|exact dI ‹_›)) ?_
      refine RG.opS rfl (op_index rfl (tab_ok ty_ok rfl) rfl (tab_ok ty_ok rfl) rfl rfl hrx rfl) rfl ?_
      by_cases g1 : r.prio > x.prio
      · have e : true = firstB (m : Nat) x.prio k r := by rw [firstB, decide_eq_true g1]; simp
        refine RG.runO ty_ok 0 [(39, .b true)] 400 rfl (by repeat' (first|exact trivial|apply And.intro|exact dT ‹_›|exact dF ‹_›|exact dN ‹_›|exact dM ‹_›|exact dI ‹_›)) ?_
        skip;(repeat(first|(with_reducible first|apply wA|apply wB|apply wC|(apply wD;first|(refine wE ⟨?_,?_⟩;· kernel_rfl)|apply wE))|((with_reducible first|apply wF|apply wG);refine wH rfl ?_)))
        exact ⟨(), trivial, ⟨rO rfl rfl rfl, rO rfl rfl rfl, rI rfl rfl, rI rfl rfl, rI rfl rfl, rI rfl rfl, rI rfl rfl, rO rfl rfl rfl, rI (congrArg AV.b e) rfl, trivial⟩, (by repeat(first|exact trivial|refine ⟨rI rfl rfl,?_⟩|refine ⟨rO rfl rfl rfl,?_⟩|refine ⟨rR rfl rfl rfl,?_⟩|refine ⟨bR rfl rfl,?_⟩|refine ⟨bS rfl rfl rfl,?_⟩))⟩
      refine RG.runO ty_ok 0 [(39, .b false)] 400 rfl (by repeat' (first|exact trivial|apply And.intro|exact dT ‹_›|exact dF ‹_›|exact dN ‹_›|exact dM ‹_›|exact dI ‹_›)) ?_
      refine RG.opS rfl (op_index rfl (tab_ok ty_ok rfl) rfl (tab_ok ty_ok rfl) rfl rfl hrx rfl) rfl ?_
      by_cases g2 : r.prio = x.prio
      · have e : decide (((k : Nat) : Int) < (m : Nat)) = firstB (m : Nat) x.prio k r := by rw [firstB, decide_eq_false g, decide_eq_false g1, decide_eq_true g2]; rfl
        refine RG.runO ty_ok 0 [(50, .b true)] 400 rfl (by repeat' (first|exact trivial|apply And.intro|exact dT ‹_›|exact dF ‹_›|exact dN ‹_›|exact dM ‹_›|exact dI ‹_›)) ?_
        skip;(repeat(first|(with_reducible first|apply wA|apply wB|apply wC|(apply wD;first|(refine wE ⟨?_,?_⟩;· kernel_rfl)|apply wE))|((with_reducible first|apply wF|apply wG);refine wH rfl ?_)))
        exact ⟨(), trivial, ⟨rO rfl rfl rfl, rO rfl rfl rfl, rI rfl rfl, rI rfl rfl, rI rfl rfl, rI rfl rfl, rI rfl rfl, rO rfl rfl rfl, rI (congrArg AV.b e) rfl, trivial⟩, (by repeat(first|exact trivial|refine ⟨rI rfl rfl,?_⟩|refine ⟨rO rfl rfl rfl,?_⟩|refine ⟨rR rfl rfl rfl,?_⟩|refine ⟨bR rfl rfl,?_⟩|refine ⟨bS rfl rfl rfl,?_⟩))⟩
      · have e : false = firstB (m : Nat) x.prio k r := by rw [firstB, decide_eq_false g, decide_eq_false g1, decide_eq_false g2]; rfl
        refine RG.runO ty_ok 0 [(50, .b false)] 400 rfl (by repeat' (first|exact trivial|apply And.intro|exact dT ‹_›|exact dF ‹_›|exact dN ‹_›|exact dM ‹_›|exact dI ‹_›)) ?_
        skip;(repeat(first|(with_reducible first|apply wA|apply wB|apply wC|(apply wD;first|(refine wE ⟨?_,?_⟩;· kernel_rfl)|apply wE))|((with_reducible first|apply wF|apply wG);refine wH rfl ?_)))
        exact ⟨(), trivial, ⟨rO rfl rfl rfl, rO rfl rfl rfl, rI rfl rfl, rI rfl rfl, rI rfl rfl, rI rfl rfl, rI rfl rfl, rO rfl rfl rfl, rI (congrArg AV.b e) rfl, trivial⟩, (by repeat(first|exact trivial|refine ⟨rI rfl rfl,?_⟩|refine ⟨rO rfl rfl rfl,?_⟩|refine ⟨rR rfl rfl rfl,?_⟩|refine ⟨bR rfl rfl,?_⟩|refine ⟨bS rfl rfl rfl,?_⟩))⟩
  cases hb : firstB rl p k r
  · rw [hb] at hf
    skip;(repeat(first|(with_reducible first|apply wA|apply wB|apply wC|(apply wD;first|(refine wE ⟨?_,?_⟩;· kernel_rfl)|apply wE))|((with_reducible first|apply wF|apply wG);refine wH rfl ?_)))
    refine AW.condF rfl ?_; skip;(repeat(first|(with_reducible first|apply wA|apply wB|apply wC|(apply wD;first|(refine wE ⟨?_,?_⟩;· kernel_rfl)|apply wE))|((with_reducible first|apply wF|apply wG);refine wH rfl ?_)))
    exact ⟨k + 1, ⟨⟨h, hf⟩, by omega⟩, ⟨rO rfl rfl rfl, rO rfl rfl rfl, rI rfl rfl, rI rfl rfl, rI rfl rfl, Rn.is (i64_next h hm) rfl, trivial⟩, (by repeat(first|exact trivial|refine ⟨rI rfl rfl,?_⟩|refine ⟨rO rfl rfl rfl,?_⟩|refine ⟨rR rfl rfl rfl,?_⟩|refine ⟨bR rfl rfl,?_⟩|refine ⟨bS rfl rfl rfl,?_⟩))⟩
  rw [hb, Bool.true_and] at hf
  skip;(repeat(first|(with_reducible first|apply wA|apply wB|apply wC|(apply wD;first|(refine wE ⟨?_,?_⟩;· kernel_rfl)|apply wE))))
  refine AW.text ?_
  by_cases g3 : ((k : Nat) : Int) = rl
  · rw [decide_eq_true g3] at hf
    refine RG.runO ty_ok 0 [(63, .b false)] 400 rfl (by repeat' (first|exact trivial|apply And.intro|exact dT ‹_›|exact dF ‹_›|exact dN ‹_›|exact dM ‹_›|exact dI ‹_›)) ?_
    skip;(repeat(first|(with_reducible first|apply wA|apply wB|apply wC|(apply wD;first|(refine wE ⟨?_,?_⟩;· kernel_rfl)|apply wE)))); refine AW.condF rfl ?_; skip;(repeat(first|(with_reducible first|apply wA|apply wB|apply wC|(apply wD;first|(refine wE ⟨?_,?_⟩;· kernel_rfl)|apply wE))|((with_reducible first|apply wF|apply wG);refine wH rfl ?_)))
    exact ⟨k + 1, ⟨⟨h, hf⟩, by omega⟩, ⟨rO rfl rfl rfl, rO rfl rfl rfl, rI rfl rfl, rI rfl rfl, rI rfl rfl, Rn.is (i64_next h hm) rfl, trivial⟩, (by repeat(first|exact trivial|refine ⟨rI rfl rfl,?_⟩|refine ⟨rO rfl rfl rfl,?_⟩|refine ⟨rR rfl rfl rfl,?_⟩|refine ⟨bR rfl rfl,?_⟩|refine ⟨bS rfl rfl rfl,?_⟩))⟩
  rw [decide_eq_false g3] at hf
  refine RG.runO ty_ok 0 [(63, .b true)] 400 rfl (by repeat' (first|exact trivial|apply And.intro|exact dT ‹_›|exact dF ‹_›|exact dN ‹_›|exact dM ‹_›|exact dI ‹_›)) ?_
  cases hh : r.mat.has hd
  · rw [hh] at hf
    refine RG.callS rfl rfl rfl rfl rfl (d_Has r.mat hd _ hh) rfl rfl ?_; refine wH rfl ?_;(repeat(first|(with_reducible first|apply wA|apply wB|apply wC|(apply wD;first|(refine wE ⟨?_,?_⟩;· kernel_rfl)|apply wE))|((with_reducible first|apply wF|apply wG);refine wH rfl ?_)))
    refine AW.condF rfl ?_; skip;(repeat(first|(with_reducible first|apply wA|apply wB|apply wC|(apply wD;first|(refine wE ⟨?_,?_⟩;· kernel_rfl)|apply wE))|((with_reducible first|apply wF|apply wG);refine wH rfl ?_)))
    exact ⟨k + 1, ⟨⟨h, hf⟩, by omega⟩, ⟨rO rfl rfl rfl, rO rfl rfl rfl, rI rfl rfl, rI rfl rfl, rI rfl rfl, Rn.is (i64_next h hm) rfl, trivial⟩, (by repeat(first|exact trivial|refine ⟨rI rfl rfl,?_⟩|refine ⟨rO rfl rfl rfl,?_⟩|refine ⟨rR rfl rfl rfl,?_⟩|refine ⟨bR rfl rfl,?_⟩|refine ⟨bS rfl rfl rfl,?_⟩))⟩
  · rw [hh] at hf
    refine RG.callS rfl rfl rfl rfl rfl (d_Has r.mat hd _ hh) rfl rfl ?_; refine wH rfl ?_;(repeat(first|(with_reducible first|apply wA|apply wB|apply wC|(apply wD;first|(refine wE ⟨?_,?_⟩;· kernel_rfl)|apply wE))|((with_reducible first|apply wF|apply wG);refine wH rfl ?_)))
    refine AW.condT rfl ?_; skip;(repeat(first|(with_reducible first|apply wA|apply wB|apply wC|(apply wD;first|(refine wE ⟨?_,?_⟩;· kernel_rfl)|apply wE))|((with_reducible first|apply wF|apply wG);refine wH rfl ?_)))
    refine AW.ret (retQA ty_ok rfl rfl rfl ?_)
    exact congrArg AV.b (by rw [← hf]; rfl)
end Go.Proofs.YtahjjfhjjbgjaaaGreat.Sm
end
section
namespace Go.Proofs.YtahjjfhjjbgjaaaGreat.Sm
open Go.RowKit
def nextR (c : Cf) (h : Hop) : AV := .tup [.agg (cHop (nextH c h)), .i .i64 (nextE c h), .agg (cSp (nextA c h))]
theorem d_next (c : Cf) (hc : c.Ok) (hops : List Hop) (n t : Nat) (rl : Int) (hd : Hd) (hat : At c n t) (h1 : -1 ≤ rl) (h2 : rl < ((tabOf c n t).length : Nat)) : PDoes Tryz.prog 139 [.agg (cCk c hops), .agg (cHop ⟨n, t, rl, hd⟩)] (nextR c ⟨n, t, rl, hd⟩) := by
 refine PDoes.of_bodyN Tryz.func139 rfl (by kernel_rfl) rfl rfl ?_
 obtain ⟨ts, ht1, ht2⟩ := hat.get
 have hx : (c.tables.map cTab)[n]? = some (cTab ts) := by rw [List.getElem?_map, ht1]; rfl
 have hy : (ts.map cRls)[t]? = some (cRls (tabOf c n t)) := by rw [List.getElem?_map, ht2]; rfl
 skip;(repeat(first|(with_reducible first|apply wA|apply wB|apply wC|(apply wD;first|(refine wE ⟨?_,?_⟩;· kernel_rfl)|apply wE))|((with_reducible first|apply wF|apply wG);refine wH rfl ?_)))
 refine AW.cond rfl (fun g => ?_) (fun g => ?_)
 ·have g : rl < 0 := of_decide_eq_true g
  have e1 : nextH c ⟨n, t, rl, hd⟩ = Hop.zero := by rw [nextH, if_pos g]
  have e2 : nextE c ⟨n, t, rl, hd⟩ = 3 := by rw [nextE, if_pos g]
  have e3 : nextA c ⟨n, t, rl, hd⟩ = Sp.zero := by rw [nextA, if_pos g]
  rw [nextR, e1, e2, e3]
  skip;(repeat(first|(with_reducible first|apply wA|apply wB|apply wC|(apply wD;first|(refine wE ⟨?_,?_⟩;· kernel_rfl)|apply wE))|((with_reducible first|apply wF|apply wG);refine wH rfl ?_)))
  refine AW.ret (retQA ty_ok rfl rfl rfl ?_)
  rfl
 have g : ¬ rl < 0 := of_decide_eq_false g
 obtain ⟨m, rfl⟩ : ∃ m : Nat, rl = m := ⟨rl.toNat, by omega⟩
 obtain ⟨x, hr⟩ : ∃ r, (tabOf c n t)[m]? = some r := ⟨_, List.getElem?_eq_getElem (by omega)⟩
 have hrx : ((tabOf c n t).map cRl)[m]? = some (cRl x) := by rw [List.getElem?_map, hr]; rfl
 have hxm : x ∈ tabOf c n t := List.mem_of_getElem? hr
 have hra : ruleAt c ⟨n, t, (m : Nat), hd⟩ = x := getR hr
 skip;(repeat(first|(with_reducible first|apply wA|apply wB|apply wC|(apply wD;first|(refine wE ⟨?_,?_⟩;· kernel_rfl)|apply wE))))
 refine AW.draws mixed_ok ?_
 refine wH rfl ?_
 refine RG.opS rfl (op_index rfl (tab_ok ty_ok rfl) rfl (tab_ok ty_ok rfl) rfl rfl hx rfl) rfl ?_
 refine wH rfl ?_
 refine RG.opS rfl (op_index rfl (tab_ok ty_ok rfl) rfl (tab_ok ty_ok rfl) rfl rfl hy rfl) rfl ?_
 refine wH rfl ?_
 refine RG.opS rfl (op_index rfl (tab_ok ty_ok rfl) rfl (tab_ok ty_ok rfl) rfl rfl hrx rfl) rfl ?_
 refine wH rfl ?_;(repeat(first|(with_reducible first|apply wA|apply wB|apply wC|(apply wD;first|(refine wE ⟨?_,?_⟩;· kernel_rfl)|apply wE))|((with_reducible first|apply wF|apply wG);refine wH rfl ?_)))
 refine RG.callS rfl rfl rfl rfl rfl (d_Set hd x.act.set) rfl rfl ?_; refine wH rfl ?_;(repeat(first|(with_reducible first|apply wA|apply wB|apply wC|(apply wD;first|(refine wE ⟨?_,?_⟩;· kernel_rfl)|apply wE))|((with_reducible first|apply wF|apply wG);refine wH rfl ?_)))
 refine AW.cond rfl (fun k4 => ?_) (fun k4 => ?_)
 ·have k4 : x.act.kind = 4 := of_decide_eq_true k4
  have e1 : nextH c ⟨n, t, (m : Nat), hd⟩ = ⟨n, x.act.table, 0, hd.set x.act.set⟩ := by rw [nextH, if_neg g, hra, if_pos k4]
  have e2 : nextE c ⟨n, t, (m : Nat), hd⟩ = 0 := by rw [nextE, if_neg g, hra, if_pos k4]
  have e3 : nextA c ⟨n, t, (m : Nat), hd⟩ = Sp.zero := by rw [nextA, if_neg g, hra, if_neg (by omega)]
  rw [nextR, e1, e2, e3]
  skip;(repeat(first|(with_reducible first|apply wA|apply wB|apply wC|(apply wD;first|(refine wE ⟨?_,?_⟩;· kernel_rfl)|apply wE))|((with_reducible first|apply wF|apply wG);refine wH rfl ?_)))
  refine AW.ret (retQA ty_ok rfl rfl rfl ?_)
  rfl
 have k4 : ¬ x.act.kind = 4 := of_decide_eq_false k4
 skip;(repeat(first|(with_reducible first|apply wA|apply wB|apply wC|(apply wD;first|(refine wE ⟨?_,?_⟩;· kernel_rfl)|apply wE))|((with_reducible first|apply wF|apply wG);refine wH rfl ?_)))
 refine AW.cond rfl (fun k3 => ?_) (fun k3 => ?_)
 ·have k3 : x.act.kind = 3 := of_decide_eq_true k3
  obtain ⟨p1, p2, _⟩ := Rl.does_forward (Rl.sound_does (hat.rule hc hxm).1).2.2 k3
  obtain ⟨a, ha⟩ : ∃ a : Nat, x.act.port = a := ⟨x.act.port.toNat, by omega⟩
  have hn : n < c.topo.ports.length := by rw [← hc.len]; exact hat.sw
  obtain ⟨pr, hpr⟩ : ∃ r, c.topo.ports[n]? = some r := ⟨_, List.getElem?_eq_getElem hn⟩
  have hg : c.topo.ports.getD n [] = pr := by rw [List.getD_eq_getElem?_getD, hpr]; rfl
  rw [hg] at p2
  obtain ⟨pp, hpp⟩ : ∃ r, pr[a]? = some r := ⟨_, List.getElem?_eq_getElem (by omega)⟩
  have hp1 : (c.topo.ports.map cPts)[n]? = some (cPts pr) := by rw [List.getElem?_map, hpr]; rfl
  have hp2 : (pr.map cPt)[a]? = some (cPt pp) := by rw [List.getElem?_map, hpp]; rfl
  have hpa : portAt c.topo.ports ⟨n, x.act.port⟩ = pp := by
   rw [ha, portAt, Int.toNat_natCast, hg, Int.toNat_natCast, List.getD_eq_getElem?_getD, hpp]; rfl
  have e1 : nextH c ⟨n, t, (m : Nat), hd⟩ = ⟨pp.peer, 0, 0, hd.set x.act.set⟩ := by rw [nextH, if_neg g, hra, if_neg k4, if_pos k3, hpa]
  have e2 : nextE c ⟨n, t, (m : Nat), hd⟩ = 0 := by rw [nextE, if_neg g, hra, if_neg k4, if_pos k3]
  have e3 : nextA c ⟨n, t, (m : Nat), hd⟩ = Sp.zero := by rw [nextA, if_neg g, hra, if_neg (by omega)]
  rw [nextR, e1, e2, e3]
  skip;(repeat(first|(with_reducible first|apply wA|apply wB|apply wC|(apply wD;first|(refine wE ⟨?_,?_⟩;· kernel_rfl)|apply wE))|((with_reducible first|apply wF|apply wG);refine wH rfl ?_)))
  refine RG.opS rfl (op_index rfl (tab_ok ty_ok rfl) rfl (tab_ok ty_ok rfl) rfl rfl hp1 rfl) rfl ?_
  refine wH rfl ?_
  refine RG.opS rfl (op_index rfl (tab_ok ty_ok rfl) rfl (tab_ok ty_ok rfl) rfl (congrArg (AV.i .i64) ha) hp2 rfl) rfl ?_
  refine wH rfl ?_;(repeat(first|(with_reducible first|apply wA|apply wB|apply wC|(apply wD;first|(refine wE ⟨?_,?_⟩;· kernel_rfl)|apply wE))|((with_reducible first|apply wF|apply wG);refine wH rfl ?_)))
  refine AW.ret (retQA ty_ok rfl rfl rfl ?_)
  rfl
 have k3 : ¬ x.act.kind = 3 := of_decide_eq_false k3
 have e1 : nextH c ⟨n, t, (m : Nat), hd⟩ = Hop.zero := by rw [nextH, if_neg g, hra, if_neg k4, if_neg k3]
 skip;(repeat(first|(with_reducible first|apply wA|apply wB|apply wC|(apply wD;first|(refine wE ⟨?_,?_⟩;· kernel_rfl)|apply wE))|((with_reducible first|apply wF|apply wG);refine wH rfl ?_)))
 refine AW.cond rfl (fun k2 => ?_) (fun k2 => ?_)
 ·have k2 : x.act.kind = 2 := of_decide_eq_true k2
  have e2 : nextE c ⟨n, t, (m : Nat), hd⟩ = 2 := by rw [nextE, if_neg g, hra, if_neg k4, if_neg k3, if_pos k2]
  have e3 : nextA c ⟨n, t, (m : Nat), hd⟩ = ⟨n, x.act.port⟩ := by rw [nextA, if_neg g, hra, if_pos k2]
  rw [nextR, e1, e2, e3]
  skip;(repeat(first|(with_reducible first|apply wA|apply wB|apply wC|(apply wD;first|(refine wE ⟨?_,?_⟩;· kernel_rfl)|apply wE))|((with_reducible first|apply wF|apply wG);refine wH rfl ?_)))
  refine AW.ret (retQA ty_ok rfl rfl rfl ?_)
  rfl
 ·have k2 : ¬ x.act.kind = 2 := of_decide_eq_false k2
  have e2 : nextE c ⟨n, t, (m : Nat), hd⟩ = 1 := by rw [nextE, if_neg g, hra, if_neg k4, if_neg k3, if_neg k2]
  have e3 : nextA c ⟨n, t, (m : Nat), hd⟩ = Sp.zero := by rw [nextA, if_neg g, hra, if_neg k2]
  rw [nextR, e1, e2, e3]
  skip;(repeat(first|(with_reducible first|apply wA|apply wB|apply wC|(apply wD;first|(refine wE ⟨?_,?_⟩;· kernel_rfl)|apply wE))|((with_reducible first|apply wF|apply wG);refine wH rfl ?_)))
  refine AW.ret (retQA ty_ok rfl rfl rfl ?_)
  rfl
def flwR (hops : List Hop) : Option (Int × Sp) → AV
 | none => .tup [.i .i64 0, .agg (cSp Sp.zero), .b false]
 | some (f, a) => .tup [.i .i64 f, .agg (cSp a), .b (decide ((0 : Int) < (((hops.map cHop).length : Nat) : Int)))]
theorem there_at {c : Cf} {sw tb rl : Int} {hd : Hd} (h : thereB c ⟨sw, tb, rl, hd⟩ = true) : ∃ n t : Nat, sw = n ∧ tb = t ∧ At c n t ∧ -1 ≤ rl ∧ rl < ((tabOf c n t).length : Nat) := by
 simp only [thereB, Bool.and_eq_true, decide_eq_true_eq] at h
 obtain ⟨h1, h2, h3, h4, h5, h6⟩ := h
 obtain ⟨n, rfl⟩ : ∃ n : Nat, sw = n := ⟨sw.toNat, by omega⟩
 obtain ⟨t, rfl⟩ : ∃ t : Nat, tb = t := ⟨tb.toNat, by omega⟩
 rw [Int.toNat_natCast] at h4 h6
 rw [Int.toNat_natCast] at h6
 exact ⟨n, t, rfl, rfl, ⟨by omega, by omega⟩, h5, h6⟩
theorem d_follows (c : Cf) (hc : c.Ok) (hops : List Hop) (first : Hop) : PDoes Tryz.prog 86 [.agg (cCk c hops), .agg (cHop first)] (flwR hops (flw c 0 first 0 Sp.zero hops)) := by
  refine PDoes.of_bodyN Tryz.func86 rfl (by kernel_rfl) rfl rfl ?_
  generalize hR : flw c 0 first 0 Sp.zero hops = R
  skip;(repeat(first|(with_reducible first|apply wA|apply wB|apply wC|(apply wD;first|(refine wE ⟨?_,?_⟩;· kernel_rfl)|apply wE))|((with_reducible first|apply wF|apply wG);refine wH rfl ?_)))
  refine AW.lens 12 rfl fun hm => ?_
  rw [List.length_map] at hm
  refine AW.loopL (ι := Nat × Hop × Int × Sp) (fun i => [(2, .own 2 0 0), (4, .i .i64 i.2.2.1), (5, .own 5 0 0), (7, .own 7 0 0), (12, .sl (hops.map cHop)), (13, .i .i64 (hops.map cHop).length), (14, .i .i64 (i.1 : Nat))]) (fun i => [(2, ⟨0, some (.box 149 (cCk c hops))⟩), (5, ⟨0, some (.box 33 (cSp i.2.2.2))⟩), (7, ⟨0, some (.box 94 (cHop i.2.1))⟩)]) (fun i => i.1 ≤ hops.length ∧ flw c i.1 i.2.1 i.2.2.1 i.2.2.2 (hops.drop i.1) = R) (fun i => hops.length - i.1) (0, first, 0, Sp.zero) ⟨Nat.zero_le _, hR⟩ (by repeat(first|exact trivial|refine ⟨rI rfl rfl,?_⟩|refine ⟨rO rfl rfl rfl,?_⟩|refine ⟨rR rfl rfl rfl,?_⟩|refine ⟨bR rfl rfl,?_⟩|refine ⟨bS rfl rfl rfl,?_⟩)) (by repeat(first|exact trivial|refine ⟨rI rfl rfl,?_⟩|refine ⟨rO rfl rfl rfl,?_⟩|refine ⟨rR rfl rfl rfl,?_⟩|refine ⟨bR rfl rfl,?_⟩|refine ⟨bS rfl rfl rfl,?_⟩)) fun i hi => ?_
  clear hR
  obtain ⟨k, w, fin, a⟩ := i
  obtain ⟨hk, hf⟩ := hi
  simp only at hk hf
  skip;(repeat(first|(with_reducible first|apply wA|apply wB|apply wC|(apply wD;first|(refine wE ⟨?_,?_⟩;· kernel_rfl)|apply wE))|((with_reducible first|apply wF|apply wG);refine wH rfl ?_)))
  refine AW.cond rfl (fun h3 => ?_) (fun h3 => ?_)
  rotate_left
  · have h : ¬ k < hops.length := by simpa using h3
    obtain rfl : k = hops.length := by omega
    rw [List.drop_length, flw] at hf
    subst hf
    skip;(repeat(first|(with_reducible first|apply wA|apply wB|apply wC|(apply wD;first|(refine wE ⟨?_,?_⟩;· kernel_rfl)|apply wE))|((with_reducible first|apply wF|apply wG);refine wH rfl ?_)))
    refine AW.exit ?_; refine Eq.mpr (if_pos rfl) ?_; skip;(repeat(first|(with_reducible first|apply wA|apply wB|apply wC|(apply wD;first|(refine wE ⟨?_,?_⟩;· kernel_rfl)|apply wE))|((with_reducible first|apply wF|apply wG);refine wH rfl ?_)))
    refine AW.ret (retQA ty_ok rfl rfl rfl ?_)
    rfl
  have h : k < hops.length := by simpa using h3
  rw [List.drop_eq_getElem_cons h, flw] at hf
  skip;(repeat(first|(with_reducible first|apply wA|apply wB|apply wC|(apply wD;first|(refine wE ⟨?_,?_⟩;· kernel_rfl)|apply wE))))
  refine AW.text ?_
  refine wH rfl ?_
  refine RG.opS rfl (op_index rfl (tab_ok ty_ok rfl) rfl (tab_ok ty_ok rfl) rfl rfl (show (hops.map cHop)[k]? = some (cHop hops[k]) by rw [List.getElem?_map, List.getElem?_eq_getElem (by assumption)]; rfl) rfl) rfl ?_
  generalize hops[k] = x at hf
  obtain ⟨sw, tb, rl, hd⟩ := x
  refine wH rfl ?_; skip;(repeat(first|(with_reducible first|apply wA|apply wB|apply wC|(apply wD;first|(refine wE ⟨?_,?_⟩;· kernel_rfl)|apply wE)))); refine wF ?_;refine wH rfl ?_;(repeat(first|(with_reducible first|apply wA|apply wB|apply wC|(apply wD;first|(refine wE ⟨?_,?_⟩;· kernel_rfl)|apply wE))))
  refine AW.text ?_
  refine wH rfl ?_
  by_cases e1 : (⟨sw, tb, rl, hd⟩ : Hop) = ⟨w.sw, w.table, rl, w.head⟩
  rotate_left
  · have e : okB c w ⟨sw, tb, rl, hd⟩ = false := by rw [okB, decide_eq_false e1]; rfl
    rw [e] at hf
    obtain rfl := hf
    refine RG.opS rfl (op_neG rfl ty_ok (by kernel_rfl) (by kernel_rfl) rfl rfl (eq_Hop ⟨sw, tb, rl, hd⟩ ⟨w.sw, w.table, rl, w.head⟩) (congrArg Bool.not (decide_eq_false e1))) rfl ?_
    refine wH rfl ?_; skip;(repeat(first|(with_reducible first|apply wA|apply wB|apply wC|(apply wD;first|(refine wE ⟨?_,?_⟩;· kernel_rfl)|apply wE))))
    refine AW.condT rfl ?_; skip;(repeat(first|(with_reducible first|apply wA|apply wB|apply wC|(apply wD;first|(refine wE ⟨?_,?_⟩;· kernel_rfl)|apply wE))|((with_reducible first|apply wF|apply wG);refine wH rfl ?_)))
    refine AW.ret (retQA ty_ok rfl rfl rfl ?_)
    rfl
  refine RG.opS rfl (op_neG rfl ty_ok (by kernel_rfl) (by kernel_rfl) rfl rfl (eq_Hop ⟨sw, tb, rl, hd⟩ ⟨w.sw, w.table, rl, w.head⟩) (congrArg Bool.not (decide_eq_true e1))) rfl ?_
  refine wH rfl ?_
  cases e2 : thereB c ⟨sw, tb, rl, hd⟩
  · have e : okB c w ⟨sw, tb, rl, hd⟩ = false := by rw [okB, e2, Bool.false_and, Bool.and_false]
    rw [e] at hf
    obtain rfl := hf
    have hT := d_there c hops ⟨sw, tb, rl, hd⟩
    rw [e2] at hT
    refine RG.callS rfl rfl rfl rfl rfl hT rfl rfl ?_
    refine wH rfl ?_; skip;(repeat(first|(with_reducible first|apply wA|apply wB|apply wC|(apply wD;first|(refine wE ⟨?_,?_⟩;· kernel_rfl)|apply wE))))
    refine AW.condT rfl ?_; skip;(repeat(first|(with_reducible first|apply wA|apply wB|apply wC|(apply wD;first|(refine wE ⟨?_,?_⟩;· kernel_rfl)|apply wE))|((with_reducible first|apply wF|apply wG);refine wH rfl ?_)))
    refine AW.ret (retQA ty_ok rfl rfl rfl ?_)
    rfl
  have hT := d_there c hops ⟨sw, tb, rl, hd⟩
  rw [e2] at hT
  refine RG.callS rfl rfl rfl rfl rfl hT rfl rfl ?_
  refine wH rfl ?_
  obtain ⟨n, t, rfl, rfl, hat, r1, r2⟩ := there_at e2
  have hM := d_matches c hops n t rl hd hat r1 r2
  cases e3 : matchB c ⟨n, t, rl, hd⟩
  · have e : okB c w ⟨n, t, rl, hd⟩ = false := by rw [okB, e3, Bool.and_false, Bool.and_false]
    rw [e] at hf
    obtain rfl := hf
    rw [e3] at hM
    refine RG.callS rfl rfl rfl rfl rfl hM rfl rfl ?_
    refine wH rfl ?_; skip;(repeat(first|(with_reducible first|apply wA|apply wB|apply wC|(apply wD;first|(refine wE ⟨?_,?_⟩;· kernel_rfl)|apply wE))))
    refine AW.condT rfl ?_; skip;(repeat(first|(with_reducible first|apply wA|apply wB|apply wC|(apply wD;first|(refine wE ⟨?_,?_⟩;· kernel_rfl)|apply wE))|((with_reducible first|apply wF|apply wG);refine wH rfl ?_)))
    refine AW.ret (retQA ty_ok rfl rfl rfl ?_)
    rfl
  rw [e3] at hM
  refine RG.callS rfl rfl rfl rfl rfl hM rfl rfl ?_
  have e : okB c w ⟨n, t, rl, hd⟩ = true := by rw [okB, e2, e3, decide_eq_true e1]; rfl
  rw [e, Bool.true_and] at hf
  by_cases e4 : fin = 0
  rotate_left
  · rw [decide_eq_false e4] at hf
    obtain rfl := hf
    refine RG.runO ty_ok 0 [(39, .b true)] 400 rfl (by repeat' (first|exact trivial|apply And.intro|exact dT ‹_›|exact dF ‹_›|exact dN ‹_›|exact dM ‹_›|exact dI ‹_›)) ?_
    skip;(repeat(first|(with_reducible first|apply wA|apply wB|apply wC|(apply wD;first|(refine wE ⟨?_,?_⟩;· kernel_rfl)|apply wE)))); refine AW.condT rfl ?_; skip;(repeat(first|(with_reducible first|apply wA|apply wB|apply wC|(apply wD;first|(refine wE ⟨?_,?_⟩;· kernel_rfl)|apply wE))|((with_reducible first|apply wF|apply wG);refine wH rfl ?_)))
    refine AW.ret (retQA ty_ok rfl rfl rfl ?_)
    rfl
  rw [decide_eq_true e4, cond_true] at hf
  refine RG.runO ty_ok 0 [(39, .b false)] 400 rfl (by repeat' (first|exact trivial|apply And.intro|exact dT ‹_›|exact dF ‹_›|exact dN ‹_›|exact dM ‹_›|exact dI ‹_›)) ?_
  have hN := d_next c hc hops n t rl hd hat r1 r2
  rw [nextR] at hN
  generalize nextH c ⟨n, t, rl, hd⟩ = w' at hf hN
  generalize hE : nextE c ⟨n, t, rl, hd⟩ = f' at hf hN
  generalize nextA c ⟨n, t, rl, hd⟩ = a' at hf hN
  skip;(repeat(first|(with_reducible first|apply wA|apply wB|apply wC|(apply wD;first|(refine wE ⟨?_,?_⟩;· kernel_rfl)|apply wE)))); refine AW.condF rfl ?_; skip;(repeat(first|(with_reducible first|apply wA|apply wB|apply wC|(apply wD;first|(refine wE ⟨?_,?_⟩;· kernel_rfl)|apply wE))))
  refine AW.text ?_
  refine wH rfl ?_
  refine RG.callS rfl rfl rfl rfl rfl hN rfl rfl ?_
  refine wH rfl ?_; skip;(repeat(first|(with_reducible first|apply wA|apply wB|apply wC|(apply wD;first|(refine wE ⟨?_,?_⟩;· kernel_rfl)|apply wE))))
  refine AW.text ?_
  by_cases e5 : f' = 0
  rotate_left
  · rw [lastE, if_neg fun h => e5 h.1] at hf
    refine RG.runO ty_ok 0 [(50, .b false)] 400 rfl (by repeat' (first|exact trivial|apply And.intro|exact dT ‹_›|exact dF ‹_›|exact dN ‹_›|exact dM ‹_›|exact dI ‹_›)) ?_
    skip;(repeat(first|(with_reducible first|apply wA|apply wB|apply wC|(apply wD;first|(refine wE ⟨?_,?_⟩;· kernel_rfl)|apply wE)))); refine AW.condF rfl ?_; skip;(repeat(first|(with_reducible first|apply wA|apply wB|apply wC|(apply wD;first|(refine wE ⟨?_,?_⟩;· kernel_rfl)|apply wE))|((with_reducible first|apply wF|apply wG);refine wH rfl ?_)))
    exact ⟨(k + 1, w', f', a'), ⟨⟨h, hf⟩, by show hops.length - (k + 1) < hops.length - k; omega⟩, (by repeat(first|exact trivial|refine ⟨rI rfl rfl,?_⟩|refine ⟨rI (i64_next (by assumption) (by first|assumption|decide)) rfl,?_⟩|refine ⟨rO rfl rfl rfl,?_⟩|refine ⟨rR rfl rfl rfl,?_⟩|refine ⟨bR rfl rfl,?_⟩|refine ⟨bS rfl rfl rfl,?_⟩)), (by repeat(first|exact trivial|refine ⟨rI rfl rfl,?_⟩|refine ⟨rO rfl rfl rfl,?_⟩|refine ⟨rR rfl rfl rfl,?_⟩|refine ⟨bR rfl rfl,?_⟩|refine ⟨bS rfl rfl rfl,?_⟩))⟩
  by_cases e6 : ((k : Nat) : Int) = 10799
  · rw [lastE, if_pos ⟨e5, by omega⟩] at hf
    refine RG.runO ty_ok 0 [(50, .b true), (53, .b true)] 400 rfl (by repeat' (first|exact trivial|apply And.intro|exact dT ‹_›|exact dF ‹_›|exact dN ‹_›|exact dM ‹_›|exact dI ‹_›)) ?_
    skip;(repeat(first|(with_reducible first|apply wA|apply wB|apply wC|(apply wD;first|(refine wE ⟨?_,?_⟩;· kernel_rfl)|apply wE)))); refine AW.condT rfl ?_; skip;(repeat(first|(with_reducible first|apply wA|apply wB|apply wC|(apply wD;first|(refine wE ⟨?_,?_⟩;· kernel_rfl)|apply wE))|((with_reducible first|apply wF|apply wG);refine wH rfl ?_)))
    exact ⟨(k + 1, w', 4, a'), ⟨⟨h, hf⟩, by show hops.length - (k + 1) < hops.length - k; omega⟩, (by repeat(first|exact trivial|refine ⟨rI rfl rfl,?_⟩|refine ⟨rI (i64_next (by assumption) (by first|assumption|decide)) rfl,?_⟩|refine ⟨rO rfl rfl rfl,?_⟩|refine ⟨rR rfl rfl rfl,?_⟩|refine ⟨bR rfl rfl,?_⟩|refine ⟨bS rfl rfl rfl,?_⟩)), (by repeat(first|exact trivial|refine ⟨rI rfl rfl,?_⟩|refine ⟨rO rfl rfl rfl,?_⟩|refine ⟨rR rfl rfl rfl,?_⟩|refine ⟨bR rfl rfl,?_⟩|refine ⟨bS rfl rfl rfl,?_⟩))⟩
  · rw [lastE, if_neg fun h => e6 (by omega)] at hf
    refine RG.runO ty_ok 0 [(50, .b true), (53, .b false)] 400 rfl (by repeat' (first|exact trivial|apply And.intro|exact dT ‹_›|exact dF ‹_›|exact dN ‹_›|exact dM ‹_›|exact dI ‹_›)) ?_
    skip;(repeat(first|(with_reducible first|apply wA|apply wB|apply wC|(apply wD;first|(refine wE ⟨?_,?_⟩;· kernel_rfl)|apply wE)))); refine AW.condF rfl ?_; skip;(repeat(first|(with_reducible first|apply wA|apply wB|apply wC|(apply wD;first|(refine wE ⟨?_,?_⟩;· kernel_rfl)|apply wE))|((with_reducible first|apply wF|apply wG);refine wH rfl ?_)))
    exact ⟨(k + 1, w', f', a'), ⟨⟨h, hf⟩, by show hops.length - (k + 1) < hops.length - k; omega⟩, (by repeat(first|exact trivial|refine ⟨rI rfl rfl,?_⟩|refine ⟨rI (i64_next (by assumption) (by first|assumption|decide)) rfl,?_⟩|refine ⟨rO rfl rfl rfl,?_⟩|refine ⟨rR rfl rfl rfl,?_⟩|refine ⟨bR rfl rfl,?_⟩|refine ⟨bS rfl rfl rfl,?_⟩)), (by repeat(first|exact trivial|refine ⟨rI rfl rfl,?_⟩|refine ⟨rO rfl rfl rfl,?_⟩|refine ⟨rR rfl rfl rfl,?_⟩|refine ⟨bR rfl rfl,?_⟩|refine ⟨bS rfl rfl rfl,?_⟩))⟩
theorem d_Trace (c : Cf) (s : Sp) (h : Hd) (V : Int) (r : Run) : PDoes Tryz.prog 46 [.agg (cCf c), .agg (cSp s), .agg (cHd h), .i .i64 V, .agg (cRun r)] (.b (traceB c s h V r)) := by
  refine PDoes.of_bodyN Tryz.func46 rfl (by kernel_rfl) rfl rfl ?_
  have hS := d_CStamp c s V
  rw [traceB]
  by_cases e : stampE c s V = 0
  rotate_left
  · rw [decide_eq_false e, cond_false]
    skip;(repeat(first|(with_reducible first|apply wA|apply wB|apply wC|(apply wD;first|(refine wE ⟨?_,?_⟩;· kernel_rfl)|apply wE))|((with_reducible first|apply wF|apply wG);refine wH rfl ?_)))
    refine RG.callS rfl rfl rfl rfl rfl hS rfl rfl ?_; refine wH rfl ?_;(repeat(first|(with_reducible first|apply wA|apply wB|apply wC|(apply wD;first|(refine wE ⟨?_,?_⟩;· kernel_rfl)|apply wE))|((with_reducible first|apply wF|apply wG);refine wH rfl ?_)))
    refine AW.cond rfl (fun k => ?_) (fun k => ?_)
    · skip;(repeat(first|(with_reducible first|apply wA|apply wB|apply wC|(apply wD;first|(refine wE ⟨?_,?_⟩;· kernel_rfl)|apply wE))|((with_reducible first|apply wF|apply wG);refine wH rfl ?_)))
      refine AW.ret (retQA ty_ok rfl rfl rfl ?_)
      rfl
    · exact absurd (by simpa using k) e
  have hc : c.Ok := by
    rw [stampE] at e
    split at e
    · rename_i h0; exact Cf.ok h0
    · rename_i h0; exact absurd e h0
  rw [stampC, if_pos e, e] at hS
  rw [decide_eq_true e, cond_true]
  have hF := d_follows c hc r.hops ⟨s.sw, 0, 0, h.set (stampOf c s V)⟩
  have hl : (r.hops.map cHop).length = r.hops.length := List.length_map ..
  skip;(repeat(first|(with_reducible first|apply wA|apply wB|apply wC|(apply wD;first|(refine wE ⟨?_,?_⟩;· kernel_rfl)|apply wE))|((with_reducible first|apply wF|apply wG);refine wH rfl ?_)))
  refine RG.callS rfl rfl rfl rfl rfl hS rfl rfl ?_; refine wH rfl ?_;(repeat(first|(with_reducible first|apply wA|apply wB|apply wC|(apply wD;first|(refine wE ⟨?_,?_⟩;· kernel_rfl)|apply wE))|((with_reducible first|apply wF|apply wG);refine wH rfl ?_)))
  refine AW.condF rfl ?_; skip;(repeat(first|(with_reducible first|apply wA|apply wB|apply wC|(apply wD;first|(refine wE ⟨?_,?_⟩;· kernel_rfl)|apply wE))|((with_reducible first|apply wF|apply wG);refine wH rfl ?_)))
  refine RG.callS rfl rfl rfl rfl rfl (d_Set h (stampOf c s V)) rfl rfl ?_
  refine wH rfl ?_
  cases hf : flw c 0 ⟨s.sw, 0, 0, h.set (stampOf c s V)⟩ 0 Sp.zero r.hops with
  | none =>
    rw [hf] at hF
    refine RG.callS rfl rfl rfl rfl rfl hF rfl rfl ?_; refine wH rfl ?_;(repeat(first|(with_reducible first|apply wA|apply wB|apply wC|(apply wD;first|(refine wE ⟨?_,?_⟩;· kernel_rfl)|apply wE))|((with_reducible first|apply wF|apply wG);refine wH rfl ?_)))
    refine AW.ret (retQA ty_ok rfl rfl rfl ?_)
    rfl
  | some x =>
    obtain ⟨f, a⟩ := x
    rw [hf] at hF
    simp only
    refine RG.callS rfl rfl rfl rfl rfl hF rfl rfl ?_
    refine wH rfl ?_; skip;(repeat(first|(with_reducible first|apply wA|apply wB|apply wC|(apply wD;first|(refine wE ⟨?_,?_⟩;· kernel_rfl)|apply wE))))
    refine AW.text ?_
    by_cases g1 : (0 : Int) < (((r.hops.map cHop).length : Nat) : Int)
    rotate_left
    · refine RG.runO ty_ok 0 [(45, .b false)] 400 rfl (by repeat' (first|exact trivial|apply And.intro|exact dT ‹_›|exact dF ‹_›|exact dN ‹_›|exact dM ‹_›|exact dI ‹_›)) ?_
      skip;(repeat(first|(with_reducible first|apply wA|apply wB|apply wC|(apply wD;first|(refine wE ⟨?_,?_⟩;· kernel_rfl)|apply wE))|((with_reducible first|apply wF|apply wG);refine wH rfl ?_)))
      refine AW.ret (retQA ty_ok rfl rfl rfl ?_)
      exact congrArg AV.b (by rw [decide_eq_false (by omega)]; rfl)
    rw [decide_eq_true (show 0 < r.hops.length by omega), Bool.true_and]
    by_cases g2 : f = r.fin
    rotate_left
    · refine RG.runO ty_ok 0 [(45, .b true), (50, .b false)] 400 rfl (by repeat' (first|exact trivial|apply And.intro|exact dT ‹_›|exact dF ‹_›|exact dN ‹_›|exact dM ‹_›|exact dI ‹_›)) ?_
      skip;(repeat(first|(with_reducible first|apply wA|apply wB|apply wC|(apply wD;first|(refine wE ⟨?_,?_⟩;· kernel_rfl)|apply wE))|((with_reducible first|apply wF|apply wG);refine wH rfl ?_)))
      refine AW.ret (retQA ty_ok rfl rfl rfl ?_)
      exact congrArg AV.b (by rw [decide_eq_false g2]; rfl)
    rw [decide_eq_true g2, Bool.true_and]
    by_cases g3 : f = 0
    · refine RG.runO ty_ok 0 [(45, .b true), (50, .b true), (54, .b false)] 400 rfl (by repeat' (first|exact trivial|apply And.intro|exact dT ‹_›|exact dF ‹_›|exact dN ‹_›|exact dM ‹_›|exact dI ‹_›)) ?_
      skip;(repeat(first|(with_reducible first|apply wA|apply wB|apply wC|(apply wD;first|(refine wE ⟨?_,?_⟩;· kernel_rfl)|apply wE))|((with_reducible first|apply wF|apply wG);refine wH rfl ?_)))
      refine AW.ret (retQA ty_ok rfl rfl rfl ?_)
      exact congrArg AV.b (by rw [decide_eq_true g3]; rfl)
    rw [decide_eq_false g3, Bool.not_false, Bool.true_and]
    refine RG.runO ty_ok 0 [(45, .b true), (50, .b true), (54, .b true)] 400 rfl (by repeat' (first|exact trivial|apply And.intro|exact dT ‹_›|exact dF ‹_›|exact dN ‹_›|exact dM ‹_›|exact dI ‹_›)) ?_
    refine RG.opS rfl (op_eqG rfl ty_ok (by kernel_rfl) (by kernel_rfl) rfl rfl (eq_Sp a r.at_) rfl) rfl ?_
    refine wH rfl ?_;(repeat(first|(with_reducible first|apply wA|apply wB|apply wC|(apply wD;first|(refine wE ⟨?_,?_⟩;· kernel_rfl)|apply wE))|((with_reducible first|apply wF|apply wG);refine wH rfl ?_)))
    refine AW.ret (retQA ty_ok rfl rfl rfl ?_)
    rfl
end Go.Proofs.YtahjjfhjjbgjaaaGreat.Sm
end
section
namespace Go.Proofs.YtahjjfhjjbgjaaaGreat.Sm
open Go.RowKit
theorem d_wrongs : PDoes Tryz.prog 90 [] (.sl (([1, 2, 3, 4] : List Int).map cI)) := by
 refine PDoes.of_bodyN Tryz.func90 rfl (by kernel_rfl) rfl rfl ?_
 skip;(repeat(first|(with_reducible first|apply wA|apply wB|apply wC|(apply wD;first|(refine wE ⟨?_,?_⟩;· kernel_rfl)|apply wE))|((with_reducible first|apply wF|apply wG);refine wH rfl ?_)))
 refine AW.ret (retQA ty_ok rfl rfl rfl ?_)
 rfl
def emptyB (v : Vd) : Bool := decide (v.why = 0) && (decide (v.fro = Sp.zero) && (decide (v.head = Hd.zero) && (decide (v.run.fin = 0) && (decide (v.run.at_ = Sp.zero) && decide ((((v.run.hops.map cHop).length : Nat) : Int) = 0)))))
theorem d_empty (v : Vd) : PDoes Tryz.prog 91 [.agg (cVd v)] (.b (emptyB v)) := by
 refine PDoes.of_bodyN Tryz.func91 rfl (by kernel_rfl) rfl rfl ?_
 rw [emptyB]
 skip;(repeat(first|(with_reducible first|apply wA|apply wB|apply wC|(apply wD;first|(refine wE ⟨?_,?_⟩;· kernel_rfl)|apply wE)))); refine wF ?_;refine wH rfl ?_;(repeat(first|(with_reducible first|apply wA|apply wB|apply wC|(apply wD;first|(refine wE ⟨?_,?_⟩;· kernel_rfl)|apply wE))))
 refine AW.text ?_
 by_cases g1 : v.why = 0
 rotate_left
 ·rw [decide_eq_false g1]
  refine RG.runO ty_ok 0 [(5, .b false)] 400 rfl (by repeat' (first|exact trivial|apply And.intro|exact dT ‹_›|exact dF ‹_›|exact dN ‹_›|exact dM ‹_›|exact dI ‹_›)) ?_
  skip;(repeat(first|(with_reducible first|apply wA|apply wB|apply wC|(apply wD;first|(refine wE ⟨?_,?_⟩;· kernel_rfl)|apply wE))|((with_reducible first|apply wF|apply wG);refine wH rfl ?_)))
  refine AW.ret (retQA ty_ok rfl rfl rfl ?_)
  rfl
 rw [decide_eq_true g1, Bool.true_and]
 refine RG.runO ty_ok 0 [(5, .b true)] 400 rfl (by repeat' (first|exact trivial|apply And.intro|exact dT ‹_›|exact dF ‹_›|exact dN ‹_›|exact dM ‹_›|exact dI ‹_›)) ?_
 by_cases g2 : v.fro = Sp.zero
 rotate_left
 ·rw [decide_eq_false g2]
  refine RG.opS rfl (op_eqG rfl ty_ok (by kernel_rfl) (by kernel_rfl) rfl rfl (eq_Sp v.fro Sp.zero) (decide_eq_false g2)) rfl ?_
  refine wH rfl ?_;(repeat(first|(with_reducible first|apply wA|apply wB|apply wC|(apply wD;first|(refine wE ⟨?_,?_⟩;· kernel_rfl)|apply wE))|((with_reducible first|apply wF|apply wG);refine wH rfl ?_)))
  refine AW.ret (retQA ty_ok rfl rfl rfl ?_)
  rfl
 rw [decide_eq_true g2, Bool.true_and]
 refine RG.opS rfl (op_eqG rfl ty_ok (by kernel_rfl) (by kernel_rfl) rfl rfl (eq_Sp v.fro Sp.zero) (decide_eq_true g2)) rfl ?_
 refine wH rfl ?_
 by_cases g3 : v.head = Hd.zero
 rotate_left
 ·rw [decide_eq_false g3]
  refine RG.opS rfl (op_eqG rfl ty_ok (by kernel_rfl) (by kernel_rfl) rfl rfl (eq_Hd v.head Hd.zero) (decide_eq_false g3)) rfl ?_
  refine wH rfl ?_;(repeat(first|(with_reducible first|apply wA|apply wB|apply wC|(apply wD;first|(refine wE ⟨?_,?_⟩;· kernel_rfl)|apply wE))|((with_reducible first|apply wF|apply wG);refine wH rfl ?_)))
  refine AW.ret (retQA ty_ok rfl rfl rfl ?_)
  rfl
 rw [decide_eq_true g3, Bool.true_and]
 refine RG.opS rfl (op_eqG rfl ty_ok (by kernel_rfl) (by kernel_rfl) rfl rfl (eq_Hd v.head Hd.zero) (decide_eq_true g3)) rfl ?_
 by_cases g4 : v.run.fin = 0
 rotate_left
 ·rw [decide_eq_false g4]
  refine RG.runO ty_ok 0 [(22, .b false)] 400 rfl (by repeat' (first|exact trivial|apply And.intro|exact dT ‹_›|exact dF ‹_›|exact dN ‹_›|exact dM ‹_›|exact dI ‹_›)) ?_
  skip;(repeat(first|(with_reducible first|apply wA|apply wB|apply wC|(apply wD;first|(refine wE ⟨?_,?_⟩;· kernel_rfl)|apply wE))|((with_reducible first|apply wF|apply wG);refine wH rfl ?_)))
  refine AW.ret (retQA ty_ok rfl rfl rfl ?_)
  rfl
 rw [decide_eq_true g4, Bool.true_and]
 refine RG.runO ty_ok 0 [(22, .b true)] 400 rfl (by repeat' (first|exact trivial|apply And.intro|exact dT ‹_›|exact dF ‹_›|exact dN ‹_›|exact dM ‹_›|exact dI ‹_›)) ?_
 by_cases g5 : v.run.at_ = Sp.zero
 rotate_left
 ·rw [decide_eq_false g5]
  refine RG.opS rfl (op_eqG rfl ty_ok (by kernel_rfl) (by kernel_rfl) rfl rfl (eq_Sp v.run.at_ Sp.zero) (decide_eq_false g5)) rfl ?_
  refine wH rfl ?_;(repeat(first|(with_reducible first|apply wA|apply wB|apply wC|(apply wD;first|(refine wE ⟨?_,?_⟩;· kernel_rfl)|apply wE))|((with_reducible first|apply wF|apply wG);refine wH rfl ?_)))
  refine AW.ret (retQA ty_ok rfl rfl rfl ?_)
  rfl
 rw [decide_eq_true g5, Bool.true_and]
 refine RG.opS rfl (op_eqG rfl ty_ok (by kernel_rfl) (by kernel_rfl) rfl rfl (eq_Sp v.run.at_ Sp.zero) (decide_eq_true g5)) rfl ?_
 refine wH rfl ?_;(repeat(first|(with_reducible first|apply wA|apply wB|apply wC|(apply wD;first|(refine wE ⟨?_,?_⟩;· kernel_rfl)|apply wE))|((with_reducible first|apply wF|apply wG);refine wH rfl ?_)))
 refine AW.ret (retQA ty_ok rfl rfl rfl ?_)
 rfl
def holdsB (c : Cf) (V : Int) (v : Vd) : Bool :=
 if v.kind = 2 then decide (v.e = 0) && (decide (v.why ∈ ([1, 2, 3, 4] : List Int)) && (traceB c v.fro v.head V v.run && decide (wrongJ c v.fro v.run = v.why)))
 else if v.kind = 3 then !decide (malE c V = 0) && (decide (v.e = malE c V) && emptyB v) else false
theorem d_Holds (c : Cf) (V : Int) (v : Vd) : PDoes Tryz.prog 48 [.agg (cCf c), .i .i64 V, .agg (cVd v)] (.b (holdsB c V v)) := by
  refine PDoes.of_bodyN Tryz.func48 rfl (by kernel_rfl) rfl rfl ?_
  rw [holdsB]
  skip;(repeat(first|(with_reducible first|apply wA|apply wB|apply wC|(apply wD;first|(refine wE ⟨?_,?_⟩;· kernel_rfl)|apply wE))|((with_reducible first|apply wF|apply wG);refine wH rfl ?_)))
  refine AW.cond rfl (fun k2 => ?_) (fun k2 => ?_)
  · have k2 : v.kind = 2 := of_decide_eq_true k2
    rw [if_pos k2]
    skip;(repeat(first|(with_reducible first|apply wA|apply wB|apply wC|(apply wD;first|(refine wE ⟨?_,?_⟩;· kernel_rfl)|apply wE))))
    refine AW.draws mixed_ok ?_
    by_cases g1 : v.e = 0
    rotate_left
    · rw [decide_eq_false g1]
      refine RG.runO ty_ok 0 [(14, .b false)] 400 rfl (by repeat' (first|exact trivial|apply And.intro|exact dT ‹_›|exact dF ‹_›|exact dN ‹_›|exact dM ‹_›|exact dI ‹_›)) ?_
      skip;(repeat(first|(with_reducible first|apply wA|apply wB|apply wC|(apply wD;first|(refine wE ⟨?_,?_⟩;· kernel_rfl)|apply wE))|((with_reducible first|apply wF|apply wG);refine wH rfl ?_)))
      refine AW.ret (retQA ty_ok rfl rfl rfl ?_)
      rfl
    rw [decide_eq_true g1, Bool.true_and]
    refine RG.runO ty_ok 0 [(14, .b true)] 400 rfl (by repeat' (first|exact trivial|apply And.intro|exact dT ‹_›|exact dF ‹_›|exact dN ‹_›|exact dM ‹_›|exact dI ‹_›)) ?_
    refine RG.callMS rfl rfl rfl rfl rfl rfl d_wrongs rfl ?_
    refine wH rfl ?_
    cases g2 : decide (v.why ∈ ([1, 2, 3, 4] : List Int))
    · refine RG.callS rfl rfl rfl rfl rfl (d_Contains_Int v.why [1, 2, 3, 4] _ g2) rfl rfl ?_; refine wH rfl ?_;(repeat(first|(with_reducible first|apply wA|apply wB|apply wC|(apply wD;first|(refine wE ⟨?_,?_⟩;· kernel_rfl)|apply wE))|((with_reducible first|apply wF|apply wG);refine wH rfl ?_)))
      refine AW.ret (retQA ty_ok rfl rfl rfl ?_)
      rfl
    refine RG.callS rfl rfl rfl rfl rfl (d_Contains_Int v.why [1, 2, 3, 4] _ g2) rfl rfl ?_
    refine wH rfl ?_
    have hT := d_Trace c v.fro v.head V v.run
    rw [Bool.true_and]
    cases g3 : traceB c v.fro v.head V v.run
    · rw [g3] at hT
      refine RG.callS rfl rfl rfl rfl rfl hT rfl rfl ?_; refine wH rfl ?_;(repeat(first|(with_reducible first|apply wA|apply wB|apply wC|(apply wD;first|(refine wE ⟨?_,?_⟩;· kernel_rfl)|apply wE))|((with_reducible first|apply wF|apply wG);refine wH rfl ?_)))
      refine AW.ret (retQA ty_ok rfl rfl rfl ?_)
      rfl
    rw [g3] at hT
    refine RG.callS rfl rfl rfl rfl rfl hT rfl rfl ?_
    refine wH rfl ?_
    refine RG.callS rfl rfl rfl rfl rfl (d_JWrong c v.fro v.run) rfl rfl ?_; refine wH rfl ?_;(repeat(first|(with_reducible first|apply wA|apply wB|apply wC|(apply wD;first|(refine wE ⟨?_,?_⟩;· kernel_rfl)|apply wE))|((with_reducible first|apply wF|apply wG);refine wH rfl ?_)))
    refine AW.ret (retQA ty_ok rfl rfl rfl ?_)
    rfl
  have k2 : ¬ v.kind = 2 := of_decide_eq_false k2
  rw [if_neg k2]
  skip;(repeat(first|(with_reducible first|apply wA|apply wB|apply wC|(apply wD;first|(refine wE ⟨?_,?_⟩;· kernel_rfl)|apply wE))|((with_reducible first|apply wF|apply wG);refine wH rfl ?_)))
  refine AW.cond rfl (fun k3 => ?_) (fun k3 => ?_)
  rotate_left
  · have k3 : ¬ v.kind = 3 := of_decide_eq_false k3
    rw [if_neg k3]
    skip;(repeat(first|(with_reducible first|apply wA|apply wB|apply wC|(apply wD;first|(refine wE ⟨?_,?_⟩;· kernel_rfl)|apply wE))|((with_reducible first|apply wF|apply wG);refine wH rfl ?_)))
    refine AW.ret (retQA ty_ok rfl rfl rfl ?_)
    rfl
  have k3 : v.kind = 3 := of_decide_eq_true k3
  rw [if_pos k3]
  by_cases h0 : c.sound = 0
  rotate_left
  · have e : malE c V = c.sound := by rw [malE, if_neg h0]
    rw [e, decide_eq_false h0, Bool.not_false, Bool.true_and]
    skip;(repeat(first|(with_reducible first|apply wA|apply wB|apply wC|(apply wD;first|(refine wE ⟨?_,?_⟩;· kernel_rfl)|apply wE))|((with_reducible first|apply wF|apply wG);refine wH rfl ?_)))
    refine RG.callS rfl rfl rfl rfl rfl (d_CSound c) rfl rfl ?_
    refine wH rfl ?_; skip;(repeat(first|(with_reducible first|apply wA|apply wB|apply wC|(apply wD;first|(refine wE ⟨?_,?_⟩;· kernel_rfl)|apply wE))))
    refine AW.text ?_
    refine RG.runO ty_ok 0 [(48, .b false)] 400 rfl (by repeat' (first|exact trivial|apply And.intro|exact dT ‹_›|exact dF ‹_›|exact dN ‹_›|exact dM ‹_›|exact dI ‹_›)) ?_
    skip;(repeat(first|(with_reducible first|apply wA|apply wB|apply wC|(apply wD;first|(refine wE ⟨?_,?_⟩;· kernel_rfl)|apply wE)))); refine AW.condF rfl ?_; skip;(repeat(first|(with_reducible first|apply wA|apply wB|apply wC|(apply wD;first|(refine wE ⟨?_,?_⟩;· kernel_rfl)|apply wE))))
    refine AW.text ?_
    by_cases g4 : v.e = c.sound
    · rw [decide_eq_true g4, Bool.true_and]
      refine RG.runO ty_ok 0 [(58, .b true), (63, .b true)] 400 rfl (by repeat' (first|exact trivial|apply And.intro|exact dT ‹_›|exact dF ‹_›|exact dN ‹_›|exact dM ‹_›|exact dI ‹_›)) ?_
      refine RG.callS rfl rfl rfl rfl rfl (d_empty v) rfl rfl ?_; refine wH rfl ?_;(repeat(first|(with_reducible first|apply wA|apply wB|apply wC|(apply wD;first|(refine wE ⟨?_,?_⟩;· kernel_rfl)|apply wE))|((with_reducible first|apply wF|apply wG);refine wH rfl ?_)))
      refine AW.ret (retQA ty_ok rfl rfl rfl ?_)
      rfl
    · rw [decide_eq_false g4]
      refine RG.runO ty_ok 0 [(58, .b true), (63, .b false)] 400 rfl (by repeat' (first|exact trivial|apply And.intro|exact dT ‹_›|exact dF ‹_›|exact dN ‹_›|exact dM ‹_›|exact dI ‹_›)) ?_
      skip;(repeat(first|(with_reducible first|apply wA|apply wB|apply wC|(apply wD;first|(refine wE ⟨?_,?_⟩;· kernel_rfl)|apply wE))|((with_reducible first|apply wF|apply wG);refine wH rfl ?_)))
      refine AW.ret (retQA ty_ok rfl rfl rfl ?_)
      rfl
  have hCS := d_CSound c
  rw [h0] at hCS
  skip;(repeat(first|(with_reducible first|apply wA|apply wB|apply wC|(apply wD;first|(refine wE ⟨?_,?_⟩;· kernel_rfl)|apply wE))|((with_reducible first|apply wF|apply wG);refine wH rfl ?_)))
  refine RG.callS rfl rfl rfl rfl rfl hCS rfl rfl ?_
  refine wH rfl ?_; skip;(repeat(first|(with_reducible first|apply wA|apply wB|apply wC|(apply wD;first|(refine wE ⟨?_,?_⟩;· kernel_rfl)|apply wE))))
  refine AW.text ?_
  by_cases g1 : V < 0
  · refine RG.runO ty_ok 0 [(51, .b true)] 400 rfl (by repeat' (first|exact trivial|apply And.intro|exact dT ‹_›|exact dF ‹_›|exact dN ‹_›|exact dM ‹_›|exact dI ‹_›)) ?_
    have e : malE c V = 4 := by rw [malE, if_pos h0, if_pos (by omega)]
    rw [e]
    skip;(repeat(first|(with_reducible first|apply wA|apply wB|apply wC|(apply wD;first|(refine wE ⟨?_,?_⟩;· kernel_rfl)|apply wE)))); refine AW.condT rfl ?_; skip;(repeat(first|(with_reducible first|apply wA|apply wB|apply wC|(apply wD;first|(refine wE ⟨?_,?_⟩;· kernel_rfl)|apply wE)))); refine wF ?_;refine wH rfl ?_;(repeat(first|(with_reducible first|apply wA|apply wB|apply wC|(apply wD;first|(refine wE ⟨?_,?_⟩;· kernel_rfl)|apply wE))))
    refine AW.text ?_
    by_cases g4 : v.e = 4
    · rw [decide_eq_true g4]
      refine RG.runO ty_ok 0 [(63, .b true)] 400 rfl (by repeat' (first|exact trivial|apply And.intro|exact dT ‹_›|exact dF ‹_›|exact dN ‹_›|exact dM ‹_›|exact dI ‹_›)) ?_
      refine RG.callS rfl rfl rfl rfl rfl (d_empty v) rfl rfl ?_; refine wH rfl ?_;(repeat(first|(with_reducible first|apply wA|apply wB|apply wC|(apply wD;first|(refine wE ⟨?_,?_⟩;· kernel_rfl)|apply wE))|((with_reducible first|apply wF|apply wG);refine wH rfl ?_)))
      refine AW.ret (retQA ty_ok rfl rfl rfl ?_)
      rfl
    · rw [decide_eq_false g4]
      refine RG.runO ty_ok 0 [(63, .b false)] 400 rfl (by repeat' (first|exact trivial|apply And.intro|exact dT ‹_›|exact dF ‹_›|exact dN ‹_›|exact dM ‹_›|exact dI ‹_›)) ?_
      skip;(repeat(first|(with_reducible first|apply wA|apply wB|apply wC|(apply wD;first|(refine wE ⟨?_,?_⟩;· kernel_rfl)|apply wE))|((with_reducible first|apply wF|apply wG);refine wH rfl ?_)))
      refine AW.ret (retQA ty_ok rfl rfl rfl ?_)
      rfl
  · by_cases g2 : V > 255
    · refine RG.runO ty_ok 0 [(51, .b false), (54, .b true)] 400 rfl (by repeat' (first|exact trivial|apply And.intro|exact dT ‹_›|exact dF ‹_›|exact dN ‹_›|exact dM ‹_›|exact dI ‹_›)) ?_
      have e : malE c V = 4 := by rw [malE, if_pos h0, if_pos (by omega)]
      rw [e]
      skip;(repeat(first|(with_reducible first|apply wA|apply wB|apply wC|(apply wD;first|(refine wE ⟨?_,?_⟩;· kernel_rfl)|apply wE)))); refine AW.condT rfl ?_; skip;(repeat(first|(with_reducible first|apply wA|apply wB|apply wC|(apply wD;first|(refine wE ⟨?_,?_⟩;· kernel_rfl)|apply wE)))); refine wF ?_;refine wH rfl ?_;(repeat(first|(with_reducible first|apply wA|apply wB|apply wC|(apply wD;first|(refine wE ⟨?_,?_⟩;· kernel_rfl)|apply wE))))
      refine AW.text ?_
      by_cases g4 : v.e = 4
      · rw [decide_eq_true g4]
        refine RG.runO ty_ok 0 [(63, .b true)] 400 rfl (by repeat' (first|exact trivial|apply And.intro|exact dT ‹_›|exact dF ‹_›|exact dN ‹_›|exact dM ‹_›|exact dI ‹_›)) ?_
        refine RG.callS rfl rfl rfl rfl rfl (d_empty v) rfl rfl ?_; refine wH rfl ?_;(repeat(first|(with_reducible first|apply wA|apply wB|apply wC|(apply wD;first|(refine wE ⟨?_,?_⟩;· kernel_rfl)|apply wE))|((with_reducible first|apply wF|apply wG);refine wH rfl ?_)))
        refine AW.ret (retQA ty_ok rfl rfl rfl ?_)
        rfl
      · rw [decide_eq_false g4]
        refine RG.runO ty_ok 0 [(63, .b false)] 400 rfl (by repeat' (first|exact trivial|apply And.intro|exact dT ‹_›|exact dF ‹_›|exact dN ‹_›|exact dM ‹_›|exact dI ‹_›)) ?_
        skip;(repeat(first|(with_reducible first|apply wA|apply wB|apply wC|(apply wD;first|(refine wE ⟨?_,?_⟩;· kernel_rfl)|apply wE))|((with_reducible first|apply wF|apply wG);refine wH rfl ?_)))
        refine AW.ret (retQA ty_ok rfl rfl rfl ?_)
        rfl
    · refine RG.runO ty_ok 0 [(51, .b false), (54, .b false)] 400 rfl (by repeat' (first|exact trivial|apply And.intro|exact dT ‹_›|exact dF ‹_›|exact dN ‹_›|exact dM ‹_›|exact dI ‹_›)) ?_
      have e : malE c V = 0 := by rw [malE, if_pos h0, if_neg (by omega)]
      rw [e]
      skip;(repeat(first|(with_reducible first|apply wA|apply wB|apply wC|(apply wD;first|(refine wE ⟨?_,?_⟩;· kernel_rfl)|apply wE)))); refine AW.condF rfl ?_; skip;(repeat(first|(with_reducible first|apply wA|apply wB|apply wC|(apply wD;first|(refine wE ⟨?_,?_⟩;· kernel_rfl)|apply wE))|((with_reducible first|apply wF|apply wG);refine wH rfl ?_)))
      refine AW.ret (retQA ty_ok rfl rfl rfl ?_)
      rfl
theorem d_run16 (c : Cf) (s : Sp) (h : Hd) (V : Int) : PDoes Tryz.prog 45 [.agg (cCf c), .agg (cSp s), .agg (cHd h), .i .i64 V] (bif decide (stampE c s V = 0) then .tup [.agg (cRun (runOf c s h V 10800)), .b true] else .tup [.agg (cRun Run.zero), .b false]) := by
  refine PDoes.of_bodyN Tryz.func45 rfl (by kernel_rfl) rfl rfl ?_
  have hCS := d_rCSound c
  by_cases h0 : c.sound = 0
  rotate_left
  · have e : ¬ stampE c s V = 0 := by rw [stampE, if_neg h0]; exact h0
    rw [decide_eq_false e]
    skip;(repeat(first|(with_reducible first|apply wA|apply wB|apply wC|(apply wD;first|(refine wE ⟨?_,?_⟩;· kernel_rfl)|apply wE)))); refine wF ?_;refine wH rfl ?_;(repeat(first|(with_reducible first|apply wA|apply wB|apply wC|(apply wD;first|(refine wE ⟨?_,?_⟩;· kernel_rfl)|apply wE))))
    refine AW.text ?_
    refine wH rfl ?_
    refine RG.callS rfl rfl rfl rfl rfl hCS rfl rfl ?_
    refine RG.runO ty_ok 0 [(12, .b true)] 400 rfl (by repeat' (first|exact trivial|apply And.intro|exact dT ‹_›|exact dF ‹_›|exact dN ‹_›|exact dM ‹_›|exact dI ‹_›)) ?_
    skip;(repeat(first|(with_reducible first|apply wA|apply wB|apply wC|(apply wD;first|(refine wE ⟨?_,?_⟩;· kernel_rfl)|apply wE)))); refine AW.condT rfl ?_; skip;(repeat(first|(with_reducible first|apply wA|apply wB|apply wC|(apply wD;first|(refine wE ⟨?_,?_⟩;· kernel_rfl)|apply wE))|((with_reducible first|apply wF|apply wG);refine wH rfl ?_)))
    refine AW.ret (retQA ty_ok rfl rfl rfl ?_)
    rfl
  have hc := Cf.ok h0
  rw [h0] at hCS
  skip;(repeat(first|(with_reducible first|apply wA|apply wB|apply wC|(apply wD;first|(refine wE ⟨?_,?_⟩;· kernel_rfl)|apply wE)))); refine wF ?_;refine wH rfl ?_;(repeat(first|(with_reducible first|apply wA|apply wB|apply wC|(apply wD;first|(refine wE ⟨?_,?_⟩;· kernel_rfl)|apply wE))))
  refine AW.text ?_
  refine wH rfl ?_
  refine RG.callS rfl rfl rfl rfl rfl hCS rfl rfl ?_
  by_cases g1 : V < 0
  · have e : ¬ stampE c s V = 0 := by rw [stampE, if_pos h0, if_pos (.inl g1)]; decide
    rw [decide_eq_false e]
    refine RG.runO ty_ok 0 [(15, .b true)] 400 rfl (by repeat' (first|exact trivial|apply And.intro|exact dT ‹_›|exact dF ‹_›|exact dN ‹_›|exact dM ‹_›|exact dI ‹_›)) ?_
    skip;(repeat(first|(with_reducible first|apply wA|apply wB|apply wC|(apply wD;first|(refine wE ⟨?_,?_⟩;· kernel_rfl)|apply wE)))); refine AW.condT rfl ?_; skip;(repeat(first|(with_reducible first|apply wA|apply wB|apply wC|(apply wD;first|(refine wE ⟨?_,?_⟩;· kernel_rfl)|apply wE))|((with_reducible first|apply wF|apply wG);refine wH rfl ?_)))
    refine AW.ret (retQA ty_ok rfl rfl rfl ?_)
    rfl
  by_cases g2 : V > 255
  · have e : ¬ stampE c s V = 0 := by rw [stampE, if_pos h0, if_pos (.inr g2)]; decide
    rw [decide_eq_false e]
    refine RG.runO ty_ok 0 [(15, .b false), (19, .b true)] 400 rfl (by repeat' (first|exact trivial|apply And.intro|exact dT ‹_›|exact dF ‹_›|exact dN ‹_›|exact dM ‹_›|exact dI ‹_›)) ?_
    skip;(repeat(first|(with_reducible first|apply wA|apply wB|apply wC|(apply wD;first|(refine wE ⟨?_,?_⟩;· kernel_rfl)|apply wE)))); refine AW.condT rfl ?_; skip;(repeat(first|(with_reducible first|apply wA|apply wB|apply wC|(apply wD;first|(refine wE ⟨?_,?_⟩;· kernel_rfl)|apply wE))|((with_reducible first|apply wF|apply wG);refine wH rfl ?_)))
    refine AW.ret (retQA ty_ok rfl rfl rfl ?_)
    rfl
  refine RG.runO ty_ok 0 [(15, .b false), (19, .b false)] 400 rfl (by repeat' (first|exact trivial|apply And.intro|exact dT ‹_›|exact dF ‹_›|exact dN ‹_›|exact dM ‹_›|exact dI ‹_›)) ?_
  by_cases g3 : edgeOf c.topo.ports s < 0
  · have hs : ¬ s ∈ edges c.topo.ports := fun hs => by
      have := (edgeOf_iff hc.topo).2 hs
      omega
    have e : ¬ stampE c s V = 0 := by rw [stampE, if_pos h0, if_neg (by omega), if_neg hs]; decide
    rw [decide_eq_false e]
    refine RG.callS rfl rfl rfl rfl rfl (d_Edge c.topo.ports s) rfl rfl ?_
    refine RG.runO ty_ok 0 [(26, .b true)] 400 rfl (by repeat' (first|exact trivial|apply And.intro|exact dT ‹_›|exact dF ‹_›|exact dN ‹_›|exact dM ‹_›|exact dI ‹_›)) ?_
    skip;(repeat(first|(with_reducible first|apply wA|apply wB|apply wC|(apply wD;first|(refine wE ⟨?_,?_⟩;· kernel_rfl)|apply wE)))); refine AW.condT rfl ?_; skip;(repeat(first|(with_reducible first|apply wA|apply wB|apply wC|(apply wD;first|(refine wE ⟨?_,?_⟩;· kernel_rfl)|apply wE))|((with_reducible first|apply wF|apply wG);refine wH rfl ?_)))
    refine AW.ret (retQA ty_ok rfl rfl rfl ?_)
    rfl
  · have hs : s ∈ edges c.topo.ports := (edgeOf_iff hc.topo).1 (by omega)
    have e : stampE c s V = 0 := by rw [stampE, if_pos h0, if_neg (by omega), if_pos hs]
    rw [decide_eq_true e]
    obtain ⟨v, rfl⟩ : ∃ v : Nat, V = v := ⟨V.toNat, by omega⟩
    refine RG.callS rfl rfl rfl rfl rfl (d_Edge c.topo.ports s) rfl rfl ?_
    refine RG.runO ty_ok 0 [(26, .b false)] 400 rfl (by repeat' (first|exact trivial|apply And.intro|exact dT ‹_›|exact dF ‹_›|exact dN ‹_›|exact dM ‹_›|exact dI ‹_›)) ?_
    skip;(repeat(first|(with_reducible first|apply wA|apply wB|apply wC|(apply wD;first|(refine wE ⟨?_,?_⟩;· kernel_rfl)|apply wE)))); refine AW.condF rfl ?_; skip;(repeat(first|(with_reducible first|apply wA|apply wB|apply wC|(apply wD;first|(refine wE ⟨?_,?_⟩;· kernel_rfl)|apply wE))|((with_reducible first|apply wF|apply wG);refine wH rfl ?_)))
    refine RG.callMS rfl rfl rfl rfl rfl rfl (d_rRun c hc s hs h v 10800 (by omega) (by decide)) rfl ?_; refine wH rfl ?_;(repeat(first|(with_reducible first|apply wA|apply wB|apply wC|(apply wD;first|(refine wE ⟨?_,?_⟩;· kernel_rfl)|apply wE))|((with_reducible first|apply wF|apply wG);refine wH rfl ?_)))
    refine AW.ret (retQA ty_ok rfl rfl rfl ?_)
    rfl
end Go.Proofs.YtahjjfhjjbgjaaaGreat.Sm
end
section
namespace Go.Proofs.YtahjjfhjjbgjaaaGreat.Sm
open Go.RowKit
theorem d_awake16 : PDoes Tryz.prog 47 [] (.b true) := by
 refine PDoes.of_bodyN Tryz.func47 rfl (by kernel_rfl) rfl rfl ?_
 have hJ := d_JudgeC badD 0 _ badD_looks rfl (by kernel_rfl) rfl
 have e1 : holdsB badD 0 (judgeOf badD 0 (insS (askedOf badD 0))) = true := by kernel_rfl
 have e2 : holdsB badD 0 { judgeOf badD 0 (insS (askedOf badD 0)) with why := 3 } = false := by kernel_rfl
 have e3 : holdsB badD 0 (vdE 1 0) = false := by kernel_rfl
 have e4 : traceB badD (judgeOf badD 0 (insS (askedOf badD 0))).fro (judgeOf badD 0 (insS (askedOf badD 0))).head 0 (judgeOf badD 0 (insS (askedOf badD 0))).run = true := by kernel_rfl
 generalize judgeOf badD 0 (insS (askedOf badD 0)) = v at hJ e1 e2 e4
 have h1 := d_Holds badD 0 v
 have h2 := d_Holds badD 0 { v with why := 3 }
 have h3 := d_Holds badD 0 (vdE 1 0)
 have h4 := d_Trace badD v.fro v.head 0 v.run
 rw [e1] at h1
 rw [e2] at h2
 rw [e3] at h3
 rw [e4] at h4
 skip;(repeat(first|(with_reducible first|apply wA|apply wB|apply wC|(apply wD;first|(refine wE ⟨?_,?_⟩;· kernel_rfl)|apply wE))|((with_reducible first|apply wF|apply wG);refine wH rfl ?_)))
 refine RG.ownN [] [(300, 310), (301, 311), (302, 312), (24, 324), (30, 330), (12, 313)] m_line16 rfl rfl rfl rfl rfl rfl rfl rfl rfl rfl ?_
 refine wH rfl ?_;(repeat(first|(with_reducible first|apply wA|apply wB|apply wC|(apply wD;first|(refine wE ⟨?_,?_⟩;· kernel_rfl)|apply wE))|((with_reducible first|apply wF|apply wG);refine wH rfl ?_)))
 refine RG.opS rfl (op_indexRef 0 rfl (tab_ok ty_ok rfl) rfl (tab_ok ty_ok rfl) rfl rfl rfl rfl (by decide)) rfl ?_
 refine wH rfl ?_
 refine RG.opS rfl (op_indexRef 0 rfl (tab_ok ty_ok rfl) rfl (tab_ok ty_ok rfl) rfl rfl rfl rfl (by decide)) rfl ?_
 refine wH rfl ?_
 refine RG.opS rfl (op_indexRef 0 rfl (tab_ok ty_ok rfl) rfl (tab_ok ty_ok rfl) rfl rfl rfl rfl (by decide)) rfl ?_
 refine wH rfl ?_
 refine RG.opS rfl (op_sliceR (h := 1) rfl (tab_ok ty_ok rfl) rfl (tab_ok ty_ok rfl) rfl rfl .no (.at_ rfl) (by decide)) rfl ?_
 refine wH rfl ?_
 refine RG.opS rfl (op_indexRef 0 rfl (tab_ok ty_ok rfl) rfl (tab_ok ty_ok rfl) rfl rfl rfl rfl (by decide)) rfl ?_
 refine wH rfl ?_; skip;(repeat(first|(with_reducible first|apply wA|apply wB|apply wC|(apply wD;first|(refine wE ⟨?_,?_⟩;· kernel_rfl)|apply wE))))
 refine AW.freeze [310, 311, 312, 324, 330, 313] [(1, .own 1 0 0)] [(1, ⟨0, some (.box 31 (cCf badD))⟩)] ⟨.rn (Rn.ownIs rfl rfl rfl), trivial⟩ ⟨.boxL rfl ⟨.fzA rfl rfl rfl, RnF.is rfl rfl, RnF.is rfl rfl, RnF.is rfl rfl, .fzA rfl rfl rfl, trivial⟩ rfl, trivial⟩ rfl ?_
 skip;(repeat(first|(with_reducible first|apply wA|apply wB|apply wC|(apply wD;first|(refine wE ⟨?_,?_⟩;· kernel_rfl)|apply wE))|((with_reducible first|apply wF|apply wG);refine wH rfl ?_)))
 refine RG.callMS rfl rfl rfl rfl rfl rfl hJ rfl ?_; refine wH rfl ?_;(repeat(first|(with_reducible first|apply wA|apply wB|apply wC|(apply wD;first|(refine wE ⟨?_,?_⟩;· kernel_rfl)|apply wE))|((with_reducible first|apply wF|apply wG);refine wH rfl ?_)))
 refine RG.callS rfl rfl rfl rfl rfl h1 rfl rfl ?_; refine wH rfl ?_;(repeat(first|(with_reducible first|apply wA|apply wB|apply wC|(apply wD;first|(refine wE ⟨?_,?_⟩;· kernel_rfl)|apply wE))|((with_reducible first|apply wF|apply wG);refine wH rfl ?_)))
 refine RG.callS rfl rfl rfl rfl rfl h2 rfl rfl ?_
 refine wH rfl ?_
 refine RG.callS rfl rfl rfl rfl rfl h3 rfl rfl ?_
 refine wH rfl ?_
 refine RG.callS rfl rfl rfl rfl rfl h4 rfl rfl ?_; refine wH rfl ?_;(repeat(first|(with_reducible first|apply wA|apply wB|apply wC|(apply wD;first|(refine wE ⟨?_,?_⟩;· kernel_rfl)|apply wE))|((with_reducible first|apply wF|apply wG);refine wH rfl ?_)))
 refine AW.ret (retQA ty_ok rfl rfl rfl ?_)
 rfl
theorem ProofTraces_d (c : Cf) (s : Sp) (h : Hd) (V : Int) (r : Run) : PDoes Tryz.prog 16 [.agg (cCf c), .agg (cSp s), .agg (cHd h), .i .i64 V, .agg (cRun r)] (.b true) := by
 refine PDoes.of_bodyN Tryz.func16 rfl (by kernel_rfl) rfl rfl ?_
 have hR := d_run16 c s h V
 have hT := d_Trace c s h V r
 by_cases e : stampE c s V = 0
 rotate_left
 ·rw [decide_eq_false e, cond_false] at hR
  have e1 : traceB c s h V r = false := by
   rw [Bool.eq_false_iff]
   exact fun H => e (traceB_iff.1 H).1
  rw [e1] at hT
  skip;(repeat(first|(with_reducible first|apply wA|apply wB|apply wC|(apply wD;first|(refine wE ⟨?_,?_⟩;· kernel_rfl)|apply wE))|((with_reducible first|apply wF|apply wG);refine wH rfl ?_)))
  refine RG.callMS rfl rfl rfl rfl rfl rfl hR rfl ?_; refine wH rfl ?_;(repeat(first|(with_reducible first|apply wA|apply wB|apply wC|(apply wD;first|(refine wE ⟨?_,?_⟩;· kernel_rfl)|apply wE))|((with_reducible first|apply wF|apply wG);refine wH rfl ?_)))
  refine AW.condF rfl ?_; skip;(repeat(first|(with_reducible first|apply wA|apply wB|apply wC|(apply wD;first|(refine wE ⟨?_,?_⟩;· kernel_rfl)|apply wE))|((with_reducible first|apply wF|apply wG);refine wH rfl ?_)))
  refine RG.callS rfl rfl rfl rfl rfl d_awake16 rfl rfl ?_
  refine wH rfl ?_
  refine RG.callS rfl rfl rfl rfl rfl hT rfl rfl ?_; refine wH rfl ?_;(repeat(first|(with_reducible first|apply wA|apply wB|apply wC|(apply wD;first|(refine wE ⟨?_,?_⟩;· kernel_rfl)|apply wE))|((with_reducible first|apply wF|apply wG);refine wH rfl ?_)))
  refine AW.ret (retQA ty_ok rfl rfl rfl ?_)
  rfl
 rw [decide_eq_true e, cond_true] at hR
 have hW := d_Trace c s h V (runOf c s h V 10800)
 rw [traceB_iff.2 ⟨e, rfl⟩] at hW
 have e1 : traceB c s h V r = runEq r (runOf c s h V 10800) := by
  rw [Bool.eq_iff_iff, traceB_iff, runEq_iff]
  exact ⟨fun H => H.2, fun H => ⟨e, H⟩⟩
 generalize runOf c s h V 10800 = w at hR hW e1
 rw [e1] at hT
 have hS := d_rSame r w _ rfl
 skip;(repeat(first|(with_reducible first|apply wA|apply wB|apply wC|(apply wD;first|(refine wE ⟨?_,?_⟩;· kernel_rfl)|apply wE))|((with_reducible first|apply wF|apply wG);refine wH rfl ?_)))
 refine RG.callMS rfl rfl rfl rfl rfl rfl hR rfl ?_; refine wH rfl ?_;(repeat(first|(with_reducible first|apply wA|apply wB|apply wC|(apply wD;first|(refine wE ⟨?_,?_⟩;· kernel_rfl)|apply wE))|((with_reducible first|apply wF|apply wG);refine wH rfl ?_)))
 refine RG.callS rfl rfl rfl rfl rfl hW rfl rfl ?_
 refine wH rfl ?_; skip;(repeat(first|(with_reducible first|apply wA|apply wB|apply wC|(apply wD;first|(refine wE ⟨?_,?_⟩;· kernel_rfl)|apply wE))))
 refine AW.condF rfl ?_; skip;(repeat(first|(with_reducible first|apply wA|apply wB|apply wC|(apply wD;first|(refine wE ⟨?_,?_⟩;· kernel_rfl)|apply wE))|((with_reducible first|apply wF|apply wG);refine wH rfl ?_)))
 refine RG.callS rfl rfl rfl rfl rfl d_awake16 rfl rfl ?_
 refine wH rfl ?_
 cases hq : runEq r w
 ·rw [hq] at hT hS
  refine RG.callS rfl rfl rfl rfl rfl hT rfl rfl ?_
  refine wH rfl ?_
  refine RG.callS rfl rfl rfl rfl rfl hS rfl rfl ?_; refine wH rfl ?_;(repeat(first|(with_reducible first|apply wA|apply wB|apply wC|(apply wD;first|(refine wE ⟨?_,?_⟩;· kernel_rfl)|apply wE))|((with_reducible first|apply wF|apply wG);refine wH rfl ?_)))
  refine AW.ret (retQA ty_ok rfl rfl rfl ?_)
  rfl
 ·rw [hq] at hT hS
  refine RG.callS rfl rfl rfl rfl rfl hT rfl rfl ?_
  refine wH rfl ?_
  refine RG.callS rfl rfl rfl rfl rfl hS rfl rfl ?_; refine wH rfl ?_;(repeat(first|(with_reducible first|apply wA|apply wB|apply wC|(apply wD;first|(refine wE ⟨?_,?_⟩;· kernel_rfl)|apply wE))|((with_reducible first|apply wF|apply wG);refine wH rfl ?_)))
  refine AW.ret (retQA ty_ok rfl rfl rfl ?_)
  rfl
end Go.Proofs.YtahjjfhjjbgjaaaGreat.Sm
end
section
namespace Go.Proofs.YtahjjfhjjbgjaaaGreat
open Go.RowKit Go.WideShapes Go.ChangeShapes Go.Deep Sm
theorem ProofTraces_law {H : Type} {e : TypeId × Value → H} (W : World) (b0 : Nat)
  (v0 : Value) (d0 : DataW H) (p0 : List MemPlace) (ok0 : Value.okWide Tryz.prog W .any b0 31 v0) (h0 : DataW.Trod e Tryz.prog W 0 (fun _ => true) true 31 v0 d0 p0)
  (v1 : Value) (d1 : DataW H) (p1 : List MemPlace) (ok1 : Value.okWide Tryz.prog W .any b0 33 v1) (h1 : DataW.Trod e Tryz.prog W 0 (fun _ => true) true 33 v1 d1 p1)
  (v2 : Value) (d2 : DataW H) (p2 : List MemPlace) (ok2 : Value.okWide Tryz.prog W .any b0 36 v2) (h2 : DataW.Trod e Tryz.prog W 0 (fun _ => true) true 36 v2 d2 p2)
  (v3 : Value) (d3 : DataW H) (p3 : List MemPlace) (ok3 : Value.okWide Tryz.prog W .any b0 3 v3) (h3 : DataW.Trod e Tryz.prog W 0 (fun _ => true) true 3 v3 d3 p3)
  (v4 : Value) (d4 : DataW H) (p4 : List MemPlace) (ok4 : Value.okWide Tryz.prog W .any b0 46 v4) (h4 : DataW.Trod e Tryz.prog W 0 (fun _ => true) true 46 v4 d4 p4)
  : Calls Tryz.prog 16 #[v0, v1, v2, v3, v4] W fun e W' => e = .returned (.bool true) ∧ Kp No W W' := by
 obtain ⟨a0, r0⟩ := ra_Cf.arg_struct Tryz.underlying31 ok0 h0
 obtain ⟨a1, r1⟩ := ra_Sp.arg_struct Tryz.underlying33 ok1 h1
 obtain ⟨a2, r2⟩ := ra_Hd.arg_struct Tryz.underlying36 ok2 h2
 obtain ⟨a3, r3⟩ := ra_int.arg_int Tryz.underlying3 ok3 h3
 obtain ⟨a4, r4⟩ := ra_Run.arg_struct Tryz.underlying46 ok4 h4
 exact (ProofTraces_d a0 a1 a2 a3 a4).law (vs := [v0, v1, v2, v3, v4]) rfl (pw_cons r0 (pw_cons r1 (pw_cons r2 (pw_cons r3 (pw_cons r4 (pw_nil))))))
end Go.Proofs.YtahjjfhjjbgjaaaGreat
end
section
namespace Go.Proofs.YtahjjfhjjbgjaaaGreat.Sm
open Go.RowKit
theorem ReadA.u16 {P : Program} {t : TypeId} (ht : P.underlying t = some (.int .u16)) : ReadA P t 1 (fun x : UInt16 => [.i .u16 (x.toNat : Nat)]) :=
  ⟨fun _ => rfl, fun _ y hy => by obtain rfl := List.mem_singleton.1 hy; rfl, fun H e w base spare held fuel cs x hx => by
    obtain ⟨n, rfl, _, hw⟩ := DataW.trod_int ht hx
    have h : 0 ≤ n ∧ n ≤ 65535 := by simpa [Lit.wf, IntKind.min, IntKind.max, IntKind.signed, IntKind.bits] using hw
    obtain ⟨y, rfl⟩ : ∃ y : UInt16, n = (y.toNat : Nat) := ⟨UInt16.ofNat n.toNat, by rw [UInt16.toNat_ofNat']; omega⟩
    exact ⟨y, .single (.i _ _) rfl⟩⟩
theorem ra_u16 : ReadA Tryz.prog 99 1 (fun x : UInt16 => [.i .u16 (x.toNat : Nat)]) := .u16 Tryz.underlying99
theorem op_remN {P : Program} {N : Nat} {o : Oper} {s : St} (a b : Nat) (hb : 0 < b) {t yt : TypeId} {x y : Operand} {k : IntKind} (ho : o.op = .binOp .rem t x y yt) (hx : s.ev x = .i k (a : Nat)) (hy : s.ev y = .i k (b : Nat)) : OpLoc P N o s ⟨.i k ((a % b : Nat) : Int), [], []⟩ := by
 refine op_bin ho ?_
 rw [hx, hy]
 show (if k = k then binI k .rem a b else none) = _
 rw [if_pos rfl]
 show cond (decide ((b : Int) = 0)) none (some (AV.i k ((a : Int).tmod b))) = _
 rw [decide_eq_false (by omega)]
 rfl
theorem goF_fin {c : Cf} : ∀ (f n t : Nat) (h : Hd) (pre : List Hop), 1 ≤ (goF c f n t h pre).fin ∧ (goF c f n t h pre).fin ≤ 4
 | 0, n, t, h, pre => by rw [goF]; exact ⟨by dsimp only; decide, by dsimp only; decide⟩
 | f + 1, n, t, h, pre => by
  rw [goF]
  split
  ·exact ⟨by dsimp only; decide, by dsimp only; decide⟩
  split
  ·exact goF_fin f _ _ _ _
  split
  ·exact goF_fin f _ _ _ _
  split
  ·exact ⟨by dsimp only; decide, by dsimp only; decide⟩
  ·exact ⟨by dsimp only; decide, by dsimp only; decide⟩
theorem goF_most {c : Cf} : ∀ (f n t : Nat) (h : Hd) (pre : List Hop), (goF c f n t h pre).hops.length ≤ pre.length + f
 | 0, n, t, h, pre => by rw [goF]; exact Nat.le_refl _
 | f + 1, n, t, h, pre => by
  rw [goF]
  split
  ·simp only [List.length_append, List.length_singleton]; omega
  split
  ·refine Nat.le_trans (goF_most f _ _ _ _) ?_
   simp only [List.length_append, List.length_singleton]; omega
  split
  ·refine Nat.le_trans (goF_most f _ _ _ _) ?_
   simp only [List.length_append, List.length_singleton]; omega
  split
  ·simp only [List.length_append, List.length_singleton]; omega
  ·simp only [List.length_append, List.length_singleton]; omega
theorem traceB_no {c : Cf} {s : Sp} {h : Hd} {V : Int} {r w : Run} (hw : w = runOf c s h V 10800) (hn : r ≠ w) : traceB c s h V r = false := by
 rw [Bool.eq_false_iff]
 exact fun H => hn ((traceB_iff.1 H).2.trans hw.symm)
def verI (v : UInt8) : Int := IntKind.i64.wrap (v.toNat : Int)
theorem rowAllN {X : List (List AV)} {n : Nat} (h : n = X.length) : AV.sl (List.take n (List.drop 0 X)) = .sl X := by
 rw [List.drop_zero, h, List.take_length]
theorem finN {n : Int} (h1 : 1 ≤ n) (h2 : n ≤ 4) : IntKind.i64.wrap (n.tmod 4 + 1) ≠ n := by
 have : n = 1 ∨ n = 2 ∨ n = 3 ∨ n = 4 := by omega
 rcases this with rfl | rfl | rfl | rfl <;> decide
theorem ProofSpoilt_d (c : Cf) (s : Sp) (h : Hd) (version how : UInt8) (at_ : UInt16) (x : Hop) : PDoes Tryz.prog 17 [.agg (cCf c), .agg (cSp s), .agg (cHd h), .y version, .y how, .i .u16 (at_.toNat : Nat), .agg (cHop x)] (.b true) := by
  refine PDoes.of_bodyN Tryz.func17 rfl (by kernel_rfl) rfl rfl ?_
  have hA : IntKind.i64.wrap ((at_.toNat : Nat) : Int) = (at_.toNat : Nat) := by
    have := at_.toNat_lt
    rw [IntKind.wrap_i64]
    omega
  have hR := d_run16 c s h (verI version)
  skip;(repeat(first|(with_reducible first|apply wA|apply wB|apply wC|(apply wD;first|(refine wE ⟨?_,?_⟩;· kernel_rfl)|apply wE))|((with_reducible first|apply wF|apply wG);refine wH rfl ?_)))
  by_cases e : stampE c s (verI version) = 0
  rotate_left
  · rw [decide_eq_false e, cond_false] at hR
    refine RG.callMS rfl rfl rfl rfl rfl rfl hR rfl ?_; refine wH rfl ?_;(repeat(first|(with_reducible first|apply wA|apply wB|apply wC|(apply wD;first|(refine wE ⟨?_,?_⟩;· kernel_rfl)|apply wE))|((with_reducible first|apply wF|apply wG);refine wH rfl ?_)))
    refine RG.callS rfl rfl rfl rfl rfl d_awake16 rfl rfl ?_; refine wH rfl ?_;(repeat(first|(with_reducible first|apply wA|apply wB|apply wC|(apply wD;first|(refine wE ⟨?_,?_⟩;· kernel_rfl)|apply wE))|((with_reducible first|apply wF|apply wG);refine wH rfl ?_)))
    refine AW.condT rfl ?_; skip;(repeat(first|(with_reducible first|apply wA|apply wB|apply wC|(apply wD;first|(refine wE ⟨?_,?_⟩;· kernel_rfl)|apply wE))|((with_reducible first|apply wF|apply wG);refine wH rfl ?_)))
    refine RG.callS rfl rfl rfl rfl rfl d_awake16 rfl rfl ?_; refine wH rfl ?_;(repeat(first|(with_reducible first|apply wA|apply wB|apply wC|(apply wD;first|(refine wE ⟨?_,?_⟩;· kernel_rfl)|apply wE))|((with_reducible first|apply wF|apply wG);refine wH rfl ?_)))
    refine AW.ret (retQA ty_ok rfl rfl rfl ?_)
    rfl
  rw [decide_eq_true e, cond_true] at hR
  have f1 : 1 ≤ (runOf c s h (verI version) 10800).fin ∧ (runOf c s h (verI version) 10800).fin ≤ 4 := goF_fin _ _ _ _ _
  have f2 : (runOf c s h (verI version) 10800).hops.length ≤ 10800 := Nat.le_trans (goF_most _ _ _ _ _) (by simp)
  have f3 : 1 ≤ (runOf c s h (verI version) 10800).hops.length := by
    obtain ⟨m, hm⟩ := goF_one (c := c) (f := 10799) (n := s.sw.toNat) (t := 0) (h := h.set (stampOf c s (verI version))) (pre := [])
    rw [runOf, hm]
    simp
  generalize hw : runOf c s h (verI version) 10800 = w at hR f1 f2 f3
  have hT : ∀ r : Run, r ≠ w → PDoes Tryz.prog 46 [.agg (cCf c), .agg (cSp s), .agg (cHd h), .i .i64 (verI version), .agg (cRun r)] (.b false) := fun r hn => by
    have := d_Trace c s h (verI version) r
    rw [traceB_no hw.symm hn] at this
    exact this
  have hml : (w.hops.map cHop).length = w.hops.length := List.length_map ..
  refine RG.callMS rfl rfl rfl rfl rfl rfl hR rfl ?_; refine wH rfl ?_;(repeat(first|(with_reducible first|apply wA|apply wB|apply wC|(apply wD;first|(refine wE ⟨?_,?_⟩;· kernel_rfl)|apply wE))|((with_reducible first|apply wF|apply wG);refine wH rfl ?_)))
  refine RG.callS rfl rfl rfl rfl rfl d_awake16 rfl rfl ?_; refine wH rfl ?_;(repeat(first|(with_reducible first|apply wA|apply wB|apply wC|(apply wD;first|(refine wE ⟨?_,?_⟩;· kernel_rfl)|apply wE))|((with_reducible first|apply wF|apply wG);refine wH rfl ?_)))
  refine AW.condF rfl ?_; skip;(repeat(first|(with_reducible first|apply wA|apply wB|apply wC|(apply wD;first|(refine wE ⟨?_,?_⟩;· kernel_rfl)|apply wE))|((with_reducible first|apply wF|apply wG);refine wH rfl ?_)))
  refine RG.opS rfl (op_build0 (id := 35) rfl (tab_ok ty_ok rfl) rfl (tab_ok ty_ok rfl)) rfl ?_; refine wH rfl ?_;(repeat(first|(with_reducible first|apply wA|apply wB|apply wC|(apply wD;first|(refine wE ⟨?_,?_⟩;· kernel_rfl)|apply wE))|((with_reducible first|apply wF|apply wG);refine wH rfl ?_)))
  refine RG.opS rfl (op_appL cHop ([] : List Hop) w.hops (by simp; omega) (fun _ => rfl) rfl rfl rfl rfl (tab_ok ty_ok rfl) rfl (tab_ok ty_ok rfl) rfl rfl ⟨_, rfl, rfl⟩ rfl) rfl ?_
  refine wH rfl ?_; skip;(repeat(first|(with_reducible first|apply wA|apply wB|apply wC|(apply wD;first|(refine wE ⟨?_,?_⟩;· kernel_rfl)|apply wE))))
  refine AW.text ?_
  refine RG.runO ty_ok 0 [(40, .i .i64 (at_.toNat : Nat))] 4 rfl ⟨congrArg (AV.i .i64) hA, trivial⟩ ?_
  refine RG.opS rfl (op_remN at_.toNat (w.hops.map cHop).length (by omega) rfl rfl rfl) rfl ?_
  have hk : at_.toNat % (w.hops.map cHop).length < w.hops.length := by rw [hml]; exact Nat.mod_lt _ (by omega)
  generalize at_.toNat % (w.hops.map cHop).length = k at hk
  refine wH rfl ?_;(repeat(first|(with_reducible first|apply wA|apply wB|apply wC|(apply wD;first|(refine wE ⟨?_,?_⟩;· kernel_rfl)|apply wE))|((with_reducible first|apply wF|apply wG);refine wH rfl ?_)))
  refine AW.cond rfl (fun _ => ?_) (fun _ => ?_)
  · obtain ⟨y, hy⟩ : ∃ y, w.hops[k]? = some y := ⟨_, List.getElem?_eq_getElem hk⟩
    skip;(repeat(first|(with_reducible first|apply wA|apply wB|apply wC|(apply wD;first|(refine wE ⟨?_,?_⟩;· kernel_rfl)|apply wE))))
    refine AW.draws mixed_ok ?_
    refine wH rfl ?_
    refine RG.opS rfl (op_indexR0 k cHop w.hops (by rw [List.length_map]; exact hk) rfl (tab_ok ty_ok rfl) rfl (tab_ok ty_ok rfl) rfl rfl rfl) rfl ?_
    refine RG.opS rfl (op_loadRow k cHop w.hops y hy rfl (tab_ok ty_ok rfl) rfl rfl rfl) rfl ?_
    refine wH rfl ?_
    by_cases g : y = x
    · refine RG.opS rfl (op_eqG rfl ty_ok (by kernel_rfl) (by kernel_rfl) rfl rfl (eq_Hop y x) (decide_eq_true g)) rfl ?_
      refine wH rfl ?_;(repeat(first|(with_reducible first|apply wA|apply wB|apply wC|(apply wD;first|(refine wE ⟨?_,?_⟩;· kernel_rfl)|apply wE))|((with_reducible first|apply wF|apply wG);refine wH rfl ?_)))
      refine AW.condT rfl ?_; skip;(repeat(first|(with_reducible first|apply wA|apply wB|apply wC|(apply wD;first|(refine wE ⟨?_,?_⟩;· kernel_rfl)|apply wE))|((with_reducible first|apply wF|apply wG);refine wH rfl ?_)))
      refine AW.ret (retQA ty_ok rfl rfl rfl ?_)
      rfl
    refine RG.opS rfl (op_eqG rfl ty_ok (by kernel_rfl) (by kernel_rfl) rfl rfl (eq_Hop y x) (decide_eq_false g)) rfl ?_
    refine wH rfl ?_;(repeat(first|(with_reducible first|apply wA|apply wB|apply wC|(apply wD;first|(refine wE ⟨?_,?_⟩;· kernel_rfl)|apply wE))|((with_reducible first|apply wF|apply wG);refine wH rfl ?_)))
    refine AW.condF rfl ?_; skip;(repeat(first|(with_reducible first|apply wA|apply wB|apply wC|(apply wD;first|(refine wE ⟨?_,?_⟩;· kernel_rfl)|apply wE))|((with_reducible first|apply wF|apply wG);refine wH rfl ?_)))
    refine RG.opS rfl (op_indexR0 k cHop w.hops (by rw [List.length_map]; exact hk) rfl (tab_ok ty_ok rfl) rfl (tab_ok ty_ok rfl) rfl rfl rfl) rfl ?_
    refine RG.opS rfl (op_storeRow k cHop w.hops x hk rfl (tab_ok ty_ok rfl) rfl rfl rfl rfl rfl (fun _ => rfl)) rfl ?_
    refine wH rfl ?_;(repeat(first|(with_reducible first|apply wA|apply wB|apply wC|(apply wD;first|(refine wE ⟨?_,?_⟩;· kernel_rfl)|apply wE))|((with_reducible first|apply wF|apply wG);refine wH rfl ?_)))
    refine RG.callS rfl rfl rfl rfl (congrArg (fun x => [AV.agg (cCf c), .agg (cSp s), .agg (cHd h), .i .i64 (verI version), .agg [.i .i64 (w.fin), .i .i64 w.at_.sw, .i .i64 w.at_.port, x]]) (rowAllN (by simp))) (hT ⟨w.fin, w.at_, w.hops.set k x⟩ (fun hq => g (by have := congrArg (fun r => r.hops[k]?) hq; simp only [List.getElem?_set_self hk, hy] at this; exact (Option.some.inj this).symm))) rfl rfl ?_; refine wH rfl ?_;(repeat(first|(with_reducible first|apply wA|apply wB|apply wC|(apply wD;first|(refine wE ⟨?_,?_⟩;· kernel_rfl)|apply wE))|((with_reducible first|apply wF|apply wG);refine wH rfl ?_)))
    refine AW.ret (retQA ty_ok rfl rfl rfl ?_)
    rfl
  skip;(repeat(first|(with_reducible first|apply wA|apply wB|apply wC|(apply wD;first|(refine wE ⟨?_,?_⟩;· kernel_rfl)|apply wE))|((with_reducible first|apply wF|apply wG);refine wH rfl ?_)))
  refine AW.cond rfl (fun _ => ?_) (fun _ => ?_)
  · skip;(repeat(first|(with_reducible first|apply wA|apply wB|apply wC|(apply wD;first|(refine wE ⟨?_,?_⟩;· kernel_rfl)|apply wE))|((with_reducible first|apply wF|apply wG);refine wH rfl ?_)))
    refine RG.opS rfl (op_app1 cHop w.hops x (by omega) rfl rfl rfl rfl (tab_ok ty_ok rfl) rfl (tab_ok ty_ok rfl) rfl rfl ⟨_, rfl, rfl⟩ rfl rfl) rfl ?_; refine wH rfl ?_;(repeat(first|(with_reducible first|apply wA|apply wB|apply wC|(apply wD;first|(refine wE ⟨?_,?_⟩;· kernel_rfl)|apply wE))|((with_reducible first|apply wF|apply wG);refine wH rfl ?_)))
    refine RG.callS rfl rfl rfl rfl (congrArg (fun x => [AV.agg (cCf c), .agg (cSp s), .agg (cHd h), .i .i64 (verI version), .agg [.i .i64 (w.fin), .i .i64 w.at_.sw, .i .i64 w.at_.port, x]]) (rowAll rfl)) (hT ⟨w.fin, w.at_, w.hops ++ [x]⟩ (fun hq => (by have := congrArg (fun r => r.hops.length) hq; simp at this))) rfl rfl ?_; refine wH rfl ?_;(repeat(first|(with_reducible first|apply wA|apply wB|apply wC|(apply wD;first|(refine wE ⟨?_,?_⟩;· kernel_rfl)|apply wE))|((with_reducible first|apply wF|apply wG);refine wH rfl ?_)))
    refine AW.ret (retQA ty_ok rfl rfl rfl ?_)
    rfl
  skip;(repeat(first|(with_reducible first|apply wA|apply wB|apply wC|(apply wD;first|(refine wE ⟨?_,?_⟩;· kernel_rfl)|apply wE))|((with_reducible first|apply wF|apply wG);refine wH rfl ?_)))
  refine AW.cond rfl (fun _ => ?_) (fun _ => ?_)
  · skip;(repeat(first|(with_reducible first|apply wA|apply wB|apply wC|(apply wD;first|(refine wE ⟨?_,?_⟩;· kernel_rfl)|apply wE))|((with_reducible first|apply wF|apply wG);refine wH rfl ?_)))
    refine RG.opS rfl (op_sliceR (h := k) rfl (tab_ok ty_ok rfl) rfl (tab_ok ty_ok rfl) rfl rfl .no (.at_ rfl) (by rw [List.length_map, List.nil_append]; omega)) rfl ?_
    refine wH rfl ?_;(repeat(first|(with_reducible first|apply wA|apply wB|apply wC|(apply wD;first|(refine wE ⟨?_,?_⟩;· kernel_rfl)|apply wE))|((with_reducible first|apply wF|apply wG);refine wH rfl ?_)))
    refine RG.callS rfl rfl rfl rfl (congrArg (fun x => [AV.agg (cCf c), .agg (cSp s), .agg (cHd h), .i .i64 (verI version), .agg [.i .i64 (w.fin), .i .i64 w.at_.sw, .i .i64 w.at_.port, x]]) ((show AV.sl (List.take k (List.drop 0 (w.hops.map cHop))) = .sl ((w.hops.take k).map cHop) by rw [List.drop_zero, List.map_take]))) (hT ⟨w.fin, w.at_, w.hops.take k⟩ (fun hq => (by have := congrArg (fun r => r.hops.length) hq; simp only [List.length_take] at this; omega))) rfl rfl ?_; refine wH rfl ?_;(repeat(first|(with_reducible first|apply wA|apply wB|apply wC|(apply wD;first|(refine wE ⟨?_,?_⟩;· kernel_rfl)|apply wE))|((with_reducible first|apply wF|apply wG);refine wH rfl ?_)))
    refine AW.ret (retQA ty_ok rfl rfl rfl ?_)
    rfl
  skip;(repeat(first|(with_reducible first|apply wA|apply wB|apply wC|(apply wD;first|(refine wE ⟨?_,?_⟩;· kernel_rfl)|apply wE))|((with_reducible first|apply wF|apply wG);refine wH rfl ?_)))
  refine RG.callS rfl rfl rfl rfl (congrArg (fun x => [AV.agg (cCf c), .agg (cSp s), .agg (cHd h), .i .i64 (verI version), .agg [.i .i64 (IntKind.i64.wrap (w.fin.tmod 4 + 1)), .i .i64 w.at_.sw, .i .i64 w.at_.port, x]]) (rowAll rfl)) (hT ⟨IntKind.i64.wrap (w.fin.tmod 4 + 1), w.at_, w.hops⟩ (fun hq => finN f1.1 f1.2 (congrArg Run.fin hq))) rfl rfl ?_; refine wH rfl ?_;(repeat(first|(with_reducible first|apply wA|apply wB|apply wC|(apply wD;first|(refine wE ⟨?_,?_⟩;· kernel_rfl)|apply wE))|((with_reducible first|apply wF|apply wG);refine wH rfl ?_)))
  refine AW.ret (retQA ty_ok rfl rfl rfl ?_)
  rfl
end Go.Proofs.YtahjjfhjjbgjaaaGreat.Sm
end
section
namespace Go.Proofs.YtahjjfhjjbgjaaaGreat
open Go.RowKit Go.WideShapes Go.ChangeShapes Go.Deep Sm
theorem ProofSpoilt_law {H : Type} {e : TypeId × Value → H} (W : World) (b0 : Nat)
  (v0 : Value) (d0 : DataW H) (p0 : List MemPlace) (ok0 : Value.okWide Tryz.prog W .any b0 31 v0) (h0 : DataW.Trod e Tryz.prog W 0 (fun _ => true) true 31 v0 d0 p0)
  (v1 : Value) (d1 : DataW H) (p1 : List MemPlace) (ok1 : Value.okWide Tryz.prog W .any b0 33 v1) (h1 : DataW.Trod e Tryz.prog W 0 (fun _ => true) true 33 v1 d1 p1)
  (v2 : Value) (d2 : DataW H) (p2 : List MemPlace) (ok2 : Value.okWide Tryz.prog W .any b0 36 v2) (h2 : DataW.Trod e Tryz.prog W 0 (fun _ => true) true 36 v2 d2 p2)
  (v3 : Value) (d3 : DataW H) (p3 : List MemPlace) (ok3 : Value.okWide Tryz.prog W .any b0 5 v3) (h3 : DataW.Trod e Tryz.prog W 0 (fun _ => true) true 5 v3 d3 p3)
  (v4 : Value) (d4 : DataW H) (p4 : List MemPlace) (ok4 : Value.okWide Tryz.prog W .any b0 5 v4) (h4 : DataW.Trod e Tryz.prog W 0 (fun _ => true) true 5 v4 d4 p4)
  (v5 : Value) (d5 : DataW H) (p5 : List MemPlace) (ok5 : Value.okWide Tryz.prog W .any b0 99 v5) (h5 : DataW.Trod e Tryz.prog W 0 (fun _ => true) true 99 v5 d5 p5)
  (v6 : Value) (d6 : DataW H) (p6 : List MemPlace) (ok6 : Value.okWide Tryz.prog W .any b0 94 v6) (h6 : DataW.Trod e Tryz.prog W 0 (fun _ => true) true 94 v6 d6 p6)
  : Calls Tryz.prog 17 #[v0, v1, v2, v3, v4, v5, v6] W fun e W' => e = .returned (.bool true) ∧ Kp No W W' := by
 obtain ⟨a0, r0⟩ := ra_Cf.arg_struct Tryz.underlying31 ok0 h0
 obtain ⟨a1, r1⟩ := ra_Sp.arg_struct Tryz.underlying33 ok1 h1
 obtain ⟨a2, r2⟩ := ra_Hd.arg_struct Tryz.underlying36 ok2 h2
 obtain ⟨a3, r3⟩ := ra_u8.arg_int Tryz.underlying5 ok3 h3
 obtain ⟨a4, r4⟩ := ra_u8.arg_int Tryz.underlying5 ok4 h4
 obtain ⟨a5, r5⟩ := ra_u16.arg_int Tryz.underlying99 ok5 h5
 obtain ⟨a6, r6⟩ := ra_Hop.arg_struct Tryz.underlying94 ok6 h6
 exact (ProofSpoilt_d a0 a1 a2 a3 a4 a5 a6).law (vs := [v0, v1, v2, v3, v4, v5, v6]) rfl (pw_cons r0 (pw_cons r1 (pw_cons r2 (pw_cons r3 (pw_cons r4 (pw_cons r5 (pw_cons r6 (pw_nil))))))))
end Go.Proofs.YtahjjfhjjbgjaaaGreat
end
