/- Contracts of the program's functions over data, and the plain laws that they meet (part 7). No condition. -/
import Derived.Test.YtahjjfhjjbgjaaaGreatQf
import Derived.WalkKit
import Derived.WalkSpells
import Derived.WalkLawsBesides
import Derived.Lib.Hide
import Derived.Deep.RegionHeld3
import Derived.Maps.AppendAt
import Derived.KernelRfl
import Derived.Lib.AppendStr
import Derived.Orders
import Derived.LoopTactic
import Derived.Laws.CopyRow
import Derived.Laws.Cells
import Derived.Great.BuildSlice
import Derived.Laws.ResultCell
import Derived.Laws.StructEq
import Derived.Laws.MakeOwn
import Derived.Deep.Slices
import Derived.Deep.Fields
import Derived.ChangeSame
import Derived.ProofKit
import Derived.OpenShut
import Derived.SizedLaws
import Derived.Test.YtahjjfhjjbgjaaaGreatProg
import Derived.Shelf.Spec.BitsCarry
import Derived.Lib.AppendZerosOnto
import Derived.DeepKeys4
import Derived.MapKept
set_option linter.unusedVariables false
set_option linter.unusedSimpArgs false
set_option maxRecDepth 100000
set_option maxHeartbeats 4000000
section
namespace Go.Proofs.YtahjjfhjjbgjaaaGreat.Sm
open Go.RowKit
theorem d_awake16 : PDoes Tryz.prog 47 [] (.b true) := by
 refine PDoes.of_bodyN Tryz.func47 rfl (by kernel_rfl) rfl rfl ?_
 have hJ := d_JudgeC badD 0 _ badD_looks rfl (by kernel_rfl) rfl
 have e1 : holdsB badD 0 (judgeOf badD 0 (insS (askedOf badD 0))) = true := by kernel_rfl
 have e2 : holdsB badD 0 { judgeOf badD 0 (insS (askedOf badD 0)) with why := 3 } = false := by kernel_rfl
 have e3 : holdsB badD 0 (vdE 1 0) = false := by kernel_rfl
 have e4 : traceB badD (judgeOf badD 0 (insS (askedOf badD 0))).fro (judgeOf badD 0 (insS (askedOf badD 0))).head 0 (judgeOf badD 0 (insS (askedOf badD 0))).run = true := by kernel_rfl
 generalize judgeOf badD 0 (insS (askedOf badD 0)) = v at hJ e1 e2 e4
 have h1 := d_Holds badD 0 v
 have h2 := d_Holds badD 0 { v with why := 3 }
 have h3 := d_Holds badD 0 (vdE 1 0)
 have h4 := d_Trace badD v.fro v.head 0 v.run
 rw [e1] at h1
 rw [e2] at h2
 rw [e3] at h3
 rw [e4] at h4
 skip;(repeat(first|(with_reducible first|apply wA|apply wB|apply wC|(apply wD;first|(refine wE ⟨?_,?_⟩;· kernel_rfl)|apply wE))|((with_reducible first|apply wF|apply wG);refine wH rfl ?_)))
 refine RG.ownN [] [(300, 310), (301, 311), (302, 312), (24, 324), (30, 330), (12, 313)] m_line16 rfl rfl rfl rfl rfl rfl rfl rfl rfl rfl ?_
 refine wH rfl ?_;(repeat(first|(with_reducible first|apply wA|apply wB|apply wC|(apply wD;first|(refine wE ⟨?_,?_⟩;· kernel_rfl)|apply wE))|((with_reducible first|apply wF|apply wG);refine wH rfl ?_)))
 refine RG.opS rfl (op_indexRef 0 rfl (tab_ok ty_ok rfl) rfl (tab_ok ty_ok rfl) rfl rfl rfl rfl (by decide)) rfl ?_
 refine wH rfl ?_
 refine RG.opS rfl (op_indexRef 0 rfl (tab_ok ty_ok rfl) rfl (tab_ok ty_ok rfl) rfl rfl rfl rfl (by decide)) rfl ?_
 refine wH rfl ?_
 refine RG.opS rfl (op_indexRef 0 rfl (tab_ok ty_ok rfl) rfl (tab_ok ty_ok rfl) rfl rfl rfl rfl (by decide)) rfl ?_
 refine wH rfl ?_
 refine RG.opS rfl (op_sliceR (h := 1) rfl (tab_ok ty_ok rfl) rfl (tab_ok ty_ok rfl) rfl rfl .no (.at_ rfl) (by decide)) rfl ?_
 refine wH rfl ?_
 refine RG.opS rfl (op_indexRef 0 rfl (tab_ok ty_ok rfl) rfl (tab_ok ty_ok rfl) rfl rfl rfl rfl (by decide)) rfl ?_
 refine wH rfl ?_; skip;(repeat(first|(with_reducible first|apply wA|apply wB|apply wC|(apply wD;first|(refine wE ⟨?_,?_⟩;· kernel_rfl)|apply wE))))
 refine AW.freeze [310, 311, 312, 324, 330, 313] [(1, .own 1 0 0)] [(1, ⟨0, some (.box 31 (cCf badD))⟩)] ⟨.rn (Rn.ownIs rfl rfl rfl), trivial⟩ ⟨.boxL rfl ⟨.fzA rfl rfl rfl, RnF.is rfl rfl, RnF.is rfl rfl, RnF.is rfl rfl, .fzA rfl rfl rfl, trivial⟩ rfl, trivial⟩ rfl ?_
 skip;(repeat(first|(with_reducible first|apply wA|apply wB|apply wC|(apply wD;first|(refine wE ⟨?_,?_⟩;· kernel_rfl)|apply wE))|((with_reducible first|apply wF|apply wG);refine wH rfl ?_)))
 refine RG.callMS rfl rfl rfl rfl rfl rfl hJ rfl ?_; refine wH rfl ?_;(repeat(first|(with_reducible first|apply wA|apply wB|apply wC|(apply wD;first|(refine wE ⟨?_,?_⟩;· kernel_rfl)|apply wE))|((with_reducible first|apply wF|apply wG);refine wH rfl ?_)))
 refine RG.callS rfl rfl rfl rfl rfl h1 rfl rfl ?_; refine wH rfl ?_;(repeat(first|(with_reducible first|apply wA|apply wB|apply wC|(apply wD;first|(refine wE ⟨?_,?_⟩;· kernel_rfl)|apply wE))|((with_reducible first|apply wF|apply wG);refine wH rfl ?_)))
 refine RG.callS rfl rfl rfl rfl rfl h2 rfl rfl ?_
 refine wH rfl ?_
 refine RG.callS rfl rfl rfl rfl rfl h3 rfl rfl ?_
 refine wH rfl ?_
 refine RG.callS rfl rfl rfl rfl rfl h4 rfl rfl ?_; refine wH rfl ?_;(repeat(first|(with_reducible first|apply wA|apply wB|apply wC|(apply wD;first|(refine wE ⟨?_,?_⟩;· kernel_rfl)|apply wE))|((with_reducible first|apply wF|apply wG);refine wH rfl ?_)))
 refine AW.ret (retQA ty_ok rfl rfl rfl ?_)
 rfl
theorem wrongOf_in {c : Cf} {s : Sp} {r : Run} (h : wrongOf c s r ≠ 0) : wrongOf c s r ∈ ([1, 2, 3, 4] : List Int) := by
 rw [wrongOf] at h ⊢
 split
 ·decide
 split
 ·decide
 rename_i h3 h4
 rw [if_neg h3, if_neg h4] at h
 split
 ·rename_i h2
  rw [if_pos h2] at h
  cases ha : allowed c.pol (edgeOf c.topo.ports s) (edgeOf c.topo.ports r.at_)
  ·show (3 : Int) ∈ ([1, 2, 3, 4] : List Int); decide
  ·rw [ha, cond_true] at h
   rw [cond_true]
   cases hv : (vias c.pol (edgeOf c.topo.ports s) (edgeOf c.topo.ports r.at_)).any fun n => !passed r n
   ·rw [hv] at h; exact absurd rfl h
   ·show (4 : Int) ∈ ([1, 2, 3, 4] : List Int); decide
 ·rename_i h2
  rw [if_neg h2] at h
  exact absurd rfl h
theorem emptyRun (r : Run) : (decide (r.fin = 0) && (decide (r.at_ = Sp.zero) && decide ((((r.hops.map cHop).length : Nat) : Int) = 0))) = runEq r Run.zero := by
 rw [Bool.eq_iff_iff, runEq_iff]
 simp only [Bool.and_eq_true, decide_eq_true_eq]
 constructor
 ·rintro ⟨h1, h2, h3⟩
  exact run_ext h1 h2 (List.length_eq_zero_iff.1 (by rw [List.length_map] at h3; omega))
 ·rintro rfl
  exact ⟨rfl, rfl, rfl⟩
theorem holds3 {c : Cf} {V : Int} {v : Vd} (k : v.kind = 3) : holdsB c V v = (!decide (malE c V = 0) && (decide (v.e = malE c V) && (decide (v.why = 0) && (decide (v.fro = Sp.zero) && (decide (v.head = Hd.zero) && runEq v.run Run.zero))))) := by
 rw [holdsB, if_neg (by omega), if_pos k, emptyB, emptyRun]
theorem holds0 {c : Cf} {V : Int} {v : Vd} (k2 : ¬ v.kind = 2) (k3 : ¬ v.kind = 3) : holdsB c V v = false := by rw [holdsB, if_neg k2, if_neg k3]
theorem stamp_edge {c : Cf} {s : Sp} {V : Int} (e : stampE c s V = 0) : c.sound = 0 ∧ ¬ edgeOf c.topo.ports s < 0 := by
 rw [stampE] at e
 split at e
 ·rename_i h0
  split at e
  ·cases e
  split at e
  ·rename_i hs
   have := (edgeOf_iff (Cf.ok h0).topo).2 hs
   exact ⟨h0, by omega⟩
  ·cases e
 ·rename_i h0; exact absurd e h0
theorem holds2 {c : Cf} {V : Int} {v : Vd} (k : v.kind = 2) : holdsB c V v = (decide (v.e = 0) && (!decide (v.why = 0) && (bif decide (stampE c v.fro V = 0) then runEq (runOf c v.fro v.head V 10800) v.run && decide (wrongOf c v.fro (runOf c v.fro v.head V 10800) = v.why) else false))) := by
 rw [holdsB, if_pos k]
 congr 1
 by_cases e : stampE c v.fro V = 0
 ·rw [decide_eq_true e, cond_true]
  obtain ⟨h0, h1⟩ := stamp_edge e
  rw [Bool.eq_iff_iff]
  simp only [Bool.and_eq_true, decide_eq_true_eq, traceB_iff, runEq_iff, Bool.not_eq_true', decide_eq_false_iff_not]
  constructor
  ·rintro ⟨g1, ⟨_, g2⟩, g3⟩
   rw [wrongJ, if_pos ⟨h0, h1⟩, g2] at g3
   refine ⟨fun hz => ?_, g2.symm, g3⟩
   rw [hz] at g1
   revert g1
   decide
  ·rintro ⟨g1, g2, g3⟩
   refine ⟨?_, ⟨e, g2.symm⟩, ?_⟩
   ·rw [← g3]
    exact wrongOf_in (by rw [g3]; exact g1)
   ·rw [wrongJ, if_pos ⟨h0, h1⟩, ← g2]
    exact g3
 ·rw [decide_eq_false e, cond_false, Bool.and_false]
  have : traceB c v.fro v.head V v.run = false := by
   rw [Bool.eq_false_iff]
   exact fun H => e (traceB_iff.1 H).1
  rw [this, Bool.false_and, Bool.and_false]
theorem ProofHolds_d (c : Cf) (V : Int) (v : Vd) : PDoes Tryz.prog 18 [.agg (cCf c), .i .i64 V, .agg (cVd v)] (.b true) := by
  refine PDoes.of_bodyN Tryz.func18 rfl (by kernel_rfl) rfl rfl ?_
  have hH := d_Holds c V v
  have hCS := d_rCSound c
  skip;(repeat(first|(with_reducible first|apply wA|apply wB|apply wC|(apply wD;first|(refine wE ⟨?_,?_⟩;· kernel_rfl)|apply wE)))); refine wF ?_;refine wH rfl ?_;(repeat(first|(with_reducible first|apply wA|apply wB|apply wC|(apply wD;first|(refine wE ⟨?_,?_⟩;· kernel_rfl)|apply wE)))); refine wF ?_;refine wH rfl ?_;(repeat(first|(with_reducible first|apply wA|apply wB|apply wC|(apply wD;first|(refine wE ⟨?_,?_⟩;· kernel_rfl)|apply wE))))
  refine wF ?_
  refine wH rfl ?_
  refine RG.callS rfl rfl rfl rfl rfl hCS rfl rfl ?_
  refine wH rfl ?_; with_reducible refine wD ?_; refine wE ?_
  refine wA ?_
  refine AW.cutT (ι := Unit) (fun _ => [(1, .i .i64 V), (3, .own 3 0 0), (5, .own 5 0 0), (7, .b false), (8, .i .i64 (malE c V))]) (fun _ => [(3, ⟨0, some (.box 31 (cCf c))⟩), (5, ⟨0, some (.box 64 (cVd v))⟩)]) (fun _ => True) ?_ fun _ _ => ?_
  · skip
    by_cases h0 : c.sound = 0
    rotate_left
    · have e : malE c V = c.sound := by rw [malE, if_neg h0]
      skip;(repeat(first|(with_reducible first|apply wA|apply wB|apply wC|(apply wD;first|(refine wE ⟨?_,?_⟩;· kernel_rfl)|apply wE))))
      refine AW.text ?_
      refine RG.runO ty_ok 0 [(14, .b false)] 400 rfl (by repeat' (first|exact trivial|apply And.intro|exact dT ‹_›|exact dF ‹_›|exact dN ‹_›|exact dM ‹_›|exact dI ‹_›)) ?_
      skip;(repeat(first|(with_reducible first|apply wA|apply wB|apply wC|(apply wD;first|(refine wE ⟨?_,?_⟩;· kernel_rfl)|apply wE)))); refine AW.condF rfl ?_; skip;(repeat(first|(with_reducible first|apply wA|apply wB|apply wC|(apply wD;first|(refine wE ⟨?_,?_⟩;· kernel_rfl)|apply wE))|((with_reducible first|apply wF|apply wG);refine wH rfl ?_)))
      exact ⟨(), trivial, ⟨rI rfl rfl, rO rfl rfl rfl, rO rfl rfl rfl, rI rfl rfl, rI (congrArg (AV.i .i64) e.symm) rfl, trivial⟩, (by repeat(first|exact trivial|refine ⟨rI rfl rfl,?_⟩|refine ⟨rO rfl rfl rfl,?_⟩|refine ⟨rR rfl rfl rfl,?_⟩|refine ⟨bR rfl rfl,?_⟩|refine ⟨bS rfl rfl rfl,?_⟩))⟩
    rw [h0]
    skip;(repeat(first|(with_reducible first|apply wA|apply wB|apply wC|(apply wD;first|(refine wE ⟨?_,?_⟩;· kernel_rfl)|apply wE))))
    refine AW.text ?_
    by_cases g1 : V < 0
    · refine RG.runO ty_ok 0 [(17, .b true)] 400 rfl (by repeat' (first|exact trivial|apply And.intro|exact dT ‹_›|exact dF ‹_›|exact dN ‹_›|exact dM ‹_›|exact dI ‹_›)) ?_
      have e : malE c V = 4 := by rw [malE, if_pos h0, if_pos (by omega)]
      skip;(repeat(first|(with_reducible first|apply wA|apply wB|apply wC|(apply wD;first|(refine wE ⟨?_,?_⟩;· kernel_rfl)|apply wE)))); refine AW.condT rfl ?_; skip;(repeat(first|(with_reducible first|apply wA|apply wB|apply wC|(apply wD;first|(refine wE ⟨?_,?_⟩;· kernel_rfl)|apply wE))|((with_reducible first|apply wF|apply wG);refine wH rfl ?_)))
      exact ⟨(), trivial, ⟨rI rfl rfl, rO rfl rfl rfl, rO rfl rfl rfl, rI rfl rfl, rI (congrArg (AV.i .i64) e.symm) rfl, trivial⟩, (by repeat(first|exact trivial|refine ⟨rI rfl rfl,?_⟩|refine ⟨rO rfl rfl rfl,?_⟩|refine ⟨rR rfl rfl rfl,?_⟩|refine ⟨bR rfl rfl,?_⟩|refine ⟨bS rfl rfl rfl,?_⟩))⟩
    · by_cases g2 : V > 255
      · refine RG.runO ty_ok 0 [(17, .b false), (20, .b true)] 400 rfl (by repeat' (first|exact trivial|apply And.intro|exact dT ‹_›|exact dF ‹_›|exact dN ‹_›|exact dM ‹_›|exact dI ‹_›)) ?_
        have e : malE c V = 4 := by rw [malE, if_pos h0, if_pos (by omega)]
        skip;(repeat(first|(with_reducible first|apply wA|apply wB|apply wC|(apply wD;first|(refine wE ⟨?_,?_⟩;· kernel_rfl)|apply wE)))); refine AW.condT rfl ?_; skip;(repeat(first|(with_reducible first|apply wA|apply wB|apply wC|(apply wD;first|(refine wE ⟨?_,?_⟩;· kernel_rfl)|apply wE))|((with_reducible first|apply wF|apply wG);refine wH rfl ?_)))
        exact ⟨(), trivial, ⟨rI rfl rfl, rO rfl rfl rfl, rO rfl rfl rfl, rI rfl rfl, rI (congrArg (AV.i .i64) e.symm) rfl, trivial⟩, (by repeat(first|exact trivial|refine ⟨rI rfl rfl,?_⟩|refine ⟨rO rfl rfl rfl,?_⟩|refine ⟨rR rfl rfl rfl,?_⟩|refine ⟨bR rfl rfl,?_⟩|refine ⟨bS rfl rfl rfl,?_⟩))⟩
      · refine RG.runO ty_ok 0 [(17, .b false), (20, .b false)] 400 rfl (by repeat' (first|exact trivial|apply And.intro|exact dT ‹_›|exact dF ‹_›|exact dN ‹_›|exact dM ‹_›|exact dI ‹_›)) ?_
        have e : malE c V = 0 := by rw [malE, if_pos h0, if_neg (by omega)]
        skip;(repeat(first|(with_reducible first|apply wA|apply wB|apply wC|(apply wD;first|(refine wE ⟨?_,?_⟩;· kernel_rfl)|apply wE)))); refine AW.condF rfl ?_; skip;(repeat(first|(with_reducible first|apply wA|apply wB|apply wC|(apply wD;first|(refine wE ⟨?_,?_⟩;· kernel_rfl)|apply wE))|((with_reducible first|apply wF|apply wG);refine wH rfl ?_)))
        exact ⟨(), trivial, ⟨rI rfl rfl, rO rfl rfl rfl, rO rfl rfl rfl, rI rfl rfl, rI (congrArg (AV.i .i64) e.symm) rfl, trivial⟩, (by repeat(first|exact trivial|refine ⟨rI rfl rfl,?_⟩|refine ⟨rO rfl rfl rfl,?_⟩|refine ⟨rR rfl rfl rfl,?_⟩|refine ⟨bR rfl rfl,?_⟩|refine ⟨bS rfl rfl rfl,?_⟩))⟩
  clear hCS
  skip;(repeat(first|(with_reducible first|apply wA|apply wB|apply wC|(apply wD;first|(refine wE ⟨?_,?_⟩;· kernel_rfl)|apply wE))|((with_reducible first|apply wF|apply wG);refine wH rfl ?_)))
  refine AW.cond rfl (fun k3 => ?_) (fun k3 => ?_)
  · have k3 : v.kind = 3 := of_decide_eq_true k3
    have k2 : ¬ v.kind = 2 := by omega
    rw [holds3 k3] at hH
    skip;(repeat(first|(with_reducible first|apply wA|apply wB|apply wC|(apply wD;first|(refine wE ⟨?_,?_⟩;· kernel_rfl)|apply wE))))
    refine AW.text ?_
    by_cases g0 : malE c V = 0
    · rw [decide_eq_true g0] at hH
      refine RG.runO ty_ok 0 [(27, .b false)] 400 rfl (by repeat' (first|exact trivial|apply And.intro|exact dT ‹_›|exact dF ‹_›|exact dN ‹_›|exact dM ‹_›|exact dI ‹_›)) ?_
      skip;(repeat(first|(with_reducible first|apply wA|apply wB|apply wC|(apply wD;first|(refine wE ⟨?_,?_⟩;· kernel_rfl)|apply wE))))
      refine AW.text ?_
      refine RG.runO ty_ok 0 [(59, .b false)] 400 rfl (by repeat' (first|exact trivial|apply And.intro|exact dT ‹_›|exact dF ‹_›|exact dN ‹_›|exact dM ‹_›|exact dI ‹_›)) ?_
      skip;(repeat(first|(with_reducible first|apply wA|apply wB|apply wC|(apply wD;first|(refine wE ⟨?_,?_⟩;· kernel_rfl)|apply wE)))); refine AW.condF rfl ?_; skip;(repeat(first|(with_reducible first|apply wA|apply wB|apply wC|(apply wD;first|(refine wE ⟨?_,?_⟩;· kernel_rfl)|apply wE))|((with_reducible first|apply wF|apply wG);refine wH rfl ?_)))
      refine RG.callS rfl rfl rfl rfl rfl d_awake16 rfl rfl ?_
      refine wH rfl ?_
      refine RG.callS rfl rfl rfl rfl rfl hH rfl rfl ?_; refine wH rfl ?_;(repeat(first|(with_reducible first|apply wA|apply wB|apply wC|(apply wD;first|(refine wE ⟨?_,?_⟩;· kernel_rfl)|apply wE))|((with_reducible first|apply wF|apply wG);refine wH rfl ?_)))
      refine AW.ret (retQA ty_ok rfl rfl rfl ?_)
      rfl
    rw [decide_eq_false g0, Bool.not_false, Bool.true_and] at hH
    by_cases g1 : v.e = malE c V
    rotate_left
    · rw [decide_eq_false g1] at hH
      refine RG.runO ty_ok 0 [(27, .b true), (32, .b false)] 400 rfl (by repeat' (first|exact trivial|apply And.intro|exact dT ‹_›|exact dF ‹_›|exact dN ‹_›|exact dM ‹_›|exact dI ‹_›)) ?_
      skip;(repeat(first|(with_reducible first|apply wA|apply wB|apply wC|(apply wD;first|(refine wE ⟨?_,?_⟩;· kernel_rfl)|apply wE))))
      refine AW.text ?_
      refine RG.runO ty_ok 0 [(59, .b false)] 400 rfl (by repeat' (first|exact trivial|apply And.intro|exact dT ‹_›|exact dF ‹_›|exact dN ‹_›|exact dM ‹_›|exact dI ‹_›)) ?_
      skip;(repeat(first|(with_reducible first|apply wA|apply wB|apply wC|(apply wD;first|(refine wE ⟨?_,?_⟩;· kernel_rfl)|apply wE)))); refine AW.condF rfl ?_; skip;(repeat(first|(with_reducible first|apply wA|apply wB|apply wC|(apply wD;first|(refine wE ⟨?_,?_⟩;· kernel_rfl)|apply wE))|((with_reducible first|apply wF|apply wG);refine wH rfl ?_)))
      refine RG.callS rfl rfl rfl rfl rfl d_awake16 rfl rfl ?_
      refine wH rfl ?_
      refine RG.callS rfl rfl rfl rfl rfl hH rfl rfl ?_; refine wH rfl ?_;(repeat(first|(with_reducible first|apply wA|apply wB|apply wC|(apply wD;first|(refine wE ⟨?_,?_⟩;· kernel_rfl)|apply wE))|((with_reducible first|apply wF|apply wG);refine wH rfl ?_)))
      refine AW.ret (retQA ty_ok rfl rfl rfl ?_)
      rfl
    rw [decide_eq_true g1, Bool.true_and] at hH
    by_cases g2 : v.why = 0
    rotate_left
    · rw [decide_eq_false g2] at hH
      refine RG.runO ty_ok 0 [(27, .b true), (32, .b true), (37, .b false)] 400 rfl (by repeat' (first|exact trivial|apply And.intro|exact dT ‹_›|exact dF ‹_›|exact dN ‹_›|exact dM ‹_›|exact dI ‹_›)) ?_
      skip;(repeat(first|(with_reducible first|apply wA|apply wB|apply wC|(apply wD;first|(refine wE ⟨?_,?_⟩;· kernel_rfl)|apply wE))))
      refine AW.text ?_
      refine RG.runO ty_ok 0 [(59, .b false)] 400 rfl (by repeat' (first|exact trivial|apply And.intro|exact dT ‹_›|exact dF ‹_›|exact dN ‹_›|exact dM ‹_›|exact dI ‹_›)) ?_
      skip;(repeat(first|(with_reducible first|apply wA|apply wB|apply wC|(apply wD;first|(refine wE ⟨?_,?_⟩;· kernel_rfl)|apply wE)))); refine AW.condF rfl ?_; skip;(repeat(first|(with_reducible first|apply wA|apply wB|apply wC|(apply wD;first|(refine wE ⟨?_,?_⟩;· kernel_rfl)|apply wE))|((with_reducible first|apply wF|apply wG);refine wH rfl ?_)))
      refine RG.callS rfl rfl rfl rfl rfl d_awake16 rfl rfl ?_
      refine wH rfl ?_
      refine RG.callS rfl rfl rfl rfl rfl hH rfl rfl ?_; refine wH rfl ?_;(repeat(first|(with_reducible first|apply wA|apply wB|apply wC|(apply wD;first|(refine wE ⟨?_,?_⟩;· kernel_rfl)|apply wE))|((with_reducible first|apply wF|apply wG);refine wH rfl ?_)))
      refine AW.ret (retQA ty_ok rfl rfl rfl ?_)
      rfl
    rw [decide_eq_true g2, Bool.true_and] at hH
    refine RG.runO ty_ok 0 [(27, .b true), (32, .b true), (37, .b true)] 400 rfl (by repeat' (first|exact trivial|apply And.intro|exact dT ‹_›|exact dF ‹_›|exact dN ‹_›|exact dM ‹_›|exact dI ‹_›)) ?_
    by_cases g3 : v.fro = Sp.zero
    rotate_left
    · rw [decide_eq_false g3] at hH
      refine RG.opS rfl (op_eqG rfl ty_ok (by kernel_rfl) (by kernel_rfl) rfl rfl (eq_Sp v.fro Sp.zero) (decide_eq_false g3)) rfl ?_
      refine wH rfl ?_
      skip;(repeat(first|(with_reducible first|apply wA|apply wB|apply wC|(apply wD;first|(refine wE ⟨?_,?_⟩;· kernel_rfl)|apply wE))))
      refine AW.text ?_
      refine RG.runO ty_ok 0 [(59, .b false)] 400 rfl (by repeat' (first|exact trivial|apply And.intro|exact dT ‹_›|exact dF ‹_›|exact dN ‹_›|exact dM ‹_›|exact dI ‹_›)) ?_
      skip;(repeat(first|(with_reducible first|apply wA|apply wB|apply wC|(apply wD;first|(refine wE ⟨?_,?_⟩;· kernel_rfl)|apply wE)))); refine AW.condF rfl ?_; skip;(repeat(first|(with_reducible first|apply wA|apply wB|apply wC|(apply wD;first|(refine wE ⟨?_,?_⟩;· kernel_rfl)|apply wE))|((with_reducible first|apply wF|apply wG);refine wH rfl ?_)))
      refine RG.callS rfl rfl rfl rfl rfl d_awake16 rfl rfl ?_
      refine wH rfl ?_
      refine RG.callS rfl rfl rfl rfl rfl hH rfl rfl ?_; refine wH rfl ?_;(repeat(first|(with_reducible first|apply wA|apply wB|apply wC|(apply wD;first|(refine wE ⟨?_,?_⟩;· kernel_rfl)|apply wE))|((with_reducible first|apply wF|apply wG);refine wH rfl ?_)))
      refine AW.ret (retQA ty_ok rfl rfl rfl ?_)
      rfl
    rw [decide_eq_true g3, Bool.true_and] at hH
    refine RG.opS rfl (op_eqG rfl ty_ok (by kernel_rfl) (by kernel_rfl) rfl rfl (eq_Sp v.fro Sp.zero) (decide_eq_true g3)) rfl ?_
    refine wH rfl ?_
    by_cases g4 : v.head = Hd.zero
    rotate_left
    · rw [decide_eq_false g4] at hH
      refine RG.opS rfl (op_eqG rfl ty_ok (by kernel_rfl) (by kernel_rfl) rfl rfl (eq_Hd v.head Hd.zero) (decide_eq_false g4)) rfl ?_
      refine wH rfl ?_
      skip;(repeat(first|(with_reducible first|apply wA|apply wB|apply wC|(apply wD;first|(refine wE ⟨?_,?_⟩;· kernel_rfl)|apply wE))))
      refine AW.text ?_
      refine RG.runO ty_ok 0 [(59, .b false)] 400 rfl (by repeat' (first|exact trivial|apply And.intro|exact dT ‹_›|exact dF ‹_›|exact dN ‹_›|exact dM ‹_›|exact dI ‹_›)) ?_
      skip;(repeat(first|(with_reducible first|apply wA|apply wB|apply wC|(apply wD;first|(refine wE ⟨?_,?_⟩;· kernel_rfl)|apply wE)))); refine AW.condF rfl ?_; skip;(repeat(first|(with_reducible first|apply wA|apply wB|apply wC|(apply wD;first|(refine wE ⟨?_,?_⟩;· kernel_rfl)|apply wE))|((with_reducible first|apply wF|apply wG);refine wH rfl ?_)))
      refine RG.callS rfl rfl rfl rfl rfl d_awake16 rfl rfl ?_
      refine wH rfl ?_
      refine RG.callS rfl rfl rfl rfl rfl hH rfl rfl ?_; refine wH rfl ?_;(repeat(first|(with_reducible first|apply wA|apply wB|apply wC|(apply wD;first|(refine wE ⟨?_,?_⟩;· kernel_rfl)|apply wE))|((with_reducible first|apply wF|apply wG);refine wH rfl ?_)))
      refine AW.ret (retQA ty_ok rfl rfl rfl ?_)
      rfl
    rw [decide_eq_true g4, Bool.true_and] at hH
    refine RG.opS rfl (op_eqG rfl ty_ok (by kernel_rfl) (by kernel_rfl) rfl rfl (eq_Hd v.head Hd.zero) (decide_eq_true g4)) rfl ?_
    refine wH rfl ?_
    cases g5 : runEq v.run Run.zero
    · rw [g5] at hH
      refine RG.callS rfl rfl rfl rfl rfl (d_rSame v.run Run.zero _ g5) rfl rfl ?_
      refine wH rfl ?_
      skip;(repeat(first|(with_reducible first|apply wA|apply wB|apply wC|(apply wD;first|(refine wE ⟨?_,?_⟩;· kernel_rfl)|apply wE))))
      refine AW.text ?_
      refine RG.runO ty_ok 0 [(59, .b false)] 400 rfl (by repeat' (first|exact trivial|apply And.intro|exact dT ‹_›|exact dF ‹_›|exact dN ‹_›|exact dM ‹_›|exact dI ‹_›)) ?_
      skip;(repeat(first|(with_reducible first|apply wA|apply wB|apply wC|(apply wD;first|(refine wE ⟨?_,?_⟩;· kernel_rfl)|apply wE)))); refine AW.condF rfl ?_; skip;(repeat(first|(with_reducible first|apply wA|apply wB|apply wC|(apply wD;first|(refine wE ⟨?_,?_⟩;· kernel_rfl)|apply wE))|((with_reducible first|apply wF|apply wG);refine wH rfl ?_)))
      refine RG.callS rfl rfl rfl rfl rfl d_awake16 rfl rfl ?_
      refine wH rfl ?_
      refine RG.callS rfl rfl rfl rfl rfl hH rfl rfl ?_; refine wH rfl ?_;(repeat(first|(with_reducible first|apply wA|apply wB|apply wC|(apply wD;first|(refine wE ⟨?_,?_⟩;· kernel_rfl)|apply wE))|((with_reducible first|apply wF|apply wG);refine wH rfl ?_)))
      refine AW.ret (retQA ty_ok rfl rfl rfl ?_)
      rfl
    · rw [g5] at hH
      refine RG.callS rfl rfl rfl rfl rfl (d_rSame v.run Run.zero _ g5) rfl rfl ?_
      refine wH rfl ?_
      skip;(repeat(first|(with_reducible first|apply wA|apply wB|apply wC|(apply wD;first|(refine wE ⟨?_,?_⟩;· kernel_rfl)|apply wE))))
      refine AW.text ?_
      refine RG.runO ty_ok 0 [(59, .b false)] 400 rfl (by repeat' (first|exact trivial|apply And.intro|exact dT ‹_›|exact dF ‹_›|exact dN ‹_›|exact dM ‹_›|exact dI ‹_›)) ?_
      skip;(repeat(first|(with_reducible first|apply wA|apply wB|apply wC|(apply wD;first|(refine wE ⟨?_,?_⟩;· kernel_rfl)|apply wE)))); refine AW.condF rfl ?_; skip;(repeat(first|(with_reducible first|apply wA|apply wB|apply wC|(apply wD;first|(refine wE ⟨?_,?_⟩;· kernel_rfl)|apply wE))|((with_reducible first|apply wF|apply wG);refine wH rfl ?_)))
      refine RG.callS rfl rfl rfl rfl rfl d_awake16 rfl rfl ?_
      refine wH rfl ?_
      refine RG.callS rfl rfl rfl rfl rfl hH rfl rfl ?_; refine wH rfl ?_;(repeat(first|(with_reducible first|apply wA|apply wB|apply wC|(apply wD;first|(refine wE ⟨?_,?_⟩;· kernel_rfl)|apply wE))|((with_reducible first|apply wF|apply wG);refine wH rfl ?_)))
      refine AW.ret (retQA ty_ok rfl rfl rfl ?_)
      rfl
  have k3 : ¬ v.kind = 3 := of_decide_eq_false k3
  skip;(repeat(first|(with_reducible first|apply wA|apply wB|apply wC|(apply wD;first|(refine wE ⟨?_,?_⟩;· kernel_rfl)|apply wE))))
  refine AW.text ?_
  by_cases k2 : v.kind = 2
  rotate_left
  · rw [holds0 k2 k3] at hH
    refine RG.runO ty_ok 0 [(59, .b false)] 400 rfl (by repeat' (first|exact trivial|apply And.intro|exact dT ‹_›|exact dF ‹_›|exact dN ‹_›|exact dM ‹_›|exact dI ‹_›)) ?_
    skip;(repeat(first|(with_reducible first|apply wA|apply wB|apply wC|(apply wD;first|(refine wE ⟨?_,?_⟩;· kernel_rfl)|apply wE)))); refine AW.condF rfl ?_; skip;(repeat(first|(with_reducible first|apply wA|apply wB|apply wC|(apply wD;first|(refine wE ⟨?_,?_⟩;· kernel_rfl)|apply wE))|((with_reducible first|apply wF|apply wG);refine wH rfl ?_)))
    refine RG.callS rfl rfl rfl rfl rfl d_awake16 rfl rfl ?_
    refine wH rfl ?_
    refine RG.callS rfl rfl rfl rfl rfl hH rfl rfl ?_; refine wH rfl ?_;(repeat(first|(with_reducible first|apply wA|apply wB|apply wC|(apply wD;first|(refine wE ⟨?_,?_⟩;· kernel_rfl)|apply wE))|((with_reducible first|apply wF|apply wG);refine wH rfl ?_)))
    refine AW.ret (retQA ty_ok rfl rfl rfl ?_)
    rfl
  rw [holds2 k2] at hH
  by_cases g1 : v.e = 0
  rotate_left
  · rw [decide_eq_false g1] at hH
    refine RG.runO ty_ok 0 [(59, .b true), (63, .b false)] 400 rfl (by repeat' (first|exact trivial|apply And.intro|exact dT ‹_›|exact dF ‹_›|exact dN ‹_›|exact dM ‹_›|exact dI ‹_›)) ?_
    skip;(repeat(first|(with_reducible first|apply wA|apply wB|apply wC|(apply wD;first|(refine wE ⟨?_,?_⟩;· kernel_rfl)|apply wE)))); refine AW.condF rfl ?_; skip;(repeat(first|(with_reducible first|apply wA|apply wB|apply wC|(apply wD;first|(refine wE ⟨?_,?_⟩;· kernel_rfl)|apply wE))|((with_reducible first|apply wF|apply wG);refine wH rfl ?_)))
    refine RG.callS rfl rfl rfl rfl rfl d_awake16 rfl rfl ?_
    refine wH rfl ?_
    refine RG.callS rfl rfl rfl rfl rfl hH rfl rfl ?_; refine wH rfl ?_;(repeat(first|(with_reducible first|apply wA|apply wB|apply wC|(apply wD;first|(refine wE ⟨?_,?_⟩;· kernel_rfl)|apply wE))|((with_reducible first|apply wF|apply wG);refine wH rfl ?_)))
    refine AW.ret (retQA ty_ok rfl rfl rfl ?_)
    rfl
  rw [decide_eq_true g1, Bool.true_and] at hH
  by_cases g2 : v.why = 0
  · rw [decide_eq_true g2] at hH
    refine RG.runO ty_ok 0 [(59, .b true), (63, .b true), (68, .b false)] 400 rfl (by repeat' (first|exact trivial|apply And.intro|exact dT ‹_›|exact dF ‹_›|exact dN ‹_›|exact dM ‹_›|exact dI ‹_›)) ?_
    skip;(repeat(first|(with_reducible first|apply wA|apply wB|apply wC|(apply wD;first|(refine wE ⟨?_,?_⟩;· kernel_rfl)|apply wE)))); refine AW.condF rfl ?_; skip;(repeat(first|(with_reducible first|apply wA|apply wB|apply wC|(apply wD;first|(refine wE ⟨?_,?_⟩;· kernel_rfl)|apply wE))|((with_reducible first|apply wF|apply wG);refine wH rfl ?_)))
    refine RG.callS rfl rfl rfl rfl rfl d_awake16 rfl rfl ?_
    refine wH rfl ?_
    refine RG.callS rfl rfl rfl rfl rfl hH rfl rfl ?_; refine wH rfl ?_;(repeat(first|(with_reducible first|apply wA|apply wB|apply wC|(apply wD;first|(refine wE ⟨?_,?_⟩;· kernel_rfl)|apply wE))|((with_reducible first|apply wF|apply wG);refine wH rfl ?_)))
    refine AW.ret (retQA ty_ok rfl rfl rfl ?_)
    rfl
  rw [decide_eq_false g2, Bool.not_false, Bool.true_and] at hH
  refine RG.runO ty_ok 0 [(59, .b true), (63, .b true), (68, .b true)] 400 rfl (by repeat' (first|exact trivial|apply And.intro|exact dT ‹_›|exact dF ‹_›|exact dN ‹_›|exact dM ‹_›|exact dI ‹_›)) ?_
  skip;(repeat(first|(with_reducible first|apply wA|apply wB|apply wC|(apply wD;first|(refine wE ⟨?_,?_⟩;· kernel_rfl)|apply wE)))); refine AW.condT rfl ?_; skip;(repeat(first|(with_reducible first|apply wA|apply wB|apply wC|(apply wD;first|(refine wE ⟨?_,?_⟩;· kernel_rfl)|apply wE))|((with_reducible first|apply wF|apply wG);refine wH rfl ?_)))
  have hR := d_run16 c v.fro v.head V
  by_cases e : stampE c v.fro V = 0
  rotate_left
  · rw [decide_eq_false e, cond_false] at hR hH
    refine RG.callMS rfl rfl rfl rfl rfl rfl hR rfl ?_; refine wH rfl ?_;(repeat(first|(with_reducible first|apply wA|apply wB|apply wC|(apply wD;first|(refine wE ⟨?_,?_⟩;· kernel_rfl)|apply wE))|((with_reducible first|apply wF|apply wG);refine wH rfl ?_)))
    refine RG.callS rfl rfl rfl rfl rfl d_awake16 rfl rfl ?_
    refine wH rfl ?_
    refine RG.callS rfl rfl rfl rfl rfl hH rfl rfl ?_; refine wH rfl ?_;(repeat(first|(with_reducible first|apply wA|apply wB|apply wC|(apply wD;first|(refine wE ⟨?_,?_⟩;· kernel_rfl)|apply wE))|((with_reducible first|apply wF|apply wG);refine wH rfl ?_)))
    refine AW.ret (retQA ty_ok rfl rfl rfl ?_)
    rfl
  rw [decide_eq_true e, cond_true] at hR hH
  have hc := Cf.ok (stamp_edge e).1
  generalize runOf c v.fro v.head V 10800 = w at hR hH
  refine RG.callMS rfl rfl rfl rfl rfl rfl hR rfl ?_; refine wH rfl ?_;(repeat(first|(with_reducible first|apply wA|apply wB|apply wC|(apply wD;first|(refine wE ⟨?_,?_⟩;· kernel_rfl)|apply wE))|((with_reducible first|apply wF|apply wG);refine wH rfl ?_)))
  cases g3 : runEq w v.run
  · rw [g3] at hH
    refine RG.callS rfl rfl rfl rfl rfl (d_rSame w v.run _ g3) rfl rfl ?_; refine wH rfl ?_;(repeat(first|(with_reducible first|apply wA|apply wB|apply wC|(apply wD;first|(refine wE ⟨?_,?_⟩;· kernel_rfl)|apply wE))|((with_reducible first|apply wF|apply wG);refine wH rfl ?_)))
    refine RG.callS rfl rfl rfl rfl rfl d_awake16 rfl rfl ?_
    refine wH rfl ?_
    refine RG.callS rfl rfl rfl rfl rfl hH rfl rfl ?_; refine wH rfl ?_;(repeat(first|(with_reducible first|apply wA|apply wB|apply wC|(apply wD;first|(refine wE ⟨?_,?_⟩;· kernel_rfl)|apply wE))|((with_reducible first|apply wF|apply wG);refine wH rfl ?_)))
    refine AW.ret (retQA ty_ok rfl rfl rfl ?_)
    rfl
  rw [g3, Bool.true_and] at hH
  refine RG.callS rfl rfl rfl rfl rfl (d_rSame w v.run _ g3) rfl rfl ?_
  refine wH rfl ?_
  refine RG.callS rfl rfl rfl rfl rfl (d_rWrong c hc v.fro w) rfl rfl ?_; refine wH rfl ?_;(repeat(first|(with_reducible first|apply wA|apply wB|apply wC|(apply wD;first|(refine wE ⟨?_,?_⟩;· kernel_rfl)|apply wE))|((with_reducible first|apply wF|apply wG);refine wH rfl ?_)))
  refine RG.callS rfl rfl rfl rfl rfl d_awake16 rfl rfl ?_
  refine wH rfl ?_
  refine RG.callS rfl rfl rfl rfl rfl hH rfl rfl ?_; refine wH rfl ?_;(repeat(first|(with_reducible first|apply wA|apply wB|apply wC|(apply wD;first|(refine wE ⟨?_,?_⟩;· kernel_rfl)|apply wE))|((with_reducible first|apply wF|apply wG);refine wH rfl ?_)))
  refine AW.ret (retQA ty_ok rfl rfl rfl ?_)
  exact congrArg AV.b (decide_eq_true rfl)
end Go.Proofs.YtahjjfhjjbgjaaaGreat.Sm
end
section
namespace Go.Proofs.YtahjjfhjjbgjaaaGreat
open Go.RowKit Go.WideShapes Go.ChangeShapes Go.Deep Sm
theorem ProofHolds_law {H : Type} {e : TypeId × Value → H} (W : World) (b0 : Nat)
  (v0 : Value) (d0 : DataW H) (p0 : List MemPlace) (ok0 : Value.okWide Tryz.prog W .any b0 31 v0) (h0 : DataW.Trod e Tryz.prog W 0 (fun _ => true) true 31 v0 d0 p0)
  (v1 : Value) (d1 : DataW H) (p1 : List MemPlace) (ok1 : Value.okWide Tryz.prog W .any b0 3 v1) (h1 : DataW.Trod e Tryz.prog W 0 (fun _ => true) true 3 v1 d1 p1)
  (v2 : Value) (d2 : DataW H) (p2 : List MemPlace) (ok2 : Value.okWide Tryz.prog W .any b0 64 v2) (h2 : DataW.Trod e Tryz.prog W 0 (fun _ => true) true 64 v2 d2 p2)
  : Calls Tryz.prog 18 #[v0, v1, v2] W fun e W' => e = .returned (.bool true) ∧ Kp No W W' := by
 obtain ⟨a0, r0⟩ := ra_Cf.arg_struct Tryz.underlying31 ok0 h0
 obtain ⟨a1, r1⟩ := ra_int.arg_int Tryz.underlying3 ok1 h1
 obtain ⟨a2, r2⟩ := ra_Vd.arg_struct Tryz.underlying64 ok2 h2
 exact (ProofHolds_d a0 a1 a2).law (vs := [v0, v1, v2]) rfl (pw_cons r0 (pw_cons r1 (pw_cons r2 (pw_nil))))
end Go.Proofs.YtahjjfhjjbgjaaaGreat
end
