/- Contracts of the program's functions over data, and the plain laws that they meet (part 7). No condition. -/
import Derived.Test.YtahjjfhjjbgjaaaGreatDuf
import Derived.WalkKit
import Derived.WalkSpells
import Derived.WalkLawsBesides
import Derived.Lib.Hide
import Derived.Deep.RegionHeld3
import Derived.Maps.AppendAt
import Derived.KernelRfl
import Derived.Lib.AppendStr
import Derived.Orders
import Derived.LoopTactic
import Derived.Laws.CopyRow
import Derived.Laws.Cells
import Derived.Great.BuildSlice
import Derived.Laws.ResultCell
import Derived.Laws.StructEq
import Derived.Laws.MakeOwn
import Derived.Deep.Slices
import Derived.Deep.Fields
import Derived.ChangeSame
import Derived.ProofKit
import Derived.OpenShut
import Derived.SizedLaws
import Derived.Test.YtahjjfhjjbgjaaaGreatProg
import Derived.Shelf.Spec.BitsCarry
import Derived.Lib.AppendZerosOnto
import Derived.DeepKeys4
import Derived.MapKept
import Derived.Sort.AssemblyPlain
import Derived.Sort.LotD4
import Derived.Sort.Walk13a
set_option linter.unusedVariables false
set_option linter.unusedSimpArgs false
set_option maxRecDepth 100000
set_option maxHeartbeats 4000000
section
namespace Go.Proofs.YtahjjfhjjbgjaaaGreat.Sm
open Go.RowKit
theorem findA_cases (c d:Cf) (V:Nat) (s:Sp):∀(l:List Atom),(findA c d V s l=none∧∀a∈l,endEq (runOf c s a.head V 10800) (runOf d s a.head V 10800)=true) ∨
  ∃a∈l,endEq (runOf c s a.head V 10800) (runOf d s a.head V 10800)=false∧findA c d V s l=some a.head
 | []=>.inl ⟨rfl,fun a ha=>by cases ha⟩
 | a::l=>by
  rw [findA]
  cases h:endEq (runOf c s a.head V 10800) (runOf d s a.head V 10800)
  ·exact .inr ⟨a,List.mem_cons_self,h,rfl⟩
  ·rw [cond_true]
   rcases findA_cases c d V s l with ⟨h1,h2⟩ | ⟨b,hb,h1,h2⟩
   ·refine .inl ⟨h1,fun b hb=>?_⟩
    rcases List.mem_cons.1 hb with rfl | hb
    ·exact h
    ·exact h2 b hb
   ·exact .inr ⟨b,List.mem_cons_of_mem _ hb,h1,h2⟩
theorem findE_cases (c d:Cf) (V:Nat) (l:List Atom):∀(ss:List Sp),(findE c d V l ss=(Sp.zero,Hd.zero,false,0)∧∀s∈ss,∀a∈l,endEq (runOf c s a.head V 10800) (runOf d s a.head V 10800)=true) ∨
  ∃s∈ss,∃a∈l,endEq (runOf c s a.head V 10800) (runOf d s a.head V 10800)=false∧findE c d V l ss=(s,a.head,true,0)
 | []=>.inl ⟨rfl,fun s hs=>by cases hs⟩
 | s::ss=>by
  rw [findE]
  rcases findA_cases c d V s l with ⟨h1,h2⟩ | ⟨a,ha,h1,h2⟩
  ·rw [h1]
   rcases findE_cases c d V l ss with ⟨h3,h4⟩ | ⟨s',hs',a,ha,h3,h4⟩
   ·refine .inl ⟨h3,fun s' hs'=>?_⟩
    rcases List.mem_cons.1 hs' with rfl | hs'
    ·exact h2
    ·exact h4 s' hs'
   ·exact .inr ⟨s',List.mem_cons_of_mem _ hs',a,ha,h3,h4⟩
  ·rw [h2]
   exact .inr ⟨s,List.mem_cons_self,a,ha,h1,rfl⟩
theorem findG_bad {c d:Cf} {V:Int} (h:rightE c d V≠0):findG c d V=(Sp.zero,Hd.zero,false,rightE c d V):=by
 rw [findG,findOf,decide_eq_false h];rfl
theorem endEq_alike {a a' b b':Run} (h1:a.Alike a') (h2:b.Alike b'):endEq a b=endEq a' b':=by
 rw [endEq,endEq,h1.fin,h1.at_,h2.fin,h2.at_]
theorem findG_cases (c d:Cf) (v:Nat) (h0:rightE c d v=0):(∃e:Int,(e=10∨e=11∨e=6)∧findG c d v=(Sp.zero,Hd.zero,false,e)) ∨
  (findG c d v=(Sp.zero,Hd.zero,false,0)∧∀s∈edges c.topo.ports,∀h,endEq (runOf c s h v 10800) (runOf d s h v 10800)=true) ∨
  (∃s h,s∈edges c.topo.ports∧endEq (runOf c s h v 10800) (runOf d s h v 10800)=false∧findG c d v=(s,h,true,0)):=by
 obtain ⟨hsc,hsd,-,hpe⟩:=right_ok h0
 have hc:=Cf.ok hsc
 have hd:=Cf.ok hsd
 obtain ⟨hsndc,haskc⟩:=askedOf_ok hc (v:Int)
 obtain ⟨hsndd,haskd⟩:=askedOf_ok hd (v:Int)
 have hpc:=sortG_perm (askedOf c (v:Int))
 have hpd:=sortG_perm (askedOf d (v:Int))
 rw [findG,findOf,decide_eq_true h0,cond_true,bothAt]
 by_cases h1:(askedOf c (v:Int)).length>500
 ·rw [decide_eq_true h1,cond_true]
  exact .inl ⟨10,.inl rfl,rfl⟩
 by_cases h1':(askedOf d (v:Int)).length>500
 ·rw [decide_eq_true h1',decide_eq_false h1,cond_true,cond_false]
  exact .inl ⟨10,.inl rfl,rfl⟩
 rw [decide_eq_false h1,decide_eq_false h1',cond_false,cond_false]
 have hAc:=haskc (by omega)
 have hAd:=haskd (by omega)
 generalize askedOf c (v:Int)=pc at hsndc hpc h1 hAc
 generalize askedOf d (v:Int)=pd at hsndd hpd h1' hAd
 generalize sortG pc=lc at hpc
 generalize sortG pd=ld at hpd
 have hmem:∀y,y∈addAll (addAll [] lc) ld↔y∈pc∨y∈pd:=by
  intro y
  rw [addAll_mem,addAll_mem,hpc.mem_iff,hpd.mem_iff]
  simp
 generalize addAll (addAll [] lc) ld=ps at hmem
 by_cases h5:ps.length>500
 ·rw [atomsOf,decide_eq_true h5,cond_true]
  exact .inl ⟨6,.inr (.inr rfl),rfl⟩
 obtain ⟨g1,g2⟩:=atomsOf_ok (ps:=ps) (fun x hx=>by
  rcases (hmem x).1 hx with h | h
  ·exact hsndc x h
  ·exact hsndd x h) (by omega)
 by_cases h2:(atomsOf ps).2=0
 rotate_left
 ·rw [decide_eq_false h2,cond_false]
  rcases g1 with g | g | g
  ·exact absurd g h2
  ·rw [g];exact .inl ⟨10,.inl rfl,rfl⟩
  ·rw [g];exact .inl ⟨11,.inr (.inl rfl),rfl⟩
 rw [decide_eq_true h2,cond_true]
 have hP:=g2 h2
 generalize (atomsOf ps).1=list at hP
 rw [Int.toNat_natCast]
 rcases findE_cases c d v list (edges c.topo.ports) with ⟨h3,h4⟩ | ⟨s,hs,a,ha,h3,h4⟩
 ·refine .inr (.inl ⟨h3,fun s hs h=>?_⟩)
  obtain ⟨a,ha,hh⟩:=hP.all h
  have hlike:∀p∈ps,p.has h=p.has a.head:=fun p hp=>hP.like a ha h a.head hh (hP.head a ha) p hp
  rw [endEq_alike (runOf_alike hc hAc hs (fun p hp=>hlike p ((hmem p).2 (.inl hp))) 10800) (runOf_alike hd hAd (hpe ▸ hs) (fun p hp=>hlike p ((hmem p).2 (.inr hp))) 10800)]
  exact h4 s hs a ha
 ·exact .inr (.inr ⟨s,a.head,hs,h3,h4⟩)
theorem DifferFinds_d (c d:Cf) (V:Int) (s:Sp) (h:Hd) (hLc:c.Lens) (hLd:d.Lens):PDoes Tryz.prog 3 [.agg (cCf c),.agg (cCf d),.i .i64 V,.agg (cSp s),.agg (cHd h)] (.b true):=by
  refine PDoes.of_bodyN Tryz.func3 rfl (by kernel_rfl) rfl rfl ?_
  have hF:=d_FindG c d V hLc hLd
  have hW:=d_wrong28 c d V
  by_cases h0:rightE c d V=0
  rotate_left
  · rw [findG_bad h0] at hF;simp only [findR] at hF
    generalize rightE c d V=m at h0 hF hW
    have hm:m=m:=rfl
    (repeat first|apply wA|apply wB|apply wC|apply wE|(apply zM;·kernel_rfl)|refine zI rfl ?_|refine zJ rfl ?_)
    refine RG.callS rfl rfl rfl rfl rfl hF rfl rfl ?_;refine wH rfl ?_;(repeat first|apply wA|apply wB|apply wC|apply wE|(apply zM;·kernel_rfl)|refine zI rfl ?_|refine zJ rfl ?_)
    refine RG.callS rfl rfl rfl rfl rfl hW rfl rfl ?_;refine wH rfl ?_;(repeat first|apply wA|apply wB|apply wC|apply wE|(apply zM;·kernel_rfl)|refine zI rfl ?_|refine zJ rfl ?_)
    refine AW.cond rfl (fun k=>?_) (fun k=>?_)
    · (repeat first|apply wA|apply wB|apply wC|apply wE|(apply zM;·kernel_rfl)|refine zI rfl ?_|refine zJ rfl ?_)
      refine RG.callS rfl rfl rfl rfl rfl d_awake28 rfl rfl ?_
      refine RG.runO ty_ok 0 [(35,.b true)] 400 rfl (by repeat' (first|exact trivial|apply And.intro|exact dT ‹_›|exact dF ‹_›|exact dN ‹_›|exact dM ‹_›|exact dI ‹_›)) ?_
      refine RG.opS rfl (op_eqG rfl ty_ok (by kernel_rfl) (by kernel_rfl) rfl rfl (eq_Sp Sp.zero Sp.zero) (decide_eq_true rfl)) rfl ?_
      refine wH rfl ?_
      refine RG.opS rfl (op_eqG rfl ty_ok (by kernel_rfl) (by kernel_rfl) rfl rfl (eq_Hd Hd.zero Hd.zero) (decide_eq_true rfl)) rfl ?_
      refine wH rfl ?_;(repeat first|apply wA|apply wB|apply wC|apply wE|(apply zM;·kernel_rfl)|refine zI rfl ?_|refine zJ rfl ?_)
      refine AW.ret (retQA ty_ok rfl rfl rfl ?_)
      rfl
    · exact absurd (by simpa using k) h0
  obtain ⟨hsc,hsd,⟨v,rfl,hv⟩,hpe⟩:=right_ok h0
  have hc:=Cf.ok hsc
  have hd:=Cf.ok hsd
  rw [h0] at hW
  rcases findG_cases c d v h0 with ⟨e,he,hj⟩ | ⟨hj,hall⟩ | ⟨s',h',hs',hw,hj⟩
  · rw [hj] at hF;simp only [findR] at hF
    rcases he with rfl | rfl | rfl
    · (repeat first|apply wA|apply wB|apply wC|apply wE|(apply zM;·kernel_rfl)|refine zI rfl ?_|refine zJ rfl ?_)
      refine RG.callS rfl rfl rfl rfl rfl hF rfl rfl ?_;refine wH rfl ?_;(repeat first|apply wA|apply wB|apply wC|apply wE|(apply zM;·kernel_rfl)|refine zI rfl ?_|refine zJ rfl ?_)
      refine RG.callS rfl rfl rfl rfl rfl hW rfl rfl ?_;refine wH rfl ?_;(repeat first|apply wA|apply wB|apply wC|apply wE|(apply zM;·kernel_rfl)|refine zI rfl ?_|refine zJ rfl ?_)
      refine AW.condF rfl ?_;(repeat first|apply wA|apply wB|apply wC|apply wE|(apply zM;·kernel_rfl)|refine zI rfl ?_|refine zJ rfl ?_)
      refine AW.condT rfl ?_;(repeat first|apply wA|apply wB|apply wC|apply wE|(apply zM;·kernel_rfl)|refine zI rfl ?_|refine zJ rfl ?_)
      refine RG.callS rfl rfl rfl rfl rfl d_awake28 rfl rfl ?_;refine wH rfl ?_;(repeat first|apply wA|apply wB|apply wC|apply wE|(apply zM;·kernel_rfl)|refine zI rfl ?_|refine zJ rfl ?_)
      refine AW.ret (retQA ty_ok rfl rfl rfl ?_)
      rfl
    · (repeat first|apply wA|apply wB|apply wC|apply wE|(apply zM;·kernel_rfl)|refine zI rfl ?_|refine zJ rfl ?_)
      refine RG.callS rfl rfl rfl rfl rfl hF rfl rfl ?_;refine wH rfl ?_;(repeat first|apply wA|apply wB|apply wC|apply wE|(apply zM;·kernel_rfl)|refine zI rfl ?_|refine zJ rfl ?_)
      refine RG.callS rfl rfl rfl rfl rfl hW rfl rfl ?_;refine wH rfl ?_;(repeat first|apply wA|apply wB|apply wC|apply wE|(apply zM;·kernel_rfl)|refine zI rfl ?_|refine zJ rfl ?_)
      refine AW.condF rfl ?_;(repeat first|apply wA|apply wB|apply wC|apply wE|(apply zM;·kernel_rfl)|refine zI rfl ?_|refine zJ rfl ?_)
      refine AW.condT rfl ?_;(repeat first|apply wA|apply wB|apply wC|apply wE|(apply zM;·kernel_rfl)|refine zI rfl ?_|refine zJ rfl ?_)
      refine RG.callS rfl rfl rfl rfl rfl d_awake28 rfl rfl ?_;refine wH rfl ?_;(repeat first|apply wA|apply wB|apply wC|apply wE|(apply zM;·kernel_rfl)|refine zI rfl ?_|refine zJ rfl ?_)
      refine AW.ret (retQA ty_ok rfl rfl rfl ?_)
      rfl
    · (repeat first|apply wA|apply wB|apply wC|apply wE|(apply zM;·kernel_rfl)|refine zI rfl ?_|refine zJ rfl ?_)
      refine RG.callS rfl rfl rfl rfl rfl hF rfl rfl ?_;refine wH rfl ?_;(repeat first|apply wA|apply wB|apply wC|apply wE|(apply zM;·kernel_rfl)|refine zI rfl ?_|refine zJ rfl ?_)
      refine RG.callS rfl rfl rfl rfl rfl hW rfl rfl ?_;refine wH rfl ?_;(repeat first|apply wA|apply wB|apply wC|apply wE|(apply zM;·kernel_rfl)|refine zI rfl ?_|refine zJ rfl ?_)
      refine AW.condF rfl ?_;(repeat first|apply wA|apply wB|apply wC|apply wE|(apply zM;·kernel_rfl)|refine zI rfl ?_|refine zJ rfl ?_)
      refine AW.condT rfl ?_;(repeat first|apply wA|apply wB|apply wC|apply wE|(apply zM;·kernel_rfl)|refine zI rfl ?_|refine zJ rfl ?_)
      refine RG.callS rfl rfl rfl rfl rfl d_awake28 rfl rfl ?_;refine wH rfl ?_;(repeat first|apply wA|apply wB|apply wC|apply wE|(apply zM;·kernel_rfl)|refine zI rfl ?_|refine zJ rfl ?_)
      refine AW.ret (retQA ty_ok rfl rfl rfl ?_)
      rfl
  · rw [hj] at hF;simp only [findR] at hF
    (repeat first|apply wA|apply wB|apply wC|apply wE|(apply zM;·kernel_rfl)|refine zI rfl ?_|refine zJ rfl ?_)
    refine RG.callS rfl rfl rfl rfl rfl hF rfl rfl ?_;refine wH rfl ?_;(repeat first|apply wA|apply wB|apply wC|apply wE|(apply zM;·kernel_rfl)|refine zI rfl ?_|refine zJ rfl ?_)
    refine RG.callS rfl rfl rfl rfl rfl hW rfl rfl ?_;refine wH rfl ?_;(repeat first|apply wA|apply wB|apply wC|apply wE|(apply zM;·kernel_rfl)|refine zI rfl ?_|refine zJ rfl ?_)
    refine AW.condF rfl ?_;(repeat first|apply wA|apply wB|apply wC|apply wE|(apply zM;·kernel_rfl)|refine zI rfl ?_|refine zJ rfl ?_)
    refine AW.condF rfl ?_;(repeat first|apply wA|apply wB|apply wC|apply wE|(apply zM;·kernel_rfl)|refine zI rfl ?_|refine zJ rfl ?_)
    refine AW.condF rfl ?_;(repeat first|apply wA|apply wB|apply wC|apply wE|(apply zM;·kernel_rfl))
    refine AW.text ?_
    refine wH rfl ?_
    refine RG.opS rfl (op_neG rfl ty_ok (by kernel_rfl) (by kernel_rfl) rfl rfl (eq_Sp Sp.zero Sp.zero) (congrArg Bool.not (decide_eq_true rfl))) rfl ?_
    refine wH rfl ?_
    refine RG.opS rfl (op_neG rfl ty_ok (by kernel_rfl) (by kernel_rfl) rfl rfl (eq_Hd Hd.zero Hd.zero) (congrArg Bool.not (decide_eq_true rfl))) rfl ?_
    refine wH rfl ?_
    refine RG.callS rfl rfl rfl rfl rfl (d_Edge c.topo.ports s) rfl rfl ?_
    by_cases g1:edgeOf c.topo.ports s<0
    · refine RG.runO ty_ok 0 [(106,.b true)] 400 rfl (by repeat' (first|exact trivial|apply And.intro|exact dT ‹_›|exact dF ‹_›|exact dN ‹_›|exact dM ‹_›|exact dI ‹_›)) ?_
      (repeat first|apply wA|apply wB|apply wC|apply wE|(apply zM;·kernel_rfl));refine AW.condT rfl ?_;(repeat first|apply wA|apply wB|apply wC|apply wE|(apply zM;·kernel_rfl)|refine zI rfl ?_|refine zJ rfl ?_)
      refine RG.callS rfl rfl rfl rfl rfl d_awake28 rfl rfl ?_
      refine wH rfl ?_
      refine RG.opS rfl (op_eqG rfl ty_ok (by kernel_rfl) (by kernel_rfl) rfl rfl (eq_Sp Sp.zero Sp.zero) (decide_eq_true rfl)) rfl ?_
      refine wH rfl ?_
      refine RG.opS rfl (op_eqG rfl ty_ok (by kernel_rfl) (by kernel_rfl) rfl rfl (eq_Hd Hd.zero Hd.zero) (decide_eq_true rfl)) rfl ?_
      refine wH rfl ?_;(repeat first|apply wA|apply wB|apply wC|apply wE|(apply zM;·kernel_rfl)|refine zI rfl ?_|refine zJ rfl ?_)
      refine AW.ret (retQA ty_ok rfl rfl rfl ?_)
      rfl
    · have hs:s∈edges c.topo.ports:=(edgeOf_iff hc.topo).1 (by omega)
      have hR1:=d_rRun c hc s hs h v 10800 hv (by decide)
      have hR2:=d_rRun d hd s (hpe ▸ hs) h v 10800 hv (by decide)
      have hSm:=d_same28 (runOf c s h v 10800) (runOf d s h v 10800)
      rw [hall s hs h] at hSm
      generalize runOf c s h v 10800=x at hR1 hSm
      generalize runOf d s h v 10800=y at hR2 hSm
      refine RG.runO ty_ok 0 [(106,.b false)] 400 rfl (by repeat' (first|exact trivial|apply And.intro|exact dT ‹_›|exact dF ‹_›|exact dN ‹_›|exact dM ‹_›|exact dI ‹_›)) ?_
      (repeat first|apply wA|apply wB|apply wC|apply wE|(apply zM;·kernel_rfl));refine AW.condF rfl ?_;(repeat first|apply wA|apply wB|apply wC|apply wE|(apply zM;·kernel_rfl)|refine zI rfl ?_|refine zJ rfl ?_)
      refine RG.callS rfl rfl rfl rfl rfl d_awake28 rfl rfl ?_
      refine wH rfl ?_
      refine RG.callMS rfl rfl rfl rfl rfl rfl hR1 rfl ?_
      refine wH rfl ?_
      refine RG.callMS rfl rfl rfl rfl rfl rfl hR2 rfl ?_
      refine wH rfl ?_
      refine RG.callS rfl rfl rfl rfl rfl hSm rfl rfl ?_;refine wH rfl ?_;(repeat first|apply wA|apply wB|apply wC|apply wE|(apply zM;·kernel_rfl)|refine zI rfl ?_|refine zJ rfl ?_)
      refine AW.ret (retQA ty_ok rfl rfl rfl ?_)
      rfl
  · rw [hj] at hF;simp only [findR] at hF
    have hE:=d_Edge c.topo.ports s'
    have g1:=(edgeOf_iff hc.topo).2 hs'
    have hR1:=d_rRun c hc s' hs' h' v 10800 hv (by decide)
    have hR2:=d_rRun d hd s' (hpe ▸ hs') h' v 10800 hv (by decide)
    have hSm:=d_same28 (runOf c s' h' v 10800) (runOf d s' h' v 10800)
    rw [hw] at hSm
    generalize runOf c s' h' v 10800=x at hR1 hSm
    generalize runOf d s' h' v 10800=y at hR2 hSm
    generalize edgeOf c.topo.ports s'=ed at hE g1
    (repeat first|apply wA|apply wB|apply wC|apply wE|(apply zM;·kernel_rfl)|refine zI rfl ?_|refine zJ rfl ?_)
    refine RG.callS rfl rfl rfl rfl rfl hF rfl rfl ?_;refine wH rfl ?_;(repeat first|apply wA|apply wB|apply wC|apply wE|(apply zM;·kernel_rfl)|refine zI rfl ?_|refine zJ rfl ?_)
    refine RG.callS rfl rfl rfl rfl rfl hW rfl rfl ?_;refine wH rfl ?_;(repeat first|apply wA|apply wB|apply wC|apply wE|(apply zM;·kernel_rfl)|refine zI rfl ?_|refine zJ rfl ?_)
    refine AW.condF rfl ?_;(repeat first|apply wA|apply wB|apply wC|apply wE|(apply zM;·kernel_rfl)|refine zI rfl ?_|refine zJ rfl ?_)
    refine AW.condF rfl ?_;(repeat first|apply wA|apply wB|apply wC|apply wE|(apply zM;·kernel_rfl)|refine zI rfl ?_|refine zJ rfl ?_)
    refine AW.condT rfl ?_;(repeat first|apply wA|apply wB|apply wC|apply wE|(apply zM;·kernel_rfl)|refine zI rfl ?_|refine zJ rfl ?_)
    refine RG.callS rfl rfl rfl rfl rfl d_awake28 rfl rfl ?_
    refine wH rfl ?_
    refine RG.callS rfl rfl rfl rfl rfl hE rfl rfl ?_
    refine RG.runO ty_ok 0 [(77,.b true)] 400 rfl (by repeat' (first|exact trivial|apply And.intro|exact dT ‹_›|exact dF ‹_›|exact dN ‹_›|exact dM ‹_›|exact dI ‹_›)) ?_
    refine RG.callMS rfl rfl rfl rfl rfl rfl hR1 rfl ?_
    refine wH rfl ?_
    refine RG.callMS rfl rfl rfl rfl rfl rfl hR2 rfl ?_
    refine wH rfl ?_
    refine RG.callS rfl rfl rfl rfl rfl hSm rfl rfl ?_;refine wH rfl ?_;(repeat first|apply wA|apply wB|apply wC|apply wE|(apply zM;·kernel_rfl)|refine zI rfl ?_|refine zJ rfl ?_)
    refine AW.ret (retQA ty_ok rfl rfl rfl ?_)
    rfl
end Go.Proofs.YtahjjfhjjbgjaaaGreat.Sm
end
section
namespace Go.Proofs.YtahjjfhjjbgjaaaGreat
open Go.RowKit Go.WideShapes Go.ChangeShapes Go.Deep Sm
theorem DifferFinds_law {H:Type} {e:TypeId × Value→H} (W:World) (b0:Nat)
  (v0:Value) (d0:DataW H) (p0:List MemPlace) (ok0:Value.okWide Tryz.prog W .any b0 31 v0) (h0:DataW.Trod e Tryz.prog W 0 (fun _=>true) true 31 v0 d0 p0)
  (v1:Value) (d1:DataW H) (p1:List MemPlace) (ok1:Value.okWide Tryz.prog W .any b0 31 v1) (h1:DataW.Trod e Tryz.prog W 0 (fun _=>true) true 31 v1 d1 p1)
  (v2:Value) (d2:DataW H) (p2:List MemPlace) (ok2:Value.okWide Tryz.prog W .any b0 3 v2) (h2:DataW.Trod e Tryz.prog W 0 (fun _=>true) true 3 v2 d2 p2)
  (v3:Value) (d3:DataW H) (p3:List MemPlace) (ok3:Value.okWide Tryz.prog W .any b0 33 v3) (h3:DataW.Trod e Tryz.prog W 0 (fun _=>true) true 33 v3 d3 p3)
  (v4:Value) (d4:DataW H) (p4:List MemPlace) (ok4:Value.okWide Tryz.prog W .any b0 36 v4) (h4:DataW.Trod e Tryz.prog W 0 (fun _=>true) true 36 v4 d4 p4)
  (hsz:(DataW.weightsEach Tryz.prog [31,31,3,33,36] [d0,d1,d2,d3,d4]).all (·≤reachBytes)=true)
  : Calls Tryz.prog 3 #[v0,v1,v2,v3,v4] W fun e W'=>e = .returned (.bool true)∧Kp No W W':=by
 obtain ⟨a0,r0,q0⟩:=rz_Cf.arg_struct Tryz.underlying31 hsz 0 rfl rfl ok0 h0
 obtain ⟨a1,r1,q1⟩:=rz_Cf.arg_struct Tryz.underlying31 hsz 1 rfl rfl ok1 h1
 obtain ⟨a2,r2⟩:=ra_int.arg_int Tryz.underlying3 ok2 h2
 obtain ⟨a3,r3⟩:=ra_Sp.arg_struct Tryz.underlying33 ok3 h3
 obtain ⟨a4,r4⟩:=ra_Hd.arg_struct Tryz.underlying36 ok4 h4
 exact (DifferFinds_d a0 a1 a2 a3 a4 q0 q1).law (vs:=[v0,v1,v2,v3,v4]) rfl (pw_cons r0 (pw_cons r1 (pw_cons r2 (pw_cons r3 (pw_cons r4 (pw_nil))))))
end Go.Proofs.YtahjjfhjjbgjaaaGreat
end
