/- Contracts of the program's functions over data, and the plain laws that they meet (part 7). No condition. -/
import Derived.Test.YtahjjfhjjbgjaaaGreatJxf
import Derived.WalkKit
import Derived.WalkSpells
import Derived.WalkLawsBesides
import Derived.Lib.Hide
import Derived.Deep.RegionHeld3
import Derived.Maps.AppendAt
import Derived.KernelRfl
import Derived.Lib.AppendStr
import Derived.Orders
import Derived.LoopTactic
import Derived.Laws.CopyRow
import Derived.Laws.Cells
import Derived.Great.BuildSlice
import Derived.Laws.ResultCell
import Derived.Laws.StructEq
import Derived.Laws.MakeOwn
import Derived.Deep.Slices
import Derived.Deep.Fields
import Derived.ChangeSame
import Derived.ProofKit
import Derived.OpenShut
import Derived.SizedLaws
import Derived.Test.YtahjjfhjjbgjaaaGreatProg
import Derived.Shelf.Spec.BitsCarry
import Derived.Lib.AppendZerosOnto
import Derived.DeepKeys4
import Derived.MapKept
import Derived.Sort.AssemblyPlain
import Derived.Sort.LotD4
import Derived.Sort.Walk13a
set_option linter.unusedVariables false
set_option linter.unusedSimpArgs false
set_option maxRecDepth 100000
set_option maxHeartbeats 4000000
section
namespace Go.Proofs.YtahjjfhjjbgjaaaGreat.Sm
open Go.RowKit
theorem d_wrong15 (c:Cf) (V:Int):PDoes Tryz.prog 33 [.agg (cCf c),.i .i64 V] (.i .i64 (malE c V)):=by
  refine PDoes.of_bodyN Tryz.func33 rfl (by kernel_rfl) rfl rfl ?_
  have hS:=d_rCSound c
  rw [malE]
  by_cases h0:c.sound=0
  · rw [if_pos h0]
    rw [h0] at hS
    (repeat first|apply wA|apply wB|apply wC|apply wE|(apply zM;·kernel_rfl));refine wF ?_;refine wH rfl ?_;(repeat first|apply wA|apply wB|apply wC|apply wE|(apply zM;·kernel_rfl))
    refine AW.text ?_
    refine wH rfl ?_
    refine RG.callS rfl rfl rfl rfl rfl hS rfl rfl ?_
    refine wH rfl ?_;(repeat first|apply wA|apply wB|apply wC|apply wE|(apply zM;·kernel_rfl))
    refine AW.text ?_
    by_cases g1:V<0
    · rw [if_pos (.inl g1)]
      refine RG.runO ty_ok 0 [(12,.b true)] 400 rfl (by repeat' (first|exact trivial|apply And.intro|exact dT ‹_›|exact dF ‹_›|exact dN ‹_›|exact dM ‹_›|exact dI ‹_›)) ?_
      (repeat first|apply wA|apply wB|apply wC|apply wE|(apply zM;·kernel_rfl));refine AW.condT rfl ?_;(repeat first|apply wA|apply wB|apply wC|apply wE|(apply zM;·kernel_rfl)|refine zI rfl ?_|refine zJ rfl ?_)
      refine AW.ret (retQA ty_ok rfl rfl rfl ?_)
      rfl
    by_cases g2:V>255
    · rw [if_pos (.inr g2)]
      refine RG.runO ty_ok 0 [(12,.b false),(15,.b true)] 400 rfl (by repeat' (first|exact trivial|apply And.intro|exact dT ‹_›|exact dF ‹_›|exact dN ‹_›|exact dM ‹_›|exact dI ‹_›)) ?_
      (repeat first|apply wA|apply wB|apply wC|apply wE|(apply zM;·kernel_rfl));refine AW.condT rfl ?_;(repeat first|apply wA|apply wB|apply wC|apply wE|(apply zM;·kernel_rfl)|refine zI rfl ?_|refine zJ rfl ?_)
      refine AW.ret (retQA ty_ok rfl rfl rfl ?_)
      rfl
    · rw [if_neg (by omega)]
      refine RG.runO ty_ok 0 [(12,.b false),(15,.b false)] 400 rfl (by repeat' (first|exact trivial|apply And.intro|exact dT ‹_›|exact dF ‹_›|exact dN ‹_›|exact dM ‹_›|exact dI ‹_›)) ?_
      (repeat first|apply wA|apply wB|apply wC|apply wE|(apply zM;·kernel_rfl));refine AW.condF rfl ?_;(repeat first|apply wA|apply wB|apply wC|apply wE|(apply zM;·kernel_rfl)|refine zI rfl ?_|refine zJ rfl ?_)
      refine AW.ret (retQA ty_ok rfl rfl rfl ?_)
      rfl
  · rw [if_neg h0]
    (repeat first|apply wA|apply wB|apply wC|apply wE|(apply zM;·kernel_rfl));refine wF ?_;refine wH rfl ?_;(repeat first|apply wA|apply wB|apply wC|apply wE|(apply zM;·kernel_rfl))
    refine AW.text ?_
    refine wH rfl ?_
    refine RG.callS rfl rfl rfl rfl rfl hS rfl rfl ?_
    refine wH rfl ?_;(repeat first|apply wA|apply wB|apply wC|apply wE|(apply zM;·kernel_rfl))
    refine AW.text ?_
    refine RG.runO ty_ok 0 [(9,.b false)] 400 rfl (by repeat' (first|exact trivial|apply And.intro|exact dT ‹_›|exact dF ‹_›|exact dN ‹_›|exact dM ‹_›|exact dI ‹_›)) ?_
    (repeat first|apply wA|apply wB|apply wC|apply wE|(apply zM;·kernel_rfl));refine AW.condF rfl ?_;(repeat first|apply wA|apply wB|apply wC|apply wE|(apply zM;·kernel_rfl)|refine zI rfl ?_|refine zJ rfl ?_)
    refine AW.ret (retQA ty_ok rfl rfl rfl ?_)
    rfl
theorem d_bare15 (k e:Int):PDoes Tryz.prog 34 [.agg (cVd (vdE k e)),.i .i64 k,.i .i64 e] (.b true):=by
 refine PDoes.of_bodyN Tryz.func34 rfl (by kernel_rfl) rfl rfl ?_
 have hk:k=k:=rfl
 have he:e=e:=rfl
 (repeat first|apply wA|apply wB|apply wC|apply wE|(apply zM;·kernel_rfl));refine wF ?_;refine wH rfl ?_;(repeat first|apply wA|apply wB|apply wC|apply wE|(apply zM;·kernel_rfl))
 refine AW.text ?_
 refine RG.runO ty_ok 0 [(10,.b true),(15,.b true)] 400 rfl (by repeat' (first|exact trivial|apply And.intro|exact dT ‹_›|exact dF ‹_›|exact dN ‹_›|exact dM ‹_›|exact dI ‹_›)) ?_
 refine RG.opS rfl (op_eqG rfl ty_ok (by kernel_rfl) (by kernel_rfl) rfl rfl (eq_Sp Sp.zero Sp.zero) (decide_eq_true rfl)) rfl ?_
 refine wH rfl ?_
 refine RG.opS rfl (op_eqG rfl ty_ok (by kernel_rfl) (by kernel_rfl) rfl rfl (eq_Hd Hd.zero Hd.zero) (decide_eq_true rfl)) rfl ?_
 refine wH rfl ?_
 refine RG.callS rfl rfl rfl rfl rfl (d_rSame Run.zero Run.zero true (by decide)) rfl rfl ?_;refine wH rfl ?_;(repeat first|apply wA|apply wB|apply wC|apply wE|(apply zM;·kernel_rfl)|refine zI rfl ?_|refine zJ rfl ?_)
 refine AW.ret (retQA ty_ok rfl rfl rfl ?_)
 rfl
theorem malE_nat {c:Cf} {V:Int} (h:malE c V=0):∃v:Nat,V=v∧v≤255:=by
 rw [malE,if_pos (malE_sound h)] at h
 split at h
 ·cases h
 ·exact ⟨V.toNat,by omega,by omega⟩
theorem JudgeSafe_d (c:Cf) (V:Int) (s:Sp) (h:Hd) (hL:c.Lens):PDoes Tryz.prog 8 [.agg (cCf c),.i .i64 V,.agg (cSp s),.agg (cHd h)] (.b true):=by
  refine PDoes.of_bodyN Tryz.func8 rfl (by kernel_rfl) rfl rfl ?_
  have hJ:=d_JudgeG c V hL
  have hW:=d_wrong15 c V
  by_cases h0:malE c V=0
  rotate_left
  · have e:judgeG c V=vdE 3 (malE c V):=by rw [judgeG,judgeOf,decide_eq_false h0];rfl
    rw [e] at hJ
    have hb:=d_bare15 3 (malE c V)
    generalize malE c V=m at h0 hJ hW hb
    (repeat first|apply wA|apply wB|apply wC|apply wE|(apply zM;·kernel_rfl));refine wF ?_;refine wH rfl ?_;(repeat first|apply wA|apply wB|apply wC|apply wE|(apply zM;·kernel_rfl))
    refine AW.text ?_
    refine wH rfl ?_
    refine RG.callMS rfl rfl rfl rfl rfl rfl hJ rfl ?_;refine wH rfl ?_;(repeat first|apply wA|apply wB|apply wC|apply wE|(apply zM;·kernel_rfl)|refine zI rfl ?_|refine zJ rfl ?_)
    refine RG.callS rfl rfl rfl rfl rfl hW rfl rfl ?_;refine wH rfl ?_;(repeat first|apply wA|apply wB|apply wC|apply wE|(apply zM;·kernel_rfl)|refine zI rfl ?_|refine zJ rfl ?_)
    refine AW.cond rfl (fun k=>?_) (fun k=>?_)
    · (repeat first|apply wA|apply wB|apply wC|apply wE|(apply zM;·kernel_rfl)|refine zI rfl ?_|refine zJ rfl ?_)
      refine RG.callS rfl rfl rfl rfl rfl d_awake15 rfl rfl ?_
      refine wH rfl ?_
      refine RG.callS rfl rfl rfl rfl rfl hb rfl rfl ?_;refine wH rfl ?_;(repeat first|apply wA|apply wB|apply wC|apply wE|(apply zM;·kernel_rfl)|refine zI rfl ?_|refine zJ rfl ?_)
      refine AW.ret (retQA ty_ok rfl rfl rfl ?_)
      rfl
    · exact absurd (by simpa using k) h0
  obtain ⟨v,rfl,hv⟩:=malE_nat h0
  have hs0:=malE_sound h0
  have hc:=Cf.ok hs0
  rw [h0] at hW
  rcases judgeG_cases c v hv hs0 with ⟨e,he,hj⟩ | ⟨hj,hall⟩ | ⟨s',h',hs',hw,hj⟩
  · rw [hj] at hJ
    have hb:=d_bare15 4 e
    have hr:∀b:Bool,b=true→b=true:=fun _ h=>h
    rcases he with rfl | rfl
    · (repeat first|apply wA|apply wB|apply wC|apply wE|(apply zM;·kernel_rfl));refine wF ?_;refine wH rfl ?_;(repeat first|apply wA|apply wB|apply wC|apply wE|(apply zM;·kernel_rfl))
      refine AW.text ?_
      refine wH rfl ?_
      refine RG.callMS rfl rfl rfl rfl rfl rfl hJ rfl ?_;refine wH rfl ?_;(repeat first|apply wA|apply wB|apply wC|apply wE|(apply zM;·kernel_rfl)|refine zI rfl ?_|refine zJ rfl ?_)
      refine RG.callS rfl rfl rfl rfl rfl hW rfl rfl ?_;refine wH rfl ?_;(repeat first|apply wA|apply wB|apply wC|apply wE|(apply zM;·kernel_rfl)|refine zI rfl ?_|refine zJ rfl ?_)
      refine AW.condF rfl ?_;(repeat first|apply wA|apply wB|apply wC|apply wE|(apply zM;·kernel_rfl)|refine zI rfl ?_|refine zJ rfl ?_)
      refine AW.condF rfl ?_;(repeat first|apply wA|apply wB|apply wC|apply wE|(apply zM;·kernel_rfl)|refine zI rfl ?_|refine zJ rfl ?_)
      refine AW.condF rfl ?_;(repeat first|apply wA|apply wB|apply wC|apply wE|(apply zM;·kernel_rfl)|refine zI rfl ?_|refine zJ rfl ?_)
      refine RG.callS rfl rfl rfl rfl rfl d_awake15 rfl rfl ?_
      refine wH rfl ?_
      refine RG.callS rfl rfl rfl rfl rfl hb rfl rfl ?_;refine wH rfl ?_;(repeat first|apply wA|apply wB|apply wC|apply wE|(apply zM;·kernel_rfl)|refine zI rfl ?_|refine zJ rfl ?_)
      refine AW.ret (retQA ty_ok rfl rfl rfl ?_)
      rfl
    · (repeat first|apply wA|apply wB|apply wC|apply wE|(apply zM;·kernel_rfl));refine wF ?_;refine wH rfl ?_;(repeat first|apply wA|apply wB|apply wC|apply wE|(apply zM;·kernel_rfl))
      refine AW.text ?_
      refine wH rfl ?_
      refine RG.callMS rfl rfl rfl rfl rfl rfl hJ rfl ?_;refine wH rfl ?_;(repeat first|apply wA|apply wB|apply wC|apply wE|(apply zM;·kernel_rfl)|refine zI rfl ?_|refine zJ rfl ?_)
      refine RG.callS rfl rfl rfl rfl rfl hW rfl rfl ?_;refine wH rfl ?_;(repeat first|apply wA|apply wB|apply wC|apply wE|(apply zM;·kernel_rfl)|refine zI rfl ?_|refine zJ rfl ?_)
      refine AW.condF rfl ?_;(repeat first|apply wA|apply wB|apply wC|apply wE|(apply zM;·kernel_rfl)|refine zI rfl ?_|refine zJ rfl ?_)
      refine AW.condF rfl ?_;(repeat first|apply wA|apply wB|apply wC|apply wE|(apply zM;·kernel_rfl)|refine zI rfl ?_|refine zJ rfl ?_)
      refine AW.condF rfl ?_;(repeat first|apply wA|apply wB|apply wC|apply wE|(apply zM;·kernel_rfl)|refine zI rfl ?_|refine zJ rfl ?_)
      refine RG.callS rfl rfl rfl rfl rfl d_awake15 rfl rfl ?_
      refine wH rfl ?_
      refine RG.callS rfl rfl rfl rfl rfl hb rfl rfl ?_;refine wH rfl ?_;(repeat first|apply wA|apply wB|apply wC|apply wE|(apply zM;·kernel_rfl)|refine zI rfl ?_|refine zJ rfl ?_)
      refine AW.ret (retQA ty_ok rfl rfl rfl ?_)
      rfl
  · rw [hj] at hJ
    have hb:=d_bare15 1 0
    (repeat first|apply wA|apply wB|apply wC|apply wE|(apply zM;·kernel_rfl));refine wF ?_;refine wH rfl ?_;(repeat first|apply wA|apply wB|apply wC|apply wE|(apply zM;·kernel_rfl))
    refine AW.text ?_
    refine wH rfl ?_
    refine RG.callMS rfl rfl rfl rfl rfl rfl hJ rfl ?_;refine wH rfl ?_;(repeat first|apply wA|apply wB|apply wC|apply wE|(apply zM;·kernel_rfl)|refine zI rfl ?_|refine zJ rfl ?_)
    refine RG.callS rfl rfl rfl rfl rfl hW rfl rfl ?_;refine wH rfl ?_;(repeat first|apply wA|apply wB|apply wC|apply wE|(apply zM;·kernel_rfl)|refine zI rfl ?_|refine zJ rfl ?_)
    refine AW.condF rfl ?_;(repeat first|apply wA|apply wB|apply wC|apply wE|(apply zM;·kernel_rfl)|refine zI rfl ?_|refine zJ rfl ?_)
    refine AW.condT rfl ?_;(repeat first|apply wA|apply wB|apply wC|apply wE|(apply zM;·kernel_rfl))
    refine AW.text ?_
    refine wH rfl ?_
    refine RG.callS rfl rfl rfl rfl rfl hb rfl rfl ?_
    refine wH rfl ?_
    refine RG.callS rfl rfl rfl rfl rfl (d_Edge c.topo.ports s) rfl rfl ?_
    by_cases g1:edgeOf c.topo.ports s<0
    · refine RG.runO ty_ok 0 [(39,.b true)] 400 rfl (by repeat' (first|exact trivial|apply And.intro|exact dT ‹_›|exact dF ‹_›|exact dN ‹_›|exact dM ‹_›|exact dI ‹_›)) ?_
      (repeat first|apply wA|apply wB|apply wC|apply wE|(apply zM;·kernel_rfl));refine AW.condT rfl ?_;(repeat first|apply wA|apply wB|apply wC|apply wE|(apply zM;·kernel_rfl)|refine zI rfl ?_|refine zJ rfl ?_)
      refine RG.callS rfl rfl rfl rfl rfl d_awake15 rfl rfl ?_
      refine wH rfl ?_
      refine RG.callS rfl rfl rfl rfl rfl hb rfl rfl ?_;refine wH rfl ?_;(repeat first|apply wA|apply wB|apply wC|apply wE|(apply zM;·kernel_rfl)|refine zI rfl ?_|refine zJ rfl ?_)
      refine AW.ret (retQA ty_ok rfl rfl rfl ?_)
      rfl
    · have hs:s∈edges c.topo.ports:=(edgeOf_iff hc.topo).1 (by omega)
      have hRun:=d_rRun c hc s hs h v 10800 hv (by decide)
      have hWr:=d_rWrong c hc s (runOf c s h v 10800)
      rw [hall s hs h] at hWr
      generalize runOf c s h v 10800=r at hRun hWr
      refine RG.runO ty_ok 0 [(39,.b false)] 400 rfl (by repeat' (first|exact trivial|apply And.intro|exact dT ‹_›|exact dF ‹_›|exact dN ‹_›|exact dM ‹_›|exact dI ‹_›)) ?_
      (repeat first|apply wA|apply wB|apply wC|apply wE|(apply zM;·kernel_rfl));refine AW.condF rfl ?_;(repeat first|apply wA|apply wB|apply wC|apply wE|(apply zM;·kernel_rfl)|refine zI rfl ?_|refine zJ rfl ?_)
      refine RG.callS rfl rfl rfl rfl rfl d_awake15 rfl rfl ?_
      refine wH rfl ?_
      refine RG.callMS rfl rfl rfl rfl rfl rfl hRun rfl ?_
      refine wH rfl ?_
      refine RG.callS rfl rfl rfl rfl rfl hWr rfl rfl ?_;refine wH rfl ?_;(repeat first|apply wA|apply wB|apply wC|apply wE|(apply zM;·kernel_rfl)|refine zI rfl ?_|refine zJ rfl ?_)
      refine AW.ret (retQA ty_ok rfl rfl rfl ?_)
      rfl
  · rw [hj] at hJ
    have hE:=d_Edge c.topo.ports s'
    have g1:¬edgeOf c.topo.ports s'<0:=by have:=(edgeOf_iff hc.topo).2 hs';omega
    have hRun:=d_rRun c hc s' hs' h' v 10800 hv (by decide)
    have hWr:=d_rWrong c hc s' (runOf c s' h' v 10800)
    have hSm:=d_rSame (runOf c s' h' v 10800) (runOf c s' h' v 10800) true (runEq_iff.2 rfl)
    generalize wrongOf c s' (runOf c s' h' v 10800)=w at hw hJ hWr
    generalize runOf c s' h' v 10800=r at hRun hWr hJ hSm
    generalize edgeOf c.topo.ports s'=ed at hE g1
    have hww:w=w:=rfl
    (repeat first|apply wA|apply wB|apply wC|apply wE|(apply zM;·kernel_rfl));refine wF ?_;refine wH rfl ?_;(repeat first|apply wA|apply wB|apply wC|apply wE|(apply zM;·kernel_rfl))
    refine AW.text ?_
    refine wH rfl ?_
    refine RG.callMS rfl rfl rfl rfl rfl rfl hJ rfl ?_;refine wH rfl ?_;(repeat first|apply wA|apply wB|apply wC|apply wE|(apply zM;·kernel_rfl)|refine zI rfl ?_|refine zJ rfl ?_)
    refine RG.callS rfl rfl rfl rfl rfl hW rfl rfl ?_;refine wH rfl ?_;(repeat first|apply wA|apply wB|apply wC|apply wE|(apply zM;·kernel_rfl)|refine zI rfl ?_|refine zJ rfl ?_)
    refine AW.condF rfl ?_;(repeat first|apply wA|apply wB|apply wC|apply wE|(apply zM;·kernel_rfl)|refine zI rfl ?_|refine zJ rfl ?_)
    refine AW.condF rfl ?_;(repeat first|apply wA|apply wB|apply wC|apply wE|(apply zM;·kernel_rfl)|refine zI rfl ?_|refine zJ rfl ?_)
    refine AW.condT rfl ?_;(repeat first|apply wA|apply wB|apply wC|apply wE|(apply zM;·kernel_rfl))
    refine AW.text ?_
    refine wH rfl ?_
    refine RG.callS rfl rfl rfl rfl rfl hE rfl rfl ?_
    refine RG.runO ty_ok 0 [(71,.b false),(76,.b false)] 400 rfl (by repeat' (first|exact trivial|apply And.intro|exact dT ‹_›|exact dF ‹_›|exact dN ‹_›|exact dM ‹_›|exact dI ‹_›)) ?_
    (repeat first|apply wA|apply wB|apply wC|apply wE|(apply zM;·kernel_rfl));refine AW.condF rfl ?_;(repeat first|apply wA|apply wB|apply wC|apply wE|(apply zM;·kernel_rfl)|refine zI rfl ?_|refine zJ rfl ?_)
    refine RG.callMS rfl rfl rfl rfl rfl rfl hRun rfl ?_;refine wH rfl ?_;(repeat first|apply wA|apply wB|apply wC|apply wE|(apply zM;·kernel_rfl)|refine zI rfl ?_|refine zJ rfl ?_)
    refine RG.callS rfl rfl rfl rfl rfl d_awake15 rfl rfl ?_
    refine wH rfl ?_
    refine RG.callS rfl rfl rfl rfl rfl hSm rfl rfl ?_
    refine wH rfl ?_
    refine RG.callS rfl rfl rfl rfl rfl hWr rfl rfl ?_
    refine RG.runO ty_ok 0 [(100,.b true)] 400 rfl (by repeat' (first|exact trivial|apply And.intro|exact dT ‹_›|exact dF ‹_›|exact dN ‹_›|exact dM ‹_›|exact dI ‹_›)) ?_
    (repeat first|apply wA|apply wB|apply wC|apply wE|(apply zM;·kernel_rfl))
    refine AW.ret (retQA ty_ok rfl rfl rfl ?_)
    rfl
end Go.Proofs.YtahjjfhjjbgjaaaGreat.Sm
end
section
namespace Go.Proofs.YtahjjfhjjbgjaaaGreat
open Go.RowKit Go.WideShapes Go.ChangeShapes Go.Deep Sm
theorem JudgeSafe_law {H:Type} {e:TypeId × Value→H} (W:World) (b0:Nat)
  (v0:Value) (d0:DataW H) (p0:List MemPlace) (ok0:Value.okWide Tryz.prog W .any b0 31 v0) (h0:DataW.Trod e Tryz.prog W 0 (fun _=>true) true 31 v0 d0 p0)
  (v1:Value) (d1:DataW H) (p1:List MemPlace) (ok1:Value.okWide Tryz.prog W .any b0 3 v1) (h1:DataW.Trod e Tryz.prog W 0 (fun _=>true) true 3 v1 d1 p1)
  (v2:Value) (d2:DataW H) (p2:List MemPlace) (ok2:Value.okWide Tryz.prog W .any b0 33 v2) (h2:DataW.Trod e Tryz.prog W 0 (fun _=>true) true 33 v2 d2 p2)
  (v3:Value) (d3:DataW H) (p3:List MemPlace) (ok3:Value.okWide Tryz.prog W .any b0 36 v3) (h3:DataW.Trod e Tryz.prog W 0 (fun _=>true) true 36 v3 d3 p3)
  (hsz:(DataW.weightsEach Tryz.prog [31,3,33,36] [d0,d1,d2,d3]).all (·≤reachBytes)=true)
  : Calls Tryz.prog 8 #[v0,v1,v2,v3] W fun e W'=>e = .returned (.bool true)∧Kp No W W':=by
 obtain ⟨a0,r0,q0⟩:=rz_Cf.arg_struct Tryz.underlying31 hsz 0 rfl rfl ok0 h0
 obtain ⟨a1,r1⟩:=ra_int.arg_int Tryz.underlying3 ok1 h1
 obtain ⟨a2,r2⟩:=ra_Sp.arg_struct Tryz.underlying33 ok2 h2
 obtain ⟨a3,r3⟩:=ra_Hd.arg_struct Tryz.underlying36 ok3 h3
 exact (JudgeSafe_d a0 a1 a2 a3 q0).law (vs:=[v0,v1,v2,v3]) rfl (pw_cons r0 (pw_cons r1 (pw_cons r2 (pw_cons r3 (pw_nil)))))
end Go.Proofs.YtahjjfhjjbgjaaaGreat
end
