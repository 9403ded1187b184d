/- Contracts of the program's functions over data, and the plain laws that they meet (part 7). No condition. -/
import Derived.Test.YtahjjfhjjbgjaaaGreatJyf
import Derived.WalkKit
import Derived.WalkSpells
import Derived.WalkLawsBesides
import Derived.Lib.Hide
import Derived.Deep.RegionHeld3
import Derived.Maps.AppendAt
import Derived.KernelRfl
import Derived.Lib.AppendStr
import Derived.Orders
import Derived.LoopTactic
import Derived.Laws.CopyRow
import Derived.Laws.Cells
import Derived.Great.BuildSlice
import Derived.Laws.ResultCell
import Derived.Laws.StructEq
import Derived.Laws.MakeOwn
import Derived.Deep.Slices
import Derived.Deep.Fields
import Derived.ChangeSame
import Derived.ProofKit
import Derived.OpenShut
import Derived.SizedLaws
import Derived.Test.YtahjjfhjjbgjaaaGreatProg
import Derived.Shelf.Spec.BitsCarry
import Derived.Lib.AppendZerosOnto
import Derived.DeepKeys4
import Derived.MapKept
import Derived.Sort.AssemblyPlain
import Derived.Sort.LotD4
import Derived.Sort.Walk13a
set_option linter.unusedVariables false
set_option linter.unusedSimpArgs false
set_option maxRecDepth 100000
set_option maxHeartbeats 4000000
section
namespace Go.Proofs.YtahjjfhjjbgjaaaGreat.Sm
open Go.RowKit
theorem JudgeFinds_d (c:Cf) (vb:UInt8) (s:Sp) (hs:List Hd) (hL:c.Lens):PDoes Tryz.prog 9 [.agg (cCf c),.y vb,.agg (cSp s),.sl (hs.map cHd)] (.b true):=by
  refine PDoes.of_bodyN Tryz.func9 rfl (by kernel_rfl) rfl rfl ?_
  have hv:vb.toNat≤255:=by have:=UInt8.toNat_lt vb;omega
  have hJ:=d_JudgeG c ((vb.toNat:Nat):Int) hL
  have hS:=d_rCSound c
  have wv:IntKind.i64.wrap ((vb.toNat:Nat):Int)=((vb.toNat:Nat):Int):=by rw [IntKind.wrap_i64];omega
  by_cases h0:c.sound=0
  rotate_left
  · have e:judgeG c ((vb.toNat:Nat):Int)=vdE 3 (malE c ((vb.toNat:Nat):Int)):=by rw [judgeG,judgeOf,decide_eq_false (fun h=>h0 (malE_sound h))];rfl
    rw [e] at hJ
    (repeat first|apply wA|apply wB|apply wC|apply wE|(apply zM;·kernel_rfl));refine wF ?_;refine wH rfl ?_;(repeat first|apply wA|apply wB|apply wC|apply wE|(apply zM;·kernel_rfl))
    refine AW.text ?_
    refine RG.runO ty_ok 0 [(13,.i .i64 ((vb.toNat:Nat):Int))] 400 rfl (by repeat' (first|exact trivial|apply And.intro|exact dT ‹_›|exact dF ‹_›|exact dN ‹_›|exact dM ‹_›|exact dI ‹_›)) ?_
    refine RG.callMS rfl rfl rfl rfl rfl rfl hJ rfl ?_;refine wH rfl ?_;(repeat first|apply wA|apply wB|apply wC|apply wE|(apply zM;·kernel_rfl)|refine zI rfl ?_|refine zJ rfl ?_)
    refine RG.callS rfl rfl rfl rfl rfl d_awake15 rfl rfl ?_
    refine wH rfl ?_
    refine RG.callS rfl rfl rfl rfl rfl hS rfl rfl ?_
    refine RG.runO ty_ok 0 [(20,.b true)] 400 rfl (by repeat' (first|exact trivial|apply And.intro|exact dT ‹_›|exact dF ‹_›|exact dN ‹_›|exact dM ‹_›|exact dI ‹_›)) ?_
    (repeat first|apply wA|apply wB|apply wC|apply wE|(apply zM;·kernel_rfl));refine AW.condT rfl ?_;(repeat first|apply wA|apply wB|apply wC|apply wE|(apply zM;·kernel_rfl)|refine zI rfl ?_|refine zJ rfl ?_)
    refine RG.callS rfl rfl rfl rfl rfl d_awake15 rfl rfl ?_;refine wH rfl ?_;(repeat first|apply wA|apply wB|apply wC|apply wE|(apply zM;·kernel_rfl)|refine zI rfl ?_|refine zJ rfl ?_)
    refine AW.ret (retQA ty_ok rfl rfl rfl ?_)
    rfl
  have hc:=Cf.ok h0
  rw [h0] at hS
  have hE:=d_Edge c.topo.ports s
  have hml:hs.length≤9223372036854775807∨True:=.inr trivial
  rcases judgeG_cases c vb.toNat hv h0 with ⟨e,he,hj⟩ | ⟨hj,hall⟩ | ⟨s',h',hs',hw,hj⟩
  · rw [hj] at hJ
    (repeat first|apply wA|apply wB|apply wC|apply wE|(apply zM;·kernel_rfl));refine wF ?_;refine wH rfl ?_;(repeat first|apply wA|apply wB|apply wC|apply wE|(apply zM;·kernel_rfl))
    refine AW.text ?_
    refine RG.runO ty_ok 0 [(13,.i .i64 ((vb.toNat:Nat):Int))] 400 rfl (by repeat' (first|exact trivial|apply And.intro|exact dT ‹_›|exact dF ‹_›|exact dN ‹_›|exact dM ‹_›|exact dI ‹_›)) ?_
    refine RG.callMS rfl rfl rfl rfl rfl rfl hJ rfl ?_;refine wH rfl ?_;(repeat first|apply wA|apply wB|apply wC|apply wE|(apply zM;·kernel_rfl)|refine zI rfl ?_|refine zJ rfl ?_)
    refine RG.callS rfl rfl rfl rfl rfl d_awake15 rfl rfl ?_
    refine wH rfl ?_
    refine RG.callS rfl rfl rfl rfl rfl hS rfl rfl ?_
    refine wH rfl ?_
    refine RG.callS rfl rfl rfl rfl rfl hE rfl rfl ?_
    by_cases g1:edgeOf c.topo.ports s<0
    · refine RG.runO ty_ok 0 [(27,.b true)] 400 rfl (by repeat' (first|exact trivial|apply And.intro|exact dT ‹_›|exact dF ‹_›|exact dN ‹_›|exact dM ‹_›|exact dI ‹_›)) ?_
      (repeat first|apply wA|apply wB|apply wC|apply wE|(apply zM;·kernel_rfl));refine AW.condT rfl ?_;(repeat first|apply wA|apply wB|apply wC|apply wE|(apply zM;·kernel_rfl)|refine zI rfl ?_|refine zJ rfl ?_)
      refine RG.callS rfl rfl rfl rfl rfl d_awake15 rfl rfl ?_;refine wH rfl ?_;(repeat first|apply wA|apply wB|apply wC|apply wE|(apply zM;·kernel_rfl)|refine zI rfl ?_|refine zJ rfl ?_)
      refine AW.ret (retQA ty_ok rfl rfl rfl ?_)
      rfl
    have hsE:s∈edges c.topo.ports:=(edgeOf_iff hc.topo).1 (by omega)
    refine RG.runO ty_ok 0 [(27,.b false)] 400 rfl (by repeat' (first|exact trivial|apply And.intro|exact dT ‹_›|exact dF ‹_›|exact dN ‹_›|exact dM ‹_›|exact dI ‹_›)) ?_
    (repeat first|apply wA|apply wB|apply wC|apply wE|(apply zM;·kernel_rfl));refine AW.condF rfl ?_;(repeat first|apply wA|apply wB|apply wC|apply wE|(apply zM;·kernel_rfl)|refine zI rfl ?_|refine zJ rfl ?_)
    refine AW.lens 3 rfl fun hml=>?_
    rw [List.length_map] at hml
    refine AW.loopL (ι:=Nat) (fun k=>[(1,.y vb),(3,.sl (hs.map cHd)),(4,.own 4 0 0),(6,.own 6 0 0),(9,.own 9 0 0),(10,.i .i64 (k:Nat))]) (fun _=>[(4,⟨0,some (.box 31 (cCf c))⟩),(6,⟨0,some (.box 33 (cSp s))⟩),(9,⟨0,some (.box 64 (cVd (vdE 4 e)))⟩)]) (fun k=>k≤hs.length) (fun k=>hs.length - k) 0 (Nat.zero_le _) (by repeat(first|exact trivial|refine ⟨rI rfl rfl,?_⟩|refine ⟨rO rfl rfl rfl,?_⟩|refine ⟨rR rfl rfl rfl,?_⟩|refine ⟨bR rfl rfl,?_⟩|refine ⟨bS rfl rfl rfl,?_⟩)) (by repeat(first|exact trivial|refine ⟨rI rfl rfl,?_⟩|refine ⟨rO rfl rfl rfl,?_⟩|refine ⟨rR rfl rfl rfl,?_⟩|refine ⟨bR rfl rfl,?_⟩|refine ⟨bS rfl rfl rfl,?_⟩)) fun k hk=>?_
    (repeat first|apply wA|apply wB|apply wC|apply wE|(apply zM;·kernel_rfl))
    refine AW.text ?_
    have el:(hs.map cHd).length=hs.length:=List.length_map ..
    by_cases g1:((k:Nat):Int)<((hs.map cHd).length:Nat)
    · by_cases g2:((k:Nat):Int)<20
      · refine RG.runO ty_ok 0 [(43,.b true),(46,.b true)] 400 rfl (by repeat' (first|exact trivial|apply And.intro|exact dT ‹_›|exact dF ‹_›|exact dN ‹_›|exact dM ‹_›|exact dI ‹_›)) ?_
        have h:k<hs.length:=by omega
        have hRun:=d_rRun c hc s hsE hs[k] vb.toNat 10800 hv (by decide)
        have hWr:=d_rWrong c hc s (runOf c s hs[k] ((vb.toNat:Nat):Int) 10800)
        (repeat first|apply wA|apply wB|apply wC|apply wE|(apply zM;·kernel_rfl));refine AW.condT rfl ?_;(repeat first|apply wA|apply wB|apply wC|apply wE|(apply zM;·kernel_rfl))
        refine AW.draws mixed_ok ?_
        refine wH rfl ?_
        refine RG.opS rfl (op_index rfl (tab_ok ty_ok rfl) rfl (tab_ok ty_ok rfl) rfl rfl (show (hs.map cHd)[k]?=some (cHd hs[k]) by rw [List.getElem?_map,List.getElem?_eq_getElem (by assumption)];rfl) rfl) rfl ?_
        refine RG.runO ty_ok 0 [(59,.i .i64 ((vb.toNat:Nat):Int))] 400 rfl (by repeat' (first|exact trivial|apply And.intro|exact dT ‹_›|exact dF ‹_›|exact dN ‹_›|exact dM ‹_›|exact dI ‹_›)) ?_
        generalize runOf c s hs[k] ((vb.toNat:Nat):Int) 10800=r at hRun hWr
        generalize wrongOf c s r=ww at hWr
        refine RG.callMS rfl rfl rfl rfl rfl rfl hRun rfl ?_
        refine wH rfl ?_
        refine RG.callS rfl rfl rfl rfl rfl hWr rfl rfl ?_;refine wH rfl ?_;(repeat first|apply wA|apply wB|apply wC|apply wE|(apply zM;·kernel_rfl)|refine zI rfl ?_|refine zJ rfl ?_)
        refine AW.cond rfl (fun _=>?_) (fun _=>?_)
        · (repeat first|apply wA|apply wB|apply wC|apply wE|(apply zM;·kernel_rfl)|refine zI rfl ?_|refine zJ rfl ?_)
          refine AW.ret (retQA ty_ok rfl rfl rfl ?_)
          rfl
        · (repeat first|apply wA|apply wB|apply wC|apply wE|(apply zM;·kernel_rfl)|refine zI rfl ?_|refine zJ rfl ?_)
          exact ⟨k+1,⟨h,by omega⟩,(by repeat(first|exact trivial|refine ⟨rI rfl rfl,?_⟩|refine ⟨rI (i64_next (by assumption) (by first|assumption|decide)) rfl,?_⟩|refine ⟨rO rfl rfl rfl,?_⟩|refine ⟨rR rfl rfl rfl,?_⟩|refine ⟨bR rfl rfl,?_⟩|refine ⟨bS rfl rfl rfl,?_⟩)),(by repeat(first|exact trivial|refine ⟨rI rfl rfl,?_⟩|refine ⟨rO rfl rfl rfl,?_⟩|refine ⟨rR rfl rfl rfl,?_⟩|refine ⟨bR rfl rfl,?_⟩|refine ⟨bS rfl rfl rfl,?_⟩))⟩
      · refine RG.runO ty_ok 0 [(43,.b true),(46,.b false)] 400 rfl (by repeat' (first|exact trivial|apply And.intro|exact dT ‹_›|exact dF ‹_›|exact dN ‹_›|exact dM ‹_›|exact dI ‹_›)) ?_
        (repeat first|apply wA|apply wB|apply wC|apply wE|(apply zM;·kernel_rfl));refine AW.condF rfl ?_;(repeat first|apply wA|apply wB|apply wC|apply wE|(apply zM;·kernel_rfl)|refine zI rfl ?_|refine zJ rfl ?_)
        refine AW.exit ?_;refine Eq.mpr (if_pos rfl) ?_;(repeat first|apply wA|apply wB|apply wC|apply wE|(apply zM;·kernel_rfl)|refine zI rfl ?_|refine zJ rfl ?_)
        refine AW.ret (retQA ty_ok rfl rfl rfl ?_)
        rfl
    · refine RG.runO ty_ok 0 [(43,.b false)] 400 rfl (by repeat' (first|exact trivial|apply And.intro|exact dT ‹_›|exact dF ‹_›|exact dN ‹_›|exact dM ‹_›|exact dI ‹_›)) ?_
      (repeat first|apply wA|apply wB|apply wC|apply wE|(apply zM;·kernel_rfl));refine AW.condF rfl ?_;(repeat first|apply wA|apply wB|apply wC|apply wE|(apply zM;·kernel_rfl)|refine zI rfl ?_|refine zJ rfl ?_)
      refine AW.exit ?_;refine Eq.mpr (if_pos rfl) ?_;(repeat first|apply wA|apply wB|apply wC|apply wE|(apply zM;·kernel_rfl)|refine zI rfl ?_|refine zJ rfl ?_)
      refine AW.ret (retQA ty_ok rfl rfl rfl ?_)
      rfl
  · rw [hj] at hJ
    (repeat first|apply wA|apply wB|apply wC|apply wE|(apply zM;·kernel_rfl));refine wF ?_;refine wH rfl ?_;(repeat first|apply wA|apply wB|apply wC|apply wE|(apply zM;·kernel_rfl))
    refine AW.text ?_
    refine RG.runO ty_ok 0 [(13,.i .i64 ((vb.toNat:Nat):Int))] 400 rfl (by repeat' (first|exact trivial|apply And.intro|exact dT ‹_›|exact dF ‹_›|exact dN ‹_›|exact dM ‹_›|exact dI ‹_›)) ?_
    refine RG.callMS rfl rfl rfl rfl rfl rfl hJ rfl ?_;refine wH rfl ?_;(repeat first|apply wA|apply wB|apply wC|apply wE|(apply zM;·kernel_rfl)|refine zI rfl ?_|refine zJ rfl ?_)
    refine RG.callS rfl rfl rfl rfl rfl d_awake15 rfl rfl ?_
    refine wH rfl ?_
    refine RG.callS rfl rfl rfl rfl rfl hS rfl rfl ?_
    refine wH rfl ?_
    refine RG.callS rfl rfl rfl rfl rfl hE rfl rfl ?_
    by_cases g1:edgeOf c.topo.ports s<0
    · refine RG.runO ty_ok 0 [(27,.b true)] 400 rfl (by repeat' (first|exact trivial|apply And.intro|exact dT ‹_›|exact dF ‹_›|exact dN ‹_›|exact dM ‹_›|exact dI ‹_›)) ?_
      (repeat first|apply wA|apply wB|apply wC|apply wE|(apply zM;·kernel_rfl));refine AW.condT rfl ?_;(repeat first|apply wA|apply wB|apply wC|apply wE|(apply zM;·kernel_rfl)|refine zI rfl ?_|refine zJ rfl ?_)
      refine RG.callS rfl rfl rfl rfl rfl d_awake15 rfl rfl ?_;refine wH rfl ?_;(repeat first|apply wA|apply wB|apply wC|apply wE|(apply zM;·kernel_rfl)|refine zI rfl ?_|refine zJ rfl ?_)
      refine RG.callS rfl rfl rfl rfl rfl hS rfl rfl ?_;refine wH rfl ?_;(repeat first|apply wA|apply wB|apply wC|apply wE|(apply zM;·kernel_rfl)|refine zI rfl ?_|refine zJ rfl ?_)
      refine AW.ret (retQA ty_ok rfl rfl rfl ?_)
      rfl
    have hsE:s∈edges c.topo.ports:=(edgeOf_iff hc.topo).1 (by omega)
    refine RG.runO ty_ok 0 [(27,.b false)] 400 rfl (by repeat' (first|exact trivial|apply And.intro|exact dT ‹_›|exact dF ‹_›|exact dN ‹_›|exact dM ‹_›|exact dI ‹_›)) ?_
    (repeat first|apply wA|apply wB|apply wC|apply wE|(apply zM;·kernel_rfl));refine AW.condF rfl ?_;(repeat first|apply wA|apply wB|apply wC|apply wE|(apply zM;·kernel_rfl)|refine zI rfl ?_|refine zJ rfl ?_)
    refine AW.lens 3 rfl fun hml=>?_
    rw [List.length_map] at hml
    refine AW.loopL (ι:=Nat) (fun k=>[(1,.y vb),(3,.sl (hs.map cHd)),(4,.own 4 0 0),(6,.own 6 0 0),(9,.own 9 0 0),(10,.i .i64 (k:Nat))]) (fun _=>[(4,⟨0,some (.box 31 (cCf c))⟩),(6,⟨0,some (.box 33 (cSp s))⟩),(9,⟨0,some (.box 64 (cVd (vdE 1 0)))⟩)]) (fun k=>k≤hs.length) (fun k=>hs.length - k) 0 (Nat.zero_le _) (by repeat(first|exact trivial|refine ⟨rI rfl rfl,?_⟩|refine ⟨rO rfl rfl rfl,?_⟩|refine ⟨rR rfl rfl rfl,?_⟩|refine ⟨bR rfl rfl,?_⟩|refine ⟨bS rfl rfl rfl,?_⟩)) (by repeat(first|exact trivial|refine ⟨rI rfl rfl,?_⟩|refine ⟨rO rfl rfl rfl,?_⟩|refine ⟨rR rfl rfl rfl,?_⟩|refine ⟨bR rfl rfl,?_⟩|refine ⟨bS rfl rfl rfl,?_⟩)) fun k hk=>?_
    (repeat first|apply wA|apply wB|apply wC|apply wE|(apply zM;·kernel_rfl))
    refine AW.text ?_
    have el:(hs.map cHd).length=hs.length:=List.length_map ..
    by_cases g1:((k:Nat):Int)<((hs.map cHd).length:Nat)
    · by_cases g2:((k:Nat):Int)<20
      · refine RG.runO ty_ok 0 [(43,.b true),(46,.b true)] 400 rfl (by repeat' (first|exact trivial|apply And.intro|exact dT ‹_›|exact dF ‹_›|exact dN ‹_›|exact dM ‹_›|exact dI ‹_›)) ?_
        have h:k<hs.length:=by omega
        have hRun:=d_rRun c hc s hsE hs[k] vb.toNat 10800 hv (by decide)
        have hWr:=d_rWrong c hc s (runOf c s hs[k] ((vb.toNat:Nat):Int) 10800)
        rw [hall s hsE hs[k]] at hWr
        (repeat first|apply wA|apply wB|apply wC|apply wE|(apply zM;·kernel_rfl));refine AW.condT rfl ?_;(repeat first|apply wA|apply wB|apply wC|apply wE|(apply zM;·kernel_rfl))
        refine AW.draws mixed_ok ?_
        refine wH rfl ?_
        refine RG.opS rfl (op_index rfl (tab_ok ty_ok rfl) rfl (tab_ok ty_ok rfl) rfl rfl (show (hs.map cHd)[k]?=some (cHd hs[k]) by rw [List.getElem?_map,List.getElem?_eq_getElem (by assumption)];rfl) rfl) rfl ?_
        refine RG.runO ty_ok 0 [(59,.i .i64 ((vb.toNat:Nat):Int))] 400 rfl (by repeat' (first|exact trivial|apply And.intro|exact dT ‹_›|exact dF ‹_›|exact dN ‹_›|exact dM ‹_›|exact dI ‹_›)) ?_
        generalize runOf c s hs[k] ((vb.toNat:Nat):Int) 10800=r at hRun hWr
        refine RG.callMS rfl rfl rfl rfl rfl rfl hRun rfl ?_
        refine wH rfl ?_
        refine RG.callS rfl rfl rfl rfl rfl hWr rfl rfl ?_;refine wH rfl ?_;(repeat first|apply wA|apply wB|apply wC|apply wE|(apply zM;·kernel_rfl)|refine zI rfl ?_|refine zJ rfl ?_)
        refine AW.condF rfl ?_;(repeat first|apply wA|apply wB|apply wC|apply wE|(apply zM;·kernel_rfl)|refine zI rfl ?_|refine zJ rfl ?_)
        exact ⟨k+1,⟨h,by omega⟩,(by repeat(first|exact trivial|refine ⟨rI rfl rfl,?_⟩|refine ⟨rI (i64_next (by assumption) (by first|assumption|decide)) rfl,?_⟩|refine ⟨rO rfl rfl rfl,?_⟩|refine ⟨rR rfl rfl rfl,?_⟩|refine ⟨bR rfl rfl,?_⟩|refine ⟨bS rfl rfl rfl,?_⟩)),(by repeat(first|exact trivial|refine ⟨rI rfl rfl,?_⟩|refine ⟨rO rfl rfl rfl,?_⟩|refine ⟨rR rfl rfl rfl,?_⟩|refine ⟨bR rfl rfl,?_⟩|refine ⟨bS rfl rfl rfl,?_⟩))⟩
      · refine RG.runO ty_ok 0 [(43,.b true),(46,.b false)] 400 rfl (by repeat' (first|exact trivial|apply And.intro|exact dT ‹_›|exact dF ‹_›|exact dN ‹_›|exact dM ‹_›|exact dI ‹_›)) ?_
        (repeat first|apply wA|apply wB|apply wC|apply wE|(apply zM;·kernel_rfl));refine AW.condF rfl ?_;(repeat first|apply wA|apply wB|apply wC|apply wE|(apply zM;·kernel_rfl)|refine zI rfl ?_|refine zJ rfl ?_)
        refine AW.exit ?_;refine Eq.mpr (if_pos rfl) ?_;(repeat first|apply wA|apply wB|apply wC|apply wE|(apply zM;·kernel_rfl)|refine zI rfl ?_|refine zJ rfl ?_)
        refine AW.ret (retQA ty_ok rfl rfl rfl ?_)
        rfl
    · refine RG.runO ty_ok 0 [(43,.b false)] 400 rfl (by repeat' (first|exact trivial|apply And.intro|exact dT ‹_›|exact dF ‹_›|exact dN ‹_›|exact dM ‹_›|exact dI ‹_›)) ?_
      (repeat first|apply wA|apply wB|apply wC|apply wE|(apply zM;·kernel_rfl));refine AW.condF rfl ?_;(repeat first|apply wA|apply wB|apply wC|apply wE|(apply zM;·kernel_rfl)|refine zI rfl ?_|refine zJ rfl ?_)
      refine AW.exit ?_;refine Eq.mpr (if_pos rfl) ?_;(repeat first|apply wA|apply wB|apply wC|apply wE|(apply zM;·kernel_rfl)|refine zI rfl ?_|refine zJ rfl ?_)
      refine AW.ret (retQA ty_ok rfl rfl rfl ?_)
      rfl
  · rw [hj] at hJ
    (repeat first|apply wA|apply wB|apply wC|apply wE|(apply zM;·kernel_rfl));refine wF ?_;refine wH rfl ?_;(repeat first|apply wA|apply wB|apply wC|apply wE|(apply zM;·kernel_rfl))
    refine AW.text ?_
    refine RG.runO ty_ok 0 [(13,.i .i64 ((vb.toNat:Nat):Int))] 400 rfl (by repeat' (first|exact trivial|apply And.intro|exact dT ‹_›|exact dF ‹_›|exact dN ‹_›|exact dM ‹_›|exact dI ‹_›)) ?_
    refine RG.callMS rfl rfl rfl rfl rfl rfl hJ rfl ?_;refine wH rfl ?_;(repeat first|apply wA|apply wB|apply wC|apply wE|(apply zM;·kernel_rfl)|refine zI rfl ?_|refine zJ rfl ?_)
    refine RG.callS rfl rfl rfl rfl rfl d_awake15 rfl rfl ?_
    refine wH rfl ?_
    refine RG.callS rfl rfl rfl rfl rfl hS rfl rfl ?_
    refine wH rfl ?_
    refine RG.callS rfl rfl rfl rfl rfl hE rfl rfl ?_
    by_cases g1:edgeOf c.topo.ports s<0
    · refine RG.runO ty_ok 0 [(27,.b true)] 400 rfl (by repeat' (first|exact trivial|apply And.intro|exact dT ‹_›|exact dF ‹_›|exact dN ‹_›|exact dM ‹_›|exact dI ‹_›)) ?_
      (repeat first|apply wA|apply wB|apply wC|apply wE|(apply zM;·kernel_rfl));refine AW.condT rfl ?_;(repeat first|apply wA|apply wB|apply wC|apply wE|(apply zM;·kernel_rfl)|refine zI rfl ?_|refine zJ rfl ?_)
      refine RG.callS rfl rfl rfl rfl rfl d_awake15 rfl rfl ?_;refine wH rfl ?_;(repeat first|apply wA|apply wB|apply wC|apply wE|(apply zM;·kernel_rfl)|refine zI rfl ?_|refine zJ rfl ?_)
      refine AW.ret (retQA ty_ok rfl rfl rfl ?_)
      rfl
    have hsE:s∈edges c.topo.ports:=(edgeOf_iff hc.topo).1 (by omega)
    refine RG.runO ty_ok 0 [(27,.b false)] 400 rfl (by repeat' (first|exact trivial|apply And.intro|exact dT ‹_›|exact dF ‹_›|exact dN ‹_›|exact dM ‹_›|exact dI ‹_›)) ?_
    (repeat first|apply wA|apply wB|apply wC|apply wE|(apply zM;·kernel_rfl));refine AW.condF rfl ?_;(repeat first|apply wA|apply wB|apply wC|apply wE|(apply zM;·kernel_rfl)|refine zI rfl ?_|refine zJ rfl ?_)
    refine AW.lens 3 rfl fun hml=>?_
    rw [List.length_map] at hml
    refine AW.loopL (ι:=Nat) (fun k=>[(1,.y vb),(3,.sl (hs.map cHd)),(4,.own 4 0 0),(6,.own 6 0 0),(9,.own 9 0 0),(10,.i .i64 (k:Nat))]) (fun _=>[(4,⟨0,some (.box 31 (cCf c))⟩),(6,⟨0,some (.box 33 (cSp s))⟩),(9,⟨0,some (.box 64 (cVd (⟨2,0,wrongOf c s' (runOf c s' h' ((vb.toNat:Nat):Int) 10800),s',h',runOf c s' h' ((vb.toNat:Nat):Int) 10800⟩)))⟩)]) (fun k=>k≤hs.length) (fun k=>hs.length - k) 0 (Nat.zero_le _) (by repeat(first|exact trivial|refine ⟨rI rfl rfl,?_⟩|refine ⟨rO rfl rfl rfl,?_⟩|refine ⟨rR rfl rfl rfl,?_⟩|refine ⟨bR rfl rfl,?_⟩|refine ⟨bS rfl rfl rfl,?_⟩)) (by repeat(first|exact trivial|refine ⟨rI rfl rfl,?_⟩|refine ⟨rO rfl rfl rfl,?_⟩|refine ⟨rR rfl rfl rfl,?_⟩|refine ⟨bR rfl rfl,?_⟩|refine ⟨bS rfl rfl rfl,?_⟩)) fun k hk=>?_
    (repeat first|apply wA|apply wB|apply wC|apply wE|(apply zM;·kernel_rfl))
    refine AW.text ?_
    have el:(hs.map cHd).length=hs.length:=List.length_map ..
    by_cases g1:((k:Nat):Int)<((hs.map cHd).length:Nat)
    · by_cases g2:((k:Nat):Int)<20
      · refine RG.runO ty_ok 0 [(43,.b true),(46,.b true)] 400 rfl (by repeat' (first|exact trivial|apply And.intro|exact dT ‹_›|exact dF ‹_›|exact dN ‹_›|exact dM ‹_›|exact dI ‹_›)) ?_
        have h:k<hs.length:=by omega
        have hRun:=d_rRun c hc s hsE hs[k] vb.toNat 10800 hv (by decide)
        have hWr:=d_rWrong c hc s (runOf c s hs[k] ((vb.toNat:Nat):Int) 10800)
        (repeat first|apply wA|apply wB|apply wC|apply wE|(apply zM;·kernel_rfl));refine AW.condT rfl ?_;(repeat first|apply wA|apply wB|apply wC|apply wE|(apply zM;·kernel_rfl))
        refine AW.draws mixed_ok ?_
        refine wH rfl ?_
        refine RG.opS rfl (op_index rfl (tab_ok ty_ok rfl) rfl (tab_ok ty_ok rfl) rfl rfl (show (hs.map cHd)[k]?=some (cHd hs[k]) by rw [List.getElem?_map,List.getElem?_eq_getElem (by assumption)];rfl) rfl) rfl ?_
        refine RG.runO ty_ok 0 [(59,.i .i64 ((vb.toNat:Nat):Int))] 400 rfl (by repeat' (first|exact trivial|apply And.intro|exact dT ‹_›|exact dF ‹_›|exact dN ‹_›|exact dM ‹_›|exact dI ‹_›)) ?_
        generalize runOf c s hs[k] ((vb.toNat:Nat):Int) 10800=r at hRun hWr
        generalize wrongOf c s r=ww at hWr
        refine RG.callMS rfl rfl rfl rfl rfl rfl hRun rfl ?_
        refine wH rfl ?_
        refine RG.callS rfl rfl rfl rfl rfl hWr rfl rfl ?_;refine wH rfl ?_;(repeat first|apply wA|apply wB|apply wC|apply wE|(apply zM;·kernel_rfl)|refine zI rfl ?_|refine zJ rfl ?_)
        refine AW.cond rfl (fun _=>?_) (fun _=>?_)
        · (repeat first|apply wA|apply wB|apply wC|apply wE|(apply zM;·kernel_rfl)|refine zI rfl ?_|refine zJ rfl ?_)
          refine AW.ret (retQA ty_ok rfl rfl rfl ?_)
          rfl
        · (repeat first|apply wA|apply wB|apply wC|apply wE|(apply zM;·kernel_rfl)|refine zI rfl ?_|refine zJ rfl ?_)
          exact ⟨k+1,⟨h,by omega⟩,(by repeat(first|exact trivial|refine ⟨rI rfl rfl,?_⟩|refine ⟨rI (i64_next (by assumption) (by first|assumption|decide)) rfl,?_⟩|refine ⟨rO rfl rfl rfl,?_⟩|refine ⟨rR rfl rfl rfl,?_⟩|refine ⟨bR rfl rfl,?_⟩|refine ⟨bS rfl rfl rfl,?_⟩)),(by repeat(first|exact trivial|refine ⟨rI rfl rfl,?_⟩|refine ⟨rO rfl rfl rfl,?_⟩|refine ⟨rR rfl rfl rfl,?_⟩|refine ⟨bR rfl rfl,?_⟩|refine ⟨bS rfl rfl rfl,?_⟩))⟩
      · refine RG.runO ty_ok 0 [(43,.b true),(46,.b false)] 400 rfl (by repeat' (first|exact trivial|apply And.intro|exact dT ‹_›|exact dF ‹_›|exact dN ‹_›|exact dM ‹_›|exact dI ‹_›)) ?_
        (repeat first|apply wA|apply wB|apply wC|apply wE|(apply zM;·kernel_rfl));refine AW.condF rfl ?_;(repeat first|apply wA|apply wB|apply wC|apply wE|(apply zM;·kernel_rfl)|refine zI rfl ?_|refine zJ rfl ?_)
        refine AW.exit ?_;refine Eq.mpr (if_pos rfl) ?_;(repeat first|apply wA|apply wB|apply wC|apply wE|(apply zM;·kernel_rfl)|refine zI rfl ?_|refine zJ rfl ?_)
        refine AW.ret (retQA ty_ok rfl rfl rfl ?_)
        rfl
    · refine RG.runO ty_ok 0 [(43,.b false)] 400 rfl (by repeat' (first|exact trivial|apply And.intro|exact dT ‹_›|exact dF ‹_›|exact dN ‹_›|exact dM ‹_›|exact dI ‹_›)) ?_
      (repeat first|apply wA|apply wB|apply wC|apply wE|(apply zM;·kernel_rfl));refine AW.condF rfl ?_;(repeat first|apply wA|apply wB|apply wC|apply wE|(apply zM;·kernel_rfl)|refine zI rfl ?_|refine zJ rfl ?_)
      refine AW.exit ?_;refine Eq.mpr (if_pos rfl) ?_;(repeat first|apply wA|apply wB|apply wC|apply wE|(apply zM;·kernel_rfl)|refine zI rfl ?_|refine zJ rfl ?_)
      refine AW.ret (retQA ty_ok rfl rfl rfl ?_)
      rfl
end Go.Proofs.YtahjjfhjjbgjaaaGreat.Sm
end
section
namespace Go.Proofs.YtahjjfhjjbgjaaaGreat
open Go.RowKit Go.WideShapes Go.ChangeShapes Go.Deep Sm
theorem JudgeFinds_law {H:Type} {e:TypeId × Value→H} (W:World) (b0:Nat)
  (v0:Value) (d0:DataW H) (p0:List MemPlace) (ok0:Value.okWide Tryz.prog W .any b0 31 v0) (h0:DataW.Trod e Tryz.prog W 0 (fun _=>true) true 31 v0 d0 p0)
  (v1:Value) (d1:DataW H) (p1:List MemPlace) (ok1:Value.okWide Tryz.prog W .any b0 5 v1) (h1:DataW.Trod e Tryz.prog W 0 (fun _=>true) true 5 v1 d1 p1)
  (v2:Value) (d2:DataW H) (p2:List MemPlace) (ok2:Value.okWide Tryz.prog W .any b0 33 v2) (h2:DataW.Trod e Tryz.prog W 0 (fun _=>true) true 33 v2 d2 p2)
  (v3:Value) (d3:DataW H) (p3:List MemPlace) (ok3:Value.okWide Tryz.prog W .any b0 69 v3) (h3:DataW.Trod e Tryz.prog W 0 (fun _=>true) true 69 v3 d3 p3)
  (hsz:(DataW.weightsEach Tryz.prog [31,5,33,69] [d0,d1,d2,d3]).all (·≤reachBytes)=true)
  : Calls Tryz.prog 9 #[v0,v1,v2,v3] W fun e W'=>e = .returned (.bool true)∧Kp No W W':=by
 obtain ⟨a0,r0,q0⟩:=rz_Cf.arg_struct Tryz.underlying31 hsz 0 rfl rfl ok0 h0
 obtain ⟨a1,r1⟩:=ra_u8.arg_int Tryz.underlying5 ok1 h1
 obtain ⟨a2,r2⟩:=ra_Sp.arg_struct Tryz.underlying33 ok2 h2
 obtain ⟨a3,r3⟩:=ra_Hds.arg_slice Tryz.underlying69 ok3 h3
 exact (JudgeFinds_d a0 a1 a2 a3 q0).law (vs:=[v0,v1,v2,v3]) rfl (pw_cons r0 (pw_cons r1 (pw_cons r2 (pw_cons r3 (pw_nil)))))
end Go.Proofs.YtahjjfhjjbgjaaaGreat
end
