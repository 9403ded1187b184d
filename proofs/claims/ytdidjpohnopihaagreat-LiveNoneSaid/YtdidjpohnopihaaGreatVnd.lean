/- Contracts of the program's functions over data, and the plain laws that they meet (part 4). No condition. -/
import Derived.Test.YtdidjpohnopihaaGreatVnc
import Derived.WalkKit
import Derived.WalkSpells
import Derived.WalkLawsBesides
import Derived.Lib.Hide
import Derived.Deep.RegionHeld3
import Derived.Maps.AppendAt
import Derived.KernelRfl
import Derived.Lib.AppendStr
import Derived.Orders
import Derived.LoopTactic
import Derived.Laws.CopyRow
import Derived.Laws.Cells
import Derived.OrdersIn
import Derived.Laws.Externs
import Derived.TacticsIn
import Derived.RangeFuncLeaves
import Derived.RangeFuncRecord
import Derived.Great.BuildSlice
import Derived.Laws.ResultCell
import Derived.Laws.StructEq
import Derived.Laws.MakeOwn
import Derived.Lib.AppendZerosOnto
import Derived.RangeFuncSeq
import Derived.RangeFuncIn
import Derived.Deep.Slices
import Derived.Deep.Fields
import Derived.ChangeSame
import Derived.ProofKit
import Derived.OpenShut
import Derived.SizedLaws
import Derived.Test.YtdidjpohnopihaaGreatProg
import Derived.Shelf.Spec.BitsCarry
import Derived.Laws.AppendOwn
import Derived.DeepKeys4
import Derived.MapKept
set_option linter.unusedVariables false
set_option linter.unusedSimpArgs false
set_option maxRecDepth 100000
set_option maxHeartbeats 4000000
section
namespace Go.Proofs.YtdidjpohnopihaaGreat.Sm
open Go.RowKit
theorem d_TSound (t:List (List Rl)) (ports:List Pt):PDoes Tryz.prog 67 [.sl (t.map cRls),.sl (ports.map cPt)] (.i .i64 (tabSound t ports)):=by
 refine PDoes.of_bodyN Tryz.func67 rfl (by kernel_rfl) rfl rfl ?_
 have hlen:(t.map cRls).length=t.length:=List.length_map ..
 refine jB ?_;refine wF ?_;refine wH rfl ?_;refine jB ?_
 refine AW.text ?_
 by_cases h1:(((t.map cRls).length:Nat):Int)=0
 ·refine RG.runO ty_ok 0 [(14,.b true)] 400 rfl jD ?_
  refine jH ?_;refine AW.condT rfl ?_;refine jA ?_
  refine jR ?_
  rw [tabSound,if_pos (by omega)]
  rfl
 ·by_cases h2:(((t.map cRls).length:Nat):Int)>3
  ·refine RG.runO ty_ok 0 [(14,.b false),(18,.b true)] 400 rfl jD ?_
   refine jH ?_;refine AW.condT rfl ?_;refine jA ?_
   refine jR ?_
   rw [tabSound,if_pos (by omega)]
   rfl
  ·refine RG.runO ty_ok 0 [(14,.b false),(18,.b false)] 400 rfl jD ?_
   refine jH ?_;refine AW.condF rfl ?_;refine jA ?_
   refine AW.lens 20 rfl fun hm=>?_
   rw [hlen] at hm
   refine AW.loopL (ι:=Nat × Int) (fun i=>[(0,.sl (t.map cRls)),(1,.sl (ports.map cPt)),(4,.i .i64 0),(5,.i .i64 i.2),(20,.sl (t.map cRls)),(21,.i .i64 (t.map cRls).length),(22,.i .i64 (i.1:Nat))]) (fun _=>[]) (fun i=>i.1<=t.length/\countT (t.drop i.1) i.2=countT t 0) (fun i=>t.length - i.1) (0,0) ⟨Nat.zero_le _,rfl⟩ jW trivial fun i hi=>?_
   obtain ⟨k,n⟩:=i
   obtain ⟨hk,hf⟩:=hi
   simp only at hk hf
   refine jA ?_
   refine AW.cond rfl (fun h=>?_) (fun h=>?_)
   ·have h:k<t.length:=by simpa using h
    rw [List.drop_eq_getElem_cons h,countT] at hf
    refine jA ?_
    refine RG.opS rfl (op_index rfl (tk rfl) rfl (tk rfl) rfl rfl (show (t.map cRls)[k]?=some (cRls t[k]) by rw [List.getElem?_map,List.getElem?_eq_getElem (by assumption)];rfl) rfl) rfl ?_
    refine jH ?_
    exact ⟨(k+1,IntKind.i64.wrap (n+((t[k].map cRl).length:Nat))),⟨⟨h,by rw [List.length_map];exact hf⟩,by show t.length - (k+1)<t.length - k;omega⟩,jV,trivial⟩
   have h:¬k<t.length:=by simpa using h
   obtain rfl:k=t.length:=by omega
   rw [List.drop_length] at hf
   refine jA ?_
   refine jE ?_;refine jA ?_
   refine AW.cond rfl (fun hc=>?_) (fun hc=>?_)
   ·have hc:n>96:=of_decide_eq_true hc
    refine jA ?_
    refine jR ?_
    rw [tabSound,if_neg (by omega),<- hf,countT,if_pos hc]
    rfl
   have hc:¬n>96:=of_decide_eq_false hc
   have e1:tabSound t ports=if tablesOk t.length ports 0 t then 0 else 2:=by rw [tabSound,if_neg (by omega),<- hf,countT,if_neg hc]
   refine jA ?_
   refine AW.loopL (ι:=Nat) (fun k=>[(0,.sl (t.map cRls)),(1,.sl (ports.map cPt)),(33,.sl (t.map cRls)),(34,.i .i64 (t.map cRls).length),(35,.i .i64 (k:Nat))]) (fun _=>[]) (fun k=>k<=t.length/\tablesOk t.length ports k (t.drop k)=tablesOk t.length ports 0 t) (fun k=>t.length - k) 0 ⟨Nat.zero_le _,rfl⟩ jW trivial fun k hk=>?_
   obtain ⟨hk,hg⟩:=hk
   refine jA ?_
   refine AW.cond rfl (fun h=>?_) (fun h=>?_)
   ·have h:k<t.length:=by simpa using h
    rw [List.drop_eq_getElem_cons h,tablesOk] at hg
    refine jA ?_
    refine RG.opS rfl (op_index rfl (tk rfl) rfl (tk rfl) rfl rfl (show (t.map cRls)[k]?=some (cRls t[k]) by rw [List.getElem?_map,List.getElem?_eq_getElem (by assumption)];rfl) rfl) rfl ?_
    refine jH ?_
    generalize hl:t[k]=l at hg
    refine AW.lens 40 rfl fun hml=>?_
    rw [List.length_map] at hml
    refine AW.loopL (ι:=Nat) (fun j=>[(0,.sl (t.map cRls)),(1,.sl (ports.map cPt)),(8,.i .i64 (k:Nat)),(33,.sl (t.map cRls)),(34,.i .i64 (t.map cRls).length),(35,.i .i64 (k:Nat)),(40,.sl (l.map cRl)),(41,.i .i64 (l.map cRl).length),(42,.i .i64 (j:Nat))]) (fun _=>[]) (fun j=>j<=l.length/\(bif rulesOk k t.length ports (l.drop j) then tablesOk t.length ports (k+1) (t.drop (k+1)) else false)=tablesOk t.length ports 0 t) (fun j=>l.length - j) 0 ⟨Nat.zero_le _,hg⟩ jW trivial fun j hj=>?_
    clear hg
    obtain ⟨hj,hg⟩:=hj
    refine jA ?_
    refine AW.cond rfl (fun h'=>?_) (fun h'=>?_)
    ·have h':j<l.length:=by simpa using h'
     rw [List.drop_eq_getElem_cons h',rulesOk] at hg
     refine jA ?_
     refine RG.opS rfl (op_index rfl (tk rfl) rfl (tk rfl) rfl rfl (show (l.map cRl)[j]?=some (cRl l[j]) by rw [List.getElem?_map,List.getElem?_eq_getElem (by assumption)];rfl) rfl) rfl ?_
     refine jH ?_
     cases hq:l[j].sound k ports
     ·refine RG.callS rfl rfl rfl rfl rfl (d_RSound l[j] k ports _ hq) rfl rfl ?_;refine jH ?_
      refine AW.condT rfl ?_;refine jA ?_
      refine jR ?_
      rw [hq] at hg
      rw [e1,<- hg]
      rfl
     ·refine RG.callS rfl rfl rfl rfl rfl (d_RSound l[j] k ports _ hq) rfl rfl ?_;refine jH ?_
      rw [hq,Bool.true_and] at hg
      refine AW.cond rfl (fun hr=>?_) (fun hr=>?_)
      ·have hr:l[j].act.table>=(((t.map cRls).length:Nat):Int):=of_decide_eq_true hr
       rw [decide_eq_false (by omega)] at hg
       refine jA ?_
       refine jR ?_
       rw [e1,<- hg]
       rfl
      ·have hr:¬l[j].act.table>=(((t.map cRls).length:Nat):Int):=of_decide_eq_false hr
       rw [decide_eq_true (by omega)] at hg
       refine jA ?_
       exact ⟨j+1,⟨⟨h',hg⟩,by omega⟩,jV,trivial⟩
    ·have h':¬j<l.length:=by simpa using h'
     obtain rfl:j=l.length:=by omega
     rw [List.drop_length,rulesOk] at hg
     refine jA ?_
     refine jE ?_;refine jA ?_
     exact ⟨k+1,⟨⟨h,hg⟩,by omega⟩,jV,trivial⟩
   ·have h:¬k<t.length:=by simpa using h
    obtain rfl:k=t.length:=by omega
    rw [List.drop_length] at hg
    refine jA ?_
    refine jE ?_;refine jA ?_
    refine jR ?_
    rw [e1,<- hg]
    rfl
theorem getD_at {α:Type} {l:List α} {n:Nat} {x d:α} (h:l[n]?=some x):l.getD n d=x:=by rw [List.getD_eq_getElem?_getD,h];rfl
theorem d_TPort (t:List (List Pt)) (n a:Nat) (r:List Pt) (p:Pt) (hr:t[n]?=some r) (hp:r[a]?=some p) (q:Bool) (hq:portOk t n a p=q):PDoes Tryz.prog 108 [.agg (cTopo ⟨t⟩),.i .i64 n,.i .i64 a] (.b q):=by
 subst hq
 refine PDoes.of_bodyN Tryz.func108 rfl (by kernel_rfl) rfl rfl ?_
 have hlen:(t.map cPts).length=t.length:=List.length_map ..
 refine jA ?_
 refine RG.opS rfl (op_index rfl (tk rfl) rfl (tk rfl) rfl rfl (show (t.map cPts)[n]?=some (cPts r) by rw [List.getElem?_map,hr];rfl) rfl) rfl ?_
 refine wH rfl ?_
 refine RG.opS rfl (op_index rfl (tk rfl) rfl (tk rfl) rfl rfl (show (r.map cPt)[a]?=some (cPt p) by rw [List.getElem?_map,hp];rfl) rfl) rfl ?_
 refine jH ?_
 refine AW.cond rfl (fun h0=>?_) (fun h0=>?_)
 ·have h0:p.kind=0:=of_decide_eq_true h0
  refine jA ?_
  refine RG.opS rfl (op_eqG rfl ty_ok (by kernel_rfl) (by kernel_rfl) rfl rfl (eq_Pt p Pt.zero) rfl) rfl ?_
  refine jH ?_
  refine jR ?_
  exact congrArg AV.b (by rw [portOk,if_pos h0])
 have h0:¬p.kind=0:=of_decide_eq_false h0
 refine jA ?_
 refine AW.cond rfl (fun h1=>?_) (fun h1=>?_)
 ·have h1:p.kind=1:=of_decide_eq_true h1
  refine jB ?_
  refine AW.text ?_
  refine wH rfl ?_
  by_cases g1:p=⟨1,p.tenant,0,0,0⟩
  ·refine RG.opS rfl (op_eqG rfl ty_ok (by kernel_rfl) (by kernel_rfl) rfl rfl (eq_Pt p ⟨1,p.tenant,0,0,0⟩) (decide_eq_true g1)) rfl ?_
   by_cases q1:p.tenant>=0
   ·refine RG.runO ty_ok 0 [(34,.b true)] 400 rfl jD ?_
    refine jB ?_
    refine jR ?_
    exact congrArg AV.b (by rw [portOk,if_neg h0,if_pos h1,decide_eq_true g1,Bool.true_and,decide_eq_true (show 0<=p.tenant from q1)];rfl)
   ·refine RG.runO ty_ok 0 [(34,.b false)] 400 rfl jD ?_
    refine jB ?_
    refine jR ?_
    exact congrArg AV.b (by rw [portOk,if_neg h0,if_pos h1,decide_eq_false (show ¬0<=p.tenant from q1),Bool.false_and,Bool.and_false])
  ·refine RG.opS rfl (op_eqG rfl ty_ok (by kernel_rfl) (by kernel_rfl) rfl rfl (eq_Pt p ⟨1,p.tenant,0,0,0⟩) (decide_eq_false g1)) rfl ?_
   refine jH ?_
   refine jR ?_
   exact congrArg AV.b (by rw [portOk,if_neg h0,if_pos h1,decide_eq_false g1];rfl)
 have h1:¬p.kind=1:=of_decide_eq_false h1
 refine jA ?_
 refine AW.cond rfl (fun h2=>?_) (fun h2=>?_)
 ·have h2:p.kind=2:=of_decide_eq_true h2
  have e0:portOk t n a p=linkOk t n a p:=by rw [portOk,if_neg h0,if_neg h1,if_pos h2]
  refine jB ?_
  refine AW.text ?_
  by_cases g1:p.tenant=0
  ·by_cases g2:p.cost<1
   ·refine RG.runO ty_ok 0 [(45,.b false),(49,.b true)] 400 rfl jD ?_
    refine jH ?_;refine AW.condT rfl ?_;refine jA ?_
    refine jR ?_
    rw [e0]
    exact congrArg AV.b (by rw [hlen] at *;simp [linkOk];omega)
   ·by_cases g3:p.cost>1000
    ·refine RG.runO ty_ok 0 [(45,.b false),(49,.b false),(54,.b true)] 400 rfl jD ?_
     refine jH ?_;refine AW.condT rfl ?_;refine jA ?_
     refine jR ?_
     rw [e0]
     exact congrArg AV.b (by rw [hlen] at *;simp [linkOk];omega)
    ·by_cases g4:p.peer<0
     ·refine RG.runO ty_ok 0 [(45,.b false),(49,.b false),(54,.b false),(59,.b true)] 400 rfl jD ?_
      refine jH ?_;refine AW.condT rfl ?_;refine jA ?_
      refine jR ?_
      rw [e0]
      exact congrArg AV.b (by rw [hlen] at *;simp [linkOk];omega)
     ·by_cases g5:p.peer>=(((t.map cPts).length:Nat):Int)
      ·refine RG.runO ty_ok 0 [(45,.b false),(49,.b false),(54,.b false),(59,.b false),(67,.b true)] 400 rfl jD ?_
       refine jH ?_;refine AW.condT rfl ?_;refine jA ?_
       refine jR ?_
       rw [e0]
       exact congrArg AV.b (by rw [hlen] at *;simp [linkOk];omega)
      ·by_cases g6:p.peer=(n:Int)
       ·refine RG.runO ty_ok 0 [(45,.b false),(49,.b false),(54,.b false),(59,.b false),(67,.b false),(73,.b true)] 400 rfl jD ?_
        refine jH ?_;refine AW.condT rfl ?_;refine jA ?_
        refine jR ?_
        rw [e0]
        exact congrArg AV.b (by rw [hlen] at *;simp [linkOk];omega)
       ·refine RG.runO ty_ok 0 [(45,.b false),(49,.b false),(54,.b false),(59,.b false),(67,.b false),(73,.b false)] 400 rfl jD ?_
        refine wH rfl ?_;refine jB ?_;refine AW.condF rfl ?_;refine jB ?_
        obtain ⟨m,hm⟩:=Int.eq_ofNat_of_zero_le (show 0<=p.peer by omega)
        have hml:m<t.length:=by omega
        refine AW.text ?_
        refine RG.runO ty_ok 0 [(78,.i .i64 (m:Nat))] 400 rfl jD ?_
        refine RG.opS rfl (op_index rfl (tk rfl) rfl (tk rfl) rfl rfl (show (t.map cPts)[m]?=some (cPts t[m]) by rw [List.getElem?_map,List.getElem?_eq_getElem (by assumption)];rfl) rfl) rfl ?_
        refine wH rfl ?_;refine jB ?_
        have hl2:(t[m].map cPt).length=t[m].length:=List.length_map ..
        have e1:t.getD p.peer.toNat []=t[m]:=by rw [hm,Int.toNat_natCast];exact getD_at (List.getElem?_eq_getElem hml)
        have e2:portOk t n a p=(decide (0<=p.at_) && (decide (p.at_<t[m].length) && decide (t[m].getD p.at_.toNat Pt.zero=⟨2,0,n,a,p.cost⟩))):=by
         rw [e0,linkOk,e1]
         rw [hlen] at *
         rw [decide_eq_true (by omega),decide_eq_true (by omega),decide_eq_true (by omega),decide_eq_true (by omega),decide_eq_true (by omega),decide_eq_true (show p.peer≠n by omega)]
         simp only [Bool.true_and]
        refine AW.draws mixed_ok ?_
        by_cases q1:p.at_>=0
        ·obtain ⟨b,hb⟩:=Int.eq_ofNat_of_zero_le q1
         by_cases q2:p.at_<(((t[m].map cPt).length:Nat):Int)
         ·have hbl:b<t[m].length:=by omega
          refine RG.runO ty_ok 0 [(83,.b true),(89,.b true),(94,.i .i64 (b:Nat))] 400 rfl jD ?_
          refine RG.opS rfl (op_index rfl (tk rfl) rfl (tk rfl) rfl rfl (show (t[m].map cPt)[b]?=some (cPt t[m][b]) by simp [*]) rfl) rfl ?_
          refine wH rfl ?_
          refine RG.opS rfl (op_eqG rfl ty_ok (by kernel_rfl) (by kernel_rfl) rfl rfl (eq_Pt t[m][b] ⟨2,0,n,a,p.cost⟩) rfl) rfl ?_
          refine jH ?_
          refine jR ?_
          exact congrArg AV.b (by rw [e2,decide_eq_true (show 0<=p.at_ from q1),decide_eq_true (show p.at_<t[m].length by omega),hb,Int.toNat_natCast,getD_at (List.getElem?_eq_getElem hbl)];rfl)
         ·refine RG.runO ty_ok 0 [(83,.b true),(89,.b false)] 400 rfl jD ?_
          refine jH ?_
          refine jR ?_
          exact congrArg AV.b (by rw [e2,decide_eq_false (show ¬p.at_<t[m].length by omega),Bool.false_and,Bool.and_false])
        ·refine RG.runO ty_ok 0 [(83,.b false)] 400 rfl jD ?_
         refine jH ?_
         refine jR ?_
         exact congrArg AV.b (by rw [e2,decide_eq_false (show ¬0<=p.at_ by omega),Bool.false_and])
  ·refine RG.runO ty_ok 0 [(45,.b true)] 400 rfl jD ?_
   refine jH ?_;refine AW.condT rfl ?_;refine jA ?_
   refine jR ?_
   rw [e0]
   exact congrArg AV.b (by rw [hlen] at *;simp [linkOk];omega)
 have h2:¬p.kind=2:=of_decide_eq_false h2
 refine jA ?_
 refine jR ?_
 exact congrArg AV.b (by simp [portOk, *])
theorem d_TopSound (t:List (List Pt)):PDoes Tryz.prog 64 [.agg (cTopo ⟨t⟩)] (.i .i64 (topoSound t)):=by
 refine PDoes.of_bodyN Tryz.func64 rfl (by kernel_rfl) rfl rfl ?_
 have hlen:(t.map cPts).length=t.length:=List.length_map ..
 refine jB ?_;refine wF ?_;refine wH rfl ?_;refine jB ?_
 refine AW.text ?_
 by_cases h1:(((t.map cPts).length:Nat):Int)=0
 ·refine RG.runO ty_ok 0 [(11,.b true)] 400 rfl jD ?_
  refine jH ?_;refine AW.condT rfl ?_;refine jA ?_
  refine jR ?_
  rw [topoSound,if_pos (by omega)]
  rfl
 ·by_cases h2:(((t.map cPts).length:Nat):Int)>6
  ·refine RG.runO ty_ok 0 [(11,.b false),(16,.b true)] 400 rfl jD ?_
   refine jH ?_;refine AW.condT rfl ?_;refine jA ?_
   refine jR ?_
   rw [topoSound,if_pos (by omega)]
   rfl
  ·refine RG.runO ty_ok 0 [(11,.b false),(16,.b false)] 400 rfl jD ?_
   refine jH ?_;refine AW.condF rfl ?_;refine jA ?_
   have e1:topoSound t=if rowFits t then (if rowsOk t 0 t then 0 else 2) else 4:=by rw [topoSound,if_neg (by omega)]
   refine AW.loopL (ι:=Nat) (fun k=>[(1,.own 1 0 0),(19,.sl (t.map cPts)),(20,.i .i64 (t.map cPts).length),(21,.i .i64 (k:Nat))]) (fun _=>[(1,⟨0,some (.box 24 (cTopo ⟨t⟩))⟩)]) (fun k=>k<=t.length/\rowFits (t.drop k)=rowFits t) (fun k=>t.length - k) 0 ⟨Nat.zero_le _,rfl⟩ jW jW fun k hk=>?_
   obtain ⟨hk,hg⟩:=hk
   refine jA ?_
   refine AW.cond rfl (fun h=>?_) (fun h=>?_)
   ·have h:k<t.length:=by simpa using h
    have hm:t.length<=6:=by omega
    rw [List.drop_eq_getElem_cons h,rowFits] at hg
    refine jA ?_
    refine RG.opS rfl (op_index rfl (tk rfl) rfl (tk rfl) rfl rfl (show (t.map cPts)[k]?=some (cPts t[k]) by rw [List.getElem?_map,List.getElem?_eq_getElem (by assumption)];rfl) rfl) rfl ?_
    refine jH ?_
    refine AW.cond rfl (fun h'=>?_) (fun h'=>?_)
    ·have h':(((t[k].map cPt).length:Nat):Int)>6:=of_decide_eq_true h'
     rw [List.length_map] at h'
     rw [decide_eq_true (by omega),cond_true] at hg
     refine jA ?_
     refine jR ?_
     rw [e1,<- hg]
     rfl
    ·have h':¬(((t[k].map cPt).length:Nat):Int)>6:=of_decide_eq_false h'
     rw [List.length_map] at h'
     rw [decide_eq_false (by omega),cond_false] at hg
     refine jA ?_
     have hm:t.length<=9223372036854775807:=by omega
     exact ⟨k+1,⟨⟨h,hg⟩,by omega⟩,jV,jW⟩
   have h:¬k<t.length:=by simpa using h
   obtain rfl:k=t.length:=by omega
   rw [List.drop_length,rowFits] at hg
   rw [<- hg,if_pos rfl] at e1
   refine jA ?_
   refine jE ?_;refine jA ?_
   refine AW.loopL (ι:=Nat) (fun k=>[(1,.own 1 0 0),(30,.sl (t.map cPts)),(31,.i .i64 (t.map cPts).length),(32,.i .i64 (k:Nat))]) (fun _=>[(1,⟨0,some (.box 24 (cTopo ⟨t⟩))⟩)]) (fun k=>k<=t.length/\rowsOk t k (t.drop k)=rowsOk t 0 t) (fun k=>t.length - k) 0 ⟨Nat.zero_le _,rfl⟩ jW jW fun k hk=>?_
   clear hg
   obtain ⟨hk,hg⟩:=hk
   refine jA ?_
   refine AW.cond rfl (fun h=>?_) (fun h=>?_)
   ·have h:k<t.length:=by simpa using h
    have hm:t.length<=9223372036854775807:=by omega
    rw [List.drop_eq_getElem_cons h,rowsOk] at hg
    refine jA ?_
    refine RG.opS rfl (op_index rfl (tk rfl) rfl (tk rfl) rfl rfl (show (t.map cPts)[k]?=some (cPts t[k]) by rw [List.getElem?_map,List.getElem?_eq_getElem (by assumption)];rfl) rfl) rfl ?_
    refine jH ?_
    have hr:t[k]?=some t[k]:=List.getElem?_eq_getElem h
    generalize t[k]=r at hg hr
    refine AW.lens 37 rfl fun hml=>?_
    rw [List.length_map] at hml
    refine AW.loopL (ι:=Nat) (fun j=>[(1,.own 1 0 0),(5,.i .i64 (k:Nat)),(30,.sl (t.map cPts)),(31,.i .i64 (t.map cPts).length),(32,.i .i64 (k:Nat)),(37,.sl (r.map cPt)),(38,.i .i64 (r.map cPt).length),(39,.i .i64 (j:Nat))]) (fun _=>[(1,⟨0,some (.box 24 (cTopo ⟨t⟩))⟩)]) (fun j=>j<=r.length/\(bif rowOk t k j (r.drop j) then rowsOk t (k+1) (t.drop (k+1)) else false)=rowsOk t 0 t) (fun j=>r.length - j) 0 ⟨Nat.zero_le _,hg⟩ jW jW fun j hj=>?_
    clear hg
    obtain ⟨hj,hg⟩:=hj
    refine jA ?_
    refine AW.cond rfl (fun h'=>?_) (fun h'=>?_)
    ·have h':j<r.length:=by simpa using h'
     rw [List.drop_eq_getElem_cons h',rowOk] at hg
     refine jA ?_
     cases hq:portOk t k j r[j]
     ·refine RG.callS rfl rfl rfl rfl rfl (d_TPort t k j r r[j] hr (List.getElem?_eq_getElem h') _ hq) rfl rfl ?_;refine jH ?_
      rw [hq] at hg
      refine AW.condT rfl ?_;refine jA ?_
      refine jR ?_
      rw [e1,<- hg]
      rfl
     ·refine RG.callS rfl rfl rfl rfl rfl (d_TPort t k j r r[j] hr (List.getElem?_eq_getElem h') _ hq) rfl rfl ?_;refine jH ?_
      rw [hq] at hg
      refine AW.condF rfl ?_;refine jA ?_
      exact ⟨j+1,⟨⟨h',hg⟩,by omega⟩,jV,jW⟩
    ·have h':¬j<r.length:=by simpa using h'
     obtain rfl:j=r.length:=by omega
     rw [List.drop_length,rowOk] at hg
     refine jA ?_
     refine jE ?_;refine jA ?_
     exact ⟨k+1,⟨⟨h,hg⟩,by omega⟩,jV,jW⟩
   ·have h:¬k<t.length:=by simpa using h
    obtain rfl:k=t.length:=by omega
    rw [List.drop_length] at hg
    refine jA ?_
    refine jE ?_;refine jA ?_
    refine jR ?_
    rw [e1,<- hg]
    rfl
theorem accI_ge {α β:Type} {f:Nat->α->List β} (n:Nat) (l:List α) (out:List β):out.length<=(accI f n l out).length:=by
 rw [accI_eq,List.length_append];omega
theorem accI_lenM {α β:Type} {f:Nat->α->List β} {m:Nat}:∀(n:Nat) (l:List α) (out:List β),(∀x∈l,∀n,(f n x).length<=m)->(accI f n l out).length<=out.length+m*l.length
 | n,[],out,_=>by simp [accI]
 | n,x::l,out,hf=>by
  have:=accI_lenM (n+1) l (out++f n x) fun y hy=>hf y (List.mem_cons_of_mem _ hy)
  have h2:=hf x List.mem_cons_self n
  rw [List.length_append] at this
  rw [accI,List.length_cons,Nat.mul_add,Nat.mul_one]
  omega
theorem edges_len {t:List (List Pt)} (h:topoSound t=0):(edges t).length<=36:=by
 obtain ⟨_,h2,h3,_⟩:=topoSound_ok h
 have:=accI_lenM (f:=edgeRow) (m:=6) 0 t [] fun r hr n=>by
  have h4:=accI_len (f:=edgeI n) (m:=1) (fun a p=>by rw [edgeI];cases decide (p.kind=1) <;> simp) 0 r []
  have h5:=h3 r hr
  rw [edgeRow]
  simp at h4
  omega
 rw [edges]
 simp at this
 omega
theorem d_Edges (t:List (List Pt)) (ht:topoSound t=0):PDoes Tryz.prog 71 [.agg (cTopo ⟨t⟩)] (.sl ((edges t).map cSp)):=by
 refine PDoes.of_bodyN Tryz.func71 rfl (by kernel_rfl) rfl rfl ?_
 have hlen:(t.map cPts).length=t.length:=List.length_map ..
 have hE:=edges_len ht
 have hm:t.length<=9223372036854775807:=by have:=(topoSound_ok ht).2.1;omega
 refine jB ?_;refine wF ?_;refine wH rfl ?_;refine jB ?_
 refine AW.text ?_
 refine RG.opS rfl (op_nilRow 3 40 2 rfl) rfl ?_
 refine jH ?_
 refine AW.loopL (ι:=Nat × List Sp) (fun i=>[(1,.own 1 0 0),(3,.row 3 0 0 (i.2.map cSp).length),(9,.sl (t.map cPts)),(10,.i .i64 (t.map cPts).length),(11,.i .i64 (i.1:Nat))]) (fun i=>[(1,⟨0,some (.box 24 (cTopo ⟨t⟩))⟩),(3,⟨0,some (.row 40 2 (i.2.map cSp))⟩)]) (fun i=>i.1<=t.length/\accI edgeRow i.1 (t.drop i.1) i.2=edges t) (fun i=>t.length - i.1) (0,[]) ⟨Nat.zero_le _,rfl⟩ jW jW fun i hi=>?_
 obtain ⟨k,out⟩:=i
 obtain ⟨hk,hf⟩:=hi
 simp only at hk hf
 refine jA ?_
 refine AW.cond rfl (fun h=>?_) (fun h=>?_)
 ·have h:k<t.length:=by simpa using h
  rw [List.drop_eq_getElem_cons h,accI] at hf
  refine jA ?_
  refine RG.opS rfl (op_index rfl (tk rfl) rfl (tk rfl) rfl rfl (show (t.map cPts)[k]?=some (cPts t[k]) by rw [List.getElem?_map,List.getElem?_eq_getElem (by assumption)];rfl) rfl) rfl ?_
  refine jH ?_
  generalize t[k]=r at hf
  refine AW.lens 16 rfl fun hml=>?_
  rw [List.length_map] at hml
  rw [edgeRow,<- accI_eq] at hf
  refine AW.loopL (ι:=Nat × List Sp) (fun i=>[(1,.own 1 0 0),(3,.row 3 0 0 (i.2.map cSp).length),(4,.i .i64 (k:Nat)),(9,.sl (t.map cPts)),(10,.i .i64 (t.map cPts).length),(11,.i .i64 (k:Nat)),(16,.sl (r.map cPt)),(17,.i .i64 (r.map cPt).length),(18,.i .i64 (i.1:Nat))]) (fun i=>[(1,⟨0,some (.box 24 (cTopo ⟨t⟩))⟩),(3,⟨0,some (.row 40 2 (i.2.map cSp))⟩)]) (fun i=>i.1<=r.length/\accI edgeRow (k+1) (t.drop (k+1)) (accI (edgeI k) i.1 (r.drop i.1) i.2)=edges t) (fun i=>r.length - i.1) (0,out) ⟨Nat.zero_le _,hf⟩ jW jW fun i hi=>?_
  clear hf
  obtain ⟨j,out⟩:=i
  obtain ⟨hj,hf⟩:=hi
  simp only at hj hf
  refine jA ?_
  refine AW.cond rfl (fun h'=>?_) (fun h'=>?_)
  ·have h':j<r.length:=by simpa using h'
   have hol:out.length<=36:=by
    have h1:=accI_ge (f:=edgeRow) (k+1) (t.drop (k+1)) (accI (edgeI k) j (r.drop j) out)
    have h2:=accI_ge (f:=edgeI k) j (r.drop j) out
    rw [hf] at h1
    omega
   rw [List.drop_eq_getElem_cons h',accI,edgeI] at hf
   refine jA ?_
   refine RG.opS rfl (op_index rfl (tk rfl) rfl (tk rfl) rfl rfl (show (r.map cPt)[j]?=some (cPt r[j]) by rw [List.getElem?_map,List.getElem?_eq_getElem (by assumption)];rfl) rfl) rfl ?_
   refine jH ?_
   refine AW.cond rfl (fun hq=>?_) (fun hq=>?_)
   ·have hq:r[j].kind=1:=of_decide_eq_true hq
    rw [decide_eq_true hq,cond_true] at hf
    refine jB ?_
    refine AW.text ?_
    refine wH rfl ?_
    refine RG.opS rfl (op_app1 cSp out ⟨k,j⟩ (by omega) rfl rfl rfl rfl (tk rfl) rfl (tk rfl) rfl rfl ⟨_,rfl,rfl⟩ rfl rfl) rfl ?_;refine jH ?_
    exact ⟨(j+1,_),⟨⟨h',hf⟩,by show r.length - (j+1)<r.length - j;omega⟩,jV,jW⟩
   ·have hq:¬r[j].kind=1:=of_decide_eq_false hq
    rw [decide_eq_false hq,cond_false,List.append_nil] at hf
    refine jA ?_
    exact ⟨(j+1,_),⟨⟨h',hf⟩,by show r.length - (j+1)<r.length - j;omega⟩,jV,jW⟩
  ·have h':¬j<r.length:=by simpa using h'
   obtain rfl:j=r.length:=by omega
   rw [List.drop_length (l:=r),accI] at hf
   refine jA ?_
   refine jE ?_;refine jA ?_
   exact ⟨(k+1,out),⟨⟨h,hf⟩,by show t.length - (k+1)<t.length - k;omega⟩,jV,jW⟩
 ·have h:¬k<t.length:=by simpa using h
  obtain rfl:k=t.length:=by omega
  rw [List.drop_length,accI] at hf
  refine jA ?_
  refine jE ?_;refine jA ?_
  refine jR ?_
  exact rowAll (congrArg (List.map cSp) hf)
theorem d_tenant (p:Pol) (n:Int) (q:Bool) (hq:tenantOk p n=q):PDoes Tryz.prog 109 [.agg (cPol p),.i .i64 n] (.b q):=by
 subst hq
 refine PDoes.of_bodyN Tryz.func109 rfl (by kernel_rfl) rfl rfl ?_
 refine jB ?_;refine wF ?_;refine wH rfl ?_;refine jB ?_
 refine AW.text ?_
 by_cases h1:n>=0
 ·refine RG.runO ty_ok 0 [(6,.b true)] 400 rfl jD ?_
  refine jH ?_
  refine jR ?_
  exact congrArg AV.b (by rw [tenantOk,decide_eq_true (show 0<=n from h1),Bool.true_and])
 ·refine RG.runO ty_ok 0 [(6,.b false)] 400 rfl jD ?_
  refine jH ?_
  refine jR ?_
  exact congrArg AV.b (by rw [tenantOk,decide_eq_false (show ¬0<=n from h1),Bool.false_and])
theorem portAt_at {t:List (List Pt)} {n a:Nat} {r:List Pt} {p:Pt} (hr:t[n]?=some r) (hp:r[a]?=some p):portAt t ⟨n,a⟩=p:=by
 simp only [portAt,Int.toNat_natCast]
 rw [getD_at hr]
 exact getD_at hp
theorem d_sizes (c:Cf) (ht:topoSound c.topo.ports=0) (q:Bool) (hq:sizesOk c=q):PDoes Tryz.prog 65 [.agg (cCf c)] (.b q):=by
 subst hq
 refine PDoes.of_bodyN Tryz.func65 rfl (by kernel_rfl) rfl rfl ?_
 have hl1:(c.pol.peers.map cPr).length=c.pol.peers.length:=List.length_map ..
 have hl2:(c.pol.ways.map cWy).length=c.pol.ways.length:=List.length_map ..
 refine jB ?_;refine wF ?_;refine wH rfl ?_;refine jB ?_;refine wF ?_;refine wH rfl ?_;refine jB ?_
 refine AW.text ?_
 by_cases h1:c.pol.tenants<1
 ·refine RG.runO ty_ok 0 [(10,.b true)] 400 rfl jD ?_
  refine jH ?_;refine AW.condT rfl ?_;refine jA ?_
  refine jR ?_
  exact congrArg AV.b (by simp [sizesOk];omega)
 ·by_cases h2:c.pol.tenants>4
  ·refine RG.runO ty_ok 0 [(10,.b false),(14,.b true)] 400 rfl jD ?_
   refine jH ?_;refine AW.condT rfl ?_;refine jA ?_
   refine jR ?_
   exact congrArg AV.b (by simp [sizesOk];omega)
  ·by_cases h3:(((c.pol.peers.map cPr).length:Nat):Int)>16
   ·refine RG.runO ty_ok 0 [(10,.b false),(14,.b false),(20,.b true)] 400 rfl jD ?_
    refine jH ?_;refine AW.condT rfl ?_;refine jA ?_
    refine jR ?_
    exact congrArg AV.b (by simp [sizesOk];omega)
   ·by_cases h4:(((c.pol.ways.map cWy).length:Nat):Int)>4
    ·refine RG.runO ty_ok 0 [(10,.b false),(14,.b false),(20,.b false),(26,.b true)] 400 rfl jD ?_
     refine jH ?_;refine AW.condT rfl ?_;refine jA ?_
     refine jR ?_
     exact congrArg AV.b (by simp [sizesOk];omega)
    ·refine RG.runO ty_ok 0 [(10,.b false),(14,.b false),(20,.b false),(26,.b false)] 400 rfl jD ?_
     have e1:sizesOk c=edgesFit c (edges c.topo.ports):=by
      rw [sizesOk,decide_eq_true (by omega),decide_eq_true (by omega),decide_eq_true (by omega),decide_eq_true (by omega)]
      rfl
     rw [e1]
     refine jH ?_;refine AW.condF rfl ?_;refine jA ?_
     refine RG.callMS rfl rfl rfl rfl rfl rfl (d_Edges c.topo.ports ht) rfl ?_;refine jH ?_
     have hE:=edges_len ht
     have hmem:∀s∈edges c.topo.ports,∃(n:Nat) (r:List Pt) (a:Nat) (p:Pt),c.topo.ports[n]?=some r/\r[a]?=some p/\p.kind=1/\s=⟨n,a⟩:=fun s hs=>edges_mem.1 hs
     generalize edges c.topo.ports=es at hE hmem
     refine AW.loopL (ι:=Nat) (fun k=>[(1,.own 1 0 0),(3,.own 3 0 0),(30,.sl (es.map cSp)),(31,.i .i64 (es.map cSp).length),(32,.i .i64 (k:Nat))]) (fun _=>[(1,⟨0,some (.box 31 (cCf c))⟩),(3,⟨0,some (.box 28 (cPol c.pol))⟩)]) (fun k=>k<=es.length/\edgesFit c (es.drop k)=edgesFit c es) (fun k=>es.length - k) 0 ⟨Nat.zero_le _,rfl⟩ jW jW fun k hk=>?_
     obtain ⟨hk,hg⟩:=hk
     refine jA ?_
     refine AW.cond rfl (fun h=>?_) (fun h=>?_)
     ·have h:k<es.length:=by simpa using h
      have hm:es.length<=9223372036854775807:=by omega
      obtain ⟨n,r,a,p,hr,hp,hkd,he⟩:=hmem _ (List.getElem_mem h)
      rw [List.drop_eq_getElem_cons h,edgesFit,he,portAt_at hr hp] at hg
      refine jA ?_
      refine RG.opS rfl (op_index rfl (tk rfl) rfl (tk rfl) rfl rfl (show (es.map cSp)[k]?=some (cSp ⟨n,a⟩) by rw [List.getElem?_map,List.getElem?_eq_getElem h,he];rfl) rfl) rfl ?_
      refine jH ?_
      refine RG.opS rfl (op_index rfl (tk rfl) rfl (tk rfl) rfl rfl (show (c.topo.ports.map cPts)[n]?=some (cPts r) by rw [List.getElem?_map,hr];rfl) rfl) rfl ?_
      refine wH rfl ?_
      refine RG.opS rfl (op_index rfl (tk rfl) rfl (tk rfl) rfl rfl (show (r.map cPt)[a]?=some (cPt p) by rw [List.getElem?_map,hp];rfl) rfl) rfl ?_
      refine wH rfl ?_
      cases hq:tenantOk c.pol p.tenant
      ·refine RG.callS rfl rfl rfl rfl rfl (d_tenant c.pol p.tenant _ hq) rfl rfl ?_;refine jH ?_
       rw [hq] at hg
       refine AW.condT rfl ?_;refine jA ?_
       refine jR ?_
       exact congrArg AV.b hg
      ·refine RG.callS rfl rfl rfl rfl rfl (d_tenant c.pol p.tenant _ hq) rfl rfl ?_;refine jH ?_
       rw [hq] at hg
       refine AW.condF rfl ?_;refine jA ?_
       exact ⟨k+1,⟨⟨h,hg⟩,by omega⟩,jV,jW⟩
     ·have h:¬k<es.length:=by simpa using h
      obtain rfl:k=es.length:=by omega
      rw [List.drop_length] at hg
      refine jA ?_
      refine jE ?_;refine jA ?_
      refine jR ?_
      exact congrArg AV.b hg
theorem d_policy (c:Cf) (hp:c.pol.peers.length<=16) (hw:c.pol.ways.length<=4) (q:Bool) (hq:polOk c=q):PDoes Tryz.prog 66 [.agg (cCf c)] (.b q):=by
 subst hq
 refine PDoes.of_bodyN Tryz.func66 rfl (by kernel_rfl) rfl rfl ?_
 have hlt:(c.topo.ports.map cPts).length=c.topo.ports.length:=List.length_map ..
 refine jA ?_
 refine AW.loopL (ι:=Nat) (fun k=>[(1,.own 1 0 0),(3,.own 3 0 0),(11,.sl (c.pol.peers.map cPr)),(12,.i .i64 (c.pol.peers.map cPr).length),(13,.i .i64 (k:Nat))]) (fun _=>[(1,⟨0,some (.box 31 (cCf c))⟩),(3,⟨0,some (.box 28 (cPol c.pol))⟩)]) (fun k=>k<=c.pol.peers.length/\peersOk c.pol (c.pol.peers.drop k)=peersOk c.pol c.pol.peers) (fun k=>c.pol.peers.length - k) 0 ⟨Nat.zero_le _,rfl⟩ jW jW fun k hk=>?_
 obtain ⟨hk,hg⟩:=hk
 refine jA ?_
 refine AW.cond rfl (fun h=>?_) (fun h=>?_)
 ·have h:k<c.pol.peers.length:=by simpa using h
  have hm:c.pol.peers.length<=9223372036854775807:=by omega
  rw [List.drop_eq_getElem_cons h,peersOk] at hg
  refine jA ?_
  refine RG.opS rfl (op_index rfl (tk rfl) rfl (tk rfl) rfl rfl (show (c.pol.peers.map cPr)[k]?=some (cPr c.pol.peers[k]) by rw [List.getElem?_map,List.getElem?_eq_getElem (by assumption)];rfl) rfl) rfl ?_
  refine jH ?_
  generalize c.pol.peers[k]=x at hg
  cases h1:tenantOk c.pol x.1
  ·refine RG.callS rfl rfl rfl rfl rfl (d_tenant c.pol x.1 _ h1) rfl rfl ?_;refine jH ?_
   rw [h1] at hg
   refine AW.condT rfl ?_;refine jA ?_
   refine jR ?_
   exact congrArg AV.b (by rw [polOk,<- hg];rfl)
  refine RG.callS rfl rfl rfl rfl rfl (d_tenant c.pol x.1 _ h1) rfl rfl ?_;refine jH ?_
  cases h2:tenantOk c.pol x.2
  ·refine RG.callS rfl rfl rfl rfl rfl (d_tenant c.pol x.2 _ h2) rfl rfl ?_;refine jH ?_
   rw [h1,h2] at hg
   refine AW.condT rfl ?_;refine jA ?_
   refine jR ?_
   exact congrArg AV.b (by rw [polOk,<- hg];rfl)
  refine RG.callS rfl rfl rfl rfl rfl (d_tenant c.pol x.2 _ h2) rfl rfl ?_;refine jH ?_
  rw [h1,h2] at hg
  refine AW.condF rfl ?_;refine jA ?_
  exact ⟨k+1,⟨⟨h,hg⟩,by omega⟩,jV,jW⟩
 have h:¬k<c.pol.peers.length:=by simpa using h
 obtain rfl:k=c.pol.peers.length:=by omega
 rw [List.drop_length,peersOk] at hg
 have e1:polOk c=waysOk c.pol c.topo.ports.length c.pol.ways:=by rw [polOk,<- hg];rfl
 rw [e1]
 clear hg
 refine jA ?_
 refine jE ?_;refine jA ?_
 refine AW.loopL (ι:=Nat) (fun k=>[(1,.own 1 0 0),(3,.own 3 0 0),(31,.sl (c.pol.ways.map cWy)),(32,.i .i64 (c.pol.ways.map cWy).length),(33,.i .i64 (k:Nat))]) (fun _=>[(1,⟨0,some (.box 31 (cCf c))⟩),(3,⟨0,some (.box 28 (cPol c.pol))⟩)]) (fun k=>k<=c.pol.ways.length/\waysOk c.pol c.topo.ports.length (c.pol.ways.drop k)=waysOk c.pol c.topo.ports.length c.pol.ways) (fun k=>c.pol.ways.length - k) 0 ⟨Nat.zero_le _,rfl⟩ jW jW fun k hk=>?_
 obtain ⟨hk,hg⟩:=hk
 refine jA ?_
 refine AW.cond rfl (fun h=>?_) (fun h=>?_)
 ·have h:k<c.pol.ways.length:=by simpa using h
  have hm:c.pol.ways.length<=9223372036854775807:=by omega
  rw [List.drop_eq_getElem_cons h,waysOk] at hg
  refine jA ?_
  refine RG.opS rfl (op_index rfl (tk rfl) rfl (tk rfl) rfl rfl (show (c.pol.ways.map cWy)[k]?=some (cWy c.pol.ways[k]) by rw [List.getElem?_map,List.getElem?_eq_getElem (by assumption)];rfl) rfl) rfl ?_
  refine jH ?_
  generalize c.pol.ways[k]=w at hg
  cases h1:tenantOk c.pol w.fro
  ·refine RG.callS rfl rfl rfl rfl rfl (d_tenant c.pol w.fro _ h1) rfl rfl ?_;refine jH ?_
   rw [h1] at hg
   refine AW.condT rfl ?_;refine jA ?_
   refine jR ?_
   exact congrArg AV.b hg
  refine RG.callS rfl rfl rfl rfl rfl (d_tenant c.pol w.fro _ h1) rfl rfl ?_;refine jH ?_
  cases h2:tenantOk c.pol w.to
  ·refine RG.callS rfl rfl rfl rfl rfl (d_tenant c.pol w.to _ h2) rfl rfl ?_;refine jH ?_
   rw [h1,h2] at hg
   refine AW.condT rfl ?_;refine jA ?_
   refine jR ?_
   exact congrArg AV.b hg
  refine RG.callS rfl rfl rfl rfl rfl (d_tenant c.pol w.to _ h2) rfl rfl ?_
  rw [h1,h2,Bool.true_and,Bool.true_and] at hg
  by_cases g1:w.via<0
  ·refine RG.runO ty_ok 0 [(52,.b true)] 400 rfl jD ?_
   refine jB ?_;refine AW.condT rfl ?_;refine jA ?_
   refine jR ?_
   refine congrArg AV.b (Eq.trans ?_ hg)
   rw [show (decide (0<=w.via) && decide (w.via<(c.topo.ports.length:Nat)))=false by simp;omega]
   rfl
  ·by_cases g2:w.via>=(((c.topo.ports.map cPts).length:Nat):Int)
   ·refine RG.runO ty_ok 0 [(52,.b false),(61,.b true)] 400 rfl jD ?_
    refine jB ?_;refine AW.condT rfl ?_;refine jA ?_
    refine jR ?_
    refine congrArg AV.b (Eq.trans ?_ hg)
    rw [show (decide (0<=w.via) && decide (w.via<(c.topo.ports.length:Nat)))=false by simp;omega]
    rfl
   ·refine RG.runO ty_ok 0 [(52,.b false),(61,.b false)] 400 rfl jD ?_
    rw [decide_eq_true (show 0<=w.via by omega),decide_eq_true (by omega)] at hg
    refine jB ?_;refine AW.condF rfl ?_;refine jA ?_
    exact ⟨k+1,⟨⟨h,hg⟩,by omega⟩,jV,jW⟩
 ·have h:¬k<c.pol.ways.length:=by simpa using h
  obtain rfl:k=c.pol.ways.length:=by omega
  rw [List.drop_length] at hg
  refine jA ?_
  refine jE ?_;refine jA ?_
  refine jR ?_
  exact congrArg AV.b hg
theorem sizes_le {c:Cf} (h:sizesOk c=true):c.pol.peers.length<=16/\c.pol.ways.length<=4:=by
 simp [sizesOk] at h
 omega
theorem d_CSound (c:Cf):PDoes Tryz.prog 32 [.agg (cCf c)] (.i .i64 c.sound):=by
 refine PDoes.of_bodyN Tryz.func32 rfl (by kernel_rfl) rfl rfl ?_
 have hlt:(c.topo.ports.map cPts).length=c.topo.ports.length:=List.length_map ..
 have hlb:(c.tables.map cTab).length=c.tables.length:=List.length_map ..
 refine jA ?_
 refine RG.callS rfl rfl rfl rfl rfl (d_TopSound c.topo.ports) rfl rfl ?_;refine jH ?_
 refine AW.cond rfl (fun h=>?_) (fun h=>?_)
 ·have h:¬topoSound c.topo.ports=0:=by simpa using h
  refine jA ?_
  refine jR ?_
  rw [Cf.sound,if_neg h]
  rfl
 have ht:topoSound c.topo.ports=0:=by simpa using h
 refine jA ?_
 cases h1:sizesOk c
 ·refine RG.callS rfl rfl rfl rfl rfl (d_sizes c ht _ h1) rfl rfl ?_;refine jH ?_
  refine AW.condT rfl ?_;refine jA ?_
  refine jR ?_
  rw [Cf.sound,if_pos ht,h1]
  rfl
 refine RG.callS rfl rfl rfl rfl rfl (d_sizes c ht _ h1) rfl rfl ?_;refine jH ?_
 refine AW.condF rfl ?_;refine jA ?_
 cases h2:polOk c
 ·refine RG.callS rfl rfl rfl rfl rfl (d_policy c (sizes_le h1).1 (sizes_le h1).2 _ h2) rfl rfl ?_;refine jH ?_
  refine AW.condT rfl ?_;refine jA ?_
  refine jR ?_
  rw [Cf.sound,if_pos ht,h1,h2]
  rfl
 refine RG.callS rfl rfl rfl rfl rfl (d_policy c (sizes_le h1).1 (sizes_le h1).2 _ h2) rfl rfl ?_;refine jH ?_
 refine AW.condF rfl ?_;refine jA ?_
 refine AW.cond rfl (fun h3=>?_) (fun h3=>?_)
 ·have h3 : ¬ c.tables.length = c.topo.ports.length := by
   simp at h3
   omega
  refine jA ?_
  refine jR ?_
  rw [Cf.sound,if_pos ht,h1,h2,cond_true,cond_true,if_neg h3]
  rfl
 have h3:c.tables.length=c.topo.ports.length:=by
  simp at h3
  omega
 have hle:c.tables.length<=9223372036854775807:=by
  have:=(topoSound_ok ht).2.1
  omega
 have e1:c.sound=tabsSound c.topo.ports 0 c.tables:=by rw [Cf.sound,if_pos ht,h1,h2,cond_true,cond_true,if_pos h3]
 rw [e1]
 refine jA ?_
 refine AW.loopL (ι:=Nat) (fun k=>[(1,.own 1 0 0),(31,.sl (c.tables.map cTab)),(32,.i .i64 (c.tables.map cTab).length),(33,.i .i64 (k:Nat))]) (fun _=>[(1,⟨0,some (.box 31 (cCf c))⟩)]) (fun k=>k<=c.tables.length/\tabsSound c.topo.ports k (c.tables.drop k)=tabsSound c.topo.ports 0 c.tables) (fun k=>c.tables.length - k) 0 ⟨Nat.zero_le _,rfl⟩ jW jW fun k hk=>?_
 obtain ⟨hk,hg⟩:=hk
 refine jA ?_
 refine AW.cond rfl (fun h=>?_) (fun h=>?_)
 ·have h:k<c.tables.length:=by simpa using h
  have hr:c.topo.ports[k]?=some (c.topo.ports[k]'(by omega)):=List.getElem?_eq_getElem (by omega)
  have hq:(c.topo.ports.map cPts)[k]?=some (cPts (c.topo.ports[k]'(by omega))):=by rw [List.getElem?_map,hr];rfl
  rw [List.drop_eq_getElem_cons h,tabsSound,getD_at hr] at hg
  generalize (c.topo.ports[k]'(by omega))=r at hg hq
  refine jA ?_
  refine RG.opS rfl (op_index rfl (tk rfl) rfl (tk rfl) rfl rfl (show (c.tables.map cTab)[k]?=some (cTab c.tables[k]) by rw [List.getElem?_map,List.getElem?_eq_getElem (by assumption)];rfl) rfl) rfl ?_
  refine jH ?_
  refine RG.opS rfl (op_index rfl (tk rfl) rfl (tk rfl) rfl rfl hq rfl) rfl ?_
  refine wH rfl ?_
  refine RG.callS rfl rfl rfl rfl rfl (d_TSound c.tables[k] r) rfl rfl ?_;refine jH ?_
  refine AW.cond rfl (fun h'=>?_) (fun h'=>?_)
  ·have h':¬tabSound c.tables[k] r=0:=by simpa using h'
   rw [if_neg h'] at hg
   refine jA ?_
   refine jR ?_
   rw [<- hg]
   rfl
  ·have h':tabSound c.tables[k] r=0:=by simpa using h'
   rw [if_pos h'] at hg
   refine jA ?_
   exact ⟨k+1,⟨⟨h,hg⟩,by omega⟩,jV,jW⟩
 ·have h:¬k<c.tables.length:=by simpa using h
  obtain rfl:k=c.tables.length:=by omega
  rw [List.drop_length,tabsSound] at hg
  refine jA ?_
  refine jE ?_;refine jA ?_
  refine jR ?_
  rw [<- hg]
  rfl
theorem tb (N j:Nat):decide (N / 2 ^ j % 2=1)=N.testBit j:=Nat.testBit_eq_decide_div_mod_eq.symm
def fndR (o:Option Nat):AV:=.tup [.i .i64 ((o.getD 0:Nat):Int),.b o.isSome]
theorem runRow (fin sw port:Int) (hops:List Hop) (R:Run) (h:(⟨fin,⟨sw,port⟩,hops⟩:Run)=R):AV.agg [.i .i64 fin,.i .i64 sw,.i .i64 port,.sl (((hops.map cHop).drop 0).take (hops.map cHop).length)] = .agg (cRun R):=by
 rw [<- h]
 exact congrArg (fun x=>AV.agg [.i .i64 fin,.i .i64 sw,.i .i64 port,x]) (rowAll rfl)
theorem Rn.fnRo {σ σ':Sto} {x:AV} {f:FuncId} {c:List AV} (e:x = .fn f [] c) (h:c.all AV.pu1=true):Rn σ σ' x (.fn f [] c):=by
  subst e
  exact .fn rfl rfl (fun j x x' h1=>by simp at h1) (fun j x x' h1 h2=>by
    rw [h1] at h2
    rw [<- Option.some.inj h2]
    exact .pu (List.all_eq_true.1 h x (List.mem_of_getElem? h1)))
theorem op_clip {P:Program} {N:Nat} {o:Oper} {s:St} {t e:Nat} {ti ei:TI} {x y z:Operand} {els:List (List AV)} {k1 k2:IntKind} (ho:o.op = .slice t x none (some y) (some z)) (ht:TiOk P t ti) (hk:ti.k = .slice e) (he:TiOk P e ei) (hx:s.ev x = .sl els) (hy:s.ev y = .i k1 (els.length:Nat)) (hz:s.ev z = .i k2 (els.length:Nat)) :
  OpLoc P N o s ⟨.sl els,[],[]⟩:=by
 refine oploc_val [] _ fun s' W F μ a g1 g2 hs=>?_
 have ex:=hs.ev x
 rw [g1 x (by rw [ho];simp [Op.operands]),hx] at ex
 have ey:=hs.ev y
 rw [g1 y (by rw [ho];simp [Op.operands]),hy] at ey
 have ez:=hs.ev z
 rw [g1 z (by rw [ho];simp [Op.operands]),hz] at ez
 generalize hq:a.eval x=q at ex
 cases ex.sl' with
 | sl _ A c m b off cell hc hm hA hl hone hr hw =>
  have hb:(Instr.sliceBounds true els.length c none (some (.int k1 (els.length:Nat))) (some (.int k2 (els.length:Nat)))).run P W = .ok (0,els.length,els.length) W:=by
   have e1:(0:Int)<=((els.length:Nat):Int)/\((els.length:Nat):Int)<=(c:Int):=by omega
   have e2:(0:Int)<=((els.length:Nat):Int)/\((els.length:Nat):Int)<=((els.length:Nat):Int):=by omega
   simp only [Instr.sliceBounds,Instr.sliceBound,asIntOf,Sem.run_bind,Sem.run_pure,Result.andThen_ok,if_pos e1,if_pos e2,Int.toNat_natCast]
  refine ⟨.slice (if els.length=0 then A else A.map (·.add (0*ei.n))) els.length els.length,?_,.pure (.sl els _ els.length m b off cell (Nat.le_refl _) (Nat.le_trans hc hm) (fun hp=>?_) hl hone hr hw)⟩
  ·simp only [execOp,ho,Instr.sliceAt,Instr.slice,hq,ey.i',ez.i',Option.map_none,Option.map_some,Sem.run_bind,Sem.run_pure,Result.andThen_ok,run_underlying (ht.slice hk),hb,he.size,Nat.sub_zero]
  ·obtain ⟨rfl,h2,h3⟩:=hA hp
   refine ⟨?_,h2,h3⟩
   rw [if_neg (by omega),Nat.zero_mul]
   rfl
theorem op_buildArr {P : Program} {N : Nat} {o : Oper} {s : St} {t n e : Nat} {ti ei : TI} {parts : Array (Nat × Operand)} {r : List AV} (ho : o.op = .build t parts) (ht : TiOk P t ti) (hk : ti.k = .arr n e) (he : TiOk P e ei)
    (hr:fillA (fun i=>some (i*ei.n,ei.n)) ti.z (parts.toList.map fun p=>(p.1,s.ev p.2))=some r) (h1:r.all AV.one=true):OpLoc P N o s ⟨.agg r,[],[]⟩:=by
  refine oploc_val [] _ fun s' W F μ a g1 g2 hs=>?_
  have hp:=parts_rel (s:=s) hs (parts:=parts) fun p hp=>g1 p.2 (by rw [ho];simp only [Op.operands,List.mem_map];exact ⟨p,hp,rfl⟩)
  obtain ⟨z,hz1,hz2⟩:=ht.zero W
  have hz:=zsOk_rel (W:=W) (F:=F) hz2
  obtain ⟨us,k1,k2,k3⟩:=fill_ok _ _ ti.z z.cells r hp.1 hp.2 (by rw [<- Array.length_toList];exact hz.1) (fun j x v hx hv=>by
    have:=hz.2 j x v hx (by simpa using hv)
    exact ⟨this.2,.pure this.1⟩) hr
  rw [List.all_eq_true] at h1
  refine ⟨.agg us.toList.toArray,?_,.agg r us.toList (by simpa using k2) (fun j x hx=>h1 x (List.mem_of_getElem? hx)) (fun j x v hx hv=>(k3 j x v hx (by simpa using hv)).2)⟩
  have e3:us.toList.toArray=us:=by simp
  simp only [execOp,ho,Instr.build,Sem.run_bind,hz1,Result.andThen_ok,run_underlying (ht.array hk),he.size,k1,Sem.run_pure,e3]
def idxF {α:Type} (p:α->Bool):Nat->List α->Int
 | _,[]=>-1
 | i,x::l=>bif p x then (i:Nat) else idxF p (i+1) l
theorem idxF_any {α:Type} {p:α->Bool}:∀(i:Nat) (l:List α),decide (0<=idxF p i l)=l.any p
 | i,[]=>rfl
 | i,x::l=>by
  rw [idxF,List.any_cons]
  cases p x
  ·rw [cond_false,idxF_any (i+1) l];rfl
  ·rw [cond_true,Bool.true_or];exact decide_eq_true (by omega)
theorem idxF_eq {α:Type} {p:α->Bool}:∀(i:Nat) (l:List α),idxF p i l=match l.findIdx? p with | some k=>((i+k:Nat):Int) | none=>-1
 | i,[]=>rfl
 | i,x::l=>by
  rw [idxF,List.findIdx?_cons]
  cases p x
  ·rw [cond_false,idxF_eq (i+1) l]
   simp only [Bool.false_eq_true,if_false]
   cases l.findIdx? p with
   | none=>rfl
   | some k=>show ((i+1+k:Nat):Int)=((i+(k+1):Nat):Int);omega
  ·rfl
theorem d_IndexFunc_Int (F:Nat) (c0:List AV) (p:Int->Bool) (l:List (Int)) (H:∀x∈l,PDoes Tryz.prog F [.i .i64 x,.ro c0] (.b (p x))):PDoes Tryz.prog 177 [.sl (l.map cI),.fn F [] [.ro c0]] (.i .i64 (idxF p 0 l)):=by
 refine PDoes.of_bodyN Tryz.func177 rfl (by kernel_rfl) rfl rfl ?_
 refine jA ?_
 refine AW.lens 6 rfl fun hm=>?_
 rw [List.length_map] at hm
 refine AW.loopL (ι:=Nat) (fun k=>[(0,.sl (l.map cI)),(1,.fn F [] [.ro c0]),(7,.i .i64 (l.map cI).length),(8,.i .i64 (k:Nat))]) (fun _=>[]) (fun k=>k<=l.length/\idxF p k (l.drop k)=idxF p 0 l) (fun k=>l.length - k) 0 ⟨Nat.zero_le _,rfl⟩ ⟨Rn.is rfl rfl,Rn.fnRo rfl rfl,Rn.is rfl rfl,Rn.is rfl rfl,trivial⟩ trivial fun k hk=>?_
 obtain ⟨hk,hf⟩:=hk
 refine jA ?_
 refine AW.cond rfl (fun h0=>?_) (fun h0=>?_)
 ·have h:k<l.length:=by simpa using h0
  rw [List.drop_eq_getElem_cons h,idxF] at hf
  have hH:=H l[k] (List.getElem_mem h)
  have hx:(l.map cI)[k]?=some (cI l[k]):=by rw [List.getElem?_map,List.getElem?_eq_getElem h];rfl
  generalize l[k]=x at hf hH hx
  refine jA ?_
  refine RG.opS rfl (op_index rfl (tk rfl) rfl (tk rfl) rfl rfl hx rfl) rfl ?_
  refine wH rfl ?_
  cases hp:p x
  ·rw [hp] at hf hH
   refine RG.callS rfl rfl rfl rfl rfl hH rfl rfl ?_;refine jH ?_
   refine AW.condF rfl ?_;refine jA ?_
   exact ⟨k+1,⟨⟨h,hf⟩,by omega⟩,⟨Rn.is rfl rfl,Rn.fnRo rfl rfl,Rn.is rfl rfl,Rn.is (i64_next h hm) rfl,trivial⟩,trivial⟩
  ·rw [hp] at hf hH
   refine RG.callS rfl rfl rfl rfl rfl hH rfl rfl ?_;refine jH ?_
   refine AW.condT rfl ?_;refine jA ?_
   refine jR ?_
   rw [<- hf]
   rfl
 ·have h:¬k<l.length:=by simpa using h0
  obtain rfl:k=l.length:=by omega
  rw [List.drop_length,idxF] at hf
  refine jA ?_
  refine jE ?_;refine jA ?_
  refine jR ?_
  rw [<- hf]
  rfl
theorem d_ContainsFunc_Int (F:Nat) (c0:List AV) (p:Int->Bool) (l:List (Int)) (H:∀x∈l,PDoes Tryz.prog F [.i .i64 x,.ro c0] (.b (p x))) (q:Bool) (hq:l.any p=q):PDoes Tryz.prog 123 [.sl (l.map cI),.fn F [] [.ro c0]] (.b q):=by
 refine PDoes.of_bodyN Tryz.func123 rfl (by kernel_rfl) rfl rfl ?_
 refine jA ?_
 refine RG.callS rfl rfl rfl rfl rfl (d_IndexFunc_Int F c0 p l H) rfl rfl ?_;refine jH ?_
 refine jR ?_
 exact congrArg AV.b ((idxF_any 0 l).trans hq)
theorem d_IndexFunc_Pr (F:Nat) (c0:List AV) (c1:List AV) (p:Int × Int->Bool) (l:List (Int × Int)) (H:∀x∈l,PDoes Tryz.prog F [.agg (cPr x),.ro c0,.ro c1] (.b (p x))):PDoes Tryz.prog 219 [.sl (l.map cPr),.fn F [] [.ro c0,.ro c1]] (.i .i64 (idxF p 0 l)):=by
 refine PDoes.of_bodyN Tryz.func219 rfl (by kernel_rfl) rfl rfl ?_
 refine jA ?_
 refine AW.lens 6 rfl fun hm=>?_
 rw [List.length_map] at hm
 refine AW.loopL (ι:=Nat) (fun k=>[(0,.sl (l.map cPr)),(1,.fn F [] [.ro c0,.ro c1]),(7,.i .i64 (l.map cPr).length),(8,.i .i64 (k:Nat))]) (fun _=>[]) (fun k=>k<=l.length/\idxF p k (l.drop k)=idxF p 0 l) (fun k=>l.length - k) 0 ⟨Nat.zero_le _,rfl⟩ ⟨Rn.is rfl rfl,Rn.fnRo rfl rfl,Rn.is rfl rfl,Rn.is rfl rfl,trivial⟩ trivial fun k hk=>?_
 obtain ⟨hk,hf⟩:=hk
 refine jA ?_
 refine AW.cond rfl (fun h0=>?_) (fun h0=>?_)
 ·have h:k<l.length:=by simpa using h0
  rw [List.drop_eq_getElem_cons h,idxF] at hf
  have hH:=H l[k] (List.getElem_mem h)
  have hx:(l.map cPr)[k]?=some (cPr l[k]):=by rw [List.getElem?_map,List.getElem?_eq_getElem h];rfl
  generalize l[k]=x at hf hH hx
  refine jA ?_
  refine RG.opS rfl (op_index rfl (tk rfl) rfl (tk rfl) rfl rfl hx rfl) rfl ?_
  refine wH rfl ?_
  cases hp:p x
  ·rw [hp] at hf hH
   refine RG.callS rfl rfl rfl rfl rfl hH rfl rfl ?_;refine jH ?_
   refine AW.condF rfl ?_;refine jA ?_
   exact ⟨k+1,⟨⟨h,hf⟩,by omega⟩,⟨Rn.is rfl rfl,Rn.fnRo rfl rfl,Rn.is rfl rfl,Rn.is (i64_next h hm) rfl,trivial⟩,trivial⟩
  ·rw [hp] at hf hH
   refine RG.callS rfl rfl rfl rfl rfl hH rfl rfl ?_;refine jH ?_
   refine AW.condT rfl ?_;refine jA ?_
   refine jR ?_
   rw [<- hf]
   rfl
 ·have h:¬k<l.length:=by simpa using h0
  obtain rfl:k=l.length:=by omega
  rw [List.drop_length,idxF] at hf
  refine jA ?_
  refine jE ?_;refine jA ?_
  refine jR ?_
  rw [<- hf]
  rfl
theorem d_ContainsFunc_Pr (F:Nat) (c0:List AV) (c1:List AV) (p:Int × Int->Bool) (l:List (Int × Int)) (H:∀x∈l,PDoes Tryz.prog F [.agg (cPr x),.ro c0,.ro c1] (.b (p x))) (q:Bool) (hq:l.any p=q):PDoes Tryz.prog 175 [.sl (l.map cPr),.fn F [] [.ro c0,.ro c1]] (.b q):=by
 refine PDoes.of_bodyN Tryz.func175 rfl (by kernel_rfl) rfl rfl ?_
 refine jA ?_
 refine RG.callS rfl rfl rfl rfl rfl (d_IndexFunc_Pr F c0 c1 p l H) rfl rfl ?_;refine jH ?_
 refine jR ?_
 exact congrArg AV.b ((idxF_any 0 l).trans hq)
theorem d_IndexFunc_Hop (F:Nat) (c0:List AV) (p:Hop->Bool) (l:List (Hop)) (H:∀x∈l,PDoes Tryz.prog F [.agg (cHop x),.ro c0] (.b (p x))):PDoes Tryz.prog 220 [.sl (l.map cHop),.fn F [] [.ro c0]] (.i .i64 (idxF p 0 l)):=by
 refine PDoes.of_bodyN Tryz.func220 rfl (by kernel_rfl) rfl rfl ?_
 refine jA ?_
 refine AW.lens 6 rfl fun hm=>?_
 rw [List.length_map] at hm
 refine AW.loopL (ι:=Nat) (fun k=>[(0,.sl (l.map cHop)),(1,.fn F [] [.ro c0]),(7,.i .i64 (l.map cHop).length),(8,.i .i64 (k:Nat))]) (fun _=>[]) (fun k=>k<=l.length/\idxF p k (l.drop k)=idxF p 0 l) (fun k=>l.length - k) 0 ⟨Nat.zero_le _,rfl⟩ ⟨Rn.is rfl rfl,Rn.fnRo rfl rfl,Rn.is rfl rfl,Rn.is rfl rfl,trivial⟩ trivial fun k hk=>?_
 obtain ⟨hk,hf⟩:=hk
 refine jA ?_
 refine AW.cond rfl (fun h0=>?_) (fun h0=>?_)
 ·have h:k<l.length:=by simpa using h0
  rw [List.drop_eq_getElem_cons h,idxF] at hf
  have hH:=H l[k] (List.getElem_mem h)
  have hx:(l.map cHop)[k]?=some (cHop l[k]):=by rw [List.getElem?_map,List.getElem?_eq_getElem h];rfl
  generalize l[k]=x at hf hH hx
  refine jA ?_
  refine RG.opS rfl (op_index rfl (tk rfl) rfl (tk rfl) rfl rfl hx rfl) rfl ?_
  refine wH rfl ?_
  cases hp:p x
  ·rw [hp] at hf hH
   refine RG.callS rfl rfl rfl rfl rfl hH rfl rfl ?_;refine jH ?_
   refine AW.condF rfl ?_;refine jA ?_
   exact ⟨k+1,⟨⟨h,hf⟩,by omega⟩,⟨Rn.is rfl rfl,Rn.fnRo rfl rfl,Rn.is rfl rfl,Rn.is (i64_next h hm) rfl,trivial⟩,trivial⟩
  ·rw [hp] at hf hH
   refine RG.callS rfl rfl rfl rfl rfl hH rfl rfl ?_;refine jH ?_
   refine AW.condT rfl ?_;refine jA ?_
   refine jR ?_
   rw [<- hf]
   rfl
 ·have h:¬k<l.length:=by simpa using h0
  obtain rfl:k=l.length:=by omega
  rw [List.drop_length,idxF] at hf
  refine jA ?_
  refine jE ?_;refine jA ?_
  refine jR ?_
  rw [<- hf]
  rfl
theorem d_ContainsFunc_Hop (F:Nat) (c0:List AV) (p:Hop->Bool) (l:List (Hop)) (H:∀x∈l,PDoes Tryz.prog F [.agg (cHop x),.ro c0] (.b (p x))) (q:Bool) (hq:l.any p=q):PDoes Tryz.prog 178 [.sl (l.map cHop),.fn F [] [.ro c0]] (.b q):=by
 refine PDoes.of_bodyN Tryz.func178 rfl (by kernel_rfl) rfl rfl ?_
 refine jA ?_
 refine RG.callS rfl rfl rfl rfl rfl (d_IndexFunc_Hop F c0 p l H) rfl rfl ?_;refine jH ?_
 refine jR ?_
 exact congrArg AV.b ((idxF_any 0 l).trans hq)
theorem d_IndexFunc_Cb (F:Nat) (p:Cb->Bool) (l:List (Cb)) (H:∀x∈l,PDoes Tryz.prog F [.agg (cCb x)] (.b (p x))):PDoes Tryz.prog 132 [.sl (l.map cCb),.fn F [] []] (.i .i64 (idxF p 0 l)):=by
 refine PDoes.of_bodyN Tryz.func132 rfl (by kernel_rfl) rfl rfl ?_
 refine jA ?_
 refine AW.lens 6 rfl fun hm=>?_
 rw [List.length_map] at hm
 refine AW.loopL (ι:=Nat) (fun k=>[(0,.sl (l.map cCb)),(1,.fn F [] []),(7,.i .i64 (l.map cCb).length),(8,.i .i64 (k:Nat))]) (fun _=>[]) (fun k=>k<=l.length/\idxF p k (l.drop k)=idxF p 0 l) (fun k=>l.length - k) 0 ⟨Nat.zero_le _,rfl⟩ ⟨Rn.is rfl rfl,Rn.fnRo rfl rfl,Rn.is rfl rfl,Rn.is rfl rfl,trivial⟩ trivial fun k hk=>?_
 obtain ⟨hk,hf⟩:=hk
 refine jA ?_
 refine AW.cond rfl (fun h0=>?_) (fun h0=>?_)
 ·have h:k<l.length:=by simpa using h0
  rw [List.drop_eq_getElem_cons h,idxF] at hf
  have hH:=H l[k] (List.getElem_mem h)
  have hx:(l.map cCb)[k]?=some (cCb l[k]):=by rw [List.getElem?_map,List.getElem?_eq_getElem h];rfl
  generalize l[k]=x at hf hH hx
  refine jA ?_
  refine RG.opS rfl (op_index rfl (tk rfl) rfl (tk rfl) rfl rfl hx rfl) rfl ?_
  refine wH rfl ?_
  cases hp:p x
  ·rw [hp] at hf hH
   refine RG.callS rfl rfl rfl rfl rfl hH rfl rfl ?_;refine jH ?_
   refine AW.condF rfl ?_;refine jA ?_
   exact ⟨k+1,⟨⟨h,hf⟩,by omega⟩,⟨Rn.is rfl rfl,Rn.fnRo rfl rfl,Rn.is rfl rfl,Rn.is (i64_next h hm) rfl,trivial⟩,trivial⟩
  ·rw [hp] at hf hH
   refine RG.callS rfl rfl rfl rfl rfl hH rfl rfl ?_;refine jH ?_
   refine AW.condT rfl ?_;refine jA ?_
   refine jR ?_
   rw [<- hf]
   rfl
 ·have h:¬k<l.length:=by simpa using h0
  obtain rfl:k=l.length:=by omega
  rw [List.drop_length,idxF] at hf
  refine jA ?_
  refine jE ?_;refine jA ?_
  refine jR ?_
  rw [<- hf]
  rfl
theorem d_ContainsFunc_Cb (F:Nat) (p:Cb->Bool) (l:List (Cb)) (H:∀x∈l,PDoes Tryz.prog F [.agg (cCb x)] (.b (p x))) (q:Bool) (hq:l.any p=q):PDoes Tryz.prog 83 [.sl (l.map cCb),.fn F [] []] (.b q):=by
 refine PDoes.of_bodyN Tryz.func83 rfl (by kernel_rfl) rfl rfl ?_
 refine jA ?_
 refine RG.callS rfl rfl rfl rfl rfl (d_IndexFunc_Cb F p l H) rfl rfl ?_;refine jH ?_
 refine jR ?_
 exact congrArg AV.b ((idxF_any 0 l).trans hq)
theorem d_Index_Sp (v:Sp) (l:List (Sp)):PDoes Tryz.prog 211 [.sl (l.map cSp),.agg (cSp v)] (.i .i64 (idxF (fun x=>decide (v=x)) 0 l)):=by
 refine PDoes.of_bodyN Tryz.func211 rfl (by kernel_rfl) rfl rfl ?_
 refine jA ?_
 refine AW.lens 6 rfl fun hm=>?_
 rw [List.length_map] at hm
 refine AW.loopL (ι:=Nat) (fun k=>[(0,.sl (l.map cSp)),(3,.own 3 0 0),(7,.i .i64 (l.map cSp).length),(8,.i .i64 (k:Nat))]) (fun _=>[(3,⟨0,some (.box 40 (cSp v))⟩)]) (fun k=>k<=l.length/\idxF (fun x=>decide (v=x)) k (l.drop k)=idxF (fun x=>decide (v=x)) 0 l) (fun k=>l.length - k) 0 ⟨Nat.zero_le _,rfl⟩ jW jW fun k hk=>?_
 obtain ⟨hk,hf⟩:=hk
 refine jA ?_
 refine AW.cond rfl (fun h0=>?_) (fun h0=>?_)
 ·have h:k<l.length:=by simpa using h0
  rw [List.drop_eq_getElem_cons h,idxF] at hf
  have hx:(l.map cSp)[k]?=some (cSp l[k]):=by rw [List.getElem?_map,List.getElem?_eq_getElem h];rfl
  generalize l[k]=x at hf hx
  refine jA ?_
  refine RG.opS rfl (op_index rfl (tk rfl) rfl (tk rfl) rfl rfl hx rfl) rfl ?_
  refine wH rfl ?_
  by_cases hp:v=x
  ·rw [decide_eq_true hp] at hf
   refine RG.opS rfl (op_eqG rfl ty_ok (by kernel_rfl) (by kernel_rfl) rfl rfl (eq_Sp v x) (decide_eq_true hp)) rfl ?_
   refine jH ?_;refine AW.condT rfl ?_;refine jA ?_
   refine jR ?_
   rw [<- hf]
   rfl
  ·rw [decide_eq_false hp] at hf
   refine RG.opS rfl (op_eqG rfl ty_ok (by kernel_rfl) (by kernel_rfl) rfl rfl (eq_Sp v x) (decide_eq_false hp)) rfl ?_
   refine jH ?_;refine AW.condF rfl ?_;refine jA ?_
   exact ⟨k+1,⟨⟨h,hf⟩,by omega⟩,jV,jW⟩
 ·have h:¬k<l.length:=by simpa using h0
  obtain rfl:k=l.length:=by omega
  rw [List.drop_length,idxF] at hf
  refine jA ?_
  refine jE ?_;refine jA ?_
  refine jR ?_
  rw [<- hf]
  rfl
theorem d_Contains_Sp (v:Sp) (l:List (Sp)) (q:Bool) (hq:decide (v∈l)=q):PDoes Tryz.prog 168 [.sl (l.map cSp),.agg (cSp v)] (.b q):=by
 refine PDoes.of_bodyN Tryz.func168 rfl (by kernel_rfl) rfl rfl ?_
 refine jA ?_
 refine RG.callS rfl rfl rfl rfl rfl (d_Index_Sp v l) rfl rfl ?_;refine jH ?_
 refine jR ?_
 refine congrArg AV.b ((idxF_any 0 l).trans (Eq.trans ?_ hq))
 rw [Bool.eq_iff_iff]
 simp
theorem d_Index_Cb (v:Cb) (l:List (Cb)):PDoes Tryz.prog 158 [.sl (l.map cCb),.agg (cCb v)] (.i .i64 (idxF (fun x=>decide (v=x)) 0 l)):=by
 refine PDoes.of_bodyN Tryz.func158 rfl (by kernel_rfl) rfl rfl ?_
 refine jA ?_
 refine AW.lens 6 rfl fun hm=>?_
 rw [List.length_map] at hm
 refine AW.loopL (ι:=Nat) (fun k=>[(0,.sl (l.map cCb)),(3,.own 3 0 0),(7,.i .i64 (l.map cCb).length),(8,.i .i64 (k:Nat))]) (fun _=>[(3,⟨0,some (.box 36 (cCb v))⟩)]) (fun k=>k<=l.length/\idxF (fun x=>decide (v=x)) k (l.drop k)=idxF (fun x=>decide (v=x)) 0 l) (fun k=>l.length - k) 0 ⟨Nat.zero_le _,rfl⟩ jW jW fun k hk=>?_
 obtain ⟨hk,hf⟩:=hk
 refine jA ?_
 refine AW.cond rfl (fun h0=>?_) (fun h0=>?_)
 ·have h:k<l.length:=by simpa using h0
  rw [List.drop_eq_getElem_cons h,idxF] at hf
  have hx:(l.map cCb)[k]?=some (cCb l[k]):=by rw [List.getElem?_map,List.getElem?_eq_getElem h];rfl
  generalize l[k]=x at hf hx
  refine jA ?_
  refine RG.opS rfl (op_index rfl (tk rfl) rfl (tk rfl) rfl rfl hx rfl) rfl ?_
  refine wH rfl ?_
  by_cases hp:v=x
  ·rw [decide_eq_true hp] at hf
   refine RG.opS rfl (op_eqG rfl ty_ok (by kernel_rfl) (by kernel_rfl) rfl rfl (eq_Cb v x) (decide_eq_true hp)) rfl ?_
   refine jH ?_;refine AW.condT rfl ?_;refine jA ?_
   refine jR ?_
   rw [<- hf]
   rfl
  ·rw [decide_eq_false hp] at hf
   refine RG.opS rfl (op_eqG rfl ty_ok (by kernel_rfl) (by kernel_rfl) rfl rfl (eq_Cb v x) (decide_eq_false hp)) rfl ?_
   refine jH ?_;refine AW.condF rfl ?_;refine jA ?_
   exact ⟨k+1,⟨⟨h,hf⟩,by omega⟩,jV,jW⟩
 ·have h:¬k<l.length:=by simpa using h0
  obtain rfl:k=l.length:=by omega
  rw [List.drop_length,idxF] at hf
  refine jA ?_
  refine jE ?_;refine jA ?_
  refine jR ?_
  rw [<- hf]
  rfl
theorem d_Contains_Cb (v:Cb) (l:List (Cb)) (q:Bool) (hq:decide (v∈l)=q):PDoes Tryz.prog 115 [.sl (l.map cCb),.agg (cCb v)] (.b q):=by
 refine PDoes.of_bodyN Tryz.func115 rfl (by kernel_rfl) rfl rfl ?_
 refine jA ?_
 refine RG.callS rfl rfl rfl rfl rfl (d_Index_Cb v l) rfl rfl ?_;refine jH ?_
 refine jR ?_
 refine congrArg AV.b ((idxF_any 0 l).trans (Eq.trans ?_ hq))
 rw [Bool.eq_iff_iff]
 simp
theorem d_Clip_Int (l:List (Int)):PDoes Tryz.prog 37 [.sl (l.map cI)] (.sl (l.map cI)):=by
 refine PDoes.of_bodyN Tryz.func37 rfl (by kernel_rfl) rfl rfl ?_
 refine jA ?_
 refine RG.opS rfl (op_clip rfl (tk rfl) rfl (tk rfl) rfl rfl rfl) rfl ?_
 refine jH ?_
 refine jR ?_
 rfl
theorem d_Clip_Cb (l:List (Cb)):PDoes Tryz.prog 39 [.sl (l.map cCb)] (.sl (l.map cCb)):=by
 refine PDoes.of_bodyN Tryz.func39 rfl (by kernel_rfl) rfl rfl ?_
 refine jA ?_
 refine RG.opS rfl (op_clip rfl (tk rfl) rfl (tk rfl) rfl rfl rfl) rfl ?_
 refine jH ?_
 refine jR ?_
 rfl
theorem d_Clip_Atom (l:List (Atom)):PDoes Tryz.prog 87 [.sl (l.map cAtom)] (.sl (l.map cAtom)):=by
 refine PDoes.of_bodyN Tryz.func87 rfl (by kernel_rfl) rfl rfl ?_
 refine jA ?_
 refine RG.opS rfl (op_clip rfl (tk rfl) rfl (tk rfl) rfl rfl rfl) rfl ?_
 refine jH ?_
 refine jR ?_
 rfl
theorem d_AllowedFn (x y z:Int × Int):PDoes Tryz.prog 176 [.agg (cPr x),.ro (cPr y),.ro (cPr z)] (.b (decide (x=y) || decide (x=z))):=by
 refine PDoes.of_bodyN Tryz.func176 rfl (by kernel_rfl) rfl rfl ?_
 refine jB ?_;refine wF ?_;refine wH rfl ?_;refine jB ?_
 refine AW.text ?_
 refine wH rfl ?_
 by_cases h:x=y
 ·refine RG.opS rfl (op_eqG rfl ty_ok (by kernel_rfl) (by kernel_rfl) rfl rfl (eq_Pr x y) (decide_eq_true h)) rfl ?_
  refine jH ?_
  refine jR ?_
  exact congrArg AV.b (by rw [decide_eq_true h];rfl)
 ·refine RG.opS rfl (op_eqG rfl ty_ok (by kernel_rfl) (by kernel_rfl) rfl rfl (eq_Pr x y) (decide_eq_false h)) rfl ?_
  refine wH rfl ?_
  refine RG.opS rfl (op_eqG rfl ty_ok (by kernel_rfl) (by kernel_rfl) rfl rfl (eq_Pr x z) rfl) rfl ?_
  refine jH ?_
  refine jR ?_
  exact congrArg AV.b (by rw [decide_eq_false h];rfl)
theorem d_Allowed (p:Pol) (a b:Int) (v:Bool) (hv:allowed p a b=v):PDoes Tryz.prog 122 [.agg (cPol p),.i .i64 a,.i .i64 b] (.b v):=by
 subst hv
 refine PDoes.of_bodyN Tryz.func122 rfl (by kernel_rfl) rfl rfl ?_
 refine jA ?_
 cases h1:tenantOk p a
 ·refine RG.callS rfl rfl rfl rfl rfl (d_tenant p a _ h1) rfl rfl ?_;refine jH ?_
  refine AW.condT rfl ?_;refine jA ?_
  refine jR ?_
  exact congrArg AV.b (by rw [allowed,h1];rfl)
 refine RG.callS rfl rfl rfl rfl rfl (d_tenant p a _ h1) rfl rfl ?_;refine jH ?_
 cases h2:tenantOk p b
 ·refine RG.callS rfl rfl rfl rfl rfl (d_tenant p b _ h2) rfl rfl ?_;refine jH ?_
  refine AW.condT rfl ?_;refine jA ?_
  refine jR ?_
  exact congrArg AV.b (by rw [allowed,h1,h2];rfl)
 refine RG.callS rfl rfl rfl rfl rfl (d_tenant p b _ h2) rfl rfl ?_
 refine wH rfl ?_;refine jB ?_;refine AW.condF rfl ?_;refine jA ?_
 refine RG.opS rfl (op_buildArr rfl (tk rfl) rfl (tk rfl) rfl rfl) rfl ?_
 refine wH rfl ?_
 refine RG.opS rfl (op_buildArr rfl (tk rfl) rfl (tk rfl) rfl rfl) rfl ?_
 refine wH rfl ?_;refine jB ?_
 have e0:allowed p a b=(decide (a=b) || p.peers.any fun x=>decide (x=(a,b)) || decide (x=(b,a))):=by rw [allowed,h1,h2];rfl
 refine AW.text ?_
 by_cases h:a=b
 ·refine RG.runO ty_ok 0 [(27,.b true)] 400 rfl jD ?_
  refine jB ?_
  refine jR ?_
  exact congrArg AV.b (by rw [e0,decide_eq_true h];rfl)
 ·refine RG.runO ty_ok 0 [(27,.b false)] 400 rfl jD ?_
  refine RG.callS rfl rfl rfl rfl rfl (d_ContainsFunc_Pr _ (cPr (a,b)) (cPr (b,a)) (fun x=>decide (x=(a,b)) || decide (x=(b,a))) p.peers (fun x _=>d_AllowedFn x (a,b) (b,a)) _ rfl) rfl rfl ?_;refine jH ?_
  refine jR ?_
  exact congrArg AV.b (by rw [e0,decide_eq_false h];rfl)
theorem d_Vias (p:Pol) (a b:Int) (hp:p.ways.length<=4):PDoes Tryz.prog 124 [.agg (cPol p),.i .i64 a,.i .i64 b] (.sl ((vias p a b).map cI)):=by
 refine PDoes.of_bodyN Tryz.func124 rfl (by kernel_rfl) rfl rfl ?_
 have hm:p.ways.length<=9223372036854775807:=by omega
 have hvl:(vias p a b).length<=4:=by
  have:=accI_len (f:=viaI a b) (m:=1) (fun n w=>by rw [viaI];cases (decide (w.fro=a) && decide (w.to=b)) <;> simp) 0 p.ways []
  rw [vias]
  simp at this
  omega
 refine jB ?_;refine wF ?_;refine wH rfl ?_;refine jB ?_
 refine AW.text ?_
 refine RG.opS rfl (op_nilRow 7 3 1 rfl) rfl ?_
 refine jH ?_
 refine AW.loopL (ι:=Nat × List Int) (fun i=>[(1,.i .i64 a),(2,.i .i64 b),(7,.row 7 0 0 (i.2.map cI).length),(11,.sl (p.ways.map cWy)),(12,.i .i64 (p.ways.map cWy).length),(13,.i .i64 (i.1:Nat))]) (fun i=>[(7,⟨0,some (.row 3 1 (i.2.map cI))⟩)]) (fun i=>i.1<=p.ways.length/\accI (viaI a b) i.1 (p.ways.drop i.1) i.2=vias p a b) (fun i=>p.ways.length - i.1) (0,[]) ⟨Nat.zero_le _,rfl⟩ jW jW fun i hi=>?_
 obtain ⟨k,out⟩:=i
 obtain ⟨hk,hf⟩:=hi
 simp only at hk hf
 refine jA ?_
 refine AW.cond rfl (fun h0'=>?_) (fun h0'=>?_)
 ·have h':k<p.ways.length:=by simpa using h0'
  have hol:out.length<=4:=by
   have h1:=accI_ge (f:=viaI a b) k (p.ways.drop k) out
   rw [hf] at h1
   omega
  rw [List.drop_eq_getElem_cons h',accI,viaI] at hf
  have hkx:(p.ways.map cWy)[k]?=some (cWy p.ways[k]):=by rw [List.getElem?_map,List.getElem?_eq_getElem h'];rfl
  generalize p.ways[k]=w at hf hkx
  refine jA ?_
  refine RG.opS rfl (op_index rfl (tk rfl) rfl (tk rfl) rfl rfl hkx rfl) rfl ?_
  refine wH rfl ?_;refine jB ?_
  refine AW.text ?_
  by_cases p1:w.fro=a
  ·refine RG.runO ty_ok 0 [(20,.b true)] 400 rfl jD ?_
   refine jB ?_
   refine AW.cond rfl (fun hq=>?_) (fun hq=>?_)
   ·have hq:w.to=b:=of_decide_eq_true hq
    rw [decide_eq_true p1,decide_eq_true hq] at hf
    refine jB ?_
    refine AW.text ?_
    refine wH rfl ?_
    refine RG.opS rfl (op_app1 cI out w.via (by omega) rfl rfl rfl rfl (tk rfl) rfl (tk rfl) rfl rfl ⟨_,rfl,rfl⟩ rfl rfl) rfl ?_;refine jH ?_
    exact ⟨(k+1,_),⟨⟨h',hf⟩,by show p.ways.length - (k+1)<p.ways.length - k;omega⟩,jV,jW⟩
   ·have hq:¬w.to=b:=of_decide_eq_false hq
    rw [decide_eq_true p1,decide_eq_false hq,Bool.and_false,cond_false,List.append_nil] at hf
    refine jA ?_
    exact ⟨(k+1,out),⟨⟨h',hf⟩,by show p.ways.length - (k+1)<p.ways.length - k;omega⟩,jV,jW⟩
  ·rw [decide_eq_false p1,Bool.false_and,cond_false,List.append_nil] at hf
   refine RG.runO ty_ok 0 [(20,.b false)] 400 rfl jD ?_
   refine jB ?_;refine AW.condF rfl ?_;refine jA ?_
   exact ⟨(k+1,out),⟨⟨h',hf⟩,by show p.ways.length - (k+1)<p.ways.length - k;omega⟩,jV,jW⟩
 ·have h':¬k<p.ways.length:=by simpa using h0'
  obtain rfl:k=p.ways.length:=by omega
  rw [List.drop_length,accI] at hf
  refine jA ?_
  refine jE ?_;refine jA ?_
  refine RG.callMS rfl rfl rfl rfl (congrArg (fun x=>[x]) (rowAll rfl)) rfl (d_Clip_Int out) rfl ?_;refine jH ?_
  refine jR ?_
  rw [<- hf]
  rfl
theorem low8:∀n,n<256->UInt64.ofNat n &&& ~~~(lowH 8).lo=0:=by decide
theorem low24:∀n,n<8->UInt64.ofNat n &&& ~~~(lowH 24).lo=0:=by decide
theorem ofI_nat (n:Nat) (h:n<=300):ofI64 (n:Int)=UInt64.ofNat n:=by
 apply UInt64.toNat_inj.1
 have:=ofI64_nat (n:Int)
 rw [IntKind.wrap_u64] at this
 rw [UInt64.toNat_ofNat']
 omega
def stampE (c:Cf) (s:Sp) (v:Int):Int:=if c.sound=0 then (if v<0\/v>255 then 4 else if s∈edges c.topo.ports then 0 else 7) else c.sound
def stampC (c:Cf) (s:Sp) (v:Int):Cb:=if stampE c s v=0 then stampOf c s v else Cb.zero
theorem d_CStamp (c:Cf) (s:Sp) (v:Int):PDoes Tryz.prog 118 [.agg (cCf c),.agg (cSp s),.i .i64 v] (.tup [.agg (cCb (stampC c s v)),.i .i64 (stampE c s v)]):=by
 refine PDoes.of_bodyN Tryz.func118 rfl (by kernel_rfl) rfl rfl ?_
 refine jA ?_
 refine RG.callS rfl rfl rfl rfl rfl (d_CSound c) rfl rfl ?_;refine jH ?_
 refine AW.cond rfl (fun h0=>?_) (fun h0=>?_)
 ·have h0:¬c.sound=0:=by simpa using h0
  have e1:stampE c s v=c.sound:=by rw [stampE,if_neg h0]
  rw [stampC,e1,if_neg h0]
  refine jA ?_
  refine jR ?_
  rfl
 have h0:c.sound=0:=by simpa using h0
 have hc:=Cf.ok h0
 have e0:stampE c s v=if v<0\/v>255 then 4 else if s∈edges c.topo.ports then 0 else 7:=by rw [stampE,if_pos h0]
 refine jB ?_
 refine AW.text ?_
 by_cases h1:v<0
 ·refine RG.runO ty_ok 0 [(21,.b true)] 400 rfl jD ?_
  refine jB ?_;refine AW.condT rfl ?_;refine jA ?_
  have e1:stampE c s v=4:=by rw [e0,if_pos (by omega)]
  rw [stampC,e1,if_neg (by decide)]
  refine jR ?_
  rfl
 ·by_cases h2:v>255
  ·refine RG.runO ty_ok 0 [(21,.b false),(24,.b true)] 400 rfl jD ?_
   refine jB ?_;refine AW.condT rfl ?_;refine jA ?_
   have e1:stampE c s v=4:=by rw [e0,if_pos (by omega)]
   rw [stampC,e1,if_neg (by decide)]
   refine jR ?_
   rfl
  ·refine RG.runO ty_ok 0 [(21,.b false),(24,.b false)] 400 rfl jD ?_
   rw [if_neg (by omega)] at e0
   refine jB ?_;refine AW.condF rfl ?_;refine jA ?_
   refine RG.callMS rfl rfl rfl rfl rfl rfl (d_Edges c.topo.ports hc.topo) rfl ?_
   refine wH rfl ?_
   by_cases hs:s∈edges c.topo.ports
   rotate_left
   ·refine RG.callS rfl rfl rfl rfl rfl (d_Contains_Sp s (edges c.topo.ports) _ (decide_eq_false hs)) rfl rfl ?_;refine jH ?_
    refine AW.condT rfl ?_;refine jA ?_
    have e1:stampE c s v=7:=by rw [e0,if_neg hs]
    rw [stampC,e1,if_neg (by decide)]
    refine jR ?_
    rfl
   have e1:stampE c s v=0:=by rw [e0,if_pos hs]
   rw [stampC,e1,if_pos rfl]
   refine RG.callS rfl rfl rfl rfl rfl (d_Contains_Sp s (edges c.topo.ports) _ (decide_eq_true hs)) rfl rfl ?_;refine jH ?_
   refine AW.condF rfl ?_;refine jA ?_
   obtain ⟨n,r,a,p,hr,hp,hk,rfl⟩:=edges_mem.1 hs
   have hpa:portAt c.topo.ports ⟨n,a⟩=p:=portAt_at hr hp
   have hok:=(topoSound_ok hc.topo).2.2.2 n r hr a p hp
   obtain ⟨t,ht,ht3⟩:∃t:Nat,p.tenant=(t:Nat)/\t<=3:=by
    rw [portOk] at hok
    simp [hk] at hok
    obtain ⟨t,ht⟩:=Int.eq_ofNat_of_zero_le hok.2.1
    exact ⟨t,ht,by omega⟩
   obtain ⟨V,rfl⟩:=Int.eq_ofNat_of_zero_le (show 0<=v by omega)
   have hw:IntKind.i64.wrap (p.tenant+Int.ofNat 1)=((t+1:Nat):Int):=by
    rw [IntKind.wrap_i64,ht]
    simp only [Int.ofNat_eq_natCast]
    omega
   refine RG.callS rfl rfl rfl rfl rfl (d_Mask 88 40 (by decide)) rfl rfl ?_;refine jH ?_
   refine RG.opS rfl (op_index rfl (tk rfl) rfl (tk rfl) rfl rfl (show (c.topo.ports.map cPts)[n]?=some (cPts r) by rw [List.getElem?_map,hr];rfl) rfl) rfl ?_
   refine wH rfl ?_
   refine RG.opS rfl (op_index rfl (tk rfl) rfl (tk rfl) rfl rfl (show (r.map cPt)[a]?=some (cPt p) by rw [List.getElem?_map,hp];rfl) rfl) rfl ?_
   refine RG.runO ty_ok 0 [(53,.i .i64 (t+1:Nat))] 400 rfl jD ?_
   refine RG.callS rfl rfl rfl rfl rfl (d_Put Hd.zero 88 24 (ofI64 ((t+1:Nat):Int)) (by decide) (by decide) (by rw [ofI_nat _ (by omega)];exact low24 _ (by omega))) rfl rfl ?_;refine jH ?_
   refine RG.callS rfl rfl rfl rfl rfl (d_Put _ 112 8 (ofI64 (V:Int)) (by decide) (by decide) (by rw [ofI_nat _ (by omega)];exact low8 _ (by omega))) rfl rfl ?_;refine jH ?_
   refine RG.callS rfl rfl rfl rfl rfl (d_Make _ _) rfl rfl ?_;refine jH ?_
   refine jR ?_
   rw [stampOf,hpa,ht]
   rfl
theorem d_Other (t:List (List Pt)) (n a:Nat) (r:List Pt) (p:Pt) (ht:topoSound t=0) (hr:t[n]?=some r) (hp:r[a]?=some p) (hk:p.kind=2):PDoes Tryz.prog 174 [.agg (cTopo ⟨t⟩),.agg (cSp ⟨n,a⟩)] (.tup [.agg (cSp ⟨p.peer,p.at_⟩),.b true]):=by
 refine PDoes.of_bodyN Tryz.func174 rfl (by kernel_rfl) rfl rfl ?_
 have hlen:(t.map cPts).length=t.length:=List.length_map ..
 have hlr:(r.map cPt).length=r.length:=List.length_map ..
 have hn:=(List.getElem?_eq_some_iff.1 hr).1
 have ha:=(List.getElem?_eq_some_iff.1 hp).1
 have g1:¬((n:Nat):Int)<0:=by omega
 have g2:¬((n:Nat):Int)>=(((t.map cPts).length:Nat):Int):=by omega
 have g3:¬((a:Nat):Int)<0:=by omega
 have g4:¬((a:Nat):Int)>=(((r.map cPt).length:Nat):Int):=by omega
 have hS:=d_TopSound t
 rw [ht] at hS
 have hrx:(t.map cPts)[n]?=some (cPts r):=by rw [List.getElem?_map,hr];rfl
 have hpx:(r.map cPt)[a]?=some (cPt p):=by rw [List.getElem?_map,hp];rfl
 refine jB ?_;refine wF ?_;refine wH rfl ?_;refine jB ?_
 refine AW.draws mixed_ok ?_
 refine wH rfl ?_
 refine RG.callS rfl rfl rfl rfl rfl hS rfl rfl ?_
 refine RG.runO ty_ok 0 [(13,.b false),(21,.b false),(26,.b false)] 400 rfl jD ?_
 refine RG.opS rfl (op_index rfl (tk rfl) rfl (tk rfl) rfl rfl hrx rfl) rfl ?_
 refine RG.runO ty_ok 0 [(38,.b false)] 400 rfl jD ?_
 refine jB ?_;refine AW.condF rfl ?_;refine jB ?_
 refine AW.draws mixed_ok ?_
 refine wH rfl ?_
 refine RG.opS rfl (op_index rfl (tk rfl) rfl (tk rfl) rfl rfl hrx rfl) rfl ?_
 refine wH rfl ?_
 refine RG.opS rfl (op_index rfl (tk rfl) rfl (tk rfl) rfl rfl hpx rfl) rfl ?_
 refine jH ?_
 refine AW.cond rfl (fun h=>?_) (fun h=>?_)
 ·simp [hk] at h
 refine jA ?_
 refine jR ?_
 rfl
theorem d_PassedFn (h:Hop) (n:Int):PDoes Tryz.prog 179 [.agg (cHop h),.ro [.i .i64 n]] (.b (decide (h.sw=n))):=by
 refine PDoes.of_bodyN Tryz.func179 rfl (by kernel_rfl) rfl rfl ?_
 refine jA ?_
 refine jR ?_
 rfl
theorem d_Passed (r:Run) (n:Int) (q:Bool) (hq:passed r n=q):PDoes Tryz.prog 126 [.agg (cRun r),.i .i64 n] (.b q):=by
 refine PDoes.of_bodyN Tryz.func126 rfl (by kernel_rfl) rfl rfl ?_
 refine jA ?_
 refine RG.callS rfl rfl rfl rfl rfl (d_ContainsFunc_Hop _ [.i .i64 n] (fun h=>decide (h.sw=n)) r.hops (fun x _=>d_PassedFn x n) _ hq) rfl rfl ?_;refine jH ?_
 refine jR ?_
 rfl
theorem d_compare (l:List Rl) (X:List (List AV)) (a b:Nat) (x y:Rl) (ha:l[a]?=some x) (hb:l[b]?=some y):PDoes Tryz.prog 253 [.ro [.sl (l.map cRl),.sl X],.i .i64 (a:Nat),.i .i64 (b:Nat)] (.i .i64 (orI [cmpI y.prio x.prio,cmpI a b])):=by
 refine PDoes.of_bodyN Tryz.func253 rfl (by kernel_rfl) rfl rfl ?_
 refine jA ?_
 refine RG.opS rfl (op_index rfl (tk rfl) rfl (tk rfl) rfl rfl (show (l.map cRl)[b]?=some (cRl y) by rw [List.getElem?_map,hb];rfl) rfl) rfl ?_
 refine wH rfl ?_
 refine RG.opS rfl (op_index rfl (tk rfl) rfl (tk rfl) rfl rfl (show (l.map cRl)[a]?=some (cRl x) by rw [List.getElem?_map,ha];rfl) rfl) rfl ?_
 refine wH rfl ?_
 refine RG.callS rfl rfl rfl rfl rfl (d_Compare y.prio x.prio) rfl rfl ?_
 refine wH rfl ?_
 refine RG.callS rfl rfl rfl rfl rfl (d_Compare a b) rfl rfl ?_
 refine wH rfl ?_
 refine RG.callS rfl rfl rfl rfl rfl (d_Or2 [cmpI y.prio x.prio,cmpI a b]) rfl rfl ?_;refine jH ?_
 refine jR ?_
 rfl
theorem Rn.fnF {σ σ':Sto} {x:AV} {f:FuncId} {a:List AV} (e:x = .fn f a []) (h:a.all AV.pu1=true):Rn σ σ' x (.fn f a []):=by
 subst e
 exact .fn rfl rfl (fun j x x' h1 h2=>by
  rw [h1] at h2
  rw [<- Option.some.inj h2]
  exact .pu (List.all_eq_true.1 h x (List.mem_of_getElem? h1))) (fun j x x' h1=>by simp at h1)
def Falls (l:List Rl):Prop:=∀(k:Nat) (x y:Rl),l[k]?=some x->l[k+1]?=some y->y.prio<=x.prio
def numN (k:Nat):List AV:=cI (k:Nat)
theorem d_insert (l:List Rl) (hf:Falls l) (hl:l.length<=1000) (X:List (List AV)):PDoes Tryz.prog 259 [.sl ((List.range l.length).map numN),.i .i64 0,.i .i64 (l.length:Nat),.fn 253 [.ro [.sl (l.map cRl),.sl X]] []] (.tup []):=by
 refine PDoes.of_bodyN Tryz.func259 rfl (by kernel_rfl) rfl rfl ?_
 have hr:((List.range l.length).map numN).length=l.length:=by rw [List.length_map,List.length_range]
 have hk:∀k,k<l.length->((List.range l.length).map numN)[k]?=some (numN k):=fun k h=>by rw [List.getElem?_map,List.getElem?_range h];rfl
 generalize (List.range l.length).map numN=els at hr hk
 refine jA ?_
 refine AW.loopL (ι:=Nat) (fun k=>[(0,.sl els),(1,.i .i64 0),(2,.i .i64 (l.length:Nat)),(3,.fn 253 [.ro [.sl (l.map cRl),.sl X]] []),(8,.i .i64 ((k+1:Nat):Int))]) (fun _=>[]) (fun k=>k<=l.length) (fun k=>l.length - k) 0 (Nat.zero_le _) ⟨Rn.is rfl rfl,Rn.is rfl rfl,Rn.is rfl rfl,Rn.fnF rfl rfl,Rn.is rfl rfl,trivial⟩ trivial fun k hkl=>?_
 refine jA ?_
 refine AW.cond rfl (fun h0=>?_) (fun h0=>?_)
 ·have h : k + 1 < l.length := by
   have:=of_decide_eq_true h0
   omega
  refine jA ?_
  refine AW.loopL (ι:=Nat) (fun _=>[(0,.sl els),(1,.i .i64 0),(2,.i .i64 (l.length:Nat)),(3,.fn 253 [.ro [.sl (l.map cRl),.sl X]] []),(8,.i .i64 ((k+1:Nat):Int)),(9,.i .i64 ((k+1:Nat):Int))]) (fun _=>[]) (fun _=>True) (fun i=>i) 0 trivial ⟨Rn.is rfl rfl,Rn.is rfl rfl,Rn.is rfl rfl,Rn.fnF rfl rfl,Rn.is rfl rfl,Rn.is rfl rfl,trivial⟩ trivial fun i _=>?_
  refine jB ?_
  refine AW.draws mixed_ok ?_
  have g1:((k+1:Nat):Int)>0:=by omega
  have g2:IntKind.i64.wrap (((k+1:Nat):Int) - Int.ofNat 1)=(k:Nat):=by
   rw [IntKind.wrap_i64]
   simp only [Int.ofNat_eq_natCast]
   omega
  refine RG.runO ty_ok 0 [(20,.b true)] 400 rfl jD ?_
  refine RG.opS rfl (op_index rfl (tk rfl) rfl (tk rfl) rfl rfl (hk (k+1) h) rfl) rfl ?_
  refine RG.runO ty_ok 0 [(29,.i .i64 (k:Nat))] 400 rfl jD ?_
  refine RG.opS rfl (op_index rfl (tk rfl) rfl (tk rfl) rfl rfl (hk k (by omega)) rfl) rfl ?_
  refine wH rfl ?_
  have e1:l[k+1]?=some l[k+1]:=List.getElem?_eq_getElem h
  have e2:l[k]?=some (l[k]'(by omega)):=List.getElem?_eq_getElem (by omega)
  have hle:=hf k _ _ e2 e1
  have hc:¬orI [cmpI (l[k]'(by omega)).prio l[k+1].prio,cmpI ((k+1:Nat):Int) (k:Nat)]<0:=by
   generalize (l[k]'(by omega)).prio=p at hle
   generalize l[k+1].prio=q at hle
   have c2:cmpI ((k+1:Nat):Int) (k:Nat)=1:=by rw [cmpI,if_neg (by omega),if_pos (by omega)]
   rw [c2]
   by_cases hpq:q<p
   ·have c1:cmpI p q=1:=by rw [cmpI,if_neg (by omega),if_pos hpq]
    rw [c1];decide
   ·have c1:cmpI p q=0:=by rw [cmpI,if_neg (by omega),if_neg hpq]
    rw [c1];decide
  refine RG.callS rfl rfl rfl rfl rfl (d_compare l X (k+1) k _ _ e1 e2) rfl rfl ?_
  refine wH rfl ?_;refine jB ?_
  refine AW.cond rfl (fun h1=>?_) (fun h1=>?_)
  ·exact absurd (of_decide_eq_true h1) hc
  refine jA ?_
  refine jE ?_;refine jA ?_
  exact ⟨k+1,⟨by omega,by omega⟩,⟨Rn.is rfl rfl,Rn.is rfl rfl,Rn.is rfl rfl,Rn.fnF rfl rfl,Rn.is (i64_next (show k+1<100000 by omega) (by decide)) rfl,trivial⟩,trivial⟩
 ·refine jA ?_
  refine jE ?_;refine jA ?_
  exact retQ0 rfl (.inl rfl)
theorem op_indexSy {P:Program} {N:Nat} {o:Oper} {s:St} {t:Nat} {ti:TI} {x i:Operand} {l:List UInt8} {b c:UInt8} (ho:o.op = .index t x i) (ht:TiOk P t ti) (hk:ti.k = .str) (hx:s.ev x = .s l) (hi:s.ev i = .y b) (hc:l[b.toNat]?=some c):OpLoc P N o s ⟨.y c,[],[]⟩:=by
 refine oploc_val [] _ fun s' W F μ a h1 h2 hs=>⟨.int .u8 c.toNat,?_,.pure (.y c)⟩
 have ex:=hs.ev x
 rw [h1 x (by rw [ho];simp [Op.operands]),hx] at ex
 have ei':=hs.ev i
 rw [h1 i (by rw [ho];simp [Op.operands]),hi] at ei'
 have hb:(⟨l.toArray⟩:ByteArray)[b.toNat]?=some c:=by
  obtain ⟨hlt,e⟩:=List.getElem?_eq_some_iff.1 hc
  rw [getElem?_pos (⟨l.toArray⟩:ByteArray) b.toNat (by simpa [ByteArray.size] using hlt)]
  exact congrArg some e
 have h0:(0:Int)<=(b.toNat:Int):=by omega
 simp only [execOp,ho,Instr.index,ex.s',ei'.y',asIntOf,Sem.run_bind,Sem.run_pure,Result.andThen_ok,run_underlying (ht.str hk),h0,if_true,Int.toNat_natCast,hb]
theorem d_Len64 (v:UInt64) (hv:v.toNat<256):∃r:Int,PDoes Tryz.prog 151 [.u v] (.i .i64 r):=by
 refine ⟨?_,?_⟩
 rotate_left
 ·refine PDoes.of_bodyN Tryz.func151 rfl (by kernel_rfl) rfl rfl ?_
  refine jA ?_
  refine AW.cond rfl (fun h=>?_) (fun h=>?_)
  ·have:=UInt64.le_iff_toNat_le.1 (of_decide_eq_true h)
   exact absurd (Nat.lt_of_le_of_lt this hv) (by decide)
  clear h
  refine jA ?_
  refine AW.cond rfl (fun h=>?_) (fun h=>?_)
  ·have:=UInt64.le_iff_toNat_le.1 (of_decide_eq_true h)
   exact absurd (Nat.lt_of_le_of_lt this hv) (by decide)
  clear h
  refine jA ?_
  refine AW.cond rfl (fun h=>?_) (fun h=>?_)
  ·have:=UInt64.le_iff_toNat_le.1 (of_decide_eq_true h)
   exact absurd (Nat.lt_of_le_of_lt this hv) (by decide)
  clear h
  refine jA ?_
  refine RG.opS rfl (op_indexSy rfl (tk rfl) rfl rfl rfl (List.getElem?_eq_getElem (Nat.lt_of_lt_of_le (UInt8.toNat_lt _) (by decide)))) rfl ?_
  refine jH ?_
  refine jR ?_
  rfl
theorem d_Len (v:UInt64) (hv:v.toNat<256):∃r:Int,PDoes Tryz.prog 105 [.u v] (.i .i64 r):=by
 obtain ⟨r,hr⟩:=d_Len64 v hv
 refine ⟨r,?_⟩
 refine PDoes.of_bodyN Tryz.func105 rfl (by kernel_rfl) rfl rfl ?_
 refine jA ?_
 refine AW.condF rfl ?_;refine jA ?_
 refine RG.callS rfl rfl rfl rfl rfl hr rfl rfl ?_;refine jH ?_
 refine jR ?_
 rfl
theorem d_pdq (l:List Rl) (hf:Falls l) (hl:l.length<=12) (X:List (List AV)) (lim:Int):PDoes Tryz.prog 256 [.sl ((List.range l.length).map numN),.i .i64 0,.i .i64 (l.length:Nat),.i .i64 lim,.fn 253 [.ro [.sl (l.map cRl),.sl X]] []] (.tup []):=by
 refine PDoes.of_bodyN Tryz.func256 rfl (by kernel_rfl) rfl rfl ?_
 have hI:=d_insert l hf (by omega) X
 generalize (List.range l.length).map numN=els at hI
 refine jA ?_
 refine AW.loopL (ι:=Nat) (fun _=>[(0,.sl els),(1,.i .i64 0),(2,.i .i64 (l.length:Nat)),(4,.fn 253 [.ro [.sl (l.map cRl),.sl X]] [])]) (fun _=>[]) (fun _=>True) (fun i=>i) 0 trivial ⟨Rn.is rfl rfl,Rn.is rfl rfl,Rn.is rfl rfl,Rn.fnF rfl rfl,trivial⟩ trivial fun i _=>?_
 refine jA ?_
 refine AW.cond rfl (fun h=>?_) (fun h=>?_)
 ·refine jA ?_
  refine RG.callS rfl rfl rfl rfl rfl hI rfl rfl ?_;refine jH ?_
  exact AW.ret (retQ0 rfl (.inr rfl))
 ·have h:=of_decide_eq_false h
  have hw:IntKind.i64.wrap (((l.length:Nat):Int) - 0)=(l.length:Nat):=by rw [IntKind.wrap_i64];omega
  rw [hw] at h
  exact absurd (show ((l.length:Nat):Int)<=12 by omega) h
theorem d_SortFunc (l:List Rl) (hf:Falls l) (hl:l.length<=12) (X:List (List AV)):PDoes Tryz.prog 252 [.sl ((List.range l.length).map numN),.fn 253 [.ro [.sl (l.map cRl),.sl X]] []] (.tup []):=by
 have hn:((List.range l.length).map numN).length=l.length:=by rw [List.length_map,List.length_range]
 obtain ⟨r,hr⟩:=d_Len (ofI64 (((List.range l.length).map numN).length:Nat)) (by rw [hn,ofI_nat _ (by omega),UInt64.toNat_ofNat'];omega)
 have hP:=d_pdq l hf hl X r
 generalize (List.range l.length).map numN=els at hr hP hn
 rw [<- hn] at hP
 refine PDoes.of_bodyN Tryz.func252 rfl (by kernel_rfl) rfl rfl ?_
 refine jA ?_
 refine RG.callS rfl rfl rfl rfl rfl hr rfl rfl ?_;refine jH ?_
 refine RG.callS rfl rfl rfl rfl rfl hP rfl rfl ?_;refine jH ?_
 exact retQ0 rfl (.inl rfl)
def Better (l:List Rl) (a b:Nat):Prop:=(l.getD b Rl.zero).prio<(l.getD a Rl.zero).prio\/((l.getD b Rl.zero).prio=(l.getD a Rl.zero).prio/\a<=b)
def LookOk (l:List Rl):Prop:=∃os:List Nat,os.Perm (List.range l.length)/\os.Pairwise (Better l)/\PDoes Tryz.prog 244 [.sl (l.map cRl)] (.sl (os.map numN))
theorem falls_le {l:List Rl} (hf:Falls l):∀(d a:Nat),a+d<l.length->(l.getD (a+d) Rl.zero).prio<=(l.getD a Rl.zero).prio
 | 0,a,_=>Int.le_refl _
 | d+1,a,h=>by
  have ih:=falls_le hf d a (by omega)
  have e1:l[a+d]?=some (l[a+d]'(by omega)):=List.getElem?_eq_getElem (by omega)
  have e2:l[a+d+1]?=some (l[a+d+1]'(by omega)):=List.getElem?_eq_getElem (by omega)
  have:=hf (a+d) _ _ e1 e2
  rw [getD_at e1] at ih
  rw [show a+(d+1)=a+d+1 by omega,getD_at e2]
  omega
theorem look_falls {l:List Rl} (hf:Falls l) (hl:l.length<=12):LookOk l:=by
 refine ⟨List.range l.length,List.Perm.refl _,?_,?_⟩
 ·rw [List.pairwise_iff_getElem]
  intro i j hi hj hij
  rw [List.getElem_range,List.getElem_range]
  rw [List.length_range] at hj
  have:=falls_le hf (j - i) i (by omega)
  rw [show i+(j - i)=j by omega] at this
  by_cases e:(l.getD j Rl.zero).prio=(l.getD i Rl.zero).prio
  ·exact Or.inr ⟨e,by omega⟩
  ·exact Or.inl (by omega)
 refine PDoes.of_bodyN Tryz.func244 rfl (by kernel_rfl) rfl rfl ?_
 refine jB ?_;refine wF ?_;refine wH rfl ?_;refine jB ?_;refine wF ?_;refine wH rfl ?_;refine jB ?_
 refine AW.nilRow 40 0 3 1 [(0,.sl (l.map cRl)),(3,.own 7 0 0)] [(7,⟨0,some (.box 322 [.sl (l.map cRl),.row 40 0 0 0])⟩),(40,⟨0,some (.row 3 1 [])⟩)] ⟨.rn (Rn.is rfl rfl),.rn (Rn.ownIs rfl rfl rfl),trivial⟩ ⟨.boxL rfl ⟨RnN.is rfl rfl,.nil rfl,trivial⟩ rfl,.old (.row rfl rfl),trivial⟩ ?_
 refine jA ?_
 have hm:l.length<=9223372036854775807:=by omega
 refine AW.loopL (ι:=Nat × List Nat) (fun i=>[(3,.own 7 0 0),(8,.sl (l.map cRl)),(9,.i .i64 (l.map cRl).length),(10,.i .i64 (i.1:Nat))]) (fun i=>[(7,⟨0,some (.box 322 [.sl (l.map cRl),.row 40 0 0 (i.2.map numN).length])⟩),(40,⟨0,some (.row 3 1 (i.2.map numN))⟩)]) (fun i=>i.1<=l.length/\i.2=List.range i.1) (fun i=>l.length - i.1) (0,[]) ⟨Nat.zero_le _,rfl⟩ jW ⟨.boxL rfl ⟨Rn.is rfl rfl,Rn.rowIs rfl rfl rfl,trivial⟩ rfl,.row rfl rfl,trivial⟩ fun i hi=>?_
 obtain ⟨k,out⟩:=i
 obtain ⟨hk,ho⟩:=hi
 simp only at hk ho
 refine jA ?_
 refine AW.cond rfl (fun h0=>?_) (fun h0=>?_)
 ·have h:k<l.length:=by simpa using h0
  have hL:out.length<=100000000:=by rw [ho,List.length_range];omega
  refine jA ?_
  refine RG.opS rfl (op_app1 numN out k hL rfl rfl rfl rfl (tk rfl) rfl (tk rfl) rfl rfl ⟨_,rfl,rfl⟩ rfl rfl) rfl ?_;refine jH ?_
  exact ⟨(k+1,out++[k]),⟨⟨h,by show out++[k]=List.range (k+1);rw [ho,List.range_succ]⟩,by show l.length - (k+1)<l.length - k;omega⟩,jV,⟨.boxL rfl ⟨Rn.is rfl rfl,Rn.rowIs rfl rfl rfl,trivial⟩ rfl,.row rfl rfl,trivial⟩⟩
 ·have h:¬k<l.length:=by simpa using h0
  obtain rfl:k=l.length:=by omega
  have hS:=d_SortFunc l hf hl (((out.map numN).drop 0).take (out.map numN).length)
  rw [<- ho] at hS ⊢
  refine jA ?_
  refine jE ?_;refine jA ?_
  refine RG.callS rfl rfl rfl rfl (congrArg (fun x=>[x,_]) (rowAll rfl)) hS rfl rfl ?_
  refine jH ?_
  refine jR ?_
  exact rowAll rfl
def Hits (l:List Rl) (h:Hd) (m:Nat):Prop:=m<l.length/\(l.getD m Rl.zero).mat.has h=true
def BestInv (L:List Rl) (h:Hd) (i:Nat):Option (Nat × Int)->Prop
 | none=>∀m<i,¬Hits L h m
 | some x=>x.1<i/\Hits L h x.1/\(L.getD x.1 Rl.zero).prio=x.2/\∀m<i,Hits L h m->Better L x.1 m
theorem fndF_inv (L:List Rl) (h:Hd):∀(l:List Rl) (i:Nat) (b:Option (Nat × Int)),L.drop i=l->i<=L.length->BestInv L h i b->BestInv L h L.length (fndF h i l b)
 | [],i,b,hd,hi,hb=>by
  have:L.length<=i:=by rw [<- List.drop_eq_nil_iff];exact hd
  rw [fndF,show L.length=i by omega]
  exact hb
 | r::l,i,b,hd,hi,hb=>by
  have hlt:i<L.length:=by
   have:=congrArg List.length hd
   rw [List.length_drop,List.length_cons] at this
   omega
  have hr:L[i]?=some r:=by
   have:(L.drop i)[0]?=some r:=by rw [hd];rfl
   rwa [List.getElem?_drop,Nat.add_zero] at this
  have hrd:L.getD i Rl.zero=r:=getD_at hr
  have hd':L.drop (i+1)=l:=by rw [<- List.drop_drop,hd];rfl
  rw [fndF]
  refine fndF_inv L h l (i+1) _ hd' (by omega) ?_
  have step:∀m,m<i+1->m<i\/m=i:=fun m hm=>by omega
  cases hh:r.mat.has h
  ·have hno:¬Hits L h i:=fun H=>by rw [Hits,hrd,hh] at H;cases H.2
   rw [Bool.false_and,cond_false]
   cases b with
   | none=>exact fun m hm H=>(step m hm).elim (fun e=>hb m e H) fun e=>hno (e ▸ H)
   | some x=>exact ⟨by have:=hb.1;omega,hb.2.1,hb.2.2.1,fun m hm H=>(step m hm).elim (fun e=>hb.2.2.2 m e H) fun e=>absurd (e ▸ H) hno⟩
  ·have hyes:Hits L h i:=⟨hlt,by rw [hrd];exact hh⟩
   rw [Bool.true_and]
   cases b with
   | none =>
    show BestInv L h (i+1) (some (i,r.prio))
    exact ⟨by omega,hyes,by rw [hrd],fun m hm H=>(step m hm).elim (fun e=>absurd H (hb m e)) fun e=>Or.inr ⟨by rw [e],by omega⟩⟩
   | some x =>
    obtain ⟨h1,h2,h3,h4⟩:=hb
    by_cases hq:x.2<r.prio
    ·rw [show (some x).all (fun q=>decide (q.2<r.prio))=true from decide_eq_true hq,cond_true]
     refine ⟨by omega,hyes,by rw [hrd],fun m hm H=>(step m hm).elim (fun e=>?_) fun e=>Or.inr ⟨by rw [e],by omega⟩⟩
     have:=h4 m e H
     refine Or.inl ?_
     rw [hrd]
     rcases this with h | ⟨h,_⟩ <;> omega
    ·rw [show (some x).all (fun q=>decide (q.2<r.prio))=false from decide_eq_false hq,cond_false]
     refine ⟨by omega,h2,h3,fun m hm H=>(step m hm).elim (fun e=>h4 m e H) fun e=>?_⟩
     subst e
     by_cases he:r.prio=x.2
     ·exact Or.inr ⟨by rw [hrd,h3];exact he,by omega⟩
     ·exact Or.inl (by rw [hrd,h3];omega)
theorem fnd_none {l:List Rl} {h:Hd} (H:∀m,¬Hits l h m):fnd l h=none:=by
 cases hf:fnd l h with
 | none=>rfl
 | some r =>
  obtain ⟨h1,_,h3⟩:=fnd_lt hf
  exact absurd ⟨h1,h3⟩ (H r)
theorem fnd_best {l:List Rl} {h:Hd} {r:Nat} (h1:Hits l h r) (h2:∀m,Hits l h m->Better l r m):fnd l h=some r:=by
 have H:=fndF_inv l h l 0 none rfl (Nat.zero_le _) fun m hm=>absurd hm (Nat.not_lt_zero m)
 rw [fnd]
 cases hf:fndF h 0 l none with
 | none =>
  rw [hf] at H
  exact absurd h1 (H r h1.1)
 | some x =>
  rw [hf] at H
  obtain ⟨_,k2,_,k4⟩:=H
  have b1:=h2 x.1 k2
  have b2:=k4 r h1.1 h1
  show some x.1=some r
  congr 1
  rcases b1 with b1 | ⟨b1,b1'⟩ <;> rcases b2 with b2 | ⟨b2,b2'⟩ <;> omega
theorem d_Find (l:List Rl) (h:Hd) (H:LookOk l):PDoes Tryz.prog 217 [.sl (l.map cRl),.agg (cHd h)] (fndR (fnd l h)):=by
 obtain ⟨os,hp,hs,hL⟩:=H
 have hlen:os.length=l.length:=by rw [hp.length_eq,List.length_range]
 have hmem:∀m,m∈os↔m<l.length:=fun m=>by rw [hp.mem_iff,List.mem_range]
 rw [List.pairwise_iff_getElem] at hs
 refine PDoes.of_bodyN Tryz.func217 rfl (by kernel_rfl) rfl rfl ?_
 refine jB ?_
 refine AW.lens 0 rfl fun hl=>?_
 rw [List.length_map] at hl
 refine jA ?_
 refine RG.callMS rfl rfl rfl rfl rfl rfl hL rfl ?_;refine jH ?_
 refine AW.loopL (ι:=Nat) (fun k=>[(0,.sl (l.map cRl)),(3,.own 3 0 0),(9,.sl (os.map numN)),(10,.i .i64 (os.map numN).length),(11,.i .i64 (k:Nat))]) (fun _=>[(3,⟨0,some (.box 34 (cHd h))⟩)]) (fun k=>k<=os.length/\∀(j:Nat) (hj:j<os.length),j<k->¬Hits l h os[j]) (fun k=>os.length - k) 0 ⟨Nat.zero_le _,fun j hj h0=>absurd h0 (Nat.not_lt_zero j)⟩ jW jW fun k hk=>?_
 obtain ⟨hk,hf⟩:=hk
 refine jA ?_
 refine AW.cond rfl (fun h0=>?_) (fun h0=>?_)
 ·have hk':k<os.length:=by simpa using h0
  have hm:os.length<=9223372036854775807:=by omega
  have hol:os[k]<l.length:=(hmem _).1 (List.getElem_mem hk')
  have hx:(l.map cRl)[os[k]]?=some (cRl (l.getD os[k] Rl.zero)):=by rw [List.getElem?_map,List.getElem?_eq_getElem hol,List.getD_eq_getElem?_getD,List.getElem?_eq_getElem hol];rfl
  refine jA ?_
  refine RG.opS rfl (op_index rfl (tk rfl) rfl (tk rfl) rfl rfl (show (os.map numN)[k]?=some (numN os[k]) by rw [List.getElem?_map,List.getElem?_eq_getElem (by assumption)];rfl) rfl) rfl ?_
  refine jH ?_
  refine RG.opS rfl (op_index rfl (tk rfl) rfl (tk rfl) rfl rfl hx rfl) rfl ?_
  refine wH rfl ?_
  cases hq:(l.getD os[k] Rl.zero).mat.has h
  ·refine RG.callS rfl rfl rfl rfl rfl (d_Has _ h _ hq) rfl rfl ?_;refine jH ?_
   refine AW.condF rfl ?_;refine jA ?_
   refine ⟨k+1,⟨⟨hk',fun j hj hjk=>?_⟩,by omega⟩,jV,jW⟩
   by_cases e:j=k
   ·subst e
    intro H
    rw [H.2] at hq
    cases hq
   ·exact hf j hj (by omega)
  ·refine RG.callS rfl rfl rfl rfl rfl (d_Has _ h _ hq) rfl rfl ?_;refine jH ?_
   refine AW.condT rfl ?_;refine jA ?_
   refine jR ?_
   have:fnd l h=some os[k]:=fnd_best ⟨hol,hq⟩ fun m H=>by
    obtain ⟨j,hj,rfl⟩:=List.getElem_of_mem ((hmem m).2 H.1)
    by_cases e:j<k
    ·exact absurd H (hf j hj e)
    ·by_cases e2:j=k
     ·subst e2;exact Or.inr ⟨rfl,Nat.le_refl _⟩
     ·exact hs k j hk' hj (by omega)
   rw [this]
   rfl
 ·have hk':¬k<os.length:=by simpa using h0
  refine jA ?_
  refine jE ?_;refine jA ?_
  refine jR ?_
  have:fnd l h=none:=fnd_none fun m H=>by
   obtain ⟨j,hj,rfl⟩:=List.getElem_of_mem ((hmem m).2 H.1)
   exact hf j hj (by omega) H
  rw [this]
  rfl
def oneR (l:List Rl) (h:Hd):AV:=match fnd l h with
 | none=>.tup [.i .i64 0,.agg (cHd Hd.zero),.b false]
 | some r=>.tup [.i .i64 (r:Nat),.agg (cHd (h.set (l.getD r Rl.zero).act.set)),.b true]
theorem d_One (ts:List (List Rl)) (n:Nat) (l:List Rl) (h:Hd) (hn:ts[n]?=some l) (H:LookOk l):PDoes Tryz.prog 173 [.sl (ts.map cRls),.i .i64 (n:Nat),.agg (cHd h)] (oneR l h):=by
 refine PDoes.of_bodyN Tryz.func173 rfl (by kernel_rfl) rfl rfl ?_
 have hlt:(ts.map cRls).length=ts.length:=List.length_map ..
 have hnl:=(List.getElem?_eq_some_iff.1 hn).1
 have g1:¬((n:Nat):Int)<0:=by omega
 have g2:¬((n:Nat):Int)>=(((ts.map cRls).length:Nat):Int):=by omega
 have hx:(ts.map cRls)[n]?=some (cRls l):=by rw [List.getElem?_map,hn];rfl
 have hF:=d_Find l h H
 refine jB ?_;refine wF ?_;refine wH rfl ?_;refine jB ?_
 refine AW.text ?_
 refine RG.runO ty_ok 0 [(12,.b false),(17,.b false)] 400 rfl jD ?_
 refine jB ?_;refine AW.condF rfl ?_;refine jA ?_
 refine RG.opS rfl (op_index rfl (tk rfl) rfl (tk rfl) rfl rfl hx rfl) rfl ?_
 refine wH rfl ?_
 cases hq:fnd l h with
 | none =>
  rw [hq] at hF
  refine RG.callS rfl rfl rfl rfl rfl hF rfl rfl ?_;refine jH ?_
  refine AW.condT rfl ?_;refine jA ?_
  refine jR ?_
  rw [oneR,hq]
  rfl
 | some r =>
  obtain ⟨hr1,_,_⟩:=fnd_lt hq
  have hrx:(l.map cRl)[r]?=some (cRl (l.getD r Rl.zero)):=by rw [List.getElem?_map,List.getElem?_eq_getElem hr1,List.getD_eq_getElem?_getD,List.getElem?_eq_getElem hr1];rfl
  rw [hq] at hF
  refine RG.callS rfl rfl rfl rfl rfl hF rfl rfl ?_;refine jH ?_
  refine AW.condF rfl ?_;refine jA ?_
  refine RG.opS rfl (op_index rfl (tk rfl) rfl (tk rfl) rfl rfl hx rfl) rfl ?_
  refine wH rfl ?_
  refine RG.opS rfl (op_index rfl (tk rfl) rfl (tk rfl) rfl rfl hrx rfl) rfl ?_
  refine wH rfl ?_
  refine RG.callS rfl rfl rfl rfl rfl (d_RSet (l.getD r Rl.zero) h) rfl rfl ?_;refine jH ?_
  refine jR ?_
  rw [oneR,hq]
  rfl
structure Pk where
 n:Int
 t:Int
 h:Hd
 fin:Int
 sw:Int
 port:Int
 hops:List Hop
def wkB (c:Cf) (w:Pk):List (Nat × SB):=[(0,⟨0,some (.box 211 [.sl (c.topo.ports.map cPts),.i .i64 c.pol.tenants,.sl (c.pol.peers.map cPr),.sl (c.pol.ways.map cWy),.sl (c.tables.map cTab),.i .i64 w.n,.i .i64 w.t,.u w.h.hi,.u w.h.lo,.i .i64 w.fin,.i .i64 w.sw,.i .i64 w.port,.row 1 0 0 (w.hops.map cHop).length])⟩),(1,⟨0,some (.row 79 5 (w.hops.map cHop))⟩)]
def LooksOk (c:Cf):Prop:=∀n t,LookOk (tabOf c n t)
def stepW (c:Cf) (w:Pk):Pk :=
 match fnd (tabOf c w.n.toNat w.t.toNat) w.h with
 | none=>⟨w.n,w.t,w.h,3,w.sw,w.port,w.hops++[⟨w.n,w.t,-1,w.h⟩]⟩
 | some r =>
  if ((tabOf c w.n.toNat w.t.toNat).getD r Rl.zero).act.kind=4 then ⟨w.n,((tabOf c w.n.toNat w.t.toNat).getD r Rl.zero).act.table,w.h.set ((tabOf c w.n.toNat w.t.toNat).getD r Rl.zero).act.set,w.fin,w.sw,w.port,w.hops++[⟨w.n,w.t,(r:Nat),w.h⟩]⟩
  else if ((tabOf c w.n.toNat w.t.toNat).getD r Rl.zero).act.kind=3 then ⟨(portAt c.topo.ports ⟨w.n,((tabOf c w.n.toNat w.t.toNat).getD r Rl.zero).act.port⟩).peer,0,w.h.set ((tabOf c w.n.toNat w.t.toNat).getD r Rl.zero).act.set,w.fin,w.sw,w.port,w.hops++[⟨w.n,w.t,(r:Nat),w.h⟩]⟩
  else if ((tabOf c w.n.toNat w.t.toNat).getD r Rl.zero).act.kind=2 then ⟨w.n,w.t,w.h.set ((tabOf c w.n.toNat w.t.toNat).getD r Rl.zero).act.set,2,w.n,((tabOf c w.n.toNat w.t.toNat).getD r Rl.zero).act.port,w.hops++[⟨w.n,w.t,(r:Nat),w.h⟩]⟩
  else ⟨w.n,w.t,w.h.set ((tabOf c w.n.toNat w.t.toNat).getD r Rl.zero).act.set,1,w.sw,w.port,w.hops++[⟨w.n,w.t,(r:Nat),w.h⟩]⟩
theorem m_step (c:Cf) (hc:c.Ok) (hL:LooksOk c) (n t:Nat) (hat:At c n t) (h:Hd) (hops:List Hop) (hl:hops.length<=100000000) (w':Pk) (hw:stepW c ⟨n,t,h,0,0,0,hops⟩=w') (g:Bool) (hg:decide (w'.fin=0)=g) (q:Nat->Option (Nat × Nat)):MDoes Tryz.prog 120 [.own 0 0 0] (gl q [0] (wkB c ⟨n,t,h,0,0,0,hops⟩)) (.b g) (gl q [0] (wkB c w')):=by
 obtain ⟨ts,ht1,ht2⟩:=hat.get
 have hx1:(c.tables.map cTab)[n]?=some (cTab ts):=by rw [List.getElem?_map,ht1];rfl
 have hx2:(ts.map cRls)[t]?=some (cRls (tabOf c n t)):=by rw [List.getElem?_map,ht2];rfl
 have hO:=d_One ts t (tabOf c n t) h ht2 (hL n t)
 rw [stepW] at hw
 simp only [Int.toNat_natCast] at hw
 refine MDoes.of_body Tryz.func120 rfl (by kernel_rfl) rfl rfl ?_
 refine jA ?_
 refine RG.opS rfl (op_index rfl (tk rfl) rfl (tk rfl) rfl rfl hx1 rfl) rfl ?_
 refine wH rfl ?_
 cases hq:fnd (tabOf c n t) h with
 | none =>
  rw [oneR,hq] at hO
  rw [hq] at hw
  dsimp only at hw
  subst hw
  subst hg
  refine RG.callS rfl rfl rfl rfl rfl hO rfl rfl ?_;refine jH ?_
  refine AW.condT rfl ?_;refine jA ?_
  refine RG.opS rfl (op_app1 cHop hops ⟨n,t,-1,h⟩ hl rfl rfl rfl rfl (tk rfl) rfl (tk rfl) rfl rfl ⟨_,rfl,rfl⟩ rfl rfl) rfl ?_;refine jH ?_
  refine AW.condT rfl ?_;refine jA ?_
  exact AW.ret (retM1 rfl (Rm.is rfl rfl) ⟨.ghost rfl rfl rfl,.boxL rfl ⟨Rn.is rfl rfl,Rn.is rfl rfl,Rn.is rfl rfl,Rn.is rfl rfl,Rn.is rfl rfl,Rn.is rfl rfl,Rn.is rfl rfl,Rn.is rfl rfl,Rn.is rfl rfl,Rn.is rfl rfl,Rn.is rfl rfl,Rn.is rfl rfl,Rn.rowIs rfl rfl rfl,trivial⟩ rfl,.row rfl rfl,trivial⟩)
 | some r =>
  obtain ⟨hr1,hr2,_⟩:=fnd_lt hq
  have hrx:((tabOf c n t).map cRl)[r]?=some (cRl ((tabOf c n t).getD r Rl.zero)):=by rw [List.getElem?_map,List.getElem?_eq_getElem hr1,List.getD_eq_getElem?_getD,List.getElem?_eq_getElem hr1];rfl
  rw [oneR,hq] at hO
  rw [hq] at hw
  dsimp only at hw hO
  generalize (tabOf c n t).getD r Rl.zero=x at hw hO hr2 hrx
  have hkind:=Rl.does_kind (Rl.sound_does (hat.rule hc hr2).1).2.2
  refine RG.callS rfl rfl rfl rfl rfl hO rfl rfl ?_;refine jH ?_
  refine AW.condF rfl ?_;refine jA ?_
  refine RG.opS rfl (op_app1 cHop hops ⟨n,t,r,h⟩ hl rfl rfl rfl rfl (tk rfl) rfl (tk rfl) rfl rfl ⟨_,rfl,rfl⟩ rfl rfl) rfl ?_;refine jH ?_
  refine AW.condF rfl ?_;refine jA ?_
  refine RG.opS rfl (op_index rfl (tk rfl) rfl (tk rfl) rfl rfl hx1 rfl) rfl ?_
  refine wH rfl ?_
  refine RG.opS rfl (op_index rfl (tk rfl) rfl (tk rfl) rfl rfl hx2 rfl) rfl ?_
  refine wH rfl ?_
  refine RG.opS rfl (op_index rfl (tk rfl) rfl (tk rfl) rfl rfl hrx rfl) rfl ?_
  refine jH ?_
  refine AW.cond rfl (fun k4=>?_) (fun k4=>?_)
  ·have k4:x.act.kind=4:=of_decide_eq_true k4
   rw [if_pos k4] at hw
   subst hw
   subst hg
   refine jA ?_
   exact AW.ret (retM1 rfl (Rm.is rfl rfl) ⟨.ghost rfl rfl rfl,.boxL rfl ⟨Rn.is rfl rfl,Rn.is rfl rfl,Rn.is rfl rfl,Rn.is rfl rfl,Rn.is rfl rfl,Rn.is rfl rfl,Rn.is rfl rfl,Rn.is rfl rfl,Rn.is rfl rfl,Rn.is rfl rfl,Rn.is rfl rfl,Rn.is rfl rfl,Rn.rowIs rfl rfl rfl,trivial⟩ rfl,.row rfl rfl,trivial⟩)
  have k4:¬x.act.kind=4:=of_decide_eq_false k4
  rw [if_neg k4] at hw
  refine jA ?_
  refine AW.cond rfl (fun k3=>?_) (fun k3=>?_)
  ·have k3:x.act.kind=3:=of_decide_eq_true k3
   rw [if_pos k3] at hw
   obtain ⟨hl1,hl2,hl3⟩:=hat.link hc hr2 k3
   obtain ⟨hd1,hd2,hd3⟩:=Rl.does_forward (Rl.sound_does (hat.rule hc hr2).1).2.2 k3
   obtain ⟨pn,hpn⟩:=Int.eq_ofNat_of_zero_le hd1
   have hnl:n<c.topo.ports.length:=by rw [<- hc.len];exact hat.sw
   have ep:c.topo.ports.getD n []=c.topo.ports[n]:=getD_at (List.getElem?_eq_getElem hnl)
   rw [ep] at hd2
   have hpl:pn<c.topo.ports[n].length:=by omega
   have epp:portAt c.topo.ports ⟨n,x.act.port⟩=c.topo.ports[n][pn]:=by
    rw [hpn]
    exact portAt_at (List.getElem?_eq_getElem hnl) (List.getElem?_eq_getElem hpl)
   have hOt:=d_Other c.topo.ports n pn _ _ hc.topo (List.getElem?_eq_getElem hnl) (List.getElem?_eq_getElem hpl) (by rw [<- epp];exact hl3)
   rw [epp] at hw
   rw [<- hpn] at hOt
   subst hw
   subst hg
   refine jA ?_
   refine RG.callS rfl rfl rfl rfl rfl hOt rfl rfl ?_;refine jH ?_
   exact AW.ret (retM1 rfl (Rm.is rfl rfl) ⟨.ghost rfl rfl rfl,.boxL rfl ⟨Rn.is rfl rfl,Rn.is rfl rfl,Rn.is rfl rfl,Rn.is rfl rfl,Rn.is rfl rfl,Rn.is rfl rfl,Rn.is rfl rfl,Rn.is rfl rfl,Rn.is rfl rfl,Rn.is rfl rfl,Rn.is rfl rfl,Rn.is rfl rfl,Rn.rowIs rfl rfl rfl,trivial⟩ rfl,.row rfl rfl,trivial⟩)
  have k3:¬x.act.kind=3:=of_decide_eq_false k3
  rw [if_neg k3] at hw
  refine jA ?_
  refine AW.cond rfl (fun k2=>?_) (fun k2=>?_)
  ·have k2:x.act.kind=2:=of_decide_eq_true k2
   rw [if_pos k2] at hw
   subst hw
   subst hg
   refine jA ?_
   exact AW.ret (retM1 rfl (Rm.is rfl rfl) ⟨.ghost rfl rfl rfl,.boxL rfl ⟨Rn.is rfl rfl,Rn.is rfl rfl,Rn.is rfl rfl,Rn.is rfl rfl,Rn.is rfl rfl,Rn.is rfl rfl,Rn.is rfl rfl,Rn.is rfl rfl,Rn.is rfl rfl,Rn.is rfl rfl,Rn.is rfl rfl,Rn.is rfl rfl,Rn.rowIs rfl rfl rfl,trivial⟩ rfl,.row rfl rfl,trivial⟩)
  have k2:¬x.act.kind=2:=of_decide_eq_false k2
  rw [if_neg k2] at hw
  subst hw
  subst hg
  refine jA ?_
  exact AW.ret (retM1 rfl (Rm.is rfl rfl) ⟨.ghost rfl rfl rfl,.boxL rfl ⟨Rn.is rfl rfl,Rn.is rfl rfl,Rn.is rfl rfl,Rn.is rfl rfl,Rn.is rfl rfl,Rn.is rfl rfl,Rn.is rfl rfl,Rn.is rfl rfl,Rn.is rfl rfl,Rn.is rfl rfl,Rn.is rfl rfl,Rn.is rfl rfl,Rn.rowIs rfl rfl rfl,trivial⟩ rfl,.row rfl rfl,trivial⟩)
theorem Rn.fnOwn {σ σ':Sto} {x:AV} {f:FuncId} {id ep ep' off:Nat} {bd bd':Body} (e:x = .fn f [.own id ep off] []) (h:σ id=⟨ep,some bd⟩) (h':σ' id=⟨ep',some bd'⟩):Rn σ σ' x (.fn f [.own id ep' off] []):=by
 subst e
 refine .fn rfl rfl (fun j x x' h1 h2=>?_) (fun j x x' h1=>by simp at h1)
 cases j with
 | zero =>
  obtain rfl:AV.own id ep off=x:=by simpa using h1
  obtain rfl:AV.own id ep' off=x':=by simpa using h2
  exact .own h h'
 | succ j=>simp at h1
def wkC (c:Cf) (n t:Nat) (h:Hd) (hops:List Hop):List AV:=[.sl (c.topo.ports.map cPts),.i .i64 c.pol.tenants,.sl (c.pol.peers.map cPr),.sl (c.pol.ways.map cWy),.sl (c.tables.map cTab),.i .i64 n,.i .i64 t,.u h.hi,.u h.lo,.i .i64 0,.i .i64 0,.i .i64 0,.row 40 0 0 (hops.map cHop).length]
theorem runRow2 (fin sw port:Int) (hops:List Hop) (R:Run) (h:(⟨fin,⟨sw,port⟩,hops⟩:Run)=R):AV.tup [.agg [.i .i64 fin,.i .i64 sw,.i .i64 port,.sl (((hops.map cHop).drop 0).take (hops.map cHop).length)],.i .i64 0] = .tup [.agg (cRun R),.i .i64 0]:=congrArg (fun x=>AV.tup [x,.i .i64 0]) (runRow fin sw port hops R h)
theorem d_Run (c:Cf) (h0:c.sound=0) (hL:LooksOk c) (s:Sp) (hs:s∈edges c.topo.ports) (h:Hd) (V:Nat) (hV:V<=255):PDoes Tryz.prog 72 [.agg (cCf c),.agg (cSp s),.agg (cHd h),.i .i64 V] (.tup [.agg (cRun (runOf c s h V 10800)),.i .i64 0]):=by
 have hc:=Cf.ok h0
 have hSt:=d_CStamp c s V
 have e0:stampE c s V=0:=by rw [stampE,if_pos h0,if_neg (by omega),if_pos hs]
 rw [stampC,e0,if_pos rfl] at hSt
 obtain ⟨n0,r0,a0,p0,hr0,hp0,hk0,rfl⟩:=edges_mem.1 hs
 have hat0:At c n0 0:=At.start hc (List.getElem?_eq_some_iff.1 hr0).1
 have hR:goF c 10800 n0 0 (h.set (stampOf c ⟨n0,a0⟩ V)) []=runOf c ⟨n0,a0⟩ h V 10800:=rfl
 generalize runOf c ⟨n0,a0⟩ h V 10800=R at hR
 have hS:=d_Set h (stampOf c ⟨n0,a0⟩ V)
 generalize h.set (stampOf c ⟨n0,a0⟩ V)=g0 at hR hS
 refine PDoes.of_bodyN Tryz.func72 rfl (by kernel_rfl) rfl rfl ?_
 refine jA ?_
 refine RG.callS rfl rfl rfl rfl rfl hSt rfl rfl ?_;refine jH ?_
 refine AW.condF rfl ?_;refine jB ?_
 refine AW.draws mixed_ok ?_
 refine wH rfl ?_
 refine RG.callS rfl rfl rfl rfl rfl hS rfl rfl ?_
 refine wH rfl ?_;refine jB ?_
 refine AW.nilRow 40 0 79 5 [(8,.own 8 0 0),(12,.own 33 0 0)] [(8,⟨0,some (.box 43 [.i .i64 0,.i .i64 0,.i .i64 0,.raw (.slice none 0 0)])⟩),(33,⟨0,some (.box 211 (wkC c n0 0 g0 []))⟩),(40,⟨0,some (.row 79 5 [])⟩)] ⟨.rn (Rn.ownIs rfl rfl rfl),.rn (Rn.ownIs rfl rfl rfl),trivial⟩ ⟨.old (.same rfl rfl rfl),.boxL rfl ⟨RnN.is rfl rfl,RnN.is rfl rfl,RnN.is rfl rfl,RnN.is rfl rfl,RnN.is rfl rfl,RnN.is rfl rfl,RnN.is rfl rfl,RnN.is rfl rfl,RnN.is rfl rfl,RnN.is rfl rfl,RnN.is rfl rfl,RnN.is rfl rfl,.nil rfl,trivial⟩ rfl,.old (.row rfl rfl),trivial⟩ ?_
 refine jA ?_
 refine AW.loopL (ι:=Nat × Nat × Nat × Hd × List Hop) (fun i=>[(8,.own 8 0 0),(12,.own 33 0 0),(13,.fn 120 [.own 33 0 0] []),(36,.i .i64 (i.1:Nat))]) (fun i=>[(8,⟨0,some (.box 43 [.i .i64 0,.i .i64 0,.i .i64 0,.raw (.slice none 0 0)])⟩),(33,⟨0,some (.box 211 (wkC c i.2.1 i.2.2.1 i.2.2.2.1 i.2.2.2.2))⟩),(40,⟨0,some (.row 79 5 (i.2.2.2.2.map cHop))⟩)]) (fun i=>(i.1<=10800/\i.2.2.2.2.length=i.1)/\At c i.2.1 i.2.2.1/\goF c (10800 - i.1) i.2.1 i.2.2.1 i.2.2.2.1 i.2.2.2.2=R) (fun i=>10800 - i.1) (0,n0,0,g0,[]) ⟨⟨Nat.zero_le _,rfl⟩,hat0,hR⟩ ⟨Rn.ownIs rfl rfl rfl,Rn.ownIs rfl rfl rfl,Rn.fnOwn rfl rfl rfl,Rn.is rfl rfl,trivial⟩ ⟨.same rfl rfl rfl,.boxL rfl ⟨Rn.is rfl rfl,Rn.is rfl rfl,Rn.is rfl rfl,Rn.is rfl rfl,Rn.is rfl rfl,Rn.is rfl rfl,Rn.is rfl rfl,Rn.is rfl rfl,Rn.is rfl rfl,Rn.is rfl rfl,Rn.is rfl rfl,Rn.is rfl rfl,Rn.rowIs rfl rfl rfl,trivial⟩ rfl,.row rfl rfl,trivial⟩ fun i hi=>?_
 obtain ⟨k,n,t,h,hops⟩:=i
 obtain ⟨⟨hk,hlen⟩,hat,hf⟩:=hi
 simp only at hk hlen hat hf
 clear hR hS hSt hat0
 refine jA ?_
 refine AW.cond rfl (fun h1=>?_) (fun h1=>?_)
 rotate_left
 ·have h1:=of_decide_eq_false h1
  have h1:¬((k:Nat):Int)<10800:=h1
  obtain rfl:k=10800:=by omega
  rw [Nat.sub_self,goF] at hf
  refine jA ?_
  refine jE ?_;refine jA ?_
  refine jR ?_
  exact runRow2 4 0 0 hops R hf
 have h1:=of_decide_eq_true h1
 have h1:((k:Nat):Int)<10800:=h1
 have hk':k<10800:=by omega
 have hL1:hops.length<=100000000:=by omega
 obtain ⟨f,hfu⟩:∃f,10800 - k=f+1:=⟨10800 - k - 1,by omega⟩
 have hlt:∀x:Hop,(hops++[x]).length=k+1:=fun x=>by rw [List.length_append,List.length_singleton,hlen]
 have hnx:10800 - (k+1)=f:=by omega
 rw [hfu,goF] at hf
 have hw:∀w',stepW c ⟨n,t,h,0,0,0,hops⟩=w'->∀g,decide (w'.fin=0)=g->∀q,MDoes Tryz.prog 120 [.own 0 0 0] (gl q [0] (wkB c ⟨n,t,h,0,0,0,hops⟩)) (.b g) (gl q [0] (wkB c w')):=fun w' hw g hg q=>m_step c hc hL n t hat h hops hL1 w' hw g hg q
 simp only [stepW,Int.toNat_natCast] at hw
 cases hq:fnd (tabOf c n t) h with
 | none =>
  rw [hq] at hf hw
  dsimp only at hf hw
  refine jA ?_
  refine RG.ownN [(33,0),(40,1)] [(0,33),(1,40)] (fun q=>hw _ rfl false rfl q) rfl rfl rfl rfl rfl rfl rfl rfl rfl rfl ?_
  refine jH ?_;refine AW.condT rfl ?_;refine jA ?_
  refine jR ?_
  exact runRow2 3 0 0 _ R hf
 | some r =>
  obtain ⟨hr1,hr2,_⟩:=fnd_lt hq
  rw [hq] at hf hw
  dsimp only at hf hw
  generalize (tabOf c n t).getD r Rl.zero=x at hw hf hr2
  by_cases k4:x.act.kind=4
  ·rw [if_pos k4] at hf hw
   have hg:=Rl.does_goto (Rl.sound_does (hat.rule hc hr2).1).2.2 k4
   refine jA ?_
   refine RG.ownN [(33,0),(40,1)] [(0,33),(1,40)] (fun q=>hw _ rfl true rfl q) rfl rfl rfl rfl rfl rfl rfl rfl rfl rfl ?_
   refine jH ?_;refine AW.condF rfl ?_;refine jA ?_
   exact ⟨(k+1,n,x.act.table.toNat,h.set x.act.set,hops++[⟨n,t,r,h⟩]),⟨⟨⟨by show k+1<=10800;omega,hlt _⟩,hat.goto hc hr2 k4,by show goF c (10800 - (k+1)) _ _ _ _=R;rw [hnx];exact hf⟩,by show 10800 - (k+1)<10800 - k;omega⟩,⟨Rn.ownIs rfl rfl rfl,Rn.ownIs rfl rfl rfl,Rn.fnOwn rfl rfl rfl,Rn.is (i64_next hk' (by decide)) rfl,trivial⟩,⟨.same rfl rfl rfl,.boxL rfl ⟨Rn.is rfl rfl,Rn.is rfl rfl,Rn.is rfl rfl,Rn.is rfl rfl,Rn.is rfl rfl,Rn.is rfl rfl,Rn.is (congrArg (AV.i .i64) (show x.act.table=(x.act.table.toNat:Nat) by omega)) rfl,Rn.is rfl rfl,Rn.is rfl rfl,Rn.is rfl rfl,Rn.is rfl rfl,Rn.is rfl rfl,Rn.rowIs rfl rfl rfl,trivial⟩ rfl,.row rfl rfl,trivial⟩⟩
  rw [if_neg k4] at hf hw
  by_cases k3:x.act.kind=3
  ·rw [if_pos k3] at hf hw
   obtain ⟨hl1,hl2,hl3⟩:=hat.link hc hr2 k3
   have hat2:=hat.forward hc hr2 k3
   refine jA ?_
   refine RG.ownN [(33,0),(40,1)] [(0,33),(1,40)] (fun q=>hw _ rfl true rfl q) rfl rfl rfl rfl rfl rfl rfl rfl rfl rfl ?_
   refine jH ?_;refine AW.condF rfl ?_;refine jA ?_
   exact ⟨(k+1,(portAt c.topo.ports ⟨n,x.act.port⟩).peer.toNat,0,h.set x.act.set,hops++[⟨n,t,r,h⟩]),⟨⟨⟨by show k+1<=10800;omega,hlt _⟩,hat2,by show goF c (10800 - (k+1)) _ _ _ _=R;rw [hnx];exact hf⟩,by show 10800 - (k+1)<10800 - k;omega⟩,⟨Rn.ownIs rfl rfl rfl,Rn.ownIs rfl rfl rfl,Rn.fnOwn rfl rfl rfl,Rn.is (i64_next hk' (by decide)) rfl,trivial⟩,⟨.same rfl rfl rfl,.boxL rfl ⟨Rn.is rfl rfl,Rn.is rfl rfl,Rn.is rfl rfl,Rn.is rfl rfl,Rn.is rfl rfl,Rn.is (congrArg (AV.i .i64) (show (portAt c.topo.ports ⟨n,x.act.port⟩).peer=((portAt c.topo.ports ⟨n,x.act.port⟩).peer.toNat:Nat) by omega)) rfl,Rn.is rfl rfl,Rn.is rfl rfl,Rn.is rfl rfl,Rn.is rfl rfl,Rn.is rfl rfl,Rn.is rfl rfl,Rn.rowIs rfl rfl rfl,trivial⟩ rfl,.row rfl rfl,trivial⟩⟩
  rw [if_neg k3] at hf hw
  by_cases k2:x.act.kind=2
  ·rw [if_pos k2] at hf hw
   refine jA ?_
   refine RG.ownN [(33,0),(40,1)] [(0,33),(1,40)] (fun q=>hw _ rfl false rfl q) rfl rfl rfl rfl rfl rfl rfl rfl rfl rfl ?_
   refine jH ?_;refine AW.condT rfl ?_;refine jA ?_
   refine jR ?_
   exact runRow2 2 n x.act.port _ R hf
  ·rw [if_neg k2] at hf hw
   refine jA ?_
   refine RG.ownN [(33,0),(40,1)] [(0,33),(1,40)] (fun q=>hw _ rfl false rfl q) rfl rfl rfl rfl rfl rfl rfl rfl rfl rfl ?_
   refine jH ?_;refine AW.condT rfl ?_;refine jA ?_
   refine jR ?_
   exact runRow2 1 0 0 _ R hf
theorem d_Clone_Int (l:List Int) (hl:l.length<=1000000):PDoes Tryz.prog 38 [.sl (l.map cI)] (.sl (l.map cI)):=by
 cases l with
 | nil =>
  refine PDoes.raw0 fun A c=>?_
  refine PDoes.of_bodyN Tryz.func38 rfl (by kernel_rfl) rfl rfl ?_
  cases A with
  | none =>
   refine jA ?_
   refine AW.condT rfl ?_;refine jA ?_
   refine jR ?_
   rfl
  | some A =>
   refine jA ?_
   refine AW.condF rfl ?_;refine jA ?_
   refine RG.opS rfl (op_build0 (id:=5) rfl (tk rfl) rfl (tk rfl)) rfl ?_;refine jH ?_
   refine RG.opS rfl (op_append0 (id:=5) (els:=[]) rfl rfl rfl rfl (tk rfl) rfl (tk rfl) rfl (.inl ⟨_,rfl,rfl⟩) rfl (by decide) (by decide)) rfl ?_
   refine jH ?_
   refine jR ?_
   rfl
 | cons x l =>
  refine PDoes.of_bodyN Tryz.func38 rfl (by kernel_rfl) rfl rfl ?_
  refine jA ?_
  refine AW.condF rfl ?_;refine jA ?_
  refine RG.opS rfl (op_build0 (id:=5) rfl (tk rfl) rfl (tk rfl)) rfl ?_;refine jH ?_
  refine RG.opS rfl (op_appL cI ([]:List Int) (x::l) (by simp at hl ⊢;omega) (fun _=>rfl) rfl rfl rfl rfl (tk rfl) rfl (tk rfl) rfl rfl ⟨_,rfl,rfl⟩ rfl) rfl ?_;refine jH ?_
  refine jR ?_
  exact rowAll rfl
theorem d_Clone_Cb (l:List Cb) (hl:l.length<=1000000):PDoes Tryz.prog 40 [.sl (l.map cCb)] (.sl (l.map cCb)):=by
 cases l with
 | nil =>
  refine PDoes.raw0 fun A c=>?_
  refine PDoes.of_bodyN Tryz.func40 rfl (by kernel_rfl) rfl rfl ?_
  cases A with
  | none =>
   refine jA ?_
   refine AW.condT rfl ?_;refine jA ?_
   refine jR ?_
   rfl
  | some A =>
   refine jA ?_
   refine AW.condF rfl ?_;refine jA ?_
   refine RG.opS rfl (op_build0 (id:=5) rfl (tk rfl) rfl (tk rfl)) rfl ?_;refine jH ?_
   refine RG.opS rfl (op_append0 (id:=5) (els:=[]) rfl rfl rfl rfl (tk rfl) rfl (tk rfl) rfl (.inl ⟨_,rfl,rfl⟩) rfl (by decide) (by decide)) rfl ?_
   refine jH ?_
   refine jR ?_
   rfl
 | cons x l =>
  refine PDoes.of_bodyN Tryz.func40 rfl (by kernel_rfl) rfl rfl ?_
  refine jA ?_
  refine AW.condF rfl ?_;refine jA ?_
  refine RG.opS rfl (op_build0 (id:=5) rfl (tk rfl) rfl (tk rfl)) rfl ?_;refine jH ?_
  refine RG.opS rfl (op_appL cCb ([]:List Cb) (x::l) (by simp at hl ⊢;omega) (fun _=>rfl) rfl rfl rfl rfl (tk rfl) rfl (tk rfl) rfl rfl ⟨_,rfl,rfl⟩ rfl) rfl ?_;refine jH ?_
  refine jR ?_
  exact rowAll rfl
theorem op_capN {P:Program} {N:Nat} {o:Oper} {s:St} {c:Call} {x:Operand} {t e:Nat} {ti:TI} (ho:o.op = .call c) (hc:c.callee = .builtin .cap) (ha:c.args = #[x]) (hat:c.argTypes = #[t]) (ht:TiOk P t ti) (hk:ti.k = .slice e) (hx:s.ev x = .raw (.slice none 0 0)):OpLoc P N o s ⟨.i .i64 ((0:Nat):Int),[],[]⟩:=by
 refine oploc_val [] _ fun s' W F μ a h1 h2 hs=>⟨.int .i64 ((0:Nat):Int),?_,.pure (.i _ _)⟩
 have ex:=hs.ev x
 rw [h1 x (by rw [ho];simp [Op.operands,Call.operands,hc,ha]),hx] at ex
 simp only [execOp,ho,resolve,hc,ha,hat,List.map_toArray,List.map_cons,List.map_nil,Sem.run_bind,Sem.run_pure,Result.andThen_ok,invoke,builtin,Builtin.cap_,ex.raw',List.getElem?_toArray,List.getElem?_cons_zero,run_underlying (ht.slice hk),goInt]
theorem m_Grow (n:Nat) (h0:0<n) (hn:n<=1000000) (q:Nat->Option (Nat × Nat)):MDoes Tryz.prog 246 [.raw (.slice none 0 0),.i .i64 (n:Nat)] (gl q [] []) (.row 2 0 0 0) (gl q [] [(2,⟨0,some (.row 3 1 [])⟩)]):=by
 refine MDoes.of_body Tryz.func246 rfl (by kernel_rfl) rfl rfl ?_
 refine jA ?_
 refine AW.cond rfl (fun h=>?_) (fun h=>?_)
 ·exact absurd (of_decide_eq_true h) (by simp only [Int.ofNat_eq_natCast];omega)
 have hw:IntKind.i64.wrap ((n:Int) - IntKind.i64.wrap (((0:Nat):Int) - ((0:Nat):Int)))=(n:Nat):=by
  rw [IntKind.wrap_i64,IntKind.wrap_i64]
  omega
 refine jA ?_
 refine RG.opS rfl (op_capN rfl rfl rfl rfl (tk rfl) rfl rfl) rfl ?_
 refine RG.runO ty_ok 0 [(14,.i .i64 (n:Nat))] 400 rfl jD ?_
 refine jA ?_
 refine AW.cond rfl (fun h=>?_) (fun h=>?_)
 rotate_left
 ·exact absurd (show Int.ofNat 0<(n:Int) by simp only [Int.ofNat_eq_natCast];omega) (of_decide_eq_false h)
 refine jA ?_
 refine RG.opS rfl (op_capN rfl rfl rfl rfl (tk rfl) rfl rfl) rfl ?_
 refine RG.opS rfl (op_sliceN rfl (tk rfl) rfl (tk rfl) rfl .no (.at_ rfl)) rfl ?_
 refine wH rfl ?_
 refine RG.opS rfl (op_appendMake (id:=2) n h0 (by omega) rfl rfl rfl rfl (tk rfl) rfl (tk rfl) rfl (tk rfl) (by decide) (by decide) rfl rfl) rfl ?_
 refine wH rfl ?_
 refine RG.opS rfl (op_sliceR (h:=0) rfl (tk rfl) rfl (tk rfl) rfl rfl .no (.at_ rfl) (Nat.zero_le _)) rfl ?_
 refine wH rfl ?_;refine jB ?_
 refine AW.only [(0,.row 2 0 0 0)] [(2,⟨0,some (.row 3 1 [])⟩)] ⟨Rn.rowTIs rfl rfl rfl (Nat.le_refl _),trivial⟩ ⟨.rowT (n:=0) rfl rfl,trivial⟩ ?_
 refine jA ?_
 exact AW.ret (retM1 rfl (Rm.rowIs rfl rfl rfl rfl) ⟨.row rfl rfl,trivial⟩)
def cL (l:List Int):List AV:=[.sl (l.map cI)]
theorem flat_take {α:Type} (xs:List (List α)) (k:Nat) (h:k<xs.length):(xs.take (k+1)).flatten=(xs.take k).flatten++xs[k]:=by
 rw [List.take_add_one,List.getElem?_eq_getElem h,List.flatten_append]
 simp only [Option.toList,List.flatten_cons,List.flatten_nil,List.append_nil]
theorem flat_le {α:Type} (xs:List (List α)) (k:Nat):(xs.take k).flatten.length<=xs.flatten.length:=by
 have e:=congrArg List.length (congrArg List.flatten (List.take_append_drop k xs))
 rw [List.flatten_append,List.length_append] at e
 omega
theorem d_Concat (xs:List (List Int)) (h0:0<xs.flatten.length) (hn:xs.flatten.length<=1000000) (hx:xs.length<=1000000):PDoes Tryz.prog 225 [.sl (xs.map cL)] (.sl (xs.flatten.map cI)):=by
 refine PDoes.of_bodyN Tryz.func225 rfl (by kernel_rfl) rfl rfl ?_
 have hm:xs.length<=9223372036854775807:=by omega
 refine jA ?_
 refine AW.loopL (ι:=Nat × Nat) (fun i=>[(0,.sl (xs.map cL)),(3,.i .i64 (i.2:Nat)),(9,.sl (xs.map cL)),(10,.i .i64 (xs.map cL).length),(11,.i .i64 (i.1:Nat))]) (fun _=>[]) (fun i=>i.1<=xs.length/\i.2=(xs.take i.1).flatten.length) (fun i=>xs.length - i.1) (0,0) ⟨Nat.zero_le _,rfl⟩ jW trivial fun i hi=>?_
 obtain ⟨k,n⟩:=i
 obtain ⟨hk,hf⟩:=hi
 simp only at hk hf
 refine jA ?_
 refine AW.cond rfl (fun h0'=>?_) (fun h0'=>?_)
 ·have h:k<xs.length:=by simpa using h0'
  have h2:n+xs[k].length=(xs.take (k+1)).flatten.length:=by rw [flat_take xs k h,List.length_append,hf]
  have h3:=flat_le xs (k+1)
  have hw:IntKind.i64.wrap ((n:Int)+((xs[k].map cI).length:Nat))=((n+xs[k].length:Nat):Int):=by
   rw [IntKind.wrap_i64,List.length_map]
   omega
  refine jB ?_
  refine AW.text ?_
  refine RG.opS rfl (op_index rfl (tk rfl) rfl (tk rfl) rfl rfl (show (xs.map cL)[k]?=some (cL xs[k]) by rw [List.getElem?_map,List.getElem?_eq_getElem (by assumption)];rfl) rfl) rfl ?_
  refine wH rfl ?_;refine jB ?_
  refine AW.text ?_
  refine RG.runO ty_ok 0 [(18,.i .i64 (n+xs[k].length:Nat))] 400 rfl jD ?_
  refine jA ?_
  refine AW.cond rfl (fun h4=>?_) (fun h4=>?_)
  ·exact absurd (of_decide_eq_true h4) (by simp only [Int.ofNat_eq_natCast];omega)
  refine jA ?_
  exact ⟨(k+1,n+xs[k].length),⟨⟨h,h2⟩,by show xs.length - (k+1)<xs.length - k;omega⟩,⟨Rn.is rfl rfl,Rn.is rfl rfl,Rn.is rfl rfl,Rn.is rfl rfl,Rn.is (i64_next h hm) rfl,trivial⟩,trivial⟩
 have h:¬k<xs.length:=by simpa using h0'
 obtain rfl:k=xs.length:=by omega
 rw [List.take_length] at hf
 subst hf
 refine jA ?_
 refine jE ?_;refine jA ?_
 refine RG.ownNV [] [(2,6)] (fun q=>m_Grow _ h0 hn q) rfl rfl rfl rfl rfl rfl rfl rfl rfl rfl ?_
 refine jH ?_
 refine AW.loopL (ι:=Nat × List Int) (fun i=>[(6,.row 6 0 0 (i.2.map cI).length),(25,.sl (xs.map cL)),(26,.i .i64 (xs.map cL).length),(27,.i .i64 (i.1:Nat))]) (fun i=>[(6,⟨0,some (.row 3 1 (i.2.map cI))⟩)]) (fun i=>i.1<=xs.length/\i.2=(xs.take i.1).flatten) (fun i=>xs.length - i.1) (0,[]) ⟨Nat.zero_le _,rfl⟩ jW jW fun i hi=>?_
 obtain ⟨k,out⟩:=i
 obtain ⟨hk,hf⟩:=hi
 simp only at hk hf
 refine jA ?_
 refine AW.cond rfl (fun h0'=>?_) (fun h0'=>?_)
 ·have h:k<xs.length:=by simpa using h0'
  have h2:out++xs[k]=(xs.take (k+1)).flatten:=by rw [flat_take xs k h,hf]
  have h3:=flat_le xs (k+1)
  rw [<- h2,List.length_append] at h3
  refine jA ?_
  refine RG.opS rfl (op_index rfl (tk rfl) rfl (tk rfl) rfl rfl (show (xs.map cL)[k]?=some (cL xs[k]) by rw [List.getElem?_map,List.getElem?_eq_getElem (by assumption)];rfl) rfl) rfl ?_
  refine jH ?_
  refine RG.opS rfl (op_appL cI out xs[k] (by omega) (fun _=>rfl) rfl rfl rfl rfl (tk rfl) rfl (tk rfl) rfl rfl ⟨_,rfl,rfl⟩ rfl) rfl ?_;refine jH ?_
  exact ⟨(k+1,_),⟨⟨h,h2⟩,by show xs.length - (k+1)<xs.length - k;omega⟩,⟨Rn.rowIs rfl rfl rfl,Rn.is rfl rfl,Rn.is rfl rfl,Rn.is (i64_next h hm) rfl,trivial⟩,jW⟩
 ·have h:¬k<xs.length:=by simpa using h0'
  obtain rfl:k=xs.length:=by omega
  rw [List.take_length] at hf
  subst hf
  refine jA ?_
  refine jE ?_;refine jA ?_
  refine jR ?_
  exact rowAll rfl
theorem d_Rising (l:List Int) (hs:l.Pairwise (· < ·)):PDoes Tryz.prog 238 [.sl (l.map cI)] (.b true):=by
 refine PDoes.of_bodyN Tryz.func238 rfl (by kernel_rfl) rfl rfl ?_
 rw [List.pairwise_iff_getElem] at hs
 refine jB ?_
 refine AW.lens 0 rfl fun hm=>?_
 rw [List.length_map] at hm
 refine jA ?_
 refine AW.loopL (ι:=Nat) (fun k=>[(0,.sl (l.map cI)),(3,.i .i64 ((k+1:Nat):Int))]) (fun _=>[]) (fun k=>True) (fun k=>l.length - k) 0 trivial jW trivial fun k hk=>?_
 refine jA ?_
 refine AW.cond rfl (fun h0=>?_) (fun h0=>?_)
 ·have h:k+1<l.length:=by
   have:=of_decide_eq_true h0
   rw [List.length_map] at this
   omega
  have hw:IntKind.i64.wrap (((k+1:Nat):Int) - Int.ofNat 1)=(k:Nat):=by
   rw [IntKind.wrap_i64]
   simp only [Int.ofNat_eq_natCast]
   omega
  have hlt:=hs k (k+1) (by omega) h (by omega)
  refine jB ?_
  refine AW.draws mixed_ok ?_
  refine wH rfl ?_
  refine RG.opS rfl (op_index rfl (tk rfl) rfl (tk rfl) rfl rfl (show (l.map cI)[k+1]?=some (cI l[k+1]) by rw [List.getElem?_map,List.getElem?_eq_getElem (by assumption)];rfl) rfl) rfl ?_
  refine RG.runO ty_ok 0 [(16,.i .i64 (k:Nat))] 400 rfl jD ?_
  refine RG.opS rfl (op_index rfl (tk rfl) rfl (tk rfl) rfl rfl (show (l.map cI)[k]?=some (cI (l[k]'(by omega))) by rw [List.getElem?_map,List.getElem?_eq_getElem (by omega)];rfl) rfl) rfl ?_
  refine wH rfl ?_;refine jB ?_
  refine AW.cond rfl (fun h1=>?_) (fun h1=>?_)
  ·exact absurd (of_decide_eq_true h1) (by omega)
  refine jA ?_
  exact ⟨k+1,⟨trivial,by omega⟩,⟨Rn.is rfl rfl,Rn.is (i64_next h hm) rfl,trivial⟩,trivial⟩
 ·refine jA ?_
  refine jE ?_;refine jA ?_
  refine jR ?_
  rfl
theorem d_MakeI (l:List Int) (hs:l.Pairwise (· < ·)) (hl:l.length<=1000000):PDoes Tryz.prog 204 [.sl (l.map cI)] (.sl (l.map cI)):=by
 refine PDoes.of_bodyN Tryz.func204 rfl (by kernel_rfl) rfl rfl ?_
 refine jA ?_
 refine RG.callMS rfl rfl rfl rfl rfl rfl (d_Clone_Int l hl) rfl ?_;refine jH ?_
 refine RG.callS rfl rfl rfl rfl rfl (d_Rising l hs) rfl rfl ?_;refine jH ?_
 refine AW.condF rfl ?_;refine jA ?_
 refine RG.callMS rfl rfl rfl rfl rfl rfl (d_Clip_Int l) rfl ?_;refine jH ?_
 refine jR ?_
 rfl
theorem d_Join (a b:List Int) (hs:(a++b).Pairwise (· < ·)) (hb:0<b.length) (hl:a.length+b.length<=1000000):PDoes Tryz.prog 186 [.sl (a.map cI),.sl (b.map cI)] (.sl ((a++b).map cI)):=by
 have hC:=d_Concat [a,b] (by simp;omega) (by simp;omega) (by show 2<=1000000;decide)
 rw [show [a,b].flatten=a++b by simp] at hC
 refine PDoes.of_bodyN Tryz.func186 rfl (by kernel_rfl) rfl rfl ?_
 refine jA ?_
 refine RG.callMS rfl rfl rfl rfl rfl rfl hC rfl ?_;refine jH ?_
 refine RG.callMS rfl rfl rfl rfl rfl rfl (d_MakeI (a++b) hs (by rw [List.length_append];omega)) rfl ?_;refine jH ?_
 refine jR ?_
 rfl
theorem d_pSoundFn (x:Cb):PDoes Tryz.prog 237 [.agg (cCb x)] (.b (!x.sound)):=by
 refine PDoes.of_bodyN Tryz.func237 rfl (by kernel_rfl) rfl rfl ?_
 refine jA ?_
 refine RG.callS rfl rfl rfl rfl rfl (d_Sound x _ rfl) rfl rfl ?_;refine jH ?_
 refine jR ?_
 rfl
theorem any_not (p:List Cb):(p.any fun x=>!x.sound) = !p.all Cb.sound:=by
 rw [Bool.eq_iff_iff]
 simp
theorem d_PSound (p:List Cb) (q:Bool) (hq:pileSound p=q):PDoes Tryz.prog 203 [.sl (p.map cCb)] (.b q):=by
 subst hq
 refine PDoes.of_bodyN Tryz.func203 rfl (by kernel_rfl) rfl rfl ?_
 have hl:(p.map cCb).length=p.length:=List.length_map ..
 refine jB ?_;refine wF ?_;refine wH rfl ?_;refine jB ?_
 refine AW.text ?_
 by_cases h:(((p.map cCb).length:Nat):Int)<=200
 ·refine RG.runO ty_ok 0 [(5,.b true)] 400 rfl jD ?_
  refine RG.callS rfl rfl rfl rfl rfl (d_ContainsFunc_Cb _ (fun x=>!x.sound) p (fun x _=>d_pSoundFn x) _ (any_not p)) rfl rfl ?_;refine jH ?_
  refine jR ?_
  exact congrArg AV.b (by rw [pileSound,decide_eq_true (by omega),Bool.not_not];rfl)
 ·refine RG.runO ty_ok 0 [(5,.b false)] 400 rfl jD ?_
  refine jH ?_
  refine jR ?_
  exact congrArg AV.b (by rw [pileSound,decide_eq_false (by omega)];rfl)
theorem d_pair (p q:List Cb) (b:Bool) (hb:(pileSound p && pileSound q)=b):PDoes Tryz.prog 207 [.sl (p.map cCb),.sl (q.map cCb)] (.i .i64 (bif b then 0 else 2)):=by
 subst hb
 refine PDoes.of_bodyN Tryz.func207 rfl (by kernel_rfl) rfl rfl ?_
 refine jA ?_
 cases h1:pileSound p
 ·refine RG.callS rfl rfl rfl rfl rfl (d_PSound p _ h1) rfl rfl ?_;refine jH ?_
  refine AW.condT rfl ?_;refine jA ?_
  refine jR ?_
  rfl
 refine RG.callS rfl rfl rfl rfl rfl (d_PSound p _ h1) rfl rfl ?_;refine jH ?_
 cases h2:pileSound q
 ·refine RG.callS rfl rfl rfl rfl rfl (d_PSound q _ h2) rfl rfl ?_;refine jH ?_
  refine AW.condT rfl ?_;refine jA ?_
  refine jR ?_
  rfl
 refine RG.callS rfl rfl rfl rfl rfl (d_PSound q _ h2) rfl rfl ?_;refine jH ?_
 refine AW.condF rfl ?_;refine jA ?_
 refine jR ?_
 rfl
theorem d_spare (p:List Cb) (n:Nat) (x:Cb) (hx:p[n]?=some x) (v:Bool) (hv:spareF x n 0 p=v):PDoes Tryz.prog 250 [.sl (p.map cCb),.i .i64 (n:Nat)] (.b v):=by
 subst hv
 refine PDoes.of_bodyN Tryz.func250 rfl (by kernel_rfl) rfl rfl ?_
 have hxx:(p.map cCb)[n]?=some (cCb x):=by rw [List.getElem?_map,hx];rfl
 refine jA ?_
 refine AW.lens 7 rfl fun hm=>?_
 rw [List.length_map] at hm
 refine AW.loopL (ι:=Nat) (fun k=>[(0,.sl (p.map cCb)),(1,.i .i64 (n:Nat)),(7,.sl (p.map cCb)),(8,.i .i64 (p.map cCb).length),(9,.i .i64 (k:Nat))]) (fun _=>[]) (fun k=>k<=p.length/\spareF x n k (p.drop k)=spareF x n 0 p) (fun k=>p.length - k) 0 ⟨Nat.zero_le _,rfl⟩ jW trivial fun k hk=>?_
 obtain ⟨hk,hf⟩:=hk
 refine jA ?_
 refine AW.cond rfl (fun h0=>?_) (fun h0=>?_)
 ·have h:k<p.length:=by simpa using h0
  rw [List.drop_eq_getElem_cons h,spareF] at hf
  have hkx:(p.map cCb)[k]?=some (cCb p[k]):=by rw [List.getElem?_map,List.getElem?_eq_getElem h];rfl
  generalize p[k]=c at hf hkx
  (repeat first|apply wA|apply wB|apply wC|apply wE|(apply zM;·kernel_rfl)|apply wF|apply wG)
  refine wH rfl ?_
  refine RG.opS rfl (op_index rfl (tk rfl) rfl (tk rfl) rfl rfl hkx rfl) rfl ?_
  refine wH rfl ?_;refine jB ?_
  refine AW.draws mixed_ok ?_
  by_cases h1:((k:Nat):Int)=(n:Nat)
  ·have e : (decide (k ≠ n) && x.within c && (decide (x ≠ c) || decide (k < n))) = false := by
    rw [decide_eq_false (show ¬k≠n by omega)];rfl
   rw [e] at hf
   refine RG.runO ty_ok 0 [(16,.b false)] 400 rfl jD ?_
   refine jB ?_;refine AW.condF rfl ?_;refine jA ?_
   exact ⟨k+1,⟨⟨h,hf⟩,by omega⟩,jV,trivial⟩
  rw [decide_eq_true (show k≠n by omega),Bool.true_and] at hf
  refine RG.runO ty_ok 0 [(16,.b true)] 400 rfl jD ?_
  refine RG.opS rfl (op_index rfl (tk rfl) rfl (tk rfl) rfl rfl hxx rfl) rfl ?_
  refine wH rfl ?_
  cases h2:x.within c
  ·rw [h2] at hf
   refine RG.callS rfl rfl rfl rfl rfl (d_Within x c _ h2) rfl rfl ?_;refine jH ?_
   refine AW.condF rfl ?_;refine jA ?_
   exact ⟨k+1,⟨⟨h,hf⟩,by omega⟩,jV,trivial⟩
  rw [h2,Bool.true_and] at hf
  refine RG.callS rfl rfl rfl rfl rfl (d_Within x c _ h2) rfl rfl ?_
  refine wH rfl ?_
  refine RG.opS rfl (op_index rfl (tk rfl) rfl (tk rfl) rfl rfl hxx rfl) rfl ?_
  refine wH rfl ?_
  by_cases h3:x=c
  ·rw [decide_eq_false (show ¬x≠c from fun h=>h h3),Bool.false_or] at hf
   refine RG.opS rfl (op_neG rfl ty_ok (by kernel_rfl) (by kernel_rfl) rfl rfl (eq_Cb x c) (congrArg Bool.not (decide_eq_true h3))) rfl ?_
   refine wH rfl ?_;refine jB ?_
   refine AW.cond rfl (fun h4=>?_) (fun h4=>?_)
   ·have h4:k<n:=Int.ofNat_lt.1 (of_decide_eq_true h4)
    rw [decide_eq_true h4] at hf
    refine jA ?_
    refine jR ?_
    exact congrArg AV.b hf
   ·have h4:¬k<n:=fun h5=>of_decide_eq_false h4 (Int.ofNat_lt.2 h5)
    rw [decide_eq_false h4] at hf
    refine jA ?_
    exact ⟨k+1,⟨⟨h,hf⟩,by omega⟩,jV,trivial⟩
  ·rw [decide_eq_true (show x≠c from h3),Bool.true_or] at hf
   refine RG.opS rfl (op_neG rfl ty_ok (by kernel_rfl) (by kernel_rfl) rfl rfl (eq_Cb x c) (congrArg Bool.not (decide_eq_false h3))) rfl ?_
   refine wH rfl ?_;refine jB ?_
   refine AW.condT rfl ?_;refine jA ?_
   refine jR ?_
   exact congrArg AV.b hf
 ·have h:¬k<p.length:=by simpa using h0
  obtain rfl:k=p.length:=by omega
  rw [List.drop_length,spareF] at hf
  refine jA ?_
  refine jE ?_;refine jA ?_
  refine RG.opS rfl (op_index rfl (tk rfl) rfl (tk rfl) rfl rfl hxx rfl) rfl ?_
  refine wH rfl ?_
  refine RG.callS rfl rfl rfl rfl rfl (d_Sound x _ rfl) rfl rfl ?_;refine jH ?_
  refine jR ?_
  exact congrArg AV.b hf
theorem d_LeanP (p:List Cb) (hp:p.length<=1000000):PDoes Tryz.prog 240 [.sl (p.map cCb)] (.sl ((leanP p).map cCb)):=by
 refine PDoes.of_bodyN Tryz.func240 rfl (by kernel_rfl) rfl rfl ?_
 have hm:p.length<=9223372036854775807:=by omega
 have hle:=leanP_len p
 refine jB ?_;refine wF ?_;refine wH rfl ?_;refine jB ?_
 refine AW.text ?_
 refine RG.opS rfl (op_nilRow 3 36 4 rfl) rfl ?_
 refine jH ?_
 refine AW.loopL (ι:=Nat × List Cb) (fun i=>[(0,.sl (p.map cCb)),(3,.row 3 0 0 (i.2.map cCb).length),(6,.sl (p.map cCb)),(7,.i .i64 (p.map cCb).length),(8,.i .i64 (i.1:Nat))]) (fun i=>[(3,⟨0,some (.row 36 4 (i.2.map cCb))⟩)]) (fun i=>i.1<=p.length/\accI (leanI p) i.1 (p.drop i.1) i.2=leanP p) (fun i=>p.length - i.1) (0,[]) ⟨Nat.zero_le _,rfl⟩ jW jW fun i hi=>?_
 obtain ⟨k,out⟩:=i
 obtain ⟨hk,hf⟩:=hi
 simp only at hk hf
 refine jA ?_
 refine AW.cond rfl (fun h0=>?_) (fun h0=>?_)
 ·have h:k<p.length:=by simpa using h0
  have hol:out.length<=100000000:=by
   have h1:=accI_ge (f:=leanI p) k (p.drop k) out
   rw [hf] at h1
   omega
  rw [List.drop_eq_getElem_cons h,accI,leanI] at hf
  have hkp:p[k]?=some p[k]:=List.getElem?_eq_getElem h
  have hkx:(p.map cCb)[k]?=some (cCb p[k]):=by rw [List.getElem?_map,hkp];rfl
  generalize p[k]=c at hf hkx hkp
  refine jA ?_
  refine RG.opS rfl (op_index rfl (tk rfl) rfl (tk rfl) rfl rfl hkx rfl) rfl ?_
  refine jH ?_
  cases h1:spareF c k 0 p
  ·rw [h1,cond_false] at hf
   refine RG.callS rfl rfl rfl rfl rfl (d_spare p k c hkp _ h1) rfl rfl ?_;refine jH ?_
   refine AW.condT rfl ?_;refine jB ?_
   refine AW.text ?_
   refine wH rfl ?_
   refine RG.opS rfl (op_app1 cCb out c hol rfl rfl rfl rfl (tk rfl) rfl (tk rfl) rfl rfl ⟨_,rfl,rfl⟩ rfl rfl) rfl ?_;refine jH ?_
   exact ⟨(k+1,_),⟨⟨h,hf⟩,by show p.length - (k+1)<p.length - k;omega⟩,jV,jW⟩
  ·rw [h1,cond_true,List.append_nil] at hf
   refine RG.callS rfl rfl rfl rfl rfl (d_spare p k c hkp _ h1) rfl rfl ?_;refine jH ?_
   refine AW.condF rfl ?_;refine jA ?_
   exact ⟨(k+1,out),⟨⟨h,hf⟩,by show p.length - (k+1)<p.length - k;omega⟩,jV,jW⟩
 ·have h:¬k<p.length:=by simpa using h0
  obtain rfl:k=p.length:=by omega
  rw [List.drop_length,accI] at hf
  refine jA ?_
  refine jE ?_;refine jA ?_
  refine jR ?_
  exact rowAll (congrArg (List.map cCb) hf)
def pileR (r:List Cb × Int):AV:=.tup [.sl (r.1.map cCb),.i .i64 r.2]
theorem d_leanE (p:List Cb) (hp:p.length<=1000000):PDoes Tryz.prog 208 [.sl (p.map cCb)] (pileR (leanE p)):=by
 refine PDoes.of_bodyN Tryz.func208 rfl (by kernel_rfl) rfl rfl ?_
 have hl:((leanP p).map cCb).length=(leanP p).length:=List.length_map ..
 refine jA ?_
 refine RG.callMS rfl rfl rfl rfl rfl rfl (d_LeanP p hp) rfl ?_;refine jH ?_
 refine AW.cond rfl (fun h=>?_) (fun h=>?_)
 ·have h:(((leanP p).map cCb).length:Int)>200:=of_decide_eq_true h
  have e:leanE p=([],10):=by rw [leanE,decide_eq_true (by omega)];rfl
  refine jA ?_
  refine jR ?_
  rw [e]
  rfl
 ·have h:¬(((leanP p).map cCb).length:Int)>200:=of_decide_eq_false h
  have e:leanE p=(leanP p,0):=by rw [leanE,decide_eq_false (by omega)];rfl
  refine jA ?_
  refine RG.callMS rfl rfl rfl rfl rfl rfl (d_Clip_Cb (leanP p)) rfl ?_;refine jH ?_
  refine jR ?_
  rw [e]
  rfl
theorem pileSound_len {p:List Cb} (h:pileSound p=true):p.length<=200:=by
 rw [pileSound,Bool.and_eq_true,decide_eq_true_eq] at h
 exact h.1
theorem meetRow_len (q:List Cb) (n:Nat) (x:Cb):(meetRow q n x).length<=q.length:=by
 have:=accI_len (f:=meetI x) (m:=1) (fun n y=>by rw [meetI];cases x.meets y <;> simp) 0 q []
 rw [meetRow]
 simp at this
 omega
theorem d_PMeet (p q:List Cb):PDoes Tryz.prog 184 [.sl (p.map cCb),.sl (q.map cCb)] (pileR (pileMeet p q)):=by
 refine PDoes.of_bodyN Tryz.func184 rfl (by kernel_rfl) rfl rfl ?_
 refine jA ?_
 cases hs:(pileSound p && pileSound q)
 ·refine RG.callS rfl rfl rfl rfl rfl (d_pair p q _ hs) rfl rfl ?_;refine jH ?_
  refine AW.condT rfl ?_;refine jA ?_
  refine jR ?_
  rw [pileMeet,hs]
  rfl
 refine RG.callS rfl rfl rfl rfl rfl (d_pair p q _ hs) rfl rfl ?_;refine jH ?_
 have e0:pileMeet p q=leanE (meetAll p q):=by rw [pileMeet,hs];rfl
 rw [Bool.and_eq_true] at hs
 have hp:=pileSound_len hs.1
 have hq:=pileSound_len hs.2
 have hal:(meetAll p q).length<=40000:=by
  have:=accI_len (f:=meetRow q) (m:=q.length) (fun n x=>meetRow_len q n x) 0 p []
  rw [meetAll]
  have h2:q.length*p.length<=200*200:=Nat.mul_le_mul hq hp
  simp at this
  omega
 have hmp:p.length<=9223372036854775807:=by omega
 have hmq:q.length<=9223372036854775807:=by omega
 refine AW.condF rfl ?_;refine jB ?_
 refine AW.text ?_
 refine RG.opS rfl (op_nilRow 7 36 4 rfl) rfl ?_
 refine jH ?_
 refine AW.loopL (ι:=Nat × List Cb) (fun i=>[(1,.sl (q.map cCb)),(7,.row 7 0 0 (i.2.map cCb).length),(20,.sl (p.map cCb)),(21,.i .i64 (p.map cCb).length),(22,.i .i64 (i.1:Nat))]) (fun i=>[(7,⟨0,some (.row 36 4 (i.2.map cCb))⟩)]) (fun i=>i.1<=p.length/\accI (meetRow q) i.1 (p.drop i.1) i.2=meetAll p q) (fun i=>p.length - i.1) (0,[]) ⟨Nat.zero_le _,rfl⟩ jW jW fun i hi=>?_
 obtain ⟨k,out⟩:=i
 obtain ⟨hk,hf⟩:=hi
 simp only at hk hf
 refine jA ?_
 refine AW.cond rfl (fun h0=>?_) (fun h0=>?_)
 ·have h:k<p.length:=by simpa using h0
  rw [List.drop_eq_getElem_cons h,accI,meetRow,<- accI_eq] at hf
  have hkx:(p.map cCb)[k]?=some (cCb p[k]):=by rw [List.getElem?_map,List.getElem?_eq_getElem h];rfl
  generalize p[k]=x at hf hkx
  refine jA ?_
  refine RG.opS rfl (op_index rfl (tk rfl) rfl (tk rfl) rfl rfl hkx rfl) rfl ?_
  refine jH ?_
  refine AW.loopL (ι:=Nat × List Cb) (fun i=>[(1,.sl (q.map cCb)),(7,.row 7 0 0 (i.2.map cCb).length),(9,.own 9 0 0),(20,.sl (p.map cCb)),(21,.i .i64 (p.map cCb).length),(22,.i .i64 (k:Nat)),(26,.sl (q.map cCb)),(27,.i .i64 (q.map cCb).length),(28,.i .i64 (i.1:Nat))]) (fun i=>[(7,⟨0,some (.row 36 4 (i.2.map cCb))⟩),(9,⟨0,some (.box 36 (cCb x))⟩)]) (fun i=>i.1<=q.length/\accI (meetRow q) (k+1) (p.drop (k+1)) (accI (meetI x) i.1 (q.drop i.1) i.2)=meetAll p q) (fun i=>q.length - i.1) (0,out) ⟨Nat.zero_le _,hf⟩ jW jW fun i hi=>?_
  clear hf
  obtain ⟨j,out⟩:=i
  obtain ⟨hj,hf⟩:=hi
  simp only at hj hf
  refine jA ?_
  refine AW.cond rfl (fun h1=>?_) (fun h1=>?_)
  ·have h':j<q.length:=by simpa using h1
   have hol:out.length<=100000000:=by
    have h1:=accI_ge (f:=meetRow q) (k+1) (p.drop (k+1)) (accI (meetI x) j (q.drop j) out)
    have h2:=accI_ge (f:=meetI x) j (q.drop j) out
    rw [hf] at h1
    omega
   rw [List.drop_eq_getElem_cons h',accI,meetI] at hf
   have hjx:(q.map cCb)[j]?=some (cCb q[j]):=by rw [List.getElem?_map,List.getElem?_eq_getElem h'];rfl
   generalize q[j]=y at hf hjx
   refine jA ?_
   refine RG.opS rfl (op_index rfl (tk rfl) rfl (tk rfl) rfl rfl hjx rfl) rfl ?_
   refine jH ?_
   cases hm:x.meets y
   ·rw [hm,cond_false,List.append_nil] at hf
    refine RG.callS rfl rfl rfl rfl rfl (d_Meet x y _ hm) rfl rfl ?_;refine jH ?_
    refine AW.condF rfl ?_;refine jA ?_
    exact ⟨(j+1,out),⟨⟨h',hf⟩,by show q.length - (j+1)<q.length - j;omega⟩,⟨Rn.is rfl rfl,Rn.rowIs rfl rfl rfl,Rn.ownIs rfl rfl rfl,Rn.is rfl rfl,Rn.is rfl rfl,Rn.is rfl rfl,Rn.is rfl rfl,Rn.is rfl rfl,Rn.is (i64_next h' hmq) rfl,trivial⟩,jW⟩
   ·rw [hm,cond_true] at hf
    refine RG.callS rfl rfl rfl rfl rfl (d_Meet x y _ hm) rfl rfl ?_;refine jH ?_
    refine AW.condT rfl ?_;refine jB ?_
    refine AW.text ?_
    refine wH rfl ?_
    refine RG.opS rfl (op_app1 cCb out (x.met y) hol rfl rfl rfl rfl (tk rfl) rfl (tk rfl) rfl rfl ⟨_,rfl,rfl⟩ rfl rfl) rfl ?_;refine jH ?_
    exact ⟨(j+1,_),⟨⟨h',hf⟩,by show q.length - (j+1)<q.length - j;omega⟩,⟨Rn.is rfl rfl,Rn.rowIs rfl rfl rfl,Rn.ownIs rfl rfl rfl,Rn.is rfl rfl,Rn.is rfl rfl,Rn.is rfl rfl,Rn.is rfl rfl,Rn.is rfl rfl,Rn.is (i64_next h' hmq) rfl,trivial⟩,jW⟩
  ·have h':¬j<q.length:=by simpa using h1
   obtain rfl:j=q.length:=by omega
   rw [List.drop_length (l:=q),accI] at hf
   refine jA ?_
   refine jE ?_;refine jA ?_
   exact ⟨(k+1,out),⟨⟨h,hf⟩,by show p.length - (k+1)<p.length - k;omega⟩,⟨Rn.is rfl rfl,Rn.rowIs rfl rfl rfl,Rn.is rfl rfl,Rn.is rfl rfl,Rn.is (i64_next h hmp) rfl,trivial⟩,jW⟩
 ·have h:¬k<p.length:=by simpa using h0
  obtain rfl:k=p.length:=by omega
  rw [List.drop_length,accI] at hf
  subst hf
  refine jA ?_
  refine jE ?_;refine jA ?_
  refine RG.callMS rfl rfl rfl rfl (congrArg (fun x=>[x]) (rowAll rfl)) rfl (d_leanE (meetAll p q) (by omega)) rfl ?_;refine jH ?_
  refine jR ?_
  rw [e0]
  rfl
theorem lessF_len (c:Cb) (more:Hd):∀(n:Nat) (rest:Cb) (out:List Cb),(lessF c more n rest out).length<=out.length+n
 | 0,rest,out=>Nat.le_refl _
 | n+1,rest,out=>by
  rw [lessF]
  cases more.bit n
  ·have:=lessF_len c more n rest out
   rw [cond_false]
   omega
  ·have:=lessF_len c more n ⟨rest.value.or (c.value.and (maskH n 1)),rest.care.or (maskH n 1)⟩ (out++[⟨(rest.value.or (c.value.and (maskH n 1))).xor (maskH n 1),rest.care.or (maskH n 1)⟩])
   rw [List.length_append,List.length_singleton] at this
   rw [cond_true]
   omega
theorem less_len (a c:Cb):(a.less c).length<=128:=by
 rw [Cb.less]
 cases (a.sound && c.sound)
 ·exact Nat.zero_le _
 ·cases a.meets c
  ·show 1<=128;omega
  ·have:=lessF_len c (c.care.less a.care) 128 a []
   simpa using this
theorem lessAll_len (y:Cb) (out:List Cb):(lessAll y out).length<=128*out.length:=by
 have:=accI_len (f:=lessRow y) (m:=128) (fun n x=>less_len x y) 0 out []
 rw [lessAll]
 simpa using this
theorem d_PLess (p q:List Cb):PDoes Tryz.prog 187 [.sl (p.map cCb),.sl (q.map cCb)] (pileR (pileLess p q)):=by
 refine PDoes.of_bodyN Tryz.func187 rfl (by kernel_rfl) rfl rfl ?_
 refine jA ?_
 cases hs:(pileSound p && pileSound q)
 ·refine RG.callS rfl rfl rfl rfl rfl (d_pair p q _ hs) rfl rfl ?_;refine jH ?_
  refine AW.condT rfl ?_;refine jA ?_
  refine jR ?_
  rw [pileLess,hs]
  rfl
 refine RG.callS rfl rfl rfl rfl rfl (d_pair p q _ hs) rfl rfl ?_;refine jH ?_
 have e0:pileLess p q=lessL p q:=by rw [pileLess,hs];rfl
 rw [e0]
 rw [Bool.and_eq_true] at hs
 have hp:=pileSound_len hs.1
 have hq:=pileSound_len hs.2
 have hmq:q.length<=9223372036854775807:=by omega
 refine AW.condF rfl ?_;refine jA ?_
 refine RG.callMS rfl rfl rfl rfl rfl rfl (d_Clone_Cb p (by omega)) rfl ?_;refine jH ?_
 refine AW.loopL (ι:=Nat × List Cb) (fun i=>[(7,.sl (i.2.map cCb)),(22,.sl (q.map cCb)),(23,.i .i64 (q.map cCb).length),(24,.i .i64 (i.1:Nat))]) (fun i=>[]) (fun i=>(i.1<=q.length/\i.2.length<=200)/\lessL i.2 (q.drop i.1)=lessL p q) (fun i=>q.length - i.1) (0,p) ⟨⟨Nat.zero_le _,hp⟩,rfl⟩ jW trivial fun i hi=>?_
 obtain ⟨k,out⟩:=i
 obtain ⟨⟨hk,ho⟩,hf⟩:=hi
 simp only at hk ho hf
 refine jA ?_
 refine AW.cond rfl (fun h0=>?_) (fun h0=>?_)
 ·have h:k<q.length:=by simpa using h0
  rw [List.drop_eq_getElem_cons h,lessL] at hf
  have hkx:(q.map cCb)[k]?=some (cCb q[k]):=by rw [List.getElem?_map,List.getElem?_eq_getElem h];rfl
  generalize q[k]=y at hf hkx
  have hmo:out.length<=9223372036854775807:=by omega
  have hal:=lessAll_len y out
  refine jB ?_
  refine AW.text ?_
  refine RG.opS rfl (op_index rfl (tk rfl) rfl (tk rfl) rfl rfl hkx rfl) rfl ?_
  refine wH rfl ?_;refine jB ?_
  refine AW.text ?_
  refine RG.opS rfl (op_nilRow 10 36 4 rfl) rfl ?_
  refine jH ?_
  refine AW.loopL (ι:=Nat × List Cb) (fun i=>[(7,.sl (out.map cCb)),(9,.own 9 0 0),(10,.row 10 0 0 (i.2.map cCb).length),(22,.sl (q.map cCb)),(23,.i .i64 (q.map cCb).length),(24,.i .i64 (k:Nat)),(28,.sl (out.map cCb)),(29,.i .i64 (out.map cCb).length),(30,.i .i64 (i.1:Nat))]) (fun i=>[(9,⟨0,some (.box 36 (cCb y))⟩),(10,⟨0,some (.row 36 4 (i.2.map cCb))⟩)]) (fun i=>i.1<=out.length/\accI (lessRow y) i.1 (out.drop i.1) i.2=lessAll y out) (fun i=>out.length - i.1) (0,[]) ⟨Nat.zero_le _,rfl⟩ jW jW fun i hi=>?_
  obtain ⟨j,rest⟩:=i
  obtain ⟨hj,hg⟩:=hi
  simp only at hj hg
  refine jA ?_
  refine AW.cond rfl (fun h1=>?_) (fun h1=>?_)
  ·have h':j<out.length:=by simpa using h1
   have hjx:(out.map cCb)[j]?=some (cCb out[j]):=by rw [List.getElem?_map,List.getElem?_eq_getElem h'];rfl
   rw [List.drop_eq_getElem_cons h',accI,lessRow] at hg
   generalize out[j]=x at hg hjx
   have hol:rest.length+(x.less y).length<=100000000:=by
    have h1:=accI_ge (f:=lessRow y) (j+1) (out.drop (j+1)) (rest++x.less y)
    rw [hg,List.length_append] at h1
    omega
   refine jA ?_
   refine RG.opS rfl (op_index rfl (tk rfl) rfl (tk rfl) rfl rfl hjx rfl) rfl ?_
   refine jH ?_
   refine RG.callMS rfl rfl rfl rfl rfl rfl (d_CLess x y) rfl ?_;refine jH ?_
   refine RG.opS rfl (op_appL cCb rest (x.less y) hol (fun _=>rfl) rfl rfl rfl rfl (tk rfl) rfl (tk rfl) rfl rfl ⟨_,rfl,rfl⟩ rfl) rfl ?_;refine jH ?_
   exact ⟨(j+1,_),⟨⟨h',hg⟩,by show out.length - (j+1)<out.length - j;omega⟩,⟨Rn.is rfl rfl,Rn.ownIs rfl rfl rfl,Rn.rowIs rfl rfl rfl,Rn.is rfl rfl,Rn.is rfl rfl,Rn.is rfl rfl,Rn.is rfl rfl,Rn.is rfl rfl,Rn.is (i64_next h' hmo) rfl,trivial⟩,jW⟩
  ·have h':¬j<out.length:=by simpa using h1
   obtain rfl:j=out.length:=by omega
   rw [List.drop_length (l:=out),accI] at hg
   subst hg
   refine jA ?_
   refine jE ?_;refine jA ?_
   refine RG.callMS rfl rfl rfl rfl (congrArg (fun x=>[x]) (rowAll rfl)) rfl (d_leanE (lessAll y out) (by omega)) rfl ?_;refine jH ?_
   refine AW.cond rfl (fun h2=>?_) (fun h2=>?_)
   ·have h2:¬(leanE (lessAll y out)).2=0:=by simpa using h2
    rw [decide_eq_false h2,cond_false] at hf
    refine jA ?_
    refine jR ?_
    rw [<- hf]
    rfl
   ·have h2:(leanE (lessAll y out)).2=0:=by simpa using h2
    rw [decide_eq_true h2,cond_true] at hf
    refine jA ?_
    refine ⟨(k+1,(leanE (lessAll y out)).1),⟨⟨⟨h,?_⟩,hf⟩,by show q.length - (k+1)<q.length - k;omega⟩,⟨Rn.is rfl rfl,Rn.is rfl rfl,Rn.is rfl rfl,Rn.is (i64_next h hmq) rfl,trivial⟩,trivial⟩
    have:=(leanE_ok h2).2
    rw [(leanE_ok h2).1]
    exact this
 ·have h:¬k<q.length:=by simpa using h0
  obtain rfl:k=q.length:=by omega
  rw [List.drop_length,lessL] at hf
  refine jA ?_
  refine jE ?_;refine jA ?_
  refine RG.callMS rfl rfl rfl rfl rfl rfl (d_Clip_Cb out) rfl ?_;refine jH ?_
  refine jR ?_
  rw [<- hf]
  rfl
def pickR:Option Cb->AV
 | none=>.tup [.agg (cHd Hd.zero),.b false]
 | some c=>.tup [.agg (cHd c.value),.b true]
theorem d_Pick (p:List Cb):PDoes Tryz.prog 224 [.sl (p.map cCb)] (pickR (pick p)):=by
 refine PDoes.of_bodyN Tryz.func224 rfl (by kernel_rfl) rfl rfl ?_
 have hI:=d_IndexFunc_Cb 59 Cb.sound p fun x _=>d_Sound x _ rfl
 have hfi:=idxF_eq (p:=Cb.sound) 0 p
 rw [pick]
 cases hq:p.findIdx? Cb.sound with
 | none =>
  have e:p.find? Cb.sound=none:=by
   rw [List.findIdx?_eq_none_iff] at hq
   rw [List.find?_eq_none]
   intro x hx
   rw [hq x hx]
   exact Bool.false_ne_true
  rw [e]
  have hv:idxF Cb.sound 0 p = -1:=by rw [hfi,hq]
  rw [hv] at hI
  refine jA ?_
  refine RG.callS rfl rfl rfl rfl rfl hI rfl rfl ?_;refine jH ?_
  refine AW.condF rfl ?_;refine jA ?_
  refine jR ?_
  rfl
 | some k =>
  obtain ⟨hk,h1,h2⟩:=List.findIdx?_eq_some_iff_getElem.1 hq
  have e:p.find? Cb.sound=some p[k]:=by
   rw [List.find?_eq_some_iff_getElem]
   exact ⟨h1,k,hk,rfl,fun j hj=>by simpa using h2 j hj⟩
  rw [e]
  have hkx:(p.map cCb)[k]?=some (cCb p[k]):=by rw [List.getElem?_map,List.getElem?_eq_getElem hk];rfl
  generalize p[k]=c at hkx
  have hv:idxF Cb.sound 0 p=((k:Nat):Int):=by rw [hfi,hq];simp
  rw [hv] at hI
  refine jA ?_
  refine RG.callS rfl rfl rfl rfl rfl hI rfl rfl ?_;refine jH ?_
  refine AW.cond rfl (fun h=>?_) (fun h=>?_)
  rotate_left
  ·exact absurd (show Int.ofNat 0<=((k:Nat):Int) by simp only [Int.ofNat_eq_natCast];omega) (of_decide_eq_false h)
  refine jA ?_
  refine RG.opS rfl (op_index rfl (tk rfl) rfl (tk rfl) rfl rfl hkx rfl) rfl ?_
  refine jH ?_
  refine jR ?_
  rfl
theorem d_SplitFn (x:Cb):PDoes Tryz.prog 84 [.agg (cCb x)] (.b (!x.sound)):=by
 refine PDoes.of_bodyN Tryz.func84 rfl (by kernel_rfl) rfl rfl ?_
 refine jA ?_
 refine RG.callS rfl rfl rfl rfl rfl (d_Sound x _ rfl) rfl rfl ?_;refine jH ?_
 refine jR ?_
 rfl
def atomR (ids:List Int) (p:List Cb):Option Cb->AV
 | none=>.tup [.agg (cAtom ⟨ids,Hd.zero,p⟩),.b false]
 | some c=>.tup [.agg (cAtom ⟨ids,c.value,p⟩),.b true]
theorem d_atom (ids:List Int) (p:List Cb):PDoes Tryz.prog 185 [.sl (ids.map cI),.sl (p.map cCb)] (atomR ids p (pick p)):=by
 refine PDoes.of_bodyN Tryz.func185 rfl (by kernel_rfl) rfl rfl ?_
 have hP:=d_Pick p
 cases h:pick p with
 | none =>
  rw [h] at hP
  refine jA ?_
  refine RG.callS rfl rfl rfl rfl rfl hP rfl rfl ?_;refine jH ?_
  refine jR ?_
  rfl
 | some c =>
  rw [h] at hP
  refine jA ?_
  refine RG.callS rfl rfl rfl rfl rfl hP rfl rfl ?_;refine jH ?_
  refine jR ?_
  rfl
def atsR (r:List Atom × Int):AV:=.tup [.sl (r.1.map cAtom),.i .i64 r.2]
theorem pick_cons {x:Cb} {p:List Cb} (h:pileSound (x::p)=true):pick (x::p)=some x:=pick_sound h
theorem d_part (a:Atom) (n:Nat) (c:Cb) (hA:AtomOk n a) (hc:c.sound=true) (hn:a.ids.length<=1000):PDoes Tryz.prog 133 [.agg (cAtom a),.i .i64 (n:Nat),.sl ([c].map cCb)] (atsR (partA a n c)):=by
 refine PDoes.of_bodyN Tryz.func133 rfl (by kernel_rfl) rfl rfl ?_
 obtain ⟨m1,m2⟩:=pileMeet_ok hA.pile hc
 obtain ⟨l1,l2⟩:=pileLess_ok hA.pile hc
 have hM:=d_PMeet a.pile [c]
 have hL:=d_PLess a.pile [c]
 rw [partA]
 have hup:(a.ids++[((n:Nat):Int)]).Pairwise (· < ·):=by
  rw [List.pairwise_append]
  exact ⟨hA.up,List.pairwise_singleton _ _,fun x hx y hy=>by rw [List.mem_singleton.1 hy];exact hA.ids x hx⟩
 have hJ:=d_Join a.ids [((n:Nat):Int)] hup (by rw [List.length_singleton];decide) (by rw [List.length_singleton];omega)
 have hCl:=d_Clone_Int a.ids (by omega)
 rcases m1 with m1 | m1
 rotate_left
 ·rw [m1] at hM ⊢
  refine jB ?_
  refine AW.text ?_
  refine wH rfl ?_
  refine jB ?_
  refine AW.text ?_
  refine RG.opS rfl (op_nilRow 8 75 4 rfl) rfl ?_
  refine jH ?_
  refine RG.callMS rfl rfl rfl rfl rfl rfl hM rfl ?_;refine jH ?_
  refine AW.condT rfl ?_;refine jA ?_
  refine jR ?_
  rfl
 have m2:=(m2 m1).1
 rw [show pileMeet a.pile [c]=((pileMeet a.pile [c]).1,0) from Prod.ext rfl m1] at hM
 rw [decide_eq_true m1,cond_true]
 generalize (pileMeet a.pile [c]).1=mp at hM m2
 have hin:=d_atom (a.ids++[((n:Nat):Int)]) mp
 refine jB ?_
 refine AW.text ?_
 refine wH rfl ?_
 refine jB ?_
 refine AW.text ?_
 refine RG.opS rfl (op_nilRow 8 75 4 rfl) rfl ?_
 refine jH ?_
 refine RG.callMS rfl rfl rfl rfl rfl rfl hM rfl ?_;refine jH ?_
 refine AW.condF rfl ?_;refine jA ?_
 refine RG.callMS rfl rfl rfl rfl (congrArg (fun x=>[AV.sl (a.ids.map cI),x]) (rowAll (Y:=[((n:Nat):Int)].map cI) rfl)) rfl hJ rfl ?_;refine jH ?_
 cases mp with
 | nil =>
  refine RG.callMS rfl rfl rfl rfl rfl rfl hin rfl ?_;refine jH ?_
  refine AW.condF rfl ?_;refine jA ?_
  rcases l1 with l1 | l1
  rotate_left
  ·rw [l1] at hL ⊢
   refine RG.callMS rfl rfl rfl rfl rfl rfl hL rfl ?_;refine jH ?_
   refine AW.condT rfl ?_;refine jA ?_
   refine jR ?_
   rfl
  have l2:=(l2 l1).1
  rw [show pileLess a.pile [c]=((pileLess a.pile [c]).1,0) from Prod.ext rfl l1] at hL
  rw [decide_eq_true l1,cond_true]
  generalize (pileLess a.pile [c]).1=lp at hL l2
  have hot:=d_atom a.ids lp
  refine RG.callMS rfl rfl rfl rfl rfl rfl hL rfl ?_;refine jH ?_
  refine AW.condF rfl ?_;refine jA ?_
  refine RG.callMS rfl rfl rfl rfl rfl rfl hCl rfl ?_;refine jH ?_
  cases lp with
  | nil =>
   refine RG.callMS rfl rfl rfl rfl rfl rfl hot rfl ?_;refine jH ?_
   refine AW.condF rfl ?_;refine jA ?_
   refine jR ?_
   rfl
  | cons y lp =>
   rw [pick_cons l2] at hot
   refine RG.callMS rfl rfl rfl rfl rfl rfl hot rfl ?_;refine jH ?_
   refine AW.condT rfl ?_;refine jB ?_
   refine AW.text ?_
   refine wH rfl ?_
   refine RG.opS rfl (op_app1 cAtom ([]:List Atom) (⟨a.ids,y.value,y::lp⟩:Atom) (by decide) rfl rfl rfl rfl (tk rfl) rfl (tk rfl) rfl rfl ⟨_,rfl,rfl⟩ rfl rfl) rfl ?_;refine jH ?_
   refine jR ?_
   exact congrArg (fun x=>AV.tup [x,.i .i64 0]) (rowAll (by rw [partOut];rfl))
 | cons x mp =>
  rw [pick_cons m2] at hin
  refine RG.callMS rfl rfl rfl rfl rfl rfl hin rfl ?_;refine jH ?_
  refine AW.condT rfl ?_;refine jB ?_
  refine AW.text ?_
  refine wH rfl ?_
  refine RG.opS rfl (op_app1 cAtom ([]:List Atom) (⟨a.ids++[((n:Nat):Int)],x.value,x::mp⟩:Atom) (by decide) rfl rfl rfl rfl (tk rfl) rfl (tk rfl) rfl rfl ⟨_,rfl,rfl⟩ rfl rfl) rfl ?_;refine jH ?_
  rcases l1 with l1 | l1
  rotate_left
  ·rw [l1] at hL ⊢
   refine RG.callMS rfl rfl rfl rfl rfl rfl hL rfl ?_;refine jH ?_
   refine AW.condT rfl ?_;refine jA ?_
   refine jR ?_
   rfl
  have l2:=(l2 l1).1
  rw [show pileLess a.pile [c]=((pileLess a.pile [c]).1,0) from Prod.ext rfl l1] at hL
  rw [decide_eq_true l1,cond_true]
  generalize (pileLess a.pile [c]).1=lp at hL l2
  have hot:=d_atom a.ids lp
  refine RG.callMS rfl rfl rfl rfl rfl rfl hL rfl ?_;refine jH ?_
  refine AW.condF rfl ?_;refine jA ?_
  refine RG.callMS rfl rfl rfl rfl rfl rfl hCl rfl ?_;refine jH ?_
  cases lp with
  | nil =>
   refine RG.callMS rfl rfl rfl rfl rfl rfl hot rfl ?_;refine jH ?_
   refine AW.condF rfl ?_;refine jA ?_
   refine jR ?_
   exact congrArg (fun x=>AV.tup [x,.i .i64 0]) (rowAll (by rw [partOut,List.append_nil];rfl))
  | cons y lp =>
   rw [pick_cons l2] at hot
   refine RG.callMS rfl rfl rfl rfl rfl rfl hot rfl ?_;refine jH ?_
   refine AW.condT rfl ?_;refine jB ?_
   refine AW.text ?_
   refine wH rfl ?_
   refine RG.opS rfl (op_app1 cAtom [(⟨a.ids++[((n:Nat):Int)],x.value,x::mp⟩:Atom)] (⟨a.ids,y.value,y::lp⟩:Atom) (show 1<=100000000 by decide) rfl rfl rfl rfl (tk rfl) rfl (tk rfl) rfl rfl ⟨_,rfl,rfl⟩ rfl rfl) rfl ?_;refine jH ?_
   refine jR ?_
   exact congrArg (fun x=>AV.tup [x,.i .i64 0]) (rowAll (by rw [partOut];rfl))
theorem partA_len (a:Atom) (id:Int) (c:Cb):(partA a id c).1.length<=2:=by
 rw [partA]
 cases decide ((pileMeet a.pile [c]).2=0)
 ·exact Nat.zero_le _
 cases decide ((pileLess a.pile [c]).2=0)
 ·exact Nat.zero_le _
 rw [cond_true,cond_true,List.length_append]
 have h1:∀p,(partIn a id c p).length<=1:=fun p=>by cases p <;> simp [partIn]
 have h2:∀p,(partOut a p).length<=1:=fun p=>by cases p <;> simp [partOut]
 have:=h1 (pileMeet a.pile [c]).1
 have:=h2 (pileLess a.pile [c]).1
 omega
theorem d_split (l:List Atom) (n:Nat) (c:Cb) (hA:∀a∈l,AtomOk n a/\a.ids.length<=1000) (hc:c.sound=true) (hl:l.length<=600):PDoes Tryz.prog 86 [.sl (l.map cAtom),.i .i64 (n:Nat),.agg (cCb c)] (atsR (splitL n c l [])):=by
 refine PDoes.of_bodyN Tryz.func86 rfl (by kernel_rfl) rfl rfl ?_
 have hm:l.length<=9223372036854775807:=by omega
 refine jB ?_
 refine AW.text ?_
 refine wH rfl ?_
 refine jB ?_
 refine AW.text ?_
 refine RG.opS rfl (op_nilRow 8 75 4 rfl) rfl ?_
 refine jH ?_
 refine AW.loopL (ι:=Nat × List Atom) (fun i=>[(1,.i .i64 (n:Nat)),(5,.own 5 0 0),(8,.row 8 0 0 (i.2.map cAtom).length),(13,.sl (l.map cAtom)),(14,.i .i64 (l.map cAtom).length),(15,.i .i64 (i.1:Nat))]) (fun i=>[(5,⟨0,some (.box 36 (cCb c))⟩),(8,⟨0,some (.row 75 4 (i.2.map cAtom))⟩)]) (fun i=>(i.1<=l.length/\i.2.length<=2*i.1)/\splitL n c (l.drop i.1) i.2=splitL n c l []) (fun i=>l.length - i.1) (0,[]) ⟨⟨Nat.zero_le _,Nat.zero_le _⟩,rfl⟩ jW jW fun i hi=>?_
 obtain ⟨k,out⟩:=i
 obtain ⟨⟨hk,ho⟩,hf⟩:=hi
 simp only at hk ho hf
 refine jA ?_
 refine AW.cond rfl (fun h0=>?_) (fun h0=>?_)
 ·have h:k<l.length:=by simpa using h0
  rw [List.drop_eq_getElem_cons h,splitL] at hf
  have hkx:(l.map cAtom)[k]?=some (cAtom l[k]):=by rw [List.getElem?_map,List.getElem?_eq_getElem h];rfl
  have ha:=hA l[k] (List.getElem_mem h)
  generalize l[k]=a at hf hkx ha
  have hP:=d_part a n c ha.1 hc ha.2
  have hpl:=partA_len a n c
  refine jA ?_
  refine RG.opS rfl (op_index rfl (tk rfl) rfl (tk rfl) rfl rfl hkx rfl) rfl ?_
  refine jH ?_
  refine RG.callMS rfl rfl rfl rfl (congrArg (fun x=>[AV.agg (cAtom a),AV.i .i64 (n:Nat),x]) (rowAll (Y:=[c].map cCb) rfl)) rfl hP rfl ?_;refine jH ?_
  refine AW.cond rfl (fun h2=>?_) (fun h2=>?_)
  ·have h2:¬(partA a n c).2=0:=by simpa using h2
   rw [decide_eq_false h2,cond_false] at hf
   refine jA ?_
   refine jR ?_
   rw [<- hf]
   rfl
  ·have h2:(partA a n c).2=0:=by simpa using h2
   rw [decide_eq_true h2,cond_true] at hf
   refine jB ?_
   refine AW.text ?_
   refine wH rfl ?_
   refine RG.opS rfl (op_appL cAtom out (partA a n c).1 (by omega) (fun _=>rfl) rfl rfl rfl rfl (tk rfl) rfl (tk rfl) rfl rfl ⟨_,rfl,rfl⟩ rfl) rfl ?_;refine jH ?_
   exact ⟨(k+1,_),⟨⟨⟨h,by rw [List.length_append];simp only;omega⟩,hf⟩,by show l.length - (k+1)<l.length - k;omega⟩,jV,jW⟩
 ·have h:¬k<l.length:=by simpa using h0
  obtain rfl:k=l.length:=by omega
  rw [List.drop_length,splitL] at hf
  have hol:(out.map cAtom).length=out.length:=List.length_map ..
  refine jA ?_
  refine jE ?_;refine jA ?_
  refine AW.cond rfl (fun h2=>?_) (fun h2=>?_)
  ·have h2:((out.map cAtom).length:Int)>600:=of_decide_eq_true h2
   rw [decide_eq_true (by omega),cond_true] at hf
   refine jA ?_
   refine jR ?_
   rw [<- hf]
   rfl
  ·have h2:¬((out.map cAtom).length:Int)>600:=of_decide_eq_false h2
   rw [decide_eq_false (by omega),cond_false] at hf
   refine jA ?_
   refine jR ?_
   rw [<- hf]
   exact congrArg (fun x=>AV.tup [x,.i .i64 0]) (rowAll rfl)
theorem splitL_next {cs:List Cb} {c:Cb} {out:List Atom} (hc:c.sound=true) (hP:Parts cs out) (hl:∀a∈out,a.ids.length<=cs.length) (h0:(splitL cs.length c out []).2=0):Parts (cs++[c]) (splitL cs.length c out []).1/\∀a∈(splitL cs.length c out []).1,a.ids.length<=cs.length+1:=by
 constructor
 ·have e:splitF cs.length [c] out=((splitL cs.length c out []).1,0):=by
   rw [splitF,decide_eq_true h0,cond_true,splitF]
  have:=(splitF_ok [c] cs out (fun d hd=>by rw [List.mem_singleton.1 hd];exact hc) hP).2 (by rw [e])
  rw [e] at this
  exact this
 ·obtain ⟨_,g⟩:=splitL_ok (id:=cs.length) hc out [] fun a ha=>(hP.ok a ha).pile
  obtain ⟨_,g,_⟩:=g h0
  intro x hx
  rcases g x hx with hx | ⟨a,ha,h1,hx⟩
  ·cases hx
  ·have:=hl a ha
   rcases (partA_mem h1 (hP.ok a ha).pile hc hx).2.2 with ⟨e,_⟩ | ⟨e,_⟩ <;> rw [e]
   ·rw [List.length_append,List.length_singleton];omega
   ·omega
theorem d_Split (ps:List Cb):PDoes Tryz.prog 47 [.sl (ps.map cCb)] (atsR (atomsOf ps)):=by
 refine PDoes.of_bodyN Tryz.func47 rfl (by kernel_rfl) rfl rfl ?_
 have hol:(ps.map cCb).length=ps.length:=List.length_map ..
 rw [atomsOf]
 refine jA ?_
 refine AW.cond rfl (fun h2=>?_) (fun h2=>?_)
 ·have h2:((ps.map cCb).length:Int)>500:=of_decide_eq_true h2
  rw [decide_eq_true (by omega),cond_true]
  refine jA ?_
  refine jR ?_
  rfl
 have h2:¬((ps.map cCb).length:Int)>500:=of_decide_eq_false h2
 rw [decide_eq_false (by omega),cond_false]
 have hC:=d_ContainsFunc_Cb 84 (fun x=>!x.sound) ps (fun x _=>d_SplitFn x) _ (any_not ps)
 cases hs:ps.all Cb.sound
 ·rw [hs] at hC
  refine jA ?_
  refine RG.callS rfl rfl rfl rfl rfl hC rfl rfl ?_;refine jH ?_
  refine AW.condF rfl ?_;refine jA ?_
  refine jR ?_
  rfl
 rw [hs] at hC
 rw [cond_true]
 rw [List.all_eq_true] at hs
 have hm:ps.length<=9223372036854775807:=by omega
 refine jA ?_
 refine RG.callS rfl rfl rfl rfl rfl hC rfl rfl ?_;refine jH ?_
 refine AW.condT rfl ?_;refine jA ?_
 refine RG.callS rfl rfl rfl rfl rfl d_All rfl rfl ?_;refine jH ?_
 refine AW.freeze [19] [(4,.sl ([atom0].map cAtom)),(20,.sl (ps.map cCb)),(21,.i .i64 (ps.map cCb).length),(22,.i .i64 (0:Nat))] [] ⟨.fzA rfl rfl rfl,.is rfl rfl,.is rfl rfl,.is rfl rfl,trivial⟩ trivial rfl ?_
 refine AW.loopL (ι:=Nat × List Atom) (fun i=>[(4,.sl (i.2.map cAtom)),(20,.sl (ps.map cCb)),(21,.i .i64 (ps.map cCb).length),(22,.i .i64 (i.1:Nat))]) (fun i=>[]) (fun i=>(i.1<=ps.length/\Parts (ps.take i.1) i.2/\∀a∈i.2,a.ids.length<=i.1)/\splitF i.1 (ps.drop i.1) i.2=splitF 0 ps [atom0]) (fun i=>ps.length - i.1) (0,[atom0]) ⟨⟨Nat.zero_le _,parts0,fun a ha=>by rw [List.mem_singleton.1 ha];exact Nat.le_refl _⟩,rfl⟩ jW trivial fun i hi=>?_
 obtain ⟨k,out⟩:=i
 obtain ⟨⟨hk,hP,hL⟩,hf⟩:=hi
 simp only at hk hP hL hf
 refine jA ?_
 refine AW.cond rfl (fun h0=>?_) (fun h0=>?_)
 ·have h:k<ps.length:=by simpa using h0
  have hlt:(ps.take k).length=k:=by rw [List.length_take];omega
  rw [List.drop_eq_getElem_cons h,splitF] at hf
  have hkx:(ps.map cCb)[k]?=some (cCb ps[k]):=by rw [List.getElem?_map,List.getElem?_eq_getElem h];rfl
  have hc:=hs ps[k] (List.getElem_mem h)
  have htk:ps.take (k+1)=ps.take k++[ps[k]]:=by rw [List.take_add_one,List.getElem?_eq_getElem h];rfl
  have hN:=splitL_next (cs:=ps.take k) (c:=ps[k]) (out:=out) hc hP (by rw [hlt];exact hL)
  rw [<- htk,hlt] at hN
  have hS:=d_split out k ps[k] (fun a ha=>⟨by have:=hP.ok a ha;rw [hlt] at this;exact this,by have:=hL a ha;omega⟩) hc hP.len
  generalize ps[k]=c at hf hkx hc hN hS
  clear htk
  refine jA ?_
  refine RG.opS rfl (op_index rfl (tk rfl) rfl (tk rfl) rfl rfl hkx rfl) rfl ?_
  refine jH ?_
  refine RG.callMS rfl rfl rfl rfl rfl rfl hS rfl ?_;refine jH ?_
  refine AW.cond rfl (fun h3=>?_) (fun h3=>?_)
  ·have h3:¬(splitL k c out []).2=0:=by simpa using h3
   rw [decide_eq_false h3,cond_false] at hf
   refine jA ?_
   refine jR ?_
   rw [<- hf]
   rfl
  ·have h3:(splitL k c out []).2=0:=by simpa using h3
   rw [decide_eq_true h3,cond_true] at hf
   refine jA ?_
   exact ⟨(k+1,(splitL k c out []).1),⟨⟨⟨h,(hN h3).1,(hN h3).2⟩,hf⟩,by show ps.length - (k+1)<ps.length - k;omega⟩,jV,trivial⟩
 ·have h:¬k<ps.length:=by simpa using h0
  obtain rfl:k=ps.length:=by omega
  rw [List.drop_length,splitF] at hf
  refine jA ?_
  refine jE ?_;refine jA ?_
  refine RG.callMS rfl rfl rfl rfl rfl rfl (d_Clip_Atom out) rfl ?_;refine jH ?_
  refine jR ?_
  rw [<- hf]
  rfl
def cubeV (c:Cb):Value:=.agg #[.int .u64 c.value.hi.toNat,.int .u64 c.value.lo.toNat,.int .u64 c.care.hi.toNat,.int .u64 c.care.lo.toNat]
def cbEs (l:List Cb):Array MapEntry:=(l.zipIdx.map fun p=>⟨cubeV p.1,.bool true,p.2⟩).toArray
theorem cbEs_push (l:List Cb) (c:Cb):(cbEs l).push ⟨cubeV c,.bool true,l.length⟩=cbEs (l++[c]):=by
 simp [cbEs,List.zipIdx_append]
def mapO (l:List Cb):Body:=.obj (.map (cbEs l) l.length)
theorem cubeV_inj {a b:Cb} (h:cubeV a=cubeV b):a=b:=by
 simp only [cubeV,Value.agg.injEq,Array.mk.injEq,List.cons.injEq,Value.int.injEq,true_and,and_true,Int.natCast_inj,UInt64.toNat_inj] at h
 obtain ⟨h1,h2,h3,h4⟩:=h
 obtain ⟨⟨a1,a2⟩,⟨a3,a4⟩⟩:=a
 obtain ⟨⟨b1,b2⟩,⟨b3,b4⟩⟩:=b
 simp only at h1 h2 h3 h4
 subst h1 h2 h3 h4
 rfl
theorem mem_cbEs {l:List Cb} {e:MapEntry} (h:e∈(cbEs l).toList):∃x∈l,e.key=cubeV x/\e.val = .bool true:=by
 simp only [cbEs,List.mem_map] at h
 obtain ⟨p,hp,rfl⟩:=h
 exact ⟨p.1,(List.mem_zipIdx hp).2.2 ▸ List.getElem_mem _,rfl,rfl⟩
theorem cbEs_mem {l:List Cb} {x:Cb} (h:x∈l):∃e∈(cbEs l).toList,e.key=cubeV x:=by
 obtain ⟨i,hi,rfl⟩:=List.mem_iff_getElem.1 h
 exact ⟨⟨cubeV l[i],.bool true,i⟩,by
  simp only [cbEs,List.mem_map]
  exact ⟨(l[i],i),by rw [List.mem_iff_getElem?];exact ⟨i,by simp [List.getElem?_eq_getElem hi]⟩,rfl⟩,rfl⟩
theorem u64_wf (x:UInt64):(Lit.int .u64 (x.toNat:Int)).wf=true:=by
 have h:=x.toNat_lt
 have h1:IntKind.u64.min=0:=rfl
 have h2:IntKind.u64.max=18446744073709551615:=rfl
 simp only [Lit.wf,h1,h2,Bool.and_eq_true,decide_eq_true_eq]
 omega
theorem key_lits {P:Program} {k h u:TypeId} {f0 f1 g0 g1:Field} (h1:P.underlying k=some (.struct #[f0,f1])) (h2:P.underlying h=some (.struct #[g0,g1])) (h3:P.underlying u=some (.int .u64)) (c1:P.cellsOf k=4) (c2:P.cellsOf h=2) (c3:P.cellsOf u=1)
  (a0 : f0.type = h /\ f0.offset = 0 /\ f0.name ≠ "_") (a1 : f1.type = h /\ f1.offset = 2 /\ f1.name ≠ "_") (b0 : g0.type = u /\ g0.offset = 0 /\ g0.name ≠ "_") (b1 : g1.type = u /\ g1.offset = 1 /\ g1.name ≠ "_") (n : Nat) (c : Cb) :
  P.keyLits (n+3) k (cubeV c).cells.toList=some [.int .u64 c.value.hi.toNat,.int .u64 c.value.lo.toNat,.int .u64 c.care.hi.toNat,.int .u64 c.care.lo.toNat]:=by
 have key:∀m x y,P.keyLits (m+2) h [.int .u64 ((x:UInt64).toNat:Int),.int .u64 ((y:UInt64).toNat:Int)]=some [.int .u64 x.toNat,.int .u64 y.toNat]:=fun m x y=>by
  unfold Program.keyLits
  rw [h2]
  simp [c2,b0,b1,c3,Program.keyLits,h3,u64_wf]
 unfold Program.keyLits
 rw [h1]
 simp [c1,a0,a1,c2,cubeV,Value.cells,key]
theorem cube_formed {P:Program} {k:TypeId} {fs:Array Field} (h1:P.underlying k=some (.struct fs)) (c1:P.cellsOf k=4) (c:Cb):(cubeV c).formed P k=true:=by
 simp [cubeV,Value.formed,h1,c1]
theorem key_of {P:Program} {k:TypeId} {fs:Array Field} (h1:P.underlying k=some (.struct fs)) (hk:P.keyType k=true) {v:Value} (hf:v.formed P k=true) {ls:List Lit} (he:P.keyLits (P.types.size+1) k v.cells.toList=some ls):∃l,keyOf P k v=some l:=by
 unfold keyOf
 rw [h1]
 simp only [hk,hf,Bool.and_self,if_true,he,Option.map_some]
 exact ⟨_,rfl⟩
theorem key_row:(36:TypeId)<Tryz.prog.types.size:=of_decide_eq_true (by kernel_rfl)
theorem key_law:WideMaps.KeyLaw Tryz.prog 36:=deep_law_laid (by kernel_rfl) (m:=3) (by omega) key_row (by kernel_rfl) (by rw [Tryz.underlying36])
theorem cube_key (c:Cb):∃l,keyOf Tryz.prog 36 (cubeV c)=some l:=by
 have c1:Tryz.prog.cellsOf 36=4:=by kernel_rfl
 refine key_of Tryz.underlying36 (by kernel_rfl) (cube_formed Tryz.underlying36 c1 c) (ls:=[.int .u64 c.value.hi.toNat,.int .u64 c.value.lo.toNat,.int .u64 c.care.hi.toNat,.int .u64 c.care.lo.toNat]) ?_
 have hr:=key_row
 generalize hn:Tryz.prog.types.size=n at hr
 obtain ⟨m,rfl⟩:∃m,n=m+2:=⟨n - 2,by have:(2:Nat)<=n:=Nat.le_trans (by decide) (Nat.le_of_lt hr);omega⟩
 exact key_lits Tryz.underlying36 Tryz.underlying34 (u:=32) (by kernel_rfl) c1 (by kernel_rfl) (by kernel_rfl) ⟨rfl,rfl,by decide⟩ ⟨rfl,rfl,by decide⟩ ⟨rfl,rfl,by decide⟩ ⟨rfl,rfl,by decide⟩ m c
theorem rel_cube {W:World} {F:Nat->Prop} {μ:Mu} {σ:Sto} {c:Cb} {v:Value} (h:Rel W F μ σ (.agg (cCb c)) v):v=cubeV c:=by
 obtain ⟨vs,rfl,hl,_,hr⟩:=h.agg'
 match vs,hl with
 | [v0,v1,v2,v3],_ =>
  rw [(hr 0 _ _ rfl rfl).u',(hr 1 _ _ rfl rfl).u',(hr 2 _ _ rfl rfl).u',(hr 3 _ _ rfl rfl).u']
  rfl
section
variable {P : Program} {N : Nat} {o : Oper} {s : St}
theorem Rel.ref' {W:World} {F:Nat->Prop} {μ:Mu} {σ:Sto} {id ep:Nat} {k:RK} {v:Value} (h:Rel W F μ σ (.ref id ep k) v):ep<=(σ id).ep/\v.oneCell'=true/\∀bd,σ id=⟨ep,some bd⟩->∃b c,μ id=some (b,c)/\v=k.val b:=by
 cases h with
 | pure h=>cases h
 | ref _ _ _ _ he h1 h=>exact ⟨he,h1,h⟩
theorem op_makeMap {t id:Nat} (ho:o.op = .makeMap t none):OpLoc P N o s ⟨.ref id ((s.σ id).ep+1) .map,[(id,⟨(s.σ id).ep+1,some (mapO [])⟩)],[]⟩:=by
 intro s' h1 h2 h3 W F μ a hr K Q hK
 have hid:s'.σ id=s.σ id:=h3 (id,⟨(s.σ id).ep+1,some (mapO [])⟩) (by simp)
 have hrun:(execOp a.eval o).run P W = .ok (.value (.map (some W.heap.size))) (W.alloc (.map #[] 0)):=by
  simp only [execOp,ho,Instr.makeMap,newObj,Option.map_none,Sem.run_bind,Sem.run_pure,Result.andThen_ok,Sem.run,World.alloc]
 have hk:Kp (fun b=>(s'.σ id).body.isSome=true/\∃c,μ id=some (b,c)) W (W.alloc (.map #[] 0)):=(Kp.refl _ W).alloc _
 have hσ:up1 s'.σ id ⟨(s.σ id).ep+1,some (mapO [])⟩ id=⟨(s.σ id).ep+1,some (mapO [])⟩:=by rw [up1_eq,if_pos rfl]
 have hμ:upm μ id (some (W.heap.size,0)) id=some (W.heap.size,0):=by rw [upm_eq,if_pos rfl]
 obtain ⟨hs,hi⟩:=inv_turn hr.inv id (some (W.heap.size,0)) ((s.σ id).ep+1) (mapO []) hk (fun b c' e=>by
   have e':W.heap.size=b:=by simp only [Option.some.injEq,Prod.mk.injEq] at e;exact e.1
   subst e'
   exact ⟨by simp,.inl (Nat.le_refl _)⟩) (.inl (by rw [hid];omega)) (fun hs=>⟨W.heap.size,0,rfl,heap_alloc_new W _⟩)
 unfold Oper.wp
 rw [hrun]
 refine hK _ F _ _ (hr.put hs hi (.ref id _ .map _ ?_ rfl fun bd h=>⟨W.heap.size,0,hμ,rfl⟩)) hs
 show _<=(up1 s'.σ id ⟨(s.σ id).ep+1,some (mapO [])⟩ id).ep
 rw [hσ]
 exact Nat.le_refl _
end
theorem find_cube (W:World) (l:List Cb) (c:Cb):(c∉l/\(Instr.findKey 36 (cubeV c) (cbEs l).toList).run Tryz.prog W = .ok none W)\/(c∈l/\∃j,(Instr.findKey 36 (cubeV c) (cbEs l).toList).run Tryz.prog W = .ok (some (j,.bool true)) W):=by
 obtain ⟨lx,hx⟩:=cube_key c
 rcases key_law.find W hx (cbEs l).toList (fun e he=>by
  obtain ⟨x,_,hk,_⟩:=mem_cbEs he
  rw [hk]
  exact cube_key x) with ⟨h1,h2⟩ | ⟨j,e,h1,h2,h3⟩
 ·refine .inl ⟨fun hc=>?_,h1⟩
  obtain ⟨e,he,hk⟩:=cbEs_mem hc
  exact h2 e he hk
 ·obtain ⟨x,hx,hk,hv⟩:=mem_cbEs (List.mem_of_getElem? h2)
  rw [hv] at h1
  have:x=c:=cubeV_inj (hk.symm.trans h3)
  exact .inr ⟨this ▸ hx,j,h1⟩
theorem run_getMap {P:Program} {W:World} {r:Nat} {es:Array MapEntry} {clock:Nat} (hb:W.heap[r]?=some (.map es clock)):(getObj r).run P W = .ok (.map es clock) W:=MapKept.run_getObj_map hb
theorem map_under:Tryz.prog.underlying 168=some (.map 36 4):=by kernel_rfl
theorem bool_zero (W:World):(zeroValue 4).run Tryz.prog W = .ok (.bool false) W:=by kernel_rfl
theorem op_lookCb {N:Nat} {o:Oper} {s:St} {x k:Operand} {id ep:Nat} {l:List Cb} {c:Cb} {r:Bool} (ho:o.op = .lookup 168 x k false) (hx:s.ev x = .ref id ep .map) (hid:s.σ id=⟨ep,some (mapO l)⟩) (hk:s.ev k = .agg (cCb c)) (hr:decide (c∈l)=r) :
  OpLoc Tryz.prog N o s ⟨.b r,[],[id]⟩:=by
 subst hr
 refine oploc_val [id] _ fun s' W F μ a h1 h2 hr=>⟨.bool (decide (c∈l)),?_,.pure (.b _)⟩
 have ex:=hr.ev x
 have ek:=hr.ev k
 rw [h1 x (by rw [ho];simp [Op.operands]),hx] at ex
 rw [h1 k (by rw [ho];simp [Op.operands]),hk] at ek
 have hid':=(h2 id (by simp)).trans hid
 obtain ⟨b,c',hm,hv⟩:=(Rel.ref' ex).2.2 _ hid'
 obtain ⟨b',c'',hm',hh⟩:=hr.inv.body _ _ _ hid'
 obtain ⟨rfl,rfl⟩:b=b'/\c'=c'':=by rw [hm] at hm';simpa using hm'
 have hkv:=rel_cube ek
 obtain ⟨lx,hlx⟩:=cube_key c
 have hck:=fun em=>key_law.check W em hlx
 rcases find_cube W l c with ⟨h3,h4⟩ | ⟨h3,j,h4⟩
 ·rw [decide_eq_false h3]
  simp only [execOp,ho,Instr.lookup,Sem.run_bind,run_underlying map_under,Result.andThen_ok,hv,RK.val,run_getMap hh,Sem.run_pure,hkv,hck,h4,bool_zero]
  rfl
 ·rw [decide_eq_true h3]
  simp only [execOp,ho,Instr.lookup,Sem.run_bind,run_underlying map_under,Result.andThen_ok,hv,RK.val,run_getMap hh,Sem.run_pure,hkv,hck,h4]
  rfl
theorem op_putCb {N : Nat} {o : Oper} {s : St} {x k v : Operand} {id ep : Nat} {l : List Cb} {c : Cb} (ho : o.op = .mapUpdate 168 x k v) (hx : s.ev x = .ref id ep .map) (hid : s.σ id = ⟨ep, some (mapO l)⟩) (hk : s.ev k = .agg (cCb c)) (hv : s.ev v = .b true) (hc : c ∉ l) :
  OpLoc Tryz.prog N o s ⟨.tup [],[(id,⟨ep,some (mapO (l++[c]))⟩)],[]⟩:=by
 intro s' g1 g2 g3 W F μ a hr K Q hK
 have hid':s'.σ id=⟨ep,some (mapO l)⟩:=(g3 (id,⟨ep,some (mapO (l++[c]))⟩) (by simp)).trans hid
 have ex:=hr.ev x
 have ek:=hr.ev k
 have ev:=hr.ev v
 rw [g1 x (by rw [ho];simp [Op.operands]),hx] at ex
 rw [g1 k (by rw [ho];simp [Op.operands]),hk] at ek
 rw [g1 v (by rw [ho];simp [Op.operands]),hv] at ev
 obtain ⟨b,c',hm,hv⟩:=(Rel.ref' ex).2.2 _ hid'
 obtain ⟨b',c'',hm',hh⟩:=hr.inv.body _ _ _ hid'
 obtain ⟨rfl,rfl⟩:b=b'/\c'=c'':=by rw [hm] at hm';simpa using hm'
 have hkv:=rel_cube ek
 have hvv:=ev.b'
 obtain ⟨lx,hlx⟩:=cube_key c
 have hck:=fun em=>key_law.check W em hlx
 have hf:(Instr.findKey 36 (cubeV c) (cbEs l).toList).run Tryz.prog W = .ok none W:=by
  rcases find_cube W l c with ⟨h3,h4⟩ | ⟨h3,_⟩
  ·exact h4
  ·exact absurd h3 hc
 have hlt:b<W.heap.size:=(Array.getElem?_eq_some_iff.1 hh).1
 generalize hW:({ W with heap:=W.heap.setIfInBounds b (.map (cbEs (l++[c])) (l++[c]).length) }:World)=W'
 have hrun:(execOp a.eval o).run Tryz.prog W = .ok .skip W':=by
  simp only [execOp,ho,Instr.mapUpdate,Sem.run_bind,run_underlying map_under,Result.andThen_ok,hv,RK.val,run_getMap hh,Sem.run_pure,hkv,hvv,hck,hf,MapKept.run_setObj_map _ hh,cbEs_push]
  rw [<- hW,List.length_append,List.length_singleton]
 have hk:Kp (fun b=>(s'.σ id).body.isSome=true/\∃c,μ id=some (b,c)) W W':=by
  subst hW
  exact ⟨rfl,rfl,rfl,by simp,fun k hk hn=>by
   have:b≠k:=fun e=>hn ⟨by rw [hid'];rfl,c',e ▸ hm⟩
   simp only [Array.getElem?_setIfInBounds,if_neg this]⟩
 have hh':W'.heap[b]?=some (.map (cbEs (l++[c])) (l++[c]).length):=by
  subst hW
  simp only [Array.getElem?_setIfInBounds,if_true,if_pos hlt]
 have hsz:W'.heap.size=W.heap.size:=by subst hW;simp
 obtain ⟨hs, hi⟩ := inv_turn hr.inv id (μ id) ep (mapO (l ++ [c])) hk (fun b1 c1 e => by
   rw [hm] at e
   obtain ⟨rfl,rfl⟩:b=b1/\c'=c1:=by simpa using e
   exact ⟨by rw [hsz];exact hlt,.inr ⟨by rw [hid'];rfl,c',hm⟩⟩)
  (.inr ⟨by rw [hid'],mapO l,by rw [hid'],rfl,rfl⟩) (fun hs=>⟨b,c',hm,hh'⟩)
 unfold Oper.wp
 rw [hrun]
 exact hK _ F _ _ (hr.put hs hi (.pure (.tup [] [] rfl (by simp)))) hs
end Go.Proofs.YtdidjpohnopihaaGreat.Sm
end
