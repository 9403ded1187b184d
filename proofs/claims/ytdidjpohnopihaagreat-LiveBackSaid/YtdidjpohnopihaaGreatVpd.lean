/- Contracts of the program's functions over data, and the plain laws that they meet (part 4). No condition. -/
import Derived.Test.YtdidjpohnopihaaGreatVpc
import Derived.WalkKit
import Derived.WalkSpells
import Derived.WalkLawsBesides
import Derived.Lib.Hide
import Derived.Deep.RegionHeld3
import Derived.Maps.AppendAt
import Derived.KernelRfl
import Derived.Lib.AppendStr
import Derived.Orders
import Derived.LoopTactic
import Derived.Laws.CopyRow
import Derived.Laws.Cells
import Derived.OrdersIn
import Derived.Laws.Externs
import Derived.TacticsIn
import Derived.RangeFuncLeaves
import Derived.RangeFuncRecord
import Derived.Great.BuildSlice
import Derived.Laws.ResultCell
import Derived.Laws.StructEq
import Derived.Laws.MakeOwn
import Derived.Lib.AppendZerosOnto
import Derived.RangeFuncSeq
import Derived.RangeFuncIn
import Derived.Deep.Slices
import Derived.Deep.Fields
import Derived.ChangeSame
import Derived.ProofKit
import Derived.OpenShut
import Derived.SizedLaws
import Derived.Test.YtdidjpohnopihaaGreatProg
import Derived.Shelf.Spec.BitsCarry
import Derived.Laws.AppendOwn
import Derived.DeepKeys4
import Derived.MapKept
set_option linter.unusedVariables false
set_option linter.unusedSimpArgs false
set_option maxRecDepth 100000
set_option maxHeartbeats 4000000
section
namespace Go.Proofs.YtdidjpohnopihaaGreat.Sm
open Go.RowKit
theorem yp (t:List (List Rl)) (ports:List Pt):ae Tryz.prog 67 [.sl (t.map aP),.sl (ports.map cPt)] (.i .i64 (bX t ports)):=by
 refine jb Tryz.func67 ?_
 have hlen:(t.map aP).length=t.length:=qH ..
 refine jB ?_;refine wF ?_;refine wH rfl ?_;refine jB ?_
 refine AW.text ?_
 by_cases h1:(((t.map aP).length:Nat):Int)=0
 ·refine RG.runO af 0 [(14,.b true)] 400 rfl jD ?_
  refine jH ?_;refine zT ?_
  refine jR ?_
  rw [bX,if_pos (by omega)]
  rfl
 ·by_cases h2:(((t.map aP).length:Nat):Int)>3
  ·refine RG.runO af 0 [(14,.b false),(18,.b true)] 400 rfl jD ?_
   refine jH ?_;refine zT ?_
   refine jR ?_
   rw [bX,if_pos (by omega)]
   rfl
  ·refine RG.runO af 0 [(14,.b false),(18,.b false)] 400 rfl jD ?_
   refine jH ?_;refine zF ?_
   refine AW.lens 20 rfl fun hm=>?_
   rw [hlen] at hm
   refine AW.loopL (ι:=Nat × Int) (fun i=>[(0,.sl (t.map aP)),(1,.sl (ports.map cPt)),(4,.i .i64 0),(5,.i .i64 i.2),(20,.sl (t.map aP)),(21,.i .i64 (t.map aP).length),(22,.i .i64 (i.1:Nat))]) (fun _=>[]) (fun i=>i.1<=t.length/\fo (t.drop i.1) i.2=fo t 0) (fun i=>t.length - i.1) (0,0) ⟨qR _,rfl⟩ jW trivial fun i hi=>?_
   obtain ⟨k,n⟩:=i
   obtain ⟨hk,hf⟩:=hi
   simp only at hk hf
   refine jA ?_
   refine AW.cond rfl (fun h=>?_) (fun h=>?_)
   ·have h:k<t.length:=by simpa using h
    rw [qV h,fo] at hf
    refine jA ?_
    refine RG.opS rfl (ai rfl (tk rfl) rfl (tk rfl) rfl rfl (show (t.map aP)[k]?=some (aP t[k]) by rw [qE,qA (by assumption)];rfl) rfl) rfl ?_
    refine jH ?_
    exact ⟨(k+1,IntKind.i64.wrap (n+((t[k].map cRl).length:Nat))),⟨⟨h,by rw [qH];exact hf⟩,by show t.length - (k+1)<t.length - k;omega⟩,jV,trivial⟩
   have h:¬k<t.length:=by simpa using h
   obtain rfl:k=t.length:=by omega
   rw [vI] at hf
   refine zE ?_
   refine AW.cond rfl (fun hc=>?_) (fun hc=>?_)
   ·have hc:n>96:=of_decide_eq_true hc
    refine zR ?_
    rw [bX,if_neg (by omega),<- hf,fo,if_pos hc]
    rfl
   have hc:¬n>96:=of_decide_eq_false hc
   have e1:bX t ports=if dr t.length ports 0 t then 0 else 2:=by rw [bX,if_neg (by omega),<- hf,fo,if_neg hc]
   refine jA ?_
   refine AW.loopL (ι:=Nat) (fun k=>[(0,.sl (t.map aP)),(1,.sl (ports.map cPt)),(33,.sl (t.map aP)),(34,.i .i64 (t.map aP).length),(35,.i .i64 (k:Nat))]) (fun _=>[]) (fun k=>k<=t.length/\dr t.length ports k (t.drop k)=dr t.length ports 0 t) (fun k=>t.length - k) 0 ⟨qR _,rfl⟩ jW trivial fun k hk=>?_
   obtain ⟨hk,hg⟩:=hk
   refine jA ?_
   refine AW.cond rfl (fun h=>?_) (fun h=>?_)
   ·have h:k<t.length:=by simpa using h
    rw [qV h,dr] at hg
    refine jA ?_
    refine RG.opS rfl (ai rfl (tk rfl) rfl (tk rfl) rfl rfl (show (t.map aP)[k]?=some (aP t[k]) by rw [qE,qA (by assumption)];rfl) rfl) rfl ?_
    refine jH ?_
    generalize hl:t[k]=l at hg
    refine AW.lens 40 rfl fun hml=>?_
    rw [qH] at hml
    refine AW.loopL (ι:=Nat) (fun j=>[(0,.sl (t.map aP)),(1,.sl (ports.map cPt)),(8,.i .i64 (k:Nat)),(33,.sl (t.map aP)),(34,.i .i64 (t.map aP).length),(35,.i .i64 (k:Nat)),(40,.sl (l.map cRl)),(41,.i .i64 (l.map cRl).length),(42,.i .i64 (j:Nat))]) (fun _=>[]) (fun j=>j<=l.length/\(bif eM k t.length ports (l.drop j) then dr t.length ports (k+1) (t.drop (k+1)) else false)=dr t.length ports 0 t) (fun j=>l.length - j) 0 ⟨qR _,hg⟩ jW trivial fun j hj=>?_
    clear hg
    obtain ⟨hj,hg⟩:=hj
    refine jA ?_
    refine AW.cond rfl (fun h'=>?_) (fun h'=>?_)
    ·have h':j<l.length:=by simpa using h'
     rw [qV h',eM] at hg
     refine jA ?_
     refine RG.opS rfl (ai rfl (tk rfl) rfl (tk rfl) rfl rfl (show (l.map cRl)[j]?=some (cRl l[j]) by rw [qE,qA (by assumption)];rfl) rfl) rfl ?_
     refine jH ?_
     cases hq:l[j].sound k ports
     ·refine RG.callS rfl rfl rfl rfl rfl (qy l[j] k ports _ hq) rfl rfl ?_;refine jH ?_
      refine zT ?_
      refine jR ?_
      rw [hq] at hg
      rw [e1,<- hg]
      rfl
     ·refine RG.callS rfl rfl rfl rfl rfl (qy l[j] k ports _ hq) rfl rfl ?_;refine jH ?_
      rw [hq,uM] at hg
      refine AW.cond rfl (fun hr=>?_) (fun hr=>?_)
      ·have hr:l[j].act.table>=(((t.map aP).length:Nat):Int):=of_decide_eq_true hr
       rw [qC (by omega)] at hg
       refine zR ?_
       rw [e1,<- hg]
       rfl
      ·have hr:¬l[j].act.table>=(((t.map aP).length:Nat):Int):=of_decide_eq_false hr
       rw [qF (by omega)] at hg
       refine jA ?_
       exact ⟨j+1,⟨⟨h',hg⟩,by omega⟩,jV,trivial⟩
    ·have h':¬j<l.length:=by simpa using h'
     obtain rfl:j=l.length:=by omega
     rw [vI,eM] at hg
     refine zE ?_
     exact ⟨k+1,⟨⟨h,hg⟩,by omega⟩,jV,trivial⟩
   ·have h:¬k<t.length:=by simpa using h
    obtain rfl:k=t.length:=by omega
    rw [vI] at hg
    refine zE ?_
    refine jR ?_
    rw [e1,<- hg]
    rfl
theorem eR {α:Type} {l:List α} {n:Nat} {x d:α} (h:l[n]?=some x):l.getD n d=x:=by rw [qM,h];rfl
theorem wh (t:List (List Pt)) (n a:Nat) (r:List Pt) (p:Pt) (hr:t[n]?=some r) (hp:r[a]?=some p) (q:Bool) (hq:cW t n a p=q):ae Tryz.prog 108 [.agg (gL ⟨t⟩),.i .i64 n,.i .i64 a] (.b q):=by
 subst hq
 refine jb Tryz.func108 ?_
 have hlen:(t.map aL).length=t.length:=qH ..
 refine jA ?_
 refine RG.opS rfl (ai rfl (tk rfl) rfl (tk rfl) rfl rfl (show (t.map aL)[n]?=some (aL r) by rw [qE,hr];rfl) rfl) rfl ?_
 refine wH rfl ?_
 refine RG.opS rfl (ai rfl (tk rfl) rfl (tk rfl) rfl rfl (show (r.map cPt)[a]?=some (cPt p) by rw [qE,hp];rfl) rfl) rfl ?_
 refine jH ?_
 refine AW.cond rfl (fun h0=>?_) (fun h0=>?_)
 ·have h0:p.kind=0:=of_decide_eq_true h0
  refine jA ?_
  refine RG.opS rfl (ee rfl af (by kernel_rfl) (by kernel_rfl) rfl rfl (oo p Pt.zero) rfl) rfl ?_
  refine zH ?_
  exact congrArg AV.b (by rw [cW,if_pos h0])
 have h0:¬p.kind=0:=of_decide_eq_false h0
 refine jA ?_
 refine AW.cond rfl (fun h1=>?_) (fun h1=>?_)
 ·have h1:p.kind=1:=of_decide_eq_true h1
  refine zB ?_
  refine wH rfl ?_
  by_cases g1:p=⟨1,p.tenant,0,0,0⟩
  ·refine RG.opS rfl (ee rfl af (by kernel_rfl) (by kernel_rfl) rfl rfl (oo p ⟨1,p.tenant,0,0,0⟩) (qF g1)) rfl ?_
   by_cases q1:p.tenant>=0
   ·refine RG.runO af 0 [(34,.b true)] 400 rfl jD ?_
    refine jB ?_
    refine jR ?_
    exact congrArg AV.b (by rw [cW,if_neg h0,if_pos h1,qF g1,uM,qF (show 0<=p.tenant from q1)];rfl)
   ·refine RG.runO af 0 [(34,.b false)] 400 rfl jD ?_
    refine jB ?_
    refine jR ?_
    exact congrArg AV.b (by rw [cW,if_neg h0,if_pos h1,qC (show ¬0<=p.tenant from q1),uP,Bool.and_false])
  ·refine RG.opS rfl (ee rfl af (by kernel_rfl) (by kernel_rfl) rfl rfl (oo p ⟨1,p.tenant,0,0,0⟩) (qC g1)) rfl ?_
   refine zH ?_
   exact congrArg AV.b (by rw [cW,if_neg h0,if_pos h1,qC g1];rfl)
 have h1:¬p.kind=1:=of_decide_eq_false h1
 refine jA ?_
 refine AW.cond rfl (fun h2=>?_) (fun h2=>?_)
 ·have h2:p.kind=2:=of_decide_eq_true h2
  have e0:cW t n a p=fL t n a p:=by rw [cW,if_neg h0,if_neg h1,if_pos h2]
  refine zB ?_
  by_cases g1:p.tenant=0
  ·by_cases g2:p.cost<1
   ·refine RG.runO af 0 [(45,.b false),(49,.b true)] 400 rfl jD ?_
    refine jH ?_;refine zT ?_
    refine jR ?_
    rw [e0]
    exact congrArg AV.b (by rw [hlen] at *;simp [fL];omega)
   ·by_cases g3:p.cost>1000
    ·refine RG.runO af 0 [(45,.b false),(49,.b false),(54,.b true)] 400 rfl jD ?_
     refine jH ?_;refine zT ?_
     refine jR ?_
     rw [e0]
     exact congrArg AV.b (by rw [hlen] at *;simp [fL];omega)
    ·by_cases g4:p.peer<0
     ·refine RG.runO af 0 [(45,.b false),(49,.b false),(54,.b false),(59,.b true)] 400 rfl jD ?_
      refine jH ?_;refine zT ?_
      refine jR ?_
      rw [e0]
      exact congrArg AV.b (by rw [hlen] at *;simp [fL];omega)
     ·by_cases g5:p.peer>=(((t.map aL).length:Nat):Int)
      ·refine RG.runO af 0 [(45,.b false),(49,.b false),(54,.b false),(59,.b false),(67,.b true)] 400 rfl jD ?_
       refine jH ?_;refine zT ?_
       refine jR ?_
       rw [e0]
       exact congrArg AV.b (by rw [hlen] at *;simp [fL];omega)
      ·by_cases g6:p.peer=(n:Int)
       ·refine RG.runO af 0 [(45,.b false),(49,.b false),(54,.b false),(59,.b false),(67,.b false),(73,.b true)] 400 rfl jD ?_
        refine jH ?_;refine zT ?_
        refine jR ?_
        rw [e0]
        exact congrArg AV.b (by rw [hlen] at *;simp [fL];omega)
       ·refine RG.runO af 0 [(45,.b false),(49,.b false),(54,.b false),(59,.b false),(67,.b false),(73,.b false)] 400 rfl jD ?_
        refine wH rfl ?_;refine jB ?_;refine AW.condF rfl ?_;refine jB ?_
        obtain ⟨m,hm⟩:=Int.eq_ofNat_of_zero_le (show 0<=p.peer by omega)
        have hml:m<t.length:=by omega
        refine AW.text ?_
        refine RG.runO af 0 [(78,.i .i64 (m:Nat))] 400 rfl jD ?_
        refine RG.opS rfl (ai rfl (tk rfl) rfl (tk rfl) rfl rfl (show (t.map aL)[m]?=some (aL t[m]) by rw [qE,qA (by assumption)];rfl) rfl) rfl ?_
        refine wH rfl ?_;refine jB ?_
        have hl2:(t[m].map cPt).length=t[m].length:=qH ..
        have e1:t.getD p.peer.toNat []=t[m]:=by rw [hm,vQ];exact eR (qA hml)
        have e2:cW t n a p=(decide (0<=p.at_) && (decide (p.at_<t[m].length) && decide (t[m].getD p.at_.toNat Pt.zero=⟨2,0,n,a,p.cost⟩))):=by
         rw [e0,fL,e1]
         rw [hlen] at *
         rw [qF (by omega),qF (by omega),qF (by omega),qF (by omega),qF (by omega),qF (show p.peer≠n by omega)]
         simp only [uM]
        refine AW.draws aN ?_
        by_cases q1:p.at_>=0
        ·obtain ⟨b,hb⟩:=Int.eq_ofNat_of_zero_le q1
         by_cases q2:p.at_<(((t[m].map cPt).length:Nat):Int)
         ·have hbl:b<t[m].length:=by omega
          refine RG.runO af 0 [(83,.b true),(89,.b true),(94,.i .i64 (b:Nat))] 400 rfl jD ?_
          refine RG.opS rfl (ai rfl (tk rfl) rfl (tk rfl) rfl rfl (show (t[m].map cPt)[b]?=some (cPt t[m][b]) by simp [*]) rfl) rfl ?_
          refine wH rfl ?_
          refine RG.opS rfl (ee rfl af (by kernel_rfl) (by kernel_rfl) rfl rfl (oo t[m][b] ⟨2,0,n,a,p.cost⟩) rfl) rfl ?_
          refine zH ?_
          exact congrArg AV.b (by rw [e2,qF (show 0<=p.at_ from q1),qF (show p.at_<t[m].length by omega),hb,vQ,eR (qA hbl)];rfl)
         ·refine RG.runO af 0 [(83,.b true),(89,.b false)] 400 rfl jD ?_
          refine zH ?_
          exact congrArg AV.b (by rw [e2,qC (show ¬p.at_<t[m].length by omega),uP,Bool.and_false])
        ·refine RG.runO af 0 [(83,.b false)] 400 rfl jD ?_
         refine zH ?_
         exact congrArg AV.b (by rw [e2,qC (show ¬0<=p.at_ by omega),uP])
  ·refine RG.runO af 0 [(45,.b true)] 400 rfl jD ?_
   refine jH ?_;refine zT ?_
   refine jR ?_
   rw [e0]
   exact congrArg AV.b (by rw [hlen] at *;simp [fL];omega)
 have h2:¬p.kind=2:=of_decide_eq_false h2
 refine zR ?_
 exact congrArg AV.b (by simp [cW, *])
theorem mN (t:List (List Pt)):ae Tryz.prog 64 [.agg (gL ⟨t⟩)] (.i .i64 (aX t)):=by
 refine jb Tryz.func64 ?_
 have hlen:(t.map aL).length=t.length:=qH ..
 refine jB ?_;refine wF ?_;refine wH rfl ?_;refine jB ?_
 refine AW.text ?_
 by_cases h1:(((t.map aL).length:Nat):Int)=0
 ·refine RG.runO af 0 [(11,.b true)] 400 rfl jD ?_
  refine jH ?_;refine zT ?_
  refine jR ?_
  rw [aX,if_pos (by omega)]
  rfl
 ·by_cases h2:(((t.map aL).length:Nat):Int)>6
  ·refine RG.runO af 0 [(11,.b false),(16,.b true)] 400 rfl jD ?_
   refine jH ?_;refine zT ?_
   refine jR ?_
   rw [aX,if_pos (by omega)]
   rfl
  ·refine RG.runO af 0 [(11,.b false),(16,.b false)] 400 rfl jD ?_
   refine jH ?_;refine zF ?_
   have e1:aX t=if eO t then (if fM t 0 t then 0 else 2) else 4:=by rw [aX,if_neg (by omega)]
   refine AW.loopL (ι:=Nat) (fun k=>[(1,.own 1 0 0),(19,.sl (t.map aL)),(20,.i .i64 (t.map aL).length),(21,.i .i64 (k:Nat))]) (fun _=>[(1,⟨0,some (.box 24 (gL ⟨t⟩))⟩)]) (fun k=>k<=t.length/\eO (t.drop k)=eO t) (fun k=>t.length - k) 0 ⟨qR _,rfl⟩ jW jW fun k hk=>?_
   obtain ⟨hk,hg⟩:=hk
   refine jA ?_
   refine AW.cond rfl (fun h=>?_) (fun h=>?_)
   ·have h:k<t.length:=by simpa using h
    have hm:t.length<=6:=by omega
    rw [qV h,eO] at hg
    refine jA ?_
    refine RG.opS rfl (ai rfl (tk rfl) rfl (tk rfl) rfl rfl (show (t.map aL)[k]?=some (aL t[k]) by rw [qE,qA (by assumption)];rfl) rfl) rfl ?_
    refine jH ?_
    refine AW.cond rfl (fun h'=>?_) (fun h'=>?_)
    ·have h':(((t[k].map cPt).length:Nat):Int)>6:=of_decide_eq_true h'
     rw [qH] at h'
     rw [qF (by omega),cond_true] at hg
     refine zR ?_
     rw [e1,<- hg]
     rfl
    ·have h':¬(((t[k].map cPt).length:Nat):Int)>6:=of_decide_eq_false h'
     rw [qH] at h'
     rw [qC (by omega),cond_false] at hg
     refine jA ?_
     have hm:t.length<=9223372036854775807:=by omega
     exact ⟨k+1,⟨⟨h,hg⟩,by omega⟩,jV,jW⟩
   have h:¬k<t.length:=by simpa using h
   obtain rfl:k=t.length:=by omega
   rw [vI,eO] at hg
   rw [<- hg,if_pos rfl] at e1
   refine zE ?_
   refine AW.loopL (ι:=Nat) (fun k=>[(1,.own 1 0 0),(30,.sl (t.map aL)),(31,.i .i64 (t.map aL).length),(32,.i .i64 (k:Nat))]) (fun _=>[(1,⟨0,some (.box 24 (gL ⟨t⟩))⟩)]) (fun k=>k<=t.length/\fM t k (t.drop k)=fM t 0 t) (fun k=>t.length - k) 0 ⟨qR _,rfl⟩ jW jW fun k hk=>?_
   clear hg
   obtain ⟨hk,hg⟩:=hk
   refine jA ?_
   refine AW.cond rfl (fun h=>?_) (fun h=>?_)
   ·have h:k<t.length:=by simpa using h
    have hm:t.length<=9223372036854775807:=by omega
    rw [qV h,fM] at hg
    refine jA ?_
    refine RG.opS rfl (ai rfl (tk rfl) rfl (tk rfl) rfl rfl (show (t.map aL)[k]?=some (aL t[k]) by rw [qE,qA (by assumption)];rfl) rfl) rfl ?_
    refine jH ?_
    have hr:t[k]?=some t[k]:=qA h
    generalize t[k]=r at hg hr
    refine AW.lens 37 rfl fun hml=>?_
    rw [qH] at hml
    refine AW.loopL (ι:=Nat) (fun j=>[(1,.own 1 0 0),(5,.i .i64 (k:Nat)),(30,.sl (t.map aL)),(31,.i .i64 (t.map aL).length),(32,.i .i64 (k:Nat)),(37,.sl (r.map cPt)),(38,.i .i64 (r.map cPt).length),(39,.i .i64 (j:Nat))]) (fun _=>[(1,⟨0,some (.box 24 (gL ⟨t⟩))⟩)]) (fun j=>j<=r.length/\(bif ku t k j (r.drop j) then fM t (k+1) (t.drop (k+1)) else false)=fM t 0 t) (fun j=>r.length - j) 0 ⟨qR _,hg⟩ jW jW fun j hj=>?_
    clear hg
    obtain ⟨hj,hg⟩:=hj
    refine jA ?_
    refine AW.cond rfl (fun h'=>?_) (fun h'=>?_)
    ·have h':j<r.length:=by simpa using h'
     rw [qV h',ku] at hg
     refine jA ?_
     cases hq:cW t k j r[j]
     ·refine RG.callS rfl rfl rfl rfl rfl (wh t k j r r[j] hr (qA h') _ hq) rfl rfl ?_;refine jH ?_
      rw [hq] at hg
      refine zT ?_
      refine jR ?_
      rw [e1,<- hg]
      rfl
     ·refine RG.callS rfl rfl rfl rfl rfl (wh t k j r r[j] hr (qA h') _ hq) rfl rfl ?_;refine jH ?_
      rw [hq] at hg
      refine zF ?_
      exact ⟨j+1,⟨⟨h',hg⟩,by omega⟩,jV,jW⟩
    ·have h':¬j<r.length:=by simpa using h'
     obtain rfl:j=r.length:=by omega
     rw [vI,ku] at hg
     refine zE ?_
     exact ⟨k+1,⟨⟨h,hg⟩,by omega⟩,jV,jW⟩
   ·have h:¬k<t.length:=by simpa using h
    obtain rfl:k=t.length:=by omega
    rw [vI] at hg
    refine zE ?_
    refine jR ?_
    rw [e1,<- hg]
    rfl
theorem gF {α β:Type} {f:Nat->α->List β} (n:Nat) (l:List α) (out:List β):out.length<=(bF f n l out).length:=by
 rw [iQ,qK];omega
theorem oR {α β:Type} {f:Nat->α->List β} {m:Nat}:∀(n:Nat) (l:List α) (out:List β),(∀x∈l,∀n,(f n x).length<=m)->(bF f n l out).length<=out.length+m*l.length
 | n,[],out,_=>by simp [bF]
 | n,x::l,out,hf=>by
  have:=oR (n+1) l (out++f n x) fun y hy=>hf y (qZ _ hy)
  have h2:=hf x vD n
  rw [qK] at this
  rw [bF,qS,Nat.mul_add,Nat.mul_one]
  omega
theorem f9 {t:List (List Pt)} (h:aX t=0):(aG t).length<=36:=by
 obtain ⟨_,h2,h3,_⟩:=cC h
 have:=oR (f:=eN) (m:=6) 0 t [] fun r hr n=>by
  have h4:=eY (f:=jY n) (m:=1) (fun a p=>by rw [jY];cases decide (p.kind=1) <;> simp) 0 r []
  have h5:=h3 r hr
  rw [eN]
  simp at h4
  omega
 rw [aG]
 simp at this
 omega
theorem i5 (t:List (List Pt)) (ht:aX t=0):ae Tryz.prog 71 [.agg (gL ⟨t⟩)] (.sl ((aG t).map cSp)):=by
 refine jb Tryz.func71 ?_
 have hlen:(t.map aL).length=t.length:=qH ..
 have hE:=f9 ht
 have hm:t.length<=9223372036854775807:=by have:=(cC ht).2.1;omega
 refine jB ?_;refine wF ?_;refine wH rfl ?_;refine jB ?_
 refine AW.text ?_
 refine RG.opS rfl (cv 3 40 2 rfl) rfl ?_
 refine jH ?_
 refine AW.loopL (ι:=Nat × List Sp) (fun i=>[(1,.own 1 0 0),(3,.row 3 0 0 (i.2.map cSp).length),(9,.sl (t.map aL)),(10,.i .i64 (t.map aL).length),(11,.i .i64 (i.1:Nat))]) (fun i=>[(1,⟨0,some (.box 24 (gL ⟨t⟩))⟩),(3,⟨0,some (.row 40 2 (i.2.map cSp))⟩)]) (fun i=>i.1<=t.length/\bF eN i.1 (t.drop i.1) i.2=aG t) (fun i=>t.length - i.1) (0,[]) ⟨qR _,rfl⟩ jW jW fun i hi=>?_
 obtain ⟨k,out⟩:=i
 obtain ⟨hk,hf⟩:=hi
 simp only at hk hf
 refine jA ?_
 refine AW.cond rfl (fun h=>?_) (fun h=>?_)
 ·have h:k<t.length:=by simpa using h
  rw [qV h,bF] at hf
  refine jA ?_
  refine RG.opS rfl (ai rfl (tk rfl) rfl (tk rfl) rfl rfl (show (t.map aL)[k]?=some (aL t[k]) by rw [qE,qA (by assumption)];rfl) rfl) rfl ?_
  refine jH ?_
  generalize t[k]=r at hf
  refine AW.lens 16 rfl fun hml=>?_
  rw [qH] at hml
  rw [eN,<- iQ] at hf
  refine AW.loopL (ι:=Nat × List Sp) (fun i=>[(1,.own 1 0 0),(3,.row 3 0 0 (i.2.map cSp).length),(4,.i .i64 (k:Nat)),(9,.sl (t.map aL)),(10,.i .i64 (t.map aL).length),(11,.i .i64 (k:Nat)),(16,.sl (r.map cPt)),(17,.i .i64 (r.map cPt).length),(18,.i .i64 (i.1:Nat))]) (fun i=>[(1,⟨0,some (.box 24 (gL ⟨t⟩))⟩),(3,⟨0,some (.row 40 2 (i.2.map cSp))⟩)]) (fun i=>i.1<=r.length/\bF eN (k+1) (t.drop (k+1)) (bF (jY k) i.1 (r.drop i.1) i.2)=aG t) (fun i=>r.length - i.1) (0,out) ⟨qR _,hf⟩ jW jW fun i hi=>?_
  clear hf
  obtain ⟨j,out⟩:=i
  obtain ⟨hj,hf⟩:=hi
  simp only at hj hf
  refine jA ?_
  refine AW.cond rfl (fun h'=>?_) (fun h'=>?_)
  ·have h':j<r.length:=by simpa using h'
   have hol:out.length<=36:=by
    have h1:=gF (f:=eN) (k+1) (t.drop (k+1)) (bF (jY k) j (r.drop j) out)
    have h2:=gF (f:=jY k) j (r.drop j) out
    rw [hf] at h1
    omega
   rw [qV h',bF,jY] at hf
   refine jA ?_
   refine RG.opS rfl (ai rfl (tk rfl) rfl (tk rfl) rfl rfl (show (r.map cPt)[j]?=some (cPt r[j]) by rw [qE,qA (by assumption)];rfl) rfl) rfl ?_
   refine jH ?_
   refine AW.cond rfl (fun hq=>?_) (fun hq=>?_)
   ·have hq:r[j].kind=1:=of_decide_eq_true hq
    rw [qF hq,cond_true] at hf
    refine zB ?_
    refine wH rfl ?_
    refine RG.opS rfl (co cSp out ⟨k,j⟩ (by omega) rfl rfl rfl rfl (tk rfl) rfl (tk rfl) rfl rfl ⟨_,rfl,rfl⟩ rfl rfl) rfl ?_;refine jH ?_
    exact ⟨(j+1,_),⟨⟨h',hf⟩,by show r.length - (j+1)<r.length - j;omega⟩,jV,jW⟩
   ·have hq:¬r[j].kind=1:=of_decide_eq_false hq
    rw [qC hq,cond_false,vZ] at hf
    refine jA ?_
    exact ⟨(j+1,_),⟨⟨h',hf⟩,by show r.length - (j+1)<r.length - j;omega⟩,jV,jW⟩
  ·have h':¬j<r.length:=by simpa using h'
   obtain rfl:j=r.length:=by omega
   rw [vI (l:=r),bF] at hf
   refine zE ?_
   exact ⟨(k+1,out),⟨⟨h,hf⟩,by show t.length - (k+1)<t.length - k;omega⟩,jV,jW⟩
 ·have h:¬k<t.length:=by simpa using h
  obtain rfl:k=t.length:=by omega
  rw [vI,bF] at hf
  refine zE ?_
  refine jR ?_
  exact bq (congrArg (List.map cSp) hf)
theorem bT (p:Pol) (n:Int) (q:Bool) (hq:bu p n=q):ae Tryz.prog 109 [.agg (kR p),.i .i64 n] (.b q):=by
 subst hq
 refine jb Tryz.func109 ?_
 refine jB ?_;refine wF ?_;refine wH rfl ?_;refine jB ?_
 refine AW.text ?_
 by_cases h1:n>=0
 ·refine RG.runO af 0 [(6,.b true)] 400 rfl jD ?_
  refine zH ?_
  exact congrArg AV.b (by rw [bu,qF (show 0<=n from h1),uM])
 ·refine RG.runO af 0 [(6,.b false)] 400 rfl jD ?_
  refine zH ?_
  exact congrArg AV.b (by rw [bu,qC (show ¬0<=n from h1),uP])
theorem kQ {t:List (List Pt)} {n a:Nat} {r:List Pt} {p:Pt} (hr:t[n]?=some r) (hp:r[a]?=some p):bt t ⟨n,a⟩=p:=by
 simp only [bt,vQ]
 rw [eR hr]
 exact eR hp
theorem vv (c:Cf) (ht:aX c.topo.ports=0) (q:Bool) (hq:dl c=q):ae Tryz.prog 65 [.agg (cCf c)] (.b q):=by
 subst hq
 refine jb Tryz.func65 ?_
 have hl1:(c.pol.peers.map cPr).length=c.pol.peers.length:=qH ..
 have hl2:(c.pol.ways.map cWy).length=c.pol.ways.length:=qH ..
 refine jB ?_;refine wF ?_;refine wH rfl ?_;refine jB ?_;refine wF ?_;refine wH rfl ?_;refine jB ?_
 refine AW.text ?_
 by_cases h1:c.pol.tenants<1
 ·refine RG.runO af 0 [(10,.b true)] 400 rfl jD ?_
  refine jH ?_;refine zT ?_
  refine jR ?_
  exact congrArg AV.b (by simp [dl];omega)
 ·by_cases h2:c.pol.tenants>4
  ·refine RG.runO af 0 [(10,.b false),(14,.b true)] 400 rfl jD ?_
   refine jH ?_;refine zT ?_
   refine jR ?_
   exact congrArg AV.b (by simp [dl];omega)
  ·by_cases h3:(((c.pol.peers.map cPr).length:Nat):Int)>16
   ·refine RG.runO af 0 [(10,.b false),(14,.b false),(20,.b true)] 400 rfl jD ?_
    refine jH ?_;refine zT ?_
    refine jR ?_
    exact congrArg AV.b (by simp [dl];omega)
   ·by_cases h4:(((c.pol.ways.map cWy).length:Nat):Int)>4
    ·refine RG.runO af 0 [(10,.b false),(14,.b false),(20,.b false),(26,.b true)] 400 rfl jD ?_
     refine jH ?_;refine zT ?_
     refine jR ?_
     exact congrArg AV.b (by simp [dl];omega)
    ·refine RG.runO af 0 [(10,.b false),(14,.b false),(20,.b false),(26,.b false)] 400 rfl jD ?_
     have e1:dl c=f8 c (aG c.topo.ports):=by
      rw [dl,qF (by omega),qF (by omega),qF (by omega),qF (by omega)]
      rfl
     rw [e1]
     refine jH ?_;refine zF ?_
     refine jm (i5 c.topo.ports ht) ?_;refine jH ?_
     have hE:=f9 ht
     have hmem:∀s∈aG c.topo.ports,∃(n:Nat) (r:List Pt) (a:Nat) (p:Pt),c.topo.ports[n]?=some r/\r[a]?=some p/\p.kind=1/\s=⟨n,a⟩:=fun s hs=>dY.1 hs
     generalize aG c.topo.ports=es at hE hmem
     refine AW.loopL (ι:=Nat) (fun k=>[(1,.own 1 0 0),(3,.own 3 0 0),(30,.sl (es.map cSp)),(31,.i .i64 (es.map cSp).length),(32,.i .i64 (k:Nat))]) (fun _=>[(1,⟨0,some (.box 31 (cCf c))⟩),(3,⟨0,some (.box 28 (kR c.pol))⟩)]) (fun k=>k<=es.length/\f8 c (es.drop k)=f8 c es) (fun k=>es.length - k) 0 ⟨qR _,rfl⟩ jW jW fun k hk=>?_
     obtain ⟨hk,hg⟩:=hk
     refine jA ?_
     refine AW.cond rfl (fun h=>?_) (fun h=>?_)
     ·have h:k<es.length:=by simpa using h
      have hm:es.length<=9223372036854775807:=by omega
      obtain ⟨n,r,a,p,hr,hp,hkd,he⟩:=hmem _ (vS h)
      rw [qV h,f8,he,kQ hr hp] at hg
      refine jA ?_
      refine RG.opS rfl (ai rfl (tk rfl) rfl (tk rfl) rfl rfl (show (es.map cSp)[k]?=some (cSp ⟨n,a⟩) by rw [qE,qA h,he];rfl) rfl) rfl ?_
      refine jH ?_
      refine RG.opS rfl (ai rfl (tk rfl) rfl (tk rfl) rfl rfl (show (c.topo.ports.map aL)[n]?=some (aL r) by rw [qE,hr];rfl) rfl) rfl ?_
      refine wH rfl ?_
      refine RG.opS rfl (ai rfl (tk rfl) rfl (tk rfl) rfl rfl (show (r.map cPt)[a]?=some (cPt p) by rw [qE,hp];rfl) rfl) rfl ?_
      refine wH rfl ?_
      cases hq:bu c.pol p.tenant
      ·refine RG.callS rfl rfl rfl rfl rfl (bT c.pol p.tenant _ hq) rfl rfl ?_;refine jH ?_
       rw [hq] at hg
       refine zT ?_
       refine jR ?_
       exact congrArg AV.b hg
      ·refine RG.callS rfl rfl rfl rfl rfl (bT c.pol p.tenant _ hq) rfl rfl ?_;refine jH ?_
       rw [hq] at hg
       refine zF ?_
       exact ⟨k+1,⟨⟨h,hg⟩,by omega⟩,jV,jW⟩
     ·have h:¬k<es.length:=by simpa using h
      obtain rfl:k=es.length:=by omega
      rw [vI] at hg
      refine zE ?_
      refine jR ?_
      exact congrArg AV.b hg
theorem sy (c:Cf) (hp:c.pol.peers.length<=16) (hw:c.pol.ways.length<=4) (q:Bool) (hq:jU c=q):ae Tryz.prog 66 [.agg (cCf c)] (.b q):=by
 subst hq
 refine jb Tryz.func66 ?_
 have hlt:(c.topo.ports.map aL).length=c.topo.ports.length:=qH ..
 refine jA ?_
 refine AW.loopL (ι:=Nat) (fun k=>[(1,.own 1 0 0),(3,.own 3 0 0),(11,.sl (c.pol.peers.map cPr)),(12,.i .i64 (c.pol.peers.map cPr).length),(13,.i .i64 (k:Nat))]) (fun _=>[(1,⟨0,some (.box 31 (cCf c))⟩),(3,⟨0,some (.box 28 (kR c.pol))⟩)]) (fun k=>k<=c.pol.peers.length/\iR c.pol (c.pol.peers.drop k)=iR c.pol c.pol.peers) (fun k=>c.pol.peers.length - k) 0 ⟨qR _,rfl⟩ jW jW fun k hk=>?_
 obtain ⟨hk,hg⟩:=hk
 refine jA ?_
 refine AW.cond rfl (fun h=>?_) (fun h=>?_)
 ·have h:k<c.pol.peers.length:=by simpa using h
  have hm:c.pol.peers.length<=9223372036854775807:=by omega
  rw [qV h,iR] at hg
  refine jA ?_
  refine RG.opS rfl (ai rfl (tk rfl) rfl (tk rfl) rfl rfl (show (c.pol.peers.map cPr)[k]?=some (cPr c.pol.peers[k]) by rw [qE,qA (by assumption)];rfl) rfl) rfl ?_
  refine jH ?_
  generalize c.pol.peers[k]=x at hg
  cases h1:bu c.pol x.1
  ·refine RG.callS rfl rfl rfl rfl rfl (bT c.pol x.1 _ h1) rfl rfl ?_;refine jH ?_
   rw [h1] at hg
   refine zT ?_
   refine jR ?_
   exact congrArg AV.b (by rw [jU,<- hg];rfl)
  refine RG.callS rfl rfl rfl rfl rfl (bT c.pol x.1 _ h1) rfl rfl ?_;refine jH ?_
  cases h2:bu c.pol x.2
  ·refine RG.callS rfl rfl rfl rfl rfl (bT c.pol x.2 _ h2) rfl rfl ?_;refine jH ?_
   rw [h1,h2] at hg
   refine zT ?_
   refine jR ?_
   exact congrArg AV.b (by rw [jU,<- hg];rfl)
  refine RG.callS rfl rfl rfl rfl rfl (bT c.pol x.2 _ h2) rfl rfl ?_;refine jH ?_
  rw [h1,h2] at hg
  refine zF ?_
  exact ⟨k+1,⟨⟨h,hg⟩,by omega⟩,jV,jW⟩
 have h:¬k<c.pol.peers.length:=by simpa using h
 obtain rfl:k=c.pol.peers.length:=by omega
 rw [vI,iR] at hg
 have e1:jU c=kL c.pol c.topo.ports.length c.pol.ways:=by rw [jU,<- hg];rfl
 rw [e1]
 clear hg
 refine zE ?_
 refine AW.loopL (ι:=Nat) (fun k=>[(1,.own 1 0 0),(3,.own 3 0 0),(31,.sl (c.pol.ways.map cWy)),(32,.i .i64 (c.pol.ways.map cWy).length),(33,.i .i64 (k:Nat))]) (fun _=>[(1,⟨0,some (.box 31 (cCf c))⟩),(3,⟨0,some (.box 28 (kR c.pol))⟩)]) (fun k=>k<=c.pol.ways.length/\kL c.pol c.topo.ports.length (c.pol.ways.drop k)=kL c.pol c.topo.ports.length c.pol.ways) (fun k=>c.pol.ways.length - k) 0 ⟨qR _,rfl⟩ jW jW fun k hk=>?_
 obtain ⟨hk,hg⟩:=hk
 refine jA ?_
 refine AW.cond rfl (fun h=>?_) (fun h=>?_)
 ·have h:k<c.pol.ways.length:=by simpa using h
  have hm:c.pol.ways.length<=9223372036854775807:=by omega
  rw [qV h,kL] at hg
  refine jA ?_
  refine RG.opS rfl (ai rfl (tk rfl) rfl (tk rfl) rfl rfl (show (c.pol.ways.map cWy)[k]?=some (cWy c.pol.ways[k]) by rw [qE,qA (by assumption)];rfl) rfl) rfl ?_
  refine jH ?_
  generalize c.pol.ways[k]=w at hg
  cases h1:bu c.pol w.fro
  ·refine RG.callS rfl rfl rfl rfl rfl (bT c.pol w.fro _ h1) rfl rfl ?_;refine jH ?_
   rw [h1] at hg
   refine zT ?_
   refine jR ?_
   exact congrArg AV.b hg
  refine RG.callS rfl rfl rfl rfl rfl (bT c.pol w.fro _ h1) rfl rfl ?_;refine jH ?_
  cases h2:bu c.pol w.to
  ·refine RG.callS rfl rfl rfl rfl rfl (bT c.pol w.to _ h2) rfl rfl ?_;refine jH ?_
   rw [h1,h2] at hg
   refine zT ?_
   refine jR ?_
   exact congrArg AV.b hg
  refine RG.callS rfl rfl rfl rfl rfl (bT c.pol w.to _ h2) rfl rfl ?_
  rw [h1,h2,uM,uM] at hg
  by_cases g1:w.via<0
  ·refine RG.runO af 0 [(52,.b true)] 400 rfl jD ?_
   refine jB ?_;refine zT ?_
   refine jR ?_
   refine congrArg AV.b (Eq.trans ?_ hg)
   rw [show (decide (0<=w.via) && decide (w.via<(c.topo.ports.length:Nat)))=false by simp;omega]
   rfl
  ·by_cases g2:w.via>=(((c.topo.ports.map aL).length:Nat):Int)
   ·refine RG.runO af 0 [(52,.b false),(61,.b true)] 400 rfl jD ?_
    refine jB ?_;refine zT ?_
    refine jR ?_
    refine congrArg AV.b (Eq.trans ?_ hg)
    rw [show (decide (0<=w.via) && decide (w.via<(c.topo.ports.length:Nat)))=false by simp;omega]
    rfl
   ·refine RG.runO af 0 [(52,.b false),(61,.b false)] 400 rfl jD ?_
    rw [qF (show 0<=w.via by omega),qF (by omega)] at hg
    refine jB ?_;refine zF ?_
    exact ⟨k+1,⟨⟨h,hg⟩,by omega⟩,jV,jW⟩
 ·have h:¬k<c.pol.ways.length:=by simpa using h
  obtain rfl:k=c.pol.ways.length:=by omega
  rw [vI] at hg
  refine zE ?_
  refine jR ?_
  exact congrArg AV.b hg
theorem ik {c:Cf} (h:dl c=true):c.pol.peers.length<=16/\c.pol.ways.length<=4:=by
 simp [dl] at h
 omega
theorem dD (c:Cf):ae Tryz.prog 32 [.agg (cCf c)] (.i .i64 c.sound):=by
 refine jb Tryz.func32 ?_
 have hlt:(c.topo.ports.map aL).length=c.topo.ports.length:=qH ..
 have hlb:(c.tables.map bE).length=c.tables.length:=qH ..
 refine jA ?_
 refine jc (mN c.topo.ports) ?_;refine jH ?_
 refine AW.cond rfl (fun h=>?_) (fun h=>?_)
 ·have h:¬aX c.topo.ports=0:=by simpa using h
  refine zR ?_
  rw [Cf.sound,if_neg h]
  rfl
 have ht:aX c.topo.ports=0:=by simpa using h
 refine jA ?_
 cases h1:dl c
 ·refine RG.callS rfl rfl rfl rfl rfl (vv c ht _ h1) rfl rfl ?_;refine jH ?_
  refine zT ?_
  refine jR ?_
  rw [Cf.sound,if_pos ht,h1]
  rfl
 refine RG.callS rfl rfl rfl rfl rfl (vv c ht _ h1) rfl rfl ?_;refine jH ?_
 refine zF ?_
 cases h2:jU c
 ·refine RG.callS rfl rfl rfl rfl rfl (sy c (ik h1).1 (ik h1).2 _ h2) rfl rfl ?_;refine jH ?_
  refine zT ?_
  refine jR ?_
  rw [Cf.sound,if_pos ht,h1,h2]
  rfl
 refine RG.callS rfl rfl rfl rfl rfl (sy c (ik h1).1 (ik h1).2 _ h2) rfl rfl ?_;refine jH ?_
 refine zF ?_
 refine AW.cond rfl (fun h3=>?_) (fun h3=>?_)
 ·have h3 : ¬ c.tables.length = c.topo.ports.length := by
   simp at h3
   omega
  refine zR ?_
  rw [Cf.sound,if_pos ht,h1,h2,cond_true,cond_true,if_neg h3]
  rfl
 have h3:c.tables.length=c.topo.ports.length:=by
  simp at h3
  omega
 have hle:c.tables.length<=9223372036854775807:=by
  have:=(cC ht).2.1
  omega
 have e1:c.sound=dg c.topo.ports 0 c.tables:=by rw [Cf.sound,if_pos ht,h1,h2,cond_true,cond_true,if_pos h3]
 rw [e1]
 refine jA ?_
 refine AW.loopL (ι:=Nat) (fun k=>[(1,.own 1 0 0),(31,.sl (c.tables.map bE)),(32,.i .i64 (c.tables.map bE).length),(33,.i .i64 (k:Nat))]) (fun _=>[(1,⟨0,some (.box 31 (cCf c))⟩)]) (fun k=>k<=c.tables.length/\dg c.topo.ports k (c.tables.drop k)=dg c.topo.ports 0 c.tables) (fun k=>c.tables.length - k) 0 ⟨qR _,rfl⟩ jW jW fun k hk=>?_
 obtain ⟨hk,hg⟩:=hk
 refine jA ?_
 refine AW.cond rfl (fun h=>?_) (fun h=>?_)
 ·have h:k<c.tables.length:=by simpa using h
  have hr:c.topo.ports[k]?=some (c.topo.ports[k]'(by omega)):=qA (by omega)
  have hq:(c.topo.ports.map aL)[k]?=some (aL (c.topo.ports[k]'(by omega))):=by rw [qE,hr];rfl
  rw [qV h,dg,eR hr] at hg
  generalize (c.topo.ports[k]'(by omega))=r at hg hq
  refine jA ?_
  refine RG.opS rfl (ai rfl (tk rfl) rfl (tk rfl) rfl rfl (show (c.tables.map bE)[k]?=some (bE c.tables[k]) by rw [qE,qA (by assumption)];rfl) rfl) rfl ?_
  refine jH ?_
  refine jx hq ?_
  refine wH rfl ?_
  refine jc (yp c.tables[k] r) ?_;refine jH ?_
  refine AW.cond rfl (fun h'=>?_) (fun h'=>?_)
  ·have h':¬bX c.tables[k] r=0:=by simpa using h'
   rw [if_neg h'] at hg
   refine zR ?_
   rw [<- hg]
   rfl
  ·have h':bX c.tables[k] r=0:=by simpa using h'
   rw [if_pos h'] at hg
   refine jA ?_
   exact ⟨k+1,⟨⟨h,hg⟩,by omega⟩,jV,jW⟩
 ·have h:¬k<c.tables.length:=by simpa using h
  obtain rfl:k=c.tables.length:=by omega
  rw [vI,dg] at hg
  refine zE ?_
  refine jR ?_
  rw [<- hg]
  rfl
theorem tb (N j:Nat):decide (N / 2 ^ j % 2=1)=N.testBit j:=Nat.testBit_eq_decide_div_mod_eq.symm
def GS (o:Option Nat):AV:=.tup [.i .i64 ((o.getD 0:Nat):Int),.b o.isSome]
theorem Fu (fin sw port:Int) (hops:List Hop) (R:Run) (h:(⟨fin,⟨sw,port⟩,hops⟩:Run)=R):AV.agg [.i .i64 fin,.i .i64 sw,.i .i64 port,.sl (((hops.map fG).drop 0).take (hops.map fG).length)] = .agg (pD R):=by
 rw [<- h]
 exact congrArg (fun x=>AV.agg [.i .i64 fin,.i .i64 sw,.i .i64 port,x]) (bq rfl)
theorem Rn.fnRo {σ σ':Sto} {x:AV} {f:FuncId} {c:List AV} (e:x = .fn f [] c) (h:c.all AV.pu1=true):Rn σ σ' x (.fn f [] c):=by
  subst e
  exact .fn rfl rfl (fun j x x' h1=>by simp at h1) (fun j x x' h1 h2=>by
    rw [h1] at h2
    rw [<- qB h2]
    exact .pu (qW.1 h x (qP h1)))
theorem ew {P:Program} {N:Nat} {o:Oper} {s:St} {t e:Nat} {ti ei:TI} {x y z:Operand} {els:List (List AV)} {k1 k2:IntKind} (ho:o.op = .slice t x none (some y) (some z)) (ht:aF P t ti) (hk:ti.k = .slice e) (he:aF P e ei) (hx:s.ev x = .sl els) (hy:s.ev y = .i k1 (els.length:Nat)) (hz:s.ev z = .i k2 (els.length:Nat)) :
  ay P N o s ⟨.sl els,[],[]⟩:=by
 refine aA [] _ fun s' W F μ a g1 g2 hs=>?_
 have ex:=hs.ev x
 rw [g1 x (by rw [ho];simp [Op.operands]),hx] at ex
 have ey:=hs.ev y
 rw [g1 y (by rw [ho];simp [Op.operands]),hy] at ey
 have ez:=hs.ev z
 rw [g1 z (by rw [ho];simp [Op.operands]),hz] at ez
 generalize hq:a.eval x=q at ex
 cases ex.sl' with
 | sl _ A c m b off cell hc hm hA hl hone hr hw =>
  have hb:(Instr.sliceBounds true els.length c none (some (.int k1 (els.length:Nat))) (some (.int k2 (els.length:Nat)))).run P W = .ok (0,els.length,els.length) W:=by
   have e1:(0:Int)<=((els.length:Nat):Int)/\((els.length:Nat):Int)<=(c:Int):=by omega
   have e2:(0:Int)<=((els.length:Nat):Int)/\((els.length:Nat):Int)<=((els.length:Nat):Int):=by omega
   simp only [Instr.sliceBounds,Instr.sliceBound,asIntOf,Sem.run_bind,Sem.run_pure,Result.andThen_ok,if_pos e1,if_pos e2,vQ]
  refine ⟨.slice (if els.length=0 then A else A.map (·.add (0*ei.n))) els.length els.length,?_,.pure (.sl els _ els.length m b off cell (qJ _) (vJ hc hm) (fun hp=>?_) hl hone hr hw)⟩
  ·simp only [execOp,ho,Instr.sliceAt,Instr.slice,hq,ey.i',ez.i',Option.map_none,Option.map_some,Sem.run_bind,Sem.run_pure,Result.andThen_ok,run_underlying (ht.slice hk),hb,he.size,Nat.sub_zero]
  ·obtain ⟨rfl,h2,h3⟩:=hA hp
   refine ⟨?_,h2,h3⟩
   rw [if_neg (by omega),Nat.zero_mul]
   rfl
theorem lB {P : Program} {N : Nat} {o : Oper} {s : St} {t n e : Nat} {ti ei : TI} {parts : Array (Nat × Operand)} {r : List AV} (ho : o.op = .build t parts) (ht : aF P t ti) (hk : ti.k = .arr n e) (he : aF P e ei)
    (hr:jT (fun i=>some (i*ei.n,ei.n)) ti.z (parts.toList.map fun p=>(p.1,s.ev p.2))=some r) (h1:r.all AV.one=true):ay P N o s ⟨.agg r,[],[]⟩:=by
  refine aA [] _ fun s' W F μ a g1 g2 hs=>?_
  have hp:=iH (s:=s) hs (parts:=parts) fun p hp=>g1 p.2 (by rw [ho];simp only [Op.operands,vH];exact ⟨p,hp,rfl⟩)
  obtain ⟨z,hz1,hz2⟩:=ht.zero W
  have hz:=dJ (W:=W) (F:=F) hz2
  obtain ⟨us,k1,k2,k3⟩:=jP _ _ ti.z z.cells r hp.1 hp.2 (by rw [<- qL];exact hz.1) (fun j x v hx hv=>by
    have:=hz.2 j x v hx (by simpa using hv)
    exact ⟨this.2,.pure this.1⟩) hr
  rw [qW] at h1
  refine ⟨.agg us.toList.toArray,?_,.agg r us.toList (by simpa using k2) (fun j x hx=>h1 x (qP hx)) (fun j x v hx hv=>(k3 j x v hx (by simpa using hv)).2)⟩
  have e3:us.toList.toArray=us:=by simp
  simp only [execOp,ho,Instr.build,Sem.run_bind,hz1,Result.andThen_ok,run_underlying (ht.array hk),he.size,k1,Sem.run_pure,e3]
def bG {α:Type} (p:α->Bool):Nat->List α->Int
 | _,[]=>-1
 | i,x::l=>bif p x then (i:Nat) else bG p (i+1) l
theorem dL {α:Type} {p:α->Bool}:∀(i:Nat) (l:List α),decide (0<=bG p i l)=l.any p
 | i,[]=>rfl
 | i,x::l=>by
  rw [bG,List.any_cons]
  cases p x
  ·rw [cond_false,dL (i+1) l];rfl
  ·rw [cond_true,Bool.true_or];exact qF (by omega)
theorem pP {α:Type} {p:α->Bool}:∀(i:Nat) (l:List α),bG p i l=match l.findIdx? p with | some k=>((i+k:Nat):Int) | none=>-1
 | i,[]=>rfl
 | i,x::l=>by
  rw [bG,List.findIdx?_cons]
  cases p x
  ·rw [cond_false,pP (i+1) l]
   simp only [Bool.false_eq_true,if_false]
   cases l.findIdx? p with
   | none=>rfl
   | some k=>show ((i+1+k:Nat):Int)=((i+(k+1):Nat):Int);omega
  ·rfl
theorem ma (F:Nat) (c0:List AV) (p:Int->Bool) (l:List (Int)) (H:∀x∈l,ae Tryz.prog F [.i .i64 x,.ro c0] (.b (p x))):ae Tryz.prog 177 [.sl (l.map cI),.fn F [] [.ro c0]] (.i .i64 (bG p 0 l)):=by
 refine jb Tryz.func177 ?_
 refine jA ?_
 refine AW.lens 6 rfl fun hm=>?_
 rw [qH] at hm
 refine AW.loopL (ι:=Nat) (fun k=>[(0,.sl (l.map cI)),(1,.fn F [] [.ro c0]),(7,.i .i64 (l.map cI).length),(8,.i .i64 (k:Nat))]) (fun _=>[]) (fun k=>k<=l.length/\bG p k (l.drop k)=bG p 0 l) (fun k=>l.length - k) 0 ⟨qR _,rfl⟩ ⟨Rn.is rfl rfl,Rn.fnRo rfl rfl,Rn.is rfl rfl,Rn.is rfl rfl,trivial⟩ trivial fun k hk=>?_
 obtain ⟨hk,hf⟩:=hk
 refine jA ?_
 refine AW.cond rfl (fun h0=>?_) (fun h0=>?_)
 ·have h:k<l.length:=by simpa using h0
  rw [qV h,bG] at hf
  have hH:=H l[k] (vS h)
  have hx:(l.map cI)[k]?=some (cI l[k]):=by rw [qE,qA h];rfl
  generalize l[k]=x at hf hH hx
  refine jA ?_
  refine jx hx ?_
  refine wH rfl ?_
  cases hp:p x
  ·rw [hp] at hf hH
   refine jc hH ?_;refine jH ?_
   refine zF ?_
   exact ⟨k+1,⟨⟨h,hf⟩,by omega⟩,⟨Rn.is rfl rfl,Rn.fnRo rfl rfl,Rn.is rfl rfl,Rn.is (au h hm) rfl,trivial⟩,trivial⟩
  ·rw [hp] at hf hH
   refine jc hH ?_;refine jH ?_
   refine zT ?_
   refine jR ?_
   rw [<- hf]
   rfl
 ·have h:¬k<l.length:=by simpa using h0
  obtain rfl:k=l.length:=by omega
  rw [vI,bG] at hf
  refine zE ?_
  refine jR ?_
  rw [<- hf]
  rfl
theorem fm (F:Nat) (c0:List AV) (p:Int->Bool) (l:List (Int)) (H:∀x∈l,ae Tryz.prog F [.i .i64 x,.ro c0] (.b (p x))) (q:Bool) (hq:l.any p=q):ae Tryz.prog 123 [.sl (l.map cI),.fn F [] [.ro c0]] (.b q):=by
 refine jb Tryz.func123 ?_
 refine jA ?_
 refine jc (ma F c0 p l H) ?_;refine jH ?_
 refine jR ?_
 exact congrArg AV.b ((dL 0 l).trans hq)
theorem mP (F:Nat) (c0:List AV) (c1:List AV) (p:Int × Int->Bool) (l:List (Int × Int)) (H:∀x∈l,ae Tryz.prog F [.agg (cPr x),.ro c0,.ro c1] (.b (p x))):ae Tryz.prog 219 [.sl (l.map cPr),.fn F [] [.ro c0,.ro c1]] (.i .i64 (bG p 0 l)):=by
 refine jb Tryz.func219 ?_
 refine jA ?_
 refine AW.lens 6 rfl fun hm=>?_
 rw [qH] at hm
 refine AW.loopL (ι:=Nat) (fun k=>[(0,.sl (l.map cPr)),(1,.fn F [] [.ro c0,.ro c1]),(7,.i .i64 (l.map cPr).length),(8,.i .i64 (k:Nat))]) (fun _=>[]) (fun k=>k<=l.length/\bG p k (l.drop k)=bG p 0 l) (fun k=>l.length - k) 0 ⟨qR _,rfl⟩ ⟨Rn.is rfl rfl,Rn.fnRo rfl rfl,Rn.is rfl rfl,Rn.is rfl rfl,trivial⟩ trivial fun k hk=>?_
 obtain ⟨hk,hf⟩:=hk
 refine jA ?_
 refine AW.cond rfl (fun h0=>?_) (fun h0=>?_)
 ·have h:k<l.length:=by simpa using h0
  rw [qV h,bG] at hf
  have hH:=H l[k] (vS h)
  have hx:(l.map cPr)[k]?=some (cPr l[k]):=by rw [qE,qA h];rfl
  generalize l[k]=x at hf hH hx
  refine jA ?_
  refine jx hx ?_
  refine wH rfl ?_
  cases hp:p x
  ·rw [hp] at hf hH
   refine jc hH ?_;refine jH ?_
   refine zF ?_
   exact ⟨k+1,⟨⟨h,hf⟩,by omega⟩,⟨Rn.is rfl rfl,Rn.fnRo rfl rfl,Rn.is rfl rfl,Rn.is (au h hm) rfl,trivial⟩,trivial⟩
  ·rw [hp] at hf hH
   refine jc hH ?_;refine jH ?_
   refine zT ?_
   refine jR ?_
   rw [<- hf]
   rfl
 ·have h:¬k<l.length:=by simpa using h0
  obtain rfl:k=l.length:=by omega
  rw [vI,bG] at hf
  refine zE ?_
  refine jR ?_
  rw [<- hf]
  rfl
theorem jN (F:Nat) (c0:List AV) (c1:List AV) (p:Int × Int->Bool) (l:List (Int × Int)) (H:∀x∈l,ae Tryz.prog F [.agg (cPr x),.ro c0,.ro c1] (.b (p x))) (q:Bool) (hq:l.any p=q):ae Tryz.prog 175 [.sl (l.map cPr),.fn F [] [.ro c0,.ro c1]] (.b q):=by
 refine jb Tryz.func175 ?_
 refine jA ?_
 refine jc (mP F c0 c1 p l H) ?_;refine jH ?_
 refine jR ?_
 exact congrArg AV.b ((dL 0 l).trans hq)
theorem l7 (F:Nat) (c0:List AV) (p:Hop->Bool) (l:List (Hop)) (H:∀x∈l,ae Tryz.prog F [.agg (fG x),.ro c0] (.b (p x))):ae Tryz.prog 220 [.sl (l.map fG),.fn F [] [.ro c0]] (.i .i64 (bG p 0 l)):=by
 refine jb Tryz.func220 ?_
 refine jA ?_
 refine AW.lens 6 rfl fun hm=>?_
 rw [qH] at hm
 refine AW.loopL (ι:=Nat) (fun k=>[(0,.sl (l.map fG)),(1,.fn F [] [.ro c0]),(7,.i .i64 (l.map fG).length),(8,.i .i64 (k:Nat))]) (fun _=>[]) (fun k=>k<=l.length/\bG p k (l.drop k)=bG p 0 l) (fun k=>l.length - k) 0 ⟨qR _,rfl⟩ ⟨Rn.is rfl rfl,Rn.fnRo rfl rfl,Rn.is rfl rfl,Rn.is rfl rfl,trivial⟩ trivial fun k hk=>?_
 obtain ⟨hk,hf⟩:=hk
 refine jA ?_
 refine AW.cond rfl (fun h0=>?_) (fun h0=>?_)
 ·have h:k<l.length:=by simpa using h0
  rw [qV h,bG] at hf
  have hH:=H l[k] (vS h)
  have hx:(l.map fG)[k]?=some (fG l[k]):=by rw [qE,qA h];rfl
  generalize l[k]=x at hf hH hx
  refine jA ?_
  refine jx hx ?_
  refine wH rfl ?_
  cases hp:p x
  ·rw [hp] at hf hH
   refine jc hH ?_;refine jH ?_
   refine zF ?_
   exact ⟨k+1,⟨⟨h,hf⟩,by omega⟩,⟨Rn.is rfl rfl,Rn.fnRo rfl rfl,Rn.is rfl rfl,Rn.is (au h hm) rfl,trivial⟩,trivial⟩
  ·rw [hp] at hf hH
   refine jc hH ?_;refine jH ?_
   refine zT ?_
   refine jR ?_
   rw [<- hf]
   rfl
 ·have h:¬k<l.length:=by simpa using h0
  obtain rfl:k=l.length:=by omega
  rw [vI,bG] at hf
  refine zE ?_
  refine jR ?_
  rw [<- hf]
  rfl
theorem jr (F:Nat) (c0:List AV) (p:Hop->Bool) (l:List (Hop)) (H:∀x∈l,ae Tryz.prog F [.agg (fG x),.ro c0] (.b (p x))) (q:Bool) (hq:l.any p=q):ae Tryz.prog 178 [.sl (l.map fG),.fn F [] [.ro c0]] (.b q):=by
 refine jb Tryz.func178 ?_
 refine jA ?_
 refine jc (l7 F c0 p l H) ?_;refine jH ?_
 refine jR ?_
 exact congrArg AV.b ((dL 0 l).trans hq)
theorem iE (F:Nat) (p:Cb->Bool) (l:List (Cb)) (H:∀x∈l,ae Tryz.prog F [.agg (cCb x)] (.b (p x))):ae Tryz.prog 132 [.sl (l.map cCb),.fn F [] []] (.i .i64 (bG p 0 l)):=by
 refine jb Tryz.func132 ?_
 refine jA ?_
 refine AW.lens 6 rfl fun hm=>?_
 rw [qH] at hm
 refine AW.loopL (ι:=Nat) (fun k=>[(0,.sl (l.map cCb)),(1,.fn F [] []),(7,.i .i64 (l.map cCb).length),(8,.i .i64 (k:Nat))]) (fun _=>[]) (fun k=>k<=l.length/\bG p k (l.drop k)=bG p 0 l) (fun k=>l.length - k) 0 ⟨qR _,rfl⟩ ⟨Rn.is rfl rfl,Rn.fnRo rfl rfl,Rn.is rfl rfl,Rn.is rfl rfl,trivial⟩ trivial fun k hk=>?_
 obtain ⟨hk,hf⟩:=hk
 refine jA ?_
 refine AW.cond rfl (fun h0=>?_) (fun h0=>?_)
 ·have h:k<l.length:=by simpa using h0
  rw [qV h,bG] at hf
  have hH:=H l[k] (vS h)
  have hx:(l.map cCb)[k]?=some (cCb l[k]):=by rw [qE,qA h];rfl
  generalize l[k]=x at hf hH hx
  refine jA ?_
  refine jx hx ?_
  refine wH rfl ?_
  cases hp:p x
  ·rw [hp] at hf hH
   refine jc hH ?_;refine jH ?_
   refine zF ?_
   exact ⟨k+1,⟨⟨h,hf⟩,by omega⟩,⟨Rn.is rfl rfl,Rn.fnRo rfl rfl,Rn.is rfl rfl,Rn.is (au h hm) rfl,trivial⟩,trivial⟩
  ·rw [hp] at hf hH
   refine jc hH ?_;refine jH ?_
   refine zT ?_
   refine jR ?_
   rw [<- hf]
   rfl
 ·have h:¬k<l.length:=by simpa using h0
  obtain rfl:k=l.length:=by omega
  rw [vI,bG] at hf
  refine zE ?_
  refine jR ?_
  rw [<- hf]
  rfl
theorem fB (F:Nat) (p:Cb->Bool) (l:List (Cb)) (H:∀x∈l,ae Tryz.prog F [.agg (cCb x)] (.b (p x))) (q:Bool) (hq:l.any p=q):ae Tryz.prog 83 [.sl (l.map cCb),.fn F [] []] (.b q):=by
 refine jb Tryz.func83 ?_
 refine jA ?_
 refine jc (iE F p l H) ?_;refine jH ?_
 refine jR ?_
 exact congrArg AV.b ((dL 0 l).trans hq)
theorem s8 (v:Sp) (l:List (Sp)):ae Tryz.prog 211 [.sl (l.map cSp),.agg (cSp v)] (.i .i64 (bG (fun x=>decide (v=x)) 0 l)):=by
 refine jb Tryz.func211 ?_
 refine jA ?_
 refine AW.lens 6 rfl fun hm=>?_
 rw [qH] at hm
 refine AW.loopL (ι:=Nat) (fun k=>[(0,.sl (l.map cSp)),(3,.own 3 0 0),(7,.i .i64 (l.map cSp).length),(8,.i .i64 (k:Nat))]) (fun _=>[(3,⟨0,some (.box 40 (cSp v))⟩)]) (fun k=>k<=l.length/\bG (fun x=>decide (v=x)) k (l.drop k)=bG (fun x=>decide (v=x)) 0 l) (fun k=>l.length - k) 0 ⟨qR _,rfl⟩ jW jW fun k hk=>?_
 obtain ⟨hk,hf⟩:=hk
 refine jA ?_
 refine AW.cond rfl (fun h0=>?_) (fun h0=>?_)
 ·have h:k<l.length:=by simpa using h0
  rw [qV h,bG] at hf
  have hx:(l.map cSp)[k]?=some (cSp l[k]):=by rw [qE,qA h];rfl
  generalize l[k]=x at hf hx
  refine jA ?_
  refine jx hx ?_
  refine wH rfl ?_
  by_cases hp:v=x
  ·rw [qF hp] at hf
   refine RG.opS rfl (ee rfl af (by kernel_rfl) (by kernel_rfl) rfl rfl (DP v x) (qF hp)) rfl ?_
   refine jH ?_;refine zT ?_
   refine jR ?_
   rw [<- hf]
   rfl
  ·rw [qC hp] at hf
   refine RG.opS rfl (ee rfl af (by kernel_rfl) (by kernel_rfl) rfl rfl (DP v x) (qC hp)) rfl ?_
   refine jH ?_;refine zF ?_
   exact ⟨k+1,⟨⟨h,hf⟩,by omega⟩,jV,jW⟩
 ·have h:¬k<l.length:=by simpa using h0
  obtain rfl:k=l.length:=by omega
  rw [vI,bG] at hf
  refine zE ?_
  refine jR ?_
  rw [<- hf]
  rfl
theorem eo (v:Sp) (l:List (Sp)) (q:Bool) (hq:decide (v∈l)=q):ae Tryz.prog 168 [.sl (l.map cSp),.agg (cSp v)] (.b q):=by
 refine jb Tryz.func168 ?_
 refine jA ?_
 refine jc (s8 v l) ?_;refine jH ?_
 refine jR ?_
 refine congrArg AV.b ((dL 0 l).trans (Eq.trans ?_ hq))
 rw [Bool.eq_iff_iff]
 simp
theorem tw (v:Cb) (l:List (Cb)):ae Tryz.prog 158 [.sl (l.map cCb),.agg (cCb v)] (.i .i64 (bG (fun x=>decide (v=x)) 0 l)):=by
 refine jb Tryz.func158 ?_
 refine jA ?_
 refine AW.lens 6 rfl fun hm=>?_
 rw [qH] at hm
 refine AW.loopL (ι:=Nat) (fun k=>[(0,.sl (l.map cCb)),(3,.own 3 0 0),(7,.i .i64 (l.map cCb).length),(8,.i .i64 (k:Nat))]) (fun _=>[(3,⟨0,some (.box 36 (cCb v))⟩)]) (fun k=>k<=l.length/\bG (fun x=>decide (v=x)) k (l.drop k)=bG (fun x=>decide (v=x)) 0 l) (fun k=>l.length - k) 0 ⟨qR _,rfl⟩ jW jW fun k hk=>?_
 obtain ⟨hk,hf⟩:=hk
 refine jA ?_
 refine AW.cond rfl (fun h0=>?_) (fun h0=>?_)
 ·have h:k<l.length:=by simpa using h0
  rw [qV h,bG] at hf
  have hx:(l.map cCb)[k]?=some (cCb l[k]):=by rw [qE,qA h];rfl
  generalize l[k]=x at hf hx
  refine jA ?_
  refine jx hx ?_
  refine wH rfl ?_
  by_cases hp:v=x
  ·rw [qF hp] at hf
   refine RG.opS rfl (ee rfl af (by kernel_rfl) (by kernel_rfl) rfl rfl (oO v x) (qF hp)) rfl ?_
   refine jH ?_;refine zT ?_
   refine jR ?_
   rw [<- hf]
   rfl
  ·rw [qC hp] at hf
   refine RG.opS rfl (ee rfl af (by kernel_rfl) (by kernel_rfl) rfl rfl (oO v x) (qC hp)) rfl ?_
   refine jH ?_;refine zF ?_
   exact ⟨k+1,⟨⟨h,hf⟩,by omega⟩,jV,jW⟩
 ·have h:¬k<l.length:=by simpa using h0
  obtain rfl:k=l.length:=by omega
  rw [vI,bG] at hf
  refine zE ?_
  refine jR ?_
  rw [<- hf]
  rfl
theorem n5 (v:Cb) (l:List (Cb)) (q:Bool) (hq:decide (v∈l)=q):ae Tryz.prog 115 [.sl (l.map cCb),.agg (cCb v)] (.b q):=by
 refine jb Tryz.func115 ?_
 refine jA ?_
 refine jc (tw v l) ?_;refine jH ?_
 refine jR ?_
 refine congrArg AV.b ((dL 0 l).trans (Eq.trans ?_ hq))
 rw [Bool.eq_iff_iff]
 simp
theorem jt (l:List (Int)):ae Tryz.prog 37 [.sl (l.map cI)] (.sl (l.map cI)):=by
 refine jb Tryz.func37 ?_
 refine jA ?_
 refine RG.opS rfl (ew rfl (tk rfl) rfl (tk rfl) rfl rfl rfl) rfl ?_
 refine zH ?_
 rfl
theorem eV (l:List (Cb)):ae Tryz.prog 39 [.sl (l.map cCb)] (.sl (l.map cCb)):=by
 refine jb Tryz.func39 ?_
 refine jA ?_
 refine RG.opS rfl (ew rfl (tk rfl) rfl (tk rfl) rfl rfl rfl) rfl ?_
 refine zH ?_
 rfl
theorem iu (l:List (aH)):ae Tryz.prog 87 [.sl (l.map aB)] (.sl (l.map aB)):=by
 refine jb Tryz.func87 ?_
 refine jA ?_
 refine RG.opS rfl (ew rfl (tk rfl) rfl (tk rfl) rfl rfl rfl) rfl ?_
 refine zH ?_
 rfl
theorem rY (x y z:Int × Int):ae Tryz.prog 176 [.agg (cPr x),.ro (cPr y),.ro (cPr z)] (.b (decide (x=y) || decide (x=z))):=by
 refine jb Tryz.func176 ?_
 refine jB ?_;refine wF ?_;refine wH rfl ?_;refine jB ?_
 refine AW.text ?_
 refine wH rfl ?_
 by_cases h:x=y
 ·refine RG.opS rfl (ee rfl af (by kernel_rfl) (by kernel_rfl) rfl rfl (sG x y) (qF h)) rfl ?_
  refine zH ?_
  exact congrArg AV.b (by rw [qF h];rfl)
 ·refine RG.opS rfl (ee rfl af (by kernel_rfl) (by kernel_rfl) rfl rfl (sG x y) (qC h)) rfl ?_
  refine wH rfl ?_
  refine RG.opS rfl (ee rfl af (by kernel_rfl) (by kernel_rfl) rfl rfl (sG x z) rfl) rfl ?_
  refine zH ?_
  exact congrArg AV.b (by rw [qC h];rfl)
theorem oe (p:Pol) (a b:Int) (v:Bool) (hv:gv p a b=v):ae Tryz.prog 122 [.agg (kR p),.i .i64 a,.i .i64 b] (.b v):=by
 subst hv
 refine jb Tryz.func122 ?_
 refine jA ?_
 cases h1:bu p a
 ·refine RG.callS rfl rfl rfl rfl rfl (bT p a _ h1) rfl rfl ?_;refine jH ?_
  refine zT ?_
  refine jR ?_
  exact congrArg AV.b (by rw [gv,h1];rfl)
 refine RG.callS rfl rfl rfl rfl rfl (bT p a _ h1) rfl rfl ?_;refine jH ?_
 cases h2:bu p b
 ·refine RG.callS rfl rfl rfl rfl rfl (bT p b _ h2) rfl rfl ?_;refine jH ?_
  refine zT ?_
  refine jR ?_
  exact congrArg AV.b (by rw [gv,h1,h2];rfl)
 refine RG.callS rfl rfl rfl rfl rfl (bT p b _ h2) rfl rfl ?_
 refine wH rfl ?_;refine jB ?_;refine zF ?_
 refine RG.opS rfl (lB rfl (tk rfl) rfl (tk rfl) rfl rfl) rfl ?_
 refine wH rfl ?_
 refine RG.opS rfl (lB rfl (tk rfl) rfl (tk rfl) rfl rfl) rfl ?_
 refine wH rfl ?_;refine jB ?_
 have e0:gv p a b=(decide (a=b) || p.peers.any fun x=>decide (x=(a,b)) || decide (x=(b,a))):=by rw [gv,h1,h2];rfl
 refine AW.text ?_
 by_cases h:a=b
 ·refine RG.runO af 0 [(27,.b true)] 400 rfl jD ?_
  refine jB ?_
  refine jR ?_
  exact congrArg AV.b (by rw [e0,qF h];rfl)
 ·refine RG.runO af 0 [(27,.b false)] 400 rfl jD ?_
  refine RG.callS rfl rfl rfl rfl rfl (jN _ (cPr (a,b)) (cPr (b,a)) (fun x=>decide (x=(a,b)) || decide (x=(b,a))) p.peers (fun x _=>rY x (a,b) (b,a)) _ rfl) rfl rfl ?_;refine jH ?_
  refine jR ?_
  exact congrArg AV.b (by rw [e0,qC h];rfl)
theorem E4 (p:Pol) (a b:Int) (hp:p.ways.length<=4):ae Tryz.prog 124 [.agg (kR p),.i .i64 a,.i .i64 b] (.sl ((tc p a b).map cI)):=by
 refine jb Tryz.func124 ?_
 have hm:p.ways.length<=9223372036854775807:=by omega
 have hvl:(tc p a b).length<=4:=by
  have:=eY (f:=xU a b) (m:=1) (fun n w=>by rw [xU];cases (decide (w.fro=a) && decide (w.to=b)) <;> simp) 0 p.ways []
  rw [tc]
  simp at this
  omega
 refine jB ?_;refine wF ?_;refine wH rfl ?_;refine jB ?_
 refine AW.text ?_
 refine RG.opS rfl (cv 7 3 1 rfl) rfl ?_
 refine jH ?_
 refine AW.loopL (ι:=Nat × List Int) (fun i=>[(1,.i .i64 a),(2,.i .i64 b),(7,.row 7 0 0 (i.2.map cI).length),(11,.sl (p.ways.map cWy)),(12,.i .i64 (p.ways.map cWy).length),(13,.i .i64 (i.1:Nat))]) (fun i=>[(7,⟨0,some (.row 3 1 (i.2.map cI))⟩)]) (fun i=>i.1<=p.ways.length/\bF (xU a b) i.1 (p.ways.drop i.1) i.2=tc p a b) (fun i=>p.ways.length - i.1) (0,[]) ⟨qR _,rfl⟩ jW jW fun i hi=>?_
 obtain ⟨k,out⟩:=i
 obtain ⟨hk,hf⟩:=hi
 simp only at hk hf
 refine jA ?_
 refine AW.cond rfl (fun h0'=>?_) (fun h0'=>?_)
 ·have h':k<p.ways.length:=by simpa using h0'
  have hol:out.length<=4:=by
   have h1:=gF (f:=xU a b) k (p.ways.drop k) out
   rw [hf] at h1
   omega
  rw [qV h',bF,xU] at hf
  have hkx:(p.ways.map cWy)[k]?=some (cWy p.ways[k]):=by rw [qE,qA h'];rfl
  generalize p.ways[k]=w at hf hkx
  refine jA ?_
  refine jx hkx ?_
  refine wH rfl ?_;refine jB ?_
  refine AW.text ?_
  by_cases p1:w.fro=a
  ·refine RG.runO af 0 [(20,.b true)] 400 rfl jD ?_
   refine jB ?_
   refine AW.cond rfl (fun hq=>?_) (fun hq=>?_)
   ·have hq:w.to=b:=of_decide_eq_true hq
    rw [qF p1,qF hq] at hf
    refine zB ?_
    refine wH rfl ?_
    refine RG.opS rfl (co cI out w.via (by omega) rfl rfl rfl rfl (tk rfl) rfl (tk rfl) rfl rfl ⟨_,rfl,rfl⟩ rfl rfl) rfl ?_;refine jH ?_
    exact ⟨(k+1,_),⟨⟨h',hf⟩,by show p.ways.length - (k+1)<p.ways.length - k;omega⟩,jV,jW⟩
   ·have hq:¬w.to=b:=of_decide_eq_false hq
    rw [qF p1,qC hq,Bool.and_false,cond_false,vZ] at hf
    refine jA ?_
    exact ⟨(k+1,out),⟨⟨h',hf⟩,by show p.ways.length - (k+1)<p.ways.length - k;omega⟩,jV,jW⟩
  ·rw [qC p1,uP,cond_false,vZ] at hf
   refine RG.runO af 0 [(20,.b false)] 400 rfl jD ?_
   refine jB ?_;refine zF ?_
   exact ⟨(k+1,out),⟨⟨h',hf⟩,by show p.ways.length - (k+1)<p.ways.length - k;omega⟩,jV,jW⟩
 ·have h':¬k<p.ways.length:=by simpa using h0'
  obtain rfl:k=p.ways.length:=by omega
  rw [vI,bF] at hf
  refine zE ?_
  refine RG.callMS rfl rfl rfl rfl (congrArg (fun x=>[x]) (bq rfl)) rfl (jt out) rfl ?_;refine jH ?_
  refine jR ?_
  rw [<- hf]
  rfl
theorem GK:∀n,n<256->UInt64.ofNat n &&& ~~~(tt 8).lo=0:=by decide
theorem FT:∀n,n<8->UInt64.ofNat n &&& ~~~(tt 24).lo=0:=by decide
theorem mq (n:Nat) (h:n<=300):cy (n:Int)=UInt64.ofNat n:=by
 apply UInt64.toNat_inj.1
 have:=eX (n:Int)
 rw [IntKind.wrap_u64] at this
 rw [UInt64.toNat_ofNat']
 omega
def dH (c:Cf) (s:Sp) (v:Int):Int:=if c.sound=0 then (if v<0\/v>255 then 4 else if s∈aG c.topo.ports then 0 else 7) else c.sound
def ig (c:Cf) (s:Sp) (v:Int):Cb:=if dH c s v=0 then bL c s v else Cb.zero
theorem rQ (c:Cf) (s:Sp) (v:Int):ae Tryz.prog 118 [.agg (cCf c),.agg (cSp s),.i .i64 v] (.tup [.agg (cCb (ig c s v)),.i .i64 (dH c s v)]):=by
 refine jb Tryz.func118 ?_
 refine jA ?_
 refine jc (dD c) ?_;refine jH ?_
 refine AW.cond rfl (fun h0=>?_) (fun h0=>?_)
 ·have h0:¬c.sound=0:=by simpa using h0
  have e1:dH c s v=c.sound:=by rw [dH,if_neg h0]
  rw [ig,e1,if_neg h0]
  refine zR ?_
  rfl
 have h0:c.sound=0:=by simpa using h0
 have hc:=Cf.ok h0
 have e0:dH c s v=if v<0\/v>255 then 4 else if s∈aG c.topo.ports then 0 else 7:=by rw [dH,if_pos h0]
 refine zB ?_
 by_cases h1:v<0
 ·refine RG.runO af 0 [(21,.b true)] 400 rfl jD ?_
  refine jB ?_;refine zT ?_
  have e1:dH c s v=4:=by rw [e0,if_pos (by omega)]
  rw [ig,e1,if_neg (by decide)]
  exact zS
 ·by_cases h2:v>255
  ·refine RG.runO af 0 [(21,.b false),(24,.b true)] 400 rfl jD ?_
   refine jB ?_;refine zT ?_
   have e1:dH c s v=4:=by rw [e0,if_pos (by omega)]
   rw [ig,e1,if_neg (by decide)]
   exact zS
  ·refine RG.runO af 0 [(21,.b false),(24,.b false)] 400 rfl jD ?_
   rw [if_neg (by omega)] at e0
   refine jB ?_;refine zF ?_
   refine jm (i5 c.topo.ports hc.topo) ?_
   refine wH rfl ?_
   by_cases hs:s∈aG c.topo.ports
   rotate_left
   ·refine RG.callS rfl rfl rfl rfl rfl (eo s (aG c.topo.ports) _ (qC hs)) rfl rfl ?_;refine jH ?_
    refine zT ?_
    have e1:dH c s v=7:=by rw [e0,if_neg hs]
    rw [ig,e1,if_neg (by decide)]
    exact zS
   have e1:dH c s v=0:=by rw [e0,if_pos hs]
   rw [ig,e1,if_pos rfl]
   refine RG.callS rfl rfl rfl rfl rfl (eo s (aG c.topo.ports) _ (qF hs)) rfl rfl ?_;refine jH ?_
   refine zF ?_
   obtain ⟨n,r,a,p,hr,hp,hk,rfl⟩:=dY.1 hs
   have hpa:bt c.topo.ports ⟨n,a⟩=p:=kQ hr hp
   have hok:=(cC hc.topo).2.2.2 n r hr a p hp
   obtain ⟨t,ht,ht3⟩:∃t:Nat,p.tenant=(t:Nat)/\t<=3:=by
    rw [cW] at hok
    simp [hk] at hok
    obtain ⟨t,ht⟩:=Int.eq_ofNat_of_zero_le hok.2.1
    exact ⟨t,ht,by omega⟩
   obtain ⟨V,rfl⟩:=Int.eq_ofNat_of_zero_le (show 0<=v by omega)
   have hw:IntKind.i64.wrap (p.tenant+Int.ofNat 1)=((t+1:Nat):Int):=by
    rw [IntKind.wrap_i64,ht]
    simp only [qG]
    omega
   refine RG.callS rfl rfl rfl rfl rfl (zU 88 40 (by decide)) rfl rfl ?_;refine jH ?_
   refine RG.opS rfl (ai rfl (tk rfl) rfl (tk rfl) rfl rfl (show (c.topo.ports.map aL)[n]?=some (aL r) by rw [qE,hr];rfl) rfl) rfl ?_
   refine wH rfl ?_
   refine RG.opS rfl (ai rfl (tk rfl) rfl (tk rfl) rfl rfl (show (r.map cPt)[a]?=some (cPt p) by rw [qE,hp];rfl) rfl) rfl ?_
   refine RG.runO af 0 [(53,.i .i64 (t+1:Nat))] 400 rfl jD ?_
   refine RG.callS rfl rfl rfl rfl rfl (D0 Hd.zero 88 24 (cy ((t+1:Nat):Int)) (by decide) (by decide) (by rw [mq _ (by omega)];exact FT _ (by omega))) rfl rfl ?_;refine jH ?_
   refine RG.callS rfl rfl rfl rfl rfl (D0 _ 112 8 (cy (V:Int)) (by decide) (by decide) (by rw [mq _ (by omega)];exact GK _ (by omega))) rfl rfl ?_;refine jH ?_
   refine RG.callS rfl rfl rfl rfl rfl (tI _ _) rfl rfl ?_;refine jH ?_
   refine jR ?_
   rw [bL,hpa,ht]
   rfl
theorem Cs (t:List (List Pt)) (n a:Nat) (r:List Pt) (p:Pt) (ht:aX t=0) (hr:t[n]?=some r) (hp:r[a]?=some p) (hk:p.kind=2):ae Tryz.prog 174 [.agg (gL ⟨t⟩),.agg (cSp ⟨n,a⟩)] (.tup [.agg (cSp ⟨p.peer,p.at_⟩),.b true]):=by
 refine jb Tryz.func174 ?_
 have hlen:(t.map aL).length=t.length:=qH ..
 have hlr:(r.map cPt).length=r.length:=qH ..
 have hn:=(qD.1 hr).1
 have ha:=(qD.1 hp).1
 have g1:¬((n:Nat):Int)<0:=by omega
 have g2:¬((n:Nat):Int)>=(((t.map aL).length:Nat):Int):=by omega
 have g3:¬((a:Nat):Int)<0:=by omega
 have g4:¬((a:Nat):Int)>=(((r.map cPt).length:Nat):Int):=by omega
 have hS:=mN t
 rw [ht] at hS
 have hrx:(t.map aL)[n]?=some (aL r):=by rw [qE,hr];rfl
 have hpx:(r.map cPt)[a]?=some (cPt p):=by rw [qE,hp];rfl
 refine jB ?_;refine wF ?_;refine wH rfl ?_;refine jB ?_
 refine AW.draws aN ?_
 refine wH rfl ?_
 refine jc hS ?_
 refine RG.runO af 0 [(13,.b false),(21,.b false),(26,.b false)] 400 rfl jD ?_
 refine jx hrx ?_
 refine RG.runO af 0 [(38,.b false)] 400 rfl jD ?_
 refine jB ?_;refine AW.condF rfl ?_;refine jB ?_
 refine AW.draws aN ?_
 refine wH rfl ?_
 refine jx hrx ?_
 refine wH rfl ?_
 refine jx hpx ?_
 refine jH ?_
 refine AW.cond rfl (fun h=>?_) (fun h=>?_)
 ·simp [hk] at h
 refine zR ?_
 rfl
theorem tW (h:Hop) (n:Int):ae Tryz.prog 179 [.agg (fG h),.ro [.i .i64 n]] (.b (decide (h.sw=n))):=by
 refine jb Tryz.func179 ?_
 refine zR ?_
 rfl
theorem Be (r:Run) (n:Int) (q:Bool) (hq:gr r n=q):ae Tryz.prog 126 [.agg (pD r),.i .i64 n] (.b q):=by
 refine jb Tryz.func126 ?_
 refine jA ?_
 refine RG.callS rfl rfl rfl rfl rfl (jr _ [.i .i64 n] (fun h=>decide (h.sw=n)) r.hops (fun x _=>tW x n) _ hq) rfl rfl ?_;refine jH ?_
 exact zS
theorem xO (l:List Rl) (X:List (List AV)) (a b:Nat) (x y:Rl) (ha:l[a]?=some x) (hb:l[b]?=some y):ae Tryz.prog 253 [.ro [.sl (l.map cRl),.sl X],.i .i64 (a:Nat),.i .i64 (b:Nat)] (.i .i64 (orI [dt y.prio x.prio,dt a b])):=by
 refine jb Tryz.func253 ?_
 refine jA ?_
 refine RG.opS rfl (ai rfl (tk rfl) rfl (tk rfl) rfl rfl (show (l.map cRl)[b]?=some (cRl y) by rw [qE,hb];rfl) rfl) rfl ?_
 refine wH rfl ?_
 refine RG.opS rfl (ai rfl (tk rfl) rfl (tk rfl) rfl rfl (show (l.map cRl)[a]?=some (cRl x) by rw [qE,ha];rfl) rfl) rfl ?_
 refine wH rfl ?_
 refine jc (iN y.prio x.prio) ?_
 refine wH rfl ?_
 refine jc (iN a b) ?_
 refine wH rfl ?_
 refine jc (DR [dt y.prio x.prio,dt a b]) ?_;refine jH ?_
 exact zS
theorem Rn.fnF {σ σ':Sto} {x:AV} {f:FuncId} {a:List AV} (e:x = .fn f a []) (h:a.all AV.pu1=true):Rn σ σ' x (.fn f a []):=by
 subst e
 exact .fn rfl rfl (fun j x x' h1 h2=>by
  rw [h1] at h2
  rw [<- qB h2]
  exact .pu (qW.1 h x (qP h1))) (fun j x x' h1=>by simp at h1)
def sR (l:List Rl):Prop:=∀(k:Nat) (x y:Rl),l[k]?=some x->l[k+1]?=some y->y.prio<=x.prio
def dO (k:Nat):List AV:=cI (k:Nat)
theorem AY (l:List Rl) (hf:sR l) (hl:l.length<=1000) (X:List (List AV)):ae Tryz.prog 259 [.sl ((List.range l.length).map dO),.i .i64 0,.i .i64 (l.length:Nat),.fn 253 [.ro [.sl (l.map cRl),.sl X]] []] (.tup []):=by
 refine jb Tryz.func259 ?_
 have hr:((List.range l.length).map dO).length=l.length:=by rw [qH,List.length_range]
 have hk:∀k,k<l.length->((List.range l.length).map dO)[k]?=some (dO k):=fun k h=>by rw [qE,List.getElem?_range h];rfl
 generalize (List.range l.length).map dO=els at hr hk
 refine jA ?_
 refine AW.loopL (ι:=Nat) (fun k=>[(0,.sl els),(1,.i .i64 0),(2,.i .i64 (l.length:Nat)),(3,.fn 253 [.ro [.sl (l.map cRl),.sl X]] []),(8,.i .i64 ((k+1:Nat):Int))]) (fun _=>[]) (fun k=>k<=l.length) (fun k=>l.length - k) 0 (qR _) jQ trivial fun k hkl=>?_
 refine jA ?_
 refine AW.cond rfl (fun h0=>?_) (fun h0=>?_)
 ·have h : k + 1 < l.length := by
   have:=of_decide_eq_true h0
   omega
  refine jA ?_
  refine AW.loopL (ι:=Nat) (fun _=>[(0,.sl els),(1,.i .i64 0),(2,.i .i64 (l.length:Nat)),(3,.fn 253 [.ro [.sl (l.map cRl),.sl X]] []),(8,.i .i64 ((k+1:Nat):Int)),(9,.i .i64 ((k+1:Nat):Int))]) (fun _=>[]) (fun _=>True) (fun i=>i) 0 trivial jQ trivial fun i _=>?_
  refine zD ?_
  have g1:((k+1:Nat):Int)>0:=by omega
  have g2:IntKind.i64.wrap (((k+1:Nat):Int) - Int.ofNat 1)=(k:Nat):=by
   rw [IntKind.wrap_i64]
   simp only [qG]
   omega
  refine RG.runO af 0 [(20,.b true)] 400 rfl jD ?_
  refine jx (hk (k+1) h) ?_
  refine RG.runO af 0 [(29,.i .i64 (k:Nat))] 400 rfl jD ?_
  refine RG.opS rfl (ai rfl (tk rfl) rfl (tk rfl) rfl rfl (hk k (by omega)) rfl) rfl ?_
  refine wH rfl ?_
  have e1:l[k+1]?=some l[k+1]:=qA h
  have e2:l[k]?=some (l[k]'(by omega)):=qA (by omega)
  have hle:=hf k _ _ e2 e1
  have hc:¬orI [dt (l[k]'(by omega)).prio l[k+1].prio,dt ((k+1:Nat):Int) (k:Nat)]<0:=by
   generalize (l[k]'(by omega)).prio=p at hle
   generalize l[k+1].prio=q at hle
   have c2:dt ((k+1:Nat):Int) (k:Nat)=1:=by rw [dt,if_neg (by omega),if_pos (by omega)]
   rw [c2]
   by_cases hpq:q<p
   ·have c1:dt p q=1:=by rw [dt,if_neg (by omega),if_pos hpq]
    rw [c1];decide
   ·have c1:dt p q=0:=by rw [dt,if_neg (by omega),if_neg hpq]
    rw [c1];decide
  refine RG.callS rfl rfl rfl rfl rfl (xO l X (k+1) k _ _ e1 e2) rfl rfl ?_
  refine wH rfl ?_;refine jB ?_
  refine AW.cond rfl (fun h1=>?_) (fun h1=>?_)
  ·exact absurd (of_decide_eq_true h1) hc
  refine zE ?_
  exact ⟨k+1,⟨by omega,by omega⟩,⟨Rn.is rfl rfl,Rn.is rfl rfl,Rn.is rfl rfl,Rn.fnF rfl rfl,Rn.is (au (show k+1<100000 by omega) (by decide)) rfl,trivial⟩,trivial⟩
 ·refine jA ?_
  refine jE ?_;refine jA ?_
  exact oZ rfl (.inl rfl)
theorem nH {P:Program} {N:Nat} {o:Oper} {s:St} {t:Nat} {ti:TI} {x i:Operand} {l:List UInt8} {b c:UInt8} (ho:o.op = .index t x i) (ht:aF P t ti) (hk:ti.k = .str) (hx:s.ev x = .s l) (hi:s.ev i = .y b) (hc:l[b.toNat]?=some c):ay P N o s ⟨.y c,[],[]⟩:=by
 refine aA [] _ fun s' W F μ a h1 h2 hs=>⟨.int .u8 c.toNat,?_,.pure (.y c)⟩
 have ex:=hs.ev x
 rw [h1 x (by rw [ho];simp [Op.operands]),hx] at ex
 have ei':=hs.ev i
 rw [h1 i (by rw [ho];simp [Op.operands]),hi] at ei'
 have hb:(⟨l.toArray⟩:ByteArray)[b.toNat]?=some c:=by
  obtain ⟨hlt,e⟩:=qD.1 hc
  rw [getElem?_pos (⟨l.toArray⟩:ByteArray) b.toNat (by simpa [ByteArray.size] using hlt)]
  exact congrArg some e
 have h0:(0:Int)<=(b.toNat:Int):=by omega
 simp only [execOp,ho,Instr.index,ex.s',ei'.y',asIntOf,Sem.run_bind,Sem.run_pure,Result.andThen_ok,run_underlying (ht.str hk),h0,if_true,vQ,hb]
theorem Du (v:UInt64) (hv:v.toNat<256):∃r:Int,ae Tryz.prog 151 [.u v] (.i .i64 r):=by
 refine ⟨?_,?_⟩
 rotate_left
 ·refine jb Tryz.func151 ?_
  refine jA ?_
  refine AW.cond rfl (fun h=>?_) (fun h=>?_)
  ·have:=UInt64.le_iff_toNat_le.1 (of_decide_eq_true h)
   exact absurd (Nat.lt_of_le_of_lt this hv) (by decide)
  clear h
  refine jA ?_
  refine AW.cond rfl (fun h=>?_) (fun h=>?_)
  ·have:=UInt64.le_iff_toNat_le.1 (of_decide_eq_true h)
   exact absurd (Nat.lt_of_le_of_lt this hv) (by decide)
  clear h
  refine jA ?_
  refine AW.cond rfl (fun h=>?_) (fun h=>?_)
  ·have:=UInt64.le_iff_toNat_le.1 (of_decide_eq_true h)
   exact absurd (Nat.lt_of_le_of_lt this hv) (by decide)
  clear h
  refine jA ?_
  refine RG.opS rfl (nH rfl (tk rfl) rfl rfl rfl (qA (vK (UInt8.toNat_lt _) (by decide)))) rfl ?_
  refine zH ?_
  rfl
theorem FW (v:UInt64) (hv:v.toNat<256):∃r:Int,ae Tryz.prog 105 [.u v] (.i .i64 r):=by
 obtain ⟨r,hr⟩:=Du v hv
 refine ⟨r,?_⟩
 refine jb Tryz.func105 ?_
 refine jA ?_
 refine zF ?_
 refine jc hr ?_;refine jH ?_
 exact zS
theorem F8 (l:List Rl) (hf:sR l) (hl:l.length<=12) (X:List (List AV)) (lim:Int):ae Tryz.prog 256 [.sl ((List.range l.length).map dO),.i .i64 0,.i .i64 (l.length:Nat),.i .i64 lim,.fn 253 [.ro [.sl (l.map cRl),.sl X]] []] (.tup []):=by
 refine jb Tryz.func256 ?_
 have hI:=AY l hf (by omega) X
 generalize (List.range l.length).map dO=els at hI
 refine jA ?_
 refine AW.loopL (ι:=Nat) (fun _=>[(0,.sl els),(1,.i .i64 0),(2,.i .i64 (l.length:Nat)),(4,.fn 253 [.ro [.sl (l.map cRl),.sl X]] [])]) (fun _=>[]) (fun _=>True) (fun i=>i) 0 trivial jQ trivial fun i _=>?_
 refine jA ?_
 refine AW.cond rfl (fun h=>?_) (fun h=>?_)
 ·refine jA ?_
  refine jc hI ?_;refine jH ?_
  exact AW.ret (oZ rfl (.inr rfl))
 ·have h:=of_decide_eq_false h
  have hw:IntKind.i64.wrap (((l.length:Nat):Int) - 0)=(l.length:Nat):=by rw [IntKind.wrap_i64];omega
  rw [hw] at h
  exact absurd (show ((l.length:Nat):Int)<=12 by omega) h
theorem tl (l:List Rl) (hf:sR l) (hl:l.length<=12) (X:List (List AV)):ae Tryz.prog 252 [.sl ((List.range l.length).map dO),.fn 253 [.ro [.sl (l.map cRl),.sl X]] []] (.tup []):=by
 have hn:((List.range l.length).map dO).length=l.length:=by rw [qH,List.length_range]
 obtain ⟨r,hr⟩:=FW (cy (((List.range l.length).map dO).length:Nat)) (by rw [hn,mq _ (by omega),UInt64.toNat_ofNat'];omega)
 have hP:=F8 l hf hl X r
 generalize (List.range l.length).map dO=els at hr hP hn
 rw [<- hn] at hP
 refine jb Tryz.func252 ?_
 refine jA ?_
 refine jc hr ?_;refine jH ?_
 refine jc hP ?_;refine jH ?_
 exact oZ rfl (.inl rfl)
def uf (l:List Rl) (a b:Nat):Prop:=(l.getD b Rl.zero).prio<(l.getD a Rl.zero).prio\/((l.getD b Rl.zero).prio=(l.getD a Rl.zero).prio/\a<=b)
def jp (l:List Rl):Prop:=∃os:List Nat,os.Perm (List.range l.length)/\os.Pairwise (uf l)/\ae Tryz.prog 244 [.sl (l.map cRl)] (.sl (os.map dO))
theorem ql {l:List Rl} (hf:sR l):∀(d a:Nat),a+d<l.length->(l.getD (a+d) Rl.zero).prio<=(l.getD a Rl.zero).prio
 | 0,a,_=>Int.le_refl _
 | d+1,a,h=>by
  have ih:=ql hf d a (by omega)
  have e1:l[a+d]?=some (l[a+d]'(by omega)):=qA (by omega)
  have e2:l[a+d+1]?=some (l[a+d+1]'(by omega)):=qA (by omega)
  have:=hf (a+d) _ _ e1 e2
  rw [eR e1] at ih
  rw [show a+(d+1)=a+d+1 by omega,eR e2]
  omega
theorem td {l:List Rl} (hf:sR l) (hl:l.length<=12):jp l:=by
 refine ⟨List.range l.length,List.Perm.refl _,?_,?_⟩
 ·rw [List.pairwise_iff_getElem]
  intro i j hi hj hij
  rw [List.getElem_range,List.getElem_range]
  rw [List.length_range] at hj
  have:=ql hf (j - i) i (by omega)
  rw [show i+(j - i)=j by omega] at this
  by_cases e:(l.getD j Rl.zero).prio=(l.getD i Rl.zero).prio
  ·exact Or.inr ⟨e,by omega⟩
  ·exact Or.inl (by omega)
 refine jb Tryz.func244 ?_
 refine jB ?_;refine wF ?_;refine wH rfl ?_;refine jB ?_;refine wF ?_;refine wH rfl ?_;refine jB ?_
 refine AW.nilRow 40 0 3 1 [(0,.sl (l.map cRl)),(3,.own 7 0 0)] [(7,⟨0,some (.box 322 [.sl (l.map cRl),.row 40 0 0 0])⟩),(40,⟨0,some (.row 3 1 [])⟩)] ⟨.rn (Rn.is rfl rfl),.rn (Rn.ownIs rfl rfl rfl),trivial⟩ ⟨.boxL rfl ⟨RnN.is rfl rfl,.nil rfl,trivial⟩ rfl,.old (.row rfl rfl),trivial⟩ ?_
 refine jA ?_
 have hm:l.length<=9223372036854775807:=by omega
 refine AW.loopL (ι:=Nat × List Nat) (fun i=>[(3,.own 7 0 0),(8,.sl (l.map cRl)),(9,.i .i64 (l.map cRl).length),(10,.i .i64 (i.1:Nat))]) (fun i=>[(7,⟨0,some (.box 322 [.sl (l.map cRl),.row 40 0 0 (i.2.map dO).length])⟩),(40,⟨0,some (.row 3 1 (i.2.map dO))⟩)]) (fun i=>i.1<=l.length/\i.2=List.range i.1) (fun i=>l.length - i.1) (0,[]) ⟨qR _,rfl⟩ jW ⟨.boxL rfl jQ rfl,.row rfl rfl,trivial⟩ fun i hi=>?_
 obtain ⟨k,out⟩:=i
 obtain ⟨hk,ho⟩:=hi
 simp only at hk ho
 refine jA ?_
 refine AW.cond rfl (fun h0=>?_) (fun h0=>?_)
 ·have h:k<l.length:=by simpa using h0
  have hL:out.length<=100000000:=by rw [ho,List.length_range];omega
  refine jA ?_
  refine RG.opS rfl (co dO out k hL rfl rfl rfl rfl (tk rfl) rfl (tk rfl) rfl rfl ⟨_,rfl,rfl⟩ rfl rfl) rfl ?_;refine jH ?_
  exact ⟨(k+1,out++[k]),⟨⟨h,by show out++[k]=List.range (k+1);rw [ho,List.range_succ]⟩,by show l.length - (k+1)<l.length - k;omega⟩,jV,⟨.boxL rfl jQ rfl,.row rfl rfl,trivial⟩⟩
 ·have h:¬k<l.length:=by simpa using h0
  obtain rfl:k=l.length:=by omega
  have hS:=tl l hf hl (((out.map dO).drop 0).take (out.map dO).length)
  rw [<- ho] at hS ⊢
  refine zE ?_
  refine RG.callS rfl rfl rfl rfl (congrArg (fun x=>[x,_]) (bq rfl)) hS rfl rfl ?_
  refine zH ?_
  exact bq rfl
def nZ (l:List Rl) (h:Hd) (m:Nat):Prop:=m<l.length/\(l.getD m Rl.zero).mat.has h=true
def py (L:List Rl) (h:Hd) (i:Nat):Option (Nat × Int)->Prop
 | none=>∀m<i,¬nZ L h m
 | some x=>x.1<i/\nZ L h x.1/\(L.getD x.1 Rl.zero).prio=x.2/\∀m<i,nZ L h m->uf L x.1 m
theorem rl (L:List Rl) (h:Hd):∀(l:List Rl) (i:Nat) (b:Option (Nat × Int)),L.drop i=l->i<=L.length->py L h i b->py L h L.length (kE h i l b)
 | [],i,b,hd,hi,hb=>by
  have:L.length<=i:=by rw [<- List.drop_eq_nil_iff];exact hd
  rw [kE,show L.length=i by omega]
  exact hb
 | r::l,i,b,hd,hi,hb=>by
  have hlt:i<L.length:=by
   have:=congrArg List.length hd
   rw [vV,qS] at this
   omega
  have hr:L[i]?=some r:=by
   have:(L.drop i)[0]?=some r:=by rw [hd];rfl
   rwa [uC,Nat.add_zero] at this
  have hrd:L.getD i Rl.zero=r:=eR hr
  have hd':L.drop (i+1)=l:=by rw [<- List.drop_drop,hd];rfl
  rw [kE]
  refine rl L h l (i+1) _ hd' (by omega) ?_
  have step:∀m,m<i+1->m<i\/m=i:=fun m hm=>by omega
  cases hh:r.mat.has h
  ·have hno:¬nZ L h i:=fun H=>by rw [nZ,hrd,hh] at H;cases H.2
   rw [uP,cond_false]
   cases b with
   | none=>exact fun m hm H=>(step m hm).elim (fun e=>hb m e H) fun e=>hno (e ▸ H)
   | some x=>exact ⟨by have:=hb.1;omega,hb.2.1,hb.2.2.1,fun m hm H=>(step m hm).elim (fun e=>hb.2.2.2 m e H) fun e=>absurd (e ▸ H) hno⟩
  ·have hyes:nZ L h i:=⟨hlt,by rw [hrd];exact hh⟩
   rw [uM]
   cases b with
   | none =>
    show py L h (i+1) (some (i,r.prio))
    exact ⟨by omega,hyes,by rw [hrd],fun m hm H=>(step m hm).elim (fun e=>absurd H (hb m e)) fun e=>Or.inr ⟨by rw [e],by omega⟩⟩
   | some x =>
    obtain ⟨h1,h2,h3,h4⟩:=hb
    by_cases hq:x.2<r.prio
    ·rw [show (some x).all (fun q=>decide (q.2<r.prio))=true from qF hq,cond_true]
     refine ⟨by omega,hyes,by rw [hrd],fun m hm H=>(step m hm).elim (fun e=>?_) fun e=>Or.inr ⟨by rw [e],by omega⟩⟩
     have:=h4 m e H
     refine Or.inl ?_
     rw [hrd]
     rcases this with h | ⟨h,_⟩ <;> omega
    ·rw [show (some x).all (fun q=>decide (q.2<r.prio))=false from qC hq,cond_false]
     refine ⟨by omega,h2,h3,fun m hm H=>(step m hm).elim (fun e=>h4 m e H) fun e=>?_⟩
     subst e
     by_cases he:r.prio=x.2
     ·exact Or.inr ⟨by rw [hrd,h3];exact he,by omega⟩
     ·exact Or.inl (by rw [hrd,h3];omega)
theorem yh {l:List Rl} {h:Hd} (H:∀m,¬nZ l h m):fnd l h=none:=by
 cases hf:fnd l h with
 | none=>rfl
 | some r =>
  obtain ⟨h1,_,h3⟩:=mS hf
  exact absurd ⟨h1,h3⟩ (H r)
theorem Ak {l:List Rl} {h:Hd} {r:Nat} (h1:nZ l h r) (h2:∀m,nZ l h m->uf l r m):fnd l h=some r:=by
 have H:=rl l h l 0 none rfl (qR _) fun m hm=>absurd hm (uS m)
 rw [fnd]
 cases hf:kE h 0 l none with
 | none =>
  rw [hf] at H
  exact absurd h1 (H r h1.1)
 | some x =>
  rw [hf] at H
  obtain ⟨_,k2,_,k4⟩:=H
  have b1:=h2 x.1 k2
  have b2:=k4 r h1.1 h1
  show some x.1=some r
  congr 1
  rcases b1 with b1 | ⟨b1,b1'⟩ <;> rcases b2 with b2 | ⟨b2,b2'⟩ <;> omega
theorem EE (l:List Rl) (h:Hd) (H:jp l):ae Tryz.prog 217 [.sl (l.map cRl),.agg (cHd h)] (GS (fnd l h)):=by
 obtain ⟨os,hp,hs,hL⟩:=H
 have hlen:os.length=l.length:=by rw [hp.length_eq,List.length_range]
 have hmem:∀m,m∈os↔m<l.length:=fun m=>by rw [hp.mem_iff,uV]
 rw [List.pairwise_iff_getElem] at hs
 refine jb Tryz.func217 ?_
 refine jB ?_
 refine AW.lens 0 rfl fun hl=>?_
 rw [qH] at hl
 refine jA ?_
 refine jm hL ?_;refine jH ?_
 refine AW.loopL (ι:=Nat) (fun k=>[(0,.sl (l.map cRl)),(3,.own 3 0 0),(9,.sl (os.map dO)),(10,.i .i64 (os.map dO).length),(11,.i .i64 (k:Nat))]) (fun _=>[(3,⟨0,some (.box 34 (cHd h))⟩)]) (fun k=>k<=os.length/\∀(j:Nat) (hj:j<os.length),j<k->¬nZ l h os[j]) (fun k=>os.length - k) 0 ⟨qR _,fun j hj h0=>absurd h0 (uS j)⟩ jW jW fun k hk=>?_
 obtain ⟨hk,hf⟩:=hk
 refine jA ?_
 refine AW.cond rfl (fun h0=>?_) (fun h0=>?_)
 ·have hk':k<os.length:=by simpa using h0
  have hm:os.length<=9223372036854775807:=by omega
  have hol:os[k]<l.length:=(hmem _).1 (vS hk')
  have hx:(l.map cRl)[os[k]]?=some (cRl (l.getD os[k] Rl.zero)):=by rw [qE,qA hol,qM,qA hol];rfl
  refine jA ?_
  refine RG.opS rfl (ai rfl (tk rfl) rfl (tk rfl) rfl rfl (show (os.map dO)[k]?=some (dO os[k]) by rw [qE,qA (by assumption)];rfl) rfl) rfl ?_
  refine jH ?_
  refine jx hx ?_
  refine wH rfl ?_
  cases hq:(l.getD os[k] Rl.zero).mat.has h
  ·refine RG.callS rfl rfl rfl rfl rfl (DX _ h _ hq) rfl rfl ?_;refine jH ?_
   refine zF ?_
   refine ⟨k+1,⟨⟨hk',fun j hj hjk=>?_⟩,by omega⟩,jV,jW⟩
   by_cases e:j=k
   ·subst e
    intro H
    rw [H.2] at hq
    cases hq
   ·exact hf j hj (by omega)
  ·refine RG.callS rfl rfl rfl rfl rfl (DX _ h _ hq) rfl rfl ?_;refine jH ?_
   refine zT ?_
   refine jR ?_
   have:fnd l h=some os[k]:=Ak ⟨hol,hq⟩ fun m H=>by
    obtain ⟨j,hj,rfl⟩:=List.getElem_of_mem ((hmem m).2 H.1)
    by_cases e:j<k
    ·exact absurd H (hf j hj e)
    ·by_cases e2:j=k
     ·subst e2;exact Or.inr ⟨rfl,qJ _⟩
     ·exact hs k j hk' hj (by omega)
   rw [this]
   rfl
 ·have hk':¬k<os.length:=by simpa using h0
  refine zE ?_
  refine jR ?_
  have:fnd l h=none:=yh fun m H=>by
   obtain ⟨j,hj,rfl⟩:=List.getElem_of_mem ((hmem m).2 H.1)
   exact hf j hj (by omega) H
  rw [this]
  rfl
def zX (l:List Rl) (h:Hd):AV:=match fnd l h with
 | none=>.tup [.i .i64 0,.agg (cHd Hd.zero),.b false]
 | some r=>.tup [.i .i64 (r:Nat),.agg (cHd (h.set (l.getD r Rl.zero).act.set)),.b true]
theorem Gc (ts:List (List Rl)) (n:Nat) (l:List Rl) (h:Hd) (hn:ts[n]?=some l) (H:jp l):ae Tryz.prog 173 [.sl (ts.map aP),.i .i64 (n:Nat),.agg (cHd h)] (zX l h):=by
 refine jb Tryz.func173 ?_
 have hlt:(ts.map aP).length=ts.length:=qH ..
 have hnl:=(qD.1 hn).1
 have g1:¬((n:Nat):Int)<0:=by omega
 have g2:¬((n:Nat):Int)>=(((ts.map aP).length:Nat):Int):=by omega
 have hx:(ts.map aP)[n]?=some (aP l):=by rw [qE,hn];rfl
 have hF:=EE l h H
 refine jB ?_;refine wF ?_;refine wH rfl ?_;refine jB ?_
 refine AW.text ?_
 refine RG.runO af 0 [(12,.b false),(17,.b false)] 400 rfl jD ?_
 refine jB ?_;refine zF ?_
 refine jx hx ?_
 refine wH rfl ?_
 cases hq:fnd l h with
 | none =>
  rw [hq] at hF
  refine jc hF ?_;refine jH ?_
  refine zT ?_
  refine jR ?_
  rw [zX,hq]
  rfl
 | some r =>
  obtain ⟨hr1,_,_⟩:=mS hq
  have hrx:(l.map cRl)[r]?=some (cRl (l.getD r Rl.zero)):=by rw [qE,qA hr1,qM,qA hr1];rfl
  rw [hq] at hF
  refine jc hF ?_;refine jH ?_
  refine zF ?_
  refine jx hx ?_
  refine wH rfl ?_
  refine jx hrx ?_
  refine wH rfl ?_
  refine jc (Fx (l.getD r Rl.zero) h) ?_;refine jH ?_
  refine jR ?_
  rw [zX,hq]
  rfl
structure Pk where
 n:Int
 t:Int
 h:Hd
 fin:Int
 sw:Int
 port:Int
 hops:List Hop
def wkB (c:Cf) (w:Pk):List (Nat × SB):=[(0,⟨0,some (.box 211 [.sl (c.topo.ports.map aL),.i .i64 c.pol.tenants,.sl (c.pol.peers.map cPr),.sl (c.pol.ways.map cWy),.sl (c.tables.map bE),.i .i64 w.n,.i .i64 w.t,.u w.h.hi,.u w.h.lo,.i .i64 w.fin,.i .i64 w.sw,.i .i64 w.port,.row 1 0 0 (w.hops.map fG).length])⟩),(1,⟨0,some (.row 79 5 (w.hops.map fG))⟩)]
def j9 (c:Cf):Prop:=∀n t,jp (bg c n t)
def wv (c:Cf) (w:Pk):Pk :=
 match fnd (bg c w.n.toNat w.t.toNat) w.h with
 | none=>⟨w.n,w.t,w.h,3,w.sw,w.port,w.hops++[⟨w.n,w.t,-1,w.h⟩]⟩
 | some r =>
  if ((bg c w.n.toNat w.t.toNat).getD r Rl.zero).act.kind=4 then ⟨w.n,((bg c w.n.toNat w.t.toNat).getD r Rl.zero).act.table,w.h.set ((bg c w.n.toNat w.t.toNat).getD r Rl.zero).act.set,w.fin,w.sw,w.port,w.hops++[⟨w.n,w.t,(r:Nat),w.h⟩]⟩
  else if ((bg c w.n.toNat w.t.toNat).getD r Rl.zero).act.kind=3 then ⟨(bt c.topo.ports ⟨w.n,((bg c w.n.toNat w.t.toNat).getD r Rl.zero).act.port⟩).peer,0,w.h.set ((bg c w.n.toNat w.t.toNat).getD r Rl.zero).act.set,w.fin,w.sw,w.port,w.hops++[⟨w.n,w.t,(r:Nat),w.h⟩]⟩
  else if ((bg c w.n.toNat w.t.toNat).getD r Rl.zero).act.kind=2 then ⟨w.n,w.t,w.h.set ((bg c w.n.toNat w.t.toNat).getD r Rl.zero).act.set,2,w.n,((bg c w.n.toNat w.t.toNat).getD r Rl.zero).act.port,w.hops++[⟨w.n,w.t,(r:Nat),w.h⟩]⟩
  else ⟨w.n,w.t,w.h.set ((bg c w.n.toNat w.t.toNat).getD r Rl.zero).act.set,1,w.sw,w.port,w.hops++[⟨w.n,w.t,(r:Nat),w.h⟩]⟩
theorem E9 (c:Cf) (hc:c.Ok) (hL:j9 c) (n t:Nat) (hat:At c n t) (h:Hd) (hops:List Hop) (hl:hops.length<=100000000) (w':Pk) (hw:wv c ⟨n,t,h,0,0,0,hops⟩=w') (g:Bool) (hg:decide (w'.fin=0)=g) (q:Nat->Option (Nat × Nat)):aq Tryz.prog 120 [.own 0 0 0] (gl q [0] (wkB c ⟨n,t,h,0,0,0,hops⟩)) (.b g) (gl q [0] (wkB c w')):=by
 obtain ⟨ts,ht1,ht2⟩:=hat.get
 have hx1:(c.tables.map bE)[n]?=some (bE ts):=by rw [qE,ht1];rfl
 have hx2:(ts.map aP)[t]?=some (aP (bg c n t)):=by rw [qE,ht2];rfl
 have hO:=Gc ts t (bg c n t) h ht2 (hL n t)
 rw [wv] at hw
 simp only [vQ] at hw
 refine aq.of_body Tryz.func120 rfl (by kernel_rfl) rfl rfl ?_
 refine jA ?_
 refine jx hx1 ?_
 refine wH rfl ?_
 cases hq:fnd (bg c n t) h with
 | none =>
  rw [zX,hq] at hO
  rw [hq] at hw
  dsimp only at hw
  subst hw
  subst hg
  refine jc hO ?_;refine jH ?_
  refine zT ?_
  refine RG.opS rfl (co fG hops ⟨n,t,-1,h⟩ hl rfl rfl rfl rfl (tk rfl) rfl (tk rfl) rfl rfl ⟨_,rfl,rfl⟩ rfl rfl) rfl ?_;refine jH ?_
  refine zT ?_
  exact AW.ret (dQ rfl (Rm.is rfl rfl) ⟨.ghost rfl rfl rfl,.boxL rfl jQ rfl,.row rfl rfl,trivial⟩)
 | some r =>
  obtain ⟨hr1,hr2,_⟩:=mS hq
  have hrx:((bg c n t).map cRl)[r]?=some (cRl ((bg c n t).getD r Rl.zero)):=by rw [qE,qA hr1,qM,qA hr1];rfl
  rw [zX,hq] at hO
  rw [hq] at hw
  dsimp only at hw hO
  generalize (bg c n t).getD r Rl.zero=x at hw hO hr2 hrx
  have hkind:=Rl.does_kind (Rl.sound_does (hat.rule hc hr2).1).2.2
  refine jc hO ?_;refine jH ?_
  refine zF ?_
  refine RG.opS rfl (co fG hops ⟨n,t,r,h⟩ hl rfl rfl rfl rfl (tk rfl) rfl (tk rfl) rfl rfl ⟨_,rfl,rfl⟩ rfl rfl) rfl ?_;refine jH ?_
  refine zF ?_
  refine jx hx1 ?_
  refine wH rfl ?_
  refine jx hx2 ?_
  refine wH rfl ?_
  refine jx hrx ?_
  refine jH ?_
  refine AW.cond rfl (fun k4=>?_) (fun k4=>?_)
  ·have k4:x.act.kind=4:=of_decide_eq_true k4
   rw [if_pos k4] at hw
   subst hw
   subst hg
   refine jA ?_
   exact AW.ret (dQ rfl (Rm.is rfl rfl) ⟨.ghost rfl rfl rfl,.boxL rfl jQ rfl,.row rfl rfl,trivial⟩)
  have k4:¬x.act.kind=4:=of_decide_eq_false k4
  rw [if_neg k4] at hw
  refine jA ?_
  refine AW.cond rfl (fun k3=>?_) (fun k3=>?_)
  ·have k3:x.act.kind=3:=of_decide_eq_true k3
   rw [if_pos k3] at hw
   obtain ⟨hl1,hl2,hl3⟩:=hat.link hc hr2 k3
   obtain ⟨hd1,hd2,hd3⟩:=Rl.does_forward (Rl.sound_does (hat.rule hc hr2).1).2.2 k3
   obtain ⟨pn,hpn⟩:=Int.eq_ofNat_of_zero_le hd1
   have hnl:n<c.topo.ports.length:=by rw [<- hc.len];exact hat.sw
   have ep:c.topo.ports.getD n []=c.topo.ports[n]:=eR (qA hnl)
   rw [ep] at hd2
   have hpl:pn<c.topo.ports[n].length:=by omega
   have epp:bt c.topo.ports ⟨n,x.act.port⟩=c.topo.ports[n][pn]:=by
    rw [hpn]
    exact kQ (qA hnl) (qA hpl)
   have hOt:=Cs c.topo.ports n pn _ _ hc.topo (qA hnl) (qA hpl) (by rw [<- epp];exact hl3)
   rw [epp] at hw
   rw [<- hpn] at hOt
   subst hw
   subst hg
   refine jA ?_
   refine jc hOt ?_;refine jH ?_
   exact AW.ret (dQ rfl (Rm.is rfl rfl) ⟨.ghost rfl rfl rfl,.boxL rfl jQ rfl,.row rfl rfl,trivial⟩)
  have k3:¬x.act.kind=3:=of_decide_eq_false k3
  rw [if_neg k3] at hw
  refine jA ?_
  refine AW.cond rfl (fun k2=>?_) (fun k2=>?_)
  ·have k2:x.act.kind=2:=of_decide_eq_true k2
   rw [if_pos k2] at hw
   subst hw
   subst hg
   refine jA ?_
   exact AW.ret (dQ rfl (Rm.is rfl rfl) ⟨.ghost rfl rfl rfl,.boxL rfl jQ rfl,.row rfl rfl,trivial⟩)
  have k2:¬x.act.kind=2:=of_decide_eq_false k2
  rw [if_neg k2] at hw
  subst hw
  subst hg
  refine jA ?_
  exact AW.ret (dQ rfl (Rm.is rfl rfl) ⟨.ghost rfl rfl rfl,.boxL rfl jQ rfl,.row rfl rfl,trivial⟩)
theorem Rn.fnOwn {σ σ':Sto} {x:AV} {f:FuncId} {id ep ep' off:Nat} {bd bd':aD} (e:x = .fn f [.own id ep off] []) (h:σ id=⟨ep,some bd⟩) (h':σ' id=⟨ep',some bd'⟩):Rn σ σ' x (.fn f [.own id ep' off] []):=by
 subst e
 refine .fn rfl rfl (fun j x x' h1 h2=>?_) (fun j x x' h1=>by simp at h1)
 cases j with
 | zero =>
  obtain rfl:AV.own id ep off=x:=by simpa using h1
  obtain rfl:AV.own id ep' off=x':=by simpa using h2
  exact .own h h'
 | succ j=>simp at h1
def wkC (c:Cf) (n t:Nat) (h:Hd) (hops:List Hop):List AV:=[.sl (c.topo.ports.map aL),.i .i64 c.pol.tenants,.sl (c.pol.peers.map cPr),.sl (c.pol.ways.map cWy),.sl (c.tables.map bE),.i .i64 n,.i .i64 t,.u h.hi,.u h.lo,.i .i64 0,.i .i64 0,.i .i64 0,.row 40 0 0 (hops.map fG).length]
theorem mo (fin sw port:Int) (hops:List Hop) (R:Run) (h:(⟨fin,⟨sw,port⟩,hops⟩:Run)=R):AV.tup [.agg [.i .i64 fin,.i .i64 sw,.i .i64 port,.sl (((hops.map fG).drop 0).take (hops.map fG).length)],.i .i64 0] = .tup [.agg (pD R),.i .i64 0]:=congrArg (fun x=>AV.tup [x,.i .i64 0]) (Fu fin sw port hops R h)
theorem Gp (c:Cf) (h0:c.sound=0) (hL:j9 c) (s:Sp) (hs:s∈aG c.topo.ports) (h:Hd) (V:Nat) (hV:V<=255):ae Tryz.prog 72 [.agg (cCf c),.agg (cSp s),.agg (cHd h),.i .i64 V] (.tup [.agg (pD (bC c s h V 10800)),.i .i64 0]):=by
 have hc:=Cf.ok h0
 have hSt:=rQ c s V
 have e0:dH c s V=0:=by rw [dH,if_pos h0,if_neg (by omega),if_pos hs]
 rw [ig,e0,if_pos rfl] at hSt
 obtain ⟨n0,r0,a0,p0,hr0,hp0,hk0,rfl⟩:=dY.1 hs
 have hat0:At c n0 0:=At.start hc (qD.1 hr0).1
 have hR:goF c 10800 n0 0 (h.set (bL c ⟨n0,a0⟩ V)) []=bC c ⟨n0,a0⟩ h V 10800:=rfl
 generalize bC c ⟨n0,a0⟩ h V 10800=R at hR
 have hS:=D5 h (bL c ⟨n0,a0⟩ V)
 generalize h.set (bL c ⟨n0,a0⟩ V)=g0 at hR hS
 refine jb Tryz.func72 ?_
 refine jA ?_
 refine jc hSt ?_;refine jH ?_
 refine AW.condF rfl ?_;refine jB ?_
 refine AW.draws aN ?_
 refine wH rfl ?_
 refine jc hS ?_
 refine wH rfl ?_;refine jB ?_
 refine AW.nilRow 40 0 79 5 [(8,.own 8 0 0),(12,.own 33 0 0)] [(8,⟨0,some (.box 43 [.i .i64 0,.i .i64 0,.i .i64 0,.raw (.slice none 0 0)])⟩),(33,⟨0,some (.box 211 (wkC c n0 0 g0 []))⟩),(40,⟨0,some (.row 79 5 [])⟩)] ⟨.rn (Rn.ownIs rfl rfl rfl),.rn (Rn.ownIs rfl rfl rfl),trivial⟩ ⟨.old (.same rfl rfl rfl),.boxL rfl ⟨RnN.is rfl rfl,RnN.is rfl rfl,RnN.is rfl rfl,RnN.is rfl rfl,RnN.is rfl rfl,RnN.is rfl rfl,RnN.is rfl rfl,RnN.is rfl rfl,RnN.is rfl rfl,RnN.is rfl rfl,RnN.is rfl rfl,RnN.is rfl rfl,.nil rfl,trivial⟩ rfl,.old (.row rfl rfl),trivial⟩ ?_
 refine jA ?_
 refine AW.loopL (ι:=Nat × Nat × Nat × Hd × List Hop) (fun i=>[(8,.own 8 0 0),(12,.own 33 0 0),(13,.fn 120 [.own 33 0 0] []),(36,.i .i64 (i.1:Nat))]) (fun i=>[(8,⟨0,some (.box 43 [.i .i64 0,.i .i64 0,.i .i64 0,.raw (.slice none 0 0)])⟩),(33,⟨0,some (.box 211 (wkC c i.2.1 i.2.2.1 i.2.2.2.1 i.2.2.2.2))⟩),(40,⟨0,some (.row 79 5 (i.2.2.2.2.map fG))⟩)]) (fun i=>(i.1<=10800/\i.2.2.2.2.length=i.1)/\At c i.2.1 i.2.2.1/\goF c (10800 - i.1) i.2.1 i.2.2.1 i.2.2.2.1 i.2.2.2.2=R) (fun i=>10800 - i.1) (0,n0,0,g0,[]) ⟨⟨qR _,rfl⟩,hat0,hR⟩ ⟨Rn.ownIs rfl rfl rfl,Rn.ownIs rfl rfl rfl,Rn.fnOwn rfl rfl rfl,Rn.is rfl rfl,trivial⟩ ⟨.same rfl rfl rfl,.boxL rfl jQ rfl,.row rfl rfl,trivial⟩ fun i hi=>?_
 obtain ⟨k,n,t,h,hops⟩:=i
 obtain ⟨⟨hk,hlen⟩,hat,hf⟩:=hi
 simp only at hk hlen hat hf
 clear hR hS hSt hat0
 refine jA ?_
 refine AW.cond rfl (fun h1=>?_) (fun h1=>?_)
 rotate_left
 ·have h1:=of_decide_eq_false h1
  have h1:¬((k:Nat):Int)<10800:=h1
  obtain rfl:k=10800:=by omega
  rw [Nat.sub_self,goF] at hf
  refine zE ?_
  refine jR ?_
  exact mo 4 0 0 hops R hf
 have h1:=of_decide_eq_true h1
 have h1:((k:Nat):Int)<10800:=h1
 have hk':k<10800:=by omega
 have hL1:hops.length<=100000000:=by omega
 obtain ⟨f,hfu⟩:∃f,10800 - k=f+1:=⟨10800 - k - 1,by omega⟩
 have hlt:∀x:Hop,(hops++[x]).length=k+1:=fun x=>by rw [qK,uB,hlen]
 have hnx:10800 - (k+1)=f:=by omega
 rw [hfu,goF] at hf
 have hw:∀w',wv c ⟨n,t,h,0,0,0,hops⟩=w'->∀g,decide (w'.fin=0)=g->∀q,aq Tryz.prog 120 [.own 0 0 0] (gl q [0] (wkB c ⟨n,t,h,0,0,0,hops⟩)) (.b g) (gl q [0] (wkB c w')):=fun w' hw g hg q=>E9 c hc hL n t hat h hops hL1 w' hw g hg q
 simp only [wv,vQ] at hw
 cases hq:fnd (bg c n t) h with
 | none =>
  rw [hq] at hf hw
  dsimp only at hf hw
  refine jA ?_
  refine RG.ownN [(33,0),(40,1)] [(0,33),(1,40)] (fun q=>hw _ rfl false rfl q) rfl rfl rfl rfl rfl rfl rfl rfl rfl rfl ?_
  refine jH ?_;refine zT ?_
  refine jR ?_
  exact mo 3 0 0 _ R hf
 | some r =>
  obtain ⟨hr1,hr2,_⟩:=mS hq
  rw [hq] at hf hw
  dsimp only at hf hw
  generalize (bg c n t).getD r Rl.zero=x at hw hf hr2
  by_cases k4:x.act.kind=4
  ·rw [if_pos k4] at hf hw
   have hg:=Rl.does_goto (Rl.sound_does (hat.rule hc hr2).1).2.2 k4
   refine jA ?_
   refine RG.ownN [(33,0),(40,1)] [(0,33),(1,40)] (fun q=>hw _ rfl true rfl q) rfl rfl rfl rfl rfl rfl rfl rfl rfl rfl ?_
   refine jH ?_;refine zF ?_
   exact ⟨(k+1,n,x.act.table.toNat,h.set x.act.set,hops++[⟨n,t,r,h⟩]),⟨⟨⟨by show k+1<=10800;omega,hlt _⟩,hat.goto hc hr2 k4,by show goF c (10800 - (k+1)) _ _ _ _=R;rw [hnx];exact hf⟩,by show 10800 - (k+1)<10800 - k;omega⟩,⟨Rn.ownIs rfl rfl rfl,Rn.ownIs rfl rfl rfl,Rn.fnOwn rfl rfl rfl,Rn.is (au hk' (by decide)) rfl,trivial⟩,⟨.same rfl rfl rfl,.boxL rfl ⟨Rn.is rfl rfl,Rn.is rfl rfl,Rn.is rfl rfl,Rn.is rfl rfl,Rn.is rfl rfl,Rn.is rfl rfl,Rn.is (congrArg (AV.i .i64) (show x.act.table=(x.act.table.toNat:Nat) by omega)) rfl,Rn.is rfl rfl,Rn.is rfl rfl,Rn.is rfl rfl,Rn.is rfl rfl,Rn.is rfl rfl,Rn.rowIs rfl rfl rfl,trivial⟩ rfl,.row rfl rfl,trivial⟩⟩
  rw [if_neg k4] at hf hw
  by_cases k3:x.act.kind=3
  ·rw [if_pos k3] at hf hw
   obtain ⟨hl1,hl2,hl3⟩:=hat.link hc hr2 k3
   have hat2:=hat.forward hc hr2 k3
   refine jA ?_
   refine RG.ownN [(33,0),(40,1)] [(0,33),(1,40)] (fun q=>hw _ rfl true rfl q) rfl rfl rfl rfl rfl rfl rfl rfl rfl rfl ?_
   refine jH ?_;refine zF ?_
   exact ⟨(k+1,(bt c.topo.ports ⟨n,x.act.port⟩).peer.toNat,0,h.set x.act.set,hops++[⟨n,t,r,h⟩]),⟨⟨⟨by show k+1<=10800;omega,hlt _⟩,hat2,by show goF c (10800 - (k+1)) _ _ _ _=R;rw [hnx];exact hf⟩,by show 10800 - (k+1)<10800 - k;omega⟩,⟨Rn.ownIs rfl rfl rfl,Rn.ownIs rfl rfl rfl,Rn.fnOwn rfl rfl rfl,Rn.is (au hk' (by decide)) rfl,trivial⟩,⟨.same rfl rfl rfl,.boxL rfl ⟨Rn.is rfl rfl,Rn.is rfl rfl,Rn.is rfl rfl,Rn.is rfl rfl,Rn.is rfl rfl,Rn.is (congrArg (AV.i .i64) (show (bt c.topo.ports ⟨n,x.act.port⟩).peer=((bt c.topo.ports ⟨n,x.act.port⟩).peer.toNat:Nat) by omega)) rfl,Rn.is rfl rfl,Rn.is rfl rfl,Rn.is rfl rfl,Rn.is rfl rfl,Rn.is rfl rfl,Rn.is rfl rfl,Rn.rowIs rfl rfl rfl,trivial⟩ rfl,.row rfl rfl,trivial⟩⟩
  rw [if_neg k3] at hf hw
  by_cases k2:x.act.kind=2
  ·rw [if_pos k2] at hf hw
   refine jA ?_
   refine RG.ownN [(33,0),(40,1)] [(0,33),(1,40)] (fun q=>hw _ rfl false rfl q) rfl rfl rfl rfl rfl rfl rfl rfl rfl rfl ?_
   refine jH ?_;refine zT ?_
   refine jR ?_
   exact mo 2 n x.act.port _ R hf
  ·rw [if_neg k2] at hf hw
   refine jA ?_
   refine RG.ownN [(33,0),(40,1)] [(0,33),(1,40)] (fun q=>hw _ rfl false rfl q) rfl rfl rfl rfl rfl rfl rfl rfl rfl rfl ?_
   refine jH ?_;refine zT ?_
   refine jR ?_
   exact mo 1 0 0 _ R hf
theorem lM (l:List Int) (hl:l.length<=1000000):ae Tryz.prog 38 [.sl (l.map cI)] (.sl (l.map cI)):=by
 cases l with
 | nil =>
  refine ae.raw0 fun A c=>?_
  refine jb Tryz.func38 ?_
  cases A with
  | none =>
   refine jA ?_
   refine zT ?_
   exact zS
  | some A =>
   refine jA ?_
   refine zF ?_
   refine RG.opS rfl (di (id:=5) rfl (tk rfl) rfl (tk rfl)) rfl ?_;refine jH ?_
   refine RG.opS rfl (nI (id:=5) (els:=[]) rfl rfl rfl rfl (tk rfl) rfl (tk rfl) rfl (.inl ⟨_,rfl,rfl⟩) rfl (by decide) (by decide)) rfl ?_
   refine zH ?_
   rfl
 | cons x l =>
  refine jb Tryz.func38 ?_
  refine jA ?_
  refine zF ?_
  refine RG.opS rfl (di (id:=5) rfl (tk rfl) rfl (tk rfl)) rfl ?_;refine jH ?_
  refine RG.opS rfl (iV cI ([]:List Int) (x::l) (by simp at hl ⊢;omega) (fun _=>rfl) rfl rfl rfl rfl (tk rfl) rfl (tk rfl) rfl rfl ⟨_,rfl,rfl⟩ rfl) rfl ?_;refine jH ?_
  refine jR ?_
  exact bq rfl
theorem mK (l:List Cb) (hl:l.length<=1000000):ae Tryz.prog 40 [.sl (l.map cCb)] (.sl (l.map cCb)):=by
 cases l with
 | nil =>
  refine ae.raw0 fun A c=>?_
  refine jb Tryz.func40 ?_
  cases A with
  | none =>
   refine jA ?_
   refine zT ?_
   exact zS
  | some A =>
   refine jA ?_
   refine zF ?_
   refine RG.opS rfl (di (id:=5) rfl (tk rfl) rfl (tk rfl)) rfl ?_;refine jH ?_
   refine RG.opS rfl (nI (id:=5) (els:=[]) rfl rfl rfl rfl (tk rfl) rfl (tk rfl) rfl (.inl ⟨_,rfl,rfl⟩) rfl (by decide) (by decide)) rfl ?_
   refine zH ?_
   rfl
 | cons x l =>
  refine jb Tryz.func40 ?_
  refine jA ?_
  refine zF ?_
  refine RG.opS rfl (di (id:=5) rfl (tk rfl) rfl (tk rfl)) rfl ?_;refine jH ?_
  refine RG.opS rfl (iV cCb ([]:List Cb) (x::l) (by simp at hl ⊢;omega) (fun _=>rfl) rfl rfl rfl rfl (tk rfl) rfl (tk rfl) rfl rfl ⟨_,rfl,rfl⟩ rfl) rfl ?_;refine jH ?_
  refine jR ?_
  exact bq rfl
theorem mh {P:Program} {N:Nat} {o:Oper} {s:St} {c:Call} {x:Operand} {t e:Nat} {ti:TI} (ho:o.op = .call c) (hc:c.callee = .builtin .cap) (ha:c.args = #[x]) (hat:c.argTypes = #[t]) (ht:aF P t ti) (hk:ti.k = .slice e) (hx:s.ev x = .raw (.slice none 0 0)):ay P N o s ⟨.i .i64 ((0:Nat):Int),[],[]⟩:=by
 refine aA [] _ fun s' W F μ a h1 h2 hs=>⟨.int .i64 ((0:Nat):Int),?_,.pure (.i _ _)⟩
 have ex:=hs.ev x
 rw [h1 x (by rw [ho];simp [Op.operands,Call.operands,hc,ha]),hx] at ex
 simp only [execOp,ho,resolve,hc,ha,hat,List.map_toArray,vE,List.map_nil,Sem.run_bind,Sem.run_pure,Result.andThen_ok,invoke,builtin,Builtin.cap_,ex.raw',uF,List.getElem?_cons_zero,run_underlying (ht.slice hk),goInt]
theorem ES (n:Nat) (h0:0<n) (hn:n<=1000000) (q:Nat->Option (Nat × Nat)):aq Tryz.prog 246 [.raw (.slice none 0 0),.i .i64 (n:Nat)] (gl q [] []) (.row 2 0 0 0) (gl q [] [(2,⟨0,some (.row 3 1 [])⟩)]):=by
 refine aq.of_body Tryz.func246 rfl (by kernel_rfl) rfl rfl ?_
 refine jA ?_
 refine AW.cond rfl (fun h=>?_) (fun h=>?_)
 ·exact absurd (of_decide_eq_true h) (by simp only [qG];omega)
 have hw:IntKind.i64.wrap ((n:Int) - IntKind.i64.wrap (((0:Nat):Int) - ((0:Nat):Int)))=(n:Nat):=by
  rw [IntKind.wrap_i64,IntKind.wrap_i64]
  omega
 refine jA ?_
 refine RG.opS rfl (mh rfl rfl rfl rfl (tk rfl) rfl rfl) rfl ?_
 refine RG.runO af 0 [(14,.i .i64 (n:Nat))] 400 rfl jD ?_
 refine jA ?_
 refine AW.cond rfl (fun h=>?_) (fun h=>?_)
 rotate_left
 ·exact absurd (show Int.ofNat 0<(n:Int) by simp only [qG];omega) (of_decide_eq_false h)
 refine jA ?_
 refine RG.opS rfl (mh rfl rfl rfl rfl (tk rfl) rfl rfl) rfl ?_
 refine RG.opS rfl (o4 rfl (tk rfl) rfl (tk rfl) rfl .no (.at_ rfl)) rfl ?_
 refine wH rfl ?_
 refine RG.opS rfl (je (id:=2) n h0 (by omega) rfl rfl rfl rfl (tk rfl) rfl (tk rfl) rfl (tk rfl) (by decide) (by decide) rfl rfl) rfl ?_
 refine wH rfl ?_
 refine RG.opS rfl (oN (h:=0) rfl (tk rfl) rfl (tk rfl) rfl rfl .no (.at_ rfl) (qR _)) rfl ?_
 refine wH rfl ?_;refine jB ?_
 refine AW.only [(0,.row 2 0 0 0)] [(2,⟨0,some (.row 3 1 [])⟩)] ⟨Rn.rowTIs rfl rfl rfl (qJ _),trivial⟩ ⟨.rowT (n:=0) rfl rfl,trivial⟩ ?_
 refine jA ?_
 exact AW.ret (dQ rfl (Rm.rowIs rfl rfl rfl rfl) ⟨.row rfl rfl,trivial⟩)
def cL (l:List Int):List AV:=[.sl (l.map cI)]
theorem iJ {α:Type} (xs:List (List α)) (k:Nat) (h:k<xs.length):(xs.take (k+1)).flatten=(xs.take k).flatten++xs[k]:=by
 rw [List.take_add_one,qA h,List.flatten_append]
 simp only [Option.toList,uL,List.flatten_nil,vZ]
theorem mv {α:Type} (xs:List (List α)) (k:Nat):(xs.take k).flatten.length<=xs.flatten.length:=by
 have e:=congrArg List.length (congrArg List.flatten (uU k xs))
 rw [List.flatten_append,qK] at e
 omega
theorem Ax (xs:List (List Int)) (h0:0<xs.flatten.length) (hn:xs.flatten.length<=1000000) (hx:xs.length<=1000000):ae Tryz.prog 225 [.sl (xs.map cL)] (.sl (xs.flatten.map cI)):=by
 refine jb Tryz.func225 ?_
 have hm:xs.length<=9223372036854775807:=by omega
 refine jA ?_
 refine AW.loopL (ι:=Nat × Nat) (fun i=>[(0,.sl (xs.map cL)),(3,.i .i64 (i.2:Nat)),(9,.sl (xs.map cL)),(10,.i .i64 (xs.map cL).length),(11,.i .i64 (i.1:Nat))]) (fun _=>[]) (fun i=>i.1<=xs.length/\i.2=(xs.take i.1).flatten.length) (fun i=>xs.length - i.1) (0,0) ⟨qR _,rfl⟩ jW trivial fun i hi=>?_
 obtain ⟨k,n⟩:=i
 obtain ⟨hk,hf⟩:=hi
 simp only at hk hf
 refine jA ?_
 refine AW.cond rfl (fun h0'=>?_) (fun h0'=>?_)
 ·have h:k<xs.length:=by simpa using h0'
  have h2:n+xs[k].length=(xs.take (k+1)).flatten.length:=by rw [iJ xs k h,qK,hf]
  have h3:=mv xs (k+1)
  have hw:IntKind.i64.wrap ((n:Int)+((xs[k].map cI).length:Nat))=((n+xs[k].length:Nat):Int):=by
   rw [IntKind.wrap_i64,qH]
   omega
  refine zB ?_
  refine RG.opS rfl (ai rfl (tk rfl) rfl (tk rfl) rfl rfl (show (xs.map cL)[k]?=some (cL xs[k]) by rw [qE,qA (by assumption)];rfl) rfl) rfl ?_
  refine wH rfl ?_;refine jB ?_
  refine AW.text ?_
  refine RG.runO af 0 [(18,.i .i64 (n+xs[k].length:Nat))] 400 rfl jD ?_
  refine jA ?_
  refine AW.cond rfl (fun h4=>?_) (fun h4=>?_)
  ·exact absurd (of_decide_eq_true h4) (by simp only [qG];omega)
  refine jA ?_
  exact ⟨(k+1,n+xs[k].length),⟨⟨h,h2⟩,by show xs.length - (k+1)<xs.length - k;omega⟩,⟨Rn.is rfl rfl,Rn.is rfl rfl,Rn.is rfl rfl,Rn.is rfl rfl,Rn.is (au h hm) rfl,trivial⟩,trivial⟩
 have h:¬k<xs.length:=by simpa using h0'
 obtain rfl:k=xs.length:=by omega
 rw [vW] at hf
 subst hf
 refine zE ?_
 refine RG.ownNV [] [(2,6)] (fun q=>ES _ h0 hn q) rfl rfl rfl rfl rfl rfl rfl rfl rfl rfl ?_
 refine jH ?_
 refine AW.loopL (ι:=Nat × List Int) (fun i=>[(6,.row 6 0 0 (i.2.map cI).length),(25,.sl (xs.map cL)),(26,.i .i64 (xs.map cL).length),(27,.i .i64 (i.1:Nat))]) (fun i=>[(6,⟨0,some (.row 3 1 (i.2.map cI))⟩)]) (fun i=>i.1<=xs.length/\i.2=(xs.take i.1).flatten) (fun i=>xs.length - i.1) (0,[]) ⟨qR _,rfl⟩ jW jW fun i hi=>?_
 obtain ⟨k,out⟩:=i
 obtain ⟨hk,hf⟩:=hi
 simp only at hk hf
 refine jA ?_
 refine AW.cond rfl (fun h0'=>?_) (fun h0'=>?_)
 ·have h:k<xs.length:=by simpa using h0'
  have h2:out++xs[k]=(xs.take (k+1)).flatten:=by rw [iJ xs k h,hf]
  have h3:=mv xs (k+1)
  rw [<- h2,qK] at h3
  refine jA ?_
  refine RG.opS rfl (ai rfl (tk rfl) rfl (tk rfl) rfl rfl (show (xs.map cL)[k]?=some (cL xs[k]) by rw [qE,qA (by assumption)];rfl) rfl) rfl ?_
  refine jH ?_
  refine RG.opS rfl (iV cI out xs[k] (by omega) (fun _=>rfl) rfl rfl rfl rfl (tk rfl) rfl (tk rfl) rfl rfl ⟨_,rfl,rfl⟩ rfl) rfl ?_;refine jH ?_
  exact ⟨(k+1,_),⟨⟨h,h2⟩,by show xs.length - (k+1)<xs.length - k;omega⟩,⟨Rn.rowIs rfl rfl rfl,Rn.is rfl rfl,Rn.is rfl rfl,Rn.is (au h hm) rfl,trivial⟩,jW⟩
 ·have h:¬k<xs.length:=by simpa using h0'
  obtain rfl:k=xs.length:=by omega
  rw [vW] at hf
  subst hf
  refine zE ?_
  refine jR ?_
  exact bq rfl
theorem zN (l:List Int) (hs:l.Pairwise (· < ·)):ae Tryz.prog 238 [.sl (l.map cI)] (.b true):=by
 refine jb Tryz.func238 ?_
 rw [List.pairwise_iff_getElem] at hs
 refine jB ?_
 refine AW.lens 0 rfl fun hm=>?_
 rw [qH] at hm
 refine jA ?_
 refine AW.loopL (ι:=Nat) (fun k=>[(0,.sl (l.map cI)),(3,.i .i64 ((k+1:Nat):Int))]) (fun _=>[]) (fun k=>True) (fun k=>l.length - k) 0 trivial jW trivial fun k hk=>?_
 refine jA ?_
 refine AW.cond rfl (fun h0=>?_) (fun h0=>?_)
 ·have h:k+1<l.length:=by
   have:=of_decide_eq_true h0
   rw [qH] at this
   omega
  have hw:IntKind.i64.wrap (((k+1:Nat):Int) - Int.ofNat 1)=(k:Nat):=by
   rw [IntKind.wrap_i64]
   simp only [qG]
   omega
  have hlt:=hs k (k+1) (by omega) h (by omega)
  refine zD ?_
  refine wH rfl ?_
  refine RG.opS rfl (ai rfl (tk rfl) rfl (tk rfl) rfl rfl (show (l.map cI)[k+1]?=some (cI l[k+1]) by rw [qE,qA (by assumption)];rfl) rfl) rfl ?_
  refine RG.runO af 0 [(16,.i .i64 (k:Nat))] 400 rfl jD ?_
  refine RG.opS rfl (ai rfl (tk rfl) rfl (tk rfl) rfl rfl (show (l.map cI)[k]?=some (cI (l[k]'(by omega))) by rw [qE,qA (by omega)];rfl) rfl) rfl ?_
  refine wH rfl ?_;refine jB ?_
  refine AW.cond rfl (fun h1=>?_) (fun h1=>?_)
  ·exact absurd (of_decide_eq_true h1) (by omega)
  refine jA ?_
  exact ⟨k+1,⟨trivial,by omega⟩,⟨Rn.is rfl rfl,Rn.is (au h hm) rfl,trivial⟩,trivial⟩
 ·refine jA ?_
  refine jE ?_;refine jA ?_
  exact zS
theorem mt (l:List Int) (hs:l.Pairwise (· < ·)) (hl:l.length<=1000000):ae Tryz.prog 204 [.sl (l.map cI)] (.sl (l.map cI)):=by
 refine jb Tryz.func204 ?_
 refine jA ?_
 refine jm (lM l hl) ?_;refine jH ?_
 refine jc (zN l hs) ?_;refine jH ?_
 refine zF ?_
 refine jm (jt l) ?_;refine jH ?_
 exact zS
theorem EK (a b:List Int) (hs:(a++b).Pairwise (· < ·)) (hb:0<b.length) (hl:a.length+b.length<=1000000):ae Tryz.prog 186 [.sl (a.map cI),.sl (b.map cI)] (.sl ((a++b).map cI)):=by
 have hC:=Ax [a,b] (by simp;omega) (by simp;omega) (by show 2<=1000000;decide)
 rw [show [a,b].flatten=a++b by simp] at hC
 refine jb Tryz.func186 ?_
 refine jA ?_
 refine jm hC ?_;refine jH ?_
 refine RG.callMS rfl rfl rfl rfl rfl rfl (mt (a++b) hs (by rw [qK];omega)) rfl ?_;refine jH ?_
 exact zS
theorem tg (x:Cb):ae Tryz.prog 237 [.agg (cCb x)] (.b (!x.sound)):=by
 refine jb Tryz.func237 ?_
 refine jA ?_
 refine RG.callS rfl rfl rfl rfl rfl (aV x _ rfl) rfl rfl ?_;refine jH ?_
 exact zS
theorem vl (p:List Cb):(p.any fun x=>!x.sound) = !p.all Cb.sound:=by
 rw [Bool.eq_iff_iff]
 simp
theorem ip (p:List Cb) (q:Bool) (hq:aj p=q):ae Tryz.prog 203 [.sl (p.map cCb)] (.b q):=by
 subst hq
 refine jb Tryz.func203 ?_
 have hl:(p.map cCb).length=p.length:=qH ..
 refine jB ?_;refine wF ?_;refine wH rfl ?_;refine jB ?_
 refine AW.text ?_
 by_cases h:(((p.map cCb).length:Nat):Int)<=200
 ·refine RG.runO af 0 [(5,.b true)] 400 rfl jD ?_
  refine RG.callS rfl rfl rfl rfl rfl (fB _ (fun x=>!x.sound) p (fun x _=>tg x) _ (vl p)) rfl rfl ?_;refine jH ?_
  refine jR ?_
  exact congrArg AV.b (by rw [aj,qF (by omega),Bool.not_not];rfl)
 ·refine RG.runO af 0 [(5,.b false)] 400 rfl jD ?_
  refine zH ?_
  exact congrArg AV.b (by rw [aj,qC (by omega)];rfl)
theorem nA (p q:List Cb) (b:Bool) (hb:(aj p && aj q)=b):ae Tryz.prog 207 [.sl (p.map cCb),.sl (q.map cCb)] (.i .i64 (bif b then 0 else 2)):=by
 subst hb
 refine jb Tryz.func207 ?_
 refine jA ?_
 cases h1:aj p
 ·refine RG.callS rfl rfl rfl rfl rfl (ip p _ h1) rfl rfl ?_;refine jH ?_
  refine zT ?_
  exact zS
 refine RG.callS rfl rfl rfl rfl rfl (ip p _ h1) rfl rfl ?_;refine jH ?_
 cases h2:aj q
 ·refine RG.callS rfl rfl rfl rfl rfl (ip q _ h2) rfl rfl ?_;refine jH ?_
  refine zT ?_
  exact zS
 refine RG.callS rfl rfl rfl rfl rfl (ip q _ h2) rfl rfl ?_;refine jH ?_
 refine zF ?_
 exact zS
theorem uj (p:List Cb) (n:Nat) (x:Cb) (hx:p[n]?=some x) (v:Bool) (hv:cE x n 0 p=v):ae Tryz.prog 250 [.sl (p.map cCb),.i .i64 (n:Nat)] (.b v):=by
 subst hv
 refine jb Tryz.func250 ?_
 have hxx:(p.map cCb)[n]?=some (cCb x):=by rw [qE,hx];rfl
 refine jA ?_
 refine AW.lens 7 rfl fun hm=>?_
 rw [qH] at hm
 refine AW.loopL (ι:=Nat) (fun k=>[(0,.sl (p.map cCb)),(1,.i .i64 (n:Nat)),(7,.sl (p.map cCb)),(8,.i .i64 (p.map cCb).length),(9,.i .i64 (k:Nat))]) (fun _=>[]) (fun k=>k<=p.length/\cE x n k (p.drop k)=cE x n 0 p) (fun k=>p.length - k) 0 ⟨qR _,rfl⟩ jW trivial fun k hk=>?_
 obtain ⟨hk,hf⟩:=hk
 refine jA ?_
 refine AW.cond rfl (fun h0=>?_) (fun h0=>?_)
 ·have h:k<p.length:=by simpa using h0
  rw [qV h,cE] at hf
  have hkx:(p.map cCb)[k]?=some (cCb p[k]):=by rw [qE,qA h];rfl
  generalize p[k]=c at hf hkx
  (repeat first|apply wA|apply wB|apply wC|apply wE|(apply zM;·kernel_rfl)|apply wF|apply wG)
  refine wH rfl ?_
  refine jx hkx ?_
  refine wH rfl ?_;refine jB ?_
  refine AW.draws aN ?_
  by_cases h1:((k:Nat):Int)=(n:Nat)
  ·have e : (decide (k ≠ n) && x.within c && (decide (x ≠ c) || decide (k < n))) = false := by
    rw [qC (show ¬k≠n by omega)];rfl
   rw [e] at hf
   refine RG.runO af 0 [(16,.b false)] 400 rfl jD ?_
   refine jB ?_;refine zF ?_
   exact ⟨k+1,⟨⟨h,hf⟩,by omega⟩,jV,trivial⟩
  rw [qF (show k≠n by omega),uM] at hf
  refine RG.runO af 0 [(16,.b true)] 400 rfl jD ?_
  refine jx hxx ?_
  refine wH rfl ?_
  cases h2:x.within c
  ·rw [h2] at hf
   refine RG.callS rfl rfl rfl rfl rfl (rK x c _ h2) rfl rfl ?_;refine jH ?_
   refine zF ?_
   exact ⟨k+1,⟨⟨h,hf⟩,by omega⟩,jV,trivial⟩
  rw [h2,uM] at hf
  refine RG.callS rfl rfl rfl rfl rfl (rK x c _ h2) rfl rfl ?_
  refine wH rfl ?_
  refine jx hxx ?_
  refine wH rfl ?_
  by_cases h3:x=c
  ·rw [qC (show ¬x≠c from fun h=>h h3),Bool.false_or] at hf
   refine RG.opS rfl (eG rfl af (by kernel_rfl) (by kernel_rfl) rfl rfl (oO x c) (congrArg Bool.not (qF h3))) rfl ?_
   refine wH rfl ?_;refine jB ?_
   refine AW.cond rfl (fun h4=>?_) (fun h4=>?_)
   ·have h4:k<n:=Int.ofNat_lt.1 (of_decide_eq_true h4)
    rw [qF h4] at hf
    refine zR ?_
    exact congrArg AV.b hf
   ·have h4:¬k<n:=fun h5=>of_decide_eq_false h4 (Int.ofNat_lt.2 h5)
    rw [qC h4] at hf
    refine jA ?_
    exact ⟨k+1,⟨⟨h,hf⟩,by omega⟩,jV,trivial⟩
  ·rw [qF (show x≠c from h3),Bool.true_or] at hf
   refine RG.opS rfl (eG rfl af (by kernel_rfl) (by kernel_rfl) rfl rfl (oO x c) (congrArg Bool.not (qC h3))) rfl ?_
   refine wH rfl ?_;refine jB ?_
   refine zT ?_
   refine jR ?_
   exact congrArg AV.b hf
 ·have h:¬k<p.length:=by simpa using h0
  obtain rfl:k=p.length:=by omega
  rw [vI,cE] at hf
  refine zE ?_
  refine jx hxx ?_
  refine wH rfl ?_
  refine RG.callS rfl rfl rfl rfl rfl (aV x _ rfl) rfl rfl ?_;refine jH ?_
  refine jR ?_
  exact congrArg AV.b hf
theorem BR (p:List Cb) (hp:p.length<=1000000):ae Tryz.prog 240 [.sl (p.map cCb)] (.sl ((cP p).map cCb)):=by
 refine jb Tryz.func240 ?_
 have hm:p.length<=9223372036854775807:=by omega
 have hle:=xz p
 refine jB ?_;refine wF ?_;refine wH rfl ?_;refine jB ?_
 refine AW.text ?_
 refine RG.opS rfl (cv 3 36 4 rfl) rfl ?_
 refine jH ?_
 refine AW.loopL (ι:=Nat × List Cb) (fun i=>[(0,.sl (p.map cCb)),(3,.row 3 0 0 (i.2.map cCb).length),(6,.sl (p.map cCb)),(7,.i .i64 (p.map cCb).length),(8,.i .i64 (i.1:Nat))]) (fun i=>[(3,⟨0,some (.row 36 4 (i.2.map cCb))⟩)]) (fun i=>i.1<=p.length/\bF (lr p) i.1 (p.drop i.1) i.2=cP p) (fun i=>p.length - i.1) (0,[]) ⟨qR _,rfl⟩ jW jW fun i hi=>?_
 obtain ⟨k,out⟩:=i
 obtain ⟨hk,hf⟩:=hi
 simp only at hk hf
 refine jA ?_
 refine AW.cond rfl (fun h0=>?_) (fun h0=>?_)
 ·have h:k<p.length:=by simpa using h0
  have hol:out.length<=100000000:=by
   have h1:=gF (f:=lr p) k (p.drop k) out
   rw [hf] at h1
   omega
  rw [qV h,bF,lr] at hf
  have hkp:p[k]?=some p[k]:=qA h
  have hkx:(p.map cCb)[k]?=some (cCb p[k]):=by rw [qE,hkp];rfl
  generalize p[k]=c at hf hkx hkp
  refine jA ?_
  refine jx hkx ?_
  refine jH ?_
  cases h1:cE c k 0 p
  ·rw [h1,cond_false] at hf
   refine RG.callS rfl rfl rfl rfl rfl (uj p k c hkp _ h1) rfl rfl ?_;refine jH ?_
   refine AW.condT rfl ?_;refine jB ?_
   refine AW.text ?_
   refine wH rfl ?_
   refine RG.opS rfl (co cCb out c hol rfl rfl rfl rfl (tk rfl) rfl (tk rfl) rfl rfl ⟨_,rfl,rfl⟩ rfl rfl) rfl ?_;refine jH ?_
   exact ⟨(k+1,_),⟨⟨h,hf⟩,by show p.length - (k+1)<p.length - k;omega⟩,jV,jW⟩
  ·rw [h1,cond_true,vZ] at hf
   refine RG.callS rfl rfl rfl rfl rfl (uj p k c hkp _ h1) rfl rfl ?_;refine jH ?_
   refine zF ?_
   exact ⟨(k+1,out),⟨⟨h,hf⟩,by show p.length - (k+1)<p.length - k;omega⟩,jV,jW⟩
 ·have h:¬k<p.length:=by simpa using h0
  obtain rfl:k=p.length:=by omega
  rw [vI,bF] at hf
  refine zE ?_
  refine jR ?_
  exact bq (congrArg (List.map cCb) hf)
def ul (r:List Cb × Int):AV:=.tup [.sl (r.1.map cCb),.i .i64 r.2]
theorem qe (p:List Cb) (hp:p.length<=1000000):ae Tryz.prog 208 [.sl (p.map cCb)] (ul (cz p)):=by
 refine jb Tryz.func208 ?_
 have hl:((cP p).map cCb).length=(cP p).length:=qH ..
 refine jA ?_
 refine jm (BR p hp) ?_;refine jH ?_
 refine AW.cond rfl (fun h=>?_) (fun h=>?_)
 ·have h:(((cP p).map cCb).length:Int)>200:=of_decide_eq_true h
  have e:cz p=([],10):=by rw [cz,qF (by omega)];rfl
  refine zR ?_
  rw [e]
  rfl
 ·have h:¬(((cP p).map cCb).length:Int)>200:=of_decide_eq_false h
  have e:cz p=(cP p,0):=by rw [cz,qC (by omega)];rfl
  refine jA ?_
  refine jm (eV (cP p)) ?_;refine jH ?_
  refine jR ?_
  rw [e]
  rfl
theorem cg {p:List Cb} (h:aj p=true):p.length<=200:=by
 rw [aj,qQ,vM] at h
 exact h.1
theorem qz (q:List Cb) (n:Nat) (x:Cb):(fx q n x).length<=q.length:=by
 have:=eY (f:=kb x) (m:=1) (fun n y=>by rw [kb];cases x.meets y <;> simp) 0 q []
 rw [fx]
 simp at this
 omega
theorem CJ (p q:List Cb):ae Tryz.prog 184 [.sl (p.map cCb),.sl (q.map cCb)] (ul (aQ p q)):=by
 refine jb Tryz.func184 ?_
 refine jA ?_
 cases hs:(aj p && aj q)
 ·refine RG.callS rfl rfl rfl rfl rfl (nA p q _ hs) rfl rfl ?_;refine jH ?_
  refine zT ?_
  refine jR ?_
  rw [aQ,hs]
  rfl
 refine RG.callS rfl rfl rfl rfl rfl (nA p q _ hs) rfl rfl ?_;refine jH ?_
 have e0:aQ p q=cz (eU p q):=by rw [aQ,hs];rfl
 rw [qQ] at hs
 have hp:=cg hs.1
 have hq:=cg hs.2
 have hal:(eU p q).length<=40000:=by
  have:=eY (f:=fx q) (m:=q.length) (fun n x=>qz q n x) 0 p []
  rw [eU]
  have h2:q.length*p.length<=200*200:=Nat.mul_le_mul hq hp
  simp at this
  omega
 have hmp:p.length<=9223372036854775807:=by omega
 have hmq:q.length<=9223372036854775807:=by omega
 refine AW.condF rfl ?_;refine jB ?_
 refine AW.text ?_
 refine RG.opS rfl (cv 7 36 4 rfl) rfl ?_
 refine jH ?_
 refine AW.loopL (ι:=Nat × List Cb) (fun i=>[(1,.sl (q.map cCb)),(7,.row 7 0 0 (i.2.map cCb).length),(20,.sl (p.map cCb)),(21,.i .i64 (p.map cCb).length),(22,.i .i64 (i.1:Nat))]) (fun i=>[(7,⟨0,some (.row 36 4 (i.2.map cCb))⟩)]) (fun i=>i.1<=p.length/\bF (fx q) i.1 (p.drop i.1) i.2=eU p q) (fun i=>p.length - i.1) (0,[]) ⟨qR _,rfl⟩ jW jW fun i hi=>?_
 obtain ⟨k,out⟩:=i
 obtain ⟨hk,hf⟩:=hi
 simp only at hk hf
 refine jA ?_
 refine AW.cond rfl (fun h0=>?_) (fun h0=>?_)
 ·have h:k<p.length:=by simpa using h0
  rw [qV h,bF,fx,<- iQ] at hf
  have hkx:(p.map cCb)[k]?=some (cCb p[k]):=by rw [qE,qA h];rfl
  generalize p[k]=x at hf hkx
  refine jA ?_
  refine jx hkx ?_
  refine jH ?_
  refine AW.loopL (ι:=Nat × List Cb) (fun i=>[(1,.sl (q.map cCb)),(7,.row 7 0 0 (i.2.map cCb).length),(9,.own 9 0 0),(20,.sl (p.map cCb)),(21,.i .i64 (p.map cCb).length),(22,.i .i64 (k:Nat)),(26,.sl (q.map cCb)),(27,.i .i64 (q.map cCb).length),(28,.i .i64 (i.1:Nat))]) (fun i=>[(7,⟨0,some (.row 36 4 (i.2.map cCb))⟩),(9,⟨0,some (.box 36 (cCb x))⟩)]) (fun i=>i.1<=q.length/\bF (fx q) (k+1) (p.drop (k+1)) (bF (kb x) i.1 (q.drop i.1) i.2)=eU p q) (fun i=>q.length - i.1) (0,out) ⟨qR _,hf⟩ jW jW fun i hi=>?_
  clear hf
  obtain ⟨j,out⟩:=i
  obtain ⟨hj,hf⟩:=hi
  simp only at hj hf
  refine jA ?_
  refine AW.cond rfl (fun h1=>?_) (fun h1=>?_)
  ·have h':j<q.length:=by simpa using h1
   have hol:out.length<=100000000:=by
    have h1:=gF (f:=fx q) (k+1) (p.drop (k+1)) (bF (kb x) j (q.drop j) out)
    have h2:=gF (f:=kb x) j (q.drop j) out
    rw [hf] at h1
    omega
   rw [qV h',bF,kb] at hf
   have hjx:(q.map cCb)[j]?=some (cCb q[j]):=by rw [qE,qA h'];rfl
   generalize q[j]=y at hf hjx
   refine jA ?_
   refine jx hjx ?_
   refine jH ?_
   cases hm:x.meets y
   ·rw [hm,cond_false,vZ] at hf
    refine RG.callS rfl rfl rfl rfl rfl (pA x y _ hm) rfl rfl ?_;refine jH ?_
    refine zF ?_
    exact ⟨(j+1,out),⟨⟨h',hf⟩,by show q.length - (j+1)<q.length - j;omega⟩,⟨Rn.is rfl rfl,Rn.rowIs rfl rfl rfl,Rn.ownIs rfl rfl rfl,Rn.is rfl rfl,Rn.is rfl rfl,Rn.is rfl rfl,Rn.is rfl rfl,Rn.is rfl rfl,Rn.is (au h' hmq) rfl,trivial⟩,jW⟩
   ·rw [hm,cond_true] at hf
    refine RG.callS rfl rfl rfl rfl rfl (pA x y _ hm) rfl rfl ?_;refine jH ?_
    refine AW.condT rfl ?_;refine jB ?_
    refine AW.text ?_
    refine wH rfl ?_
    refine RG.opS rfl (co cCb out (x.met y) hol rfl rfl rfl rfl (tk rfl) rfl (tk rfl) rfl rfl ⟨_,rfl,rfl⟩ rfl rfl) rfl ?_;refine jH ?_
    exact ⟨(j+1,_),⟨⟨h',hf⟩,by show q.length - (j+1)<q.length - j;omega⟩,⟨Rn.is rfl rfl,Rn.rowIs rfl rfl rfl,Rn.ownIs rfl rfl rfl,Rn.is rfl rfl,Rn.is rfl rfl,Rn.is rfl rfl,Rn.is rfl rfl,Rn.is rfl rfl,Rn.is (au h' hmq) rfl,trivial⟩,jW⟩
  ·have h':¬j<q.length:=by simpa using h1
   obtain rfl:j=q.length:=by omega
   rw [vI (l:=q),bF] at hf
   refine zE ?_
   exact ⟨(k+1,out),⟨⟨h,hf⟩,by show p.length - (k+1)<p.length - k;omega⟩,⟨Rn.is rfl rfl,Rn.rowIs rfl rfl rfl,Rn.is rfl rfl,Rn.is rfl rfl,Rn.is (au h hmp) rfl,trivial⟩,jW⟩
 ·have h:¬k<p.length:=by simpa using h0
  obtain rfl:k=p.length:=by omega
  rw [vI,bF] at hf
  subst hf
  refine zE ?_
  refine RG.callMS rfl rfl rfl rfl (congrArg (fun x=>[x]) (bq rfl)) rfl (qe (eU p q) (by omega)) rfl ?_;refine jH ?_
  refine jR ?_
  rw [e0]
  rfl
theorem kI (c:Cb) (more:Hd):∀(n:Nat) (rest:Cb) (out:List Cb),(gH c more n rest out).length<=out.length+n
 | 0,rest,out=>qJ _
 | n+1,rest,out=>by
  rw [gH]
  cases more.bit n
  ·have:=kI c more n rest out
   rw [cond_false]
   omega
  ·have:=kI c more n ⟨rest.value.or (c.value.and (cj n 1)),rest.care.or (cj n 1)⟩ (out++[⟨(rest.value.or (c.value.and (cj n 1))).xor (cj n 1),rest.care.or (cj n 1)⟩])
   rw [qK,uB] at this
   rw [cond_true]
   omega
theorem AS (a c:Cb):(a.less c).length<=128:=by
 rw [Cb.less]
 cases (a.sound && c.sound)
 ·exact qR _
 ·cases a.meets c
  ·show 1<=128;omega
  ·have:=kI c (c.care.less a.care) 128 a []
   simpa using this
theorem rf (y:Cb) (out:List Cb):(cS y out).length<=128*out.length:=by
 have:=eY (f:=jJ y) (m:=128) (fun n x=>AS x y) 0 out []
 rw [cS]
 simpa using this
theorem Bo (p q:List Cb):ae Tryz.prog 187 [.sl (p.map cCb),.sl (q.map cCb)] (ul (aI p q)):=by
 refine jb Tryz.func187 ?_
 refine jA ?_
 cases hs:(aj p && aj q)
 ·refine RG.callS rfl rfl rfl rfl rfl (nA p q _ hs) rfl rfl ?_;refine jH ?_
  refine zT ?_
  refine jR ?_
  rw [aI,hs]
  rfl
 refine RG.callS rfl rfl rfl rfl rfl (nA p q _ hs) rfl rfl ?_;refine jH ?_
 have e0:aI p q=eL p q:=by rw [aI,hs];rfl
 rw [e0]
 rw [qQ] at hs
 have hp:=cg hs.1
 have hq:=cg hs.2
 have hmq:q.length<=9223372036854775807:=by omega
 refine zF ?_
 refine RG.callMS rfl rfl rfl rfl rfl rfl (mK p (by omega)) rfl ?_;refine jH ?_
 refine AW.loopL (ι:=Nat × List Cb) (fun i=>[(7,.sl (i.2.map cCb)),(22,.sl (q.map cCb)),(23,.i .i64 (q.map cCb).length),(24,.i .i64 (i.1:Nat))]) (fun i=>[]) (fun i=>(i.1<=q.length/\i.2.length<=200)/\eL i.2 (q.drop i.1)=eL p q) (fun i=>q.length - i.1) (0,p) ⟨⟨qR _,hp⟩,rfl⟩ jW trivial fun i hi=>?_
 obtain ⟨k,out⟩:=i
 obtain ⟨⟨hk,ho⟩,hf⟩:=hi
 simp only at hk ho hf
 refine jA ?_
 refine AW.cond rfl (fun h0=>?_) (fun h0=>?_)
 ·have h:k<q.length:=by simpa using h0
  rw [qV h,eL] at hf
  have hkx:(q.map cCb)[k]?=some (cCb q[k]):=by rw [qE,qA h];rfl
  generalize q[k]=y at hf hkx
  have hmo:out.length<=9223372036854775807:=by omega
  have hal:=rf y out
  refine zB ?_
  refine jx hkx ?_
  refine wH rfl ?_;refine jB ?_
  refine AW.text ?_
  refine RG.opS rfl (cv 10 36 4 rfl) rfl ?_
  refine jH ?_
  refine AW.loopL (ι:=Nat × List Cb) (fun i=>[(7,.sl (out.map cCb)),(9,.own 9 0 0),(10,.row 10 0 0 (i.2.map cCb).length),(22,.sl (q.map cCb)),(23,.i .i64 (q.map cCb).length),(24,.i .i64 (k:Nat)),(28,.sl (out.map cCb)),(29,.i .i64 (out.map cCb).length),(30,.i .i64 (i.1:Nat))]) (fun i=>[(9,⟨0,some (.box 36 (cCb y))⟩),(10,⟨0,some (.row 36 4 (i.2.map cCb))⟩)]) (fun i=>i.1<=out.length/\bF (jJ y) i.1 (out.drop i.1) i.2=cS y out) (fun i=>out.length - i.1) (0,[]) ⟨qR _,rfl⟩ jW jW fun i hi=>?_
  obtain ⟨j,rest⟩:=i
  obtain ⟨hj,hg⟩:=hi
  simp only at hj hg
  refine jA ?_
  refine AW.cond rfl (fun h1=>?_) (fun h1=>?_)
  ·have h':j<out.length:=by simpa using h1
   have hjx:(out.map cCb)[j]?=some (cCb out[j]):=by rw [qE,qA h'];rfl
   rw [qV h',bF,jJ] at hg
   generalize out[j]=x at hg hjx
   have hol:rest.length+(x.less y).length<=100000000:=by
    have h1:=gF (f:=jJ y) (j+1) (out.drop (j+1)) (rest++x.less y)
    rw [hg,qK] at h1
    omega
   refine jA ?_
   refine jx hjx ?_
   refine jH ?_
   refine jm (DO x y) ?_;refine jH ?_
   refine RG.opS rfl (iV cCb rest (x.less y) hol (fun _=>rfl) rfl rfl rfl rfl (tk rfl) rfl (tk rfl) rfl rfl ⟨_,rfl,rfl⟩ rfl) rfl ?_;refine jH ?_
   exact ⟨(j+1,_),⟨⟨h',hg⟩,by show out.length - (j+1)<out.length - j;omega⟩,⟨Rn.is rfl rfl,Rn.ownIs rfl rfl rfl,Rn.rowIs rfl rfl rfl,Rn.is rfl rfl,Rn.is rfl rfl,Rn.is rfl rfl,Rn.is rfl rfl,Rn.is rfl rfl,Rn.is (au h' hmo) rfl,trivial⟩,jW⟩
  ·have h':¬j<out.length:=by simpa using h1
   obtain rfl:j=out.length:=by omega
   rw [vI (l:=out),bF] at hg
   subst hg
   refine zE ?_
   refine RG.callMS rfl rfl rfl rfl (congrArg (fun x=>[x]) (bq rfl)) rfl (qe (cS y out) (by omega)) rfl ?_;refine jH ?_
   refine AW.cond rfl (fun h2=>?_) (fun h2=>?_)
   ·have h2:¬(cz (cS y out)).2=0:=by simpa using h2
    rw [qC h2,cond_false] at hf
    refine zR ?_
    rw [<- hf]
    rfl
   ·have h2:(cz (cS y out)).2=0:=by simpa using h2
    rw [qF h2,cond_true] at hf
    refine jA ?_
    refine ⟨(k+1,(cz (cS y out)).1),⟨⟨⟨h,?_⟩,hf⟩,by show q.length - (k+1)<q.length - k;omega⟩,⟨Rn.is rfl rfl,Rn.is rfl rfl,Rn.is rfl rfl,Rn.is (au h hmq) rfl,trivial⟩,trivial⟩
    have:=(fV h2).2
    rw [(fV h2).1]
    exact this
 ·have h:¬k<q.length:=by simpa using h0
  obtain rfl:k=q.length:=by omega
  rw [vI,eL] at hf
  refine zE ?_
  refine jm (eV out) ?_;refine jH ?_
  refine jR ?_
  rw [<- hf]
  rfl
def Gl:Option Cb->AV
 | none=>.tup [.agg (cHd Hd.zero),.b false]
 | some c=>.tup [.agg (cHd c.value),.b true]
theorem EV (p:List Cb):ae Tryz.prog 224 [.sl (p.map cCb)] (Gl (pick p)):=by
 refine jb Tryz.func224 ?_
 have hI:=iE 59 Cb.sound p fun x _=>aV x _ rfl
 have hfi:=pP (p:=Cb.sound) 0 p
 rw [pick]
 cases hq:p.findIdx? Cb.sound with
 | none =>
  have e:p.find? Cb.sound=none:=by
   rw [List.findIdx?_eq_none_iff] at hq
   rw [List.find?_eq_none]
   intro x hx
   rw [hq x hx]
   exact Bool.false_ne_true
  rw [e]
  have hv:bG Cb.sound 0 p = -1:=by rw [hfi,hq]
  rw [hv] at hI
  refine jA ?_
  refine jc hI ?_;refine jH ?_
  refine zF ?_
  exact zS
 | some k =>
  obtain ⟨hk,h1,h2⟩:=List.findIdx?_eq_some_iff_getElem.1 hq
  have e:p.find? Cb.sound=some p[k]:=by
   rw [List.find?_eq_some_iff_getElem]
   exact ⟨h1,k,hk,rfl,fun j hj=>by simpa using h2 j hj⟩
  rw [e]
  have hkx:(p.map cCb)[k]?=some (cCb p[k]):=by rw [qE,qA hk];rfl
  generalize p[k]=c at hkx
  have hv:bG Cb.sound 0 p=((k:Nat):Int):=by rw [hfi,hq];simp
  rw [hv] at hI
  refine jA ?_
  refine jc hI ?_;refine jH ?_
  refine AW.cond rfl (fun h=>?_) (fun h=>?_)
  rotate_left
  ·exact absurd (show Int.ofNat 0<=((k:Nat):Int) by simp only [qG];omega) (of_decide_eq_false h)
  refine jA ?_
  refine jx hkx ?_
  refine zH ?_
  rfl
theorem ya (x:Cb):ae Tryz.prog 84 [.agg (cCb x)] (.b (!x.sound)):=by
 refine jb Tryz.func84 ?_
 refine jA ?_
 refine RG.callS rfl rfl rfl rfl rfl (aV x _ rfl) rfl rfl ?_;refine jH ?_
 exact zS
def FR (ids:List Int) (p:List Cb):Option Cb->AV
 | none=>.tup [.agg (aB ⟨ids,Hd.zero,p⟩),.b false]
 | some c=>.tup [.agg (aB ⟨ids,c.value,p⟩),.b true]
theorem tL (ids:List Int) (p:List Cb):ae Tryz.prog 185 [.sl (ids.map cI),.sl (p.map cCb)] (FR ids p (pick p)):=by
 refine jb Tryz.func185 ?_
 have hP:=EV p
 cases h:pick p with
 | none =>
  rw [h] at hP
  refine jA ?_
  refine jc hP ?_;refine jH ?_
  exact zS
 | some c =>
  rw [h] at hP
  refine jA ?_
  refine jc hP ?_;refine jH ?_
  exact zS
def qr (r:List aH × Int):AV:=.tup [.sl (r.1.map aB),.i .i64 r.2]
theorem kT {x:Cb} {p:List Cb} (h:aj (x::p)=true):pick (x::p)=some x:=tq h
theorem Fw (a:aH) (n:Nat) (c:Cb) (hA:nr n a) (hc:c.sound=true) (hn:a.ids.length<=1000):ae Tryz.prog 133 [.agg (aB a),.i .i64 (n:Nat),.sl ([c].map cCb)] (qr (br a n c)):=by
 refine jb Tryz.func133 ?_
 obtain ⟨m1,m2⟩:=fy hA.pile hc
 obtain ⟨l1,l2⟩:=fv hA.pile hc
 have hM:=CJ a.pile [c]
 have hL:=Bo a.pile [c]
 rw [br]
 have hup:(a.ids++[((n:Nat):Int)]).Pairwise (· < ·):=by
  rw [List.pairwise_append]
  exact ⟨hA.up,List.pairwise_singleton _ _,fun x hx y hy=>by rw [qO.1 hy];exact hA.ids x hx⟩
 have hJ:=EK a.ids [((n:Nat):Int)] hup (by rw [uB];decide) (by rw [uB];omega)
 have hCl:=lM a.ids (by omega)
 rcases m1 with m1 | m1
 rotate_left
 ·rw [m1] at hM ⊢
  refine zB ?_
  refine wH rfl ?_
  refine zB ?_
  refine RG.opS rfl (cv 8 75 4 rfl) rfl ?_
  refine jH ?_
  refine jm hM ?_;refine jH ?_
  refine zT ?_
  exact zS
 have m2:=(m2 m1).1
 rw [show aQ a.pile [c]=((aQ a.pile [c]).1,0) from Prod.ext rfl m1] at hM
 rw [qF m1,cond_true]
 generalize (aQ a.pile [c]).1=mp at hM m2
 have hin:=tL (a.ids++[((n:Nat):Int)]) mp
 refine zB ?_
 refine wH rfl ?_
 refine zB ?_
 refine RG.opS rfl (cv 8 75 4 rfl) rfl ?_
 refine jH ?_
 refine jm hM ?_;refine jH ?_
 refine zF ?_
 refine RG.callMS rfl rfl rfl rfl (congrArg (fun x=>[AV.sl (a.ids.map cI),x]) (bq (Y:=[((n:Nat):Int)].map cI) rfl)) rfl hJ rfl ?_;refine jH ?_
 cases mp with
 | nil =>
  refine jm hin ?_;refine jH ?_
  refine zF ?_
  rcases l1 with l1 | l1
  rotate_left
  ·rw [l1] at hL ⊢
   refine jm hL ?_;refine jH ?_
   refine zT ?_
   exact zS
  have l2:=(l2 l1).1
  rw [show aI a.pile [c]=((aI a.pile [c]).1,0) from Prod.ext rfl l1] at hL
  rw [qF l1,cond_true]
  generalize (aI a.pile [c]).1=lp at hL l2
  have hot:=tL a.ids lp
  refine jm hL ?_;refine jH ?_
  refine zF ?_
  refine jm hCl ?_;refine jH ?_
  cases lp with
  | nil =>
   refine jm hot ?_;refine jH ?_
   refine zF ?_
   exact zS
  | cons y lp =>
   rw [kT l2] at hot
   refine jm hot ?_;refine jH ?_
   refine AW.condT rfl ?_;refine jB ?_
   refine AW.text ?_
   refine wH rfl ?_
   refine RG.opS rfl (co aB ([]:List aH) (⟨a.ids,y.value,y::lp⟩:aH) (by decide) rfl rfl rfl rfl (tk rfl) rfl (tk rfl) rfl rfl ⟨_,rfl,rfl⟩ rfl rfl) rfl ?_;refine jH ?_
   refine jR ?_
   exact congrArg (fun x=>AV.tup [x,.i .i64 0]) (bq (by rw [fC];rfl))
 | cons x mp =>
  rw [kT m2] at hin
  refine jm hin ?_;refine jH ?_
  refine AW.condT rfl ?_;refine jB ?_
  refine AW.text ?_
  refine wH rfl ?_
  refine RG.opS rfl (co aB ([]:List aH) (⟨a.ids++[((n:Nat):Int)],x.value,x::mp⟩:aH) (by decide) rfl rfl rfl rfl (tk rfl) rfl (tk rfl) rfl rfl ⟨_,rfl,rfl⟩ rfl rfl) rfl ?_;refine jH ?_
  rcases l1 with l1 | l1
  rotate_left
  ·rw [l1] at hL ⊢
   refine jm hL ?_;refine jH ?_
   refine zT ?_
   exact zS
  have l2:=(l2 l1).1
  rw [show aI a.pile [c]=((aI a.pile [c]).1,0) from Prod.ext rfl l1] at hL
  rw [qF l1,cond_true]
  generalize (aI a.pile [c]).1=lp at hL l2
  have hot:=tL a.ids lp
  refine jm hL ?_;refine jH ?_
  refine zF ?_
  refine jm hCl ?_;refine jH ?_
  cases lp with
  | nil =>
   refine jm hot ?_;refine jH ?_
   refine zF ?_
   refine jR ?_
   exact congrArg (fun x=>AV.tup [x,.i .i64 0]) (bq (by rw [fC,vZ];rfl))
  | cons y lp =>
   rw [kT l2] at hot
   refine jm hot ?_;refine jH ?_
   refine AW.condT rfl ?_;refine jB ?_
   refine AW.text ?_
   refine wH rfl ?_
   refine RG.opS rfl (co aB [(⟨a.ids++[((n:Nat):Int)],x.value,x::mp⟩:aH)] (⟨a.ids,y.value,y::lp⟩:aH) (show 1<=100000000 by decide) rfl rfl rfl rfl (tk rfl) rfl (tk rfl) rfl rfl ⟨_,rfl,rfl⟩ rfl rfl) rfl ?_;refine jH ?_
   refine jR ?_
   exact congrArg (fun x=>AV.tup [x,.i .i64 0]) (bq (by rw [fC];rfl))
theorem x6 (a:aH) (id:Int) (c:Cb):(br a id c).1.length<=2:=by
 rw [br]
 cases decide ((aQ a.pile [c]).2=0)
 ·exact qR _
 cases decide ((aI a.pile [c]).2=0)
 ·exact qR _
 rw [cond_true,cond_true,qK]
 have h1:∀p,(mD a id c p).length<=1:=fun p=>by cases p <;> simp [mD]
 have h2:∀p,(fC a p).length<=1:=fun p=>by cases p <;> simp [fC]
 have:=h1 (aQ a.pile [c]).1
 have:=h2 (aI a.pile [c]).1
 omega
theorem wg (l:List aH) (n:Nat) (c:Cb) (hA:∀a∈l,nr n a/\a.ids.length<=1000) (hc:c.sound=true) (hl:l.length<=600):ae Tryz.prog 86 [.sl (l.map aB),.i .i64 (n:Nat),.agg (cCb c)] (qr (aT n c l [])):=by
 refine jb Tryz.func86 ?_
 have hm:l.length<=9223372036854775807:=by omega
 refine zB ?_
 refine wH rfl ?_
 refine zB ?_
 refine RG.opS rfl (cv 8 75 4 rfl) rfl ?_
 refine jH ?_
 refine AW.loopL (ι:=Nat × List aH) (fun i=>[(1,.i .i64 (n:Nat)),(5,.own 5 0 0),(8,.row 8 0 0 (i.2.map aB).length),(13,.sl (l.map aB)),(14,.i .i64 (l.map aB).length),(15,.i .i64 (i.1:Nat))]) (fun i=>[(5,⟨0,some (.box 36 (cCb c))⟩),(8,⟨0,some (.row 75 4 (i.2.map aB))⟩)]) (fun i=>(i.1<=l.length/\i.2.length<=2*i.1)/\aT n c (l.drop i.1) i.2=aT n c l []) (fun i=>l.length - i.1) (0,[]) ⟨⟨qR _,qR _⟩,rfl⟩ jW jW fun i hi=>?_
 obtain ⟨k,out⟩:=i
 obtain ⟨⟨hk,ho⟩,hf⟩:=hi
 simp only at hk ho hf
 refine jA ?_
 refine AW.cond rfl (fun h0=>?_) (fun h0=>?_)
 ·have h:k<l.length:=by simpa using h0
  rw [qV h,aT] at hf
  have hkx:(l.map aB)[k]?=some (aB l[k]):=by rw [qE,qA h];rfl
  have ha:=hA l[k] (vS h)
  generalize l[k]=a at hf hkx ha
  have hP:=Fw a n c ha.1 hc ha.2
  have hpl:=x6 a n c
  refine jA ?_
  refine jx hkx ?_
  refine jH ?_
  refine RG.callMS rfl rfl rfl rfl (congrArg (fun x=>[AV.agg (aB a),AV.i .i64 (n:Nat),x]) (bq (Y:=[c].map cCb) rfl)) rfl hP rfl ?_;refine jH ?_
  refine AW.cond rfl (fun h2=>?_) (fun h2=>?_)
  ·have h2:¬(br a n c).2=0:=by simpa using h2
   rw [qC h2,cond_false] at hf
   refine zR ?_
   rw [<- hf]
   rfl
  ·have h2:(br a n c).2=0:=by simpa using h2
   rw [qF h2,cond_true] at hf
   refine zB ?_
   refine wH rfl ?_
   refine RG.opS rfl (iV aB out (br a n c).1 (by omega) (fun _=>rfl) rfl rfl rfl rfl (tk rfl) rfl (tk rfl) rfl rfl ⟨_,rfl,rfl⟩ rfl) rfl ?_;refine jH ?_
   exact ⟨(k+1,_),⟨⟨⟨h,by rw [qK];simp only;omega⟩,hf⟩,by show l.length - (k+1)<l.length - k;omega⟩,jV,jW⟩
 ·have h:¬k<l.length:=by simpa using h0
  obtain rfl:k=l.length:=by omega
  rw [vI,aT] at hf
  have hol:(out.map aB).length=out.length:=qH ..
  refine zE ?_
  refine AW.cond rfl (fun h2=>?_) (fun h2=>?_)
  ·have h2:((out.map aB).length:Int)>600:=of_decide_eq_true h2
   rw [qF (by omega),cond_true] at hf
   refine zR ?_
   rw [<- hf]
   rfl
  ·have h2:¬((out.map aB).length:Int)>600:=of_decide_eq_false h2
   rw [qC (by omega),cond_false] at hf
   refine zR ?_
   rw [<- hf]
   exact congrArg (fun x=>AV.tup [x,.i .i64 0]) (bq rfl)
theorem sV {cs:List Cb} {c:Cb} {out:List aH} (hc:c.sound=true) (hP:lL cs out) (hl:∀a∈out,a.ids.length<=cs.length) (h0:(aT cs.length c out []).2=0):lL (cs++[c]) (aT cs.length c out []).1/\∀a∈(aT cs.length c out []).1,a.ids.length<=cs.length+1:=by
 constructor
 ·have e:b9 cs.length [c] out=((aT cs.length c out []).1,0):=by
   rw [b9,qF h0,cond_true,b9]
  have:=(lg [c] cs out (fun d hd=>by rw [qO.1 hd];exact hc) hP).2 (by rw [e])
  rw [e] at this
  exact this
 ·obtain ⟨_,g⟩:=iZ (id:=cs.length) hc out [] fun a ha=>(hP.ok a ha).pile
  obtain ⟨_,g,_⟩:=g h0
  intro x hx
  rcases g x hx with hx | ⟨a,ha,h1,hx⟩
  ·cases hx
  ·have:=hl a ha
   rcases (dZ h1 (hP.ok a ha).pile hc hx).2.2 with ⟨e,_⟩ | ⟨e,_⟩ <;> rw [e]
   ·rw [qK,uB];omega
   ·omega
theorem vc (ps:List Cb):ae Tryz.prog 47 [.sl (ps.map cCb)] (qr (aO ps)):=by
 refine jb Tryz.func47 ?_
 have hol:(ps.map cCb).length=ps.length:=qH ..
 rw [aO]
 refine jA ?_
 refine AW.cond rfl (fun h2=>?_) (fun h2=>?_)
 ·have h2:((ps.map cCb).length:Int)>500:=of_decide_eq_true h2
  rw [qF (by omega),cond_true]
  refine zR ?_
  rfl
 have h2:¬((ps.map cCb).length:Int)>500:=of_decide_eq_false h2
 rw [qC (by omega),cond_false]
 have hC:=fB 84 (fun x=>!x.sound) ps (fun x _=>ya x) _ (vl ps)
 cases hs:ps.all Cb.sound
 ·rw [hs] at hC
  refine jA ?_
  refine jc hC ?_;refine jH ?_
  refine zF ?_
  exact zS
 rw [hs] at hC
 rw [cond_true]
 rw [qW] at hs
 have hm:ps.length<=9223372036854775807:=by omega
 refine jA ?_
 refine jc hC ?_;refine jH ?_
 refine zT ?_
 refine jc GC ?_;refine jH ?_
 refine AW.freeze [19] [(4,.sl ([dC].map aB)),(20,.sl (ps.map cCb)),(21,.i .i64 (ps.map cCb).length),(22,.i .i64 (0:Nat))] [] ⟨.fzA rfl rfl rfl,.is rfl rfl,.is rfl rfl,.is rfl rfl,trivial⟩ trivial rfl ?_
 refine AW.loopL (ι:=Nat × List aH) (fun i=>[(4,.sl (i.2.map aB)),(20,.sl (ps.map cCb)),(21,.i .i64 (ps.map cCb).length),(22,.i .i64 (i.1:Nat))]) (fun i=>[]) (fun i=>(i.1<=ps.length/\lL (ps.take i.1) i.2/\∀a∈i.2,a.ids.length<=i.1)/\b9 i.1 (ps.drop i.1) i.2=b9 0 ps [dC]) (fun i=>ps.length - i.1) (0,[dC]) ⟨⟨qR _,Am,fun a ha=>by rw [qO.1 ha];exact qJ _⟩,rfl⟩ jW trivial fun i hi=>?_
 obtain ⟨k,out⟩:=i
 obtain ⟨⟨hk,hP,hL⟩,hf⟩:=hi
 simp only at hk hP hL hf
 refine jA ?_
 refine AW.cond rfl (fun h0=>?_) (fun h0=>?_)
 ·have h:k<ps.length:=by simpa using h0
  have hlt:(ps.take k).length=k:=by rw [vG];omega
  rw [qV h,b9] at hf
  have hkx:(ps.map cCb)[k]?=some (cCb ps[k]):=by rw [qE,qA h];rfl
  have hc:=hs ps[k] (vS h)
  have htk:ps.take (k+1)=ps.take k++[ps[k]]:=by rw [List.take_add_one,qA h];rfl
  have hN:=sV (cs:=ps.take k) (c:=ps[k]) (out:=out) hc hP (by rw [hlt];exact hL)
  rw [<- htk,hlt] at hN
  have hS:=wg out k ps[k] (fun a ha=>⟨by have:=hP.ok a ha;rw [hlt] at this;exact this,by have:=hL a ha;omega⟩) hc hP.len
  generalize ps[k]=c at hf hkx hc hN hS
  clear htk
  refine jA ?_
  refine jx hkx ?_
  refine jH ?_
  refine jm hS ?_;refine jH ?_
  refine AW.cond rfl (fun h3=>?_) (fun h3=>?_)
  ·have h3:¬(aT k c out []).2=0:=by simpa using h3
   rw [qC h3,cond_false] at hf
   refine zR ?_
   rw [<- hf]
   rfl
  ·have h3:(aT k c out []).2=0:=by simpa using h3
   rw [qF h3,cond_true] at hf
   refine jA ?_
   exact ⟨(k+1,(aT k c out []).1),⟨⟨⟨h,(hN h3).1,(hN h3).2⟩,hf⟩,by show ps.length - (k+1)<ps.length - k;omega⟩,jV,trivial⟩
 ·have h:¬k<ps.length:=by simpa using h0
  obtain rfl:k=ps.length:=by omega
  rw [vI,b9] at hf
  refine zE ?_
  refine jm (iu out) ?_;refine jH ?_
  refine jR ?_
  rw [<- hf]
  rfl
def bH (c:Cb):Value:=.agg #[.int .u64 c.value.hi.toNat,.int .u64 c.value.lo.toNat,.int .u64 c.care.hi.toNat,.int .u64 c.care.lo.toNat]
def kx (l:List Cb):Array MapEntry:=(l.zipIdx.map fun p=>⟨bH p.1,.bool true,p.2⟩).toArray
theorem xw (l:List Cb) (c:Cb):(kx l).push ⟨bH c,.bool true,l.length⟩=kx (l++[c]):=by
 simp [kx,List.zipIdx_append]
def fE (l:List Cb):aD:=.obj (.map (kx l) l.length)
theorem oU {a b:Cb} (h:bH a=bH b):a=b:=by
 simp only [bH,Value.agg.injEq,Array.mk.injEq,List.cons.injEq,Value.int.injEq,true_and,and_true,Int.natCast_inj,UInt64.toNat_inj] at h
 obtain ⟨h1,h2,h3,h4⟩:=h
 obtain ⟨⟨a1,a2⟩,⟨a3,a4⟩⟩:=a
 obtain ⟨⟨b1,b2⟩,⟨b3,b4⟩⟩:=b
 simp only at h1 h2 h3 h4
 subst h1 h2 h3 h4
 rfl
theorem rM {l:List Cb} {e:MapEntry} (h:e∈(kx l).toList):∃x∈l,e.key=bH x/\e.val = .bool true:=by
 simp only [kx,vH] at h
 obtain ⟨p,hp,rfl⟩:=h
 exact ⟨p.1,(List.mem_zipIdx hp).2.2 ▸ vS _,rfl,rfl⟩
theorem A9 {l:List Cb} {x:Cb} (h:x∈l):∃e∈(kx l).toList,e.key=bH x:=by
 obtain ⟨i,hi,rfl⟩:=List.mem_iff_getElem.1 h
 exact ⟨⟨bH l[i],.bool true,i⟩,by
  simp only [kx,vH]
  exact ⟨(l[i],i),by rw [List.mem_iff_getElem?];exact ⟨i,by simp [qA hi]⟩,rfl⟩,rfl⟩
theorem FC (x:UInt64):(Lit.int .u64 (x.toNat:Int)).wf=true:=by
 have h:=x.toNat_lt
 have h1:IntKind.u64.min=0:=rfl
 have h2:IntKind.u64.max=18446744073709551615:=rfl
 simp only [Lit.wf,h1,h2,qQ,vM]
 omega
theorem AU {P:Program} {k h u:TypeId} {f0 f1 g0 g1:Field} (h1:P.underlying k=some (.struct #[f0,f1])) (h2:P.underlying h=some (.struct #[g0,g1])) (h3:P.underlying u=some (.int .u64)) (c1:P.cellsOf k=4) (c2:P.cellsOf h=2) (c3:P.cellsOf u=1)
  (a0 : f0.type = h /\ f0.offset = 0 /\ f0.name ≠ "_") (a1 : f1.type = h /\ f1.offset = 2 /\ f1.name ≠ "_") (b0 : g0.type = u /\ g0.offset = 0 /\ g0.name ≠ "_") (b1 : g1.type = u /\ g1.offset = 1 /\ g1.name ≠ "_") (n : Nat) (c : Cb) :
  P.keyLits (n+3) k (bH c).cells.toList=some [.int .u64 c.value.hi.toNat,.int .u64 c.value.lo.toNat,.int .u64 c.care.hi.toNat,.int .u64 c.care.lo.toNat]:=by
 have key:∀m x y,P.keyLits (m+2) h [.int .u64 ((x:UInt64).toNat:Int),.int .u64 ((y:UInt64).toNat:Int)]=some [.int .u64 x.toNat,.int .u64 y.toNat]:=fun m x y=>by
  unfold Program.keyLits
  rw [h2]
  simp [c2,b0,b1,c3,Program.keyLits,h3,FC]
 unfold Program.keyLits
 rw [h1]
 simp [c1,a0,a1,c2,bH,Value.cells,key]
theorem rh {P:Program} {k:TypeId} {fs:Array Field} (h1:P.underlying k=some (.struct fs)) (c1:P.cellsOf k=4) (c:Cb):(bH c).formed P k=true:=by
 simp [bH,Value.formed,h1,c1]
theorem FB {P:Program} {k:TypeId} {fs:Array Field} (h1:P.underlying k=some (.struct fs)) (hk:P.keyType k=true) {v:Value} (hf:v.formed P k=true) {ls:List Lit} (he:P.keyLits (P.types.size+1) k v.cells.toList=some ls):∃l,keyOf P k v=some l:=by
 unfold keyOf
 rw [h1]
 simp only [hk,hf,Bool.and_self,if_true,he,Option.map_some]
 exact ⟨_,rfl⟩
theorem vn:(36:TypeId)<Tryz.prog.types.size:=of_decide_eq_true (by kernel_rfl)
theorem key_law:WideMaps.KeyLaw Tryz.prog 36:=deep_law_laid (by kernel_rfl) (m:=3) (by omega) vn (by kernel_rfl) (by rw [Tryz.underlying36])
theorem du (c:Cb):∃l,keyOf Tryz.prog 36 (bH c)=some l:=by
 have c1:Tryz.prog.cellsOf 36=4:=by kernel_rfl
 refine FB Tryz.underlying36 (by kernel_rfl) (rh Tryz.underlying36 c1 c) (ls:=[.int .u64 c.value.hi.toNat,.int .u64 c.value.lo.toNat,.int .u64 c.care.hi.toNat,.int .u64 c.care.lo.toNat]) ?_
 have hr:=vn
 generalize hn:Tryz.prog.types.size=n at hr
 obtain ⟨m,rfl⟩:∃m,n=m+2:=⟨n - 2,by have:(2:Nat)<=n:=vJ (by decide) (Nat.le_of_lt hr);omega⟩
 exact AU Tryz.underlying36 Tryz.underlying34 (u:=32) (by kernel_rfl) c1 (by kernel_rfl) (by kernel_rfl) ⟨rfl,rfl,by decide⟩ ⟨rfl,rfl,by decide⟩ ⟨rfl,rfl,by decide⟩ ⟨rfl,rfl,by decide⟩ m c
theorem fS {W:World} {F:Nat->Prop} {μ:Mu} {σ:Sto} {c:Cb} {v:Value} (h:Rel W F μ σ (.agg (cCb c)) v):v=bH c:=by
 obtain ⟨vs,rfl,hl,_,hr⟩:=h.agg'
 match vs,hl with
 | [v0,v1,v2,v3],_ =>
  rw [(hr 0 _ _ rfl rfl).u',(hr 1 _ _ rfl rfl).u',(hr 2 _ _ rfl rfl).u',(hr 3 _ _ rfl rfl).u']
  rfl
section
variable {P : Program} {N : Nat} {o : Oper} {s : St}
theorem Rel.ref' {W:World} {F:Nat->Prop} {μ:Mu} {σ:Sto} {id ep:Nat} {k:RK} {v:Value} (h:Rel W F μ σ (.ref id ep k) v):ep<=(σ id).ep/\v.oneCell'=true/\∀bd,σ id=⟨ep,some bd⟩->∃b c,μ id=some (b,c)/\v=k.val b:=by
 cases h with
 | pure h=>cases h
 | ref _ _ _ _ he h1 h=>exact ⟨he,h1,h⟩
theorem mL {t id:Nat} (ho:o.op = .makeMap t none):ay P N o s ⟨.ref id ((s.σ id).ep+1) .map,[(id,⟨(s.σ id).ep+1,some (fE [])⟩)],[]⟩:=by
 intro s' h1 h2 h3 W F μ a hr K Q hK
 have hid:s'.σ id=s.σ id:=h3 (id,⟨(s.σ id).ep+1,some (fE [])⟩) (by simp)
 have hrun:(execOp a.eval o).run P W = .ok (.value (.map (some W.heap.size))) (W.alloc (.map #[] 0)):=by
  simp only [execOp,ho,Instr.makeMap,newObj,Option.map_none,Sem.run_bind,Sem.run_pure,Result.andThen_ok,Sem.run,World.alloc]
 have hk:Kp (fun b=>(s'.σ id).body.isSome=true/\∃c,μ id=some (b,c)) W (W.alloc (.map #[] 0)):=(Kp.refl _ W).alloc _
 have hσ:up1 s'.σ id ⟨(s.σ id).ep+1,some (fE [])⟩ id=⟨(s.σ id).ep+1,some (fE [])⟩:=by rw [be,if_pos rfl]
 have hμ:upm μ id (some (W.heap.size,0)) id=some (W.heap.size,0):=by rw [dz,if_pos rfl]
 obtain ⟨hs,hi⟩:=cu hr.inv id (some (W.heap.size,0)) ((s.σ id).ep+1) (fE []) hk (fun b c' e=>by
   have e':W.heap.size=b:=by simp only [qT,vC] at e;exact e.1
   subst e'
   exact ⟨by simp,.inl (qJ _)⟩) (.inl (by rw [hid];omega)) (fun hs=>⟨W.heap.size,0,rfl,heap_alloc_new W _⟩)
 unfold Oper.wp
 rw [hrun]
 refine hK _ F _ _ (hr.put hs hi (.ref id _ .map _ ?_ rfl fun bd h=>⟨W.heap.size,0,hμ,rfl⟩)) hs
 show _<=(up1 s'.σ id ⟨(s.σ id).ep+1,some (fE [])⟩ id).ep
 rw [hσ]
 exact qJ _
end
theorem oB (W:World) (l:List Cb) (c:Cb):(c∉l/\(Instr.findKey 36 (bH c) (kx l).toList).run Tryz.prog W = .ok none W)\/(c∈l/\∃j,(Instr.findKey 36 (bH c) (kx l).toList).run Tryz.prog W = .ok (some (j,.bool true)) W):=by
 obtain ⟨lx,hx⟩:=du c
 rcases key_law.find W hx (kx l).toList (fun e he=>by
  obtain ⟨x,_,hk,_⟩:=rM he
  rw [hk]
  exact du x) with ⟨h1,h2⟩ | ⟨j,e,h1,h2,h3⟩
 ·refine .inl ⟨fun hc=>?_,h1⟩
  obtain ⟨e,he,hk⟩:=A9 hc
  exact h2 e he hk
 ·obtain ⟨x,hx,hk,hv⟩:=rM (qP h2)
  rw [hv] at h1
  have:x=c:=oU (hk.symm.trans h3)
  exact .inr ⟨this ▸ hx,j,h1⟩
theorem jk {P:Program} {W:World} {r:Nat} {es:Array MapEntry} {clock:Nat} (hb:W.heap[r]?=some (.map es clock)):(getObj r).run P W = .ok (.map es clock) W:=MapKept.run_getObj_map hb
theorem kV:Tryz.prog.underlying 168=some (.map 36 4):=by kernel_rfl
theorem xY (W:World):(zeroValue 4).run Tryz.prog W = .ok (.bool false) W:=by kernel_rfl
theorem oQ {N:Nat} {o:Oper} {s:St} {x k:Operand} {id ep:Nat} {l:List Cb} {c:Cb} {r:Bool} (ho:o.op = .lookup 168 x k false) (hx:s.ev x = .ref id ep .map) (hid:s.σ id=⟨ep,some (fE l)⟩) (hk:s.ev k = .agg (cCb c)) (hr:decide (c∈l)=r) :
  ay Tryz.prog N o s ⟨.b r,[],[id]⟩:=by
 subst hr
 refine aA [id] _ fun s' W F μ a h1 h2 hr=>⟨.bool (decide (c∈l)),?_,.pure (.b _)⟩
 have ex:=hr.ev x
 have ek:=hr.ev k
 rw [h1 x (by rw [ho];simp [Op.operands]),hx] at ex
 rw [h1 k (by rw [ho];simp [Op.operands]),hk] at ek
 have hid':=(h2 id (by simp)).trans hid
 obtain ⟨b,c',hm,hv⟩:=(Rel.ref' ex).2.2 _ hid'
 obtain ⟨b',c'',hm',hh⟩:=hr.inv.body _ _ _ hid'
 obtain ⟨rfl,rfl⟩:b=b'/\c'=c'':=by rw [hm] at hm';simpa using hm'
 have hkv:=fS ek
 obtain ⟨lx,hlx⟩:=du c
 have hck:=fun em=>key_law.check W em hlx
 rcases oB W l c with ⟨h3,h4⟩ | ⟨h3,j,h4⟩
 ·rw [qC h3]
  simp only [execOp,ho,Instr.lookup,Sem.run_bind,run_underlying kV,Result.andThen_ok,hv,RK.val,jk hh,Sem.run_pure,hkv,hck,h4,xY]
  rfl
 ·rw [qF h3]
  simp only [execOp,ho,Instr.lookup,Sem.run_bind,run_underlying kV,Result.andThen_ok,hv,RK.val,jk hh,Sem.run_pure,hkv,hck,h4]
  rfl
theorem Bc {N : Nat} {o : Oper} {s : St} {x k v : Operand} {id ep : Nat} {l : List Cb} {c : Cb} (ho : o.op = .mapUpdate 168 x k v) (hx : s.ev x = .ref id ep .map) (hid : s.σ id = ⟨ep, some (fE l)⟩) (hk : s.ev k = .agg (cCb c)) (hv : s.ev v = .b true) (hc : c ∉ l) :
  ay Tryz.prog N o s ⟨.tup [],[(id,⟨ep,some (fE (l++[c]))⟩)],[]⟩:=by
 intro s' g1 g2 g3 W F μ a hr K Q hK
 have hid':s'.σ id=⟨ep,some (fE l)⟩:=(g3 (id,⟨ep,some (fE (l++[c]))⟩) (by simp)).trans hid
 have ex:=hr.ev x
 have ek:=hr.ev k
 have ev:=hr.ev v
 rw [g1 x (by rw [ho];simp [Op.operands]),hx] at ex
 rw [g1 k (by rw [ho];simp [Op.operands]),hk] at ek
 rw [g1 v (by rw [ho];simp [Op.operands]),hv] at ev
 obtain ⟨b,c',hm,hv⟩:=(Rel.ref' ex).2.2 _ hid'
 obtain ⟨b',c'',hm',hh⟩:=hr.inv.body _ _ _ hid'
 obtain ⟨rfl,rfl⟩:b=b'/\c'=c'':=by rw [hm] at hm';simpa using hm'
 have hkv:=fS ek
 have hvv:=ev.b'
 obtain ⟨lx,hlx⟩:=du c
 have hck:=fun em=>key_law.check W em hlx
 have hf:(Instr.findKey 36 (bH c) (kx l).toList).run Tryz.prog W = .ok none W:=by
  rcases oB W l c with ⟨h3,h4⟩ | ⟨h3,_⟩
  ·exact h4
  ·exact absurd h3 hc
 have hlt:b<W.heap.size:=(qI.1 hh).1
 generalize hW:({ W with heap:=W.heap.setIfInBounds b (.map (kx (l++[c])) (l++[c]).length) }:World)=W'
 have hrun:(execOp a.eval o).run Tryz.prog W = .ok .skip W':=by
  simp only [execOp,ho,Instr.mapUpdate,Sem.run_bind,run_underlying kV,Result.andThen_ok,hv,RK.val,jk hh,Sem.run_pure,hkv,hvv,hck,hf,MapKept.run_setObj_map _ hh,xw]
  rw [<- hW,qK,uB]
 have hk:Kp (fun b=>(s'.σ id).body.isSome=true/\∃c,μ id=some (b,c)) W W':=by
  subst hW
  exact ⟨rfl,rfl,rfl,by simp,fun k hk hn=>by
   have:b≠k:=fun e=>hn ⟨by rw [hid'];rfl,c',e ▸ hm⟩
   simp only [Array.getElem?_setIfInBounds,if_neg this]⟩
 have hh':W'.heap[b]?=some (.map (kx (l++[c])) (l++[c]).length):=by
  subst hW
  simp only [Array.getElem?_setIfInBounds,if_true,if_pos hlt]
 have hsz:W'.heap.size=W.heap.size:=by subst hW;simp
 obtain ⟨hs, hi⟩ := cu hr.inv id (μ id) ep (fE (l ++ [c])) hk (fun b1 c1 e => by
   rw [hm] at e
   obtain ⟨rfl,rfl⟩:b=b1/\c'=c1:=by simpa using e
   exact ⟨by rw [hsz];exact hlt,.inr ⟨by rw [hid'];rfl,c',hm⟩⟩)
  (.inr ⟨by rw [hid'],fE l,by rw [hid'],rfl,rfl⟩) (fun hs=>⟨b,c',hm,hh'⟩)
 unfold Oper.wp
 rw [hrun]
 exact hK _ F _ _ (hr.put hs hi (.pure (.tup [] [] rfl (by simp)))) hs
end Go.Proofs.YtdidjpohnopihaaGreat.Sm
end
