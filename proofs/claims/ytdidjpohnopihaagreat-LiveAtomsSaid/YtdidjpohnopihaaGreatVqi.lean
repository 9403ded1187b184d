/- Contracts of the program's functions over data, and the plain laws that they meet (part 9). No condition. -/
import Derived.Test.YtdidjpohnopihaaGreatVqh
import Derived.WalkKit
import Derived.WalkSpells
import Derived.WalkLawsBesides
import Derived.Lib.Hide
import Derived.Deep.RegionHeld3
import Derived.Maps.AppendAt
import Derived.KernelRfl
import Derived.Lib.AppendStr
import Derived.Orders
import Derived.LoopTactic
import Derived.Laws.CopyRow
import Derived.Laws.Cells
import Derived.OrdersIn
import Derived.Laws.Externs
import Derived.TacticsIn
import Derived.RangeFuncLeaves
import Derived.RangeFuncRecord
import Derived.Great.BuildSlice
import Derived.Laws.ResultCell
import Derived.Laws.StructEq
import Derived.Laws.MakeOwn
import Derived.Lib.AppendZerosOnto
import Derived.RangeFuncSeq
import Derived.RangeFuncIn
import Derived.Deep.Slices
import Derived.Deep.Fields
import Derived.ChangeSame
import Derived.ProofKit
import Derived.OpenShut
import Derived.SizedLaws
import Derived.Test.YtdidjpohnopihaaGreatProg
import Derived.Shelf.Spec.BitsCarry
import Derived.Laws.AppendOwn
import Derived.DeepKeys4
import Derived.MapKept
import Derived.Maps.Own
import Derived.Maps.OwnOps
import Derived.StillTailTactics
import Derived.Laws.OwnMore
import Derived.Sort.AssemblyPlain
import Derived.Sort.LotD4
import Derived.Sort.Walk13a
import Derived.Shelf.Sort.Plain
import Derived.Sort.OwnSortedInts
import Derived.Sort.LotA
import Derived.Sort.MapsRangeIn
import Derived.Maps.RangeWalk
import Derived.Laws.IdiomRangeMap
import Derived.Shelf.SlSortCmp.WholeK
import Derived.Ground.SlsfProg
import Derived.Ground.NamesProg
import Derived.Shelf.SlSortCmp.NoneTotal
import Derived.Lib.Overlaps
import Derived.BigQuiet
set_option linter.unusedVariables false
set_option linter.unusedSimpArgs false
set_option maxRecDepth 100000
set_option maxHeartbeats 4000000
section
namespace Go.Proofs.YtdidjpohnopihaaGreat.Sm
open Go.RowKit
def cSt (E:List Ed):List AV:=[.sl (E.map cEd)]
theorem mq.up {c:Cf}{V:Nat}{k:Kn}{B B':Nat}(h:mq c V k B)(hB:B<=B'):mq c V k B':=⟨h.v,h.sound,h.lens,h.fit,h.kn,vH h.next hB,h.len⟩
def oB (l:List aG)(g:Hd)(i:Nat)(a:Int):Prop :=
 (a = -1/\∀(j:Nat) (x:aG),j<i->l[j]?=some x->ar x.pile g=false)\/(∃(j:Nat) (x:aG),j<i/\a=(j:Int)/\l[j]?=some x/\ar x.pile g=true)
theorem oB.no {l:List aG}{g:Hd}{i:Nat}{a:Int}{x:aG}(h:oB l g i a)(hx:l[i]?=some x)(hp:ar x.pile g=false):oB l g (i+1) a:=by
 rcases h with⟨rfl,h⟩|⟨j,y,h1,h2,h3,h4⟩
 ·refine .inl ⟨rfl,fun j y hj hy=>?_⟩
  by_cases e:j=i
  ·subst e
   obtain rfl:=qB (hx.symm.trans hy)
   exact hp
  ·exact h j y (by omega) hy
 ·exact .inr ⟨j,y,by omega,h2,h3,h4⟩
theorem Dv {es:List CE}{l:List aG}(hP:eC es l){g:Hd}{i j:Nat}{x y:aG}(hx:l[i]?=some x)(hy:l[j]?=some y)(h1:ar x.pile g=true)(h2:ar y.pile g=true):i=j:=by
 have e:=hP.one g x (qN hx) y (qN hy) h1 h2
 subst e
 obtain⟨hi,e1⟩:=qD.1 hx
 obtain⟨hj,e2⟩:=qD.1 hy
 have hn:=List.pairwise_iff_getElem.1 hP.dist
 rcases Nat.lt_trichotomy i j with h|h|h
 ·exact absurd (by rw [List.getElem_map,List.getElem_map,e1,e2]) (hn i j (by rw [qG];exact hi) (by rw [qG];exact hj) h)
 ·exact h
 ·exact absurd (by rw [List.getElem_map,List.getElem_map,e1,e2]) (hn j i (by rw [qG];exact hj) (by rw [qG];exact hi) h)
theorem rB {es:List CE}{l:List aG}(hP:eC es l){i j:Nat}{x y:aG}(hx:l[i]?=some x)(hy:l[j]?=some y)(h:j<i):decide (x.ids=y.ids)=false:=by
 refine qC fun e=>?_
 obtain⟨hi,e1⟩:=qD.1 hx
 obtain⟨hj,e2⟩:=qD.1 hy
 exact absurd (by rw [List.getElem_map,List.getElem_map,e1,e2,e]) (List.pairwise_iff_getElem.1 hP.dist j i (by rw [qG];exact hj) (by rw [qG];exact hi) h)
theorem oB.yes {es:List CE}{l:List aG}(hP:eC es l){g:Hd}{i:Nat}{a:Int}{x:aG}(h:oB l g i a)(hx:l[i]?=some x)(hp:ar x.pile g=true):a = -1/\oB l g (i+1) (i:Int):=by
 refine⟨?_,.inr ⟨i,x,Nat.lt_succ_self i,rfl,hx,hp⟩⟩
 rcases h with⟨rfl,_⟩|⟨j,y,h1,h2,h3,h4⟩
 ·rfl
 ·exact absurd (Dv hP hx h3 hp h4) (by omega)
theorem oB.end_ {es:List CE}{l:List aG}(hP:eC es l){g:Hd}{a:Int}(h:oB l g l.length a):∃(j:Nat) (x:aG),a=(j:Int)/\x∈l/\l[j]?=some x/\ar x.pile g=true:=by
 rcases h with⟨rfl,h⟩|⟨j,y,h1,h2,h3,h4⟩
 ·obtain⟨x,hx,hh⟩:=hP.all g
  obtain⟨j,hj⟩:=List.mem_iff_getElem?.1 hx
  have:=h j x (qD.1 hj).1 hj
  rw [hh] at this
  cases this
 ·exact⟨j,y,h2,qN h3,h3,h4⟩
theorem mq.asked {c:Cf}{V:Nat}{k:Kn}{B:Nat}(h:mq c V k B):(aL c (V:Int)).length<=500:=by
 have:=dy (et c V) (m:=k.es.map fun e=>e.1) fun p hp=>by
  obtain⟨e,he,rfl⟩:=cw.1 ((h.kn.all p).1 hp)
  exact qX he
 rw [qG,oe] at this
 exact vH this h.len
theorem mq.alike {c:Cf}{V:Nat}{k:Kn}{B:Nat}(hO:mq c V k B){s:Sp}(hs:s∈aI c.topo.ports){x:aG}(hx:x∈k.ats){g h:Hd}(h1:ar x.pile g=true)(h2:ar x.pile h=true)(most:Nat):(bD c s g (V:Int) most).Alike (bD c s h (V:Int) most):=by
 have hc:=Cf.ok hO.sound
 obtain⟨_,hask⟩:=j5 hc (V:Int)
 have hA:=hask (by have:=hO.asked;omega)
 exact lS hc hA hs (fun p hp=>hO.kn.like hx h1 h2 p ((cH (aL c (V:Int))).mem_iff.2 hp)) most
theorem tw (c:Cf)(steps:List (List Ed))(s:Sp)(g h:Hd)(hL:c.Lens)(hf:c.Fit):aa Tryz.prog 5 [.agg (cCf c),.sl (steps.map cSt),.agg (cSp s),.agg (cHd g),.agg (cHd h)] (.b true):=by
 refine jb Tryz.func5 ?_
 by_cases hj:(dJ c (0:Nat)).kind=1
 ·have hN:=ET c 0 hL hf hj
  have hO:=Gy hL hf hj
  unfold Ec at hN
  generalize dJ c (0:Nat)=v at hN
  generalize (aO (bC c 0)).1=k0 at hN hO
  obtain⟨vk,ve,vw,vf,vh,vr⟩:=v
  refine jA ?_
  refine RG.ownN [] [(30,500),(31,501)] hN rfl rfl rfl rfl rfl rfl rfl rfl rfl rfl ?_
  refine jH ?_
  refine jc ln ?_
  refine jH ?_
  refine AW.condF rfl ?_
  refine jA ?_
  refine AW.loopL (ι:=Nat × Cf × Kn) (fun i=>[(1,.sl (steps.map cSt)),(5,.own 5 0 0),(7,.own 7 0 0),(8,.own 8 0 0),(9,.own 9 0 0),(11,.own 500 0 0),(13,.i .i64 (i.1:Nat))]) (fun i=>[(5,⟨0,some (.box 31 (cCf c))⟩),(7,⟨0,some (.box 40 (cSp s))⟩),(8,⟨0,some (.box 34 (cHd g))⟩),(9,⟨0,some (.box 34 (cHd h))⟩),(500,⟨0,some (.box 96 (lvC 501 i.2.1 0 i.2.2))⟩),(501,⟨0,some (bH i.2.2.es i.2.2.clk)⟩)]) (fun i=>i.1<=8/\mq i.2.1 0 i.2.2 (500+500*i.1)) (fun i=>8-i.1) (0,c,k0) ⟨qR _,hO⟩ jW ⟨bS rfl rfl rfl,bS rfl rfl rfl,bS rfl rfl rfl,bS rfl rfl rfl,.boxL rfl jQ rfl,.obj rfl rfl,trivial⟩ fun i hi=>?_
  obtain⟨k,c1,k1⟩:=i
  obtain⟨hk8,hO1⟩:=hi
  simp only at hk8 hO1
  by_cases hin:k<steps.length/\k<8
  ·obtain⟨g1,g2⟩:=hin
   have q1:((k:Nat):Int)<(((steps.map cSt).length:Nat):Int):=by rw [qG];omega
   have q2:((k:Nat):Int)<8:=by omega
   have hx:(steps.map cSt)[k]?=some (cSt steps[k]):=by rw [qF,qA g1];rfl
   generalize steps[k]=E at hx
   refine zB ?_
   refine RG.runO ae 0 [(40,.b true),(43,.b true)] 400 rfl jD ?_
   refine jH ?_
   refine AW.condT rfl ?_
   refine zB ?_
   refine wH rfl ?_
   refine jx hx ?_
   refine jH ?_
   refine AW.cond rfl (fun g3=>?_) (fun g3=>?_)
   ·have h3:E.length <= 6 := by
     have:=of_decide_eq_true g3
     rw [qG] at this
     simp only [qH] at this
     omega
    have hnx:mq c1 0 k1 (500+500*(k+1)):=hO1.up (by omega)
    rcases yL c1 0 k1 (500+500*k) E hO1 (by omega) (by omega) with⟨u,hu,hT⟩|⟨ht,_,k2,hO2,hT⟩
    ·clear hu
     unfold lvB at hT
     refine zB ?_
     refine wH rfl ?_
     refine jx hx ?_
     refine wH rfl ?_
     refine RG.ownN [(500,300),(501,301)] [(300,500),(301,501)] hT rfl rfl rfl rfl rfl rfl rfl rfl rfl rfl ?_
     refine jH ?_
     exact⟨(k+1,c1,k1),⟨⟨g2,hnx⟩,by show 8-(k+1)<8-k;omega⟩,jV,⟨bS rfl rfl rfl,bS rfl rfl rfl,bS rfl rfl rfl,bS rfl rfl rfl,.boxL rfl jQ rfl,.obj rfl rfl,trivial⟩⟩
    ·unfold lvB at hT
     refine zB ?_
     refine wH rfl ?_
     refine jx hx ?_
     refine wH rfl ?_
     refine RG.ownN [(500,300),(501,301)] [(300,500),(302,501)] hT rfl rfl rfl rfl rfl rfl rfl rfl rfl rfl ?_
     refine jH ?_
     exact⟨(k+1,dK c1 E,k2),⟨⟨g2,hO2.up (by omega)⟩,by show 8-(k+1)<8-k;omega⟩,jV,⟨bS rfl rfl rfl,bS rfl rfl rfl,bS rfl rfl rfl,bS rfl rfl rfl,.boxL rfl jQ rfl,.obj rfl rfl,trivial⟩⟩
   ·refine jA ?_
    exact⟨(k+1,c1,k1),⟨⟨g2,hO1.up (by omega)⟩,by show 8-(k+1)<8-k;omega⟩,jV,⟨bS rfl rfl rfl,bS rfl rfl rfl,bS rfl rfl rfl,bS rfl rfl rfl,.boxL rfl jQ rfl,.obj rfl rfl,trivial⟩⟩
  ·have hAt:=DQ c1 0 k1 hO1.kn.ok hO1.len
   have hCo:=tf c1 0 k1 hO1.fit
   have hP:=hO1.kn.ok.parts
   unfold lvB at hAt hCo
   have hal:=hP.len
   have hm:k1.ats.length<=9223372036854775807:=by omega
   have hbr:(k<steps.length/\¬k<8)\/¬k<steps.length:=by omega
   rcases hbr with⟨r1,r2⟩|r1
   case' inl=>
    have q1:((k:Nat):Int)<(((steps.map cSt).length:Nat):Int):=by rw [qG];omega
    have q2:¬((k:Nat):Int)<8:=by omega
    refine zB ?_
    refine RG.runO ae 0 [(40,.b true),(43,.b false)] 400 rfl jD ?_
    refine jH ?_
    refine AW.condF rfl ?_
    refine zE ?_
   case' inr=>
    have q1:¬((k:Nat):Int)<(((steps.map cSt).length:Nat):Int):=by rw [qG];omega
    refine zB ?_
    refine RG.runO ae 0 [(40,.b false)] 400 rfl jD ?_
    refine jH ?_
    refine AW.condF rfl ?_
    refine zE ?_
   all_goals
    refine RG.ownN [(500,300),(501,301)] [(300,500),(301,501)] hAt rfl rfl rfl rfl rfl rfl rfl rfl rfl rfl ?_
    refine jH ?_
    refine AW.loopL (ι:=Nat × Int × Int) (fun i=>[(7,.own 7 0 0),(8,.own 8 0 0),(9,.own 9 0 0),(11,.own 500 0 0),(14,.sl (k1.ats.map av)),(15,.i .i64 i.2.1),(16,.i .i64 i.2.2),(17,.i .i64 (i.1:Nat))]) (fun i=>[(7,⟨0,some (.box 40 (cSp s))⟩),(8,⟨0,some (.box 34 (cHd g))⟩),(9,⟨0,some (.box 34 (cHd h))⟩),(500,⟨0,some (.box 96 (lvC 501 c1 0 k1))⟩),(501,⟨0,some (bH k1.es k1.clk)⟩)]) (fun i=>i.1<=k1.ats.length/\oB k1.ats g i.1 i.2.1/\oB k1.ats h i.1 i.2.2) (fun i=>k1.ats.length-i.1) (0,-1,-1) ⟨qR _,.inl ⟨rfl,fun j x hj=>absurd hj (uO _)⟩,.inl ⟨rfl,fun j x hj=>absurd hj (uO _)⟩⟩ jW ⟨bS rfl rfl rfl,bS rfl rfl rfl,bS rfl rfl rfl,.boxL rfl jQ rfl,.obj rfl rfl,trivial⟩ fun i hi=>?_
    obtain⟨n,a,b⟩:=i
    obtain⟨hn,ha,hb⟩:=hi
    simp only at hn ha hb
    refine jA ?_
    refine AW.cond rfl (fun g1=>?_) (fun g1=>?_)
    ·have hl:n<k1.ats.length:=by simpa using g1
     have hx0:k1.ats[n]?=some k1.ats[n]:=qA hl
     have hx:(k1.ats.map av)[n]?=some (av k1.ats[n]):=by rw [qF,hx0];rfl
     have hpl:=(hP.ok k1.ats[n] (vR hl)).plen
     have hxl:k1.ats[n].ids.length<=1000000000:=by have:=(hP.ok k1.ats[n] (vR hl)).len;have:=hO1.len;omega
     generalize k1.ats[n]=x at hx hx0 hpl hxl
     have h1:=BQ x.pile g _ rfl (by omega)
     have h2:=BQ x.pile h _ rfl (by omega)
     obtain⟨p,hp⟩:∃p,ar x.pile g=p:=⟨_,rfl⟩
     obtain⟨q,hq⟩:∃q,ar x.pile h=q:=⟨_,rfl⟩
     rw [hp] at h1
     rw [hq] at h2
     refine zD ?_
     refine wH rfl ?_
     refine jx hx ?_
     refine wH rfl ?_
     refine jc h1 ?_
     refine wH rfl ?_
     refine jx hx ?_
     refine wH rfl ?_
     refine jc h2 ?_
     cases p with
     |true=>
      obtain⟨rfl,ha'⟩:=ha.yes hP hx0 hp
      cases q with
      |true=>
       obtain⟨rfl,hb'⟩:=hb.yes hP hx0 hq
       refine jH ?_
       refine AW.condF rfl ?_
       refine jA ?_
       refine AW.condT rfl ?_
       refine jA ?_
       refine AW.condT rfl ?_
       refine jA ?_
       refine AW.loopL (ι:=Nat) (fun i=>[(7,.own 7 0 0),(8,.own 8 0 0),(9,.own 9 0 0),(11,.own 500 0 0),(14,.sl (k1.ats.map av)),(15,.i .i64 ((n:Nat):Int)),(16,.i .i64 ((n:Nat):Int)),(17,.i .i64 (n:Nat)),(20,.i .i64 (i:Nat))]) (fun _=>[(7,⟨0,some (.box 40 (cSp s))⟩),(8,⟨0,some (.box 34 (cHd g))⟩),(9,⟨0,some (.box 34 (cHd h))⟩),(500,⟨0,some (.box 96 (lvC 501 c1 0 k1))⟩),(501,⟨0,some (bH k1.es k1.clk)⟩)]) (fun i=>i<=n) (fun i=>n-i) 0 (qR _) jW ⟨bS rfl rfl rfl,bS rfl rfl rfl,bS rfl rfl rfl,.boxL rfl jQ rfl,.obj rfl rfl,trivial⟩ fun m hm3=>?_
       refine jA ?_
       refine AW.cond rfl (fun g3=>?_) (fun g3=>?_)
       ·have h3:m < n := by
         have:=of_decide_eq_true g3
         omega
        have hy0:k1.ats[m]?=some k1.ats[m]:=qA (by omega)
        have hy:(k1.ats.map av)[m]?=some (av k1.ats[m]):=by rw [qF,hy0];rfl
        have hI:=mD x.ids k1.ats[m].ids _ (rB hP hx0 hy0 h3) hxl
        generalize k1.ats[m]=y at hy hy0 hI
        have hnm:n<=9223372036854775807:=by omega
        refine zD ?_
        refine wH rfl ?_
        refine jx hx ?_
        refine wH rfl ?_
        refine jx hy ?_
        refine wH rfl ?_
        refine jm hI ?_
        refine jH ?_
        refine AW.condF rfl ?_
        refine jA ?_
        exact⟨m+1,⟨h3,by omega⟩,jV,⟨bS rfl rfl rfl,bS rfl rfl rfl,bS rfl rfl rfl,.boxL rfl jQ rfl,.obj rfl rfl,trivial⟩⟩
       ·have h3:¬m<n:=fun h=>by rw [qE (by omega)] at g3;cases g3
        refine zE ?_
        refine jA ?_
        exact⟨(n+1,((n:Nat):Int),((n:Nat):Int)),⟨⟨hl,ha',hb'⟩,by show k1.ats.length-(n+1)<k1.ats.length-n;omega⟩,jV,⟨bS rfl rfl rfl,bS rfl rfl rfl,bS rfl rfl rfl,.boxL rfl jQ rfl,.obj rfl rfl,trivial⟩⟩
      |false=>
       have hb':=hb.no hx0 hq
       refine jH ?_
       refine AW.condF rfl ?_
       refine jA ?_
       refine AW.condT rfl ?_
       refine jA ?_
       refine AW.condF rfl ?_
       refine jA ?_
       refine AW.loopL (ι:=Nat) (fun i=>[(7,.own 7 0 0),(8,.own 8 0 0),(9,.own 9 0 0),(11,.own 500 0 0),(14,.sl (k1.ats.map av)),(15,.i .i64 ((n:Nat):Int)),(16,.i .i64 b),(17,.i .i64 (n:Nat)),(20,.i .i64 (i:Nat))]) (fun _=>[(7,⟨0,some (.box 40 (cSp s))⟩),(8,⟨0,some (.box 34 (cHd g))⟩),(9,⟨0,some (.box 34 (cHd h))⟩),(500,⟨0,some (.box 96 (lvC 501 c1 0 k1))⟩),(501,⟨0,some (bH k1.es k1.clk)⟩)]) (fun i=>i<=n) (fun i=>n-i) 0 (qR _) jW ⟨bS rfl rfl rfl,bS rfl rfl rfl,bS rfl rfl rfl,.boxL rfl jQ rfl,.obj rfl rfl,trivial⟩ fun m hm3=>?_
       refine jA ?_
       refine AW.cond rfl (fun g3=>?_) (fun g3=>?_)
       ·have h3:m < n := by
         have:=of_decide_eq_true g3
         omega
        have hy0:k1.ats[m]?=some k1.ats[m]:=qA (by omega)
        have hy:(k1.ats.map av)[m]?=some (av k1.ats[m]):=by rw [qF,hy0];rfl
        have hI:=mD x.ids k1.ats[m].ids _ (rB hP hx0 hy0 h3) hxl
        generalize k1.ats[m]=y at hy hy0 hI
        have hnm:n<=9223372036854775807:=by omega
        refine zD ?_
        refine wH rfl ?_
        refine jx hx ?_
        refine wH rfl ?_
        refine jx hy ?_
        refine wH rfl ?_
        refine jm hI ?_
        refine jH ?_
        refine AW.condF rfl ?_
        refine jA ?_
        exact⟨m+1,⟨h3,by omega⟩,jV,⟨bS rfl rfl rfl,bS rfl rfl rfl,bS rfl rfl rfl,.boxL rfl jQ rfl,.obj rfl rfl,trivial⟩⟩
       ·have h3:¬m<n:=fun h=>by rw [qE (by omega)] at g3;cases g3
        refine zE ?_
        refine jA ?_
        exact⟨(n+1,((n:Nat):Int),b),⟨⟨hl,ha',hb'⟩,by show k1.ats.length-(n+1)<k1.ats.length-n;omega⟩,jV,⟨bS rfl rfl rfl,bS rfl rfl rfl,bS rfl rfl rfl,.boxL rfl jQ rfl,.obj rfl rfl,trivial⟩⟩
     |false=>
      have ha':=ha.no hx0 hp
      cases q with
      |true=>
       obtain⟨rfl,hb'⟩:=hb.yes hP hx0 hq
       refine jH ?_
       refine AW.condF rfl ?_
       refine jA ?_
       refine AW.condF rfl ?_
       refine jA ?_
       refine AW.condT rfl ?_
       refine jA ?_
       refine AW.loopL (ι:=Nat) (fun i=>[(7,.own 7 0 0),(8,.own 8 0 0),(9,.own 9 0 0),(11,.own 500 0 0),(14,.sl (k1.ats.map av)),(15,.i .i64 a),(16,.i .i64 ((n:Nat):Int)),(17,.i .i64 (n:Nat)),(20,.i .i64 (i:Nat))]) (fun _=>[(7,⟨0,some (.box 40 (cSp s))⟩),(8,⟨0,some (.box 34 (cHd g))⟩),(9,⟨0,some (.box 34 (cHd h))⟩),(500,⟨0,some (.box 96 (lvC 501 c1 0 k1))⟩),(501,⟨0,some (bH k1.es k1.clk)⟩)]) (fun i=>i<=n) (fun i=>n-i) 0 (qR _) jW ⟨bS rfl rfl rfl,bS rfl rfl rfl,bS rfl rfl rfl,.boxL rfl jQ rfl,.obj rfl rfl,trivial⟩ fun m hm3=>?_
       refine jA ?_
       refine AW.cond rfl (fun g3=>?_) (fun g3=>?_)
       ·have h3:m < n := by
         have:=of_decide_eq_true g3
         omega
        have hy0:k1.ats[m]?=some k1.ats[m]:=qA (by omega)
        have hy:(k1.ats.map av)[m]?=some (av k1.ats[m]):=by rw [qF,hy0];rfl
        have hI:=mD x.ids k1.ats[m].ids _ (rB hP hx0 hy0 h3) hxl
        generalize k1.ats[m]=y at hy hy0 hI
        have hnm:n<=9223372036854775807:=by omega
        refine zD ?_
        refine wH rfl ?_
        refine jx hx ?_
        refine wH rfl ?_
        refine jx hy ?_
        refine wH rfl ?_
        refine jm hI ?_
        refine jH ?_
        refine AW.condF rfl ?_
        refine jA ?_
        exact⟨m+1,⟨h3,by omega⟩,jV,⟨bS rfl rfl rfl,bS rfl rfl rfl,bS rfl rfl rfl,.boxL rfl jQ rfl,.obj rfl rfl,trivial⟩⟩
       ·have h3:¬m<n:=fun h=>by rw [qE (by omega)] at g3;cases g3
        refine zE ?_
        refine jA ?_
        exact⟨(n+1,a,((n:Nat):Int)),⟨⟨hl,ha',hb'⟩,by show k1.ats.length-(n+1)<k1.ats.length-n;omega⟩,jV,⟨bS rfl rfl rfl,bS rfl rfl rfl,bS rfl rfl rfl,.boxL rfl jQ rfl,.obj rfl rfl,trivial⟩⟩
      |false=>
       have hb':=hb.no hx0 hq
       refine jH ?_
       refine AW.condF rfl ?_
       refine jA ?_
       refine AW.condF rfl ?_
       refine jA ?_
       refine AW.condF rfl ?_
       refine jA ?_
       refine AW.loopL (ι:=Nat) (fun i=>[(7,.own 7 0 0),(8,.own 8 0 0),(9,.own 9 0 0),(11,.own 500 0 0),(14,.sl (k1.ats.map av)),(15,.i .i64 a),(16,.i .i64 b),(17,.i .i64 (n:Nat)),(20,.i .i64 (i:Nat))]) (fun _=>[(7,⟨0,some (.box 40 (cSp s))⟩),(8,⟨0,some (.box 34 (cHd g))⟩),(9,⟨0,some (.box 34 (cHd h))⟩),(500,⟨0,some (.box 96 (lvC 501 c1 0 k1))⟩),(501,⟨0,some (bH k1.es k1.clk)⟩)]) (fun i=>i<=n) (fun i=>n-i) 0 (qR _) jW ⟨bS rfl rfl rfl,bS rfl rfl rfl,bS rfl rfl rfl,.boxL rfl jQ rfl,.obj rfl rfl,trivial⟩ fun m hm3=>?_
       refine jA ?_
       refine AW.cond rfl (fun g3=>?_) (fun g3=>?_)
       ·have h3:m < n := by
         have:=of_decide_eq_true g3
         omega
        have hy0:k1.ats[m]?=some k1.ats[m]:=qA (by omega)
        have hy:(k1.ats.map av)[m]?=some (av k1.ats[m]):=by rw [qF,hy0];rfl
        have hI:=mD x.ids k1.ats[m].ids _ (rB hP hx0 hy0 h3) hxl
        generalize k1.ats[m]=y at hy hy0 hI
        have hnm:n<=9223372036854775807:=by omega
        refine zD ?_
        refine wH rfl ?_
        refine jx hx ?_
        refine wH rfl ?_
        refine jx hy ?_
        refine wH rfl ?_
        refine jm hI ?_
        refine jH ?_
        refine AW.condF rfl ?_
        refine jA ?_
        exact⟨m+1,⟨h3,by omega⟩,jV,⟨bS rfl rfl rfl,bS rfl rfl rfl,bS rfl rfl rfl,.boxL rfl jQ rfl,.obj rfl rfl,trivial⟩⟩
       ·have h3:¬m<n:=fun h=>by rw [qE (by omega)] at g3;cases g3
        refine zE ?_
        refine jA ?_
        exact⟨(n+1,a,b),⟨⟨hl,ha',hb'⟩,by show k1.ats.length-(n+1)<k1.ats.length-n;omega⟩,jV,⟨bS rfl rfl rfl,bS rfl rfl rfl,bS rfl rfl rfl,.boxL rfl jQ rfl,.obj rfl rfl,trivial⟩⟩
    ·have hl:¬n<k1.ats.length:=by simpa using g1
     obtain rfl:n=k1.ats.length:=by omega
     obtain⟨ja,xa,rfl,hxa,hja,pa⟩:=ha.end_ hP
     obtain⟨jb,xb,rfl,hxb,hjb,pb⟩:=hb.end_ hP
     have na:¬((ja:Nat):Int)<0:=by omega
     have nb:¬((jb:Nat):Int)<0:=by omega
     refine jA ?_
     refine jE ?_;refine jB ?_
     refine AW.text ?_
     refine RG.runO ae 0 [(114,.b false),(117,.b false)] 400 rfl jD ?_
     refine jH ?_
     refine AW.condF rfl ?_
     refine jA ?_
     refine RG.ownN [(500,300),(501,301)] [(300,500),(301,501)] hCo rfl rfl rfl rfl rfl rfl rfl rfl rfl rfl ?_
     refine wH rfl ?_;refine jB ?_
     refine AW.text ?_
     by_cases hab:((ja:Nat):Int)=((jb:Nat):Int)
     ·refine RG.runO ae 0 [(123,.b false)] 400 rfl jD ?_
      refine jc (y5 c1.topo.ports s) ?_
      by_cases hed:aZ c1.topo.ports s<0
      ·refine RG.runO ae 0 [(129,.b true)] 400 rfl jD ?_
       refine jH ?_
       refine AW.condT rfl ?_
       refine zR ?_
       rfl
      ·refine RG.runO ae 0 [(129,.b false)] 400 rfl jD ?_
       refine jH ?_
       refine AW.condF rfl ?_
       have hc:=Cf.ok hO1.sound
       have hs:s∈aI c1.topo.ports:=(fo hc.topo).1 (by omega)
       have hx:=zr c1 hc s hs g 0 10800 (by decide) (by decide)
       have hy:=zr c1 hc s hs h 0 10800 (by decide) (by decide)
       have hAl:=hO1.alike hs hxa pa (show ar xa.pile h=true by
        obtain rfl:ja=jb:=by omega
        obtain rfl:=qB (hja.symm.trans hjb)
        exact pb) 10800
       generalize bD c1 s g (0:Nat) 10800=rx at hx hAl
       generalize bD c1 s h (0:Nat) 10800=ry at hy hAl
       obtain⟨fx,px,lx⟩:=rx
       obtain⟨fy,py,ly⟩:=ry
       obtain⟨w1,w2,w3⟩:=hAl
       simp only at w1 w2 w3
       subst w1 w2
       have hln:lx.length=ly.length:=by have:=congrArg List.length w3;rwa [qG,qG] at this
       have q1:fx=fx:=rfl
       have q2:(((lx.map dG).length:Nat):Int)=(((ly.map dG).length:Nat):Int):=by rw [qG,qG,hln]
       refine zD ?_
       refine wH rfl ?_
       refine jm hx ?_
       refine wH rfl ?_
       refine jm hy ?_
       refine wH rfl ?_;refine jB ?_
       refine AW.text ?_
       refine RG.runO ae 0 [(143,.b false)] 400 rfl jD ?_
       refine RG.opS rfl (mQ rfl ae (by kernel_rfl) (by kernel_rfl) rfl rfl ((Bj px px).trans (congrArg some (qE rfl))) rfl) rfl ?_
       refine RG.runO ae 0 [(158,.b false)] 400 rfl jD ?_
       refine jH ?_
       refine AW.condF rfl ?_
       refine jA ?_
       refine AW.loopL (ι:=Nat) (fun i=>[(22,.own 22 0 0),(23,.own 23 0 0),(24,.i .i64 (i:Nat))]) (fun _=>[(22,⟨0,some (.box 43 (mw ⟨fx,px,lx⟩))⟩),(23,⟨0,some (.box 43 (mw ⟨fx,px,ly⟩))⟩)]) (fun i=>i<=lx.length) (fun i=>lx.length-i) 0 (qR _) jW jW fun i hi=>?_
       refine jA ?_
       refine AW.lens 162 rfl fun hm4=>?_
       have hm4:lx.length<=9223372036854775807:=by rw [qG] at hm4;omega
       refine AW.cond rfl (fun g4=>?_) (fun g4=>?_)
       ·have h4:i<lx.length:=by simpa using g4
        have hkx:(lx.map dG)[i]?=some (dG lx[i]):=by rw [qF,qA h4];rfl
        have hky:(ly.map dG)[i]?=some (dG (ly[i]'(by omega))):=by rw [qF,qA (by omega)];rfl
        have hkk:fl lx[i]=fl (ly[i]'(by omega)):=by
         have:=congrArg (fun z=>z[i]?) w3
         simp only [qF,qA h4,qA (show i<ly.length by omega),Option.map_some] at this
         exact qB this
        generalize lx[i]=x at hkx hkk
        generalize ly[i]'(by omega)=y at hky hkk
        have e1:x.rule=y.rule:=congrArg (fun z=>z.2.2) hkk
        have e2:x.sw=y.sw:=congrArg (fun z=>z.1) hkk
        refine zD ?_
        refine wH rfl ?_
        refine jx hkx ?_
        refine wH rfl ?_
        refine jx hky ?_
        refine RG.runO ae 0 [(179,.b false)] 400 rfl jD ?_
        refine jx hkx ?_
        refine wH rfl ?_
        refine jx hky ?_
        refine RG.runO ae 0 [(193,.b false)] 400 rfl jD ?_
        refine jH ?_
        refine AW.condF rfl ?_
        refine jA ?_
        exact⟨i+1,⟨h4,by omega⟩,jV,jW⟩
       ·have h4:¬i<lx.length:=by simpa using g4
        refine zE ?_
        refine zR ?_
        rfl
     ·refine RG.runO ae 0 [(123,.b true)] 400 rfl jD ?_
      refine jH ?_
      refine AW.condT rfl ?_
      refine zR ?_
      rfl
 ·have hN:=Dt c 0 hL hj
  generalize dJ c 0=v at hN
  obtain⟨vk,ve,vw,vf,vh,vr⟩:=v
  refine jA ?_
  refine jm hN ?_
  refine jH ?_
  refine jc ln ?_
  refine jH ?_
  refine AW.condT rfl ?_
  refine jA ?_
  refine jc ln ?_
  refine zH ?_
  rfl
theorem FN:bz Tryz.prog 69 1 (fun l:List Ed=>[.sl (l.map cEd)]):=HJ.slice Tryz.underlying69 (by kernel_rfl) (by decide)
theorem FP:bz Tryz.prog 68 1 (fun l:List (List Ed)=>[.sl (l.map cSt)]):=FN.slice Tryz.underlying68 (by kernel_rfl) (by decide)
open Go.RowKit Go.WideShapes Go.ChangeShapes Go.Deep
theorem RdZ.sliceB {α:Type}{P:Program}{t e:TypeId}{R:Rep α}{Q:α->Prop}(hR:RdZ P e R Q)(ht:P.underlying t=some (.slice e))(hn:P.cellsOf e=R.n)(h0:0<R.n)(hb:0<P.bytesOf e):RdZ P t R.slice (fun l=>l.length*P.bytesOf e<=reachBytes/\∀a∈l,Q a):=by
 intro H enc w base spare held fuel cs x hx hz
 rcases open_slice ht hx with⟨rfl,_⟩|⟨a,len,cap,m,n,D,Pl,rfl,_,hlc,hcm,hm,rfl,hel⟩
 ·exact⟨[],⟨_,rfl,bb.nil _ _ _⟩,by simp,fun a ha=>by cases ha⟩
 ·have hlm:len<=m:=by rw [hm];split <;> omega
  simp only [DataW.weights,ht] at hz
  have hlen:len*P.bytesOf e<=reachBytes:=by
   have h1:=hz _ vD
   rw [qG,List.length_range] at h1
   have h2:len*P.bytesOf e<=(len+(List.map (fun j=>D (len+j)) (List.range (m-len))).length)*P.bytesOf e:=Nat.mul_le_mul_right _ (Nat.le_add_right _ _)
   omega
  have hzi:∀i,i<len->∀k∈(D i).weights P e,k<=reachBytes:=fun i hi k hk=>by
   refine hz k (qZ _ (vS _ ?_))
   exact iL (qX (uV.2 hi)) k hk
  by_cases hp:0<len
  ·have hspot:a = ⟨a.block,a.off,none⟩ /\ a.block < w.heap.size := by
    obtain⟨cs',hc,_⟩:=hel 0 (by omega)
    obtain⟨_,hl,hat⟩:=World.cells?_some hc
    have h1:=hat 0 (by rw [hn];exact h0)
    have e:(a.add (0*P.cellsOf e)).add 0=a:=by simp [Addr.add]
    rw [e,qA (by rw [hl,hn];exact h0)] at h1
    refine⟨?_,World.block_lt_of_cell? w a h1⟩
    unfold World.cell? at h1
    split at h1
    ·split at h1
     ·cases h1
     ·rename_i hs
      obtain⟨ab,ao,asp⟩:=a
      cases asp with
      |none=>rfl
      |some k=>simp at hs
    ·cases h1
   obtain⟨xs,cells,h1,h2,h3⟩:=eW (r:=fun a c=>R.rel w (fun b=>b<w.heap.size) a c/\Q a) (n:=R.n) (fun _ _ h=>R.len h.1) w a.block a.off len fun i hi=>by
    obtain⟨cs',hc,ht'⟩:=hel i (by omega)
    obtain⟨y,hy,hq⟩:=hR H enc w base spare held n cs' _ ht' (hzi i hi)
    obtain⟨_,hl,hat⟩:=World.cells?_some hc
    refine⟨y,cs',⟨hy,hq⟩,fun j u hu=>?_⟩
    have hj:j<P.cellsOf e:=by have:=(qD.1 hu).1;omega
    have:=hat j hj
    rw [hu,hn,hspot.1] at this
    rw [show ((⟨a.block,a.off,none⟩:Addr).add (i*R.n)).add j=⟨a.block,a.off+(i*R.n+j),none⟩ by
     unfold Addr.add
     by_cases h1:i*R.n=0 <;> by_cases h2:j=0 <;> simp [h1,h2,Nat.add_assoc]] at this
    exact this
   obtain⟨g1,g2⟩:=om h2
   exact⟨xs,⟨_,rfl,some a,cap,by rw [h1],by omega,hcm,fun _=>⟨a.block,a.off,by rw [<- hspot.1],hspot.2,hspot.2,cells,g1,h3⟩⟩,by rw [h1];exact hlen,g2⟩
  ·obtain rfl:len=0:=by omega
   exact⟨[],⟨_,rfl,some a,cap,rfl,qR _,hcm,fun h=>absurd h (Nat.lt_irrefl _)⟩,by simp,fun a ha=>by cases ha⟩
section
variable {P:Program} {t:TypeId}
theorem RdA.sliceB {α:Type}{e:TypeId}{n:Nat}{enc:α->List AV}{Q:α->Prop}(h:RdA P e n enc Q)(ht:P.underlying t=some (.slice e))(hn:P.cellsOf e=n)(h0:0<n)(hb:0<P.bytesOf e){S:Nat}(hS:P.bytesOf e=S):RdA P t 1 (fun l:List α=>[.sl (l.map enc)]) (fun l=>l.length*S<=reachBytes/\∀a∈l,Q a):=by
 subst hS
 have E:=(rf h.len h.one).slice h0
 refine⟨E.len,E.one,fun H e w base spare held fuel cs x hx hz=>?_⟩
 have hR:RdZ P _ (avR n enc h.len h.one) Q:=fun H e w base spare held fuel cs x hx hz=>h.read H e w base spare held fuel cs x hx hz
 obtain⟨a,ha,hq⟩:=hR.sliceB ht hn h0 hb H e w base spare held fuel cs x hx hz
 exact⟨a,⟨by rw [(avR n enc h.len h.one).slice.len ha,E.len],fun j y hj=>E.one a y (qN hj),fun j y v hj hv=>E.to ha j y v hj hv⟩,hq⟩
end
theorem Fx:RdA Tryz.prog 112 1 (fun l:List (Pt)=>[.sl (l.map cPt)]) (fun l=>l.length*40<=reachBytes/\∀a∈l,True):=(RdA.of G6).sliceB Tryz.underlying112 (by kernel_rfl) (by decide) (qW (by kernel_rfl)) (by kernel_rfl)
theorem Dp:RdA Tryz.prog 22 1 (fun l:List (List Pt)=>[.sl (l.map aP)]) (fun l=>l.length*24<=reachBytes/\∀a∈l,a.length*40<=reachBytes/\∀b∈a,True):=Fx.sliceB Tryz.underlying22 (by kernel_rfl) (by decide) (qW (by kernel_rfl)) (by kernel_rfl)
theorem GL:RdA Tryz.prog 25 1 (fun l:List (Int × Int)=>[.sl (l.map cPr)]) (fun l=>l.length*16<=reachBytes/\∀a∈l,True):=(RdA.of Ip).sliceB Tryz.underlying25 (by kernel_rfl) (by decide) (qW (by kernel_rfl)) (by kernel_rfl)
theorem F7:RdA Tryz.prog 26 1 (fun l:List (Wy)=>[.sl (l.map cWy)]) (fun l=>l.length*24<=reachBytes/\∀a∈l,True):=(RdA.of GX).sliceB Tryz.underlying26 (by kernel_rfl) (by decide) (qW (by kernel_rfl)) (by kernel_rfl)
theorem FO:RdA Tryz.prog 53 1 (fun l:List (Rl)=>[.sl (l.map cRl)]) (fun l=>l.length*96<=reachBytes/\∀a∈l,True):=(RdA.of E4).sliceB Tryz.underlying53 (by kernel_rfl) (by decide) (qW (by kernel_rfl)) (by kernel_rfl)
theorem Gu:RdA Tryz.prog 52 1 (fun l:List (List Rl)=>[.sl (l.map bp)]) (fun l=>l.length*24<=reachBytes/\∀a∈l,a.length*96<=reachBytes/\∀b∈a,True):=FO.sliceB Tryz.underlying52 (by kernel_rfl) (by decide) (qW (by kernel_rfl)) (by kernel_rfl)
theorem Em:RdA Tryz.prog 29 1 (fun l:List (List (List Rl))=>[.sl (l.map bY)]) (fun l=>l.length*24<=reachBytes/\∀a∈l,a.length*24<=reachBytes/\∀b∈a,b.length*96<=reachBytes/\∀c∈b,True):=Gu.sliceB Tryz.underlying29 (by kernel_rfl) (by decide) (qW (by kernel_rfl)) (by kernel_rfl)
theorem Dz:RdA Tryz.prog 24 1 (α:=Gl) ic (fun a=>a.ports.length*24<=reachBytes/\∀r∈a.ports,r.length*40<=reachBytes):=by
 refine⟨fun _=>rfl,fun a=>qV.1 rfl,fun H e w base spare held fuel cs x hx hz=>?_⟩
 obtain⟨m,hl,hp⟩:=gH Tryz.underlying24 hx hz
 have hl:cs.length=1:=hl.trans (by kernel_rfl)
 obtain⟨a0,h0,q0⟩:=Dp.part (hp 0 22 0 1 rfl (by kernel_rfl))
 exact⟨⟨a0⟩,PWs.all (h0.join rfl (PWs.nil hl)),q0.1,fun r hr=>(q0.2 r hr).1⟩
theorem Gg:RdA Tryz.prog 28 3 (α:=Pol) ur (fun a=>a.peers.length*16<=reachBytes/\a.ways.length*24<=reachBytes):=by
 refine⟨fun _=>rfl,fun a=>qV.1 rfl,fun H e w base spare held fuel cs x hx hz=>?_⟩
 obtain⟨m,hl,hp⟩:=gH Tryz.underlying28 hx hz
 have hl:cs.length=3:=hl.trans (by kernel_rfl)
 obtain⟨a0,h0,_⟩:=(RdA.of cA).part (hp 0 3 0 1 rfl (by kernel_rfl))
 obtain⟨a1,h1,q1⟩:=GL.part (hp 1 25 1 1 rfl (by kernel_rfl))
 obtain⟨a2,h2,q2⟩:=F7.part (hp 2 26 2 1 rfl (by kernel_rfl))
 exact⟨⟨a0,a1,a2⟩,PWs.all (h0.join rfl (h1.join rfl (h2.join rfl (PWs.nil hl)))),q1.1,q2.1⟩
theorem Hz:RdA Tryz.prog 31 5 (α:=Cf) cCf (fun c=>c.Lens/\c.Fit):=by
 refine⟨fun _=>rfl,fun a=>qV.1 rfl,fun H e w base spare held fuel cs x hx hz=>?_⟩
 obtain⟨m,hl,hp⟩:=gH Tryz.underlying31 hx hz
 have hl:cs.length=5:=hl.trans (by kernel_rfl)
 obtain⟨a0,h0,q0⟩:=Dz.part (hp 0 24 0 1 rfl (by kernel_rfl))
 obtain⟨a1,h1,q1⟩:=Gg.part (hp 1 28 1 3 rfl (by kernel_rfl))
 obtain⟨a2,h2,q2⟩:=Em.part (hp 2 29 4 1 rfl (by kernel_rfl))
 refine⟨⟨a0,a1,a2⟩,PWs.all (h0.join rfl (h1.join rfl (h2.join rfl (PWs.nil hl)))),fun t ht l hl=>?_,⟨q0.1,q0.2,q1.1,q1.2,q2.1,fun t ht=>(q2.2 t ht).1,fun t ht l hl=>((q2.2 t ht).2 l hl).1⟩⟩
 have:=((q2.2 t ht).2 l hl).1
 omega
end Go.Proofs.YtdidjpohnopihaaGreat.Sm
end
section
namespace Go.Proofs.YtdidjpohnopihaaGreat
open Go.RowKit Go.WideShapes Go.ChangeShapes Go.Deep Sm
theorem LiveAtoms_law {H:Type}{e:TypeId × Value->H}(W:World)(b0:Nat)
  (v0:Value) (d0:DataW H) (p0:List MemPlace) (ok0:Value.okWide Tryz.prog W .any b0 31 v0) (h0:DataW.Trod e Tryz.prog W 0 (fun _=>true) true 31 v0 d0 p0)
  (v1:Value) (d1:DataW H) (p1:List MemPlace) (ok1:Value.okWide Tryz.prog W .any b0 68 v1) (h1:DataW.Trod e Tryz.prog W 0 (fun _=>true) true 68 v1 d1 p1)
  (v2:Value) (d2:DataW H) (p2:List MemPlace) (ok2:Value.okWide Tryz.prog W .any b0 40 v2) (h2:DataW.Trod e Tryz.prog W 0 (fun _=>true) true 40 v2 d2 p2)
  (v3:Value) (d3:DataW H) (p3:List MemPlace) (ok3:Value.okWide Tryz.prog W .any b0 34 v3) (h3:DataW.Trod e Tryz.prog W 0 (fun _=>true) true 34 v3 d3 p3)
  (v4:Value) (d4:DataW H) (p4:List MemPlace) (ok4:Value.okWide Tryz.prog W .any b0 34 v4) (h4:DataW.Trod e Tryz.prog W 0 (fun _=>true) true 34 v4 d4 p4)
  (hsz:(DataW.weightsEach Tryz.prog [31,68,40,34,34] [d0,d1,d2,d3,d4]).all (·<=reachBytes)=true)
  : Calls Tryz.prog 5 #[v0,v1,v2,v3,v4] W fun e W'=>e = .returned (.bool true)/\Kp No W W':=by
 obtain⟨a0,r0,q0⟩:=Hz.arg_struct Tryz.underlying31 hsz 0 rfl rfl ok0 h0
 obtain⟨a1,r1⟩:=FP.arg_slice Tryz.underlying68 ok1 h1
 obtain⟨a2,r2⟩:=GU.arg_struct Tryz.underlying40 ok2 h2
 obtain⟨a3,r3⟩:=xm.arg_struct Tryz.underlying34 ok3 h3
 obtain⟨a4,r4⟩:=xm.arg_struct Tryz.underlying34 ok4 h4
 exact (tw a0 a1 a2 a3 a4 q0.1 q0.2).law (vs:=[v0,v1,v2,v3,v4]) rfl (aQ r0 (aQ r1 (aQ r2 (aQ r3 (aQ r4 (cP))))))
end Go.Proofs.YtdidjpohnopihaaGreat
end
