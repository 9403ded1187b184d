/- Contracts of the program's functions over data, and the plain laws that they meet (part 8). No condition. -/
import Derived.Test.YtdidjpohnopihaaGreatVpg
import Derived.WalkKit
import Derived.WalkSpells
import Derived.WalkLawsBesides
import Derived.Lib.Hide
import Derived.Deep.RegionHeld3
import Derived.Maps.AppendAt
import Derived.KernelRfl
import Derived.Lib.AppendStr
import Derived.Orders
import Derived.LoopTactic
import Derived.Laws.CopyRow
import Derived.Laws.Cells
import Derived.OrdersIn
import Derived.Laws.Externs
import Derived.TacticsIn
import Derived.RangeFuncLeaves
import Derived.RangeFuncRecord
import Derived.Great.BuildSlice
import Derived.Laws.ResultCell
import Derived.Laws.StructEq
import Derived.Laws.MakeOwn
import Derived.Lib.AppendZerosOnto
import Derived.RangeFuncSeq
import Derived.RangeFuncIn
import Derived.Deep.Slices
import Derived.Deep.Fields
import Derived.ChangeSame
import Derived.ProofKit
import Derived.OpenShut
import Derived.SizedLaws
import Derived.Test.YtdidjpohnopihaaGreatProg
import Derived.Shelf.Spec.BitsCarry
import Derived.Laws.AppendOwn
import Derived.DeepKeys4
import Derived.MapKept
import Derived.Maps.Own
import Derived.Maps.OwnOps
import Derived.StillTailTactics
import Derived.Laws.OwnMore
import Derived.Sort.AssemblyPlain
import Derived.Sort.LotD4
import Derived.Sort.Walk13a
import Derived.Shelf.Sort.Plain
import Derived.Sort.OwnSortedInts
import Derived.Sort.LotA
import Derived.Sort.MapsRangeIn
import Derived.Maps.RangeWalk
import Derived.Laws.IdiomRangeMap
import Derived.Shelf.SlSortCmp.WholeK
import Derived.Ground.SlsfProg
import Derived.Ground.NamesProg
import Derived.Shelf.SlSortCmp.NoneTotal
import Derived.Lib.Overlaps
import Derived.BigQuiet
set_option linter.unusedVariables false
set_option linter.unusedSimpArgs false
set_option maxRecDepth 100000
set_option maxHeartbeats 4000000
section
namespace Go.Proofs.YtdidjpohnopihaaGreat.Sm
open Go.RowKit
def Cf.put (c:Cf) (t:bW):Cf:=⟨c.topo,c.pol,t⟩
def eJ (c:Cf) (E:List Ed):Int:=if (ax c.tables E).1=0 then (c.put (ax c.tables E).2).sound else (ax c.tables E).1
theorem kA {c:Cf} {E:List Ed} (h:(ax c.tables E).1=0):cO c (ax c.tables E) = .tup [.agg (cCf (c.put (ax c.tables E).2)),.i .i64 0]:=by
 unfold cO
 rw [if_pos h,h]
 rfl
theorem Az {c:Cf} {E:List Ed} (h:¬(ax c.tables E).1=0):cO c (ax c.tables E) = .tup [.agg [.sl [],.i .i64 0,.sl [],.sl [],.sl []],.i .i64 (ax c.tables E).1]:=by
 unfold cO
 rw [if_neg h]
theorem AA (c:Cf) (V:Nat) (k:Kn) (E:List Ed) (hA:ae Tryz.prog 31 [.agg (cCf c),.sl (E.map cEd)] (cO c (ax c.tables E))) (h:eJ c E≠0) (q:Nat->Option (Nat × Nat)) :
  aq Tryz.prog 14 [.own 300 0 0,.sl (E.map cEd)] (gl q [300,301] (lvB c V k)) (.agg (cVd (vdE 3 (eJ c E)))) (gl q [300,301] (lvB c V k)):=by
 refine aq.of_body Tryz.func14 rfl (by kernel_rfl) rfl rfl ?_
 unfold eJ at h ⊢
 by_cases h0:(ax c.tables E).1=0
 ·rw [kA h0] at hA
  rw [if_pos h0] at h ⊢
  have hS:=dD (c.put (ax c.tables E).2)
  generalize c.put (ax c.tables E).2=c1 at hA hS h ⊢
  rw [lvB,lvC]
  generalize cA (bw (bN c))=rt
  generalize c1.sound=e at hS h ⊢
  have h1:(!decide (e=0))=true:=by rw [qC h];rfl
  refine jA ?_
  refine AW.condF rfl ?_
  refine jA ?_
  refine jm hA ?_;refine jH ?_
  refine AW.condT rfl ?_
  refine jA ?_
  refine jc hS ?_
  refine jH ?_
  refine AW.condT (congrArg AV.b h1) ?_
  refine jA ?_
  exact AW.ret (dq af rfl rfl (Rm.aggL rfl ⟨⟨Rm.is rfl rfl,rfl⟩,⟨Rm.is rfl rfl,rfl⟩,⟨Rm.is rfl rfl,rfl⟩,⟨Rm.is rfl rfl,rfl⟩,⟨Rm.is rfl rfl,rfl⟩,⟨Rm.is rfl rfl,rfl⟩,⟨Rm.is rfl rfl,rfl⟩,⟨Rm.is rfl rfl,rfl⟩,⟨Rm.is rfl rfl,rfl⟩,⟨Rm.is rfl rfl,rfl⟩,⟨Rm.nil,rfl⟩,trivial⟩) ⟨.ghost rfl rfl rfl,.ghost rfl rfl rfl,.boxL rfl jQ rfl,.obj rfl rfl,trivial⟩)
 ·rw [Az h0] at hA
  rw [if_neg h0] at h ⊢
  rw [lvB,lvC]
  generalize cA (bw (bN c))=rt
  generalize (ax c.tables E).1=e at hA h ⊢
  have h1:(!decide (e=0))=true:=by rw [qC h];rfl
  have h2:decide (e=0)=false:=qC h
  refine jA ?_
  refine AW.condF rfl ?_
  refine jA ?_
  refine jm hA ?_;refine jH ?_
  refine AW.condF (congrArg AV.b h2) ?_
  refine jA ?_
  refine AW.condT (congrArg AV.b h1) ?_
  refine jA ?_
  exact AW.ret (dq af rfl rfl (Rm.aggL rfl ⟨⟨Rm.is rfl rfl,rfl⟩,⟨Rm.is rfl rfl,rfl⟩,⟨Rm.is rfl rfl,rfl⟩,⟨Rm.is rfl rfl,rfl⟩,⟨Rm.is rfl rfl,rfl⟩,⟨Rm.is rfl rfl,rfl⟩,⟨Rm.is rfl rfl,rfl⟩,⟨Rm.is rfl rfl,rfl⟩,⟨Rm.is rfl rfl,rfl⟩,⟨Rm.is rfl rfl,rfl⟩,⟨Rm.nil,rfl⟩,trivial⟩) ⟨.ghost rfl rfl rfl,.ghost rfl rfl rfl,.boxL rfl jQ rfl,.obj rfl rfl,trivial⟩)
theorem z8 (c:Cf) (V:Nat) (k:Kn) (E:List Ed) (hA:ae Tryz.prog 31 [.agg (cCf c),.sl (E.map cEd)] (cO c (ax c.tables E))) (h:eJ c E=0) (c1:Cf) (hc1:c1=c.put (ax c.tables E).2) (hL:c1.Lens) (hV:V<=255) (hk:gS k) (hn:k.next<=100000000) (he:k.es.length<=500)
  (ht:(aU c1 V k).2≠0) (q:Nat->Option (Nat × Nat)) :
  aq Tryz.prog 14 [.own 300 0 0,.sl (E.map cEd)] (gl q [300,301] (lvB c V k)) (.agg (cVd (vdE 4 (aU c1 V k).2))) (gl q [300,301] (lvB c V k)):=by
 refine aq.of_body Tryz.func14 rfl (by kernel_rfl) rfl rfl ?_
 unfold eJ at h
 have h0:(ax c.tables E).1=0:=by
  split at h
  ·assumption
  ·assumption
 rw [if_pos h0,<- hc1] at h
 rw [kA h0,<- hc1] at hA
 have hS:=dD c1
 rw [h] at hS
 have hT:=tO c c1 V k h hL hV hk hn he
 have hT2:∀q,aq Tryz.prog 33 [.own 300 0 0,.agg (cCf c1)] (gl q [300,301] (lvB c V k)) (.tup [.agg [.raw (.map none),.i .i64 0,.raw (.slice none 0 0)],.i .i64 (aU c1 V k).2]) (gl q [300,301] (lvB c V k)):=fun q=>by
  have:=hT q
  rw [knT,knB,qC ht,cond_false,cond_false] at this
  exact this
 clear hT
 unfold lvB lvC at hT2 ⊢
 generalize cA (bw (bN c))=rt at hT2 ⊢
 generalize (aU c1 V k).2=e at hT2 ht ⊢
 have h1:(!decide (e=0))=true:=by rw [qC ht];rfl
 refine jA ?_
 refine AW.condF rfl ?_
 refine jA ?_
 refine jm hA ?_;refine jH ?_
 refine AW.condT rfl ?_
 refine jA ?_
 refine jc hS ?_
 refine jH ?_
 refine AW.condF rfl ?_
 refine jA ?_
 refine RG.ownN [(300,300),(301,301)] [(300,300),(301,301)] hT2 rfl rfl rfl rfl rfl rfl rfl rfl rfl rfl ?_
 refine jH ?_
 refine AW.condT (congrArg AV.b h1) ?_
 refine jA ?_
 exact AW.ret (dq af rfl rfl (Rm.aggL rfl ⟨⟨Rm.is rfl rfl,rfl⟩,⟨Rm.is rfl rfl,rfl⟩,⟨Rm.is rfl rfl,rfl⟩,⟨Rm.is rfl rfl,rfl⟩,⟨Rm.is rfl rfl,rfl⟩,⟨Rm.is rfl rfl,rfl⟩,⟨Rm.is rfl rfl,rfl⟩,⟨Rm.is rfl rfl,rfl⟩,⟨Rm.is rfl rfl,rfl⟩,⟨Rm.is rfl rfl,rfl⟩,⟨Rm.nil,rfl⟩,trivial⟩) ⟨.ghost rfl rfl rfl,.ghost rfl rfl rfl,.boxL rfl jQ rfl,.obj rfl rfl,trivial⟩)
theorem wT (c:Cf) (V:Nat) (k:Kn) (E:List Ed) (hA:ae Tryz.prog 31 [.agg (cCf c),.sl (E.map cEd)] (cO c (ax c.tables E))) (h:eJ c E=0) (c1:Cf) (hc1:c1=c.put (ax c.tables E).2) (hL:c1.Lens) (hV:V<=255) (hk:gS k) (hn:k.next<=100000000) (he:k.es.length<=500)
  (ht:(aU c1 V k).2=0) (hv:(cK c1 (V:Nat) (aU c1 V k).1.ats).kind≠1) (q:Nat->Option (Nat × Nat)) :
  aq Tryz.prog 14 [.own 300 0 0,.sl (E.map cEd)] (gl q [300,301] (lvB c V k)) (.agg (cVd (cK c1 (V:Nat) (aU c1 V k).1.ats))) (gl q [300,301] (lvB c V k)):=by
 refine aq.of_body Tryz.func14 rfl (by kernel_rfl) rfl rfl ?_
 unfold eJ at h
 have h0:(ax c.tables E).1=0:=by
  split at h
  ·assumption
  ·assumption
 rw [if_pos h0,<- hc1] at h
 rw [kA h0,<- hc1] at hA
 have hS:=dD c1
 rw [h] at hS
 have hT:=tO c c1 V k h hL hV hk hn he
 have hT2:∀q,aq Tryz.prog 33 [.own 300 0 0,.agg (cCf c1)] (gl q [300,301] (lvB c V k)) (.tup [knR 302 (aU c1 V k).1,.i .i64 0]) (gl q [300,301] ((302,⟨0,some (cd (aU c1 V k).1.es (aU c1 V k).1.clk)⟩)::lvB c V k)):=fun q=>by
  have:=hT q
  rw [knT,knB,qF ht,cond_true,cond_true] at this
  exact this
 clear hT
 have hO:=t7 c1 (V:Nat) (aU c1 V k).1.ats (fun h=>lc (dA h) hL)
 unfold lvB lvC at hT2 ⊢
 generalize cA (bw (bN c))=rt at hT2 ⊢
 generalize (aU c1 V k).1=k1 at hT2 hO hv ⊢
 generalize cK c1 (V:Nat) k1.ats=v at hO hv ⊢
 have h1:decide (v.kind=1)=false:=qC hv
 refine jA ?_
 refine AW.condF rfl ?_
 refine jA ?_
 refine jm hA ?_;refine jH ?_
 refine AW.condT rfl ?_
 refine jA ?_
 refine jc hS ?_
 refine jH ?_
 refine AW.condF rfl ?_
 refine jA ?_
 refine RG.ownN [(300,300),(301,301)] [(302,302),(300,300),(301,301)] hT2 rfl rfl rfl rfl rfl rfl rfl rfl rfl rfl ?_
 refine jH ?_
 refine AW.condF rfl ?_
 refine jA ?_
 refine jm hO ?_
 refine jH ?_
 refine AW.condF (congrArg AV.b h1) ?_
 refine jA ?_
 exact AW.ret (dq af rfl rfl (Rm.aggL rfl ⟨⟨Rm.is rfl rfl,rfl⟩,⟨Rm.is rfl rfl,rfl⟩,⟨Rm.is rfl rfl,rfl⟩,⟨Rm.is rfl rfl,rfl⟩,⟨Rm.is rfl rfl,rfl⟩,⟨Rm.is rfl rfl,rfl⟩,⟨Rm.is rfl rfl,rfl⟩,⟨Rm.is rfl rfl,rfl⟩,⟨Rm.is rfl rfl,rfl⟩,⟨Rm.is rfl rfl,rfl⟩,⟨Rm.is rfl rfl,rfl⟩,trivial⟩) ⟨.ghost rfl rfl rfl,.ghost rfl rfl rfl,.boxL rfl jQ rfl,.obj rfl rfl,trivial⟩)
theorem sd (c:Cf) (V:Nat) (k:Kn) (E:List Ed) (hA:ae Tryz.prog 31 [.agg (cCf c),.sl (E.map cEd)] (cO c (ax c.tables E))) (h:eJ c E=0) (c1:Cf) (hc1:c1=c.put (ax c.tables E).2) (hL:c1.Lens) (hV:V<=255) (hk:gS k) (hn:k.next<=100000000) (he:k.es.length<=500)
  (ht:(aU c1 V k).2=0) (hv:(cK c1 (V:Nat) (aU c1 V k).1.ats).kind=1) (q:Nat->Option (Nat × Nat)) :
  aq Tryz.prog 14 [.own 300 0 0,.sl (E.map cEd)] (gl q [300] (lvB c V k)) (.agg (cVd (cK c1 (V:Nat) (aU c1 V k).1.ats))) (gl q [300] [(300,⟨0,some (.box 96 (lvC 302 c1 V (aU c1 V k).1))⟩),(302,⟨0,some (cd (aU c1 V k).1.es (aU c1 V k).1.clk)⟩)]):=by
 refine aq.of_body Tryz.func14 rfl (by kernel_rfl) rfl rfl ?_
 unfold eJ at h
 have h0:(ax c.tables E).1=0:=by
  split at h
  ·assumption
  ·assumption
 rw [if_pos h0,<- hc1] at h
 rw [kA h0,<- hc1] at hA
 have hS:=dD c1
 rw [h] at hS
 have hT:=tO c c1 V k h hL hV hk hn he
 have hT2:∀q,aq Tryz.prog 33 [.own 300 0 0,.agg (cCf c1)] (gl q [300,301] (lvB c V k)) (.tup [knR 302 (aU c1 V k).1,.i .i64 0]) (gl q [300,301] ((302,⟨0,some (cd (aU c1 V k).1.es (aU c1 V k).1.clk)⟩)::lvB c V k)):=fun q=>by
  have:=hT q
  rw [knT,knB,qF ht,cond_true,cond_true] at this
  exact this
 clear hT
 have hO:=t7 c1 (V:Nat) (aU c1 V k).1.ats (fun h=>lc (dA h) hL)
 have hI:=sN c1 h hL
 unfold lvB lvC at hT2 ⊢
 generalize cA (bw (bN c))=rt at hT2 ⊢
 generalize cA (bw (bN c1))=rt1 at hI ⊢
 generalize (aU c1 V k).1=k1 at hT2 hO hv ⊢
 generalize cK c1 (V:Nat) k1.ats=v at hO hv ⊢
 have h1:decide (v.kind=1)=true:=qF hv
 refine jA ?_
 refine AW.condF rfl ?_
 refine jA ?_
 refine jm hA ?_;refine jH ?_
 refine AW.condT rfl ?_
 refine jA ?_
 refine jc hS ?_
 refine jH ?_
 refine AW.condF rfl ?_
 refine jA ?_
 refine RG.ownN [(300,300),(301,301)] [(302,302),(300,300),(301,301)] hT2 rfl rfl rfl rfl rfl rfl rfl rfl rfl rfl ?_
 refine jH ?_
 refine AW.condF rfl ?_
 refine jA ?_
 refine jm hO ?_
 refine jH ?_
 refine AW.condT (congrArg AV.b h1) ?_
 refine jA ?_
 refine jm hI ?_
 refine jH ?_
 exact AW.ret (dq af rfl rfl (Rm.aggL rfl ⟨⟨Rm.is rfl rfl,rfl⟩,⟨Rm.is rfl rfl,rfl⟩,⟨Rm.is rfl rfl,rfl⟩,⟨Rm.is rfl rfl,rfl⟩,⟨Rm.is rfl rfl,rfl⟩,⟨Rm.is rfl rfl,rfl⟩,⟨Rm.is rfl rfl,rfl⟩,⟨Rm.is rfl rfl,rfl⟩,⟨Rm.is rfl rfl,rfl⟩,⟨Rm.is rfl rfl,rfl⟩,⟨Rm.is rfl rfl,rfl⟩,trivial⟩) ⟨.ghost rfl rfl rfl,.boxL rfl jQ rfl,.obj rfl rfl,trivial⟩)
theorem Ap:ae Tryz.prog 28 [] (.agg (cCf bn)):=by
 refine jb Tryz.func28 ?_
 refine jB ?_
 refine wF ?_;refine wH rfl ?_;refine jB ?_
 refine wF ?_;refine wH rfl ?_;refine jB ?_
 refine wF ?_;refine wH rfl ?_;refine jB ?_
 refine wF ?_;refine wH rfl ?_;refine jB ?_
 refine wF ?_;refine wH rfl ?_;refine jB ?_
 refine AW.text ?_
 refine RG.runG af 0 5 rfl ?_
 refine RG.opS rfl (fu (id:=301) rfl (tk rfl) rfl (tk rfl) rfl (by decide) rfl rfl rfl rfl rfl) rfl ?_
 refine RG.runG af 0 5 rfl ?_
 refine RG.opS rfl (fu (id:=302) rfl (tk rfl) rfl (tk rfl) rfl (by decide) rfl rfl rfl rfl rfl) rfl ?_
 refine RG.opS rfl (fu (id:=300) rfl (tk rfl) rfl (tk rfl) rfl (by decide) rfl rfl rfl rfl rfl) rfl ?_
 refine zH ?_
 rfl
def zg:List Ed:=[⟨0,0,1,true,Rl.zero⟩]
def AR:List Ed:=[⟨0,0,0,true,Rl.zero⟩]
def n7:Cf:=⟨⟨pG⟩,⟨1,[],[]⟩,[[rF.take 1],[E8]]⟩
def i6:Cf:=⟨⟨pG⟩,⟨1,[],[]⟩,[[rF.drop 1],[E8]]⟩
theorem Gz:ax bn.tables zg=(0,n7.tables):=by kernel_rfl
theorem F9:ax bn.tables AR=(0,i6.tables):=by kernel_rfl
theorem F5:cr bn (0:Nat)=vdE 1 0:=by kernel_rfl
theorem GN:(aU n7 0 (aJ (bp bn 0)).1).2=0:=by kernel_rfl
theorem GR:(aU i6 0 (aJ (bp bn 0)).1).2=0:=by kernel_rfl
theorem FY:(cK n7 (0:Nat) (aU n7 0 (aJ (bp bn 0)).1).1.ats).kind=2:=by kernel_rfl
theorem GP:(cK n7 (0:Nat) (aU n7 0 (aJ (bp bn 0)).1).1.ats).why=1:=by kernel_rfl
theorem FS:(cK i6 (0:Nat) (aU i6 0 (aJ (bp bn 0)).1).1.ats).kind=1:=by kernel_rfl
theorem GQ:eJ bn zg=0:=by kernel_rfl
theorem GE:eJ bn AR=0:=by kernel_rfl
theorem GH:Nat.ble (bp bn 0).length 500=true:=by kernel_rfl
def Bx (x:Cb) (l:List (Nat × Cb)):List Int:=(l.filter fun e=>x.sound && e.2.meets x).map fun e=>((e.1:Nat):Int)
theorem C6 (l:List Rl):(bw l).Pairwise fun a b=>a.1<b.1:=by
 unfold bw
 rw [List.pairwise_map]
 refine List.pairwise_iff_getElem.2 fun i j hi hj hij=>?_
 simp only [List.getElem_zipIdx]
 omega
theorem EO (x:Cb) (l:List Rl) (hx:x.sound=true) (hs:∀r∈l,r.mat.sound=true):ovL x (bw l)=Bx x (bw l):=by
 unfold ovL Bx
 have hf:((bw l).filter fun e=>x.sound && e.2.meets x)=(bw l).filter fun e=>gx x 128 e.2:=by
  refine List.filter_congr fun e he=>?_
  have hm:e.2.sound=true:=by
   unfold bw at he
   obtain ⟨y,hy,rfl⟩:=vH.1 he
   have:=List.mem_zipIdx hy
   simp only
   rw [this.2.2]
   exact hs _ (vS _)
  rw [tP x e.2 hx hm,hx]
  rfl
 rw [hf]
 have hp:=(List.mergeSort_perm ((dP x (fW (bw l)) 128).map fun n=>((n:Nat):Int)) fun a b=>decide (a<=b)).trans ((qv x (bw l)).map fun n=>((n:Nat):Int))
 rw [List.map_map] at hp
 have h1:=List.pairwise_mergeSort (le:=fun (a b:Int)=>decide (a<=b)) (fun a b c h1 h2=>by simp only [vM] at *;omega) (fun a b=>by simp only [Bool.or_eq_true,vM];omega) ((dP x (fW (bw l)) 128).map fun n=>((n:Nat):Int))
 have h2:(((bw l).filter fun e=>gx x 128 e.2).map ((fun n=>((n:Nat):Int)) ∘ fun e=>e.1)).Pairwise fun a b=>decide (a<=b)=true:=by
  rw [List.pairwise_map]
  refine ((C6 l).filter _).imp fun {a b} h=>?_
  simp only [Function.comp,vM]
  omega
 refine hp.eq_of_pairwise (le:=fun a b=>decide (a<=b)=true) (fun a b _ _ g1 g2=>by simp only [vM] at *;omega) h1 h2
theorem yI (x:Cb) (l:List Rl) (hs:∀r∈l,r.mat.sound=true):lX x (bw l)=Bx x (bw l):=by
 unfold lX
 cases hx:x.sound
 ·unfold Bx
  simp [hx]
 ·exact EO x l hx hs
theorem FU:i6.sound=0:=by kernel_rfl
theorem GG:(lX Cb.zero (bw (bN i6))).length=3:=by
 rw [yI _ _ (o8 FU)]
 kernel_rfl
inductive tY (l:List Nat) (σ σ':Sto):aD->aD->Prop where
 | rn {b b':aD} (h:RnB σ σ' b b'):tY l σ σ' b b'
 | box {t:TypeId} {cs cs':List AV} (hl:cs'.length=cs.length) (h1:∀(j:Nat) (x:AV),cs'[j]?=some x->x.one=true) (h:∀(j:Nat) (x x':AV),cs[j]?=some x->cs'[j]?=some x'->RnF l σ σ' x x'):tY l σ σ' (.box t cs) (.box t cs')
 | nest {t:TypeId} {cs cs':List AV} (hl:cs'.length=cs.length) (h1:∀(j:Nat) (x:AV),cs'[j]?=some x->x.one=true) (h:∀(j:Nat) (x x':AV),cs[j]?=some x->cs'[j]?=some x'->RnF l σ σ' x x'):tY l σ σ' (.nest t cs) (.nest t cs')
theorem tY.rel {W:World} {F:Nat->Prop} {μ:Mu} {l:List Nat} {σ σ':Sto} (hi:Inv W F μ σ) {bd bd':aD} (hR:tY l σ σ' bd bd') {p:Option (Nat × Nat)} (hB:aM W F μ σ p bd):aM W (fun b=>F b\/Beh μ σ l b) μ σ' p bd':=by
 have up:∀{σ:Sto} {bd:aD},aM W F μ σ p bd->aM W (fun b=>F b\/Beh μ σ' l b\/Beh μ σ l b) μ σ p bd->True:=fun _ _=>trivial
 cases hR with
 | rn hR =>
  have h:=hR.rel hB
  cases bd' with
  | box t cs =>
   obtain ⟨b,c,vs,h1,h2,h3,h4⟩:=h
   exact ⟨b,c,vs,h1,h2,h3,fun j x v hj hv=>⟨(h4 j x v hj hv).1,(h4 j x v hj hv).2.toF fun b hb=>.inl hb⟩⟩
  | row t m els =>
   rcases h with h | ⟨b,cap,cur,h1,h2,h3,h4,h5,h6,h7⟩
   ·exact .inl h
   ·exact .inr ⟨b,cap,cur,h1,h2,h3,h4,h5,h6,fun k cs j x hk hj=>by obtain ⟨q1,v,q2,q3⟩:=h7 k cs j x hk hj;exact ⟨q1,v,q2,q3.to fun b hb=>.inl hb⟩⟩
  | ghost id ep q=>exact h
  | obj o=>exact h
  | nest t els =>
   rcases h with h | ⟨b,cap,cur,h1,h2,h3,h4,h5,h6⟩
   ·exact .inl h
   ·exact .inr ⟨b,cap,cur,h1,h2,h3,h4,h5,fun k x hk=>by obtain ⟨q1,v,q2,q3⟩:=h6 k x hk;exact ⟨q1,v,q2,q3.toF fun b hb=>.inl hb⟩⟩
 | @box t cs cs' hl h1 hrn =>
  obtain ⟨b,c,vs,hm,hw,hlv,hv⟩:=hB
  refine ⟨b,c,vs,hm,hw,by rw [hlv,hl],fun j x' v hj hvj=>⟨h1 j x' hj,?_⟩⟩
  obtain ⟨x,hxj⟩:∃x,cs[j]?=some x:=⟨_,qA (by rw [<- hl];exact (qD.1 hj).1)⟩
  exact (hrn j x x' hxj hj).rel hi (hv j x v hxj hvj).2
 | @nest t els els' hl h1 hrn =>
  rcases hB with ⟨hn,rfl⟩ | ⟨b,cap,cur,hp,hh,q1,q2,q3,q4⟩
  ·exact .inl ⟨hn,uD.1 hl⟩
  ·refine .inr ⟨b,cap,cur,hp,hh,by omega,q2,q3,fun k x' hk=>⟨h1 k x' hk,?_⟩⟩
   obtain ⟨x,hx⟩:∃x,els[k]?=some x:=⟨_,qA (by rw [<- hl];exact (qD.1 hk).1)⟩
   obtain ⟨_,v,hv,hr'⟩:=q4 k x hx
   exact ⟨v,hv,(hrn k x x' hx hk).rel hi hr'⟩
theorem s9 {W : World} {F : Nat -> Prop} {μ : Mu} {σ σ' : Sto} (hi : Inv W F μ σ) {l : List Nat} (hB : ∀ id bd', (σ' id).body = some bd' -> ∃ bd, (σ id).body = some bd /\ tY l σ σ' bd bd') (hd : ∀ i ∈ l, (σ' i).body = none) :
  Inv W (fun b=>F b\/Beh μ σ l b) μ σ'/\Stq W F μ σ W (fun b=>F b\/Beh μ σ l b) μ σ':=by
 have own:∀x,Own μ σ' x->Own μ σ x/\¬Beh μ σ l x:=fun x ⟨id,ep,bd,c,h1,h2⟩=>by
  obtain ⟨bd0,h3,_⟩:=hB id bd (by rw [h1])
  refine ⟨⟨id,(σ id).ep,bd0,c,by rw [<- h3],h2⟩,fun ⟨id',g1,ep',bd',c',g2,g3⟩=>?_⟩
  have:=hi.inj id id' x c c' (by rw [h3];rfl) (by rw [g2];rfl) h2 g3
  subst this
  have:=hd _ g1
  rw [h1] at this
  cases this
 refine ⟨⟨fun id ep bd hb=>?_,fun x hx=>⟨(hi.apart x (own x hx).1).1,fun hF=>hF.elim (hi.apart x (own x hx).1).2 (own x hx).2⟩,fun id id' x c c' h1 h2=>?_,fun x hx=>hx.elim (hi.old x) fun ⟨id,_,ep,bd,c,h1,h2⟩=>(hi.apart x ⟨id,ep,bd,c,h1,h2⟩).1,hi.lay.go (fun _ h=>.inl h) fun _ _=>rfl⟩,
  Kp.refl _ _,fun _ h=>.inl h,fun x hx=>hx.imp (fun h=>h) fun ⟨id,_,ep,bd,c,h1,h2⟩=>.inl ⟨id,ep,bd,c,h1,h2⟩,fun x hx=>.inl (own x hx).1⟩
 ·obtain ⟨bd0,h3,hR⟩:=hB id bd (by rw [hb])
  exact hR.rel hi (hi.body id (σ id).ep bd0 (by rw [<- h3]))
 ·have g : ∀ id, (σ' id).body.isSome = true -> (σ id).body.isSome = true := fun id hb => by
   obtain ⟨bd',e⟩:=vX.1 hb
   obtain ⟨bd,e',_⟩:=hB id bd' e
   rw [e'];rfl
  exact hi.inj id id' x c c' (g id h1) (g id' h2)
theorem FzL.mk {σ:Sto} {ys:List AV}:∀{xs:List AV},ys.length=xs.length->(∀(j:Nat) (x y:AV),xs[j]?=some x->ys[j]?=some y->∃l,Fz σ x y l/\∀i∈l,1000<=i)->∃l,FzL σ xs ys l/\∀i∈l,1000<=i:=by
 induction ys with
 | nil =>
  intro xs hl _
  obtain rfl:xs=[]:=uD.1 hl.symm
  exact ⟨[],.nil,fun i h=>by cases h⟩
 | cons y ys ih =>
  intro xs hl h
  cases xs with
  | nil=>cases hl
  | cons x xs =>
   obtain ⟨l1,g1,g2⟩:=h 0 x y rfl rfl
   obtain ⟨l2,g3,g4⟩:=ih (xs:=xs) (by simpa using hl) fun j a b ha hb=>h (j+1) a b (by simpa using ha) (by simpa using hb)
   refine ⟨l1++l2,.cons g1 g3,fun i hi=>?_⟩
   rcases vB.1 hi with h | h
   ·exact g2 i h
   ·exact g4 i h
theorem mW {c:Cf} (h:(c.tables.all fun t=>t.all fun l=>Nat.ble l.length 10)=true):c.Lens:=by
 intro t ht l hl
 have:=qU (qW.1 (qW.1 h t ht) l hl)
 rw [bK]
 omega
theorem pw {c:Cf} (h1:Nat.ble c.topo.ports.length 10=true) (h2:(c.topo.ports.all fun r=>Nat.ble r.length 10)=true) (h3:Nat.ble c.pol.peers.length 10=true) (h4:Nat.ble c.pol.ways.length 10=true) (h5:Nat.ble c.tables.length 10=true) (h6:(c.tables.all fun t=>Nat.ble t.length 10 && t.all fun l=>Nat.ble l.length 10)=true):c.Fit:=by
 have a1:=qU h1
 have a3:=qU h3
 have a4:=qU h4
 have a5:=qU h5
 have hb:=bK
 refine ⟨by omega,fun r hr=>?_,by omega,by omega,by omega,fun t ht=>?_,fun t ht l hl=>?_⟩
 ·have:=qU (qW.1 h2 r hr);omega
 ·have:=qW.1 h6 t ht
  rw [qQ] at this
  have:=qU this.1;omega
 ·have:=qW.1 h6 t ht
  rw [qQ] at this
  have:=qU (qW.1 this.2 l hl);omega
theorem Av:bn.Fit:=pw rfl rfl rfl rfl rfl rfl
theorem GB:n7.Fit:=pw rfl rfl rfl rfl rfl rfl
theorem Ee:i6.Fit:=pw rfl rfl rfl rfl rfl rfl
theorem aq.frz {P : Program} {f : FuncId} {args args' : List AV} {b0 b0' b1 : List (Nat × SB)} {r : AV} (l : List Nat) (h : aq P f args' b0' r b1) (hl : args'.length = args.length) (ha : ∀ (j : Nat) (x x' : AV), args[j]? = some x -> args'[j]? = some x' -> RnF l (lkB b0) (lkB b0') x x')
  (hB:WkB ⟨fun _=>.any,lkB b0⟩ (lkB b0') b0') (hd:(l.all fun i=>(lkB b0' i).body.isNone)=true):aq P f args b0 r b1:=by
 refine ⟨h.fn,fun W F μ vs hv hr hi=>?_⟩
 have hb:∀id bd',(lkB b0' id).body=some bd'->∃bd,(lkB b0 id).body=some bd/\tY l (lkB b0) (lkB b0') bd bd':=fun id bd' e=>by
  obtain ⟨bd,h1,h2⟩:=fN hB id bd' e
  exact ⟨bd,h1,.rn h2⟩
 obtain ⟨hi',hs⟩:=s9 hi hb fun i hi2=>by simpa using qW.1 hd i hi2
 refine (h.calls W _ μ vs (hv.trans hl.symm) (fun j x' v hx' hvj=>?_) hi').mono ?_
 ·obtain ⟨x,hx⟩:∃x,args[j]?=some x:=⟨_,qA (by rw [<- hl];exact (qD.1 hx').1)⟩
  exact (ha j x x' hx hx').rel hi (hr j x v hx hvj)
 ·rintro e W' ⟨v,F',μ',e1,e2,e3,e4⟩
  exact ⟨v,F',μ',e1,e2,hs.trans e3,e4⟩
def edB (E:List Ed):List (Nat × SB):=[(200,⟨0,some (.row 63 16 (E.map cEd))⟩)]
theorem ka {c:Cf} {V:Nat} {k:Kn} {x:Ed} {q:Nat->Option (Nat × Nat)} {r:AV} {b1:List (Nat × SB)} (h:aq Tryz.prog 14 [.own 300 0 0,.sl ([x].map cEd)] (gl q [300,301] (lvB c V k)) r b1) :
  aq Tryz.prog 14 [.own 300 0 0,.row 200 0 0 1] (gl q [300,301] (lvB c V k++edB [x])) r b1:=by
 unfold lvB lvC at h ⊢
 generalize cA (bw (bN c))=rt at h ⊢
 refine aq.frz [200] h rfl (fun j y y' hy hy'=>?_) ⟨.ghost rfl rfl rfl,.ghost rfl rfl rfl,.boxL rfl jQ rfl,.obj rfl rfl,trivial⟩ rfl
 match j,hy,hy' with
 | 0,hy,hy' =>
  obtain rfl:=qB hy
  obtain rfl:=qB hy'
  exact .rn (Rn.ownIs rfl rfl rfl)
 | 1,hy,hy' =>
  obtain rfl:=qB hy
  obtain rfl:=qB hy'
  exact .fzA rfl rfl rfl
theorem iY {c:Cf} {V:Nat} {k:Kn} {x:Ed} {q:Nat->Option (Nat × Nat)} {r:AV} {b1:List (Nat × SB)} (h:aq Tryz.prog 14 [.own 300 0 0,.sl ([x].map cEd)] (gl q [300] (lvB c V k)) r b1) :
  aq Tryz.prog 14 [.own 300 0 0,.row 200 0 0 1] (gl q [300] (lvB c V k++edB [x])) r b1:=by
 unfold lvB lvC at h ⊢
 generalize cA (bw (bN c))=rt at h ⊢
 refine aq.frz [200] h rfl (fun j y y' hy hy'=>?_) ⟨.ghost rfl rfl rfl,.boxL rfl jQ rfl,.obj rfl rfl,trivial⟩ rfl
 match j,hy,hy' with
 | 0,hy,hy' =>
  obtain rfl:=qB hy
  obtain rfl:=qB hy'
  exact .rn (Rn.ownIs rfl rfl rfl)
 | 1,hy,hy' =>
  obtain rfl:=qB hy
  obtain rfl:=qB hy'
  exact .fzA rfl rfl rfl
theorem DD:gS (aJ (bp bn 0)).1/\(aJ (bp bn 0)).1.next<=100000000/\(aJ (bp bn 0)).1.es.length<=500:=by
 have hl:(bp bn 0).length<=500:=qU GH
 have h:=(li (gC tA 0) (fh bn 0) hl).2 (by kernel_rfl)
 exact ⟨h.ok,by show (bp bn 0).length<=_;omega,by have:=h.len;omega⟩
theorem uy (sw tab at_:Int) (t:bW) (l:List Rl) (h:fq t ⟨sw,tab,at_,true,Rl.zero⟩=some l) (h0:0<=at_) (h1:at_<l.length):pM ⟨sw,tab,at_,true,Rl.zero⟩ t:=Ba _ _ _ h h0 h1 rfl rfl
theorem yX {c:Cf} {x:Ed} {t:bW} (hf:c.Fit) (hx:pM x c.tables) (ha:ax c.tables [x]=(0,t)) (ht:Cf.Fit { c with tables:=t }):ae Tryz.prog 31 [.agg (cCf c),.sl ([x].map cEd)] (cO c (ax c.tables [x])) :=
 vi c [x] hf (fun k y u hy hu=>by
  match k,hy with
  | 0,hy =>
   obtain rfl:=qB hy
   obtain rfl:c.tables=u:=congrArg Prod.snd hu
   exact hx) fun k u hk hu=>by
  match k,hk with
  | 0,_ =>
   obtain rfl:c.tables=u:=congrArg Prod.snd hu
   exact hf
  | 1,_ =>
   obtain rfl:t=u:=congrArg Prod.snd (ha.symm.trans hu)
   exact ht
theorem apA:ae Tryz.prog 31 [.agg (cCf bn),.sl (zg.map cEd)] (cO bn (ax bn.tables zg)) :=
 yX Av (uy 0 0 1 bn.tables rF rfl (by decide) (by decide)) Gz GB
theorem apB:ae Tryz.prog 31 [.agg (cCf bn),.sl (AR.map cEd)] (cO bn (ax bn.tables AR)) :=
 yX Av (uy 0 0 0 bn.tables rF rfl (by decide) (by decide)) F9 Ee
theorem i4:ae Tryz.prog 9 [] (.b true):=by
 refine jb Tryz.func9 ?_
 obtain ⟨hk1,hk2,hk3⟩:=DD
 have hN:=D7 bn 0 (mW rfl) Av (by rw [F5];rfl)
 rw [F5] at hN
 have hT1:=wT bn 0 (aJ (bp bn 0)).1 zg apA GQ n7 (by rw [Gz];rfl) (mW rfl) (by decide) hk1 hk2 hk3 GN (by rw [FY];decide)
 have hT2:=sd bn 0 (aJ (bp bn 0)).1 AR apB GE i6 (by rw [F9];rfl) (mW rfl) (by decide) hk1 hk2 hk3 GR FS
 have o1:=FY
 have o2:=GP
 have o3:=FS
 have hn:=GG
 unfold Db at hN
 generalize cK n7 (0:Nat) (aU n7 0 (aJ (bp bn 0)).1).1.ats=v1 at hT1 o1 o2
 generalize cK i6 (0:Nat) (aU i6 0 (aJ (bp bn 0)).1).1.ats=v2 at hT2 o3
 generalize (aU i6 0 (aJ (bp bn 0)).1).1=k2 at hT2
 generalize (aJ (bp bn 0)).1=k1 at hN hT1 hT2
 have hC:=km i6 0 k2 Ee
 have hR:=EN i6 0 k2 Cb.zero (by rw [sK];exact qU (by kernel_rfl))
 generalize lX Cb.zero (bw (bN i6))=ns at hR hn
 obtain ⟨n1,n2,n3,rfl⟩:∃a b d,ns=[a,b,d]:=by
  match ns,hn with
  | [a,b,d],_=>exact ⟨a,b,d,rfl⟩
 have hT1:=fun q=>ka (hT1 q)
 have hT2:=fun q=>iY (hT2 q)
 unfold edB at hT1 hT2
 unfold lvB lvC at hT1 hC hR
 unfold lvB lvC at hT2
 unfold lvC at hN
 generalize cA (bw (bN bn))=r0 at hN hT1 hT2
 generalize cA (bw (bN i6))=r2 at hT2 hC hR
 obtain ⟨vk1,ve1,vw1,vf1,vh1,vr1⟩:=v1
 obtain ⟨vk2,ve2,vw2,vf2,vh2,vr2⟩:=v2
 obtain rfl:vk1=2:=o1
 obtain rfl:vw1=1:=o2
 obtain rfl:vk2=1:=o3
 refine jA ?_
 refine jm Ap ?_
 refine RG.ownN [] [(30,500),(31,501)] hN rfl rfl rfl rfl rfl rfl rfl rfl rfl rfl ?_
 refine jH ?_
 refine AW.condF rfl ?_
 refine jA ?_
 refine RG.ownN [(500,300),(501,301),(19,200)] [(300,500),(301,501)] hT1 rfl rfl rfl rfl rfl rfl rfl rfl rfl rfl ?_
 refine jH ?_
 refine RG.ownN [(500,300),(501,301),(23,200)] [(300,500),(302,502)] hT2 rfl rfl rfl rfl rfl rfl rfl rfl rfl rfl ?_
 refine jH ?_
 refine RG.ownN [(500,300),(502,301)] [(300,500),(301,502)] hC rfl rfl rfl rfl rfl rfl rfl rfl rfl rfl ?_
 refine jH ?_
 have hg0:(i6.tables.map bE)[0]?=some (bE [rF.drop 1]):=rfl
 have hg1:([rF.drop 1].map aP)[0]?=some (aP (rF.drop 1)):=rfl
 refine jx hg0 ?_
 refine wH rfl ?_
 refine jx hg1 ?_
 refine wH rfl ?_
 refine RG.ownN [(500,300),(502,301)] [(300,500),(301,502)] hR rfl rfl rfl rfl rfl rfl rfl rfl rfl rfl ?_
 refine zH ?_
 rfl
theorem rZ (a b:List (List Rl)) (q:Bool) (hq:decide (a=b)=q):ae Tryz.prog 36 [.sl (a.map aP),.sl (b.map aP)] (.b q):=by
 refine jb Tryz.func36 ?_
 have hlen:((a.map aP).length:Int)=a.length/\((b.map aP).length:Int)=b.length:=by simp
 refine jA ?_
 refine AW.lens 7 rfl fun hm=>?_
 have hm:a.length<=9223372036854775807:=by rw [qH] at hm;omega
 refine AW.cond rfl (fun h0=>?_) (fun h0=>?_)
 ·have hne : a.length ≠ b.length := fun e => by
   have:¬((a.map aP).length:Int)=((b.map aP).length:Int):=by simpa using h0
   exact this (by rw [hlen.1,hlen.2,e])
  refine zR ?_
  exact congrArg AV.b ((qC fun e:a=b=>hne (congrArg List.length e)).symm.trans hq)
 ·have heq : a.length = b.length := by
   have:((a.map aP).length:Int)=((b.map aP).length:Int):=by simpa using h0
   rw [hlen.1,hlen.2] at this
   omega
  refine jA ?_
  refine AW.loopL (ι:=Nat) (fun k=>[(0,.sl (a.map aP)),(1,.sl (b.map aP)),(5,.i .i64 (k:Nat))]) (fun _=>[]) (fun k=>k<=a.length/\a.take k=b.take k) (fun k=>a.length - k) 0 ⟨qR _,rfl⟩ jW trivial fun k hk=>?_
  obtain ⟨hk,hf⟩:=hk
  refine jA ?_
  refine AW.cond rfl (fun h1=>?_) (fun h1=>?_)
  ·have h:k<a.length:=by simpa using h1
   have h':k<b.length:=by omega
   refine zD ?_
   refine wH rfl ?_
   refine RG.opS rfl (ai rfl (tk rfl) rfl (tk rfl) rfl rfl (show (a.map aP)[k]?=some (aP a[k]) by rw [qE,qA (by assumption)];rfl) rfl) rfl ?_
   refine wH rfl ?_
   refine RG.opS rfl (ai rfl (tk rfl) rfl (tk rfl) rfl rfl (show (b.map aP)[k]?=some (aP b[k]) by rw [qE,qA (by assumption)];rfl) rfl) rfl ?_
   refine jH ?_
   refine AW.lens 21 rfl fun hm2=>?_
   have hm2:a[k].length<=9223372036854775807:=by rw [qH] at hm2;omega
   have hlk:((a[k].map cRl).length:Int)=a[k].length/\((b[k].map cRl).length:Int)=b[k].length:=by simp
   refine AW.cond rfl (fun h2=>?_) (fun h2=>?_)
   ·have hne : a[k].length ≠ b[k].length := fun e => by
     have:¬((a[k].map cRl).length:Int)=((b[k].map cRl).length:Int):=by simpa using h2
     exact this (by rw [hlk.1,hlk.2,e])
    refine zR ?_
    exact congrArg AV.b ((qC fun e:a=b=>hne (by subst e;rfl)).symm.trans hq)
   ·have hek : a[k].length = b[k].length := by
     have:((a[k].map cRl).length:Int)=((b[k].map cRl).length:Int):=by simpa using h2
     rw [hlk.1,hlk.2] at this
     omega
    refine jA ?_
    refine AW.loopL (ι:=Nat) (fun j=>[(0,.sl (a.map aP)),(1,.sl (b.map aP)),(5,.i .i64 (k:Nat)),(6,.i .i64 (j:Nat))]) (fun _=>[]) (fun j=>j<=a[k].length/\a[k].take j=b[k].take j) (fun j=>a[k].length - j) 0 ⟨qR _,rfl⟩ jW trivial fun j hj=>?_
    obtain ⟨hj,hg⟩:=hj
    refine zB ?_
    refine wH rfl ?_
    refine RG.opS rfl (ai rfl (tk rfl) rfl (tk rfl) rfl rfl (show (a.map aP)[k]?=some (aP a[k]) by rw [qE,qA (by assumption)];rfl) rfl) rfl ?_
    refine jH ?_
    refine AW.cond rfl (fun h3=>?_) (fun h3=>?_)
    ·have hjl:j<a[k].length:=by simpa using h3
     have hjl':j<b[k].length:=by omega
     refine zD ?_
     refine wH rfl ?_
     refine RG.opS rfl (ai rfl (tk rfl) rfl (tk rfl) rfl rfl (show (a.map aP)[k]?=some (aP a[k]) by rw [qE,qA (by assumption)];rfl) rfl) rfl ?_
     refine wH rfl ?_
     refine RG.opS rfl (ai rfl (tk rfl) rfl (tk rfl) rfl rfl (show (a[k].map cRl)[j]?=some (cRl (a[k][j])) by rw [qE,qA hjl];rfl) rfl) rfl ?_
     refine wH rfl ?_
     refine RG.opS rfl (ai rfl (tk rfl) rfl (tk rfl) rfl rfl (show (b.map aP)[k]?=some (aP b[k]) by rw [qE,qA (by assumption)];rfl) rfl) rfl ?_
     refine wH rfl ?_
     refine RG.opS rfl (ai rfl (tk rfl) rfl (tk rfl) rfl rfl (show (b[k].map cRl)[j]?=some (cRl (b[k][j])) by rw [qE,qA hjl'];rfl) rfl) rfl ?_
     refine wH rfl ?_
     by_cases he:a[k][j]=b[k][j]
     ·refine RG.opS rfl (eG rfl af (by kernel_rfl) (by kernel_rfl) rfl rfl (D6 a[k][j] b[k][j]) rfl) rfl ?_
      refine jH ?_
      refine AW.condF (congrArg AV.b (by rw [qF he];rfl)) ?_
      refine jA ?_
      exact ⟨j+1,⟨⟨hjl,by rw [bi (qA hjl),bi (qA hjl'),hg,he]⟩,by omega⟩,⟨rI rfl rfl,rI rfl rfl,rI rfl rfl,rI (au hjl hm2) rfl,trivial⟩,trivial⟩
     ·refine RG.opS rfl (eG rfl af (by kernel_rfl) (by kernel_rfl) rfl rfl (D6 a[k][j] b[k][j]) rfl) rfl ?_
      refine jH ?_
      refine AW.condT (congrArg AV.b (by rw [qC he];rfl)) ?_
      refine zR ?_
      exact congrArg AV.b ((qC fun e:a=b=>he (by subst e;rfl)).symm.trans hq)
    ·have hjl:¬j<a[k].length:=by simpa using h3
     obtain rfl:j=a[k].length:=by omega
     have he:a[k]=b[k]:=by rw [vW,hek,vW] at hg;exact hg
     refine zE ?_
     refine jA ?_
     exact ⟨k+1,⟨⟨h,by rw [bi (qA h),bi (qA h'),hf,he]⟩,by omega⟩,⟨rI rfl rfl,rI rfl rfl,rI (au h hm) rfl,trivial⟩,trivial⟩
  ·have h:¬k<a.length:=by simpa using h1
   obtain rfl:k=a.length:=by omega
   refine zE ?_
   refine zR ?_
   rw [vW,heq,vW] at hf
   exact congrArg AV.b ((qF hf).symm.trans hq)
theorem rT (a b:List (List Pt)) (q:Bool) (hq:decide (a=b)=q):ae Tryz.prog 35 [.agg (gL ⟨a⟩),.agg (gL ⟨b⟩)] (.b q):=by
 refine jb Tryz.func35 ?_
 have hlen:((a.map aL).length:Int)=a.length/\((b.map aL).length:Int)=b.length:=by simp
 refine jA ?_
 refine AW.lens 8 rfl fun hm=>?_
 have hm:a.length<=9223372036854775807:=by rw [qH] at hm;omega
 refine AW.cond rfl (fun h0=>?_) (fun h0=>?_)
 ·have hne : a.length ≠ b.length := fun e => by
   have:¬((a.map aL).length:Int)=((b.map aL).length:Int):=by simpa using h0
   exact this (by rw [hlen.1,hlen.2,e])
  refine zR ?_
  exact congrArg AV.b ((qC fun e:a=b=>hne (congrArg List.length e)).symm.trans hq)
 ·have heq : a.length = b.length := by
   have:((a.map aL).length:Int)=((b.map aL).length:Int):=by simpa using h0
   rw [hlen.1,hlen.2] at this
   omega
  refine jA ?_
  refine AW.loopL (ι:=Nat) (fun k=>[(2,.own 2 0 0),(3,.own 3 0 0),(5,.i .i64 (k:Nat))]) (fun _=>[(2,⟨0,some (.box 24 [.sl (a.map aL)])⟩),(3,⟨0,some (.box 24 [.sl (b.map aL)])⟩)]) (fun k=>k<=a.length/\a.take k=b.take k) (fun k=>a.length - k) 0 ⟨qR _,rfl⟩ jW ⟨bS rfl rfl rfl,bS rfl rfl rfl,trivial⟩ fun k hk=>?_
  obtain ⟨hk,hf⟩:=hk
  refine jA ?_
  refine AW.cond rfl (fun h1=>?_) (fun h1=>?_)
  ·have h:k<a.length:=by simpa using h1
   have h':k<b.length:=by omega
   refine zD ?_
   refine wH rfl ?_
   refine RG.opS rfl (ai rfl (tk rfl) rfl (tk rfl) rfl rfl (show (a.map aL)[k]?=some (aL a[k]) by rw [qE,qA (by assumption)];rfl) rfl) rfl ?_
   refine wH rfl ?_
   refine RG.opS rfl (ai rfl (tk rfl) rfl (tk rfl) rfl rfl (show (b.map aL)[k]?=some (aL b[k]) by rw [qE,qA (by assumption)];rfl) rfl) rfl ?_
   refine jH ?_
   refine AW.lens 25 rfl fun hm2=>?_
   have hm2:a[k].length<=9223372036854775807:=by rw [qH] at hm2;omega
   have hlk:((a[k].map cPt).length:Int)=a[k].length/\((b[k].map cPt).length:Int)=b[k].length:=by simp
   refine AW.cond rfl (fun h2=>?_) (fun h2=>?_)
   ·have hne : a[k].length ≠ b[k].length := fun e => by
     have:¬((a[k].map cPt).length:Int)=((b[k].map cPt).length:Int):=by simpa using h2
     exact this (by rw [hlk.1,hlk.2,e])
    refine zR ?_
    exact congrArg AV.b ((qC fun e:a=b=>hne (by subst e;rfl)).symm.trans hq)
   ·have hek : a[k].length = b[k].length := by
     have:((a[k].map cPt).length:Int)=((b[k].map cPt).length:Int):=by simpa using h2
     rw [hlk.1,hlk.2] at this
     omega
    refine jA ?_
    refine AW.loopL (ι:=Nat) (fun j=>[(2,.own 2 0 0),(3,.own 3 0 0),(5,.i .i64 (k:Nat)),(6,.i .i64 (j:Nat))]) (fun _=>[(2,⟨0,some (.box 24 [.sl (a.map aL)])⟩),(3,⟨0,some (.box 24 [.sl (b.map aL)])⟩)]) (fun j=>j<=a[k].length/\a[k].take j=b[k].take j) (fun j=>a[k].length - j) 0 ⟨qR _,rfl⟩ jW ⟨bS rfl rfl rfl,bS rfl rfl rfl,trivial⟩ fun j hj=>?_
    obtain ⟨hj,hg⟩:=hj
    refine zB ?_
    refine wH rfl ?_
    refine RG.opS rfl (ai rfl (tk rfl) rfl (tk rfl) rfl rfl (show (a.map aL)[k]?=some (aL a[k]) by rw [qE,qA (by assumption)];rfl) rfl) rfl ?_
    refine jH ?_
    refine AW.cond rfl (fun h3=>?_) (fun h3=>?_)
    ·have hjl:j<a[k].length:=by simpa using h3
     have hjl':j<b[k].length:=by omega
     refine zD ?_
     refine wH rfl ?_
     refine RG.opS rfl (ai rfl (tk rfl) rfl (tk rfl) rfl rfl (show (a.map aL)[k]?=some (aL a[k]) by rw [qE,qA (by assumption)];rfl) rfl) rfl ?_
     refine wH rfl ?_
     refine RG.opS rfl (ai rfl (tk rfl) rfl (tk rfl) rfl rfl (show (a[k].map cPt)[j]?=some (cPt (a[k][j])) by rw [qE,qA hjl];rfl) rfl) rfl ?_
     refine wH rfl ?_
     refine RG.opS rfl (ai rfl (tk rfl) rfl (tk rfl) rfl rfl (show (b.map aL)[k]?=some (aL b[k]) by rw [qE,qA (by assumption)];rfl) rfl) rfl ?_
     refine wH rfl ?_
     refine RG.opS rfl (ai rfl (tk rfl) rfl (tk rfl) rfl rfl (show (b[k].map cPt)[j]?=some (cPt (b[k][j])) by rw [qE,qA hjl'];rfl) rfl) rfl ?_
     refine wH rfl ?_
     by_cases he:a[k][j]=b[k][j]
     ·refine RG.opS rfl (eG rfl af (by kernel_rfl) (by kernel_rfl) rfl rfl (oo a[k][j] b[k][j]) rfl) rfl ?_
      refine jH ?_
      refine AW.condF (congrArg AV.b (by rw [qF he];rfl)) ?_
      refine jA ?_
      exact ⟨j+1,⟨⟨hjl,by rw [bi (qA hjl),bi (qA hjl'),hg,he]⟩,by omega⟩,⟨rO rfl rfl rfl,rO rfl rfl rfl,rI rfl rfl,rI (au hjl hm2) rfl,trivial⟩,⟨bS rfl rfl rfl,bS rfl rfl rfl,trivial⟩⟩
     ·refine RG.opS rfl (eG rfl af (by kernel_rfl) (by kernel_rfl) rfl rfl (oo a[k][j] b[k][j]) rfl) rfl ?_
      refine jH ?_
      refine AW.condT (congrArg AV.b (by rw [qC he];rfl)) ?_
      refine zR ?_
      exact congrArg AV.b ((qC fun e:a=b=>he (by subst e;rfl)).symm.trans hq)
    ·have hjl:¬j<a[k].length:=by simpa using h3
     obtain rfl:j=a[k].length:=by omega
     have he:a[k]=b[k]:=by rw [vW,hek,vW] at hg;exact hg
     refine zE ?_
     refine jA ?_
     exact ⟨k+1,⟨⟨h,by rw [bi (qA h),bi (qA h'),hf,he]⟩,by omega⟩,⟨rO rfl rfl rfl,rO rfl rfl rfl,rI (au h hm) rfl,trivial⟩,⟨bS rfl rfl rfl,bS rfl rfl rfl,trivial⟩⟩
  ·have h:¬k<a.length:=by simpa using h1
   obtain rfl:k=a.length:=by omega
   refine zE ?_
   refine zR ?_
   rw [vW,heq,vW] at hf
   exact congrArg AV.b ((qF hf).symm.trans hq)
theorem Gb {c d:Cf}:c=d↔c.topo.ports=d.topo.ports/\c.pol.tenants=d.pol.tenants/\c.pol.peers=d.pol.peers/\c.pol.ways=d.pol.ways/\c.tables=d.tables:=by
 obtain ⟨⟨a1⟩,⟨a2,a3,a4⟩,a5⟩:=c
 obtain ⟨⟨b1⟩,⟨b2,b3,b4⟩,b5⟩:=d
 constructor
 ·intro h;cases h;exact ⟨rfl,rfl,rfl,rfl,rfl⟩
 ·rintro ⟨rfl,h,rfl,rfl,rfl⟩
  obtain rfl:a2=b2:=h
  rfl
theorem DJ (c d:Cf) (q:Bool) (hq:(q=true)↔c=d):ae Tryz.prog 15 [.agg (cCf c),.agg (cCf d)] (.b q):=by
 refine jb Tryz.func15 ?_
 have no:¬c=d->AV.b false=AV.b q:=fun h=>by
  cases q
  ·rfl
  ·exact absurd (hq.1 rfl) h
 by_cases h0:c.topo.ports=d.topo.ports
 ·have hP:=rT c.topo.ports d.topo.ports true (qF h0)
  refine jA ?_
  refine jc hP ?_
  by_cases h1:c.pol.tenants=d.pol.tenants
  ·by_cases h2:(((c.pol.peers.map cPr).length:Nat):Int)=(((d.pol.peers.map cPr).length:Nat):Int)
   ·by_cases h3:(((c.pol.ways.map cWy).length:Nat):Int)=(((d.pol.ways.map cWy).length:Nat):Int)
    ·by_cases h4:(((c.tables.map bE).length:Nat):Int)=(((d.tables.map bE).length:Nat):Int)
     ·refine RG.runO af 0 [(25,.b false),(34,.b false),(43,.b false),(52,.b false)] 400 rfl jD ?_
      refine jH ?_
      refine AW.condF rfl ?_
      refine jA ?_
      have l2:c.pol.peers.length=d.pol.peers.length:=by have g:=h2;rw [qH,qH] at g;omega
      have l3:c.pol.ways.length=d.pol.ways.length:=by have g:=h3;rw [qH,qH] at g;omega
      have l4:c.tables.length=d.tables.length:=by have g:=h4;rw [qH,qH] at g;omega
      clear h2 h3 h4
      refine AW.loopL (ι:=Nat) (fun k=>[(2,.own 2 0 0),(3,.own 3 0 0),(5,.own 5 0 0),(6,.own 6 0 0),(7,.i .i64 (k:Nat))]) (fun _=>[(2,⟨0,some (.box 31 (cCf c))⟩),(3,⟨0,some (.box 31 (cCf d))⟩),(5,⟨0,some (.box 28 (kR c.pol))⟩),(6,⟨0,some (.box 28 (kR d.pol))⟩)]) (fun k=>k<=c.pol.peers.length/\c.pol.peers.take k=d.pol.peers.take k) (fun k=>c.pol.peers.length - k) 0 ⟨qR _,rfl⟩ jW ⟨bS rfl rfl rfl,bS rfl rfl rfl,bS rfl rfl rfl,bS rfl rfl rfl,trivial⟩ fun k hk=>?_
      obtain ⟨hk,hf⟩:=hk
      refine jA ?_
      refine AW.lens 56 rfl fun hm=>?_
      have hm:c.pol.peers.length<=9223372036854775807:=by rw [qH] at hm;omega
      refine AW.cond rfl (fun g1=>?_) (fun g1=>?_)
      ·have h:k<c.pol.peers.length:=by simpa using g1
       have h':k<d.pol.peers.length:=by omega
       refine zD ?_
       refine wH rfl ?_
       refine RG.opS rfl (ai rfl (tk rfl) rfl (tk rfl) rfl rfl (show (c.pol.peers.map cPr)[k]?=some (cPr c.pol.peers[k]) by rw [qE,qA (by assumption)];rfl) rfl) rfl ?_
       refine wH rfl ?_
       refine RG.opS rfl (ai rfl (tk rfl) rfl (tk rfl) rfl rfl (show (d.pol.peers.map cPr)[k]?=some (cPr d.pol.peers[k]) by rw [qE,qA (by assumption)];rfl) rfl) rfl ?_
       refine wH rfl ?_
       by_cases he:c.pol.peers[k]=d.pol.peers[k]
       ·refine RG.opS rfl (eG rfl af (by kernel_rfl) (by kernel_rfl) rfl rfl (sG c.pol.peers[k] d.pol.peers[k]) rfl) rfl ?_
        refine jH ?_
        refine AW.condF (congrArg AV.b (by rw [qF he];rfl)) ?_
        refine jA ?_
        exact ⟨k+1,⟨⟨h,by rw [bi (qA h),bi (qA h'),hf,he]⟩,by omega⟩,⟨rO rfl rfl rfl,rO rfl rfl rfl,rO rfl rfl rfl,rO rfl rfl rfl,rI (au h hm) rfl,trivial⟩,⟨bS rfl rfl rfl,bS rfl rfl rfl,bS rfl rfl rfl,bS rfl rfl rfl,trivial⟩⟩
       ·refine RG.opS rfl (eG rfl af (by kernel_rfl) (by kernel_rfl) rfl rfl (sG c.pol.peers[k] d.pol.peers[k]) rfl) rfl ?_
        refine jH ?_
        refine AW.condT (congrArg AV.b (by rw [qC he];rfl)) ?_
        refine zR ?_
        exact no fun e=>he (by subst e;rfl)
      ·have h:¬k<c.pol.peers.length:=by simpa using g1
       obtain rfl:k=c.pol.peers.length:=by omega
       have e2:c.pol.peers=d.pol.peers:=by rw [vW] at hf;rw [hf,vL (by omega)]
       clear hf hk h g1 hm
       refine zE ?_
       refine jA ?_
       refine AW.loopL (ι:=Nat) (fun k=>[(2,.own 2 0 0),(3,.own 3 0 0),(5,.own 5 0 0),(6,.own 6 0 0),(8,.i .i64 (k:Nat))]) (fun _=>[(2,⟨0,some (.box 31 (cCf c))⟩),(3,⟨0,some (.box 31 (cCf d))⟩),(5,⟨0,some (.box 28 (kR c.pol))⟩),(6,⟨0,some (.box 28 (kR d.pol))⟩)]) (fun k=>k<=c.pol.ways.length/\c.pol.ways.take k=d.pol.ways.take k) (fun k=>c.pol.ways.length - k) 0 ⟨qR _,rfl⟩ jW ⟨bS rfl rfl rfl,bS rfl rfl rfl,bS rfl rfl rfl,bS rfl rfl rfl,trivial⟩ fun k hk=>?_
       obtain ⟨hk,hf⟩:=hk
       refine jA ?_
       refine AW.lens 74 rfl fun hm=>?_
       have hm:c.pol.ways.length<=9223372036854775807:=by rw [qH] at hm;omega
       refine AW.cond rfl (fun g1=>?_) (fun g1=>?_)
       ·have h:k<c.pol.ways.length:=by simpa using g1
        have h':k<d.pol.ways.length:=by omega
        refine zD ?_
        refine wH rfl ?_
        refine RG.opS rfl (ai rfl (tk rfl) rfl (tk rfl) rfl rfl (show (c.pol.ways.map cWy)[k]?=some (cWy c.pol.ways[k]) by rw [qE,qA (by assumption)];rfl) rfl) rfl ?_
        refine wH rfl ?_
        refine RG.opS rfl (ai rfl (tk rfl) rfl (tk rfl) rfl rfl (show (d.pol.ways.map cWy)[k]?=some (cWy d.pol.ways[k]) by rw [qE,qA (by assumption)];rfl) rfl) rfl ?_
        refine wH rfl ?_
        by_cases he:c.pol.ways[k]=d.pol.ways[k]
        ·refine RG.opS rfl (eG rfl af (by kernel_rfl) (by kernel_rfl) rfl rfl (D2 c.pol.ways[k] d.pol.ways[k]) rfl) rfl ?_
         refine jH ?_
         refine AW.condF (congrArg AV.b (by rw [qF he];rfl)) ?_
         refine jA ?_
         exact ⟨k+1,⟨⟨h,by rw [bi (qA h),bi (qA h'),hf,he]⟩,by omega⟩,⟨rO rfl rfl rfl,rO rfl rfl rfl,rO rfl rfl rfl,rO rfl rfl rfl,rI (au h hm) rfl,trivial⟩,⟨bS rfl rfl rfl,bS rfl rfl rfl,bS rfl rfl rfl,bS rfl rfl rfl,trivial⟩⟩
        ·refine RG.opS rfl (eG rfl af (by kernel_rfl) (by kernel_rfl) rfl rfl (D2 c.pol.ways[k] d.pol.ways[k]) rfl) rfl ?_
         refine jH ?_
         refine AW.condT (congrArg AV.b (by rw [qC he];rfl)) ?_
         refine zR ?_
         exact no fun e=>he (by subst e;rfl)
       ·have h:¬k<c.pol.ways.length:=by simpa using g1
        obtain rfl:k=c.pol.ways.length:=by omega
        have e3:c.pol.ways=d.pol.ways:=by rw [vW] at hf;rw [hf,vL (by omega)]
        clear hf hk h g1 hm
        refine zE ?_
        refine jA ?_
        refine AW.loopL (ι:=Nat) (fun k=>[(2,.own 2 0 0),(3,.own 3 0 0),(5,.own 5 0 0),(6,.own 6 0 0),(9,.i .i64 (k:Nat))]) (fun _=>[(2,⟨0,some (.box 31 (cCf c))⟩),(3,⟨0,some (.box 31 (cCf d))⟩),(5,⟨0,some (.box 28 (kR c.pol))⟩),(6,⟨0,some (.box 28 (kR d.pol))⟩)]) (fun k=>k<=c.tables.length/\c.tables.take k=d.tables.take k) (fun k=>c.tables.length - k) 0 ⟨qR _,rfl⟩ jW ⟨bS rfl rfl rfl,bS rfl rfl rfl,bS rfl rfl rfl,bS rfl rfl rfl,trivial⟩ fun k hk=>?_
        obtain ⟨hk,hf⟩:=hk
        refine jA ?_
        refine AW.lens 92 rfl fun hm=>?_
        have hm:c.tables.length<=9223372036854775807:=by rw [qH] at hm;omega
        refine AW.cond rfl (fun g1=>?_) (fun g1=>?_)
        ·have h:k<c.tables.length:=by simpa using g1
         have h':k<d.tables.length:=by omega
         refine zD ?_
         refine wH rfl ?_
         refine RG.opS rfl (ai rfl (tk rfl) rfl (tk rfl) rfl rfl (show (c.tables.map bE)[k]?=some (bE c.tables[k]) by rw [qE,qA (by assumption)];rfl) rfl) rfl ?_
         refine wH rfl ?_
         refine RG.opS rfl (ai rfl (tk rfl) rfl (tk rfl) rfl rfl (show (d.tables.map bE)[k]?=some (bE d.tables[k]) by rw [qE,qA (by assumption)];rfl) rfl) rfl ?_
         refine wH rfl ?_
         by_cases he:c.tables[k]=d.tables[k]
         ·refine jc (rZ c.tables[k] d.tables[k] true (qF he)) ?_
          refine jH ?_
          refine AW.condF rfl ?_
          refine jA ?_
          exact ⟨k+1,⟨⟨h,by rw [bi (qA h),bi (qA h'),hf,he]⟩,by omega⟩,⟨rO rfl rfl rfl,rO rfl rfl rfl,rO rfl rfl rfl,rO rfl rfl rfl,rI (au h hm) rfl,trivial⟩,⟨bS rfl rfl rfl,bS rfl rfl rfl,bS rfl rfl rfl,bS rfl rfl rfl,trivial⟩⟩
         ·refine jc (rZ c.tables[k] d.tables[k] false (qC he)) ?_
          refine jH ?_
          refine AW.condT rfl ?_
          refine zR ?_
          exact no fun e=>he (by subst e;rfl)
        ·have h:¬k<c.tables.length:=by simpa using g1
         obtain rfl:k=c.tables.length:=by omega
         have e4:c.tables=d.tables:=by rw [vW] at hf;rw [hf,vL (by omega)]
         clear hf hk h g1 hm
         refine zE ?_
         refine zR ?_
         exact congrArg AV.b (hq.2 (Gb.2 ⟨h0,h1,e2,e3,e4⟩)).symm
     ·refine RG.runO af 0 [(25,.b false),(34,.b false),(43,.b false),(52,.b true)] 400 rfl jD ?_
      refine jH ?_
      refine AW.condT rfl ?_
      refine zR ?_
      first
       | exact no fun e=>h1 (by rw [e])
       | exact no fun e=>h2 (by rw [e])
       | exact no fun e=>h3 (by rw [e])
       | exact no fun e=>h4 (by rw [e])
    ·refine RG.runO af 0 [(25,.b false),(34,.b false),(43,.b true)] 400 rfl jD ?_
     refine jH ?_
     refine AW.condT rfl ?_
     refine zR ?_
     first
      | exact no fun e=>h1 (by rw [e])
      | exact no fun e=>h2 (by rw [e])
      | exact no fun e=>h3 (by rw [e])
      | exact no fun e=>h4 (by rw [e])
   ·refine RG.runO af 0 [(25,.b false),(34,.b true)] 400 rfl jD ?_
    refine jH ?_
    refine AW.condT rfl ?_
    refine zR ?_
    first
     | exact no fun e=>h1 (by rw [e])
     | exact no fun e=>h2 (by rw [e])
     | exact no fun e=>h3 (by rw [e])
     | exact no fun e=>h4 (by rw [e])
  ·refine RG.runO af 0 [(25,.b true)] 400 rfl jD ?_
   refine jH ?_
   refine AW.condT rfl ?_
   refine zR ?_
   first
    | exact no fun e=>h1 (by rw [e])
    | exact no fun e=>h2 (by rw [e])
    | exact no fun e=>h3 (by rw [e])
    | exact no fun e=>h4 (by rw [e])
 ·have hP:=rT c.topo.ports d.topo.ports false (qC h0)
  refine jA ?_
  refine jc hP ?_
  refine jH ?_
  refine AW.condT rfl ?_
  refine zR ?_
  exact no fun e=>h0 (by rw [e])
theorem Gd:bU Tryz.prog 63 16 (α:=Ed) cEd:=by
 refine ⟨fun _=>rfl,fun a=>qW.1 rfl,fun H e w base spare held fuel cs x hx=>?_⟩
 obtain ⟨m,hl,hp⟩:=cU Tryz.underlying63 hx
 have hl:cs.length=16:=hl.trans (by kernel_rfl)
 obtain ⟨a0,h0⟩:=cM.part (hp 0 3 0 1 rfl (by kernel_rfl))
 obtain ⟨a1,h1⟩:=cM.part (hp 1 3 1 1 rfl (by kernel_rfl))
 obtain ⟨a2,h2⟩:=cM.part (hp 2 3 2 1 rfl (by kernel_rfl))
 obtain ⟨a3,h3⟩:=C7.part (hp 3 4 3 1 rfl (by kernel_rfl))
 obtain ⟨a4,h4⟩:=D8.part (hp 4 57 4 12 rfl (by kernel_rfl))
 refine ⟨⟨a0,a1,a2,a3,a4⟩,PWs.all ?_⟩
 exact h0.join rfl (h1.join rfl (h2.join rfl (h3.join rfl (h4.join rfl (PWs.nil hl)))))
theorem zr:∃i0 z,Tryz.prog.info? 57=some i0/\i0.size=12/\i0.bytes=96/\i0.zero=some z/\z.cells.size=12:=by
 have h:(Tryz.prog.info? 57).map (fun i=>(i.size,i.bytes,i.zero.map fun z=>z.cells.size))=some (12,96,some 12):=by kernel_rfl
 cases e:Tryz.prog.info? 57 with
 | none=>rw [e] at h;cases h
 | some i =>
  rw [e] at h
  have h:=qB h
  have h3:i.zero.map (fun z=>z.cells.size)=some 12:=congrArg (fun p=>p.2.2) h
  obtain ⟨z,hz,hs⟩:=vR.1 h3
  exact ⟨i,z,rfl,congrArg (fun p=>p.1) h,congrArg (fun p=>p.2.1) h,hz,hs⟩
theorem jS {w:World} (ty:TypeId) (g o n dCap:Nat) (a:Addr) (m sCap:Nat) (cur:Array Value) (cs:List Value) (hg:w.heap[g]?=some (.cells cur 57 (0,0))) (hn:cs.length=Nat.min m n*12) (hsrc:∀j v,cs[j]?=some v->w.cell? (a.add j)=some v) (hfit:o+cs.length<=cur.size) (h1:∀v∈cs,v.oneCell'=true) :
  (Builtin.copy_ #[53,53] ty #[.slice (some ⟨g,o,none⟩) n dCap,.slice (some a) m sCap]).run Tryz.prog w = .ok (goInt (Nat.min m n)) (w.setRow g (cur.toList.take o++cs++cur.toList.drop (o+cs.length)).toArray):=by
 obtain ⟨i0,hi,hsz⟩:=D4
 have hl:=run_loadCells_list (P:=Tryz.prog) w a cs hsrc
 have hst:=run_storeCells_at (P:=Tryz.prog) g o 57 cs 0 cur w hg (by simpa using hfit) h1
 simp [Builtin.copy_,run_underlying fl,Builtin.lenOf,Builtin.firstCells,sizeOf,typeInfo,hi,hsz,<- hn,hl,hst]
structure tx (w w':World) (cells:List Value) (cap:Nat):Prop where
 kp:Kp No w w'
 blk:w'.heap[w.heap.size]?=some (.cells cells.toArray 57 (0,0))
 len:cells.length=cap*12
 le:cap<=maxLen
theorem tx.mk' {w:World} {cs:Array Value} {cells:List Value} {cap:Nat} (h:cs=cells.toArray) (h1:cells.length=cap*12) (h2:cap<=maxLen):tx w (w.drew.alloc (.cells cs 57)) cells cap:=by
 subst h
 exact ⟨((Kp.refl No w).drew).alloc _,heap_alloc_new _ _,h1,h2⟩
theorem lR {w:World} {ops:Array Oper} {rest:List Oper} {o:Oper} {a:Act} {Q:Exit->Act->World->Prop} (hgd:o.guard=none) (s x:Operand)
  (ho:o.op = .call { callee:=.builtin .append,args:=#[s,x],argTypes:=#[53,53] }) (b:Addr) (n cap:Nat) (olds:List Value) (hs:a.eval s = .slice (some b) n cap) (hlo:olds.length=n*12) (holds:∀j v,olds[j]?=some v->w.cell? (b.add j)=some v)
  (ad:Addr) (c:Nat) (news:List Value) (hx:a.eval x = .slice (some ad) 1 c) (hl:news.length=12) (hnews:∀j u,news[j]?=some u->w.cell? (ad.add j)=some u) (hg:cap<n+1) (hn:n<=1000000000) (hc:cap=n)
  (h:∀w' cells cap',tx w w' cells cap'->n+1<=cap'->cells.take ((n+1)*12)=olds++news->wpList Tryz.prog ops Q rest (a.put o.dst (.slice (some ⟨w.heap.size,0,none⟩) (n+1) cap')) w'):wpList Tryz.prog ops Q (o::rest) a w :=
 wpList_plain hgd fun K hK=>by
  obtain ⟨i0,z,hi,hsz,hby,hz,hzs⟩:=zr
  have h2:=nextslicecap_le (need:=n+1) (old:=cap) hg
  have hr:=run_append_grow (P:=Tryz.prog) w 53 o.type 57 i0 z fl hi hz b n cap olds (by rw [hsz];exact hlo) holds ad 1 c news (by rw [hsz];exact hl) hnews hg (by omega) (by rw [hby];omega)
  have hge:=grownCap_ge w (n+1) cap 57
  have hle:=grownCap_le_maxLen w (n+1) cap 57 (by unfold maxLen;omega)
  generalize grownCap w (n+1) cap 57=cap' at hr hge hle
  unfold Oper.wp execOp
  simp only [ho,resolve,invoke,builtin,Sem.run_bind,Sem.run_pure,Result.andThen_ok,List.map_toArray,vE,List.map_nil,hs,hx,hr]
  have hzl:(Builtin.zeroCells z.cells (cap' - (n+1))).toList.length=(cap' - (n+1))*12:=by rw [qL,size_zeroCells,hzs]
  refine hK _ _ (h _ (olds++news++(Builtin.zeroCells z.cells (cap' - (n+1))).toList) cap' (tx.mk' ?_ ?_ hle) hge ?_)
  ·apply Array.ext'
   simp
  ·rw [qK,qK,hlo,hl,hzl]
   omega
  ·rw [List.take_append_of_le_length (by rw [qK,hlo,hl];omega),vL (by rw [qK,hlo,hl];omega)]
theorem sH {w:World} {ops:Array Oper} {rest:List Oper} {o:Oper} {a:Act} {Q:Exit->Act->World->Prop} (hgd:o.guard=none) (s x:Operand)
  (ho:o.op = .call { callee:=.builtin .append,args:=#[s,x],argTypes:=#[53,53] }) (hs:a.eval s = .slice none 0 0)
  (ad:Addr) (c:Nat) (news:List Value) (hx:a.eval x = .slice (some ad) 1 c) (hl:news.length=12) (hnews:∀j u,news[j]?=some u->w.cell? (ad.add j)=some u)
  (h:∀w' cells cap',tx w w' cells cap'->1<=cap'->cells.take 12=news->wpList Tryz.prog ops Q rest (a.put o.dst (.slice (some ⟨w.heap.size,0,none⟩) 1 cap')) w'):wpList Tryz.prog ops Q (o::rest) a w :=
 wpList_plain hgd fun K hK=>by
  obtain ⟨i0,z,hi,hsz,hby,hz,hzs⟩:=zr
  have hr:=run_append_nil (P:=Tryz.prog) w 53 o.type 57 i0 z fl hi hz ad 1 c news (by rw [hsz];exact hl) hnews (by omega) (by omega) (by rw [hby];omega)
  have hge:=grownCap_ge w 1 0 57
  have hle:=grownCap_le_maxLen w 1 0 57 (by unfold maxLen;omega)
  generalize grownCap w 1 0 57=cap' at hr hge hle
  unfold Oper.wp execOp
  simp only [ho,resolve,invoke,builtin,Sem.run_bind,Sem.run_pure,Result.andThen_ok,List.map_toArray,vE,List.map_nil,hs,hx,hr]
  have hzl:(Builtin.zeroCells z.cells (cap' - 1)).toList.length=(cap' - 1)*12:=by rw [qL,size_zeroCells,hzs]
  refine hK _ _ (h _ (news++(Builtin.zeroCells z.cells (cap' - 1)).toList) cap' (tx.mk' ?_ ?_ hle) hge ?_)
  ·apply Array.ext'
   simp
  ·rw [qK,hl,hzl]
   omega
  ·rw [List.take_append_of_le_length (by omega),vL (by omega)]
theorem EY {α:Type} (L R D:List α) (a b:Nat) (hR:R.length=b) (hL:a+b+D.length<=L.length) :
  ((L.take (a+b)++D++L.drop (a+b+D.length)).take a++R++(L.take (a+b)++D++L.drop (a+b+D.length)).drop (a+R.length)).take (a+b+D.length)=L.take a++R++D /\
  ((L.take (a+b)++D++L.drop (a+b+D.length)).take a++R++(L.take (a+b)++D++L.drop (a+b+D.length)).drop (a+R.length)).length=L.length:=by
 have h1:(L.take (a+b)).length=a+b:=by rw [vG];omega
 have e1:(L.take (a+b)++D++L.drop (a+b+D.length)).take a=L.take a:=by
  rw [uI,List.take_append_of_le_length (by omega),List.take_take,Nat.min_eq_left (by omega)]
 have e2:(L.take (a+b)++D++L.drop (a+b+D.length)).drop (a+R.length)=D++L.drop (a+b+D.length):=by
  rw [hR,uI,List.drop_append_of_le_length (by omega),List.drop_eq_nil_of_le (by omega),uT]
 rw [e1,e2]
 constructor
 ·rw [<- uI,List.take_append_of_le_length (by rw [qK,qK,vG,hR];omega),vL (by rw [qK,qK,vG,hR];omega)]
 ·rw [qK,qK,qK,vG,vV,hR]
  omega
theorem Eh {α:Type} (L R D:List α) (a b:Nat) (hR:R.length=b) (hL:a+b+D.length<=L.length) :
  ((L.take a++R++L.drop (a+R.length)).take (a+b)++D++(L.take a++R++L.drop (a+R.length)).drop (a+b+D.length)).take (a+b+D.length)=L.take a++R++D /\
  ((L.take a++R++L.drop (a+R.length)).take (a+b)++D++(L.take a++R++L.drop (a+R.length)).drop (a+b+D.length)).length=L.length:=by
 have h1:(L.take a++R).length=a+b:=by rw [qK,vG,hR];omega
 have e1:(L.take a++R++L.drop (a+R.length)).take (a+b)=L.take a++R:=by
  rw [List.take_append_of_le_length (by omega),vL (by omega)]
 have h2:(L.take a++R++L.drop (a+R.length)).length=L.length:=by
  rw [qK,h1,vV,hR]
  omega
 rw [e1]
 constructor
 ·rw [List.take_append_of_le_length (by rw [qK,h1];omega),vL (by rw [qK,h1];omega)]
 ·rw [qK,qK,h1,vV,h2]
  omega
theorem ym (r:Rl):∀(i:Nat) (l:List Rl),i<=l.length->l.insertIdx i r=l.take i++r::l.drop i
 | 0,l,_=>by simp
 | i+1,[],h=>by simp at h
 | i+1,x::l,h=>by
  rw [List.insertIdx_succ_cons,ym r i l (by simpa using h)]
  rfl
theorem iM (l:List Rl) (i:Nat) (r:Rl) (hi:i<=l.length):aw (l.insertIdx i r)=aw (l.take i)++rlV r++aw (l.drop i):=by
 have h:l.insertIdx i r=l.take i++([r]++l.drop i):=ym r i l hi
 rw [h,gD,gD,uI]
 simp [aw]
theorem eS (r:Rl):(rlV r).length=12:=rfl
theorem iW {w:World} {bv:Nat} {r:Rl} (h:w.heap[bv]?=some (.cells (rlV r).toArray 57 (0,0))):∀(j:Nat) (u:Value),(rlV r)[j]?=some u->w.cell? ((⟨bv,0,none⟩:Addr).add j)=some u:=fun j u hj=>by
 rw [Addr.add_lit,vN]
 exact aa h (by rw [uF];exact hj)
def kO (W W':World) (l:List Rl) (bs:List Nat) (v:Value):Prop:=∃bs',bl W' l v bs'/\Kp (·∈bs) W W'/\∀z∈bs',z∈bs\/W.heap.size<=z
theorem kU {W w w':World} {l:List Rl} {bs:List Nat} {cells:List Value} {cap n:Nat} (hk:Kp No W w) (hg:tx w w' cells cap) (hl:l.length=n) (hn:n<=cap) (hc:cells.take (n*12)=aw l):kO W w' l bs (.slice (some ⟨w.heap.size,0,none⟩) n cap):=by
 subst hl
 refine ⟨[w.heap.size],.inr ⟨w.heap.size,cap,cap,_,rfl,rfl,hg.blk,hn,qJ _,hg.le,by rw [uG];exact hg.len,hc⟩,(hk.trans hg.kp).mono fun _ _ h=>h.elim,fun z hz=>.inr ?_⟩
 rw [qO.1 hz]
 exact hk.size
theorem Fm (W:World) (r:Rl) (bv:Nat) (hb:W.heap[bv]?=some (.cells (rlV r).toArray 57 (0,0))) (bs:List Nat):Calls Tryz.prog 107 #[.slice none 0 0,.int .i64 0,.slice (some ⟨bv,0,none⟩) 1 1] W fun e W'=>∃v',e = .returned v'/\kO W W' [r] bs v':=by
 have Hb:=Lib.hid hb
 clear hb
 go_enter Tryz.func107,Tryz.ntmps107
 go_wp2_with (at_builtin;refine sH rfl _ _ rfl rfl ⟨bv,0,none⟩ 1 (rlV r) rfl rfl (iW Hb.out) ?_;intro W3 cells cap' hg hc ht;(have HG:=Lib.hid hg);(have HC:=Lib.hid hc);(have HT:=Lib.hid ht);clear hg hc ht)
 go_ret
 exact ⟨_,rfl,kU (Kp.refl _ _) HG.out rfl HC.out (HT.out.trans (by simp [aw]))⟩
theorem Dd (W:World) (A:Addr) (r:Rl) (bv:Nat) (hb:W.heap[bv]?=some (.cells (rlV r).toArray 57 (0,0))) (bs:List Nat):Calls Tryz.prog 107 #[.slice (some A) 0 0,.int .i64 0,.slice (some ⟨bv,0,none⟩) 1 1] W fun e W'=>∃v',e = .returned v'/\kO W W' [r] bs v':=by
 have Hb:=Lib.hid hb
 clear hb
 go_enter Tryz.func107,Tryz.ntmps107
 go_wp2_with (at_builtin;refine lR rfl _ _ rfl A 0 0 [] rfl rfl (fun j v h=>by simp at h) ⟨bv,0,none⟩ 1 (rlV r) rfl rfl (iW Hb.out) (by decide) (by decide) rfl ?_;intro W3 cells cap' hg hc ht;(have HG:=Lib.hid hg);(have HC:=Lib.hid hc);(have HT:=Lib.hid ht);clear hg hc ht)
 go_ret
 exact ⟨_,rfl,kU (Kp.refl _ _) HG.out rfl HC.out (HT.out.trans (by simp [aw]))⟩
structure nk (W:World) (l:List Rl) (b n cap capB:Nat) (cur:Array Value):Prop where
 len:l.length=n
 blk:W.heap[b]?=some (.cells cur 57 (0,0))
 le:n<=cap
 cap_:cap<=capB
 max:capB<=maxLen
 size:cur.size=capB*12
 at_:cur.toList.take (n*12)=aw l
theorem nk.take {W:World} {l:List Rl} {b n cap capB:Nat} {cur:Array Value} (h:nk W l b n cap capB cur) {i:Nat} (hi:i<=n):cur.toList.take (i*12)=aw (l.take i):=by
 have:=congrArg (fun x=>x.take (i*12)) h.at_
 simp only [List.take_take] at this
 rw [Nat.min_eq_left (by omega)] at this
 rw [this,lU _ _ (by rw [h.len];exact hi)]
theorem nk.src {W w:World} {l:List Rl} {b n cap capB:Nat} {cur:Array Value} (h:nk W l b n cap capB cur) (hw:w.heap[b]?=W.heap[b]?) (i:Nat):∀(j:Nat) (u:Value),(aw (l.drop i))[j]?=some u->w.cell? ((⟨b,i*12,none⟩:Addr).add j)=some u:=fun j u hj=>by
 have hjl:=(qD.1 hj).1
 rw [bh,vV,h.len] at hjl
 rw [<- lE,uC,<- h.at_,uH (by omega),vO] at hj
 rw [Addr.add_lit]
 exact aa (hw.trans h.blk) hj
theorem nk.src0 {W w:World} {l:List Rl} {b n cap capB:Nat} {cur:Array Value} (h:nk W l b n cap capB cur) (hw:w.heap[b]?=W.heap[b]?) {i:Nat} (hi:i<=n):∀(j:Nat) (u:Value),(aw (l.take i))[j]?=some u->w.cell? ((⟨b,0,none⟩:Addr).add j)=some u:=fun j u hj=>by
 have hjl:=(qD.1 hj).1
 rw [bh,vG,h.len] at hjl
 rw [<- h.take hi,uH (by omega),vO] at hj
 rw [Addr.add_lit,vN]
 exact aa (hw.trans h.blk) hj
theorem Dy (W:World) (l:List Rl) (b n cap capB:Nat) (cur:Array Value) (h:nk W l b n cap capB cur) (hc:n+1<=cap) (r:Rl) (bv:Nat) (hb:W.heap[bv]?=some (.cells (rlV r).toArray 57 (0,0))):Calls Tryz.prog 107 #[.slice (some ⟨b,0,none⟩) n cap,.int .i64 (n:Nat),.slice (some ⟨bv,0,none⟩) 1 1] W fun e W'=>∃v',e = .returned v'/\kO W W' (l.insertIdx n r) [b] v':=by
 have hcm:cap<=9223372036854775807:=by have:=h.cap_;have:=h.max;unfold maxLen at this;omega
 have hfit:n*12+(rlV r).length<=cur.size:=by rw [h.size,eS];have:=h.cap_;omega
 have Hfit:=Lib.hid hfit
 have Hb:=Lib.hid hb
 have H:=Lib.hid h
 clear hb h hfit
 have h1:n<=cap:=by omega
 go_enter Tryz.func107,Tryz.ntmps107
 go_wp2_with (at_builtin;refine iC rfl _ _ rfl b n cap cur rfl H.out.blk ⟨bv,0,none⟩ 1 1 (rlV r) rfl rfl (iW Hb.out) (mi r) hc Hfit.out (n+1) rfl ?_;intro W3 hW3;(have HW:=Lib.hid hW3);clear hW3)
 go_ret
 have h:=H.out
 have hln:(l.insertIdx n r).length=n+1:=by rw [List.length_insertIdx,if_pos (by rw [h.len];exact qJ _),h.len]
 have hcl:cur.toList.length=capB*12:=by rw [qL,h.size]
 have hcb:=h.cap_
 refine ⟨_,rfl,[b],.inr ⟨b,cap,capB,_,rfl,by rw [hln];rfl,by rw [HW.out];exact setRow_heap W b cur _ _ _ h.blk,by rw [hln];exact hc,h.cap_,h.max,?_,?_⟩,by rw [HW.out];exact (Kp.refl _ W).setRow' (by simp) _,fun z hz=>.inl hz⟩
 ·rw [uG,qK,qK,vG,vV,hcl,eS]
  omega
 ·rw [hln]
  show (cur.toList.take (n*12)++rlV r++cur.toList.drop (n*12+(rlV r).length)).take ((n+1)*12)=_
  rw [List.take_append_of_le_length (by rw [qK,vG,hcl,eS];omega),vL (by rw [qK,vG,hcl,eS];omega),h.at_,iM _ _ _ (by rw [h.len];exact qJ _),vL (by rw [h.len];exact qJ _),List.drop_eq_nil_of_le (by rw [h.len];exact qJ _)]
  simp [aw]
theorem BB (W:World) (l:List Rl) (b n capB:Nat) (cur:Array Value) (h:nk W l b n n capB cur) (hn:n<=1000000000) (r:Rl) (bv:Nat) (hb:W.heap[bv]?=some (.cells (rlV r).toArray 57 (0,0))):Calls Tryz.prog 107 #[.slice (some ⟨b,0,none⟩) n n,.int .i64 (n:Nat),.slice (some ⟨bv,0,none⟩) 1 1] W fun e W'=>∃v',e = .returned v'/\kO W W' (l.insertIdx n r) [b] v':=by
 have Hb:=Lib.hid hb
 have H:=Lib.hid h
 have Ho:=Lib.hid (show (aw l).length=n*12 by rw [bh,h.len])
 clear hb h
 have h2:n<n+1:=by omega
 go_enter Tryz.func107,Tryz.ntmps107
 go_wp2_with (at_builtin;refine lR rfl _ _ rfl ⟨b,0,none⟩ n n (aw l) rfl Ho.out (H.out.src rfl 0) ⟨bv,0,none⟩ 1 (rlV r) rfl rfl (iW Hb.out) h2 hn rfl ?_;intro W3 cells cap' hg hc ht;(have HG:=Lib.hid hg);(have HC:=Lib.hid hc);(have HT:=Lib.hid ht);clear hg hc ht)
 go_ret
 have h:=H.out
 refine ⟨_,rfl,kU (Kp.refl _ _) HG.out (by rw [List.length_insertIdx,if_pos (by rw [h.len];exact qJ _),h.len]) HC.out (HT.out.trans ?_)⟩
 rw [iM _ _ _ (by rw [h.len];exact qJ _),vL (by rw [h.len];exact qJ _),List.drop_eq_nil_of_le (by rw [h.len];exact qJ _)]
 simp [aw]
theorem B4 (W:World) (l:List Rl) (b n cap capB i:Nat) (cur:Array Value) (h:nk W l b n cap capB cur) (hi:i<n) (hc:n+1<=cap) (r:Rl) (bv:Nat) (hb:W.heap[bv]?=some (.cells (rlV r).toArray 57 (0,0))) (hne:bv≠b):Calls Tryz.prog 107 #[.slice (some ⟨b,0,none⟩) n cap,.int .i64 (i:Nat),.slice (some ⟨bv,0,none⟩) 1 1] W fun e W'=>∃v',e = .returned v'/\kO W W' (l.insertIdx i r) [b] v':=by
  have hcm:cap<=9223372036854775807:=by have:=h.cap_;have:=h.max;unfold maxLen at this;omega
  have hcb:=h.cap_
  have hcs:cur.size≠0:=by rw [h.size];omega
  have hz:∀w,(Go.sizeOf 57).run Tryz.prog w = .ok 12 w:=fun w=>by kernel_rfl
  have hov:∀lb cb,(callFunc 152 #[.slice (some ⟨bv,0,none⟩) 1 1,.slice (some ⟨b,(i+1)*12,none⟩) lb cb]).run Tryz.prog W = .ok (.value (.bool false)) W:=fun lb cb=>by
    rw [run_callFunc_extern Tryz.func152 (by kernel_rfl) (by kernel_rfl) (by kernel_rfl) (e:=Extern.SlicesOverlaps.overlaps #[53,53] #[4]) (by kernel_rfl),
      Lib.run_overlaps_apart W 53 4 57 fl 12 hz ⟨bv,0,none⟩ ⟨b,(i+1)*12,none⟩ 1 1 lb cb hne 57 57 12 cur.size (by simp [World.shape?,hb,rlV]) (by simp [World.shape?,h.blk]) hcs (by simp [World.frozen?,hb]) (by simp [World.frozen?,hb])]
    rfl
  have hdl:(aw (l.drop i)).length=(n - i)*12:=by rw [bh,vV,h.len]
  have hcl:cur.toList.length=capB*12:=by rw [qL,h.size]
  obtain ⟨L1,hL1⟩:∃L1,L1=cur.toList.take ((i+1)*12)++aw (l.drop i)++cur.toList.drop ((i+1)*12+(aw (l.drop i)).length):=⟨_,rfl⟩
  obtain ⟨W1,hW1⟩:∃W1,W1=W.drew.setRow b L1.toArray:=⟨_,rfl⟩
  have hcp1:∀ty dc sc,(Builtin.copy_ #[53,53] ty #[.slice (some ⟨b,(i+1)*12,none⟩) (n - i) dc,.slice (some ⟨b,i*12,none⟩) (n+1 - i) sc]).run Tryz.prog W.drew = .ok (goInt (Nat.min (n+1 - i) (n - i))) W1:=fun ty dc sc=>by
    rw [hW1,hL1]
    exact jS (w:=W.drew) ty b ((i+1)*12) (n - i) dc ⟨b,i*12,none⟩ (n+1 - i) sc cur (aw (l.drop i)) h.blk (by rw [hdl];simp only [Nat.min_def];split <;> omega) (h.src rfl i) (by rw [hdl,h.size];omega) (gp _)
  have hk1:Kp (·∈[b]) W W1:=by rw [hW1];exact ((Kp.refl _ W).drew).setRow' (by simp) _
  have hb1:W1.heap[b]?=some (.cells L1.toArray 57 (0,0)):=by rw [hW1];exact setRow_heap W.drew b cur _ _ _ h.blk
  have hv1:W1.heap[bv]?=some (.cells (rlV r).toArray 57 (0,0)):=(hk1.block bv (qI.1 hb).1 (by simpa using hne)).trans hb
  have h1l:L1.length=capB*12:=by
    rw [hL1,qK,qK,vG,vV,hcl,hdl]
    omega
  obtain ⟨L2,hL2⟩:∃L2,L2=L1.take (i*12)++rlV r++L1.drop (i*12+(rlV r).length):=⟨_,rfl⟩
  have hcp2:∀(w:World),w.heap=W1.heap->∀ty dc,(Builtin.copy_ #[53,53] ty #[.slice (some ⟨b,i*12,none⟩) (n+1 - i) dc,.slice (some ⟨bv,0,none⟩) 1 1]).run Tryz.prog w = .ok (goInt (Nat.min 1 (n+1 - i))) (w.setRow b L2.toArray):=fun w hw ty dc=>by
    rw [hL2]
    exact jS (w:=w) ty b (i*12) (n+1 - i) dc ⟨bv,0,none⟩ 1 1 L1.toArray (rlV r) (by rw [hw];exact hb1) (by rw [eS];simp only [Nat.min_def];split <;> omega) (iW (by rw [hw];exact hv1)) (by rw [eS,uG,h1l];omega) (mi r)
  have hseg:=EY cur.toList (rlV r) (aw (l.drop i)) (i*12) 12 rfl (by rw [hdl,hcl];omega)
  have e12:i*12+12=(i+1)*12:=by omega
  have e13:(i+1)*12+(aw (l.drop i)).length=(n+1)*12:=by rw [hdl];omega
  rw [e12,<- hL1,<- hL2,e13,hcl,h.take (Nat.le_of_lt hi),<- iM l i r (by rw [h.len];omega)] at hseg
  have hln:(l.insertIdx i r).length=n+1:=by rw [List.length_insertIdx,if_pos (by rw [h.len];omega),h.len]
  have hfin:∀w:World,w.heap=W1.heap->Kp (·∈[b]) W w->kO W (w.setRow b L2.toArray) (l.insertIdx i r) [b] (.slice (some ⟨b,0,none⟩) (n+1) cap):=fun w hw hk =>
    ⟨[b],.inr ⟨b,cap,capB,_,rfl,by rw [hln],setRow_heap w b L1.toArray _ _ _ (by rw [hw];exact hb1),by rw [hln];exact hc,h.cap_,h.max,by rw [uG];exact hseg.2,by rw [hln];exact hseg.1⟩,hk.setRow' (by simp) _,fun z hz=>.inl hz⟩
  have Hfin:=Lib.hid hfin
  have Hk1:=Lib.hid hk1
  have hz2:¬((i:Int)=(n:Int)):=by omega
  have hw1:IntKind.i64.wrap ((i:Int)+1)=(i:Int)+1:=by rw [IntKind.wrap_i64];omega
  have hw2:IntKind.i64.wrap ((n:Int)+1)=(n:Int)+1:=by rw [IntKind.wrap_i64];omega
  have hz3:¬((cap:Int)<(n:Int)+1):=by omega
  have hb0:(0:Int)<=(n:Int)+1:=by omega
  have hb1':(0:Int)<=(i:Int)+1:=by omega
  have hin:i<=n:=by omega
  have hin2:i<=n+1:=by omega
  have hin3:i+1<=n+1:=by omega
  have hnc:n<=cap:=by omega
  have htn:((i:Int)+1).toNat=i+1:=by omega
  have htm:((n:Int)+1).toNat=n+1:=by omega
  have hb2:¬(cap=i+1):=by omega
  have hb3:(i:Int)<=(n:Int)+1:=by omega
  have hb5:(n:Int)+1<=(cap:Int):=by omega
  have hb4:¬(cap=i):=by omega
  clear hfin hk1 hb1 hv1 h1l hL1 hL2 hseg e12 e13 hln hW1 hdl hcl hcs hz h hb
  have mixed:Tryz.prog.follows Departure.mixedOrders=true:=aN
  go_enter Tryz.func107,Tryz.ntmps107
  go_wp2_with (simp only [hov])
  go_region_law_o (fail)
  go_wp2_with fail
  go_ret
  exact ⟨_,rfl,Hfin.out _ rfl Hk1.out⟩
theorem CB {w:World} (b:Addr) (i cap k:Nat) (olds:List Value) (hlo:olds.length=i*12) (holds:∀j v,olds[j]?=some v->w.cell? (b.add j)=some v) (h0:0<k) (hg:cap<i+k) (hn:i+k<=1000000001) :
  ∃(G:Nat) (L0:List Value),(∀ty,(Builtin.append_ #[53,3] ty #[.slice (some b) i cap,.int .i64 (k:Nat)]).run Tryz.prog w = .ok (.slice (some ⟨w.heap.size,0,none⟩) (i+k) G) (w.drew.alloc (.cells L0.toArray 57)))/\i+k<=G/\G<=maxLen/\L0.length=G*12/\L0.take (i*12)=olds:=by
 obtain ⟨i0,z,hi,hsz,hby,hz,hzs⟩:=zr
 have h2:=nextslicecap_le (need:=i+k) (old:=cap) hg
 have hfc:=run_firstCells_some (P:=Tryz.prog) w.drew i0.size i b i cap olds (by rw [hsz];exact hlo) (by simpa using holds)
 have hr:=fun ty=>Lib.run_append_grow_zeros (P:=Tryz.prog) w 53 3 ty 57 i0 z .i64 .i64 fl (by kernel_rfl) hi hz (some b) i cap olds hfc k h0 (by omega) hg (by omega) (by rw [hby];omega) (by rw [hby];omega)
 have hge:=grownCap_ge w (i+k) cap 57
 have hle:=grownCap_le_maxLen w (i+k) cap 57 (by unfold maxLen;omega)
 generalize grownCap w (i+k) cap 57=cap' at hr hge hle
 refine ⟨cap',olds++(Builtin.zeroCells z.cells k).toList++(Builtin.zeroCells z.cells (cap' - (i+k))).toList,fun ty=>?_,hge,hle,?_,?_⟩
 ·rw [hr ty]
  congr 3
  apply Array.ext'
  simp
 ·rw [qK,qK,hlo,qL,qL,size_zeroCells,size_zeroCells,hzs]
  omega
 ·rw [uI,List.take_append_of_le_length (by omega),vL (by omega)]
theorem By (W:World) (l:List Rl) (b n capB i:Nat) (cur:Array Value) (h:nk W l b n n capB cur) (hi:i<n) (hn:n<=1000000000) (r:Rl) (bv:Nat) (hb:W.heap[bv]?=some (.cells (rlV r).toArray 57 (0,0))) (bs:List Nat):Calls Tryz.prog 107 #[.slice (some ⟨b,0,none⟩) n n,.int .i64 (i:Nat),.slice (some ⟨bv,0,none⟩) 1 1] W fun e W'=>∃v',e = .returned v'/\kO W W' (l.insertIdx i r) bs v':=by
 have hbw:b<W.heap.size:=(qI.1 h.blk).1
 have hvw:bv<W.heap.size:=(qI.1 hb).1
 have hdl:(aw (l.drop i)).length=(n - i)*12:=by rw [bh,vV,h.len]
 obtain ⟨G,L0,hrz,hGn,hGm,h0l,h0t⟩:=CB (w:=W) ⟨b,0,none⟩ i n (n+1 - i) (aw (l.take i)) (by rw [bh,vG,h.len,Nat.min_eq_left (by omega)]) (h.src0 rfl (Nat.le_of_lt hi)) (by omega) (by omega) (by omega)
 rw [show i+(n+1 - i)=n+1 by omega] at hrz hGn
 have hkk:(n:Int)+1 - (i:Int)=((n+1 - i:Nat):Int):=by omega
 rw [<- hkk] at hrz
 obtain ⟨g,hg⟩:∃g,g=W.heap.size:=⟨_,rfl⟩
 rw [<- hg] at hrz hbw hvw
 obtain ⟨W1,hW1⟩:∃W1,W1=W.drew.alloc (.cells L0.toArray 57):=⟨_,rfl⟩
 rw [<- hW1] at hrz
 have hk1:Kp No W W1:=by rw [hW1];exact ((Kp.refl _ W).drew).alloc _
 have hg1:W1.heap[g]?=some (.cells L0.toArray 57 (0,0)):=by rw [hW1,hg];exact heap_alloc_new _ _
 obtain ⟨L1,hL1⟩:∃L1,L1=L0.take (i*12)++rlV r++L0.drop (i*12+(rlV r).length):=⟨_,rfl⟩
 have hcpA:∀(w:World),w.heap=W1.heap->∀ty dc,(Builtin.copy_ #[53,53] ty #[.slice (some ⟨g,i*12,none⟩) (n+1 - i) dc,.slice (some ⟨bv,0,none⟩) 1 1]).run Tryz.prog w = .ok (goInt (Nat.min 1 (n+1 - i))) (w.setRow g L1.toArray):=fun w hw ty dc=>by
  rw [hL1]
  exact jS (w:=w) ty g (i*12) (n+1 - i) dc ⟨bv,0,none⟩ 1 1 L0.toArray (rlV r) (by rw [hw];exact hg1) (by rw [eS];simp only [Nat.min_def];split <;> omega) (iW (by rw [hw];exact (hk1.block bv (hg ▸ hvw) (az _)).trans hb)) (by rw [eS,uG,h0l];omega) (mi r)
 have h1l:L1.length=G*12:=by
  rw [hL1,qK,qK,vG,vV,h0l,eS]
  omega
 obtain ⟨L2,hL2⟩:∃L2,L2=L1.take ((i+1)*12)++aw (l.drop i)++L1.drop ((i+1)*12+(aw (l.drop i)).length):=⟨_,rfl⟩
 have hcpB:∀(w:World),w.heap=(W1.setRow g L1.toArray).heap->∀ty dc sc,(Builtin.copy_ #[53,53] ty #[.slice (some ⟨g,(i+1)*12,none⟩) (n - i) dc,.slice (some ⟨b,i*12,none⟩) (n - i) sc]).run Tryz.prog w = .ok (goInt (Nat.min (n - i) (n - i))) (w.setRow g L2.toArray):=fun w hw ty dc sc=>by
  rw [hL2]
  have hbb:w.heap[b]?=W.heap[b]?:=by
   rw [hw]
   exact (((Kp.refl (fun x=>x=g) W1).setRow' (g:=g) rfl L1.toArray).block b (vK (hg ▸ hbw) hk1.size) (by omega)).trans (hk1.block b (hg ▸ hbw) (az _))
  exact jS (w:=w) ty g ((i+1)*12) (n - i) dc ⟨b,i*12,none⟩ (n - i) sc L1.toArray (aw (l.drop i)) (by rw [hw];exact setRow_heap W1 g L0.toArray _ _ _ hg1) (by rw [hdl];simp only [Nat.min_def];split <;> omega) (h.src hbb i) (by rw [hdl,uG,h1l];omega) (gp _)
 have hseg:=Eh L0 (rlV r) (aw (l.drop i)) (i*12) 12 rfl (by rw [hdl,h0l];omega)
 have e12:i*12+12=(i+1)*12:=by omega
 have e13:(i+1)*12+(aw (l.drop i)).length=(n+1)*12:=by rw [hdl];omega
 rw [e12,<- hL1,<- hL2,e13,h0l,h0t,<- iM l i r (by rw [h.len];omega)] at hseg
 have hln:(l.insertIdx i r).length=n+1:=by rw [List.length_insertIdx,if_pos (by rw [h.len];omega),h.len]
 have hfin:∀w:World,w.heap[g]?=some (.cells L1.toArray 57 (0,0))->Kp (fun x=>x=g) W w->kO W (w.setRow g L2.toArray) (l.insertIdx i r) bs (.slice (some ⟨g,0,none⟩) (n+1) G):=fun w hw hk =>
  ⟨[g],.inr ⟨g,G,G,_,rfl,by rw [hln],setRow_heap w g L1.toArray _ _ _ hw,by rw [hln];exact hGn,qJ _,hGm,by rw [uG];exact hseg.2,by rw [hln];exact hseg.1⟩,(hk.setRow' (g:=g) rfl _).mono fun k h1 h2=>absurd h1 (by rw [h2,hg];exact Nat.lt_irrefl _),fun z hz=>.inr (by rw [qO.1 hz,hg];exact qJ _)⟩
 have Hfin:=Lib.hid hfin
 have Hk1:=Lib.hid (And.intro hg1 (hk1.mono (S':=fun x=>x=g) fun _ _ h=>h.elim))
 have hz2:¬((i:Int)=(n:Int)):=by omega
 have hw1:IntKind.i64.wrap ((i:Int)+1)=(i:Int)+1:=by rw [IntKind.wrap_i64];omega
 have hw2:IntKind.i64.wrap ((n:Int)+1)=(n:Int)+1:=by rw [IntKind.wrap_i64];omega
 have hw3:IntKind.i64.wrap ((n:Int)+1 - (i:Int))=(n:Int)+1 - (i:Int):=by rw [IntKind.wrap_i64];omega
 have hz3:(n:Int)<(n:Int)+1:=by omega
 have hb1':(0:Int)<=(i:Int)+1:=by omega
 have hin:i<=n:=by omega
 have hin2:i<=n+1:=by omega
 have hin3:i+1<=n+1:=by omega
 have htn:((i:Int)+1).toNat=i+1:=by omega
 have hG63:G<=9223372036854775807:=by unfold maxLen at hGm;omega
 have hGi:¬(G=i):=by omega
 have hGi1:¬(G=i+1):=by omega
 have hb3:(i:Int)<=(n:Int)+1:=by omega
 have hb5:(i:Int)+1<=(n:Int)+1:=by omega
 have hb4:¬(n=i):=by omega
 clear hfin hk1 hg1 h1l hL1 hL2 hseg e12 e13 hln hW1 hdl h hb h0l h0t hGn hGm hkk hbw hvw hg
 have mixed:Tryz.prog.follows Departure.mixedOrders=true:=aN
 go_enter Tryz.func107,Tryz.ntmps107
 go_wp2_with (at_builtin;refine Lib.wpList_append_run _ rfl _ _ _ _ rfl _ _ rfl rfl _ _ (hrz _) ?_)
 have hB:=hcpB (W1.setRow g L1.toArray).drew rfl
 go_region_law_o (fail)
 go_wp2_with fail
 go_ret
 exact ⟨_,rfl,Hfin.out _ (setRow_heap W1 g L0.toArray _ _ _ Hk1.out.1) ((Hk1.out.2.setRow' (g:=g) rfl _).drew)⟩
theorem yN (l:List Rl) (v:Value) (bs:List Nat) (W:World) (i:Nat) (r:Rl) (bv:Nat) (hq:bl W l v bs) (hi:i<=l.length) (hb:W.heap[bv]?=some (.cells (rlV r).toArray 57 (0,0))) (hbv:bv∉bs) (hlen:l.length<=1000000000):Calls Tryz.prog 107 #[v,.int .i64 (i:Nat),.slice (some ⟨bv,0,none⟩) 1 1] W fun e W'=>∃v',e = .returned v'/\kO W W' (l.insertIdx i r) bs v':=by
 rcases hq with ⟨rfl,rfl,A,rfl⟩ | ⟨b,cap,capB,cur,rfl,rfl,hh,h1,h2,h3,h4,h5⟩
 ·obtain rfl:i=0:=by simpa using hi
  cases A with
  | none=>exact Fm W r bv hb []
  | some A=>exact Dd W A r bv hb []
 ·have h:nk W l b l.length cap capB cur:=⟨rfl,hh,h1,h2,h3,h4,h5⟩
  have hne:bv≠b:=fun e=>hbv (by simp [e])
  generalize l.length=n at *
  rcases Nat.lt_or_ge i n with g | g
  ·rcases Nat.lt_or_ge n cap with g2 | g2
   ·exact B4 W l b _ cap capB i cur h g g2 r bv hb hne
   ·obtain rfl:cap=n:=by omega
    exact By W l b _ capB i cur h g hlen r bv hb [b]
  ·obtain rfl:i=n:=by omega
   rcases Nat.lt_or_ge i cap with g2 | g2
   ·exact Dy W l b _ cap capB cur h g2 r bv hb
   ·obtain rfl:cap=i:=by omega
    exact BB W l b _ capB cur h hlen r bv hb
set_option pp.maxSteps 200000
theorem EF (W:World) (bx:Nat) (tp pe wy tb:Value) (ten:Int) (b0 c0 N sw b1 c1 M tab at_:Nat) (v:Value) (A:Option Addr) (n c:Nat) (cur1:Array Value) (l:List Rl) (bs:List Nat) (hq:bl W l v bs) (hln:l.length=n) (h:zz W bx tp pe wy tb ten b0 c0 N sw b1 c1 M tab v A n c cur1) (h1:sw<N) (h2:tab<M) (h3:at_<=n) (hN:N<=9223372036854775807) (hM:M<=9223372036854775807) (hn:n<=1000000000) (hnb:b1∉bs) (r:Rl) :
  Calls Tryz.prog 63 #[.pointer (some ⟨bx,0,none⟩),zEd sw tab at_ false r] W fun e W'=>e = .returned (.int .i64 0)/\∃v' W1,kO W W1 (l.insertIdx at_ r) bs v'/\W'=W1.setCell ⟨b1,tab,none⟩ v':=by
 have h6:zEd sw tab at_ false r = .agg #[.int .i64 (sw:Nat),.int .i64 (tab:Nat),.int .i64 (at_:Nat),.bool false,.int .i64 r.prio,.int .u64 r.mat.value.hi.toNat,.int .u64 r.mat.value.lo.toNat,.int .u64 r.mat.care.hi.toNat,.int .u64 r.mat.care.lo.toNat,.int .i64 r.act.kind,.int .i64 r.act.port,.int .i64 r.act.table,.int .u64 r.act.set.value.hi.toNat,.int .u64 r.act.set.value.lo.toNat,.int .u64 r.act.set.care.hi.toNat,.int .u64 r.act.set.care.lo.toNat]:=rfl
 rw [h6]
 clear h6
 obtain ⟨hb,rfl,hm,hbl,hll,rfl⟩:=h
 have hl:W.cell? ⟨b1,tab,none⟩=some (.slice A n c):=aa hbl hll
 have hl1:=hll
 have Hbl:=Lib.hid hbl
 clear hbl hll
 have Hq:=Lib.hid hq
 have Hl:=Lib.hid hln
 have Hnb:=Lib.hid hnb
 have p4:W.cell? ⟨bx,4,none⟩=some (.slice (some ⟨b0,0,none⟩) N c0):=aa hb rfl
 have Hb:=Lib.hid hb
 clear hb hq hln hnb
 go_enter Tryz.func63,Tryz.ntmps63
 go_wp2_with fail
 have q1:(sw:Int)<(N:Int):=by omega
 have q2:(tab:Int)<(M:Int):=by omega
 have q3:(at_:Int)<=(n:Int):=by omega
 obtain ⟨We,hWe⟩:∃We,We=W.alloc (.cells #[.int .i64 (sw:Nat),.int .i64 (tab:Nat),.int .i64 (at_:Nat),.bool false,.int .i64 r.prio,.int .u64 r.mat.value.hi.toNat,.int .u64 r.mat.value.lo.toNat,.int .u64 r.mat.care.hi.toNat,.int .u64 r.mat.care.lo.toNat,.int .i64 r.act.kind,.int .i64 r.act.port,.int .i64 r.act.table,.int .u64 r.act.set.value.hi.toNat,.int .u64 r.act.set.value.lo.toNat,.int .u64 r.act.set.care.hi.toNat,.int .u64 r.act.set.care.lo.toNat] 63):=⟨_,rfl⟩
 rw [<- hWe]
 have he:We.heap[W.heap.size]?=some (.cells #[.int .i64 (sw:Nat),.int .i64 (tab:Nat),.int .i64 (at_:Nat),.bool false,.int .i64 r.prio,.int .u64 r.mat.value.hi.toNat,.int .u64 r.mat.value.lo.toNat,.int .u64 r.mat.care.hi.toNat,.int .u64 r.mat.care.lo.toNat,.int .i64 r.act.kind,.int .i64 r.act.port,.int .i64 r.act.table,.int .u64 r.act.set.value.hi.toNat,.int .u64 r.act.set.value.lo.toNat,.int .u64 r.act.set.care.hi.toNat,.int .u64 r.act.set.care.lo.toNat] 63 (0,0)):=by rw [hWe];exact heap_alloc_new _ _
 have hk:Kp No W We:=by rw [hWe];exact (Kp.refl No W).alloc _
 have d0:We.cell? ⟨W.heap.size,0,none⟩=some (.int .i64 (sw:Nat)):=aa he rfl
 have d1:We.cell? ⟨W.heap.size,1,none⟩=some (.int .i64 (tab:Nat)):=aa he rfl
 have d2:We.cell? ⟨W.heap.size,2,none⟩=some (.int .i64 (at_:Nat)):=aa he rfl
 have d3:We.cell? ⟨W.heap.size,3,none⟩=some (.bool false):=aa he rfl
 have Hk:=Lib.hid hk
 have ca:∀(a:Addr) (u:Value),W.cell? a=some u->We.cell? a=some u:=fun a u h=>(World.cell?_of_block (Hk.out.block a.block (block_lt_of_cell h) (az _))).trans h
 have p4':=ca _ _ p4
 have hm':=ca _ _ hm
 have hl':=ca _ _ hl
 have Hbn:=Lib.hid (show b1<W.heap.size from block_lt_of_cell (a:=⟨b1,tab,none⟩) hl)
 have Hne:=Lib.hid (show ∀b∈bs,b<W.heap.size from fun b hb=>Hq.out.old b hb)
 have He:=Lib.hid he
 clear hWe hk he p4 hm hl ca
 have z1:decide ((sw:Int)<0)=false:=qC (by omega)
 have z2:decide ((N:Int)<=(sw:Int))=false:=qC (by omega)
 have z3:decide ((tab:Int)<0)=false:=qC (by omega)
 have z4:decide ((M:Int)<=(tab:Int))=false:=qC (by omega)
 have z5:decide ((at_:Int)<0)=false:=qC (by omega)
 have z6:decide ((n:Int)<(at_:Int))=false:=qC (by omega)
 have y2:decide (N<=sw)=false:=qC (by omega)
 have y4:decide (M<=tab)=false:=qC (by omega)
 have y6:decide (n<at_)=false:=qC (by omega)
 go_quiet (fail)
 go_wp2_with fail
 go_quiet (fail)
 go_wp2_with fail
 go_quiet (fail)
 go_wp2_with fail
 clear z1 z2 z3 z4 z5 z6 y2 y4 y6 d0 d1 d3
 have d4:We.cell? ⟨W.heap.size,4,none⟩=some (.int .i64 r.prio):=aa He.out rfl
 have d5:We.cell? ⟨W.heap.size,5,none⟩=some (.int .u64 r.mat.value.hi.toNat):=aa He.out rfl
 have d6:We.cell? ⟨W.heap.size,6,none⟩=some (.int .u64 r.mat.value.lo.toNat):=aa He.out rfl
 have d7:We.cell? ⟨W.heap.size,7,none⟩=some (.int .u64 r.mat.care.hi.toNat):=aa He.out rfl
 have d8:We.cell? ⟨W.heap.size,8,none⟩=some (.int .u64 r.mat.care.lo.toNat):=aa He.out rfl
 have d9:We.cell? ⟨W.heap.size,9,none⟩=some (.int .i64 r.act.kind):=aa He.out rfl
 have d10:We.cell? ⟨W.heap.size,10,none⟩=some (.int .i64 r.act.port):=aa He.out rfl
 have d11:We.cell? ⟨W.heap.size,11,none⟩=some (.int .i64 r.act.table):=aa He.out rfl
 have d12:We.cell? ⟨W.heap.size,12,none⟩=some (.int .u64 r.act.set.value.hi.toNat):=aa He.out rfl
 have d13:We.cell? ⟨W.heap.size,13,none⟩=some (.int .u64 r.act.set.value.lo.toNat):=aa He.out rfl
 have d14:We.cell? ⟨W.heap.size,14,none⟩=some (.int .u64 r.act.set.care.hi.toNat):=aa He.out rfl
 have d15:We.cell? ⟨W.heap.size,15,none⟩=some (.int .u64 r.act.set.care.lo.toNat):=aa He.out rfl
 have hins:∀k,Calls Tryz.prog 107 #[.slice A n c,.int .i64 (at_:Nat),.slice (some ⟨We.heap.size,0,none⟩) 1 1] ((We.drewN k).alloc (.cells #[.int .i64 r.prio,.int .u64 r.mat.value.hi.toNat,.int .u64 r.mat.value.lo.toNat,.int .u64 r.mat.care.hi.toNat,.int .u64 r.mat.care.lo.toNat,.int .i64 r.act.kind,.int .i64 r.act.port,.int .i64 r.act.table,.int .u64 r.act.set.value.hi.toNat,.int .u64 r.act.set.value.lo.toNat,.int .u64 r.act.set.care.hi.toNat,.int .u64 r.act.set.care.lo.toNat] 57)) fun e W'=>∃A' n' c',e = .returned (.slice A' n' c')/\kO W W' (l.insertIdx at_ r) bs (.slice A' n' c'):=fun k=>by
  have hk:Kp No W ((We.drewN k).alloc (.cells #[.int .i64 r.prio,.int .u64 r.mat.value.hi.toNat,.int .u64 r.mat.value.lo.toNat,.int .u64 r.mat.care.hi.toNat,.int .u64 r.mat.care.lo.toNat,.int .i64 r.act.kind,.int .i64 r.act.port,.int .i64 r.act.table,.int .u64 r.act.set.value.hi.toNat,.int .u64 r.act.set.value.lo.toNat,.int .u64 r.act.set.care.hi.toNat,.int .u64 r.act.set.care.lo.toNat] 57)):=(Hk.out.drewN k).alloc _
  have hb:((We.drewN k).alloc (.cells #[.int .i64 r.prio,.int .u64 r.mat.value.hi.toNat,.int .u64 r.mat.value.lo.toNat,.int .u64 r.mat.care.hi.toNat,.int .u64 r.mat.care.lo.toNat,.int .i64 r.act.kind,.int .i64 r.act.port,.int .i64 r.act.table,.int .u64 r.act.set.value.hi.toNat,.int .u64 r.act.set.value.lo.toNat,.int .u64 r.act.set.care.hi.toNat,.int .u64 r.act.set.care.lo.toNat] 57)).heap[We.heap.size]?=some (.cells (rlV r).toArray 57 (0,0)):=heap_alloc_new (We.drewN k) _
  refine (yN l _ bs _ at_ r We.heap.size (Hq.out.keep fun b hb=>hk.block b (Hq.out.old b hb) (az _)) (by rw [Hl.out];exact h3) hb (fun h=>by have:=Hne.out _ h;have:=Hk.out.size;omega) (by rw [Hl.out];exact hn)).mono ?_
  rintro e W' ⟨v',rfl,bs',hq',hk',hn'⟩
  obtain ⟨A',c',rfl⟩:=hq'.form
  exact ⟨_,_,_,rfl,bs',hq',((hk.mono (S':=fun x=>x∈bs) fun _ _ h=>h.elim).trans hk').mono fun _ _ h=>h,fun z hz=>(hn' z hz).imp id fun h=>vJ hk.size h⟩
 have Hins:=Lib.hid hins
 have hA:∀(a:Addr) (u:Value) (k:Nat),We.cell? a=some u->((We.drewN k).alloc (.cells #[.int .i64 r.prio,.int .u64 r.mat.value.hi.toNat,.int .u64 r.mat.value.lo.toNat,.int .u64 r.mat.care.hi.toNat,.int .u64 r.mat.care.lo.toNat,.int .i64 r.act.kind,.int .i64 r.act.port,.int .i64 r.act.table,.int .u64 r.act.set.value.hi.toNat,.int .u64 r.act.set.value.lo.toNat,.int .u64 r.act.set.care.hi.toNat,.int .u64 r.act.set.care.lo.toNat] 57)).cell? a=some u:=fun a u k h=>(World.cell?_of_block (((Kp.refl No We).drewN k).alloc _ |>.block a.block (block_lt_of_cell h) (az _))).trans h
 have d2a:=fun k=>hA _ _ k d2
 have hla:=fun k=>hA _ _ k hl'
 clear hA
 have hfb:∀W6 A' n' c',kO W W6 (l.insertIdx at_ r) bs (.slice A' n' c')->W6.heap[b1]?=some (.cells cur1 53 (0,0)):=fun W6 A' n' c' h=>by
  obtain ⟨bs',_,hk',_⟩:=h
  exact (hk'.block b1 Hbn.out Hnb.out).trans Hbl.out
 have Hfb:=Lib.hid hfb
 have Hll:=Lib.hid hl1
 clear hins hfb hl1
 go_region_with (go_at_call 107;refine (Hins.out _).mono ?_;rintro e W6 ⟨A',n',c',rfl,hq6⟩;have Hq6:=Lib.hid hq6;have hl6:W6.cell? ⟨b1,tab,none⟩=some (.slice A n c):=aa (Hfb.out _ _ _ _ hq6) Hll.out;have hfz:W6.frozen? ⟨b1,tab,none⟩=false:=(by simp [World.frozen?,Hfb.out _ _ _ _ hq6]);clear hq6)
 all_goals
  go_wp2_with fail
  go_ret
  exact ⟨rfl,_,W6,Hq6.out,rfl⟩
theorem lY {x:UInt64} (h:x.toNat=0):x=0:=UInt64.toNat_inj.1 (by rw [h];rfl)
theorem Cv {r:Rl} (h0:r.prio=0) (h1:r.mat.value.hi.toNat=0) (h2:r.mat.value.lo.toNat=0) (h3:r.mat.care.hi.toNat=0) (h4:r.mat.care.lo.toNat=0) (h5:r.act.kind=0) (h6:r.act.port=0) (h7:r.act.table=0) (h8:r.act.set.value.hi.toNat=0) (h9:r.act.set.value.lo.toNat=0) (h10:r.act.set.care.hi.toNat=0) (h11:r.act.set.care.lo.toNat=0):r=Rl.zero:=by
 obtain ⟨p,⟨⟨a,b⟩,⟨c,d⟩⟩,⟨k,q,t,⟨⟨e,f⟩,⟨g,h⟩⟩⟩⟩:=r
 obtain rfl:p=0:=h0
 obtain rfl:a=0:=lY h1
 obtain rfl:b=0:=lY h2
 obtain rfl:c=0:=lY h3
 obtain rfl:d=0:=lY h4
 obtain rfl:k=0:=h5
 obtain rfl:q=0:=h6
 obtain rfl:t=0:=h7
 obtain rfl:e=0:=lY h8
 obtain rfl:f=0:=lY h9
 obtain rfl:g=0:=lY h10
 obtain rfl:h=0:=lY h11
 rfl
theorem CR (W:World) (bx:Nat) (tp pe wy tb:Value) (ten:Int) (x:Ed) (hb:W.heap[bx]?=some (.cells #[tp,.int .i64 ten,pe,wy,tb] 31 (0,0))) (h1:x.sw<0):Calls Tryz.prog 63 #[.pointer (some ⟨bx,0,none⟩),vEd x] W fun e W'=>e = .returned (.int .i64 4)/\Kp No W W':=by
 have h6:vEd x = .agg #[.int .i64 x.sw,.int .i64 x.tab,.int .i64 x.at_,.bool x.gone,.int .i64 x.rule.prio,.int .u64 x.rule.mat.value.hi.toNat,.int .u64 x.rule.mat.value.lo.toNat,.int .u64 x.rule.mat.care.hi.toNat,.int .u64 x.rule.mat.care.lo.toNat,.int .i64 x.rule.act.kind,.int .i64 x.rule.act.port,.int .i64 x.rule.act.table,.int .u64 x.rule.act.set.value.hi.toNat,.int .u64 x.rule.act.set.value.lo.toNat,.int .u64 x.rule.act.set.care.hi.toNat,.int .u64 x.rule.act.set.care.lo.toNat]:=rfl
 rw [h6]
 clear h6
 have p4:W.cell? ⟨bx,4,none⟩=some tb:=aa hb rfl
 clear hb
 go_enter Tryz.func63,Tryz.ntmps63
 go_wp2_with fail
 obtain ⟨We,hWe⟩:∃We,We=W.alloc (.cells #[.int .i64 x.sw,.int .i64 x.tab,.int .i64 x.at_,.bool x.gone,.int .i64 x.rule.prio,.int .u64 x.rule.mat.value.hi.toNat,.int .u64 x.rule.mat.value.lo.toNat,.int .u64 x.rule.mat.care.hi.toNat,.int .u64 x.rule.mat.care.lo.toNat,.int .i64 x.rule.act.kind,.int .i64 x.rule.act.port,.int .i64 x.rule.act.table,.int .u64 x.rule.act.set.value.hi.toNat,.int .u64 x.rule.act.set.value.lo.toNat,.int .u64 x.rule.act.set.care.hi.toNat,.int .u64 x.rule.act.set.care.lo.toNat] 63):=⟨_,rfl⟩
 rw [<- hWe]
 have he:We.heap[W.heap.size]?=some (.cells #[.int .i64 x.sw,.int .i64 x.tab,.int .i64 x.at_,.bool x.gone,.int .i64 x.rule.prio,.int .u64 x.rule.mat.value.hi.toNat,.int .u64 x.rule.mat.value.lo.toNat,.int .u64 x.rule.mat.care.hi.toNat,.int .u64 x.rule.mat.care.lo.toNat,.int .i64 x.rule.act.kind,.int .i64 x.rule.act.port,.int .i64 x.rule.act.table,.int .u64 x.rule.act.set.value.hi.toNat,.int .u64 x.rule.act.set.value.lo.toNat,.int .u64 x.rule.act.set.care.hi.toNat,.int .u64 x.rule.act.set.care.lo.toNat] 63 (0,0)):=by rw [hWe];exact heap_alloc_new _ _
 have hk:Kp No W We:=by rw [hWe];exact (Kp.refl No W).alloc _
 have d0:We.cell? ⟨W.heap.size,0,none⟩=some (.int .i64 x.sw):=aa he rfl
 have d1:We.cell? ⟨W.heap.size,1,none⟩=some (.int .i64 x.tab):=aa he rfl
 have d2:We.cell? ⟨W.heap.size,2,none⟩=some (.int .i64 x.at_):=aa he rfl
 have d3:We.cell? ⟨W.heap.size,3,none⟩=some (.bool x.gone):=aa he rfl
 have Hk:=Lib.hid hk
 have ca:∀(a:Addr) (u:Value),W.cell? a=some u->We.cell? a=some u:=fun a u h=>(World.cell?_of_block (Hk.out.block a.block (block_lt_of_cell h) (az _))).trans h
 have p4':=ca _ _ p4
 clear hWe hk he p4 ca
 have z1:decide (x.sw<0)=true:=qF (by omega)
 go_quiet (fail)
 go_wp2_with fail
 all_goals (go_ret;exact ⟨rfl,(by repeat (first | exact Hk.out | refine Kp.drewN ?_ _))⟩)
theorem Dh (W:World) (bx:Nat) (tp pe wy tb:Value) (ten:Int) (x:Ed) (hb:W.heap[bx]?=some (.cells #[tp,.int .i64 ten,pe,wy,tb] 31 (0,0))) (A:Option Addr) (N c0:Nat) (ht:tb = .slice A N c0) (h0:0<=x.sw) (h1:(N:Int)<=x.sw):Calls Tryz.prog 63 #[.pointer (some ⟨bx,0,none⟩),vEd x] W fun e W'=>e = .returned (.int .i64 4)/\Kp No W W':=by
 have h6:vEd x = .agg #[.int .i64 x.sw,.int .i64 x.tab,.int .i64 x.at_,.bool x.gone,.int .i64 x.rule.prio,.int .u64 x.rule.mat.value.hi.toNat,.int .u64 x.rule.mat.value.lo.toNat,.int .u64 x.rule.mat.care.hi.toNat,.int .u64 x.rule.mat.care.lo.toNat,.int .i64 x.rule.act.kind,.int .i64 x.rule.act.port,.int .i64 x.rule.act.table,.int .u64 x.rule.act.set.value.hi.toNat,.int .u64 x.rule.act.set.value.lo.toNat,.int .u64 x.rule.act.set.care.hi.toNat,.int .u64 x.rule.act.set.care.lo.toNat]:=rfl
 rw [h6]
 clear h6
 have p4:W.cell? ⟨bx,4,none⟩=some tb:=aa hb rfl
 subst ht
 clear hb
 go_enter Tryz.func63,Tryz.ntmps63
 go_wp2_with fail
 obtain ⟨We,hWe⟩:∃We,We=W.alloc (.cells #[.int .i64 x.sw,.int .i64 x.tab,.int .i64 x.at_,.bool x.gone,.int .i64 x.rule.prio,.int .u64 x.rule.mat.value.hi.toNat,.int .u64 x.rule.mat.value.lo.toNat,.int .u64 x.rule.mat.care.hi.toNat,.int .u64 x.rule.mat.care.lo.toNat,.int .i64 x.rule.act.kind,.int .i64 x.rule.act.port,.int .i64 x.rule.act.table,.int .u64 x.rule.act.set.value.hi.toNat,.int .u64 x.rule.act.set.value.lo.toNat,.int .u64 x.rule.act.set.care.hi.toNat,.int .u64 x.rule.act.set.care.lo.toNat] 63):=⟨_,rfl⟩
 rw [<- hWe]
 have he:We.heap[W.heap.size]?=some (.cells #[.int .i64 x.sw,.int .i64 x.tab,.int .i64 x.at_,.bool x.gone,.int .i64 x.rule.prio,.int .u64 x.rule.mat.value.hi.toNat,.int .u64 x.rule.mat.value.lo.toNat,.int .u64 x.rule.mat.care.hi.toNat,.int .u64 x.rule.mat.care.lo.toNat,.int .i64 x.rule.act.kind,.int .i64 x.rule.act.port,.int .i64 x.rule.act.table,.int .u64 x.rule.act.set.value.hi.toNat,.int .u64 x.rule.act.set.value.lo.toNat,.int .u64 x.rule.act.set.care.hi.toNat,.int .u64 x.rule.act.set.care.lo.toNat] 63 (0,0)):=by rw [hWe];exact heap_alloc_new _ _
 have hk:Kp No W We:=by rw [hWe];exact (Kp.refl No W).alloc _
 have d0:We.cell? ⟨W.heap.size,0,none⟩=some (.int .i64 x.sw):=aa he rfl
 have d1:We.cell? ⟨W.heap.size,1,none⟩=some (.int .i64 x.tab):=aa he rfl
 have d2:We.cell? ⟨W.heap.size,2,none⟩=some (.int .i64 x.at_):=aa he rfl
 have d3:We.cell? ⟨W.heap.size,3,none⟩=some (.bool x.gone):=aa he rfl
 have Hk:=Lib.hid hk
 have ca:∀(a:Addr) (u:Value),W.cell? a=some u->We.cell? a=some u:=fun a u h=>(World.cell?_of_block (Hk.out.block a.block (block_lt_of_cell h) (az _))).trans h
 have p4':=ca _ _ p4
 clear hWe hk he p4 ca
 have z1:decide (x.sw<0)=false:=qC (by omega)
 have z2:decide ((N:Int)<=x.sw)=true:=qF (by omega)
 go_quiet (fail)
 go_wp2_with fail
 all_goals (go_ret;exact ⟨rfl,(by repeat (first | exact Hk.out | refine Kp.drewN ?_ _))⟩)
theorem BX (W:World) (bx:Nat) (tp pe wy tb:Value) (ten:Int) (x:Ed) (hb:W.heap[bx]?=some (.cells #[tp,.int .i64 ten,pe,wy,tb] 31 (0,0))) (b0 N c0 sw:Nat) (ht:tb = .slice (some ⟨b0,0,none⟩) N c0) (hs:x.sw=sw) (hlt:sw<N) (hN:N<=9223372036854775807) (A1:Option Addr) (M c1:Nat) (hm:W.cell? ⟨b0,sw,none⟩=some (.slice A1 M c1)) (h1:x.tab<0):Calls Tryz.prog 63 #[.pointer (some ⟨bx,0,none⟩),vEd x] W fun e W'=>e = .returned (.int .i64 4)/\Kp No W W':=by
 have h6:vEd x = .agg #[.int .i64 x.sw,.int .i64 x.tab,.int .i64 x.at_,.bool x.gone,.int .i64 x.rule.prio,.int .u64 x.rule.mat.value.hi.toNat,.int .u64 x.rule.mat.value.lo.toNat,.int .u64 x.rule.mat.care.hi.toNat,.int .u64 x.rule.mat.care.lo.toNat,.int .i64 x.rule.act.kind,.int .i64 x.rule.act.port,.int .i64 x.rule.act.table,.int .u64 x.rule.act.set.value.hi.toNat,.int .u64 x.rule.act.set.value.lo.toNat,.int .u64 x.rule.act.set.care.hi.toNat,.int .u64 x.rule.act.set.care.lo.toNat]:=rfl
 rw [h6]
 clear h6
 have p4:W.cell? ⟨bx,4,none⟩=some tb:=aa hb rfl
 subst ht
 rw [hs]
 have q1:(sw:Int)<(N:Int):=by omega
 clear hb
 go_enter Tryz.func63,Tryz.ntmps63
 go_wp2_with fail
 obtain ⟨We,hWe⟩:∃We,We=W.alloc (.cells #[.int .i64 (sw:Nat),.int .i64 x.tab,.int .i64 x.at_,.bool x.gone,.int .i64 x.rule.prio,.int .u64 x.rule.mat.value.hi.toNat,.int .u64 x.rule.mat.value.lo.toNat,.int .u64 x.rule.mat.care.hi.toNat,.int .u64 x.rule.mat.care.lo.toNat,.int .i64 x.rule.act.kind,.int .i64 x.rule.act.port,.int .i64 x.rule.act.table,.int .u64 x.rule.act.set.value.hi.toNat,.int .u64 x.rule.act.set.value.lo.toNat,.int .u64 x.rule.act.set.care.hi.toNat,.int .u64 x.rule.act.set.care.lo.toNat] 63):=⟨_,rfl⟩
 rw [<- hWe]
 have he:We.heap[W.heap.size]?=some (.cells #[.int .i64 (sw:Nat),.int .i64 x.tab,.int .i64 x.at_,.bool x.gone,.int .i64 x.rule.prio,.int .u64 x.rule.mat.value.hi.toNat,.int .u64 x.rule.mat.value.lo.toNat,.int .u64 x.rule.mat.care.hi.toNat,.int .u64 x.rule.mat.care.lo.toNat,.int .i64 x.rule.act.kind,.int .i64 x.rule.act.port,.int .i64 x.rule.act.table,.int .u64 x.rule.act.set.value.hi.toNat,.int .u64 x.rule.act.set.value.lo.toNat,.int .u64 x.rule.act.set.care.hi.toNat,.int .u64 x.rule.act.set.care.lo.toNat] 63 (0,0)):=by rw [hWe];exact heap_alloc_new _ _
 have hk:Kp No W We:=by rw [hWe];exact (Kp.refl No W).alloc _
 have d0:We.cell? ⟨W.heap.size,0,none⟩=some (.int .i64 (sw:Nat)):=aa he rfl
 have d1:We.cell? ⟨W.heap.size,1,none⟩=some (.int .i64 x.tab):=aa he rfl
 have d2:We.cell? ⟨W.heap.size,2,none⟩=some (.int .i64 x.at_):=aa he rfl
 have d3:We.cell? ⟨W.heap.size,3,none⟩=some (.bool x.gone):=aa he rfl
 have Hk:=Lib.hid hk
 have ca:∀(a:Addr) (u:Value),W.cell? a=some u->We.cell? a=some u:=fun a u h=>(World.cell?_of_block (Hk.out.block a.block (block_lt_of_cell h) (az _))).trans h
 have p4':=ca _ _ p4
 have hm':=ca _ _ hm
 clear hm
 clear hWe hk he p4 ca
 have z1:decide ((sw:Int)<0)=false:=qC (by omega)
 have z2:decide ((N:Int)<=(sw:Int))=false:=qC (by omega)
 have y2:decide (N<=sw)=false:=qC (by omega)
 have z3:decide (x.tab<0)=true:=qF (by omega)
 go_quiet (fail)
 go_wp2_with fail
 all_goals (go_ret;exact ⟨rfl,(by repeat (first | exact Hk.out | refine Kp.drewN ?_ _))⟩)
theorem Cg (W:World) (bx:Nat) (tp pe wy tb:Value) (ten:Int) (x:Ed) (hb:W.heap[bx]?=some (.cells #[tp,.int .i64 ten,pe,wy,tb] 31 (0,0))) (b0 N c0 sw:Nat) (ht:tb = .slice (some ⟨b0,0,none⟩) N c0) (hs:x.sw=sw) (hlt:sw<N) (hN:N<=9223372036854775807) (A1:Option Addr) (M c1:Nat) (hm:W.cell? ⟨b0,sw,none⟩=some (.slice A1 M c1)) (h0:0<=x.tab) (h1:(M:Int)<=x.tab):Calls Tryz.prog 63 #[.pointer (some ⟨bx,0,none⟩),vEd x] W fun e W'=>e = .returned (.int .i64 4)/\Kp No W W':=by
 have h6:vEd x = .agg #[.int .i64 x.sw,.int .i64 x.tab,.int .i64 x.at_,.bool x.gone,.int .i64 x.rule.prio,.int .u64 x.rule.mat.value.hi.toNat,.int .u64 x.rule.mat.value.lo.toNat,.int .u64 x.rule.mat.care.hi.toNat,.int .u64 x.rule.mat.care.lo.toNat,.int .i64 x.rule.act.kind,.int .i64 x.rule.act.port,.int .i64 x.rule.act.table,.int .u64 x.rule.act.set.value.hi.toNat,.int .u64 x.rule.act.set.value.lo.toNat,.int .u64 x.rule.act.set.care.hi.toNat,.int .u64 x.rule.act.set.care.lo.toNat]:=rfl
 rw [h6]
 clear h6
 have p4:W.cell? ⟨bx,4,none⟩=some tb:=aa hb rfl
 subst ht
 rw [hs]
 have q1:(sw:Int)<(N:Int):=by omega
 clear hb
 go_enter Tryz.func63,Tryz.ntmps63
 go_wp2_with fail
 obtain ⟨We,hWe⟩:∃We,We=W.alloc (.cells #[.int .i64 (sw:Nat),.int .i64 x.tab,.int .i64 x.at_,.bool x.gone,.int .i64 x.rule.prio,.int .u64 x.rule.mat.value.hi.toNat,.int .u64 x.rule.mat.value.lo.toNat,.int .u64 x.rule.mat.care.hi.toNat,.int .u64 x.rule.mat.care.lo.toNat,.int .i64 x.rule.act.kind,.int .i64 x.rule.act.port,.int .i64 x.rule.act.table,.int .u64 x.rule.act.set.value.hi.toNat,.int .u64 x.rule.act.set.value.lo.toNat,.int .u64 x.rule.act.set.care.hi.toNat,.int .u64 x.rule.act.set.care.lo.toNat] 63):=⟨_,rfl⟩
 rw [<- hWe]
 have he:We.heap[W.heap.size]?=some (.cells #[.int .i64 (sw:Nat),.int .i64 x.tab,.int .i64 x.at_,.bool x.gone,.int .i64 x.rule.prio,.int .u64 x.rule.mat.value.hi.toNat,.int .u64 x.rule.mat.value.lo.toNat,.int .u64 x.rule.mat.care.hi.toNat,.int .u64 x.rule.mat.care.lo.toNat,.int .i64 x.rule.act.kind,.int .i64 x.rule.act.port,.int .i64 x.rule.act.table,.int .u64 x.rule.act.set.value.hi.toNat,.int .u64 x.rule.act.set.value.lo.toNat,.int .u64 x.rule.act.set.care.hi.toNat,.int .u64 x.rule.act.set.care.lo.toNat] 63 (0,0)):=by rw [hWe];exact heap_alloc_new _ _
 have hk:Kp No W We:=by rw [hWe];exact (Kp.refl No W).alloc _
 have d0:We.cell? ⟨W.heap.size,0,none⟩=some (.int .i64 (sw:Nat)):=aa he rfl
 have d1:We.cell? ⟨W.heap.size,1,none⟩=some (.int .i64 x.tab):=aa he rfl
 have d2:We.cell? ⟨W.heap.size,2,none⟩=some (.int .i64 x.at_):=aa he rfl
 have d3:We.cell? ⟨W.heap.size,3,none⟩=some (.bool x.gone):=aa he rfl
 have Hk:=Lib.hid hk
 have ca:∀(a:Addr) (u:Value),W.cell? a=some u->We.cell? a=some u:=fun a u h=>(World.cell?_of_block (Hk.out.block a.block (block_lt_of_cell h) (az _))).trans h
 have p4':=ca _ _ p4
 have hm':=ca _ _ hm
 clear hm
 clear hWe hk he p4 ca
 have z1:decide ((sw:Int)<0)=false:=qC (by omega)
 have z2:decide ((N:Int)<=(sw:Int))=false:=qC (by omega)
 have y2:decide (N<=sw)=false:=qC (by omega)
 have z3:decide (x.tab<0)=false:=qC (by omega)
 have z4:decide ((M:Int)<=x.tab)=true:=qF (by omega)
 go_quiet (fail)
 go_wp2_with fail
 all_goals (go_ret;exact ⟨rfl,(by repeat (first | exact Hk.out | refine Kp.drewN ?_ _))⟩)
theorem Cp (W:World) (bx:Nat) (tp pe wy tb:Value) (ten:Int) (x:Ed) (hb:W.heap[bx]?=some (.cells #[tp,.int .i64 ten,pe,wy,tb] 31 (0,0))) (b0 N c0 sw:Nat) (ht:tb = .slice (some ⟨b0,0,none⟩) N c0) (hs:x.sw=sw) (hlt:sw<N) (hN:N<=9223372036854775807) (b1 M c1 tab:Nat) (hm:W.cell? ⟨b0,sw,none⟩=some (.slice (some ⟨b1,0,none⟩) M c1)) (hs2:x.tab=tab) (hlt2:tab<M) (hM:M<=9223372036854775807) (A:Option Addr) (n c:Nat) (hl:W.cell? ⟨b1,tab,none⟩=some (.slice A n c)) (hn:n<=9223372036854775807) (h1:x.at_<0):Calls Tryz.prog 63 #[.pointer (some ⟨bx,0,none⟩),vEd x] W fun e W'=>e = .returned (.int .i64 4)/\Kp No W W':=by
 have h6:vEd x = .agg #[.int .i64 x.sw,.int .i64 x.tab,.int .i64 x.at_,.bool x.gone,.int .i64 x.rule.prio,.int .u64 x.rule.mat.value.hi.toNat,.int .u64 x.rule.mat.value.lo.toNat,.int .u64 x.rule.mat.care.hi.toNat,.int .u64 x.rule.mat.care.lo.toNat,.int .i64 x.rule.act.kind,.int .i64 x.rule.act.port,.int .i64 x.rule.act.table,.int .u64 x.rule.act.set.value.hi.toNat,.int .u64 x.rule.act.set.value.lo.toNat,.int .u64 x.rule.act.set.care.hi.toNat,.int .u64 x.rule.act.set.care.lo.toNat]:=rfl
 rw [h6]
 clear h6
 have p4:W.cell? ⟨bx,4,none⟩=some tb:=aa hb rfl
 subst ht
 rw [hs]
 have q1:(sw:Int)<(N:Int):=by omega
 rw [hs2]
 have q2:(tab:Int)<(M:Int):=by omega
 clear hb
 go_enter Tryz.func63,Tryz.ntmps63
 go_wp2_with fail
 obtain ⟨We,hWe⟩:∃We,We=W.alloc (.cells #[.int .i64 (sw:Nat),.int .i64 (tab:Nat),.int .i64 x.at_,.bool x.gone,.int .i64 x.rule.prio,.int .u64 x.rule.mat.value.hi.toNat,.int .u64 x.rule.mat.value.lo.toNat,.int .u64 x.rule.mat.care.hi.toNat,.int .u64 x.rule.mat.care.lo.toNat,.int .i64 x.rule.act.kind,.int .i64 x.rule.act.port,.int .i64 x.rule.act.table,.int .u64 x.rule.act.set.value.hi.toNat,.int .u64 x.rule.act.set.value.lo.toNat,.int .u64 x.rule.act.set.care.hi.toNat,.int .u64 x.rule.act.set.care.lo.toNat] 63):=⟨_,rfl⟩
 rw [<- hWe]
 have he:We.heap[W.heap.size]?=some (.cells #[.int .i64 (sw:Nat),.int .i64 (tab:Nat),.int .i64 x.at_,.bool x.gone,.int .i64 x.rule.prio,.int .u64 x.rule.mat.value.hi.toNat,.int .u64 x.rule.mat.value.lo.toNat,.int .u64 x.rule.mat.care.hi.toNat,.int .u64 x.rule.mat.care.lo.toNat,.int .i64 x.rule.act.kind,.int .i64 x.rule.act.port,.int .i64 x.rule.act.table,.int .u64 x.rule.act.set.value.hi.toNat,.int .u64 x.rule.act.set.value.lo.toNat,.int .u64 x.rule.act.set.care.hi.toNat,.int .u64 x.rule.act.set.care.lo.toNat] 63 (0,0)):=by rw [hWe];exact heap_alloc_new _ _
 have hk:Kp No W We:=by rw [hWe];exact (Kp.refl No W).alloc _
 have d0:We.cell? ⟨W.heap.size,0,none⟩=some (.int .i64 (sw:Nat)):=aa he rfl
 have d1:We.cell? ⟨W.heap.size,1,none⟩=some (.int .i64 (tab:Nat)):=aa he rfl
 have d2:We.cell? ⟨W.heap.size,2,none⟩=some (.int .i64 x.at_):=aa he rfl
 have d3:We.cell? ⟨W.heap.size,3,none⟩=some (.bool x.gone):=aa he rfl
 have Hk:=Lib.hid hk
 have ca:∀(a:Addr) (u:Value),W.cell? a=some u->We.cell? a=some u:=fun a u h=>(World.cell?_of_block (Hk.out.block a.block (block_lt_of_cell h) (az _))).trans h
 have p4':=ca _ _ p4
 have hm':=ca _ _ hm
 have hl':=ca _ _ hl
 clear hm hl
 clear hWe hk he p4 ca
 have z1:decide ((sw:Int)<0)=false:=qC (by omega)
 have z2:decide ((N:Int)<=(sw:Int))=false:=qC (by omega)
 have y2:decide (N<=sw)=false:=qC (by omega)
 have z3:decide ((tab:Int)<0)=false:=qC (by omega)
 have z4:decide ((M:Int)<=(tab:Int))=false:=qC (by omega)
 have y4:decide (M<=tab)=false:=qC (by omega)
 have z5:decide (x.at_<0)=true:=qF (by omega)
 go_quiet (fail)
 go_wp2_with fail
 go_quiet (fail)
 go_wp2_with fail
 go_quiet (fail)
 go_wp2_with fail
 all_goals (go_ret;exact ⟨rfl,(by repeat (first | exact Hk.out | refine Kp.drewN ?_ _))⟩)
theorem Cc (W:World) (bx:Nat) (tp pe wy tb:Value) (ten:Int) (x:Ed) (hb:W.heap[bx]?=some (.cells #[tp,.int .i64 ten,pe,wy,tb] 31 (0,0))) (b0 N c0 sw:Nat) (ht:tb = .slice (some ⟨b0,0,none⟩) N c0) (hs:x.sw=sw) (hlt:sw<N) (hN:N<=9223372036854775807) (b1 M c1 tab:Nat) (hm:W.cell? ⟨b0,sw,none⟩=some (.slice (some ⟨b1,0,none⟩) M c1)) (hs2:x.tab=tab) (hlt2:tab<M) (hM:M<=9223372036854775807) (A:Option Addr) (n c:Nat) (hl:W.cell? ⟨b1,tab,none⟩=some (.slice A n c)) (hn:n<=9223372036854775807) (h0:0<=x.at_) (h1:(n:Int)<x.at_):Calls Tryz.prog 63 #[.pointer (some ⟨bx,0,none⟩),vEd x] W fun e W'=>e = .returned (.int .i64 4)/\Kp No W W':=by
 have h6:vEd x = .agg #[.int .i64 x.sw,.int .i64 x.tab,.int .i64 x.at_,.bool x.gone,.int .i64 x.rule.prio,.int .u64 x.rule.mat.value.hi.toNat,.int .u64 x.rule.mat.value.lo.toNat,.int .u64 x.rule.mat.care.hi.toNat,.int .u64 x.rule.mat.care.lo.toNat,.int .i64 x.rule.act.kind,.int .i64 x.rule.act.port,.int .i64 x.rule.act.table,.int .u64 x.rule.act.set.value.hi.toNat,.int .u64 x.rule.act.set.value.lo.toNat,.int .u64 x.rule.act.set.care.hi.toNat,.int .u64 x.rule.act.set.care.lo.toNat]:=rfl
 rw [h6]
 clear h6
 have p4:W.cell? ⟨bx,4,none⟩=some tb:=aa hb rfl
 subst ht
 rw [hs]
 have q1:(sw:Int)<(N:Int):=by omega
 rw [hs2]
 have q2:(tab:Int)<(M:Int):=by omega
 clear hb
 go_enter Tryz.func63,Tryz.ntmps63
 go_wp2_with fail
 obtain ⟨We,hWe⟩:∃We,We=W.alloc (.cells #[.int .i64 (sw:Nat),.int .i64 (tab:Nat),.int .i64 x.at_,.bool x.gone,.int .i64 x.rule.prio,.int .u64 x.rule.mat.value.hi.toNat,.int .u64 x.rule.mat.value.lo.toNat,.int .u64 x.rule.mat.care.hi.toNat,.int .u64 x.rule.mat.care.lo.toNat,.int .i64 x.rule.act.kind,.int .i64 x.rule.act.port,.int .i64 x.rule.act.table,.int .u64 x.rule.act.set.value.hi.toNat,.int .u64 x.rule.act.set.value.lo.toNat,.int .u64 x.rule.act.set.care.hi.toNat,.int .u64 x.rule.act.set.care.lo.toNat] 63):=⟨_,rfl⟩
 rw [<- hWe]
 have he:We.heap[W.heap.size]?=some (.cells #[.int .i64 (sw:Nat),.int .i64 (tab:Nat),.int .i64 x.at_,.bool x.gone,.int .i64 x.rule.prio,.int .u64 x.rule.mat.value.hi.toNat,.int .u64 x.rule.mat.value.lo.toNat,.int .u64 x.rule.mat.care.hi.toNat,.int .u64 x.rule.mat.care.lo.toNat,.int .i64 x.rule.act.kind,.int .i64 x.rule.act.port,.int .i64 x.rule.act.table,.int .u64 x.rule.act.set.value.hi.toNat,.int .u64 x.rule.act.set.value.lo.toNat,.int .u64 x.rule.act.set.care.hi.toNat,.int .u64 x.rule.act.set.care.lo.toNat] 63 (0,0)):=by rw [hWe];exact heap_alloc_new _ _
 have hk:Kp No W We:=by rw [hWe];exact (Kp.refl No W).alloc _
 have d0:We.cell? ⟨W.heap.size,0,none⟩=some (.int .i64 (sw:Nat)):=aa he rfl
 have d1:We.cell? ⟨W.heap.size,1,none⟩=some (.int .i64 (tab:Nat)):=aa he rfl
 have d2:We.cell? ⟨W.heap.size,2,none⟩=some (.int .i64 x.at_):=aa he rfl
 have d3:We.cell? ⟨W.heap.size,3,none⟩=some (.bool x.gone):=aa he rfl
 have Hk:=Lib.hid hk
 have ca:∀(a:Addr) (u:Value),W.cell? a=some u->We.cell? a=some u:=fun a u h=>(World.cell?_of_block (Hk.out.block a.block (block_lt_of_cell h) (az _))).trans h
 have p4':=ca _ _ p4
 have hm':=ca _ _ hm
 have hl':=ca _ _ hl
 clear hm hl
 clear hWe hk he p4 ca
 have z1:decide ((sw:Int)<0)=false:=qC (by omega)
 have z2:decide ((N:Int)<=(sw:Int))=false:=qC (by omega)
 have y2:decide (N<=sw)=false:=qC (by omega)
 have z3:decide ((tab:Int)<0)=false:=qC (by omega)
 have z4:decide ((M:Int)<=(tab:Int))=false:=qC (by omega)
 have y4:decide (M<=tab)=false:=qC (by omega)
 have z5:decide (x.at_<0)=false:=qC (by omega)
 have z6:decide ((n:Int)<x.at_)=true:=qF (by omega)
 go_quiet (fail)
 go_wp2_with fail
 go_quiet (fail)
 go_wp2_with fail
 go_quiet (fail)
 go_wp2_with fail
 all_goals (go_ret;exact ⟨rfl,(by repeat (first | exact Hk.out | refine Kp.drewN ?_ _))⟩)
theorem CZ (W:World) (bx:Nat) (tp pe wy tb:Value) (ten:Int) (x:Ed) (hb:W.heap[bx]?=some (.cells #[tp,.int .i64 ten,pe,wy,tb] 31 (0,0))) (b0 N c0 sw:Nat) (ht:tb = .slice (some ⟨b0,0,none⟩) N c0) (hs:x.sw=sw) (hlt:sw<N) (hN:N<=9223372036854775807) (b1 M c1 tab:Nat) (hm:W.cell? ⟨b0,sw,none⟩=some (.slice (some ⟨b1,0,none⟩) M c1)) (hs2:x.tab=tab) (hlt2:tab<M) (hM:M<=9223372036854775807) (A:Option Addr) (n c:Nat) (hl:W.cell? ⟨b1,tab,none⟩=some (.slice A n c)) (hn:n<=9223372036854775807) (h1:x.at_=n) (h2:x.gone=true):Calls Tryz.prog 63 #[.pointer (some ⟨bx,0,none⟩),vEd x] W fun e W'=>e = .returned (.int .i64 4)/\Kp No W W':=by
 have h6:vEd x = .agg #[.int .i64 x.sw,.int .i64 x.tab,.int .i64 x.at_,.bool x.gone,.int .i64 x.rule.prio,.int .u64 x.rule.mat.value.hi.toNat,.int .u64 x.rule.mat.value.lo.toNat,.int .u64 x.rule.mat.care.hi.toNat,.int .u64 x.rule.mat.care.lo.toNat,.int .i64 x.rule.act.kind,.int .i64 x.rule.act.port,.int .i64 x.rule.act.table,.int .u64 x.rule.act.set.value.hi.toNat,.int .u64 x.rule.act.set.value.lo.toNat,.int .u64 x.rule.act.set.care.hi.toNat,.int .u64 x.rule.act.set.care.lo.toNat]:=rfl
 rw [h6]
 clear h6
 have p4:W.cell? ⟨bx,4,none⟩=some tb:=aa hb rfl
 subst ht
 rw [hs]
 have q1:(sw:Int)<(N:Int):=by omega
 rw [hs2]
 have q2:(tab:Int)<(M:Int):=by omega
 rw [h1,h2]
 clear hb
 go_enter Tryz.func63,Tryz.ntmps63
 go_wp2_with fail
 obtain ⟨We,hWe⟩:∃We,We=W.alloc (.cells #[.int .i64 (sw:Nat),.int .i64 (tab:Nat),.int .i64 (n:Nat),.bool true,.int .i64 x.rule.prio,.int .u64 x.rule.mat.value.hi.toNat,.int .u64 x.rule.mat.value.lo.toNat,.int .u64 x.rule.mat.care.hi.toNat,.int .u64 x.rule.mat.care.lo.toNat,.int .i64 x.rule.act.kind,.int .i64 x.rule.act.port,.int .i64 x.rule.act.table,.int .u64 x.rule.act.set.value.hi.toNat,.int .u64 x.rule.act.set.value.lo.toNat,.int .u64 x.rule.act.set.care.hi.toNat,.int .u64 x.rule.act.set.care.lo.toNat] 63):=⟨_,rfl⟩
 rw [<- hWe]
 have he:We.heap[W.heap.size]?=some (.cells #[.int .i64 (sw:Nat),.int .i64 (tab:Nat),.int .i64 (n:Nat),.bool true,.int .i64 x.rule.prio,.int .u64 x.rule.mat.value.hi.toNat,.int .u64 x.rule.mat.value.lo.toNat,.int .u64 x.rule.mat.care.hi.toNat,.int .u64 x.rule.mat.care.lo.toNat,.int .i64 x.rule.act.kind,.int .i64 x.rule.act.port,.int .i64 x.rule.act.table,.int .u64 x.rule.act.set.value.hi.toNat,.int .u64 x.rule.act.set.value.lo.toNat,.int .u64 x.rule.act.set.care.hi.toNat,.int .u64 x.rule.act.set.care.lo.toNat] 63 (0,0)):=by rw [hWe];exact heap_alloc_new _ _
 have hk:Kp No W We:=by rw [hWe];exact (Kp.refl No W).alloc _
 have d0:We.cell? ⟨W.heap.size,0,none⟩=some (.int .i64 (sw:Nat)):=aa he rfl
 have d1:We.cell? ⟨W.heap.size,1,none⟩=some (.int .i64 (tab:Nat)):=aa he rfl
 have d2:We.cell? ⟨W.heap.size,2,none⟩=some (.int .i64 (n:Nat)):=aa he rfl
 have d3:We.cell? ⟨W.heap.size,3,none⟩=some (.bool true):=aa he rfl
 have Hk:=Lib.hid hk
 have ca:∀(a:Addr) (u:Value),W.cell? a=some u->We.cell? a=some u:=fun a u h=>(World.cell?_of_block (Hk.out.block a.block (block_lt_of_cell h) (az _))).trans h
 have p4':=ca _ _ p4
 have hm':=ca _ _ hm
 have hl':=ca _ _ hl
 clear hm hl
 clear hWe hk he p4 ca
 have z1:decide ((sw:Int)<0)=false:=qC (by omega)
 have z2:decide ((N:Int)<=(sw:Int))=false:=qC (by omega)
 have y2:decide (N<=sw)=false:=qC (by omega)
 have z3:decide ((tab:Int)<0)=false:=qC (by omega)
 have z4:decide ((M:Int)<=(tab:Int))=false:=qC (by omega)
 have y4:decide (M<=tab)=false:=qC (by omega)
 have z5:decide ((n:Int)<0)=false:=qC (by omega)
 have z6:decide ((n:Int)<(n:Int))=false:=qC (by omega)
 go_quiet (fail)
 go_wp2_with fail
 go_quiet (fail)
 go_wp2_with fail
 go_quiet (fail)
 go_wp2_with fail
 all_goals (go_ret;exact ⟨rfl,(by repeat (first | exact Hk.out | refine Kp.drewN ?_ _))⟩)
theorem Bt (W:World) (bx:Nat) (tp pe wy tb:Value) (ten:Int) (x:Ed) (hb:W.heap[bx]?=some (.cells #[tp,.int .i64 ten,pe,wy,tb] 31 (0,0))) (b0 N c0 sw:Nat) (ht:tb = .slice (some ⟨b0,0,none⟩) N c0) (hs:x.sw=sw) (hlt:sw<N) (hN:N<=9223372036854775807) (b1 M c1 tab:Nat) (hm:W.cell? ⟨b0,sw,none⟩=some (.slice (some ⟨b1,0,none⟩) M c1)) (hs2:x.tab=tab) (hlt2:tab<M) (hM:M<=9223372036854775807) (A:Option Addr) (n c:Nat) (hl:W.cell? ⟨b1,tab,none⟩=some (.slice A n c)) (hn:n<=9223372036854775807) (at_:Nat) (h1:x.at_=at_) (h2:x.gone=true) (h3:at_<n) (h4:x.rule≠Rl.zero):Calls Tryz.prog 63 #[.pointer (some ⟨bx,0,none⟩),vEd x] W fun e W'=>e = .returned (.int .i64 1)/\Kp No W W':=by
 have h6:vEd x = .agg #[.int .i64 x.sw,.int .i64 x.tab,.int .i64 x.at_,.bool x.gone,.int .i64 x.rule.prio,.int .u64 x.rule.mat.value.hi.toNat,.int .u64 x.rule.mat.value.lo.toNat,.int .u64 x.rule.mat.care.hi.toNat,.int .u64 x.rule.mat.care.lo.toNat,.int .i64 x.rule.act.kind,.int .i64 x.rule.act.port,.int .i64 x.rule.act.table,.int .u64 x.rule.act.set.value.hi.toNat,.int .u64 x.rule.act.set.value.lo.toNat,.int .u64 x.rule.act.set.care.hi.toNat,.int .u64 x.rule.act.set.care.lo.toNat]:=rfl
 rw [h6]
 clear h6
 have p4:W.cell? ⟨bx,4,none⟩=some tb:=aa hb rfl
 subst ht
 rw [hs]
 have q1:(sw:Int)<(N:Int):=by omega
 rw [hs2]
 have q2:(tab:Int)<(M:Int):=by omega
 rw [h1,h2]
 clear hb
 go_enter Tryz.func63,Tryz.ntmps63
 go_wp2_with fail
 obtain ⟨We,hWe⟩:∃We,We=W.alloc (.cells #[.int .i64 (sw:Nat),.int .i64 (tab:Nat),.int .i64 (at_:Nat),.bool true,.int .i64 x.rule.prio,.int .u64 x.rule.mat.value.hi.toNat,.int .u64 x.rule.mat.value.lo.toNat,.int .u64 x.rule.mat.care.hi.toNat,.int .u64 x.rule.mat.care.lo.toNat,.int .i64 x.rule.act.kind,.int .i64 x.rule.act.port,.int .i64 x.rule.act.table,.int .u64 x.rule.act.set.value.hi.toNat,.int .u64 x.rule.act.set.value.lo.toNat,.int .u64 x.rule.act.set.care.hi.toNat,.int .u64 x.rule.act.set.care.lo.toNat] 63):=⟨_,rfl⟩
 rw [<- hWe]
 have he:We.heap[W.heap.size]?=some (.cells #[.int .i64 (sw:Nat),.int .i64 (tab:Nat),.int .i64 (at_:Nat),.bool true,.int .i64 x.rule.prio,.int .u64 x.rule.mat.value.hi.toNat,.int .u64 x.rule.mat.value.lo.toNat,.int .u64 x.rule.mat.care.hi.toNat,.int .u64 x.rule.mat.care.lo.toNat,.int .i64 x.rule.act.kind,.int .i64 x.rule.act.port,.int .i64 x.rule.act.table,.int .u64 x.rule.act.set.value.hi.toNat,.int .u64 x.rule.act.set.value.lo.toNat,.int .u64 x.rule.act.set.care.hi.toNat,.int .u64 x.rule.act.set.care.lo.toNat] 63 (0,0)):=by rw [hWe];exact heap_alloc_new _ _
 have hk:Kp No W We:=by rw [hWe];exact (Kp.refl No W).alloc _
 have d0:We.cell? ⟨W.heap.size,0,none⟩=some (.int .i64 (sw:Nat)):=aa he rfl
 have d1:We.cell? ⟨W.heap.size,1,none⟩=some (.int .i64 (tab:Nat)):=aa he rfl
 have d2:We.cell? ⟨W.heap.size,2,none⟩=some (.int .i64 (at_:Nat)):=aa he rfl
 have d3:We.cell? ⟨W.heap.size,3,none⟩=some (.bool true):=aa he rfl
 have d4:We.cell? ⟨W.heap.size,4,none⟩=some (.int .i64 x.rule.prio):=aa he rfl
 have d5:We.cell? ⟨W.heap.size,5,none⟩=some (.int .u64 x.rule.mat.value.hi.toNat):=aa he rfl
 have d6:We.cell? ⟨W.heap.size,6,none⟩=some (.int .u64 x.rule.mat.value.lo.toNat):=aa he rfl
 have d7:We.cell? ⟨W.heap.size,7,none⟩=some (.int .u64 x.rule.mat.care.hi.toNat):=aa he rfl
 have d8:We.cell? ⟨W.heap.size,8,none⟩=some (.int .u64 x.rule.mat.care.lo.toNat):=aa he rfl
 have d9:We.cell? ⟨W.heap.size,9,none⟩=some (.int .i64 x.rule.act.kind):=aa he rfl
 have d10:We.cell? ⟨W.heap.size,10,none⟩=some (.int .i64 x.rule.act.port):=aa he rfl
 have d11:We.cell? ⟨W.heap.size,11,none⟩=some (.int .i64 x.rule.act.table):=aa he rfl
 have d12:We.cell? ⟨W.heap.size,12,none⟩=some (.int .u64 x.rule.act.set.value.hi.toNat):=aa he rfl
 have d13:We.cell? ⟨W.heap.size,13,none⟩=some (.int .u64 x.rule.act.set.value.lo.toNat):=aa he rfl
 have d14:We.cell? ⟨W.heap.size,14,none⟩=some (.int .u64 x.rule.act.set.care.hi.toNat):=aa he rfl
 have d15:We.cell? ⟨W.heap.size,15,none⟩=some (.int .u64 x.rule.act.set.care.lo.toNat):=aa he rfl
 have Hk:=Lib.hid hk
 have ca:∀(a:Addr) (u:Value),W.cell? a=some u->We.cell? a=some u:=fun a u h=>(World.cell?_of_block (Hk.out.block a.block (block_lt_of_cell h) (az _))).trans h
 have p4':=ca _ _ p4
 have hm':=ca _ _ hm
 have hl':=ca _ _ hl
 clear hm hl
 clear hWe hk he p4 ca
 have z1:decide ((sw:Int)<0)=false:=qC (by omega)
 have z2:decide ((N:Int)<=(sw:Int))=false:=qC (by omega)
 have y2:decide (N<=sw)=false:=qC (by omega)
 have z3:decide ((tab:Int)<0)=false:=qC (by omega)
 have z4:decide ((M:Int)<=(tab:Int))=false:=qC (by omega)
 have y4:decide (M<=tab)=false:=qC (by omega)
 have z5:decide ((at_:Int)<0)=false:=qC (by omega)
 have z6:decide ((n:Int)<(at_:Int))=false:=qC (by omega)
 have y6:decide (n<at_)=false:=qC (by omega)
 have z7:decide ((at_:Int)=(n:Int))=false:=qC (by omega)
 go_quiet (fail)
 go_wp2_with fail
 go_quiet (fail)
 go_wp2_with fail
 go_quiet (fail)
 go_wp2_with fail
 all_goals first | exact absurd (Cv (by assumption) (by assumption) (by assumption) (by assumption) (by assumption) (by assumption) (by assumption) (by assumption) (by assumption) (by assumption) (by assumption) (by assumption)) h4 | skip
 all_goals (go_ret;exact ⟨rfl,(by repeat (first | exact Hk.out | refine Kp.drewN ?_ _))⟩)
theorem Fn (x:Ed) (t:bW) (l:List Rl) (hl:fq t x=some l) (h0:0<=x.at_) (h1:x.at_<=l.length) (hg:x.gone=false) (hsm:l.length<=1000000000):pM x t:=by
 intro W bx tp pe wy tb ten bs hb hq hn hbx hlen
 obtain ⟨sw,tab,m,e1,e2,g1,g2⟩:=de hl
 have ho:bM t x=(0,t.set sw (m.set tab (l.insertIdx x.at_.toNat x.rule))):=by
  unfold bM
  simp only [hl]
  rw [if_neg (by rintro (h | h | ⟨h,_⟩) <;> first | omega | (rw [hg] at h;cases h)),if_neg (by rw [hg];decide),kz e1 e2 g1]
 have hv:vEd x=zEd sw tab (x.at_.toNat:Nat) false x.rule:=by
  unfold vEd
  rw [e1,e2,hg,Int.toNat_of_nonneg h0]
 obtain ⟨b0,c0,b1,c1,cur1,v,lb,rfl,hm,hh1,hc1,hlq,hlb,ht,hml,hb1,hb1l,hls,hset⟩:=fp.at hq hn g1 g2
 obtain ⟨A,c,rfl⟩:=hlq.form
 rw [ho,hv]
 unfold maxLen at ht hml
 refine (EF W bx tp pe wy _ ten b0 c0 t.length sw b1 c1 m.length tab x.at_.toNat _ A l.length c cur1 l lb hlq rfl ⟨hb,rfl,hm,hh1,hc1,rfl⟩ (qD.1 g1).1 (qD.1 g2).1 (by omega) (by omega) (by omega) hsm hb1l x.rule).mono ?_
 rintro e W' ⟨rfl,v',W1,⟨lb',hl1,hk1,hn1⟩,rfl⟩
 refine ⟨rfl,?_,fun _=>?_⟩
 ·exact (hk1.mono fun z _ hz=>hls z hz).setCell (p:=⟨b1,tab,none⟩) (.inl hb1) v'
 ·exact hset W1 _ v' lb' hl1 hl1.nodup hn1 hk1
theorem pC {x:Ed} {t:bW} {e:Int} (he:(bM t x).1=e) (hne:e≠0) (h:∀(W:World) (bx:Nat) (tp pe wy tb:Value) (ten:Int) (bs:List Nat),W.heap[bx]?=some (.cells #[tp,.int .i64 ten,pe,wy,tb] 31 (0,0))->fp W t tb bs->bs.Nodup->Calls Tryz.prog 63 #[.pointer (some ⟨bx,0,none⟩),vEd x] W fun e' W'=>e' = .returned (.int .i64 e)/\Kp No W W'):pM x t:=by
 intro W bx tp pe wy tb ten bs hb hq hn hbx hlen
 refine (h W bx tp pe wy tb ten bs hb hq hn).mono ?_
 rintro e' W' ⟨rfl,hk⟩
 exact ⟨by rw [he],hk.mono fun _ _ h=>h.elim,fun h0=>absurd (he.symm.trans h0) hne⟩
theorem xG {x:Ed} {t:bW} (h:fq t x=none):(bM t x).1=4:=by
 unfold bM
 simp only [h]
theorem te {x:Ed} {t:bW} {l:List Rl} (h:fq t x=some l) (hr:x.at_<0\/(l.length:Int)<x.at_\/(x.gone=true/\x.at_=l.length)):(bM t x).1=4:=by
 unfold bM
 simp only [h]
 rw [if_pos hr]
theorem zd {x:Ed} {t:bW} {l:List Rl} (h:fq t x=some l) (hr:¬(x.at_<0\/(l.length:Int)<x.at_\/(x.gone=true/\x.at_=l.length))) (hg:x.gone=true) (hz:x.rule≠Rl.zero):(bM t x).1=1:=by
 unfold bM
 simp only [h]
 rw [if_neg hr,if_pos hg,if_neg hz]
theorem yR (x:Ed) (t:bW) (hsm:∀m∈t,∀l∈m,l.length<=1000000000):pM x t:=by
 cases hl:fq t x with
 | none =>
  refine pC (xG hl) (by decide) fun W bx tp pe wy tb ten bs hb hq hn=>?_
  rcases Int.lt_or_le x.sw 0 with s0 | s0
  ·exact CR W bx tp pe wy tb ten x hb s0
  ·obtain ⟨A,c0,rfl,_,_⟩:=hq.form
   rcases Int.lt_or_le x.sw t.length with s1 | s1
   ·obtain ⟨sw,hs⟩:∃sw:Nat,x.sw=sw:=⟨x.sw.toNat,by omega⟩
    have hlt:sw<t.length:=by omega
    have g1:t[sw]?=some t[sw]:=qA hlt
    obtain ⟨b0,c0',cur0,u0,mb,e0,hh0,hc0,hm,ht,_⟩:=bY.at hq hn g1 fun W' x v bs=>eT.keep
    obtain ⟨A1,c1,rfl,_,_⟩:=hm.form
    injection e0 with e1 _ e2
    subst e1 e2
    unfold maxLen at ht
    rcases Int.lt_or_le x.tab 0 with a0 | a0
    ·exact BX W bx tp pe wy _ ten x hb b0 t.length c0 sw rfl hs hlt (by omega) A1 t[sw].length c1 (aa hh0 hc0) a0
    ·rcases Int.lt_or_le x.tab t[sw].length with a1 | a1
     ·exfalso
      have h2:x.tab.toNat<t[sw].length:=by omega
      unfold fq at hl
      rw [if_neg (by omega),hs,vQ,g1,Option.bind_some,qA h2] at hl
      cases hl
     ·exact Cg W bx tp pe wy _ ten x hb b0 t.length c0 sw rfl hs hlt (by omega) A1 t[sw].length c1 (aa hh0 hc0) a0 a1
   ·exact Dh W bx tp pe wy _ ten x hb A t.length c0 rfl s0 s1
 | some l =>
  by_cases hr:x.at_<0\/(l.length:Int)<x.at_\/(x.gone=true/\x.at_=l.length)
  ·refine pC (te hl hr) (by decide) fun W bx tp pe wy tb ten bs hb hq hn=>?_
   obtain ⟨sw,tab,m,e1,e2,g1,g2⟩:=de hl
   obtain ⟨b0,c0,b1,c1,cur1,v,lb,rfl,hm,hh1,hc1,hlq,hlb,ht,hml,_⟩:=fp.at hq hn g1 g2
   obtain ⟨A,c,rfl⟩:=hlq.form
   unfold maxLen at ht hml
   have hsl:=hsm m (qP g1) l (qP g2)
   have l1:=(qD.1 g1).1
   have l2:=(qD.1 g2).1
   by_cases r1:x.at_<0
   ·exact Cp W bx tp pe wy _ ten x hb b0 t.length c0 sw rfl e1 l1 (by omega) b1 m.length c1 tab hm e2 l2 (by omega) A l.length c (aa hh1 hc1) (by omega) r1
   ·by_cases r2:(l.length:Int)<x.at_
    ·exact Cc W bx tp pe wy _ ten x hb b0 t.length c0 sw rfl e1 l1 (by omega) b1 m.length c1 tab hm e2 l2 (by omega) A l.length c (aa hh1 hc1) (by omega) (by omega) r2
    ·obtain ⟨r3,r4⟩:=(hr.resolve_left r1).resolve_left r2
     exact CZ W bx tp pe wy _ ten x hb b0 t.length c0 sw rfl e1 l1 (by omega) b1 m.length c1 tab hm e2 l2 (by omega) A l.length c (aa hh1 hc1) (by omega) r4 r3
  ·have r1 : 0 <= x.at_ := by
    rcases Int.lt_or_le x.at_ 0 with h | h
    ·exact absurd (.inl h) hr
    ·exact h
   have r2:x.at_<=l.length:=by
    rcases Int.lt_or_le (l.length:Int) x.at_ with h | h
    ·exact absurd (.inr (.inl h)) hr
    ·exact h
   cases hg:x.gone with
   | false =>
    obtain ⟨sw,tab,m,e1,e2,g1,g2⟩:=de hl
    exact Fn x t l hl r1 r2 hg (hsm m (qP g1) l (qP g2))
   | true =>
    have r3:x.at_<l.length:=by
     rcases Int.lt_or_le x.at_ l.length with h | h
     ·exact h
     ·exact absurd (.inr (.inr ⟨hg,by omega⟩)) hr
    by_cases hz:x.rule=Rl.zero
    ·exact Ba x t l hl r1 r3 hg hz
    ·refine pC (zd hl hr hg hz) (by decide) fun W bx tp pe wy tb ten bs hb hq hn=>?_
     obtain ⟨sw,tab,m,e1,e2,g1,g2⟩:=de hl
     obtain ⟨b0,c0,b1,c1,cur1,v,lb,rfl,hm,hh1,hc1,hlq,hlb,ht,hml,_⟩:=fp.at hq hn g1 g2
     obtain ⟨A,c,rfl⟩:=hlq.form
     unfold maxLen at ht hml
     have hsl:=hsm m (qP g1) l (qP g2)
     have l1:=(qD.1 g1).1
     have l2:=(qD.1 g2).1
     exact Bt W bx tp pe wy _ ten x hb b0 t.length c0 sw rfl e1 l1 (by omega) b1 m.length c1 tab hm e2 l2 (by omega) A l.length c (aa hh1 hc1) (by omega) x.at_.toNat (by omega) hg (by omega) hz
structure fI (t0 t:bW) (B:Nat):Prop where
 len:t.length=t0.length
 mid:∀m∈t,∃m0∈t0,m.length=m0.length
 leaf:∀m∈t,∀l∈m,l.length<=B
theorem fI.mono {t0 t:bW} {B B':Nat} (h:fI t0 t B) (hB:B<=B'):fI t0 t B':=⟨h.len,h.mid,fun m hm l hl=>vJ (h.leaf m hm l hl) hB⟩
theorem fI.set {t0 t:bW} {B:Nat} {x:Ed} {l l':List Rl} (h:fI t0 t B) (hl:fq t x=some l) (hl':l'.length<=B+1):fI t0 (nY t x l') (B+1):=by
 obtain ⟨sw,tab,m,e1,e2,g1,g2⟩:=de hl
 rw [kz e1 e2 g1]
 have key:∀m'∈t.set sw (m.set tab l'),m'∈t\/m'=m.set tab l':=fun m' hm'=>List.mem_or_eq_of_mem_set hm'
 refine ⟨by rw [vF];exact h.len,fun m' hm'=>?_,fun m' hm' a ha=>?_⟩
 ·rcases key m' hm' with h1 | rfl
  ·exact h.mid m' h1
  ·obtain ⟨m0,h0,h2⟩:=h.mid m (qP g1)
   exact ⟨m0,h0,by rw [vF];exact h2⟩
 ·rcases key m' hm' with h1 | rfl
  ·exact Nat.le_succ_of_le (h.leaf m' h1 a ha)
  ·rcases List.mem_or_eq_of_mem_set ha with h1 | rfl
   ·exact Nat.le_succ_of_le (h.leaf m (qP g1) a h1)
   ·exact hl'
theorem Ao {t:bW} {x:Ed} {l:List Rl} (hl:fq t x=some l):∃m∈t,l∈m:=by
 obtain ⟨sw,tab,m,e1,e2,g1,g2⟩:=de hl
 exact ⟨m,qP g1,qP g2⟩
theorem fI.one {t0 t:bW} {B:Nat} (x:Ed) (h:fI t0 t B):fI t0 (bM t x).2 (B+1):=by
 unfold bM
 cases hl:fq t x with
 | none=>exact h.mono (Nat.le_succ _)
 | some l =>
  obtain ⟨m,hm,hlm⟩:=Ao hl
  have hb:=h.leaf m hm l hlm
  simp only
  split
  ·exact h.mono (Nat.le_succ _)
  ·split
   ·split
    ·refine h.set hl ?_
     have:=List.length_eraseIdx_le l x.at_.toNat
     omega
    ·exact h.mono (Nat.le_succ _)
   ·refine h.set hl ?_
    rw [List.length_insertIdx]
    split <;> omega
theorem fI.app {t0:bW}:∀(E:List Ed) (t:bW) (B:Nat),fI t0 t B->fI t0 (ax t E).2 (B+E.length)
 | [],t,B,h=>h
 | x::E,t,B,h=>by
  unfold ax
  split
  ·have:=fI.app E _ _ (h.one x)
   rw [qS]
   exact this.mono (by omega)
  ·exact (h.one x).mono (by rw [qS];omega)
theorem lk {c:Cf} (h0:c.sound=0) (hL:c.Lens):fI c.tables c.tables 576:=by
 refine ⟨rfl,fun m hm=>⟨m,hm,rfl⟩,fun m hm l hl=>?_⟩
 have h:=wq h0 hL
 rw [pt] at h
 refine vJ ?_ h
 obtain ⟨a,b,e⟩:=List.append_of_mem hm
 obtain ⟨a2,b2,e2⟩:=List.append_of_mem hl
 unfold bo
 rw [e,e2]
 simp only [List.flatten_append,uL,qK]
 omega
theorem fI.fit {c:Cf} {t:bW} {B:Nat} (hf:c.Fit) (h:fI c.tables t B) (hB:B<=1000000):Cf.Fit { c with tables:=t }:=by
 have hb:=bK
 obtain ⟨f1,f2,f3,f4,f5,f6,f7⟩:=hf
 refine ⟨f1,f2,f3,f4,by show t.length*_<=_;rw [h.len];exact f5,fun m hm=>?_,fun m hm l hl=>?_⟩
 ·obtain ⟨m0,h1,h2⟩:=h.mid m hm
  rw [h2]
  exact f6 m0 h1
 ·have:=h.leaf m hm l hl
  omega
theorem fI.lens {c:Cf} {t:bW} {B:Nat} (h:fI c.tables t B) (hB:B<=1000000):(c.put t).Lens:=by
 intro m hm l hl
 have:=h.leaf m hm l hl
 rw [bK]
 omega
theorem fI.fitp {c:Cf} {t:bW} {B:Nat} (hf:c.Fit) (h:fI c.tables t B) (hB:B<=1000000):(c.put t).Fit:=h.fit hf hB
theorem Ae (c:Cf) (E:List Ed) (h0:c.sound=0) (hL:c.Lens) (hf:c.Fit) (hE:E.length<=1000):ae Tryz.prog 31 [.agg (cCf c),.sl (E.map cEd)] (cO c (ax c.tables E)):=by
 have hs:=lk h0 hL
 have key:∀k t,k<=E.length->ax c.tables (E.take k)=(0,t)->fI c.tables t 1576:=fun k t hk ht=>by
  have:=hs.app (E.take k)
  rw [ht] at this
  exact this.mono (by rw [vG];omega)
 refine vi c E hf (fun k x t hx ht=>?_) fun k t hk ht=>(key k t hk ht).fit hf (by omega)
 have hk:k<=E.length:=Nat.le_of_lt (qD.1 hx).1
 exact yR x t fun m hm l hl=>vJ ((key k t hk ht).leaf m hm l hl) (by omega)
theorem yY {c:Cf} {E:List Ed} (h0:c.sound=0) (hL:c.Lens) (hE:E.length<=1000):(c.put (ax c.tables E).2).Lens:=((lk h0 hL).app E).lens (by omega)
theorem CV {c:Cf} {E:List Ed} (h0:c.sound=0) (hL:c.Lens) (hf:c.Fit) (hE:E.length<=1000):(c.put (ax c.tables E).2).Fit:=((lk h0 hL).app E).fitp hf (by omega)
theorem iz.like {ps:List Cb} {k:Kn} (hk:iz ps k) {a:aH} (ha:a∈k.ats) {h g:Hd} (hh:av a.pile h=true) (hg:av a.pile g=true):pO ps h g:=fun p hp=>by
 obtain ⟨e,he,rfl⟩:=cH.1 ((hk.all p).1 hp)
 have q:=hk.ok.parts.ok a ha
 have h1:=q.at_ h hh e he
 have h2:=q.at_ g hg e he
 rw [Bool.eq_iff_iff]
 exact h1.symm.trans h2
theorem sI (c:Cf) (v:Nat) (hv:v<=255) (h0:c.sound=0) (hl:(aK c (v:Int)).length<=500) {k:Kn} (hk:iz (bp c v) k) :
  (cK c (v:Int) k.ats=vdE 1 0/\∀s∈aG c.topo.ports,∀h,bz c s (bC c s h v 10800)=0) \/
  (∃s h,s∈aG c.topo.ports/\bz c s (bC c s h v 10800)≠0/\cK c (v:Int) k.ats=⟨2,0,bz c s (bC c s h v 10800),s,h,bC c s h v 10800⟩):=by
 have hc:=Cf.ok h0
 obtain ⟨hsnd,hask⟩:=jl hc (v:Int)
 have hp:=cB (aK c (v:Int))
 have hA:=hask (by omega)
 rw [cK,qF (kY h0 hv),cond_true]
 rcases iq c v k.ats (aG c.topo.ports) with ⟨h3,h4⟩ | ⟨s,hs,a,ha,h3,h4⟩
 ·refine .inl ⟨h3,fun s hs h=>?_⟩
  obtain ⟨a,ha,hh⟩:=hk.ok.parts.all h
  have hlike:pO (aK c (v:Int)) h a.head:=fun p hpp=>hk.like ha hh (hk.ok.parts.ok a ha).head p (hp.mem_iff.2 hpp)
  rw [(lS hc hA hs hlike 10800).wrong c s,<- iL h0 hs]
  exact h4 s hs a ha
 ·rw [iL h0 hs] at h3 h4
  exact .inr ⟨s,a.head,hs,h3,h4⟩
theorem yH {c:Cf} {v:Nat} {k:Kn} (h0:c.sound=0) (hk:gS k):((aU c v k).2=0\/(aU c v k).2=10\/(aU c v k).2=11)/\((aU c v k).2=0->(aK c (v:Int)).length<=500/\iz (bp c v) (aU c v k).1/\(aU c v k).1.next<=k.next+500/\(aU c v k).1.es.length<=500):=by
 unfold aU
 by_cases h1:(aK c (v:Int)).length>500
 ·rw [qF h1]
  exact ⟨.inr (.inl rfl),fun h=>by cases h⟩
 ·rw [qC h1,cond_false]
  have hl:(bp c v).length<=500:=by
   rw [bp,(cB _).length_eq]
   omega
  obtain ⟨g1,g2,g3⟩:=yQ hk (gC h0 v) (fh c v) hl
  refine ⟨g1,fun h=>?_⟩
  obtain ⟨g4,g5,_⟩:=g2 h
  exact ⟨by omega,g4,g5,vJ g4.len hl⟩
theorem yx {c:Cf} {v:Nat} (h:(cr c (v:Nat)).kind=1):iz (bp c v) (aJ (bp c v)).1/\(aJ (bp c v)).1.next<=500/\(aJ (bp c v)).1.es.length<=500:=by
 obtain ⟨_,_,h0,h5,ha⟩:=fw h
 have hl:(bp c v).length<=500:=by
  rw [bp,(cB _).length_eq]
  exact h5
 have g:=(li (gC h0 v) (fh c v) hl).2 ha
 exact ⟨g,hl,vJ g.len hl⟩
def eB (c:Cf) (x:Ed):Ed:=⟨x.sw,x.tab,x.at_,!x.gone,bif x.gone then (((fq c.tables x).getD []).getD x.at_.toNat Rl.zero) else Rl.zero⟩
theorem ou {t:bW} {x:Ed} (h:(bM t x).1=0):∃l,fq t x=some l/\0<=x.at_/\x.at_<=l.length/\(x.gone=true->x.at_<l.length/\x.rule=Rl.zero/\bM t x=(0,nY t x (l.eraseIdx x.at_.toNat)))/\(x.gone=false->bM t x=(0,nY t x (l.insertIdx x.at_.toNat x.rule))):=by
 unfold bM at h ⊢
 cases hl:fq t x with
 | none=>rw [hl] at h;cases h
 | some l =>
  rw [hl] at h
  simp only at h ⊢
  split at h
  ·cases h
  ·rename_i hr
   have r1:0<=x.at_:=by
    rcases Int.lt_or_le x.at_ 0 with g | g
    ·exact absurd (.inl g) hr
    ·exact g
   have r2:x.at_<=l.length:=by
    rcases Int.lt_or_le (l.length:Int) x.at_ with g | g
    ·exact absurd (.inr (.inl g)) hr
    ·exact g
   rw [if_neg hr]
   refine ⟨l,rfl,r1,r2,fun hg=>?_,fun hg=>by rw [if_neg (by rw [hg];decide)]⟩
   rw [if_pos hg] at h ⊢
   have r3:x.at_<l.length:=by
    rcases Int.lt_or_le x.at_ l.length with g | g
    ·exact g
    ·exact absurd (.inr (.inr ⟨hg,by omega⟩)) hr
   by_cases hz:x.rule=Rl.zero
   ·exact ⟨r3,hz,by rw [if_pos hz]⟩
   ·rw [if_neg hz] at h;cases h
theorem rS {t:bW} {x y:Ed} {l l':List Rl} (h:fq t x=some l) (e1:y.sw=x.sw) (e2:y.tab=x.tab):fq (nY t x l') y=some l'/\nY (nY t x l') y l=t:=by
 obtain ⟨sw,tab,m,s1,s2,g1,g2⟩:=de h
 have l1:=(qD.1 g1).1
 have l2:=(qD.1 g2).1
 rw [kz s1 s2 g1]
 have h1:(t.set sw (m.set tab l'))[sw]?=some (m.set tab l'):=List.getElem?_set_self (by omega)
 constructor
 ·unfold fq
  rw [e1,e2,s1,s2,if_neg (by omega),vQ,vQ,h1,Option.bind_some,List.getElem?_set_self (by omega)]
 ·rw [kz (e1.trans s1) (e2.trans s2) h1,List.set_set,List.set_set]
  have e3:m.set tab l=m:=by
   obtain ⟨_,rfl⟩:=qD.1 g2
   exact List.set_getElem_self l2
  rw [e3]
  obtain ⟨_,rfl⟩:=qD.1 g1
  exact List.set_getElem_self l1
theorem oj (r:Rl):∀(i:Nat) (l:List Rl),i<=l.length->(l.insertIdx i r).eraseIdx i=l
 | 0,l,_=>by simp
 | i+1,[],h=>by simp at h
 | i+1,x::l,h=>by
  rw [List.insertIdx_succ_cons,List.eraseIdx_cons_succ,oj r i l (by simpa using h)]
theorem og:∀(i:Nat) (l:List Rl) (r:Rl),l[i]?=some r->(l.eraseIdx i).insertIdx i r=l
 | 0,x::l,r,h=>by
  obtain rfl:=qB h
  simp
 | i+1,x::l,r,h=>by
  rw [List.eraseIdx_cons_succ,List.insertIdx_succ_cons,og i l r (by simpa using h)]
 | 0,[],r,h=>by cases h
 | i+1,[],r,h=>by cases h
theorem Ck {c:Cf} {x:Ed} (h:(bM c.tables x).1=0):bM (bM c.tables x).2 (eB c x)=(0,c.tables):=by
 obtain ⟨l,hl,r1,r2,hG,hN⟩:=ou h
 have hgd:(fq c.tables x).getD []=l:=by rw [hl];rfl
 cases hg:x.gone with
 | true =>
  obtain ⟨r3,hz,e⟩:=hG hg
  rw [e]
  have hi:x.at_.toNat<l.length:=by omega
  have hr:l[x.at_.toNat]?=some (l.getD x.at_.toNat Rl.zero):=by
   rw [qM,qA hi]
   rfl
  have hb:eB c x=⟨x.sw,x.tab,x.at_,false,l.getD x.at_.toNat Rl.zero⟩:=by
   unfold eB
   rw [hgd,hg]
   rfl
  rw [hb]
  obtain ⟨g1,g2⟩:=rS (l':=l.eraseIdx x.at_.toNat) (y:=⟨x.sw,x.tab,x.at_,false,l.getD x.at_.toNat Rl.zero⟩) hl rfl rfl
  have hel:(l.eraseIdx x.at_.toNat).length=l.length - 1:=by rw [List.length_eraseIdx,if_pos hi]
  unfold bM
  rw [g1]
  simp only
  rw [if_neg (by rintro (q | q | ⟨q,_⟩) <;> first | omega | cases q),if_neg (by decide),og _ _ _ hr,g2]
 | false =>
  rw [hN hg]
  have hb:eB c x=⟨x.sw,x.tab,x.at_,true,Rl.zero⟩:=by
   unfold eB
   rw [hg]
   rfl
  rw [hb]
  obtain ⟨g1,g2⟩:=rS (l':=l.insertIdx x.at_.toNat x.rule) (y:=⟨x.sw,x.tab,x.at_,true,Rl.zero⟩) hl rfl rfl
  have hel:(l.insertIdx x.at_.toNat x.rule).length=l.length+1:=by rw [List.length_insertIdx,if_pos (by omega)]
  unfold bM
  rw [g1]
  simp only
  rw [if_neg (by rintro (q | q | ⟨_,q⟩) <;> omega),if_pos trivial,if_pos trivial,oj _ _ _ (by omega),g2]
def bI (c:Cf) (E:List Ed):Cf:=c.put (ax c.tables E).2
structure BO (c:Cf) (V:Nat) (k:Kn) (B:Nat):Prop where
 v:V<=255
 sound:c.sound=0
 lens:c.Lens
 fit:c.Fit
 kn:iz (bp c V) k
 next:k.next<=B
 len:k.es.length<=500
def NoV (c:Cf) (V:Nat) (E:List Ed) (v:Vd):Prop :=
 (eJ c E≠0/\v=vdE 3 (eJ c E))\/(eJ c E=0/\(v=vdE 4 10\/v=vdE 4 11)) \/
 (eJ c E=0/\∃s h,s∈aG (bI c E).topo.ports/\bz (bI c E) s (bC (bI c E) s h V 10800)≠0/\v=⟨2,0,bz (bI c E) s (bC (bI c E) s h V 10800),s,h,bC (bI c E) s h V 10800⟩)
theorem NoV.ne {c:Cf} {V:Nat} {E:List Ed} {v:Vd} (h:NoV c V E v):v.kind≠1:=by
 rcases h with ⟨_,rfl⟩ | ⟨_,rfl | rfl⟩ | ⟨_,_,_,_,_,rfl⟩
 ·exact fun h=>absurd (show (3:Int)=1 from h) (by decide)
 ·exact fun h=>absurd (show (4:Int)=1 from h) (by decide)
 ·exact fun h=>absurd (show (4:Int)=1 from h) (by decide)
 ·exact fun h=>absurd (show (2:Int)=1 from h) (by decide)
theorem oE (c : Cf) (V : Nat) (k : Kn) (B : Nat) (E : List Ed) (h : BO c V k B) (hB : B <= 1000000) (hE : E.length <= 1000) :
  (∃v,NoV c V E v/\∀q,aq Tryz.prog 14 [.own 300 0 0,.sl (E.map cEd)] (gl q [300,301] (lvB c V k)) (.agg (cVd v)) (gl q [300,301] (lvB c V k))) \/
  (eJ c E=0/\(∀s∈aG (bI c E).topo.ports,∀h,bz (bI c E) s (bC (bI c E) s h V 10800)=0)/\∃k1,BO (bI c E) V k1 (B+500) /\
   ∀q,aq Tryz.prog 14 [.own 300 0 0,.sl (E.map cEd)] (gl q [300] (lvB c V k)) (.agg (cVd (vdE 1 0))) (gl q [300] [(300,⟨0,some (.box 96 (lvC 302 (bI c E) V k1))⟩),(302,⟨0,some (cd k1.es k1.clk)⟩)])):=by
 have hA:=Ae c E h.sound h.lens h.fit hE
 have hL:=yY (E:=E) h.sound h.lens hE
 have hf:=CV (E:=E) h.sound h.lens h.fit hE
 by_cases ht:eJ c E=0
 ·have hs : (bI c E).sound = 0 := by
   have h2:=ht
   unfold eJ at h2
   split at h2
   ·exact h2
   ·rename_i h3
    exact absurd h2 h3
  obtain ⟨g1,g2⟩:=yH (v:=V) hs h.kn.ok
  have hn:=h.next
  have hkn:k.next<=100000000:=by omega
  by_cases hr:(aU (bI c E) V k).2=0
  ·obtain ⟨g3,g4,g5,g6⟩:=g2 hr
   rcases sI (bI c E) V h.v hs g3 g4 with ⟨o1,o2⟩ | ⟨s,hd,o1,o2,o3⟩
   ·refine .inr ⟨ht,o2,(aU (bI c E) V k).1,⟨h.v,hs,hL,hf,g4,by omega,g6⟩,fun q=>?_⟩
    have:=sd c V k E hA ht (bI c E) rfl hL h.v h.kn.ok hkn h.len hr (by rw [o1];rfl) q
    rw [o1] at this
    exact this
   ·refine .inl ⟨_,.inr (.inr ⟨ht,s,hd,o1,o2,rfl⟩),fun q=>?_⟩
    have:=wT c V k E hA ht (bI c E) rfl hL h.v h.kn.ok hkn h.len hr (by rw [o3];exact fun h=>absurd (show (2:Int)=1 from h) (by decide)) q
    rw [o3] at this
    exact this
  ·refine .inl ⟨vdE 4 (aU (bI c E) V k).2,.inr (.inl ⟨ht,?_⟩),fun q=>z8 c V k E hA ht (bI c E) rfl hL h.v h.kn.ok hkn h.len hr q⟩
   rcases g1 with g | g | g
   ·exact absurd g hr
   ·rw [g];exact .inl rfl
   ·rw [g];exact .inr rfl
 ·exact .inl ⟨_,.inl ⟨ht,rfl⟩,fun q=>AA c V k E hA ht q⟩
theorem Ej {c:Cf} {V:Nat} (hL:c.Lens) (hf:c.Fit) (hj:(cr c (V:Nat)).kind=1):BO c V (aJ (bp c V)).1 500:=by
 obtain ⟨g1,g2,g3⟩:=yx hj
 obtain ⟨_,⟨v',e,hv⟩,h0,_,_⟩:=fw hj
 exact ⟨by omega,h0,hL,hf,g1,g2,g3⟩
theorem yq {t:bW} {x:Ed}:ax t [x]=bM t x\/(ax t [x]=(0,(bM t x).2)/\(bM t x).1=0):=by
 unfold ax
 split
 ·rename_i h
  exact .inr ⟨rfl,h⟩
 ·exact .inl rfl
theorem AJ {c:Cf} {x:Ed} (h:eJ c [x]=0):(bM c.tables x).1=0/\bI c [x]=c.put (bM c.tables x).2:=by
 unfold eJ at h
 unfold bI
 rcases yq (t:=c.tables) (x:=x) with e | ⟨e,h0⟩
 ·rw [e] at h ⊢
  split at h
  ·rename_i h0
   exact ⟨h0,rfl⟩
  ·rename_i h0
   exact absurd h h0
 ·rw [e]
  exact ⟨h0,rfl⟩
theorem zv {c:Cf} {x:Ed} (h0:c.sound=0) (h:eJ c [x]=0):eJ (bI c [x]) [eB c x]=0/\bI (bI c [x]) [eB c x]=c:=by
 obtain ⟨h1,h2⟩:=AJ h
 have hb:=Ck h1
 rw [h2]
 have e:ax (c.put (bM c.tables x).2).tables [eB c x]=(0,c.tables):=by
  show ax (bM c.tables x).2 [eB c x]=_
  unfold ax
  rw [hb]
  rfl
 constructor
 ·unfold eJ
  rw [e]
  exact h0
 ·unfold bI
  rw [e]
  rfl
theorem sX (c:Cf) (V:Nat) (k:Kn) (B:Nat) (x:Ed) (hj:(cr c (V:Nat)).kind=1) (hL:c.Lens) (hf:c.Fit) (ht:eJ c [x]=0) (h:BO (bI c [x]) V k B) (hB:B<=1000000) :
  (∃e,∀q,aq Tryz.prog 14 [.own 300 0 0,.sl ([eB c x].map cEd)] (gl q [300,301] (lvB (bI c [x]) V k)) (.agg (cVd (vdE 4 e))) (gl q [300,301] (lvB (bI c [x]) V k))) \/
  (∃k1,∀q,aq Tryz.prog 14 [.own 300 0 0,.sl ([eB c x].map cEd)] (gl q [300] (lvB (bI c [x]) V k)) (.agg (cVd (vdE 1 0))) (gl q [300] [(300,⟨0,some (.box 96 (lvC 302 c V k1))⟩),(302,⟨0,some (cd k1.es k1.clk)⟩)])):=by
 obtain ⟨_,⟨v',e,hv⟩,h0,_,_⟩:=fw hj
 obtain ⟨b1,b2⟩:=zv h0 ht
 have hng:∀s∈aG c.topo.ports,∀h,bz c s (bC c s h V 10800)=0:=by
  rcases pf c V h.v h0 with ⟨e,_,g⟩ | ⟨_,g⟩ | ⟨s,h,_,_,g⟩
  ·rw [g] at hj;cases hj
  ·exact g
  ·rw [g] at hj;cases hj
 rcases oE (bI c [x]) V k B [eB c x] h hB (by show 1<=1000;decide) with ⟨v,hv,hM⟩ | ⟨_,_,k1,_,hM⟩
 ·rcases hv with ⟨g,_⟩ | ⟨_,rfl | rfl⟩ | ⟨_,s,h,hs,hw,_⟩
  ·exact absurd b1 g
  ·exact .inl ⟨10,hM⟩
  ·exact .inl ⟨11,hM⟩
  ·rw [b2] at hs hw
   exact absurd (hng s hs h) hw
 ·rw [b2] at hM
  exact .inr ⟨k1,hM⟩
theorem xN {c:Cf} {x:Ed} (h:eJ c [x]=0):∃(sw tab at_:Nat) (m:List (List Rl)) (l:List Rl),x.sw=sw/\x.tab=tab/\x.at_=at_/\c.tables[sw]?=some m/\m[tab]?=some l /\
  (x.gone=true->∃r,l[at_]?=some r/\eB c x=⟨sw,tab,at_,false,r⟩)/\(x.gone=false->eB c x=⟨sw,tab,at_,true,Rl.zero⟩):=by
 obtain ⟨h1,_⟩:=AJ h
 obtain ⟨l,hl,r1,r2,hG,hN⟩:=ou h1
 obtain ⟨sw,tab,m,e1,e2,g1,g2⟩:=de hl
 have hgd:(fq c.tables x).getD []=l:=by rw [hl];rfl
 refine ⟨sw,tab,x.at_.toNat,m,l,e1,e2,by omega,g1,g2,fun hg=>?_,fun hg=>?_⟩
 ·obtain ⟨r3,_,_⟩:=hG hg
  have hi:x.at_.toNat<l.length:=by omega
  refine ⟨l[x.at_.toNat],qA hi,?_⟩
  unfold eB
  rw [hgd,hg,e1,e2,qM,qA hi,Int.toNat_of_nonneg r1]
  rfl
 ·unfold eB
  rw [hg,e1,e2,Int.toNat_of_nonneg r1]
  rfl
theorem sY (c:Cf) (x:Ed) (hL:c.Lens) (hf:c.Fit):ae Tryz.prog 4 [.agg (cCf c),.agg (cEd x)] (.b true):=by
 refine jb Tryz.func4 ?_
 by_cases hj:(cr c (0:Nat)).kind=1
 ·have hN:=D7 c 0 hL hf hj
  have hO:=Ej hL hf hj
  have hSame:=DJ c c true ⟨fun _=>rfl,fun _=>rfl⟩
  unfold Db lvC at hN
  generalize cr c (0:Nat)=v at hN
  obtain ⟨vk,ve,vw,vf,vh,vr⟩:=v
  rcases oE c 0 _ 500 [x] hO (by decide) (by show 1<=1000;decide) with ⟨u,hu,hT⟩ | ⟨ht,_,k1,hO1,hT⟩
  ·have hu1:=hu.ne
   have hT:=fun q=>ka (hT q)
   have hC:=km c 0 (aJ (bp c 0)).1 hf
   unfold lvB lvC edB at hT
   unfold lvB lvC at hC
   clear hu
   generalize (aJ (bp c 0)).1=k0 at hN hT hC
   generalize cA (bw (bN c))=r0 at hN hT hC
   have h1:(!decide (u.kind=1))=true:=by rw [qC hu1];rfl
   have e1:u.kind=u.kind:=rfl
   have e2:u.e=u.e:=rfl
   refine jA ?_
   refine RG.ownN [] [(30,500),(31,501)] hN rfl rfl rfl rfl rfl rfl rfl rfl rfl rfl ?_
   refine jH ?_
   refine jc i4 ?_
   refine jH ?_
   refine AW.condF rfl ?_
   refine jA ?_
   refine RG.ownN [(500,300),(501,301),(25,200)] [(300,500),(301,501)] hT rfl rfl rfl rfl rfl rfl rfl rfl rfl rfl ?_
   refine jH ?_
   refine AW.condT (congrArg AV.b h1) ?_
   refine jA ?_
   refine RG.ownN [(500,300),(501,301),(32,200)] [(300,500),(301,501)] hT rfl rfl rfl rfl rfl rfl rfl rfl rfl rfl ?_
   refine wH rfl ?_;refine jB ?_
   refine AW.draws aN ?_
   refine RG.runO af 0 [(38,.b true),(44,.b true)] 400 rfl jD ?_
   refine RG.ownN [(500,300),(501,301)] [(300,500),(301,501)] hC rfl rfl rfl rfl rfl rfl rfl rfl rfl rfl ?_
   refine jH ?_
   refine jc hSame ?_
   refine zH ?_
   rfl
  ·obtain ⟨sw,tab,at_,m,l,s1,s2,s3,g1,g2,hG,hNg⟩:=xN ht
   have hBk:=sX c 0 k1 1000 x hj hL hf ht hO1 (by decide)
   have hT:=fun q=>iY (hT q)
   unfold lvB lvC edB at hT
   generalize (aJ (bp c 0)).1=k0 at hN hT
   generalize cA (bw (bN c))=r0 at hN hT
   have m1:(c.tables.map bE)[sw]?=some (bE m):=by rw [qE,g1];rfl
   have m2:(m.map aP)[tab]?=some (aP l):=by rw [qE,g2];rfl
   clear g1 g2 hO hO1
   generalize bI c [x]=c1 at hT hBk
   generalize hbe:eB c x=y at hBk hG hNg
   obtain ⟨xs,xt,xa,xg,xr⟩:=x
   simp only at s1 s2 s3 hG hNg
   subst s1 s2 s3
   refine jA ?_
   refine RG.ownN [] [(30,500),(31,501)] hN rfl rfl rfl rfl rfl rfl rfl rfl rfl rfl ?_
   refine jH ?_
   refine jc i4 ?_
   refine jH ?_
   refine AW.condF rfl ?_
   refine jA ?_
   refine RG.ownN [(500,300),(501,301),(25,200)] [(300,500),(302,502)] hT rfl rfl rfl rfl rfl rfl rfl rfl rfl rfl ?_
   refine jH ?_
   refine AW.condF rfl ?_
   refine jA ?_
   cases xg with
   | true =>
    obtain ⟨r,hr,rfl⟩:=hG rfl
    have m3:(l.map cRl)[at_]?=some (cRl r):=by rw [qE,hr];rfl
    refine AW.condT rfl ?_
    refine zD ?_
    refine wH rfl ?_
    refine jx m1 ?_
    refine wH rfl ?_
    refine jx m2 ?_
    refine wH rfl ?_
    refine jx m3 ?_
    refine jH ?_
    rcases hBk with ⟨e,hM⟩ | ⟨k2,hM⟩
    ·have hM:=fun q=>ka (hM q)
     unfold lvB lvC edB at hM
     generalize cA (bw (bN c1))=r1 at hT hM
     refine RG.ownN [(500,300),(502,301),(81,200)] [(300,500),(301,502)] hM rfl rfl rfl rfl rfl rfl rfl rfl rfl rfl ?_
     refine zH ?_
     rfl
    ·have hC:=km c 0 k2 hf
     have hM:=fun q=>iY (hM q)
     unfold lvB lvC edB at hM
     unfold lvB lvC at hC
     generalize cA (bw (bN c1))=r1 at hT hM
     generalize cA (bw (bN c))=r2 at hM hC
     refine RG.ownN [(500,300),(502,301),(81,200)] [(300,500),(302,503)] hM rfl rfl rfl rfl rfl rfl rfl rfl rfl rfl ?_
     refine jH ?_
     refine RG.ownN [(500,300),(503,301)] [(300,500),(301,503)] hC rfl rfl rfl rfl rfl rfl rfl rfl rfl rfl ?_
     refine jH ?_
     refine jc hSame ?_
     refine zH ?_
     rfl
   | false =>
    obtain rfl:=hNg rfl
    refine AW.condF rfl ?_
    refine jA ?_
    rcases hBk with ⟨e,hM⟩ | ⟨k2,hM⟩
    ·have hM:=fun q=>ka (hM q)
     unfold lvB lvC edB at hM
     generalize cA (bw (bN c1))=r1 at hT hM
     refine RG.ownN [(500,300),(502,301),(81,200)] [(300,500),(301,502)] hM rfl rfl rfl rfl rfl rfl rfl rfl rfl rfl ?_
     refine zH ?_
     rfl
    ·have hC:=km c 0 k2 hf
     have hM:=fun q=>iY (hM q)
     unfold lvB lvC edB at hM
     unfold lvB lvC at hC
     generalize cA (bw (bN c1))=r1 at hT hM
     generalize cA (bw (bN c))=r2 at hM hC
     refine RG.ownN [(500,300),(502,301),(81,200)] [(300,500),(302,503)] hM rfl rfl rfl rfl rfl rfl rfl rfl rfl rfl ?_
     refine jH ?_
     refine RG.ownN [(500,300),(503,301)] [(300,500),(301,503)] hC rfl rfl rfl rfl rfl rfl rfl rfl rfl rfl ?_
     refine jH ?_
     refine jc hSame ?_
     refine zH ?_
     rfl
 ·have hN:=CD c 0 hL hj
  generalize cr c 0=v at hN
  obtain ⟨vk,ve,vw,vf,vh,vr⟩:=v
  refine jA ?_
  refine jm hN ?_
  refine jH ?_
  refine jc i4 ?_
  refine jH ?_
  refine AW.condT rfl ?_
  refine jA ?_
  refine jc i4 ?_
  refine zH ?_
  rfl
open Go.RowKit Go.WideShapes Go.ChangeShapes Go.Deep
theorem RdZ.sliceB {α:Type} {P:Program} {t e:TypeId} {R:Rep α} {Q:α->Prop} (hR:RdZ P e R Q) (ht:P.underlying t=some (.slice e)) (hn:P.cellsOf e=R.n) (h0:0<R.n) (hb:0<P.bytesOf e):RdZ P t R.slice (fun l=>l.length*P.bytesOf e<=reachBytes/\∀a∈l,Q a):=by
 intro H enc w base spare held fuel cs x hx hz
 rcases open_slice ht hx with ⟨rfl,_⟩ | ⟨a,len,cap,m,n,D,Pl,rfl,_,hlc,hcm,hm,rfl,hel⟩
 ·exact ⟨[],⟨_,rfl,bc.nil _ _ _⟩,by simp,fun a ha=>by cases ha⟩
 ·have hlm:len<=m:=by rw [hm];split <;> omega
  simp only [DataW.weights,ht] at hz
  have hlen:len*P.bytesOf e<=reachBytes:=by
   have h1:=hz _ vD
   rw [qH,List.length_range] at h1
   have h2:len*P.bytesOf e<=(len+(List.map (fun j=>D (len+j)) (List.range (m - len))).length)*P.bytesOf e:=Nat.mul_le_mul_right _ (Nat.le_add_right _ _)
   omega
  have hzi:∀i,i<len->∀k∈(D i).weights P e,k<=reachBytes:=fun i hi k hk=>by
   refine hz k (qZ _ (vP _ ?_))
   exact ii (qX (uV.2 hi)) k hk
  by_cases hp:0<len
  ·have hspot : a = ⟨a.block, a.off, none⟩ /\ a.block < w.heap.size := by
    obtain ⟨cs',hc,_⟩:=hel 0 (by omega)
    obtain ⟨_,hl,hat⟩:=World.cells?_some hc
    have h1:=hat 0 (by rw [hn];exact h0)
    have e:(a.add (0*P.cellsOf e)).add 0=a:=by simp [Addr.add]
    rw [e,qA (by rw [hl,hn];exact h0)] at h1
    refine ⟨?_,World.block_lt_of_cell? w a h1⟩
    unfold World.cell? at h1
    split at h1
    ·split at h1
     ·cases h1
     ·rename_i hs
      obtain ⟨ab,ao,asp⟩:=a
      cases asp with
      | none=>rfl
      | some k=>simp at hs
    ·cases h1
   obtain ⟨xs,cells,h1,h2,h3⟩:=eP (r:=fun a c=>R.rel w (fun b=>b<w.heap.size) a c/\Q a) (n:=R.n) (fun _ _ h=>R.len h.1) w a.block a.off len fun i hi=>by
    obtain ⟨cs',hc,ht'⟩:=hel i (by omega)
    obtain ⟨y,hy,hq⟩:=hR H enc w base spare held n cs' _ ht' (hzi i hi)
    obtain ⟨_,hl,hat⟩:=World.cells?_some hc
    refine ⟨y,cs',⟨hy,hq⟩,fun j u hu=>?_⟩
    have hj:j<P.cellsOf e:=by have:=(qD.1 hu).1;omega
    have:=hat j hj
    rw [hu,hn,hspot.1] at this
    rw [show ((⟨a.block,a.off,none⟩:Addr).add (i*R.n)).add j=⟨a.block,a.off+(i*R.n+j),none⟩ by
     unfold Addr.add
     by_cases h1:i*R.n=0 <;> by_cases h2:j=0 <;> simp [h1,h2,Nat.add_assoc]] at this
    exact this
   obtain ⟨g1,g2⟩:=m8 h2
   exact ⟨xs,⟨_,rfl,some a,cap,by rw [h1],by omega,hcm,fun _=>⟨a.block,a.off,by rw [<- hspot.1],hspot.2,hspot.2,cells,g1,h3⟩⟩,by rw [h1];exact hlen,g2⟩
  ·obtain rfl:len=0:=by omega
   exact ⟨[],⟨_,rfl,some a,cap,rfl,qR _,hcm,fun h=>absurd h (Nat.lt_irrefl _)⟩,by simp,fun a ha=>by cases ha⟩
section
variable {P : Program} {t : TypeId}
theorem RdA.sliceB {α:Type} {e:TypeId} {n:Nat} {enc:α->List AV} {Q:α->Prop} (h:RdA P e n enc Q) (ht:P.underlying t=some (.slice e)) (hn:P.cellsOf e=n) (h0:0<n) (hb:0<P.bytesOf e) {S:Nat} (hS:P.bytesOf e=S):RdA P t 1 (fun l:List α=>[.sl (l.map enc)]) (fun l=>l.length*S<=reachBytes/\∀a∈l,Q a):=by
 subst hS
 have E:=(pY h.len h.one).slice h0
 refine ⟨E.len,E.one,fun H e w base spare held fuel cs x hx hz=>?_⟩
 have hR:RdZ P _ (avR n enc h.len h.one) Q:=fun H e w base spare held fuel cs x hx hz=>h.read H e w base spare held fuel cs x hx hz
 obtain ⟨a,ha,hq⟩:=hR.sliceB ht hn h0 hb H e w base spare held fuel cs x hx hz
 exact ⟨a,⟨by rw [(avR n enc h.len h.one).slice.len ha,E.len],fun j y hj=>E.one a y (qP hj),fun j y v hj hv=>E.to ha j y v hj hv⟩,hq⟩
end
theorem FE:RdA Tryz.prog 112 1 (fun l:List (Pt)=>[.sl (l.map cPt)]) (fun l=>l.length*40<=reachBytes/\∀a∈l,True):=(RdA.of F4).sliceB Tryz.underlying112 (by kernel_rfl) (by decide) (qU (by kernel_rfl)) (by kernel_rfl)
theorem Bw:RdA Tryz.prog 22 1 (fun l:List (List Pt)=>[.sl (l.map aL)]) (fun l=>l.length*24<=reachBytes/\∀a∈l,a.length*40<=reachBytes/\∀b∈a,True):=FE.sliceB Tryz.underlying22 (by kernel_rfl) (by decide) (qU (by kernel_rfl)) (by kernel_rfl)
theorem ED:RdA Tryz.prog 25 1 (fun l:List (Int × Int)=>[.sl (l.map cPr)]) (fun l=>l.length*16<=reachBytes/\∀a∈l,True):=(RdA.of Gs).sliceB Tryz.underlying25 (by kernel_rfl) (by decide) (qU (by kernel_rfl)) (by kernel_rfl)
theorem ET:RdA Tryz.prog 26 1 (fun l:List (Wy)=>[.sl (l.map cWy)]) (fun l=>l.length*24<=reachBytes/\∀a∈l,True):=(RdA.of Gx).sliceB Tryz.underlying26 (by kernel_rfl) (by decide) (qU (by kernel_rfl)) (by kernel_rfl)
theorem Eg:RdA Tryz.prog 53 1 (fun l:List (Rl)=>[.sl (l.map cRl)]) (fun l=>l.length*96<=reachBytes/\∀a∈l,True):=(RdA.of D8).sliceB Tryz.underlying53 (by kernel_rfl) (by decide) (qU (by kernel_rfl)) (by kernel_rfl)
theorem EM:RdA Tryz.prog 52 1 (fun l:List (List Rl)=>[.sl (l.map aP)]) (fun l=>l.length*24<=reachBytes/\∀a∈l,a.length*96<=reachBytes/\∀b∈a,True):=Eg.sliceB Tryz.underlying52 (by kernel_rfl) (by decide) (qU (by kernel_rfl)) (by kernel_rfl)
theorem Dn:RdA Tryz.prog 29 1 (fun l:List (List (List Rl))=>[.sl (l.map bE)]) (fun l=>l.length*24<=reachBytes/\∀a∈l,a.length*24<=reachBytes/\∀b∈a,b.length*96<=reachBytes/\∀c∈b,True):=EM.sliceB Tryz.underlying29 (by kernel_rfl) (by decide) (qU (by kernel_rfl)) (by kernel_rfl)
theorem CU:RdA Tryz.prog 24 1 (α:=FK) gL (fun a=>a.ports.length*24<=reachBytes/\∀r∈a.ports,r.length*40<=reachBytes):=by
 refine ⟨fun _=>rfl,fun a=>qW.1 rfl,fun H e w base spare held fuel cs x hx hz=>?_⟩
 obtain ⟨m,hl,hp⟩:=gE Tryz.underlying24 hx hz
 have hl:cs.length=1:=hl.trans (by kernel_rfl)
 obtain ⟨a0,h0,q0⟩:=Bw.part (hp 0 22 0 1 rfl (by kernel_rfl))
 exact ⟨⟨a0⟩,PWs.all (h0.join rfl (PWs.nil hl)),q0.1,fun r hr=>(q0.2 r hr).1⟩
theorem Fq:RdA Tryz.prog 28 3 (α:=Pol) kR (fun a=>a.peers.length*16<=reachBytes/\a.ways.length*24<=reachBytes):=by
 refine ⟨fun _=>rfl,fun a=>qW.1 rfl,fun H e w base spare held fuel cs x hx hz=>?_⟩
 obtain ⟨m,hl,hp⟩:=gE Tryz.underlying28 hx hz
 have hl:cs.length=3:=hl.trans (by kernel_rfl)
 obtain ⟨a0,h0,_⟩:=(RdA.of cM).part (hp 0 3 0 1 rfl (by kernel_rfl))
 obtain ⟨a1,h1,q1⟩:=ED.part (hp 1 25 1 1 rfl (by kernel_rfl))
 obtain ⟨a2,h2,q2⟩:=ET.part (hp 2 26 2 1 rfl (by kernel_rfl))
 exact ⟨⟨a0,a1,a2⟩,PWs.all (h0.join rfl (h1.join rfl (h2.join rfl (PWs.nil hl)))),q1.1,q2.1⟩
theorem Gj:RdA Tryz.prog 31 5 (α:=Cf) cCf (fun c=>c.Lens/\c.Fit):=by
 refine ⟨fun _=>rfl,fun a=>qW.1 rfl,fun H e w base spare held fuel cs x hx hz=>?_⟩
 obtain ⟨m,hl,hp⟩:=gE Tryz.underlying31 hx hz
 have hl:cs.length=5:=hl.trans (by kernel_rfl)
 obtain ⟨a0,h0,q0⟩:=CU.part (hp 0 24 0 1 rfl (by kernel_rfl))
 obtain ⟨a1,h1,q1⟩:=Fq.part (hp 1 28 1 3 rfl (by kernel_rfl))
 obtain ⟨a2,h2,q2⟩:=Dn.part (hp 2 29 4 1 rfl (by kernel_rfl))
 refine ⟨⟨a0,a1,a2⟩,PWs.all (h0.join rfl (h1.join rfl (h2.join rfl (PWs.nil hl)))),fun t ht l hl=>?_,⟨q0.1,q0.2,q1.1,q1.2,q2.1,fun t ht=>(q2.2 t ht).1,fun t ht l hl=>((q2.2 t ht).2 l hl).1⟩⟩
 have:=((q2.2 t ht).2 l hl).1
 omega
end Go.Proofs.YtdidjpohnopihaaGreat.Sm
end
section
namespace Go.Proofs.YtdidjpohnopihaaGreat
open Go.RowKit Go.WideShapes Go.ChangeShapes Go.Deep Sm
theorem LiveBack_law {H:Type} {e:TypeId × Value->H} (W:World) (b0:Nat)
  (v0:Value) (d0:DataW H) (p0:List MemPlace) (ok0:Value.okWide Tryz.prog W .any b0 31 v0) (h0:DataW.Trod e Tryz.prog W 0 (fun _=>true) true 31 v0 d0 p0)
  (v1:Value) (d1:DataW H) (p1:List MemPlace) (ok1:Value.okWide Tryz.prog W .any b0 63 v1) (h1:DataW.Trod e Tryz.prog W 0 (fun _=>true) true 63 v1 d1 p1)
  (hsz:(DataW.weightsEach Tryz.prog [31,63] [d0,d1]).all (·<=reachBytes)=true)
  : Calls Tryz.prog 4 #[v0,v1] W fun e W'=>e = .returned (.bool true)/\Kp No W W':=by
 obtain ⟨a0,r0,q0⟩:=Gj.arg_struct Tryz.underlying31 hsz 0 rfl rfl ok0 h0
 obtain ⟨a1,r1⟩:=Gd.arg_struct Tryz.underlying63 ok1 h1
 exact (sY a0 a1 q0.1 q0.2).law (vs:=[v0,v1]) rfl (aS r0 (aS r1 (cN)))
end Go.Proofs.YtdidjpohnopihaaGreat
end
