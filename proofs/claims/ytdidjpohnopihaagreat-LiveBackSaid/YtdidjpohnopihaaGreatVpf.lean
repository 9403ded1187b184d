/- Contracts of the program's functions over data, and the plain laws that they meet (part 6). No condition. -/
import Derived.Test.YtdidjpohnopihaaGreatVpe
import Derived.WalkKit
import Derived.WalkSpells
import Derived.WalkLawsBesides
import Derived.Lib.Hide
import Derived.Deep.RegionHeld3
import Derived.Maps.AppendAt
import Derived.KernelRfl
import Derived.Lib.AppendStr
import Derived.Orders
import Derived.LoopTactic
import Derived.Laws.CopyRow
import Derived.Laws.Cells
import Derived.OrdersIn
import Derived.Laws.Externs
import Derived.TacticsIn
import Derived.RangeFuncLeaves
import Derived.RangeFuncRecord
import Derived.Great.BuildSlice
import Derived.Laws.ResultCell
import Derived.Laws.StructEq
import Derived.Laws.MakeOwn
import Derived.Lib.AppendZerosOnto
import Derived.RangeFuncSeq
import Derived.RangeFuncIn
import Derived.Deep.Slices
import Derived.Deep.Fields
import Derived.ChangeSame
import Derived.ProofKit
import Derived.OpenShut
import Derived.SizedLaws
import Derived.Test.YtdidjpohnopihaaGreatProg
import Derived.Shelf.Spec.BitsCarry
import Derived.Laws.AppendOwn
import Derived.DeepKeys4
import Derived.MapKept
import Derived.Maps.Own
import Derived.Maps.OwnOps
import Derived.StillTailTactics
import Derived.Laws.OwnMore
import Derived.Sort.AssemblyPlain
import Derived.Sort.LotD4
import Derived.Sort.Walk13a
import Derived.Shelf.Sort.Plain
import Derived.Sort.OwnSortedInts
import Derived.Sort.LotA
import Derived.Sort.MapsRangeIn
import Derived.Maps.RangeWalk
import Derived.Laws.IdiomRangeMap
set_option linter.unusedVariables false
set_option linter.unusedSimpArgs false
set_option maxRecDepth 100000
set_option maxHeartbeats 4000000
section
namespace Go.Proofs.YtdidjpohnopihaaGreat.Sm
open Go.RowKit
open Go.Sort (swp)
section
variable {α : Type} [Inhabited α] {lt : α -> α -> Bool}
theorem kK (p:α->Bool) (d:Array α) (j i:Nat):Go.Sort.scanUp p d j i=bif (decide (i<=j) && p d[i]!) then Go.Sort.scanUp p d j (i+1) else i:=by
 rw [Go.Sort.scanUp]
 cases (decide (i<=j) && p d[i]!)
 ·rw [if_neg (by simp)];rfl
 ·rw [if_pos rfl];rfl
theorem iF (p:α->Bool) (d:Array α) {i:Nat} (hi:0<i) (j:Nat):Go.Sort.scanDown p d i j=bif (decide (i<=j) && p d[j]!) then Go.Sort.scanDown p d i (j - 1) else j:=by
 cases j with
 | zero=>rw [qC (show ¬i<=0 by omega),uP];rfl
 | succ j =>
  rw [Go.Sort.scanDown,Nat.add_sub_cancel]
  cases (decide (i<=j+1) && p d[j+1]!)
  ·rw [if_neg (by simp)];rfl
  ·rw [if_pos rfl];rfl
theorem CI {d m:Array α} {a b pivot I J:Nat} (hm:swp d a pivot=m) (hI:Go.Sort.scanUp (fun x=>lt x m[a]!) m (b - 1) (a+1)=I) (hJ:Go.Sort.scanDown (fun x=>!lt x m[a]!) m I (b - 1)=J) :
  Go.Sort.partition lt d a b pivot=if I>J then (J,true,swp m J a) else ((Go.Sort.partLoop lt a (I+1) (J - 1) (swp m I J)).1,false,swp (Go.Sort.partLoop lt a (I+1) (J - 1) (swp m I J)).2 (Go.Sort.partLoop lt a (I+1) (J - 1) (swp m I J)).1 a):=by
 subst hm hI hJ
 rfl
theorem BE {m:Array α} {a i j I J:Nat} (hI:Go.Sort.scanUp (fun x=>lt x m[a]!) m j i=I) (hJ:Go.Sort.scanDown (fun x=>!lt x m[a]!) m I j=J) :
  Go.Sort.partLoop lt a i j m=if I>J then (J,m) else Go.Sort.partLoop lt a (I+1) (J - 1) (swp m I J):=by
 rw [Go.Sort.partLoop_eq,hI,hJ]
theorem xb {m:Array α} {a i j I J:Nat} (hI:Go.Sort.scanUp (fun x=>!lt m[a]! x) m j i=I) (hJ:Go.Sort.scanDown (fun x=>lt m[a]! x) m I j=J) :
  Go.Sort.partEqLoop lt a i j m=if I>J then (I,m) else Go.Sort.partEqLoop lt a (I+1) (J - 1) (swp m I J):=by
 rw [Go.Sort.partEqLoop_eq,hI,hJ]
end
theorem Fl (l:List Rl) (L:Nat) (hL:l.length=L+1) (n:Nat) (hl:n<=100000) (d:Array (Fin (L+1))) (hn:d.size=n) (a b pivot:Nat) (ha:a<=pivot) (hp:pivot<b) (hb:b<=n) (q:Nat->Option (Nat × Nat)):aq Tryz.prog 266 [.row 201 0 0 n,.i .i64 ((a:Nat):Int),.i .i64 ((b:Nat):Int),.i .i64 ((pivot:Nat):Int),.fn 253 [.own 210 0 0] []] (gl q [210,201] (ioB l n (d))) (.tup [.i .i64 (((Go.Sort.partition (ltI l L) d a b pivot).1:Nat):Int),.b (Go.Sort.partition (ltI l L) d a b pivot).2.1]) (gl q [210,201] (ioB l n ((Go.Sort.partition (ltI l L) d a b pivot).2.2))):=by
 refine aq.of_body Tryz.func266 rfl (by kernel_rfl) rfl rfl ?_
 have hm:(swp d a pivot).size=n:=(ba _ _ _).trans hn
 obtain ⟨m,e0⟩:∃m,swp d a pivot=m:=⟨_,rfl⟩
 obtain ⟨I,hI⟩:∃I,Go.Sort.scanUp (fun x=>ltI l L x m[a]!) m (b - 1) (a+1)=I:=⟨_,rfl⟩
 obtain ⟨J,hJ⟩:∃J,Go.Sort.scanDown (fun x=>!ltI l L x m[a]!) m I (b - 1)=J:=⟨_,rfl⟩
 rw [CI e0 hI hJ]
 have w1:IntKind.i64.wrap (((a:Nat):Int)+Int.ofNat 1)=((a+1:Nat):Int):=by simp only [IntKind.wrap_i64,qG];omega
 have w2:IntKind.i64.wrap (((b:Nat):Int) - Int.ofNat 1)=((b - 1:Nat):Int):=by simp only [IntKind.wrap_i64,qG];omega
 refine zB ?_
 refine wH rfl ?_;refine jB ?_
 refine AW.draws aN ?_
 refine wH rfl ?_;refine jI (ia (pivot) am ((d).toList)) ?_;refine jL (lA (pivot) am (d)) ?_;refine wH rfl ?_;refine jI (ia (a) am ((d).toList)) ?_;refine jL (lA (a) am (d)) ?_;refine wH rfl ?_;refine jI (ia (a) am ((d).toList)) ?_;refine RG.opS rfl (aR (a) am ((d).toList) ((d)[pivot]!) (by simp only [vF,qL];omega) rfl (tk rfl) rfl rfl rfl rfl rfl (fun _=>rfl)) rfl ?_;refine wH rfl ?_;refine jI (ia (pivot) am (((d).toList.set (a) (d)[pivot]!))) ?_;refine RG.opS rfl (aR (pivot) am (((d).toList.set (a) (d)[pivot]!)) ((d)[a]!) (by simp only [vF,qL];omega) rfl (tk rfl) rfl rfl rfl rfl rfl (fun _=>rfl)) rfl ?_
 rw [<- bf,e0]
 rw [e0] at hm
 clear e0 hn
 refine jH ?_
 refine AW.loopL (ι:=Nat) (fun x=>[(0,.row 201 0 0 n),(1,.i .i64 ((a:Nat):Int)),(4,.fn 253 [.own 210 0 0] []),(12,.i .i64 ((x:Nat):Int)),(13,.i .i64 (((b - 1):Nat):Int))]) (fun _=>gl q [210,201] (ioB l n (m))) (fun x=>(a<x/\x<=b)/\Go.Sort.scanUp (fun x=>ltI l L x m[a]!) m (b - 1) x=I) (fun x=>(b - 1)+1 - x) ((a+1)) ⟨by omega,hI⟩ ⟨Rn.rowIs rfl rfl rfl,Rn.is rfl rfl,Rn.fnO rfl rfl rfl,Rn.is (congrArg (AV.i .i64) w1) rfl,Rn.is (congrArg (AV.i .i64) w2) rfl,trivial⟩ (ak rfl rfl rfl rfl rfl (rfl) (ah (by assumption))) fun x hx=>?_
 clear hI
 obtain ⟨hx,hf⟩:=hx
 rw [kK] at hf
 refine jB ?_
 refine AW.cutT (ι:=Unit) (fun _=>[(0,.row 201 0 0 n),(1,.i .i64 ((a:Nat):Int)),(4,.fn 253 [.own 210 0 0] []),(12,.i .i64 ((x:Nat):Int)),(13,.i .i64 (((b - 1):Nat):Int)),(47,.b (decide (x<=(b - 1)) && (ltI l L m[x]! m[a]!)))]) (fun _=>gl q [210,201] (ioB l n (m))) (fun _=>True) ?_ fun _ _=>?_
 ·refine AW.draws aN ?_
  by_cases g1:((x:Nat):Int)<=(((b - 1):Nat):Int)
  ·refine RG.runO af 0 [(34,.b true)] 400 rfl jD ?_
   refine wH rfl ?_;refine jI (ia (x) am ((m).toList)) ?_;refine jL (lA (x) am (m)) ?_
   refine wH rfl ?_;refine jI (ia (a) am ((m).toList)) ?_;refine jL (lA (a) am (m)) ?_
   refine wH rfl ?_
   refine RG.ownK [(210,210),(201,201)] [(210,210),(201,201)] 201 201 rfl (fun q=>bA l L hL n (m) (m[x]!) (m[a]!) q (ah (by assumption))) rfl rfl rfl rfl rfl rfl rfl rfl rfl rfl rfl rfl rfl ?_
   refine wH rfl ?_;refine jB ?_
   exact ⟨(),trivial,⟨Rn.rowIs rfl rfl rfl,Rn.is rfl rfl,Rn.fnO rfl rfl rfl,Rn.is rfl rfl,Rn.is rfl rfl,Rn.is (congrArg AV.b (by rw [qF (show x<=(b - 1) by omega),uM];rfl)) rfl,trivial⟩,ak rfl rfl rfl rfl rfl (rfl) (ah (by assumption))⟩
  ·refine RG.runO af 0 [(34,.b false)] 400 rfl jD ?_
   refine jB ?_
   exact ⟨(),trivial,⟨Rn.rowIs rfl rfl rfl,Rn.is rfl rfl,Rn.fnO rfl rfl rfl,Rn.is rfl rfl,Rn.is rfl rfl,Rn.is (congrArg AV.b (by rw [qC (show ¬x<=(b - 1) by omega),uP])) rfl,trivial⟩,ak rfl rfl rfl rfl rfl (rfl) (ah (by assumption))⟩
 cases hb:(decide (x<=(b - 1)) && (ltI l L m[x]! m[a]!))
 rotate_left
 ·rw [hb,cond_true] at hf
  have hle:x<=(b - 1):=by
   rw [qQ,vM] at hb
   exact hb.1
  have w9:IntKind.i64.wrap (((x:Nat):Int)+Int.ofNat 1)=((x+1:Nat):Int):=by simp only [IntKind.wrap_i64,qG];omega
  refine AW.cond rfl (fun _=>?_) (fun h1=>by cases h1)
  refine jA ?_
  exact ⟨x+1,⟨⟨by omega,hf⟩,by omega⟩,⟨Rn.rowIs rfl rfl rfl,Rn.is rfl rfl,Rn.fnO rfl rfl rfl,Rn.is (congrArg (AV.i .i64) w9) rfl,Rn.is rfl rfl,trivial⟩,ak rfl rfl rfl rfl rfl (rfl) (ah (by assumption))⟩
 rw [hb,cond_false] at hf
 clear hb
 obtain rfl:I=x:=hf.symm
 refine AW.cond rfl (fun h1=>by cases h1) (fun _=>?_)
 refine zE ?_
 refine AW.loopL (ι:=Nat) (fun x=>[(0,.row 201 0 0 n),(1,.i .i64 ((a:Nat):Int)),(4,.fn 253 [.own 210 0 0] []),(12,.i .i64 ((I:Nat):Int)),(13,.i .i64 ((x:Nat):Int))]) (fun _=>gl q [210,201] (ioB l n (m))) (fun x=>(a<=x/\x<=b - 1)/\Go.Sort.scanDown (fun x=>!ltI l L x m[a]!) m I x=J) (fun x=>x) ((b - 1)) ⟨by omega,hJ⟩ jQ (ak rfl rfl rfl rfl rfl (rfl) (ah (by assumption))) fun x hx=>?_
 clear hJ
 obtain ⟨hy,hf⟩:=hx
 rw [iF _ _ (by omega)] at hf
 refine jB ?_
 refine AW.cutT (ι:=Unit) (fun _=>[(0,.row 201 0 0 n),(1,.i .i64 ((a:Nat):Int)),(4,.fn 253 [.own 210 0 0] []),(12,.i .i64 ((I:Nat):Int)),(13,.i .i64 ((x:Nat):Int)),(66,.b (decide (I<=x) && (!ltI l L m[x]! m[a]!)))]) (fun _=>gl q [210,201] (ioB l n (m))) (fun _=>True) ?_ fun _ _=>?_
 ·refine AW.draws aN ?_
  by_cases g1:((I:Nat):Int)<=((x:Nat):Int)
  ·refine RG.runO af 0 [(52,.b true)] 400 rfl jD ?_
   refine wH rfl ?_;refine jI (ia (x) am ((m).toList)) ?_;refine jL (lA (x) am (m)) ?_
   refine wH rfl ?_;refine jI (ia (a) am ((m).toList)) ?_;refine jL (lA (a) am (m)) ?_
   refine wH rfl ?_
   refine RG.ownK [(210,210),(201,201)] [(210,210),(201,201)] 201 201 rfl (fun q=>bA l L hL n (m) (m[x]!) (m[a]!) q (ah (by assumption))) rfl rfl rfl rfl rfl rfl rfl rfl rfl rfl rfl rfl rfl ?_
   refine wH rfl ?_;refine jB ?_
   exact ⟨(),trivial,⟨Rn.rowIs rfl rfl rfl,Rn.is rfl rfl,Rn.fnO rfl rfl rfl,Rn.is rfl rfl,Rn.is rfl rfl,Rn.is (congrArg AV.b (by rw [qF (show I<=x by omega),uM];rfl)) rfl,trivial⟩,ak rfl rfl rfl rfl rfl (rfl) (ah (by assumption))⟩
  ·refine RG.runO af 0 [(52,.b false)] 400 rfl jD ?_
   refine jB ?_
   exact ⟨(),trivial,⟨Rn.rowIs rfl rfl rfl,Rn.is rfl rfl,Rn.fnO rfl rfl rfl,Rn.is rfl rfl,Rn.is rfl rfl,Rn.is (congrArg AV.b (by rw [qC (show ¬I<=x by omega),uP])) rfl,trivial⟩,ak rfl rfl rfl rfl rfl (rfl) (ah (by assumption))⟩
 cases hb:(decide (I<=x) && (!ltI l L m[x]! m[a]!))
 rotate_left
 ·rw [hb,cond_true] at hf
  have hle:I<=x:=by
   rw [qQ,vM] at hb
   exact hb.1
  have w9:IntKind.i64.wrap (((x:Nat):Int) - Int.ofNat 1)=((x - 1:Nat):Int):=by simp only [IntKind.wrap_i64,qG];omega
  refine AW.cond rfl (fun _=>?_) (fun h1=>by cases h1)
  refine jA ?_
  exact ⟨x - 1,⟨⟨by omega,hf⟩,by omega⟩,⟨Rn.rowIs rfl rfl rfl,Rn.is rfl rfl,Rn.fnO rfl rfl rfl,Rn.is rfl rfl,Rn.is (congrArg (AV.i .i64) w9) rfl,trivial⟩,ak rfl rfl rfl rfl rfl (rfl) (ah (by assumption))⟩
 rw [hb,cond_false] at hf
 clear hb
 obtain rfl:J=x:=hf.symm
 refine AW.cond rfl (fun h1=>by cases h1) (fun _=>?_)
 refine zE ?_
 refine AW.cond rfl (fun h0=>?_) (fun h0=>?_)
 ·have h : I > J := by
   have:=of_decide_eq_true h0
   try simp only at this
   omega
  rw [if_pos h]
  refine zD ?_
  refine wH rfl ?_;refine jI (ia (a) am ((m).toList)) ?_;refine jL (lA (a) am (m)) ?_;refine wH rfl ?_;refine jI (ia (J) am ((m).toList)) ?_;refine jL (lA (J) am (m)) ?_;refine wH rfl ?_;refine jI (ia (J) am ((m).toList)) ?_;refine RG.opS rfl (aR (J) am ((m).toList) ((m)[a]!) (by simp only [vF,qL];omega) rfl (tk rfl) rfl rfl rfl rfl rfl (fun _=>rfl)) rfl ?_;refine wH rfl ?_;refine jI (ia (a) am (((m).toList.set (J) (m)[a]!))) ?_;refine RG.opS rfl (aR (a) am (((m).toList.set (J) (m)[a]!)) ((m)[J]!) (by simp only [vF,qL];omega) rfl (tk rfl) rfl rfl rfl rfl rfl (fun _=>rfl)) rfl ?_
  refine jH ?_
  exact AW.ret (mE rfl (Rm.is rfl rfl) (Rm.is rfl rfl) (ak rfl rfl rfl rfl rfl (by rw [bf]) (ah ((ba _ _ _).trans hm))))
 have h:¬I>J:=by
  have:=of_decide_eq_false h0
  try simp only at this
  omega
 rw [if_neg h]
 obtain ⟨R,hR⟩:∃R,Go.Sort.partLoop (ltI l L) a (I+1) (J - 1) (swp m I J)=R:=⟨_,rfl⟩
 rw [hR]
 have wI:IntKind.i64.wrap (((I:Nat):Int)+Int.ofNat 1)=((I+1:Nat):Int):=by simp only [IntKind.wrap_i64,qG];omega
 have wJ:IntKind.i64.wrap (((J:Nat):Int) - Int.ofNat 1)=((J - 1:Nat):Int):=by simp only [IntKind.wrap_i64,qG];omega
 have hm2:=(ba m I J).trans hm
 refine zD ?_
 refine wH rfl ?_;refine jI (ia (J) am ((m).toList)) ?_;refine jL (lA (J) am (m)) ?_;refine wH rfl ?_;refine jI (ia (I) am ((m).toList)) ?_;refine jL (lA (I) am (m)) ?_;refine wH rfl ?_;refine jI (ia (I) am ((m).toList)) ?_;refine RG.opS rfl (aR (I) am ((m).toList) ((m)[J]!) (by simp only [vF,qL];omega) rfl (tk rfl) rfl rfl rfl rfl rfl (fun _=>rfl)) rfl ?_;refine wH rfl ?_;refine jI (ia (J) am (((m).toList.set (I) (m)[J]!))) ?_;refine RG.opS rfl (aR (J) am (((m).toList.set (I) (m)[J]!)) ((m)[I]!) (by simp only [vF,qL];omega) rfl (tk rfl) rfl rfl rfl rfl rfl (fun _=>rfl)) rfl ?_
 refine jH ?_
 refine AW.loopL (ι:=(Nat × Nat) × Array (Fin (L+1))) (fun x=>[(0,.row 201 0 0 n),(1,.i .i64 ((a:Nat):Int)),(4,.fn 253 [.own 210 0 0] []),(12,.i .i64 ((x.1.1:Nat):Int)),(13,.i .i64 ((x.1.2:Nat):Int))]) (fun x=>gl q [210,201] (ioB l n (x.2))) (fun x=>(a<x.1.1/\x.1.1<=x.1.2+2/\a<=x.1.2/\x.1.2<n/\x.2.size=n)/\Go.Sort.partLoop (ltI l L) a x.1.1 x.1.2 x.2=R) (fun x=>x.1.2+1 - x.1.1) ((I+1,J - 1),swp m I J) ⟨⟨by show a<I+1;omega,by show I+1<=J - 1+2;omega,by show a<=J - 1;omega,by show J - 1<n;omega,hm2⟩,hR⟩ ⟨Rn.rowTIs rfl rfl rfl (ah (hm2)),Rn.is rfl rfl,Rn.fnO rfl rfl rfl,Rn.is (congrArg (AV.i .i64) wI) rfl,Rn.is (congrArg (AV.i .i64) wJ) rfl,trivial⟩ (ak rfl rfl rfl rfl rfl (by rw [bf]) (ah (by assumption))) fun x hx=>?_
 clear hR hm2 hm wI wJ
 obtain ⟨⟨i,j⟩,m⟩:=x
 obtain ⟨⟨hi,hij,haj,hj,hm⟩,hG⟩:=hx
 simp only at hi hij haj hj hm hG
 obtain ⟨I,hI⟩:∃I,Go.Sort.scanUp (fun x=>ltI l L x m[a]!) m j i=I:=⟨_,rfl⟩
 obtain ⟨J,hJ⟩:∃J,Go.Sort.scanDown (fun x=>!ltI l L x m[a]!) m I j=J:=⟨_,rfl⟩
 rw [BE hI hJ] at hG
 refine jB ?_
 refine AW.loopL (ι:=Nat) (fun x=>[(0,.row 201 0 0 n),(1,.i .i64 ((a:Nat):Int)),(4,.fn 253 [.own 210 0 0] []),(12,.i .i64 ((x:Nat):Int)),(13,.i .i64 ((j:Nat):Int))]) (fun _=>gl q [210,201] (ioB l n (m))) (fun x=>(i<=x/\x<=j+2)/\Go.Sort.scanUp (fun x=>ltI l L x m[a]!) m j x=I) (fun x=>j+1 - x) (i) ⟨by omega,hI⟩ jQ (ak rfl rfl rfl rfl rfl (rfl) (ah (by assumption))) fun x hx=>?_
 clear hI
 obtain ⟨hx,hf⟩:=hx
 rw [kK] at hf
 refine jB ?_
 refine AW.cutT (ι:=Unit) (fun _=>[(0,.row 201 0 0 n),(1,.i .i64 ((a:Nat):Int)),(4,.fn 253 [.own 210 0 0] []),(12,.i .i64 ((x:Nat):Int)),(13,.i .i64 ((j:Nat):Int)),(120,.b (decide (x<=j) && (ltI l L m[x]! m[a]!)))]) (fun _=>gl q [210,201] (ioB l n (m))) (fun _=>True) ?_ fun _ _=>?_
 ·refine AW.draws aN ?_
  by_cases g1:((x:Nat):Int)<=((j:Nat):Int)
  ·refine RG.runO af 0 [(107,.b true)] 400 rfl jD ?_
   refine wH rfl ?_;refine jI (ia (x) am ((m).toList)) ?_;refine jL (lA (x) am (m)) ?_
   refine wH rfl ?_;refine jI (ia (a) am ((m).toList)) ?_;refine jL (lA (a) am (m)) ?_
   refine wH rfl ?_
   refine RG.ownK [(210,210),(201,201)] [(210,210),(201,201)] 201 201 rfl (fun q=>bA l L hL n (m) (m[x]!) (m[a]!) q (ah (by assumption))) rfl rfl rfl rfl rfl rfl rfl rfl rfl rfl rfl rfl rfl ?_
   refine wH rfl ?_;refine jB ?_
   exact ⟨(),trivial,⟨Rn.rowIs rfl rfl rfl,Rn.is rfl rfl,Rn.fnO rfl rfl rfl,Rn.is rfl rfl,Rn.is rfl rfl,Rn.is (congrArg AV.b (by rw [qF (show x<=j by omega),uM];rfl)) rfl,trivial⟩,ak rfl rfl rfl rfl rfl (rfl) (ah (by assumption))⟩
  ·refine RG.runO af 0 [(107,.b false)] 400 rfl jD ?_
   refine jB ?_
   exact ⟨(),trivial,⟨Rn.rowIs rfl rfl rfl,Rn.is rfl rfl,Rn.fnO rfl rfl rfl,Rn.is rfl rfl,Rn.is rfl rfl,Rn.is (congrArg AV.b (by rw [qC (show ¬x<=j by omega),uP])) rfl,trivial⟩,ak rfl rfl rfl rfl rfl (rfl) (ah (by assumption))⟩
 cases hb:(decide (x<=j) && (ltI l L m[x]! m[a]!))
 rotate_left
 ·rw [hb,cond_true] at hf
  have hle:x<=j:=by
   rw [qQ,vM] at hb
   exact hb.1
  have w9:IntKind.i64.wrap (((x:Nat):Int)+Int.ofNat 1)=((x+1:Nat):Int):=by simp only [IntKind.wrap_i64,qG];omega
  refine AW.cond rfl (fun _=>?_) (fun h1=>by cases h1)
  refine jA ?_
  exact ⟨x+1,⟨⟨by omega,hf⟩,by omega⟩,⟨Rn.rowIs rfl rfl rfl,Rn.is rfl rfl,Rn.fnO rfl rfl rfl,Rn.is (congrArg (AV.i .i64) w9) rfl,Rn.is rfl rfl,trivial⟩,ak rfl rfl rfl rfl rfl (rfl) (ah (by assumption))⟩
 rw [hb,cond_false] at hf
 clear hb
 obtain rfl:I=x:=hf.symm
 refine AW.cond rfl (fun h1=>by cases h1) (fun _=>?_)
 refine zE ?_
 refine AW.loopL (ι:=Nat) (fun x=>[(0,.row 201 0 0 n),(1,.i .i64 ((a:Nat):Int)),(4,.fn 253 [.own 210 0 0] []),(12,.i .i64 ((I:Nat):Int)),(13,.i .i64 ((x:Nat):Int))]) (fun _=>gl q [210,201] (ioB l n (m))) (fun x=>(a<=x/\x<=j)/\Go.Sort.scanDown (fun x=>!ltI l L x m[a]!) m I x=J) (fun x=>x) (j) ⟨by omega,hJ⟩ jQ (ak rfl rfl rfl rfl rfl (rfl) (ah (by assumption))) fun x hx=>?_
 clear hJ
 obtain ⟨hy,hf⟩:=hx
 rw [iF _ _ (by omega)] at hf
 refine jB ?_
 refine AW.cutT (ι:=Unit) (fun _=>[(0,.row 201 0 0 n),(1,.i .i64 ((a:Nat):Int)),(4,.fn 253 [.own 210 0 0] []),(12,.i .i64 ((I:Nat):Int)),(13,.i .i64 ((x:Nat):Int)),(139,.b (decide (I<=x) && (!ltI l L m[x]! m[a]!)))]) (fun _=>gl q [210,201] (ioB l n (m))) (fun _=>True) ?_ fun _ _=>?_
 ·refine AW.draws aN ?_
  by_cases g1:((I:Nat):Int)<=((x:Nat):Int)
  ·refine RG.runO af 0 [(125,.b true)] 400 rfl jD ?_
   refine wH rfl ?_;refine jI (ia (x) am ((m).toList)) ?_;refine jL (lA (x) am (m)) ?_
   refine wH rfl ?_;refine jI (ia (a) am ((m).toList)) ?_;refine jL (lA (a) am (m)) ?_
   refine wH rfl ?_
   refine RG.ownK [(210,210),(201,201)] [(210,210),(201,201)] 201 201 rfl (fun q=>bA l L hL n (m) (m[x]!) (m[a]!) q (ah (by assumption))) rfl rfl rfl rfl rfl rfl rfl rfl rfl rfl rfl rfl rfl ?_
   refine wH rfl ?_;refine jB ?_
   exact ⟨(),trivial,⟨Rn.rowIs rfl rfl rfl,Rn.is rfl rfl,Rn.fnO rfl rfl rfl,Rn.is rfl rfl,Rn.is rfl rfl,Rn.is (congrArg AV.b (by rw [qF (show I<=x by omega),uM];rfl)) rfl,trivial⟩,ak rfl rfl rfl rfl rfl (rfl) (ah (by assumption))⟩
  ·refine RG.runO af 0 [(125,.b false)] 400 rfl jD ?_
   refine jB ?_
   exact ⟨(),trivial,⟨Rn.rowIs rfl rfl rfl,Rn.is rfl rfl,Rn.fnO rfl rfl rfl,Rn.is rfl rfl,Rn.is rfl rfl,Rn.is (congrArg AV.b (by rw [qC (show ¬I<=x by omega),uP])) rfl,trivial⟩,ak rfl rfl rfl rfl rfl (rfl) (ah (by assumption))⟩
 cases hb:(decide (I<=x) && (!ltI l L m[x]! m[a]!))
 rotate_left
 ·rw [hb,cond_true] at hf
  have hle:I<=x:=by
   rw [qQ,vM] at hb
   exact hb.1
  have w9:IntKind.i64.wrap (((x:Nat):Int) - Int.ofNat 1)=((x - 1:Nat):Int):=by simp only [IntKind.wrap_i64,qG];omega
  refine AW.cond rfl (fun _=>?_) (fun h1=>by cases h1)
  refine jA ?_
  exact ⟨x - 1,⟨⟨by omega,hf⟩,by omega⟩,⟨Rn.rowIs rfl rfl rfl,Rn.is rfl rfl,Rn.fnO rfl rfl rfl,Rn.is rfl rfl,Rn.is (congrArg (AV.i .i64) w9) rfl,trivial⟩,ak rfl rfl rfl rfl rfl (rfl) (ah (by assumption))⟩
 rw [hb,cond_false] at hf
 clear hb
 obtain rfl:J=x:=hf.symm
 refine AW.cond rfl (fun h1=>by cases h1) (fun _=>?_)
 refine zE ?_
 refine AW.cond rfl (fun h0=>?_) (fun h0=>?_)
 ·have h : I > J := by
   have:=of_decide_eq_true h0
   try simp only at this
   omega
  rw [if_pos h] at hG
  subst hG
  refine jA ?_
  refine AW.exit ?_;refine Eq.mpr (if_neg (by decide)) ?_;refine Eq.mpr (if_pos rfl) ?_;refine jA ?_
  refine wH rfl ?_;refine jI (ia (a) am ((m).toList)) ?_;refine jL (lA (a) am (m)) ?_;refine wH rfl ?_;refine jI (ia (J) am ((m).toList)) ?_;refine jL (lA (J) am (m)) ?_;refine wH rfl ?_;refine jI (ia (J) am ((m).toList)) ?_;refine RG.opS rfl (aR (J) am ((m).toList) ((m)[a]!) (by simp only [vF,qL];omega) rfl (tk rfl) rfl rfl rfl rfl rfl (fun _=>rfl)) rfl ?_;refine wH rfl ?_;refine jI (ia (a) am (((m).toList.set (J) (m)[a]!))) ?_;refine RG.opS rfl (aR (a) am (((m).toList.set (J) (m)[a]!)) ((m)[J]!) (by simp only [vF,qL];omega) rfl (tk rfl) rfl rfl rfl rfl rfl (fun _=>rfl)) rfl ?_
  refine jH ?_
  exact AW.ret (mE rfl (Rm.is rfl rfl) (Rm.is rfl rfl) (ak rfl rfl rfl rfl rfl (by rw [bf]) (ah ((ba _ _ _).trans hm))))
 have h:¬I>J:=by
  have:=of_decide_eq_false h0
  try simp only at this
  omega
 rw [if_neg h] at hG
 have wI:IntKind.i64.wrap (((I:Nat):Int)+Int.ofNat 1)=((I+1:Nat):Int):=by simp only [IntKind.wrap_i64,qG];omega
 have wJ:IntKind.i64.wrap (((J:Nat):Int) - Int.ofNat 1)=((J - 1:Nat):Int):=by simp only [IntKind.wrap_i64,qG];omega
 have hm2:=(ba m I J).trans hm
 refine zD ?_
 refine wH rfl ?_;refine jI (ia (J) am ((m).toList)) ?_;refine jL (lA (J) am (m)) ?_;refine wH rfl ?_;refine jI (ia (I) am ((m).toList)) ?_;refine jL (lA (I) am (m)) ?_;refine wH rfl ?_;refine jI (ia (I) am ((m).toList)) ?_;refine RG.opS rfl (aR (I) am ((m).toList) ((m)[J]!) (by simp only [vF,qL];omega) rfl (tk rfl) rfl rfl rfl rfl rfl (fun _=>rfl)) rfl ?_;refine wH rfl ?_;refine jI (ia (J) am (((m).toList.set (I) (m)[J]!))) ?_;refine RG.opS rfl (aR (J) am (((m).toList.set (I) (m)[J]!)) ((m)[I]!) (by simp only [vF,qL];omega) rfl (tk rfl) rfl rfl rfl rfl rfl (fun _=>rfl)) rfl ?_
 refine jH ?_
 exact ⟨((I+1,J - 1),swp m I J),⟨⟨⟨by show a<I+1;omega,by show I+1<=J - 1+2;omega,by show a<=J - 1;omega,by show J - 1<n;omega,hm2⟩,hG⟩,by show J - 1+1 - (I+1)<j+1 - i;omega⟩,⟨Rn.rowTIs rfl rfl rfl (ah (hm2)),Rn.is rfl rfl,Rn.fnO rfl rfl rfl,Rn.is (congrArg (AV.i .i64) wI) rfl,Rn.is (congrArg (AV.i .i64) wJ) rfl,trivial⟩,ak rfl rfl rfl rfl rfl (by rw [bf]) (ah (by assumption))⟩
theorem yd (l:List Rl) (L:Nat) (hL:l.length=L+1) (n:Nat) (hl:n<=100000) (d:Array (Fin (L+1))) (hn:d.size=n) (a b pivot:Nat) (ha:a<=pivot) (hp:pivot<b) (hb:b<=n) (q:Nat->Option (Nat × Nat)):aq Tryz.prog 265 [.row 201 0 0 n,.i .i64 ((a:Nat):Int),.i .i64 ((b:Nat):Int),.i .i64 ((pivot:Nat):Int),.fn 253 [.own 210 0 0] []] (gl q [210,201] (ioB l n (d))) (.i .i64 (((Go.Sort.partitionEqual (ltI l L) d a b pivot).1:Nat):Int)) (gl q [210,201] (ioB l n ((Go.Sort.partitionEqual (ltI l L) d a b pivot).2))):=by
 refine aq.of_body Tryz.func265 rfl (by kernel_rfl) rfl rfl ?_
 have hm:(swp d a pivot).size=n:=(ba _ _ _).trans hn
 obtain ⟨R,hR⟩:∃R,Go.Sort.partitionEqual (ltI l L) d a b pivot=R:=⟨_,rfl⟩
 rw [hR]
 rw [Go.Sort.partitionEqual] at hR
 have w1:IntKind.i64.wrap (((a:Nat):Int)+Int.ofNat 1)=((a+1:Nat):Int):=by simp only [IntKind.wrap_i64,qG];omega
 have w2:IntKind.i64.wrap (((b:Nat):Int) - Int.ofNat 1)=((b - 1:Nat):Int):=by simp only [IntKind.wrap_i64,qG];omega
 refine zB ?_
 refine wH rfl ?_;refine jB ?_
 refine AW.draws aN ?_
 refine wH rfl ?_;refine jI (ia (pivot) am ((d).toList)) ?_;refine jL (lA (pivot) am (d)) ?_;refine wH rfl ?_;refine jI (ia (a) am ((d).toList)) ?_;refine jL (lA (a) am (d)) ?_;refine wH rfl ?_;refine jI (ia (a) am ((d).toList)) ?_;refine RG.opS rfl (aR (a) am ((d).toList) ((d)[pivot]!) (by simp only [vF,qL];omega) rfl (tk rfl) rfl rfl rfl rfl rfl (fun _=>rfl)) rfl ?_;refine wH rfl ?_;refine jI (ia (pivot) am (((d).toList.set (a) (d)[pivot]!))) ?_;refine RG.opS rfl (aR (pivot) am (((d).toList.set (a) (d)[pivot]!)) ((d)[a]!) (by simp only [vF,qL];omega) rfl (tk rfl) rfl rfl rfl rfl rfl (fun _=>rfl)) rfl ?_
 rw [<- bf]
 refine jH ?_
 refine AW.loopL (ι:=(Nat × Nat) × Array (Fin (L+1))) (fun x=>[(0,.row 201 0 0 n),(1,.i .i64 ((a:Nat):Int)),(4,.fn 253 [.own 210 0 0] []),(11,.i .i64 ((x.1.1:Nat):Int)),(12,.i .i64 ((x.1.2:Nat):Int))]) (fun x=>gl q [210,201] (ioB l n (x.2))) (fun x=>(a<x.1.1/\x.1.1<=x.1.2+2/\a<=x.1.2/\x.1.2<n/\x.2.size=n)/\Go.Sort.partEqLoop (ltI l L) a x.1.1 x.1.2 x.2=R) (fun x=>x.1.2+1 - x.1.1) ((a+1,b - 1),swp d a pivot) ⟨⟨by show a<a+1;omega,by show a+1<=b - 1+2;omega,by show a<=b - 1;omega,by show b - 1<n;omega,hm⟩,hR⟩ ⟨Rn.rowIs rfl rfl rfl,Rn.is rfl rfl,Rn.fnO rfl rfl rfl,Rn.is (congrArg (AV.i .i64) w1) rfl,Rn.is (congrArg (AV.i .i64) w2) rfl,trivial⟩ (ak rfl rfl rfl rfl rfl (rfl) (ah (by assumption))) fun x hx=>?_
 clear hR hm hn w1 w2
 obtain ⟨⟨i,j⟩,m⟩:=x
 obtain ⟨⟨hi,hij,haj,hj,hm⟩,hG⟩:=hx
 simp only at hi hij haj hj hm hG
 obtain ⟨I,hI⟩:∃I,Go.Sort.scanUp (fun x=>!ltI l L m[a]! x) m j i=I:=⟨_,rfl⟩
 obtain ⟨J,hJ⟩:∃J,Go.Sort.scanDown (fun x=>ltI l L m[a]! x) m I j=J:=⟨_,rfl⟩
 rw [xb hI hJ] at hG
 refine jB ?_
 refine AW.loopL (ι:=Nat) (fun x=>[(0,.row 201 0 0 n),(1,.i .i64 ((a:Nat):Int)),(4,.fn 253 [.own 210 0 0] []),(11,.i .i64 ((x:Nat):Int)),(12,.i .i64 ((j:Nat):Int))]) (fun _=>gl q [210,201] (ioB l n (m))) (fun x=>(i<=x/\x<=j+2)/\Go.Sort.scanUp (fun x=>!ltI l L m[a]! x) m j x=I) (fun x=>j+1 - x) (i) ⟨by omega,hI⟩ jQ (ak rfl rfl rfl rfl rfl (rfl) (ah (by assumption))) fun x hx=>?_
 clear hI
 obtain ⟨hx,hf⟩:=hx
 rw [kK] at hf
 refine jB ?_
 refine AW.cutT (ι:=Unit) (fun _=>[(0,.row 201 0 0 n),(1,.i .i64 ((a:Nat):Int)),(4,.fn 253 [.own 210 0 0] []),(11,.i .i64 ((x:Nat):Int)),(12,.i .i64 ((j:Nat):Int)),(47,.b (decide (x<=j) && (!ltI l L m[a]! m[x]!)))]) (fun _=>gl q [210,201] (ioB l n (m))) (fun _=>True) ?_ fun _ _=>?_
 ·refine AW.draws aN ?_
  by_cases g1:((x:Nat):Int)<=((j:Nat):Int)
  ·refine RG.runO af 0 [(33,.b true)] 400 rfl jD ?_
   refine wH rfl ?_;refine jI (ia (a) am ((m).toList)) ?_;refine jL (lA (a) am (m)) ?_
   refine wH rfl ?_;refine jI (ia (x) am ((m).toList)) ?_;refine jL (lA (x) am (m)) ?_
   refine wH rfl ?_
   refine RG.ownK [(210,210),(201,201)] [(210,210),(201,201)] 201 201 rfl (fun q=>bA l L hL n (m) (m[a]!) (m[x]!) q (ah (by assumption))) rfl rfl rfl rfl rfl rfl rfl rfl rfl rfl rfl rfl rfl ?_
   refine wH rfl ?_;refine jB ?_
   exact ⟨(),trivial,⟨Rn.rowIs rfl rfl rfl,Rn.is rfl rfl,Rn.fnO rfl rfl rfl,Rn.is rfl rfl,Rn.is rfl rfl,Rn.is (congrArg AV.b (by rw [qF (show x<=j by omega),uM];rfl)) rfl,trivial⟩,ak rfl rfl rfl rfl rfl (rfl) (ah (by assumption))⟩
  ·refine RG.runO af 0 [(33,.b false)] 400 rfl jD ?_
   refine jB ?_
   exact ⟨(),trivial,⟨Rn.rowIs rfl rfl rfl,Rn.is rfl rfl,Rn.fnO rfl rfl rfl,Rn.is rfl rfl,Rn.is rfl rfl,Rn.is (congrArg AV.b (by rw [qC (show ¬x<=j by omega),uP])) rfl,trivial⟩,ak rfl rfl rfl rfl rfl (rfl) (ah (by assumption))⟩
 cases hb:(decide (x<=j) && (!ltI l L m[a]! m[x]!))
 rotate_left
 ·rw [hb,cond_true] at hf
  have hle:x<=j:=by
   rw [qQ,vM] at hb
   exact hb.1
  have w9:IntKind.i64.wrap (((x:Nat):Int)+Int.ofNat 1)=((x+1:Nat):Int):=by simp only [IntKind.wrap_i64,qG];omega
  refine AW.cond rfl (fun _=>?_) (fun h1=>by cases h1)
  refine jA ?_
  exact ⟨x+1,⟨⟨by omega,hf⟩,by omega⟩,⟨Rn.rowIs rfl rfl rfl,Rn.is rfl rfl,Rn.fnO rfl rfl rfl,Rn.is (congrArg (AV.i .i64) w9) rfl,Rn.is rfl rfl,trivial⟩,ak rfl rfl rfl rfl rfl (rfl) (ah (by assumption))⟩
 rw [hb,cond_false] at hf
 clear hb
 obtain rfl:I=x:=hf.symm
 refine AW.cond rfl (fun h1=>by cases h1) (fun _=>?_)
 refine zE ?_
 refine AW.loopL (ι:=Nat) (fun x=>[(0,.row 201 0 0 n),(1,.i .i64 ((a:Nat):Int)),(4,.fn 253 [.own 210 0 0] []),(11,.i .i64 ((I:Nat):Int)),(12,.i .i64 ((x:Nat):Int))]) (fun _=>gl q [210,201] (ioB l n (m))) (fun x=>(a<=x/\x<=j)/\Go.Sort.scanDown (fun x=>ltI l L m[a]! x) m I x=J) (fun x=>x) (j) ⟨by omega,hJ⟩ jQ (ak rfl rfl rfl rfl rfl (rfl) (ah (by assumption))) fun x hx=>?_
 clear hJ
 obtain ⟨hy,hf⟩:=hx
 rw [iF _ _ (by omega)] at hf
 refine jB ?_
 refine AW.cutT (ι:=Unit) (fun _=>[(0,.row 201 0 0 n),(1,.i .i64 ((a:Nat):Int)),(4,.fn 253 [.own 210 0 0] []),(11,.i .i64 ((I:Nat):Int)),(12,.i .i64 ((x:Nat):Int)),(65,.b (decide (I<=x) && (ltI l L m[a]! m[x]!)))]) (fun _=>gl q [210,201] (ioB l n (m))) (fun _=>True) ?_ fun _ _=>?_
 ·refine AW.draws aN ?_
  by_cases g1:((I:Nat):Int)<=((x:Nat):Int)
  ·refine RG.runO af 0 [(52,.b true)] 400 rfl jD ?_
   refine wH rfl ?_;refine jI (ia (a) am ((m).toList)) ?_;refine jL (lA (a) am (m)) ?_
   refine wH rfl ?_;refine jI (ia (x) am ((m).toList)) ?_;refine jL (lA (x) am (m)) ?_
   refine wH rfl ?_
   refine RG.ownK [(210,210),(201,201)] [(210,210),(201,201)] 201 201 rfl (fun q=>bA l L hL n (m) (m[a]!) (m[x]!) q (ah (by assumption))) rfl rfl rfl rfl rfl rfl rfl rfl rfl rfl rfl rfl rfl ?_
   refine wH rfl ?_;refine jB ?_
   exact ⟨(),trivial,⟨Rn.rowIs rfl rfl rfl,Rn.is rfl rfl,Rn.fnO rfl rfl rfl,Rn.is rfl rfl,Rn.is rfl rfl,Rn.is (congrArg AV.b (by rw [qF (show I<=x by omega),uM];rfl)) rfl,trivial⟩,ak rfl rfl rfl rfl rfl (rfl) (ah (by assumption))⟩
  ·refine RG.runO af 0 [(52,.b false)] 400 rfl jD ?_
   refine jB ?_
   exact ⟨(),trivial,⟨Rn.rowIs rfl rfl rfl,Rn.is rfl rfl,Rn.fnO rfl rfl rfl,Rn.is rfl rfl,Rn.is rfl rfl,Rn.is (congrArg AV.b (by rw [qC (show ¬I<=x by omega),uP])) rfl,trivial⟩,ak rfl rfl rfl rfl rfl (rfl) (ah (by assumption))⟩
 cases hb:(decide (I<=x) && (ltI l L m[a]! m[x]!))
 rotate_left
 ·rw [hb,cond_true] at hf
  have hle:I<=x:=by
   rw [qQ,vM] at hb
   exact hb.1
  have w9:IntKind.i64.wrap (((x:Nat):Int) - Int.ofNat 1)=((x - 1:Nat):Int):=by simp only [IntKind.wrap_i64,qG];omega
  refine AW.cond rfl (fun _=>?_) (fun h1=>by cases h1)
  refine jA ?_
  exact ⟨x - 1,⟨⟨by omega,hf⟩,by omega⟩,⟨Rn.rowIs rfl rfl rfl,Rn.is rfl rfl,Rn.fnO rfl rfl rfl,Rn.is rfl rfl,Rn.is (congrArg (AV.i .i64) w9) rfl,trivial⟩,ak rfl rfl rfl rfl rfl (rfl) (ah (by assumption))⟩
 rw [hb,cond_false] at hf
 clear hb
 obtain rfl:J=x:=hf.symm
 refine AW.cond rfl (fun h1=>by cases h1) (fun _=>?_)
 refine zE ?_
 refine AW.cond rfl (fun h0=>?_) (fun h0=>?_)
 ·have h : I > J := by
   have:=of_decide_eq_true h0
   try simp only at this
   omega
  rw [if_pos h] at hG
  subst hG
  refine jA ?_
  refine AW.exit ?_;refine Eq.mpr (if_neg (by decide)) ?_;refine Eq.mpr (if_pos rfl) ?_;refine jA ?_
  exact AW.ret (dQ rfl (Rm.is rfl rfl) (ak rfl rfl rfl rfl rfl (rfl) (ah (by assumption))))
 have h:¬I>J:=by
  have:=of_decide_eq_false h0
  try simp only at this
  omega
 rw [if_neg h] at hG
 have wI:IntKind.i64.wrap (((I:Nat):Int)+Int.ofNat 1)=((I+1:Nat):Int):=by simp only [IntKind.wrap_i64,qG];omega
 have wJ:IntKind.i64.wrap (((J:Nat):Int) - Int.ofNat 1)=((J - 1:Nat):Int):=by simp only [IntKind.wrap_i64,qG];omega
 have hm2:=(ba m I J).trans hm
 refine zD ?_
 refine wH rfl ?_;refine jI (ia (J) am ((m).toList)) ?_;refine jL (lA (J) am (m)) ?_;refine wH rfl ?_;refine jI (ia (I) am ((m).toList)) ?_;refine jL (lA (I) am (m)) ?_;refine wH rfl ?_;refine jI (ia (I) am ((m).toList)) ?_;refine RG.opS rfl (aR (I) am ((m).toList) ((m)[J]!) (by simp only [vF,qL];omega) rfl (tk rfl) rfl rfl rfl rfl rfl (fun _=>rfl)) rfl ?_;refine wH rfl ?_;refine jI (ia (J) am (((m).toList.set (I) (m)[J]!))) ?_;refine RG.opS rfl (aR (J) am (((m).toList.set (I) (m)[J]!)) ((m)[I]!) (by simp only [vF,qL];omega) rfl (tk rfl) rfl rfl rfl rfl rfl (fun _=>rfl)) rfl ?_
 refine jH ?_
 exact ⟨((I+1,J - 1),swp m I J),⟨⟨⟨by show a<I+1;omega,by show I+1<=J - 1+2;omega,by show a<=J - 1;omega,by show J - 1<n;omega,hm2⟩,hG⟩,by show J - 1+1 - (I+1)<j+1 - i;omega⟩,⟨Rn.rowTIs rfl rfl rfl (ah (hm2)),Rn.is rfl rfl,Rn.fnO rfl rfl rfl,Rn.is (congrArg (AV.i .i64) wI) rfl,Rn.is (congrArg (AV.i .i64) wJ) rfl,trivial⟩,ak rfl rfl rfl rfl rfl (by rw [bf]) (ah (by assumption))⟩
end Go.Proofs.YtdidjpohnopihaaGreat.Sm
end
section
namespace Go.Proofs.YtdidjpohnopihaaGreat.Sm
open Go.RowKit
open Go.Sort (swp)
theorem AW.cutB {P:Program} {N:Nat} {Q:Exit->St->Prop} {s:St} {x y:Code} {id:Nat} {ι:Type} (T:ι->List (Nat × AV)) (B:ι->List (Nat × SB)) (J:ι->Prop) (h1:AW P N x (gO (fun s'=>∃i,J i/\WkT s' (lkB (B i)) (T i)/\WkB s' (lkB (B i)) (B i)) (jG id (gO (AW P N y Q) Q))) s)
  (h2:∀i,J i->AW P N y Q (stL (T i) (B i))):AW P N x (jG id (gO (AW P N y Q) Q)) s :=
 h1.mono fun e s' hq=>by
  cases e with
  | normal =>
   obtain ⟨i,hJ,ht,hB⟩:=hq
   exact AW.only _ _ ht hB (h2 i hJ)
  | _=>exact hq
section
variable {α : Type} [Inhabited α] {lt : α -> α -> Bool}
theorem nU (d:Array α) (b i:Nat):Go.Sort.scanSorted lt d b i=bif (decide (i<b) && !lt d[i]! d[i - 1]!) then Go.Sort.scanSorted lt d b (i+1) else i:=by
 rw [Go.Sort.scanSorted]
 cases (decide (i<b) && !lt d[i]! d[i - 1]!)
 ·rw [if_neg (by simp)];rfl
 ·rw [if_pos rfl];rfl
theorem kC:∀(j:Nat) (d:Array α),(Go.Sort.shiftDown lt j d).size=d.size
 | 0,d=>rfl
 | j+1,d=>by
  rw [Go.Sort.shiftDown]
  split
  ·rfl
  ·rw [kC j,ba]
theorem mA (b:Nat):∀(f j:Nat) (d:Array α),b - j<=f->(Go.Sort.shiftUp lt b j d).size=d.size
 | 0,j,d,hf=>by rw [Go.Sort.shiftUp,if_neg (by omega)]
 | f+1,j,d,hf=>by
  rw [Go.Sort.shiftUp]
  split
  ·split
   ·rfl
   ·rw [mA b f _ _ (by omega),ba]
  ·rfl
def pi1 (lt:α->α->Bool) (a i:Nat) (d:Array α):Array α:=bif decide (i - a>=2) then Go.Sort.shiftDown lt (i - 1) d else d
def pi2 (lt:α->α->Bool) (b i:Nat) (d:Array α):Array α:=bif decide (b - i>=2) then Go.Sort.shiftUp lt b (i+1) d else d
theorem EU {a i:Nat} {d:Array α}:(pi1 lt a i d).size=d.size:=by
 rw [pi1]
 cases decide (i - a>=2)
 ·rfl
 ·exact kC _ _
theorem Em {b i:Nat} {d:Array α}:(pi2 lt b i d).size=d.size:=by
 rw [pi2]
 cases decide (b - i>=2)
 ·rfl
 ·exact mA _ _ _ _ (qJ _)
theorem Gu {a b s i I:Nat} {d:Array α} (hI:Go.Sort.scanSorted lt d b i=I):Go.Sort.partialIns lt a b (s+1) i d=if I=b then (d,true) else if b - a<50 then (d,false) else Go.Sort.partialIns lt a b s I (pi2 lt b I (pi1 lt a I (swp d I (I - 1)))):=by
 subst hI
 rw [Go.Sort.partialIns]
 simp only [pi1,pi2,Bool.cond_decide]
end
theorem E0 (l:List Rl) (L:Nat) (hL:l.length=L+1) (n:Nat) (hl:n<=100000) (d:Array (Fin (L+1))) (hn:d.size=n) (a b:Nat) (ha:a<b) (hb:b<=n) (q:Nat->Option (Nat × Nat)):aq Tryz.prog 264 [.row 201 0 0 n,.i .i64 ((a:Nat):Int),.i .i64 ((b:Nat):Int),.fn 253 [.own 210 0 0] []] (gl q [210,201] (ioB l n (d))) (.b (Go.Sort.partialInsertionSort (ltI l L) d a b).2) (gl q [210,201] (ioB l n ((Go.Sort.partialInsertionSort (ltI l L) d a b).1))):=by
 refine aq.of_body Tryz.func264 rfl (by kernel_rfl) rfl rfl ?_
 obtain ⟨R,hR⟩:∃R,Go.Sort.partialInsertionSort (ltI l L) d a b=R:=⟨_,rfl⟩
 rw [hR]
 rw [Go.Sort.partialInsertionSort] at hR
 have w1:IntKind.i64.wrap (((a:Nat):Int)+Int.ofNat 1)=((a+1:Nat):Int):=by simp only [IntKind.wrap_i64,qG];omega
 refine jA ?_
 refine AW.loopL (ι:=(Nat × Nat) × Array (Fin (L+1))) (fun x=>[(0,.row 201 0 0 n),(1,.i .i64 ((a:Nat):Int)),(2,.i .i64 ((b:Nat):Int)),(3,.fn 253 [.own 210 0 0] []),(9,.i .i64 ((x.1.1:Nat):Int)),(10,.i .i64 ((x.1.2:Nat):Int))]) (fun x=>gl q [210,201] (ioB l n (x.2))) (fun x=>(a<x.1.1/\x.1.1<=b/\x.1.2<=5/\x.2.size=n)/\Go.Sort.partialIns (ltI l L) a b (5 - x.1.2) x.1.1 x.2=R) (fun x=>5 - x.1.2) ((a+1,0),d) ⟨⟨by show a<a+1;omega,by show a+1<=b;omega,by show 0<=5;omega,hn⟩,hR⟩ ⟨Rn.rowIs rfl rfl rfl,Rn.is rfl rfl,Rn.is rfl rfl,Rn.fnO rfl rfl rfl,Rn.is (congrArg (AV.i .i64) w1) rfl,Rn.is rfl rfl,trivial⟩ (ak rfl rfl rfl rfl rfl (rfl) (ah (by assumption))) fun x hx=>?_
 clear hR hn w1
 obtain ⟨⟨i,st⟩,m⟩:=x
 obtain ⟨⟨hi,hib,hst,hm⟩,hG⟩:=hx
 simp only at hi hib hst hm hG
 refine jA ?_
 refine AW.cond rfl (fun h0=>?_) (fun h0=>?_)
 rotate_left
 ·have h : st = 5 := by
   have:=of_decide_eq_false h0
   simp only [qG] at this
   omega
  subst h
  have hG:(m,false)=R:=hG
  subst hG
  refine zE ?_
  exact AW.ret (dQ rfl (Rm.is rfl rfl) (ak rfl rfl rfl rfl rfl (rfl) (ah (by assumption))))
 have h:st<5:=by
  have:=of_decide_eq_true h0
  simp only [qG] at this
  omega
 obtain ⟨I,hI⟩:∃I,Go.Sort.scanSorted (ltI l L) m b i=I:=⟨_,rfl⟩
 rw [show 5 - st=(5 - (st+1))+1 by omega,Gu hI] at hG
 refine jB ?_
 refine AW.loopL (ι:=Nat) (fun x=>[(0,.row 201 0 0 n),(1,.i .i64 ((a:Nat):Int)),(2,.i .i64 ((b:Nat):Int)),(3,.fn 253 [.own 210 0 0] []),(9,.i .i64 ((x:Nat):Int)),(10,.i .i64 ((st:Nat):Int))]) (fun _=>gl q [210,201] (ioB l n (m))) (fun x=>(i<=x/\x<=b)/\Go.Sort.scanSorted (ltI l L) m b x=I) (fun x=>b - x) i ⟨by omega,hI⟩ jQ (ak rfl rfl rfl rfl rfl (rfl) (ah (by assumption))) fun x hx=>?_
 clear hI
 obtain ⟨hx,hf⟩:=hx
 rw [nU] at hf
 refine jB ?_
 refine AW.cutT (ι:=Unit) (fun _=>[(0,.row 201 0 0 n),(1,.i .i64 ((a:Nat):Int)),(2,.i .i64 ((b:Nat):Int)),(3,.fn 253 [.own 210 0 0] []),(9,.i .i64 ((x:Nat):Int)),(10,.i .i64 ((st:Nat):Int)),(36,.b (decide (x<b) && (!ltI l L m[x]! m[x - 1]!)))]) (fun _=>gl q [210,201] (ioB l n (m))) (fun _=>True) ?_ fun _ _=>?_
 ·refine AW.draws aN ?_
  by_cases g1:((x:Nat):Int)<((b:Nat):Int)
  ·refine RG.runO af 0 [(21,.b true)] 400 rfl jD ?_
   refine wH rfl ?_;refine jI (ia (x) am ((m).toList)) ?_;refine jL (lA (x) am (m)) ?_
   refine wH rfl ?_;refine jI (ia (x - 1) am ((m).toList)) ?_;refine jL (lA (x - 1) am (m)) ?_
   refine wH rfl ?_
   refine RG.ownK [(210,210),(201,201)] [(210,210),(201,201)] 201 201 rfl (fun q=>bA l L hL n (m) (m[x]!) (m[x - 1]!) q (ah (by assumption))) rfl rfl rfl rfl rfl rfl rfl rfl rfl rfl rfl rfl rfl ?_
   refine wH rfl ?_;refine jB ?_
   exact ⟨(),trivial,⟨Rn.rowIs rfl rfl rfl,Rn.is rfl rfl,Rn.is rfl rfl,Rn.fnO rfl rfl rfl,Rn.is rfl rfl,Rn.is rfl rfl,Rn.is (congrArg AV.b (by rw [qF (show x<b by omega),uM];rfl)) rfl,trivial⟩,ak rfl rfl rfl rfl rfl (rfl) (ah (by assumption))⟩
  ·refine RG.runO af 0 [(21,.b false)] 400 rfl jD ?_
   refine jB ?_
   exact ⟨(),trivial,⟨Rn.rowIs rfl rfl rfl,Rn.is rfl rfl,Rn.is rfl rfl,Rn.fnO rfl rfl rfl,Rn.is rfl rfl,Rn.is rfl rfl,Rn.is (congrArg AV.b (by rw [qC (show ¬x<b by omega),uP])) rfl,trivial⟩,ak rfl rfl rfl rfl rfl (rfl) (ah (by assumption))⟩
 cases hcb:(decide (x<b) && (!ltI l L m[x]! m[x - 1]!))
 rotate_left
 ·rw [hcb,cond_true] at hf
  have hle:x<b:=by
   rw [qQ,vM] at hcb
   exact hcb.1
  have w9:IntKind.i64.wrap (((x:Nat):Int)+Int.ofNat 1)=((x+1:Nat):Int):=by simp only [IntKind.wrap_i64,qG];omega
  refine AW.cond rfl (fun _=>?_) (fun h1=>by cases h1)
  refine jA ?_
  exact ⟨x+1,⟨⟨by omega,hf⟩,by omega⟩,⟨Rn.rowIs rfl rfl rfl,Rn.is rfl rfl,Rn.is rfl rfl,Rn.fnO rfl rfl rfl,Rn.is (congrArg (AV.i .i64) w9) rfl,Rn.is rfl rfl,trivial⟩,ak rfl rfl rfl rfl rfl (rfl) (ah (by assumption))⟩
 rw [hcb,cond_false] at hf
 clear hcb
 obtain rfl:I=x:=hf.symm
 refine AW.cond rfl (fun h1=>by cases h1) (fun _=>?_)
 refine zE ?_
 refine AW.cond rfl (fun h1=>?_) (fun h1=>?_)
 ·have k : I = b := by
   have:=of_decide_eq_true h1
   omega
  rw [if_pos k] at hG
  subst hG
  refine jA ?_
  exact AW.ret (dQ rfl (Rm.is rfl rfl) (ak rfl rfl rfl rfl rfl (rfl) (ah (by assumption))))
 have k:¬I=b:=by
  have:=of_decide_eq_false h1
  omega
 rw [if_neg k] at hG
 have wl:IntKind.i64.wrap (((b:Nat):Int) - ((a:Nat):Int))=((b - a:Nat):Int):=by rw [IntKind.wrap_i64];omega
 refine zB ?_
 refine RG.runO af 0 [(44,.i .i64 ((b - a:Nat):Int))] 400 rfl jD ?_
 refine jB ?_
 refine AW.cond rfl (fun h2=>?_) (fun h2=>?_)
 ·have k2 : b - a < 50 := by
   have:=of_decide_eq_true h2
   simp only [qG] at this
   omega
  rw [if_pos k2] at hG
  subst hG
  refine jA ?_
  exact AW.ret (dQ rfl (Rm.is rfl rfl) (ak rfl rfl rfl rfl rfl (rfl) (ah (by assumption))))
 have k2:¬b - a<50:=by
  have:=of_decide_eq_false h2
  simp only [qG] at this
  omega
 rw [if_neg k2] at hG
 refine zD ?_
 refine wH rfl ?_;refine jI (ia (I - 1) am ((m).toList)) ?_;refine jL (lA (I - 1) am (m)) ?_;refine wH rfl ?_;refine jI (ia (I) am ((m).toList)) ?_;refine jL (lA (I) am (m)) ?_;refine wH rfl ?_;refine jI (ia (I) am ((m).toList)) ?_;refine RG.opS rfl (aR (I) am ((m).toList) ((m)[I - 1]!) (by simp only [vF,qL];omega) rfl (tk rfl) rfl rfl rfl rfl rfl (fun _=>rfl)) rfl ?_;refine wH rfl ?_;refine jI (ia (I - 1) am (((m).toList.set (I) (m)[I - 1]!))) ?_;refine RG.opS rfl (aR (I - 1) am (((m).toList.set (I) (m)[I - 1]!)) ((m)[I]!) (by simp only [vF,qL];omega) rfl (tk rfl) rfl rfl rfl rfl rfl (fun _=>rfl)) rfl ?_
 rw [<- bf]
 have hm0:=(ba m I (I - 1)).trans hm
 generalize swp m I (I - 1)=m0 at hG hm0 ⊢
 refine jH ?_
 have wIa:IntKind.i64.wrap (((I:Nat):Int) - ((a:Nat):Int))=((I - a:Nat):Int):=by rw [IntKind.wrap_i64];omega
 obtain ⟨m1,e1⟩:∃z,pi1 (ltI l L) a I m0=z:=⟨_,rfl⟩
 have hm1:m1.size=n:=by rw [<- e1,EU];exact hm0
 rw [e1] at hG
 rw [pi1] at e1
 refine AW.cutT (ι:=Unit) (fun _=>[(0,.row 201 0 0 n),(1,.i .i64 ((a:Nat):Int)),(2,.i .i64 ((b:Nat):Int)),(3,.fn 253 [.own 210 0 0] []),(9,.i .i64 ((I:Nat):Int)),(10,.i .i64 ((st:Nat):Int))]) (fun _=>gl q [210,201] (ioB l n (m1))) (fun _=>True) ?_ fun _ _=>?_
 ·refine AW.cond rfl (fun h3=>?_) (fun h3=>?_)
  rotate_left
  ·have k3 : ¬ I - a >= 2 := by
    have:=of_decide_eq_false h3
    simp only [qG] at this
    rw [wIa] at this
    omega
   rw [qC k3,cond_false] at e1
   subst e1
   refine jA ?_
   exact ⟨(),trivial,jQ,ak rfl rfl rfl rfl rfl (rfl) (ah (by assumption))⟩
  have k3:I - a>=2:=by
   have:=of_decide_eq_true h3
   simp only [qG] at this
   rw [wIa] at this
   omega
  rw [qF k3,cond_true] at e1
  have wj:IntKind.i64.wrap (((I:Nat):Int) - Int.ofNat 1)=((I - 1:Nat):Int):=by simp only [IntKind.wrap_i64,qG];omega
  refine jA ?_
  refine AW.loopL (ι:=Nat × Array (Fin (L+1))) (fun x=>[(0,.row 201 0 0 n),(1,.i .i64 ((a:Nat):Int)),(2,.i .i64 ((b:Nat):Int)),(3,.fn 253 [.own 210 0 0] []),(9,.i .i64 ((I:Nat):Int)),(10,.i .i64 ((st:Nat):Int)),(11,.i .i64 ((x.1:Nat):Int))]) (fun x=>gl q [210,201] (ioB l n (x.2))) (fun x=>(x.1<I/\x.2.size=n)/\Go.Sort.shiftDown (ltI l L) x.1 x.2=m1) (fun x=>x.1) (I - 1,m0) ⟨⟨by show I - 1<I;omega,hm0⟩,e1⟩ ⟨Rn.rowIs rfl rfl rfl,Rn.is rfl rfl,Rn.is rfl rfl,Rn.fnO rfl rfl rfl,Rn.is rfl rfl,Rn.is rfl rfl,Rn.is (congrArg (AV.i .i64) wj) rfl,trivial⟩ (ak rfl rfl rfl rfl rfl (rfl) (ah (by assumption))) fun x hx=>?_
  clear e1 wj
  obtain ⟨j,v⟩:=x
  obtain ⟨⟨hj,hv⟩,hs⟩:=hx
  simp only at hj hv hs
  refine jA ?_
  refine AW.cond rfl (fun h4=>?_) (fun h4=>?_)
  rotate_left
  ·have k4 : j = 0 := by
    have:=of_decide_eq_false h4
    simp only [qG] at this
    omega
   subst k4
   have hs:v=m1:=hs
   subst hs
   refine zE ?_
   exact ⟨(),trivial,jQ,ak rfl rfl rfl rfl rfl (rfl) (ah (by assumption))⟩
  have k4:0<j:=by
   have:=of_decide_eq_true h4
   simp only [qG] at this
   omega
  obtain ⟨j,rfl⟩:∃z,j=z+1:=⟨j - 1,by omega⟩
  rw [Go.Sort.shiftDown] at hs
  have wk:IntKind.i64.wrap (((j+1:Nat):Int) - Int.ofNat 1)=((j:Nat):Int):=by simp only [IntKind.wrap_i64,qG];omega
  refine zD ?_
  refine wH rfl ?_;refine jI (ia (j+1) am ((v).toList)) ?_;refine jL (lA (j+1) am (v)) ?_
  refine wH rfl ?_;refine jI (ia (j) am ((v).toList)) ?_;refine jL (lA (j) am (v)) ?_
  refine wH rfl ?_
  refine RG.ownK [(210,210),(201,201)] [(210,210),(201,201)] 201 201 rfl (fun q=>bA l L hL n (v) (v[j+1]!) (v[j]!) q (ah (by assumption))) rfl rfl rfl rfl rfl rfl rfl rfl rfl rfl rfl rfl rfl ?_
  refine wH rfl ?_;refine jB ?_
  refine AW.cond rfl (fun h5=>?_) (fun h5=>?_)
  ·rw [if_pos (show (!ltI l L v[j+1]! v[j]!)=true from h5)] at hs
   subst hs
   refine jA ?_
   refine AW.exit ?_;first | (refine Eq.mpr (if_pos rfl) ?_) | (refine Eq.mpr (if_neg (by decide)) ?_;refine Eq.mpr (if_pos rfl) ?_) | (refine Eq.mpr (if_neg (by decide)) ?_;refine Eq.mpr (if_neg (by decide)) ?_;refine Eq.mpr (if_pos rfl) ?_);refine jA ?_
   exact ⟨(),trivial,jQ,ak rfl rfl rfl rfl rfl (rfl) (ah (by assumption))⟩
  ·rw [if_neg (by rw [show (!ltI l L v[j+1]! v[j]!)=false from h5];decide)] at hs
   have hv2:=(ba v (j+1) j).trans hv
   refine zD ?_
   refine wH rfl ?_;refine jI (ia (j) am ((v).toList)) ?_;refine jL (lA (j) am (v)) ?_;refine wH rfl ?_;refine jI (ia (j+1) am ((v).toList)) ?_;refine jL (lA (j+1) am (v)) ?_;refine wH rfl ?_;refine jI (ia (j+1) am ((v).toList)) ?_;refine RG.opS rfl (aR (j+1) am ((v).toList) ((v)[j]!) (by simp only [vF,qL];omega) rfl (tk rfl) rfl rfl rfl rfl rfl (fun _=>rfl)) rfl ?_;refine wH rfl ?_;refine jI (ia (j) am (((v).toList.set (j+1) (v)[j]!))) ?_;refine RG.opS rfl (aR (j) am (((v).toList.set (j+1) (v)[j]!)) ((v)[j+1]!) (by simp only [vF,qL];omega) rfl (tk rfl) rfl rfl rfl rfl rfl (fun _=>rfl)) rfl ?_
   refine wH rfl ?_;refine jB ?_
   refine AW.text ?_
   refine wH rfl ?_;refine jB ?_
   exact ⟨(j,swp v (j+1) j),⟨⟨⟨by show j<I;omega,hv2⟩,hs⟩,by show j<j+1;omega⟩,⟨Rn.rowTIs rfl rfl rfl (ah (hv2)),Rn.is rfl rfl,Rn.is rfl rfl,Rn.fnO rfl rfl rfl,Rn.is rfl rfl,Rn.is rfl rfl,Rn.is (congrArg (AV.i .i64) wk) rfl,trivial⟩,ak rfl rfl rfl rfl rfl (by rw [bf]) (ah (by assumption))⟩
 have wbI:IntKind.i64.wrap (((b:Nat):Int) - ((I:Nat):Int))=((b - I:Nat):Int):=by rw [IntKind.wrap_i64];omega
 obtain ⟨m2,e2⟩:∃z,pi2 (ltI l L) b I m1=z:=⟨_,rfl⟩
 have hm2:m2.size=n:=by rw [<- e2,Em];exact hm1
 rw [e2] at hG
 rw [pi2] at e2
 refine jA ?_
 refine AW.cutB (ι:=Unit) (fun _=>[(0,.row 201 0 0 n),(1,.i .i64 ((a:Nat):Int)),(2,.i .i64 ((b:Nat):Int)),(3,.fn 253 [.own 210 0 0] []),(9,.i .i64 ((I:Nat):Int)),(10,.i .i64 ((st:Nat):Int))]) (fun _=>gl q [210,201] (ioB l n (m2))) (fun _=>True) ?_ fun _ _=>?_
 ·refine AW.cond rfl (fun h3=>?_) (fun h3=>?_)
  rotate_left
  ·have k3 : ¬ b - I >= 2 := by
    have:=of_decide_eq_false h3
    simp only [qG] at this
    rw [wbI] at this
    omega
   rw [qC k3,cond_false] at e2
   subst e2
   refine jA ?_
   exact ⟨(),trivial,jQ,ak rfl rfl rfl rfl rfl (rfl) (ah (by assumption))⟩
  have k3:b - I>=2:=by
   have:=of_decide_eq_true h3
   simp only [qG] at this
   rw [wbI] at this
   omega
  rw [qF k3,cond_true] at e2
  have wj:IntKind.i64.wrap (((I:Nat):Int)+Int.ofNat 1)=((I+1:Nat):Int):=by simp only [IntKind.wrap_i64,qG];omega
  refine jA ?_
  refine AW.loopL (ι:=Nat × Array (Fin (L+1))) (fun x=>[(0,.row 201 0 0 n),(1,.i .i64 ((a:Nat):Int)),(2,.i .i64 ((b:Nat):Int)),(3,.fn 253 [.own 210 0 0] []),(9,.i .i64 ((I:Nat):Int)),(10,.i .i64 ((st:Nat):Int)),(12,.i .i64 ((x.1:Nat):Int))]) (fun x=>gl q [210,201] (ioB l n (x.2))) (fun x=>(I<x.1/\x.1<=b/\x.2.size=n)/\Go.Sort.shiftUp (ltI l L) b x.1 x.2=m2) (fun x=>b - x.1) (I+1,m1) ⟨⟨by show I<I+1;omega,by show I+1<=b;omega,hm1⟩,e2⟩ ⟨Rn.rowIs rfl rfl rfl,Rn.is rfl rfl,Rn.is rfl rfl,Rn.fnO rfl rfl rfl,Rn.is rfl rfl,Rn.is rfl rfl,Rn.is (congrArg (AV.i .i64) wj) rfl,trivial⟩ (ak rfl rfl rfl rfl rfl (rfl) (ah (by assumption))) fun x hx=>?_
  clear e2 wj
  obtain ⟨j,v⟩:=x
  obtain ⟨⟨hj0,hj,hv⟩,hs⟩:=hx
  simp only at hj0 hj hv hs
  rw [Go.Sort.shiftUp] at hs
  refine jA ?_
  refine AW.cond rfl (fun h4=>?_) (fun h4=>?_)
  rotate_left
  ·have k4 : ¬ j < b := by
    have:=of_decide_eq_false h4
    omega
   rw [if_neg k4] at hs
   subst hs
   refine zE ?_
   exact ⟨(),trivial,jQ,ak rfl rfl rfl rfl rfl (rfl) (ah (by assumption))⟩
  have k4:j<b:=by
   have:=of_decide_eq_true h4
   omega
  rw [if_pos k4] at hs
  have wk:IntKind.i64.wrap (((j:Nat):Int)+Int.ofNat 1)=((j+1:Nat):Int):=by simp only [IntKind.wrap_i64,qG];omega
  refine zD ?_
  refine wH rfl ?_;refine jI (ia (j) am ((v).toList)) ?_;refine jL (lA (j) am (v)) ?_
  refine wH rfl ?_;refine jI (ia (j - 1) am ((v).toList)) ?_;refine jL (lA (j - 1) am (v)) ?_
  refine wH rfl ?_
  refine RG.ownK [(210,210),(201,201)] [(210,210),(201,201)] 201 201 rfl (fun q=>bA l L hL n (v) (v[j]!) (v[j - 1]!) q (ah (by assumption))) rfl rfl rfl rfl rfl rfl rfl rfl rfl rfl rfl rfl rfl ?_
  refine wH rfl ?_;refine jB ?_
  refine AW.cond rfl (fun h5=>?_) (fun h5=>?_)
  ·rw [if_pos (show (!ltI l L v[j]! v[j - 1]!)=true from h5)] at hs
   subst hs
   refine jA ?_
   refine AW.exit ?_;first | (refine Eq.mpr (if_pos rfl) ?_) | (refine Eq.mpr (if_neg (by decide)) ?_;refine Eq.mpr (if_pos rfl) ?_) | (refine Eq.mpr (if_neg (by decide)) ?_;refine Eq.mpr (if_neg (by decide)) ?_;refine Eq.mpr (if_pos rfl) ?_);refine jA ?_
   exact ⟨(),trivial,jQ,ak rfl rfl rfl rfl rfl (rfl) (ah (by assumption))⟩
  ·rw [if_neg (by rw [show (!ltI l L v[j]! v[j - 1]!)=false from h5];decide)] at hs
   have hv2:=(ba v j (j - 1)).trans hv
   refine zD ?_
   refine wH rfl ?_;refine jI (ia (j - 1) am ((v).toList)) ?_;refine jL (lA (j - 1) am (v)) ?_;refine wH rfl ?_;refine jI (ia (j) am ((v).toList)) ?_;refine jL (lA (j) am (v)) ?_;refine wH rfl ?_;refine jI (ia (j) am ((v).toList)) ?_;refine RG.opS rfl (aR (j) am ((v).toList) ((v)[j - 1]!) (by simp only [vF,qL];omega) rfl (tk rfl) rfl rfl rfl rfl rfl (fun _=>rfl)) rfl ?_;refine wH rfl ?_;refine jI (ia (j - 1) am (((v).toList.set (j) (v)[j - 1]!))) ?_;refine RG.opS rfl (aR (j - 1) am (((v).toList.set (j) (v)[j - 1]!)) ((v)[j]!) (by simp only [vF,qL];omega) rfl (tk rfl) rfl rfl rfl rfl rfl (fun _=>rfl)) rfl ?_
   refine wH rfl ?_;refine jB ?_
   refine AW.text ?_
   refine wH rfl ?_;refine jB ?_
   exact ⟨(j+1,swp v j (j - 1)),⟨⟨⟨by show I<j+1;omega,by show j+1<=b;omega,hv2⟩,hs⟩,by show b - (j+1)<b - j;omega⟩,⟨Rn.rowTIs rfl rfl rfl (ah (hv2)),Rn.is rfl rfl,Rn.is rfl rfl,Rn.fnO rfl rfl rfl,Rn.is rfl rfl,Rn.is rfl rfl,Rn.is (congrArg (AV.i .i64) wk) rfl,trivial⟩,ak rfl rfl rfl rfl rfl (by rw [bf]) (ah (by assumption))⟩
 have ws:IntKind.i64.wrap (((st:Nat):Int)+Int.ofNat 1)=((st+1:Nat):Int):=by simp only [IntKind.wrap_i64,qG];omega
 refine jA ?_
 exact ⟨((I,st+1),m2),⟨⟨⟨by show a<I;omega,by show I<=b;omega,by show st+1<=5;omega,hm2⟩,hG⟩,by show 5 - (st+1)<5 - st;omega⟩,⟨Rn.rowIs rfl rfl rfl,Rn.is rfl rfl,Rn.is rfl rfl,Rn.fnO rfl rfl rfl,Rn.is rfl rfl,Rn.is (congrArg (AV.i .i64) ws) rfl,trivial⟩,ak rfl rfl rfl rfl rfl (rfl) (ah (by assumption))⟩
end Go.Proofs.YtdidjpohnopihaaGreat.Sm
end
section
namespace Go.Proofs.YtdidjpohnopihaaGreat.Sm
open Go.RowKit
open Go.Sort (swp)
theorem BN {l:List UInt8} (h:(List.range 256).all (fun k=>l[k]? == some (UInt8.ofNat (Go.Sort.bitsLen k)))=true) {v:UInt64} (hv:v.toNat<256):l[v.toUInt8.toNat]?=some (UInt8.ofNat (Go.Sort.bitsLen v.toNat)):=by
 have h1:=qW.1 h v.toNat (uV.2 hv)
 have e:v.toUInt8.toNat=v.toNat:=by rw [UInt64.toNat_toUInt8];omega
 rw [e]
 simpa using h1
theorem ll {k:Nat} (h:k<256):Go.Sort.bitsLen k<=8:=(Go.Sort.bitsLen_le_iff k 8).2 h
theorem AE (v:UInt64) (hv:v.toNat<256):ae Tryz.prog 151 [.u v] (.i .i64 ((Go.Sort.bitsLen v.toNat:Nat):Int)):=by
 refine jb Tryz.func151 ?_
 have h8:=ll hv
 refine jA ?_
 refine AW.cond rfl (fun h=>?_) (fun h=>?_)
 ·have:=UInt64.le_iff_toNat_le.1 (of_decide_eq_true h)
  exact absurd (Nat.lt_of_le_of_lt this hv) (by decide)
 clear h
 refine jA ?_
 refine AW.cond rfl (fun h=>?_) (fun h=>?_)
 ·have:=UInt64.le_iff_toNat_le.1 (of_decide_eq_true h)
  exact absurd (Nat.lt_of_le_of_lt this hv) (by decide)
 clear h
 refine jA ?_
 refine AW.cond rfl (fun h=>?_) (fun h=>?_)
 ·have:=UInt64.le_iff_toNat_le.1 (of_decide_eq_true h)
  exact absurd (Nat.lt_of_le_of_lt this hv) (by decide)
 clear h
 refine jA ?_
 refine RG.opS rfl (nH rfl (tk rfl) rfl rfl rfl (BN (by kernel_rfl) hv)) rfl ?_
 refine zH ?_
 have e:(UInt8.ofNat (Go.Sort.bitsLen v.toNat)).toNat=Go.Sort.bitsLen v.toNat:=by rw [UInt8.toNat_ofNat'];omega
 have e2:IntKind.i64.wrap ((Go.Sort.bitsLen v.toNat:Nat):Int)=((Go.Sort.bitsLen v.toNat:Nat):Int):=by rw [IntKind.wrap_i64];omega
 show AV.i .i64 (IntKind.i64.wrap (0+IntKind.i64.wrap (((UInt8.ofNat (Go.Sort.bitsLen v.toNat)).toNat:Nat):Int)))=_
 rw [e,e2,Int.zero_add,e2]
theorem tQ (v:UInt64) (hv:v.toNat<256):ae Tryz.prog 105 [.u v] (.i .i64 ((Go.Sort.bitsLen v.toNat:Nat):Int)):=by
 have hr:=AE v hv
 refine jb Tryz.func105 ?_
 refine jA ?_
 refine zF ?_
 refine jc hr ?_;refine jH ?_
 exact zS
theorem kg {k:Nat} (h:k<256):(cy ((k:Nat):Int)).toNat=k:=by
 have e:=eX ((k:Nat):Int)
 rw [IntKind.wrap_u64] at e
 omega
def tF (k:Nat):UInt64:=db (UInt64.ofNat 1) (Go.Sort.bitsLen k)
theorem xk (k:Nat) (hk:k<256):ae Tryz.prog 193 [.i .i64 ((k:Nat):Int)] (.u (tF k)):=by
 have hr:=tQ (cy ((k:Nat):Int)) (by rw [kg hk];exact hk)
 rw [kg hk] at hr
 refine jb Tryz.func193 ?_
 refine jA ?_
 refine jc hr ?_;refine jH ?_
 exact zS
theorem sk (a:UInt64) {k:Nat} (h:k<64):db a k=a <<< UInt64.ofNat k:=by
 apply UInt64.toNat_inj.1
 rw [db,UInt64.toNat_ofNat',UInt64.toNat_shiftLeft,UInt64.toNat_ofNat',Nat.shiftLeft_eq,Nat.min_eq_left (by omega)]
 have:k % 2 ^ 64 % 64=k:=by omega
 rw [this]
theorem qn (a:UInt64) {k:Nat} (h:k<64):cw a k=a >>> UInt64.ofNat k:=by
 apply UInt64.toNat_inj.1
 rw [cw,UInt64.toNat_ofNat',UInt64.toNat_shiftRight,UInt64.toNat_ofNat',Nat.shiftRight_eq_div_pow,Nat.min_eq_left (by omega)]
 have:k % 2 ^ 64 % 64=k:=by omega
 rw [this]
 exact Nat.mod_eq_of_lt (Nat.lt_of_le_of_lt (Nat.div_le_self _ _) (UInt64.toNat_lt a))
def xsB (r:UInt64):List (Nat × SB):=[(240,⟨0,some (.box 276 [.u r])⟩)]
theorem E3 (r:UInt64) (q:Nat->Option (Nat × Nat)):aq Tryz.prog 194 [.own 240 0 0] (gl q [240] (xsB r)) (.u (Go.Sort.xorNext r)) (gl q [240] (xsB (Go.Sort.xorNext r))):=by
 refine aq.of_body Tryz.func194 rfl (by kernel_rfl) rfl rfl ?_
 have e:Go.Sort.xorNext r=((r ^^^ db r 13) ^^^ cw (r ^^^ db r 13) 7) ^^^ db ((r ^^^ db r 13) ^^^ cw (r ^^^ db r 13) 7) 17:=by
  rw [sk _ (by decide),qn _ (by decide),sk _ (by decide)];rfl
 rw [e]
 refine jA ?_
 exact AW.ret (dQ rfl (Rm.is rfl rfl) ⟨.ghost rfl rfl rfl,.boxL rfl jQ rfl,trivial⟩)
section
variable {α : Type} [Inhabited α]
def xS (a len md:Nat):Nat->Nat->UInt64 × Array α->UInt64 × Array α
 | 0,_,st=>st
 | k+1,idx,st=>xS a len md k (idx+1) (Go.Sort.breakStep a len md st idx)
theorem ER {d:Array α} {a b:Nat} (h:b - a>=8):Go.Sort.breakPatterns d a b=(xS a (b - a) (1 <<< Go.Sort.bitsLen (b - a)) 3 (a+(b - a) / 4*2 - 1) (UInt64.ofNat (b - a),d)).2:=by
 rw [Go.Sort.breakPatterns]
 simp only [h,if_true]
 rfl
def xM (len md:Nat) (r:UInt64):Nat:=bif decide ((Go.Sort.xorNext r).toNat &&& (md - 1)>=len) then ((Go.Sort.xorNext r).toNat &&& (md - 1)) - len else (Go.Sort.xorNext r).toNat &&& (md - 1)
theorem yO {a len md idx:Nat} {r:UInt64} {d:Array α}:Go.Sort.breakStep a len md (r,d) idx=(Go.Sort.xorNext r,swp d idx (a+xM len md r)):=by
 rw [Go.Sort.breakStep,xM]
 simp only [Bool.cond_decide]
theorem CY {len:Nat} (h:0<len) (r:UInt64):xM len (1 <<< Go.Sort.bitsLen len) r<len:=by
 have h1:=Go.Sort.two_pow_bitsLen_le h
 have h2:(Go.Sort.xorNext r).toNat &&& ((1 <<< Go.Sort.bitsLen len) - 1)<=(1 <<< Go.Sort.bitsLen len) - 1:=Nat.and_le_right
 rw [Nat.one_shiftLeft] at h2 ⊢
 rw [xM]
 have h3:0<2 ^ Go.Sort.bitsLen len:=Nat.two_pow_pos _
 by_cases k:(Go.Sort.xorNext r).toNat &&& (2 ^ Go.Sort.bitsLen len - 1)>=len
 ·rw [qF k,cond_true];omega
 ·rw [qC k,cond_false];omega
end
theorem AD {len:Nat} (h:len<256) (h0:0<len) (r:UInt64):IntKind.i64.wrap (((r &&& (tF len - UInt64.ofNat 1)).toNat:Nat):Int)=((r.toNat &&& ((1 <<< Go.Sort.bitsLen len) - 1):Nat):Int):=by
 have h8:=ll h
 have e:(tF len).toNat=1 <<< Go.Sort.bitsLen len:=by
  rw [tF,db,UInt64.toNat_ofNat',Nat.one_shiftLeft,Nat.min_eq_left (by omega)]
  have h1:2 ^ Go.Sort.bitsLen len<=2 ^ 8:=Nat.pow_le_pow_right (by decide) h8
  show (1*2 ^ Go.Sort.bitsLen len) % 2 ^ 64=_
  rw [Nat.one_mul]
  exact Nat.mod_eq_of_lt (by omega)
 have hp:0<1 <<< Go.Sort.bitsLen len:=by rw [Nat.one_shiftLeft];exact Nat.two_pow_pos _
 have h2:(1 <<< Go.Sort.bitsLen len)<=2 ^ 8:=by rw [Nat.one_shiftLeft];exact Nat.pow_le_pow_right (by decide) h8
 have e2:(tF len - UInt64.ofNat 1).toNat=(1 <<< Go.Sort.bitsLen len) - 1:=by
  rw [UInt64.toNat_sub_of_le _ _ (UInt64.le_iff_toNat_le.2 (by rw [e];exact hp)),e];rfl
 rw [UInt64.toNat_and,e2]
 have h3:r.toNat &&& ((1 <<< Go.Sort.bitsLen len) - 1)<=(1 <<< Go.Sort.bitsLen len) - 1:=Nat.and_le_right
 generalize r.toNat &&& ((1 <<< Go.Sort.bitsLen len) - 1)=x at h3
 rw [IntKind.wrap_i64];omega
end Go.Proofs.YtdidjpohnopihaaGreat.Sm
end
section
namespace Go.Proofs.YtdidjpohnopihaaGreat.Sm
open Go.RowKit
open Go.Sort (swp)
def bpB {L:Nat} (q:Nat->Option (Nat × Nat)) (l:List Rl) (n:Nat) (d:Array (Fin (L+1))) (r:UInt64):List (Nat × SB):=(9,⟨0,some (.box 276 [.u r])⟩)::gl q [210,201] (ioB l n d)
theorem pz {L:Nat} {l:List Rl} {d:Array (Fin (L+1))} {s:St} {q:Nat->Option (Nat × Nat)} {n e e1 e1' e3 g g1:Nat} {r:UInt64} {els:List (List AV)} {cs:List AV} (h3:s.σ 9=⟨e3,some (.box 276 cs)⟩) (h0:s.σ 210=⟨e,some (.box 322 [.sl (l.map cRl),.row 201 e1 0 n])⟩) (h1:s.σ 201=⟨e1',some (.row 3 1 els)⟩)
  (hg:s.σ 1110=⟨g,some (.ghost 210 e (q 210))⟩) (hg1:s.σ 1101=⟨g1,some (.ghost 201 e1' (q 201))⟩) (he:e1=e1') (hc:cs=[.u r]) (hel:els=d.toList.map am) (hn:0+n<=(d.toList.map am).length):WkB s (lkB (bpB q l n d r)) (bpB q l n d r):=by
 subst he hel hc
 exact ⟨.boxL h3 jQ rfl,.ghost hg h0 rfl,.ghost hg1 h1 rfl,.boxL h0 ⟨Rn.is rfl rfl,Rn.rowIs rfl h1 rfl,trivial⟩ rfl,.row h1 rfl,trivial⟩
theorem BG (l:List Rl) (L:Nat) (hL:l.length=L+1) (n:Nat) (hl:n<=100000) (d:Array (Fin (L+1))) (hn:d.size=n) (a b:Nat) (hab:a+8<=b) (hb:b<=n) (h256:n<256) (q:Nat->Option (Nat × Nat)):aq Tryz.prog 261 [.row 201 0 0 n,.i .i64 ((a:Nat):Int),.i .i64 ((b:Nat):Int),.fn 253 [.own 210 0 0] []] (gl q [210,201] (ioB l n (d))) (.tup []) (gl q [210,201] (ioB l n (Go.Sort.breakPatterns d a b))):=by
 refine aq.of_body Tryz.func261 rfl (by kernel_rfl) rfl rfl ?_
 obtain ⟨G,hG⟩:∃R,Go.Sort.breakPatterns d a b=R:=⟨_,rfl⟩
 rw [hG]
 rw [ER (by omega)] at hG
 have wl:IntKind.i64.wrap (((b:Nat):Int) - ((a:Nat):Int))=((b - a:Nat):Int):=by rw [IntKind.wrap_i64];omega
 generalize hm:b - a=m at wl hG
 have w2:=pI m 2 (by omega) (by decide) a (by omega)
 have wb:IntKind.i64.wrap (((a+m / 4*2:Nat):Int) - Int.ofNat 1)=((a+m / 4*2 - 1:Nat):Int):=by rw [IntKind.wrap_i64];simp only [qG];omega
 have wc:IntKind.i64.wrap (((a+m / 4*2:Nat):Int)+Int.ofNat 1)=((a+m / 4*2+1:Nat):Int):=by rw [IntKind.wrap_i64];simp only [qG];omega
 have hlen:=xk m (by omega)
 have hr0:cy ((m:Nat):Int)=UInt64.ofNat m:=mq m (by omega)
 refine zB ?_
 refine RG.runO af 0 [(15,.i .i64 ((m:Nat):Int))] 400 rfl jD ?_
 refine jA ?_
 refine AW.cond rfl (fun h0=>?_) (fun h0=>?_)
 rotate_left
 ·exfalso
  have:=of_decide_eq_false h0
  simp only [qG] at this
  omega
 refine jB ?_;refine wF ?_;refine wH rfl ?_;refine jB ?_
 refine AW.text ?_
 refine wH rfl ?_
 refine jc hlen ?_
 refine wH rfl ?_;refine jB ?_
 refine AW.text ?_
 refine RG.runO af 0 [(26,.i .i64 ((a+m / 4*2:Nat):Int)),(27,.i .i64 ((a+m / 4*2 - 1:Nat):Int))] 400 rfl jD ?_
 refine jA ?_
 have hm4:m / 4*2+1<m/\2<=m / 4:=by omega
 obtain ⟨c,hc⟩:∃c,a+m / 4*2 - 1=c:=⟨_,rfl⟩
 have hc1:a+m / 4*2=c+1:=by omega
 have hc2:a+m / 4*2+1=c+2:=by omega
 rw [hc] at hG
 refine AW.loopL (ι:=Nat × (UInt64 × Array (Fin (L+1)))) (fun x=>[(0,.row 201 0 0 n),(1,.i .i64 ((a:Nat):Int)),(8,.i .i64 ((m:Nat):Int)),(9,.own 9 0 0),(10,.u (tF m)),(11,.i .i64 ((x.1:Nat):Int))]) (fun x=>bpB q l n x.2.2 x.2.1) (fun x=>(c<=x.1/\x.1<=c+3/\x.2.2.size=n)/\(xS a m (1 <<< Go.Sort.bitsLen m) (c+3 - x.1) x.1 x.2).2=G) (fun x=>c+3 - x.1) (c,(UInt64.ofNat m,d)) ⟨⟨qJ _,by show c<=c+3;omega,hn⟩,by show (xS a m _ (c+3 - c) c _).2=G;rw [Nat.add_sub_cancel_left];exact hG⟩ ⟨Rn.rowIs rfl rfl rfl,Rn.is rfl rfl,Rn.is rfl rfl,Rn.ownIs rfl rfl rfl,Rn.is rfl rfl,Rn.is (congrArg (AV.i .i64) (show (((a+m / 4*2 - 1:Nat):Int))=((c:Nat):Int) by rw [hc])) rfl,trivial⟩ (pz rfl rfl rfl rfl rfl rfl (by rw [<- hr0]) (rfl) (ah hn)) fun x hx=>?_
 clear hG hn
 obtain ⟨i,r,v⟩:=x
 obtain ⟨⟨hi0,hi,hv⟩,hG⟩:=hx
 simp only at hi0 hi hv hG
 refine zB ?_
 refine RG.runO af 0 [(33,.i .i64 ((a+m / 4*2:Nat):Int)),(34,.i .i64 ((a+m / 4*2+1:Nat):Int))] 400 rfl jD ?_
 refine jB ?_
 refine AW.cond rfl (fun h1=>?_) (fun h1=>?_)
 rotate_left
 ·have k:i=c+3:=by
   have:=of_decide_eq_false h1
   try simp only at this
   omega
  subst k
  rw [Nat.sub_self,xS] at hG
  subst hG
  refine zE ?_
  exact cG rfl (.inl rfl) (ak rfl rfl rfl rfl rfl (rfl) (ah hv))
 have k:i<=c+2:=by
  have:=of_decide_eq_true h1
  try simp only at this
  omega
 rw [show c+3 - i=(c+3 - (i+1))+1 by omega,xS,yO] at hG
 have ho:=CY (len:=m) (by omega) r
 have hoth:=AD (len:=m) (by omega) (by omega) (Go.Sort.xorNext r)
 have hmd:=Go.Sort.two_pow_bitsLen_le (n:=m) (by omega)
 have hle:(Go.Sort.xorNext r).toNat &&& ((1 <<< Go.Sort.bitsLen m) - 1)<=(1 <<< Go.Sort.bitsLen m) - 1:=Nat.and_le_right
 rw [Nat.one_shiftLeft] at hle
 obtain ⟨o,hO⟩:∃o,xM m (1 <<< Go.Sort.bitsLen m) r=o:=⟨_,rfl⟩
 rw [hO] at ho hG
 rw [xM] at hO
 rw [Nat.one_shiftLeft] at hoth hO
 generalize (Go.Sort.xorNext r).toNat &&& (2 ^ Go.Sort.bitsLen m - 1)=oth at hoth hO hle
 have w3:oth<=100000:=by omega
 refine zB ?_
 refine wH rfl ?_
 refine RG.ownN [(9,240)] [(240,9)] (fun q=>E3 r q) rfl rfl rfl rfl rfl rfl rfl rfl rfl rfl ?_
 refine RG.runO af 0 [(42,.i .i64 ((oth:Nat):Int))] 400 rfl jD ?_
 refine jA ?_
 refine AW.cutT (ι:=Unit) (fun _=>[(0,.row 201 0 0 n),(1,.i .i64 ((a:Nat):Int)),(8,.i .i64 ((m:Nat):Int)),(9,.own 9 0 0),(10,.u (tF m)),(11,.i .i64 ((i:Nat):Int)),(12,.i .i64 ((o:Nat):Int))]) (fun _=>bpB q l n v (Go.Sort.xorNext r)) (fun _=>True) ?_ fun _ _=>?_
 ·refine AW.cond rfl (fun h2=>?_) (fun h2=>?_)
  ·have k2:oth>=m:=by
    have:=of_decide_eq_true h2
    try simp only at this
    omega
   rw [qF k2,cond_true] at hO
   have wo:IntKind.i64.wrap (((oth:Nat):Int) - ((m:Nat):Int))=((o:Nat):Int):=by rw [IntKind.wrap_i64];omega
   refine jA ?_
   exact ⟨(),trivial,⟨Rn.rowIs rfl rfl rfl,Rn.is rfl rfl,Rn.is rfl rfl,Rn.ownIs rfl rfl rfl,Rn.is rfl rfl,Rn.is rfl rfl,Rn.is (congrArg (AV.i .i64) wo) rfl,trivial⟩,pz rfl rfl rfl rfl rfl rfl (rfl) (rfl) (ah hv)⟩
  ·have k2:¬oth>=m:=by
    have:=of_decide_eq_false h2
    try simp only at this
    omega
   rw [qC k2,cond_false] at hO
   subst hO
   refine jA ?_
   exact ⟨(),trivial,jQ,pz rfl rfl rfl rfl rfl rfl (rfl) (rfl) (ah hv)⟩
 have wi:IntKind.i64.wrap (((i:Nat):Int)+Int.ofNat 1)=((i+1:Nat):Int):=by simp only [IntKind.wrap_i64,qG];omega
 have hv2:=(ba v i (a+o)).trans hv
 refine zD ?_
 refine wH rfl ?_;refine jI (ia (a+o) am ((v).toList)) ?_;refine jL (lA (a+o) am (v)) ?_;refine wH rfl ?_;refine jI (ia (i) am ((v).toList)) ?_;refine jL (lA (i) am (v)) ?_;refine wH rfl ?_;refine jI (ia (i) am ((v).toList)) ?_;refine RG.opS rfl (aR (i) am ((v).toList) ((v)[a+o]!) (by simp only [vF,qL];omega) rfl (tk rfl) rfl rfl rfl rfl rfl (fun _=>rfl)) rfl ?_;refine wH rfl ?_;refine jI (ia (a+o) am (((v).toList.set (i) (v)[a+o]!))) ?_;refine RG.opS rfl (aR (a+o) am (((v).toList.set (i) (v)[a+o]!)) ((v)[i]!) (by simp only [vF,qL];omega) rfl (tk rfl) rfl rfl rfl rfl rfl (fun _=>rfl)) rfl ?_
 refine wH rfl ?_;refine jB ?_
 refine AW.text ?_
 refine wH rfl ?_;refine jB ?_
 exact ⟨(i+1,(Go.Sort.xorNext r,swp v i (a+o))),⟨⟨⟨by show c<=i+1;omega,by show i+1<=c+3;omega,hv2⟩,hG⟩,by show c+3 - (i+1)<c+3 - i;omega⟩,⟨Rn.rowTIs rfl rfl rfl (ah (hv2)),Rn.is rfl rfl,Rn.is rfl rfl,Rn.ownIs rfl rfl rfl,Rn.is rfl rfl,Rn.is (congrArg (AV.i .i64) wi) rfl,trivial⟩,pz rfl rfl rfl rfl rfl rfl (rfl) (by rw [bf]) (ah hv2)⟩
end Go.Proofs.YtdidjpohnopihaaGreat.Sm
end
section
namespace Go.Proofs.YtdidjpohnopihaaGreat.Sm
open Go.RowKit
open Go.Sort (swp)
open Go.Sort (SWO Below PermIn SortedIn)
theorem DY (h:Go.Sort.Hint):decide (Go.Sort.hintCode h=2)=decide (h = .decreasing):=by cases h <;> rfl
theorem Gq (h:Go.Sort.Hint):decide (Go.Sort.hintCode h=1)=decide (h = .increasing):=by cases h <;> rfl
theorem Dl {α:Type} [Inhabited α] {lt:α->α->Bool} (d:Array α) (a b:Nat):(Go.Sort.heapSort lt d a b).size=d.size:=by
 rw [Go.Sort.heapSort,AZ,rJ]
theorem GD (l : List Rl) (L : Nat) (hL : l.length = L + 1) (n : Nat) (hl : n <= 100000) (h256 : n < 256) (hS : SWO (ltI l L)) : ∀ (f a b lim : Nat) (d : Array (Fin (L + 1))), d.size = n -> a <= b -> b <= n -> b - a <= f -> lim <= 1000 -> Below (ltI l L) a b d -> ∀ (q : Nat -> Option (Nat × Nat)),
  aq Tryz.prog 256 [.row 201 0 0 n,.i .i64 ((a:Nat):Int),.i .i64 ((b:Nat):Int),.i .i64 ((lim:Nat):Int),.fn 253 [.own 210 0 0] []] (gl q [210,201] (ioB l n (d))) (.tup []) (gl q [210,201] (ioB l n (Go.Sort.pdq (ltI l L) d a b lim true true))):=by
 intro f
 induction f using Nat.strongRecOn with
 | ind f IH =>
 intro a b lim d hn hab hb hf hlim hB q
 refine aq.of_body Tryz.func256 rfl (by kernel_rfl) rfl rfl ?_
 generalize hG:Go.Sort.pdq (ltI l L) d a b lim true true=G
 refine jA ?_
 refine AW.loopL (ι:=(Nat × Nat × Nat) × (Bool × Bool) × Array (Fin (L+1))) (fun x=>[(0,.row 201 0 0 n),(1,.i .i64 ((x.1.1:Nat):Int)),(2,.i .i64 ((x.1.2.1:Nat):Int)),(3,.i .i64 ((x.1.2.2:Nat):Int)),(4,.fn 253 [.own 210 0 0] []),(10,.b x.2.1.1),(11,.b x.2.1.2)]) (fun x=>gl q [210,201] (ioB l n (x.2.2))) (fun x=>(x.1.1<=x.1.2.1/\x.1.2.1<=n/\x.1.2.1 - x.1.1<=f/\x.1.2.2<=1000/\x.2.2.size=n/\Below (ltI l L) x.1.1 x.1.2.1 x.2.2)/\Go.Sort.pdq (ltI l L) x.2.2 x.1.1 x.1.2.1 x.1.2.2 x.2.1.1 x.2.1.2=G) (fun x=>x.1.2.1 - x.1.1) ((a,b,lim),(true,true),d) ⟨⟨hab,hb,hf,hlim,hn,hB⟩,hG⟩ jQ (ak rfl rfl rfl rfl rfl (rfl) (ah (by assumption))) fun x hx=>?_
 clear hG hn hab hb hf hlim hB
 obtain ⟨⟨a,b,lim⟩,⟨wb,wp⟩,d⟩:=x
 obtain ⟨⟨hab,hb,hf,hlim,hn,hB⟩,hG⟩:=hx
 simp only at hab hb hf hlim hn hB hG
 have p:=Go.Sort.pdq_unfold (lt:=ltI l L) (d:=d) (a:=a) (b:=b) (limit:=lim) (wb:=wb) (wp:=wp)
 rw [p] at hG
 clear p
 have wl:IntKind.i64.wrap (((b:Nat):Int) - ((a:Nat):Int))=((b - a:Nat):Int):=by rw [IntKind.wrap_i64];omega
 refine zB ?_
 refine RG.runO af 0 [(23,.i .i64 ((b - a:Nat):Int))] 400 rfl jD ?_
 refine jA ?_
 refine AW.cond rfl (fun h0=>?_) (fun h0=>?_)
 ·have h : b - a <= 12 := by
   have:=of_decide_eq_true h0
   simp only [qG] at this
   omega
  rw [if_pos h] at hG
  subst hG
  have hs:=m9 (ltI l L) d a b (by omega)
  refine jA ?_
  refine RG.ownK [(210,210),(201,201)] [(210,210),(201,201)] 201 201 (bB (hs.1)) (fun q=>FO l L hL n hl d hn a b (by omega) hb q) rfl rfl rfl rfl rfl rfl rfl rfl rfl rfl rfl rfl rfl ?_
  refine jH ?_
  exact AW.ret (cG rfl (.inr rfl) (ak rfl rfl rfl rfl rfl (rfl) (ah (hs.1.trans hn))))
 have h:¬b - a<=12:=by
  have:=of_decide_eq_false h0
  simp only [qG] at this
  omega
 rw [if_neg h] at hG
 refine jA ?_
 refine AW.cond rfl (fun h1=>?_) (fun h1=>?_)
 ·have k : lim = 0 := by
   have:=of_decide_eq_true h1
   simp only [qG] at this
   omega
  rw [if_pos k] at hG
  subst hG
  have hs:=Dl (lt:=ltI l L) d a b
  refine jA ?_
  refine RG.ownK [(210,210),(201,201)] [(210,210),(201,201)] 201 201 (bB (hs)) (fun q=>Fo l L hL n hl d hn a b (by omega) hb q) rfl rfl rfl rfl rfl rfl rfl rfl rfl rfl rfl rfl rfl ?_
  refine jH ?_
  exact AW.ret (cG rfl (.inr rfl) (ak rfl rfl rfl rfl rfl (rfl) (ah (hs.trans hn))))
 have k:¬lim=0:=by
  have:=of_decide_eq_false h1
  simp only [qG] at this
  omega
 rw [if_neg k] at hG
 have hF:=Go.Sort.rd_facts (limit:=lim) (wb:=wb) (wp:=wp) hS Go.Sort.partialInsertionSort_holds Go.Sort.reverseRange_holds (show a<b by omega) (show b<=d.size by omega) hB
 have hlm:=Go.Sort.rd_lim_le (lt:=ltI l L) (d:=d) (a:=a) (b:=b) (limit:=lim) (wb:=wb) (wp:=wp)
 obtain ⟨X,hX⟩:∃X,Go.Sort.rd (ltI l L) d a b lim wb wp=X:=⟨_,rfl⟩
 rw [hX] at hG hF hlm
 have q1:X.d1=(if (!wb)=true then Go.Sort.breakPatterns d a b else d):=by rw [<- hX];rfl
 have q2:X.lim=(if (!wb)=true then lim - 1 else lim):=by rw [<- hX];rfl
 have q0:X.c=Go.Sort.choosePivot (ltI l L) X.d1 a b:=by rw [<- hX];rfl
 have q3:X.d2=(if X.c.2 = .decreasing then Go.Sort.reverseRange X.d1 a b else X.d1):=by rw [<- hX];rfl
 have q4:X.pivot=(if X.c.2 = .decreasing then (b - 1) - (X.c.1 - a) else X.c.1):=by rw [<- hX];rfl
 have q5:X.hint=(if X.c.2 = .decreasing then Go.Sort.Hint.increasing else X.c.2):=by rw [<- hX];rfl
 have q6:X.pi=(if (wb && wp && decide (X.hint = .increasing))=true then Go.Sort.partialInsertionSort (ltI l L) X.d2 a b else (X.d2,false)):=by rw [<- hX];rfl
 clear hX
 obtain ⟨s1,B1,⟨c1,c2⟩,s2,B2,⟨v1,v2⟩,s3,B3⟩:=hF
 have s1:=s1.trans hn
 have s2:=s2.trans hn
 have s3:=s3.trans hn
 refine jA ?_
 refine AW.cutT (ι:=Unit) (fun _=>[(0,.row 201 0 0 n),(1,.i .i64 ((a:Nat):Int)),(2,.i .i64 ((b:Nat):Int)),(3,.i .i64 ((X.lim:Nat):Int)),(4,.fn 253 [.own 210 0 0] []),(10,.b wb),(11,.b wp),(12,.i .i64 ((b - a:Nat):Int))]) (fun _=>gl q [210,201] (ioB l n (X.d1))) (fun _=>True) ?_ fun _ _=>?_
 ·refine AW.cond rfl (fun h2=>?_) (fun h2=>?_)
  ·rw [if_pos h2] at q1 q2
   have wm:IntKind.i64.wrap (((lim:Nat):Int) - Int.ofNat 1)=((X.lim:Nat):Int):=by rw [q2,IntKind.wrap_i64];simp only [qG];omega
   have hbk:=BG l L hL n hl d hn a b (by omega) hb h256
   rw [<- q1] at hbk
   refine jA ?_
   refine RG.ownK [(210,210),(201,201)] [(210,210),(201,201)] 201 201 (bB (s1.trans hn.symm)) (fun q=>hbk q) rfl rfl rfl rfl rfl rfl rfl rfl rfl rfl rfl rfl rfl ?_
   refine jH ?_
   exact ⟨(),trivial,⟨Rn.rowIs rfl rfl rfl,Rn.is rfl rfl,Rn.is rfl rfl,Rn.is (congrArg (AV.i .i64) wm) rfl,Rn.fnO rfl rfl rfl,Rn.is rfl rfl,Rn.is rfl rfl,Rn.is rfl rfl,trivial⟩,ak rfl rfl rfl rfl rfl (rfl) (ah s1)⟩
  ·rw [if_neg (by rw [h2];decide)] at q1 q2
   rw [q1,q2]
   refine jA ?_
   exact ⟨(),trivial,jQ,ak rfl rfl rfl rfl rfl (rfl) (ah hn)⟩
 clear q1 q2
 have hpv:=Df l L hL n hl X.d1 s1 a b (by omega) hb
 have e0:Go.Sort.choosePivot (ltI l L) X.d1 a b=((Go.Sort.rawPivot (ltI l L) X.d1 a b).1,Go.Sort.hintOf (Go.Sort.rawPivot (ltI l L) X.d1 a b).2):=Go.Sort.choosePivot_eq _ _ _ _
 have e1:(Go.Sort.rawPivot (ltI l L) X.d1 a b).1=X.c.1:=by rw [q0,e0]
 have e2:Go.Sort.hintOf (Go.Sort.rawPivot (ltI l L) X.d1 a b).2=X.c.2:=by rw [q0,e0]
 rw [e1,e2] at hpv
 clear e0 e1 e2 q0
 refine jA ?_
 refine RG.ownK [(210,210),(201,201)] [(210,210),(201,201)] 201 201 (bB (rfl)) (fun q=>hpv q) rfl rfl rfl rfl rfl rfl rfl rfl rfl rfl rfl rfl rfl ?_
 refine jH ?_
 refine AW.cutT (ι:=Unit) (fun _=>[(0,.row 201 0 0 n),(1,.i .i64 ((a:Nat):Int)),(2,.i .i64 ((b:Nat):Int)),(3,.i .i64 ((X.lim:Nat):Int)),(4,.fn 253 [.own 210 0 0] []),(10,.b wb),(11,.b wp),(12,.i .i64 ((b - a:Nat):Int)),(13,.i .i64 ((X.pivot:Nat):Int)),(14,.i .i64 (Go.Sort.hintCode X.hint))]) (fun _=>gl q [210,201] (ioB l n (X.d2))) (fun _=>True) ?_ fun _ _=>?_
 ·refine AW.cond rfl (fun h2=>?_) (fun h2=>?_)
  ·have k2:X.c.2 = .decreasing:=of_decide_eq_true ((DY X.c.2).symm.trans h2)
   rw [if_pos k2] at q3 q4 q5
   have hrv:=EX l L hL n hl X.d1 s1 a b (by omega) hb
   rw [<- q3] at hrv
   have wa:IntKind.i64.wrap (((b:Nat):Int) - Int.ofNat 1)=((b - 1:Nat):Int):=by rw [IntKind.wrap_i64];simp only [qG];omega
   have wc:IntKind.i64.wrap (((X.c.1:Nat):Int) - ((a:Nat):Int))=((X.c.1 - a:Nat):Int):=by rw [IntKind.wrap_i64];omega
   have wd:IntKind.i64.wrap (((b - 1:Nat):Int) - ((X.c.1 - a:Nat):Int))=((X.pivot:Nat):Int):=by rw [q4,IntKind.wrap_i64];omega
   refine jA ?_
   refine RG.ownK [(210,210),(201,201)] [(210,210),(201,201)] 201 201 (bB (s2.trans s1.symm)) (fun q=>hrv q) rfl rfl rfl rfl rfl rfl rfl rfl rfl rfl rfl rfl rfl ?_
   refine wH rfl ?_;refine jB ?_
   refine AW.text ?_
   refine RG.runO af 0 [(63,.i .i64 ((b - 1:Nat):Int)),(66,.i .i64 ((X.c.1 - a:Nat):Int)),(67,.i .i64 ((X.pivot:Nat):Int))] 400 rfl jD ?_
   refine jA ?_
   exact ⟨(),trivial,⟨Rn.rowIs rfl rfl rfl,Rn.is rfl rfl,Rn.is rfl rfl,Rn.is rfl rfl,Rn.fnO rfl rfl rfl,Rn.is rfl rfl,Rn.is rfl rfl,Rn.is rfl rfl,Rn.is rfl rfl,Rn.is (by rw [q5];rfl) rfl,trivial⟩,ak rfl rfl rfl rfl rfl (rfl) (ah s2)⟩
  ·have k2:¬X.c.2 = .decreasing:=of_decide_eq_false ((DY X.c.2).symm.trans h2)
   rw [if_neg k2] at q3 q4 q5
   rw [q3,q4,q5]
   refine jA ?_
   exact ⟨(),trivial,jQ,ak rfl rfl rfl rfl rfl (rfl) (ah s1)⟩
 clear q3 q4 q5
 refine jB ?_
 refine AW.cutT (ι:=Unit) (fun _=>[(0,.row 201 0 0 n),(1,.i .i64 ((a:Nat):Int)),(2,.i .i64 ((b:Nat):Int)),(3,.i .i64 ((X.lim:Nat):Int)),(4,.fn 253 [.own 210 0 0] []),(10,.b wb),(11,.b wp),(12,.i .i64 ((b - a:Nat):Int)),(13,.i .i64 ((X.pivot:Nat):Int)),(14,.i .i64 (Go.Sort.hintCode X.hint)),(75,.b (wb && wp && decide (X.hint = .increasing)))]) (fun _=>gl q [210,201] (ioB l n (X.d2))) (fun _=>True) ?_ fun _ _=>?_
 ·refine AW.text ?_
  cases wb
  ·refine wH rfl ?_;refine jB ?_
   exact ⟨(),trivial,jQ,ak rfl rfl rfl rfl rfl (rfl) (ah s2)⟩
  cases wp
  ·refine wH rfl ?_;refine jB ?_
   exact ⟨(),trivial,jQ,ak rfl rfl rfl rfl rfl (rfl) (ah s2)⟩
  refine wH rfl ?_;refine jB ?_
  exact ⟨(),trivial,⟨Rn.rowIs rfl rfl rfl,Rn.is rfl rfl,Rn.is rfl rfl,Rn.is rfl rfl,Rn.fnO rfl rfl rfl,Rn.is rfl rfl,Rn.is rfl rfl,Rn.is rfl rfl,Rn.is rfl rfl,Rn.is rfl rfl,Rn.is (congrArg AV.b (by rw [uM,uM];exact Gq X.hint)) rfl,trivial⟩,ak rfl rfl rfl rfl rfl (rfl) (ah s2)⟩
 refine jB ?_
 refine AW.cutT (ι:=Unit) (fun _=>[(0,.row 201 0 0 n),(1,.i .i64 ((a:Nat):Int)),(2,.i .i64 ((b:Nat):Int)),(3,.i .i64 ((X.lim:Nat):Int)),(4,.fn 253 [.own 210 0 0] []),(10,.b wb),(11,.b wp),(12,.i .i64 ((b - a:Nat):Int)),(13,.i .i64 ((X.pivot:Nat):Int))]) (fun _=>gl q [210,201] (ioB l n (X.pi.1))) (fun _=>X.pi.2=false) ?_ fun _ hpi=>?_
 ·refine AW.cond rfl (fun h2=>?_) (fun h2=>?_)
  ·rw [if_pos h2] at q6
   have hpn:=E0 l L hL n hl X.d2 s2 a b (by omega) hb
   rw [<- q6] at hpn
   refine jA ?_
   refine RG.ownK [(210,210),(201,201)] [(210,210),(201,201)] 201 201 (bB (s3.trans s2.symm)) (fun q=>hpn q) rfl rfl rfl rfl rfl rfl rfl rfl rfl rfl rfl rfl rfl ?_
   refine jH ?_
   refine AW.cond rfl (fun h3=>?_) (fun h3=>?_)
   ·rw [if_pos h3] at hG
    subst hG
    exact AW.ret (cG rfl (.inr rfl) (ak rfl rfl rfl rfl rfl (rfl) (ah s3)))
   ·refine jA ?_
    exact ⟨(),h3,jQ,ak rfl rfl rfl rfl rfl (rfl) (ah s3)⟩
  ·rw [if_neg (by rw [h2];decide)] at q6
   have q7:X.pi.1=X.d2:=by rw [q6]
   have q8:X.pi.2=false:=by rw [q6]
   rw [q7]
   refine jA ?_
   exact ⟨(),q8,jQ,ak rfl rfl rfl rfl rfl (rfl) (ah s2)⟩
 rw [if_neg (by rw [hpi];decide)] at hG
 clear q6 hpi
 refine jB ?_
 refine AW.cutT (ι:=Unit) (fun _=>[(0,.row 201 0 0 n),(1,.i .i64 ((a:Nat):Int)),(2,.i .i64 ((b:Nat):Int)),(3,.i .i64 ((X.lim:Nat):Int)),(4,.fn 253 [.own 210 0 0] []),(10,.b wb),(11,.b wp),(12,.i .i64 ((b - a:Nat):Int)),(13,.i .i64 ((X.pivot:Nat):Int)),(97,.b (decide (a>0) && !ltI l L X.pi.1[a - 1]! X.pi.1[X.pivot]!))]) (fun _=>gl q [210,201] (ioB l n (X.pi.1))) (fun _=>True) ?_ fun _ _=>?_
 ·refine AW.draws aN ?_
  by_cases g1:(0:Int)<((a:Nat):Int)
  ·refine RG.runO af 0 [(82,.b true)] 400 rfl jD ?_
   refine wH rfl ?_;refine jI (ia (a - 1) am ((X.pi.1).toList)) ?_;refine jL (lA (a - 1) am (X.pi.1)) ?_
   refine wH rfl ?_;refine jI (ia (X.pivot) am ((X.pi.1).toList)) ?_;refine jL (lA (X.pivot) am (X.pi.1)) ?_
   refine wH rfl ?_
   refine RG.ownK [(210,210),(201,201)] [(210,210),(201,201)] 201 201 rfl (fun q=>bA l L hL n (X.pi.1) (X.pi.1[a - 1]!) (X.pi.1[X.pivot]!) q (ah (by assumption))) rfl rfl rfl rfl rfl rfl rfl rfl rfl rfl rfl rfl rfl ?_
   refine wH rfl ?_;refine jB ?_
   exact ⟨(),trivial,⟨Rn.rowIs rfl rfl rfl,Rn.is rfl rfl,Rn.is rfl rfl,Rn.is rfl rfl,Rn.fnO rfl rfl rfl,Rn.is rfl rfl,Rn.is rfl rfl,Rn.is rfl rfl,Rn.is rfl rfl,Rn.is (congrArg AV.b (by rw [qF (show a>0 by omega),uM];rfl)) rfl,trivial⟩,ak rfl rfl rfl rfl rfl (rfl) (ah s3)⟩
  ·refine RG.runO af 0 [(82,.b false)] 400 rfl jD ?_
   refine jB ?_
   exact ⟨(),trivial,⟨Rn.rowIs rfl rfl rfl,Rn.is rfl rfl,Rn.is rfl rfl,Rn.is rfl rfl,Rn.fnO rfl rfl rfl,Rn.is rfl rfl,Rn.is rfl rfl,Rn.is rfl rfl,Rn.is rfl rfl,Rn.is (congrArg AV.b (by rw [qC (show ¬a>0 by omega),uP])) rfl,trivial⟩,ak rfl rfl rfl rfl rfl (rfl) (ah s3)⟩
 cases hcb:(decide (a>0) && !ltI l L X.pi.1[a - 1]! X.pi.1[X.pivot]!)
 rotate_left
 ·rw [if_pos hcb] at hG
  rw [qQ,vM,Bool.not_eq_true'] at hcb
  have hpe:=yd l L hL n hl X.pi.1 s3 a b X.pivot v1 v2 hb
  obtain ⟨⟨mid,d4⟩,hx⟩:∃z,Go.Sort.partitionEqual (ltI l L) X.pi.1 a b X.pivot=z:=⟨_,rfl⟩
  obtain ⟨g1,g2,g3,g4,_⟩:=Go.Sort.round_eq hS (Go.Sort.partitionEqual_holds _) hcb.1 v1 v2 (by omega) B3 hcb.2 hx
  rw [hx] at hpe hG
  simp only at hpe
  rw [if_pos ⟨g1,g2⟩] at hG
  simp only at hG
  have hn4:=g3.trans s3
  refine AW.cond rfl (fun _=>?_) (fun h1=>by cases h1)
  refine jA ?_
  refine RG.ownK [(210,210),(201,201)] [(210,210),(201,201)] 201 201 (bB (g3)) (fun q=>hpe q) rfl rfl rfl rfl rfl rfl rfl rfl rfl rfl rfl rfl rfl ?_
  refine jH ?_
  refine AW.exit ?_;first | (refine Eq.mpr (if_pos rfl) ?_) | (refine Eq.mpr (if_neg (by decide)) ?_;refine Eq.mpr (if_pos rfl) ?_) | (refine Eq.mpr (if_neg (by decide)) ?_;refine Eq.mpr (if_neg (by decide)) ?_;refine Eq.mpr (if_pos rfl) ?_);refine jA ?_
  exact ⟨((mid,b,X.lim),(wb,wp),d4),⟨⟨⟨g2,hb,by show b - mid<=f;omega,by show X.lim<=1000;omega,hn4,g4⟩,hG⟩,by show b - mid<b - a;omega⟩,jQ,ak rfl rfl rfl rfl rfl (rfl) (ah hn4)⟩
 rw [if_neg (by rw [hcb];decide)] at hG
 clear hcb
 have hpt:=Fl l L hL n hl X.pi.1 s3 a b X.pivot v1 v2 hb
 obtain ⟨⟨mid,ap,d4⟩,hx⟩:∃z,Go.Sort.partition (ltI l L) X.pi.1 a b X.pivot=z:=⟨_,rfl⟩
 obtain ⟨g1,g2,g3,g4,g5,g6,g7⟩:=Go.Sort.round_part hS (Go.Sort.partition_holds _) v1 v2 (by omega) B3 hx
 rw [hx] at hpt hG
 simp only at hpt hG
 rw [if_pos ⟨g1,g2⟩] at hG
 have hn4:=g3.trans s3
 have wL:IntKind.i64.wrap (((mid:Nat):Int) - ((a:Nat):Int))=((mid - a:Nat):Int):=by rw [IntKind.wrap_i64];omega
 have wR:IntKind.i64.wrap (((b:Nat):Int) - ((mid:Nat):Int))=((b - mid:Nat):Int):=by rw [IntKind.wrap_i64];omega
 have w8:IntKind.i64.wrap (Int.tdiv ((b - a:Nat):Int) (Int.ofNat 8))=(((b - a) / 8:Nat):Int):=by
  rw [Int.tdiv_eq_ediv_of_nonneg (by omega),IntKind.wrap_i64];simp only [qG];omega
 have wI:IntKind.i64.wrap (((mid:Nat):Int)+Int.ofNat 1)=((mid+1:Nat):Int):=by rw [IntKind.wrap_i64];simp only [qG];omega
 refine AW.cond rfl (fun h1=>by cases h1) (fun _=>?_)
 refine jA ?_
 refine RG.ownK [(210,210),(201,201)] [(210,210),(201,201)] 201 201 (bB (g3)) (fun q=>hpt q) rfl rfl rfl rfl rfl rfl rfl rfl rfl rfl rfl rfl rfl ?_
 refine wH rfl ?_;refine jB ?_;refine wF ?_;refine wH rfl ?_;refine jB ?_
 refine AW.text ?_
 refine RG.runO af 0 [(117,.i .i64 ((mid - a:Nat):Int)),(120,.i .i64 ((b - mid:Nat):Int))] 400 rfl jD ?_
 refine zB ?_
 refine RG.runO af 0 [(122,.i .i64 (((b - a) / 8:Nat):Int))] 400 rfl jD ?_
 refine jA ?_
 refine AW.cond rfl (fun h2=>?_) (fun h2=>?_)
 ·have k2 : mid - a < b - mid := by
   have:=of_decide_eq_true h2
   omega
  rw [if_pos k2] at hG
  have ih:=IH (mid - a) (by omega) a mid X.lim d4 hn4 g1 (by omega) (qJ _) (by omega) g4
  obtain ⟨l1,l2⟩:=Go.Sort.pdq_sorts (ltI l L) hS d4 a mid X.lim true true g1 (by omega) g4
  obtain ⟨l3,_⟩:=g6 _ l1 l2
  have hn5:=l1.1.trans hn4
  refine jA ?_
  refine RG.ownK [(210,210),(201,201)] [(210,210),(201,201)] 201 201 (bB (l1.1)) (fun q=>ih q) rfl rfl rfl rfl rfl rfl rfl rfl rfl rfl rfl rfl rfl ?_
  refine jH ?_
  exact ⟨((mid+1,b,X.lim),(decide (mid - a>=(b - a) / 8),ap),Go.Sort.pdq (ltI l L) d4 a mid X.lim true true),⟨⟨⟨by show mid+1<=b;omega,hb,by show b - (mid+1)<=f;omega,by show X.lim<=1000;omega,hn5,l3⟩,hG⟩,by show b - (mid+1)<b - a;omega⟩,⟨Rn.rowIs rfl rfl rfl,Rn.is (congrArg (AV.i .i64) wI) rfl,Rn.is rfl rfl,Rn.is rfl rfl,Rn.fnO rfl rfl rfl,Rn.is (congrArg AV.b (decide_eq_decide.2 (by omega))) rfl,Rn.is rfl rfl,trivial⟩,ak rfl rfl rfl rfl rfl (rfl) (ah hn5)⟩
 ·have k2 : ¬ mid - a < b - mid := by
   have:=of_decide_eq_false h2
   omega
  rw [if_neg k2] at hG
  have ih:=IH (b - (mid+1)) (by omega) (mid+1) b X.lim d4 hn4 (by omega) hb (qJ _) (by omega) g5
  obtain ⟨l1,l2⟩:=Go.Sort.pdq_sorts (ltI l L) hS d4 (mid+1) b X.lim true true (by omega) (by omega) g5
  obtain ⟨l3,_⟩:=g7 _ l1 l2
  have hn5:=l1.1.trans hn4
  refine jB ?_;refine wF ?_;refine wH rfl ?_;refine jB ?_
  refine AW.text ?_
  refine RG.runO af 0 [(142,.i .i64 ((mid+1:Nat):Int))] 400 rfl jD ?_
  refine RG.ownK [(210,210),(201,201)] [(210,210),(201,201)] 201 201 (bB (l1.1)) (fun q=>ih q) rfl rfl rfl rfl rfl rfl rfl rfl rfl rfl rfl rfl rfl ?_
  refine jH ?_
  exact ⟨((a,mid,X.lim),(decide (b - mid>=(b - a) / 8),ap),Go.Sort.pdq (ltI l L) d4 (mid+1) b X.lim true true),⟨⟨⟨g1,by show mid<=n;omega,by show mid - a<=f;omega,by show X.lim<=1000;omega,hn5,l3⟩,hG⟩,by show mid - a<b - a;omega⟩,⟨Rn.rowIs rfl rfl rfl,Rn.is rfl rfl,Rn.is rfl rfl,Rn.is rfl rfl,Rn.fnO rfl rfl rfl,Rn.is (congrArg AV.b (decide_eq_decide.2 (by omega))) rfl,Rn.is rfl rfl,trivial⟩,ak rfl rfl rfl rfl rfl (rfl) (ah hn5)⟩
end Go.Proofs.YtdidjpohnopihaaGreat.Sm
end
section
namespace Go.Proofs.YtdidjpohnopihaaGreat.Sm
open Go.RowKit
open Go.Sort (swp)
open Go.Sort (SWO Below PermIn SortedIn)
theorem vj {l:List Rl} {L:Nat} {x y:Fin (L+1)}:ltI l L x y=true↔dp l y.1<dp l x.1\/(dp l y.1=dp l x.1/\x.1<y.1):=by
 rw [ltI,vM,Fp]
 generalize dp l y.1=p
 generalize dp l x.1=r
 by_cases h1:p<r
 ·have e:dt p r = -1:=by rw [dt,if_pos h1]
  rw [e]
  exact ⟨fun _=>.inl h1,fun _=>by rw [orI,if_pos (by decide)];decide⟩
 by_cases h2:r<p
 ·have e:dt p r=1:=by rw [dt,if_neg h1,if_pos h2]
  rw [e]
  exact ⟨fun h=>absurd h (by simp [orI]),fun h=>by omega⟩
 have e:dt p r=0:=by rw [dt,if_neg h1,if_neg h2]
 rw [e]
 have hpr:p=r:=by omega
 by_cases h3:x.1<y.1
 ·have e:dt ((x.1:Nat):Int) ((y.1:Nat):Int) = -1:=by rw [dt,if_pos (by omega)]
  rw [e]
  exact ⟨fun _=>.inr ⟨hpr,h3⟩,fun _=>by decide⟩
 by_cases h4:y.1<x.1
 ·have e:dt ((x.1:Nat):Int) ((y.1:Nat):Int)=1:=by rw [dt,if_neg (by omega),if_pos (by omega)]
  rw [e]
  exact ⟨fun h=>absurd h (by simp [orI]),fun h=>by omega⟩
 have e:dt ((x.1:Nat):Int) ((y.1:Nat):Int)=0:=by rw [dt,if_neg (by omega),if_neg (by omega)]
 rw [e]
 exact ⟨fun h=>absurd h (by simp [orI]),fun h=>by omega⟩
theorem tH {l:List Rl} {L:Nat} {x y:Fin (L+1)}:ltI l L x y=false↔¬(dp l y.1<dp l x.1\/(dp l y.1=dp l x.1/\x.1<y.1)):=by
 rw [<- vj,Bool.not_eq_true]
theorem qg (l:List Rl) (L:Nat):SWO (ltI l L) where
 irrefl x:=by rw [tH];omega
 trans x y z h1 h2:=by rw [vj] at *;omega
 ntrans x y z h1 h2:=by rw [tH] at *;omega
theorem BD (l:List Rl) (L:Nat) (hL:l.length=L+1) (n:Nat) (hl:n<=100000) (h256:n<256) (d:Array (Fin (L+1))) (hn:d.size=n) (q:Nat->Option (Nat × Nat)):aq Tryz.prog 252 [.row 201 0 0 n,.fn 253 [.own 210 0 0] []] (gl q [210,201] (ioB l n (d))) (.tup []) (gl q [210,201] (ioB l n (Go.Sort.pdq (ltI l L) d 0 n (Go.Sort.bitsLen n) true true))):=by
 refine aq.of_body Tryz.func252 rfl (by kernel_rfl) rfl rfl ?_
 have hr:=tQ (cy ((n:Nat):Int)) (by rw [kg h256];exact h256)
 rw [kg h256] at hr
 have h8:=ll h256
 have hp:=GD l L hL n hl h256 (qg l L) n 0 n (Go.Sort.bitsLen n) d hn (qR _) (qJ _) (Nat.sub_le _ _) (by omega) (.inl rfl)
 obtain ⟨l1,_⟩:=Go.Sort.pdq_sorts (ltI l L) (qg l L) d 0 n (Go.Sort.bitsLen n) true true (qR _) (by omega) (.inl rfl)
 refine jA ?_
 refine jc hr ?_
 refine wH rfl ?_
 refine RG.ownK [(210,210),(201,201)] [(210,210),(201,201)] 201 201 (bB (l1.1)) (fun q=>hp q) rfl rfl rfl rfl rfl rfl rfl rfl rfl rfl rfl rfl rfl ?_
 refine jH ?_
 exact cG rfl (.inl rfl) (ak rfl rfl rfl rfl rfl (rfl) (ah (l1.1.trans hn)))
def nB (L:Nat):Array (Fin (L+1)):=Array.ofFn id
theorem iG (L:Nat):(nB L).size=L+1:=by simp [nB]
theorem qm (L:Nat):(nB L).toList.map (fun x=>x.1)=List.range (L+1):=by
 apply List.ext_getElem
 ·simp [nB]
 ·intro i h1 h2
  rw [List.getElem_map,Array.getElem_toList]
  simp only [nB,Array.getElem_ofFn,List.getElem_range]
  rfl
theorem AQ (L:Nat):(List.range (L+1)).map dO=(nB L).toList.map am:=by
 rw [<- qm,List.map_map];rfl
theorem lu {α:Type} (d:Array α) {n:Nat} (h:d.size=n):d.extract 0 n=d:=by
 subst h
 simp
theorem Bq {L:Nat} {D:Array (Fin (L+1))} (h:D.size=L+1):AV.sl (((D.toList.map am).drop 0).take (L+1))=AV.sl (D.toList.map am):=by
 rw [uR,vL (by rw [qH,qL,h];exact qJ _)]
theorem rA (l:List Rl) (hl:l.length<256):jp l:=by
 cases hlen:l.length with
 | zero =>
  obtain rfl:l=[]:=uD.1 hlen
  exact td (fun k x y h=>by simp at h) (by decide)
 | succ L =>
 have hS:=qg l L
 obtain ⟨l1,l2⟩:=Go.Sort.pdq_sorts (ltI l L) hS (nB L) 0 (L+1) (Go.Sort.bitsLen (L+1)) true true (qR _) (by rw [iG];exact qJ _) (.inl rfl)
 have hm:=BD l L hlen (L+1) (by omega) (by omega) (nB L) (iG L)
 generalize Go.Sort.pdq (ltI l L) (nB L) 0 (L+1) (Go.Sort.bitsLen (L+1)) true true=D at l1 l2 hm
 have hD:D.size=L+1:=l1.1.trans (iG L)
 refine ⟨D.toList.map (fun x=>x.1),?_,?_,?_⟩
 ·have h3:=l1.2.2
  rw [lu _ hD,lu _ (iG L)] at h3
  rw [hlen,<- qm]
  exact h3.map _
 ·rw [List.pairwise_iff_getElem]
  intro i j hi hj hij
  rw [qH,qL] at hi hj
  have h4:=l2 i j (qR _) hij (by omega)
  rw [tH] at h4
  rw [List.getElem_map,List.getElem_map,Array.getElem_toList,Array.getElem_toList,<- getElem!_pos D i hi,<- getElem!_pos D j hj]
  generalize D[i]! = x at h4
  generalize D[j]! = y at h4
  show dp l y.1<dp l x.1\/(dp l y.1=dp l x.1/\x.1<=y.1)
  omega
 rw [show (D.toList.map (fun x=>x.1)).map dO=D.toList.map am by rw [List.map_map];rfl]
 refine jb Tryz.func244 ?_
 refine jB ?_;refine wF ?_;refine wH rfl ?_;refine jB ?_;refine wF ?_;refine wH rfl ?_;refine jB ?_
 refine AW.nilRow 40 0 3 1 [(0,.sl (l.map cRl)),(3,.own 7 0 0)] [(7,⟨0,some (.box 322 [.sl (l.map cRl),.row 40 0 0 0])⟩),(40,⟨0,some (.row 3 1 [])⟩)] ⟨.rn (Rn.is rfl rfl),.rn (Rn.ownIs rfl rfl rfl),trivial⟩ ⟨.boxL rfl ⟨RnN.is rfl rfl,.nil rfl,trivial⟩ rfl,.old (.row rfl rfl),trivial⟩ ?_
 refine jA ?_
 have hmx:l.length<=9223372036854775807:=by omega
 refine AW.loopL (ι:=Nat × List Nat) (fun i=>[(3,.own 7 0 0),(8,.sl (l.map cRl)),(9,.i .i64 (l.map cRl).length),(10,.i .i64 (i.1:Nat))]) (fun i=>[(7,⟨0,some (.box 322 [.sl (l.map cRl),.row 40 0 0 (i.2.map dO).length])⟩),(40,⟨0,some (.row 3 1 (i.2.map dO))⟩)]) (fun i=>i.1<=l.length/\i.2=List.range i.1) (fun i=>l.length - i.1) (0,[]) ⟨qR _,rfl⟩ jW ⟨.boxL rfl jQ rfl,.row rfl rfl,trivial⟩ fun i hi=>?_
 obtain ⟨k,out⟩:=i
 obtain ⟨hk,ho⟩:=hi
 simp only at hk ho
 refine jA ?_
 refine AW.cond rfl (fun h0=>?_) (fun h0=>?_)
 ·have h:k<l.length:=by simpa using h0
  have hL:out.length<=100000000:=by rw [ho,List.length_range];omega
  refine jA ?_
  refine RG.opS rfl (co dO out k hL rfl rfl rfl rfl (tk rfl) rfl (tk rfl) rfl rfl ⟨_,rfl,rfl⟩ rfl rfl) rfl ?_;refine jH ?_
  exact ⟨(k+1,out++[k]),⟨⟨h,by show out++[k]=List.range (k+1);rw [ho,List.range_succ]⟩,by show l.length - (k+1)<l.length - k;omega⟩,jV,⟨.boxL rfl jQ rfl,.row rfl rfl,trivial⟩⟩
 ·have h:¬k<l.length:=by simpa using h0
  obtain rfl:k=l.length:=by omega
  rw [hlen] at ho
  have hrow:out.map dO=(nB L).toList.map am:=by rw [ho,AQ]
  have hlo:(out.map dO).length=L+1:=by rw [hrow,qH,qL,iG]
  refine AW.only [(3,.own 7 0 0)] [(7,⟨0,some (.box 322 [.sl (l.map cRl),.row 40 0 0 (L+1)])⟩),(40,⟨0,some (.row 3 1 ((nB L).toList.map am))⟩)] jQ ⟨.boxL rfl ⟨Rn.is rfl rfl,Rn.rowTIs (by rw [<- hlo]) rfl rfl (ah (iG L)),trivial⟩ rfl,.row rfl hrow,trivial⟩ ?_
  refine zE ?_
  refine RG.ownK [(7,210),(40,201)] [(210,7),(201,40)] 40 201 (bB l1.1) hm rfl rfl rfl rfl rfl rfl rfl rfl rfl rfl rfl rfl rfl ?_
  refine zH ?_
  exact Bq hD
end Go.Proofs.YtdidjpohnopihaaGreat.Sm
end
section
namespace Go.Proofs.YtdidjpohnopihaaGreat.Sm
open Go.RowKit Go.WideShapes Go.ChangeShapes Go.Deep
section
variable {H : Type} {P : Program}
theorem ii {e:TypeId}:∀{ds:List (DataW H)} {d:DataW H},d∈ds->∀n∈d.weights P e,n∈DataW.weightsAll P e ds
 | d0::ds,d,hd,n,hn=>by
  simp only [DataW.weightsAll,vB]
  rcases vA.1 hd with rfl | hd
  ·exact .inl hn
  ·exact .inr (ii hd n hn)
end
def RdZ {α:Type} (P:Program) (t:TypeId) (R:Rep α) (Q:α->Prop):Prop :=
 ∀(H:Type) (enc:TypeId × Value->H) (w:World) (base:Nat) (spare:Nat->Bool) (held:Bool) (fuel:Nat) (cs:List Value) (x:DataW H × List MemPlace),
  DataW.trod enc P w base spare held fuel t cs=some x->(∀k∈x.1.weights P t,k<=reachBytes)->∃a:α,R.rel w (fun b=>b<w.heap.size) a cs/\Q a
theorem RdZ.of {α:Type} {P:Program} {t:TypeId} {R:Rep α} (h:fO P t R):RdZ P t R (fun _=>True):=fun H enc w base spare held fuel cs x hx _=>by
 obtain ⟨a,ha⟩:=h H enc w base spare held fuel cs x hx
 exact ⟨a,ha,trivial⟩
theorem m8 {α:Type} {r:α->List Value->Prop} {Q:α->Prop}:∀{xs:List α} {cs:List Value},eC (fun a c=>r a c/\Q a) xs cs->eC r xs cs/\∀a∈xs,Q a
 | [],cs,h=>⟨h,fun a ha=>by cases ha⟩
 | x::xs,cs,⟨c1,c2,h1,h2,h3⟩=>by
  obtain ⟨g1,g2⟩:=m8 h3
  refine ⟨⟨c1,c2,h1,h2.1,g1⟩,fun a ha=>?_⟩
  rcases vA.1 ha with rfl | ha
  ·exact h2.2
  ·exact g2 a ha
theorem RdZ.slice {α:Type} {P:Program} {t e:TypeId} {R:Rep α} {Q:α->Prop} (hR:RdZ P e R Q) (ht:P.underlying t=some (.slice e)) (hn:P.cellsOf e=R.n) (h0:0<R.n) (hb:0<P.bytesOf e):RdZ P t R.slice (fun l=>l.length<=reachBytes/\∀a∈l,Q a):=by
 intro H enc w base spare held fuel cs x hx hz
 rcases open_slice ht hx with ⟨rfl,_⟩ | ⟨a,len,cap,m,n,D,Pl,rfl,_,hlc,hcm,hm,rfl,hel⟩
 ·exact ⟨[],⟨_,rfl,bc.nil _ _ _⟩,qR _,fun a ha=>by cases ha⟩
 ·have hlm:len<=m:=by rw [hm];split <;> omega
  simp only [DataW.weights,ht] at hz
  have hlen:len<=reachBytes:=by
   have h1:=hz _ vD
   rw [qH,List.length_range] at h1
   have h2:len*1<=(len+(List.map (fun j=>D (len+j)) (List.range (m - len))).length)*P.bytesOf e:=Nat.mul_le_mul (Nat.le_add_right _ _) hb
   omega
  have hzi:∀i,i<len->∀k∈(D i).weights P e,k<=reachBytes:=fun i hi k hk=>by
   refine hz k (qZ _ (vP _ ?_))
   exact ii (qX (uV.2 hi)) k hk
  by_cases hp:0<len
  ·have hspot : a = ⟨a.block, a.off, none⟩ /\ a.block < w.heap.size := by
    obtain ⟨cs',hc,_⟩:=hel 0 (by omega)
    obtain ⟨_,hl,hat⟩:=World.cells?_some hc
    have h1:=hat 0 (by rw [hn];exact h0)
    have e:(a.add (0*P.cellsOf e)).add 0=a:=by simp [Addr.add]
    rw [e,qA (by rw [hl,hn];exact h0)] at h1
    refine ⟨?_,World.block_lt_of_cell? w a h1⟩
    unfold World.cell? at h1
    split at h1
    ·split at h1
     ·cases h1
     ·rename_i hs
      obtain ⟨ab,ao,asp⟩:=a
      cases asp with
      | none=>rfl
      | some k=>simp at hs
    ·cases h1
   obtain ⟨xs,cells,h1,h2,h3⟩:=eP (r:=fun a c=>R.rel w (fun b=>b<w.heap.size) a c/\Q a) (n:=R.n) (fun _ _ h=>R.len h.1) w a.block a.off len fun i hi=>by
    obtain ⟨cs',hc,ht'⟩:=hel i (by omega)
    obtain ⟨y,hy,hq⟩:=hR H enc w base spare held n cs' _ ht' (hzi i hi)
    obtain ⟨_,hl,hat⟩:=World.cells?_some hc
    refine ⟨y,cs',⟨hy,hq⟩,fun j u hu=>?_⟩
    have hj:j<P.cellsOf e:=by have:=(qD.1 hu).1;omega
    have:=hat j hj
    rw [hu,hn,hspot.1] at this
    rw [show ((⟨a.block,a.off,none⟩:Addr).add (i*R.n)).add j=⟨a.block,a.off+(i*R.n+j),none⟩ by
     unfold Addr.add
     by_cases h1:i*R.n=0 <;> by_cases h2:j=0 <;> simp [h1,h2,Nat.add_assoc]] at this
    exact this
   obtain ⟨g1,g2⟩:=m8 h2
   exact ⟨xs,⟨_,rfl,some a,cap,by rw [h1],by omega,hcm,fun _=>⟨a.block,a.off,by rw [<- hspot.1],hspot.2,hspot.2,cells,g1,h3⟩⟩,by rw [h1];exact hlen,g2⟩
  ·obtain rfl:len=0:=by omega
   exact ⟨[],⟨_,rfl,some a,cap,rfl,qR _,hcm,fun h=>absurd h (Nat.lt_irrefl _)⟩,qR _,fun a ha=>by cases ha⟩
structure RdA {α:Type} (P:Program) (t:TypeId) (n:Nat) (enc:α->List AV) (Q:α->Prop):Prop where
 len:∀a,(enc a).length=n
 one:∀a,∀y∈enc a,y.one=true
 read:∀(H:Type) (e:TypeId × Value->H) (w:World) (base:Nat) (spare:Nat->Bool) (held:Bool) (fuel:Nat) (cs:List Value) (x:DataW H × List MemPlace),
  DataW.trod e P w base spare held fuel t cs=some x->(∀k∈x.1.weights P t,k<=reachBytes)->∃a:α,PWs w (fun b=>b<w.heap.size) (enc a) cs/\Q a
section
variable {P : Program} {t : TypeId}
theorem RdA.of {α:Type} {n:Nat} {enc:α->List AV} (h:bU P t n enc):RdA P t n enc (fun _=>True):=⟨h.len,h.one,fun H e w base spare held fuel cs x hx _=>by
 obtain ⟨a,ha⟩:=h.read H e w base spare held fuel cs x hx
 exact ⟨a,ha,trivial⟩⟩
theorem RdA.slice {α:Type} {e:TypeId} {n:Nat} {enc:α->List AV} {Q:α->Prop} (h:RdA P e n enc Q) (ht:P.underlying t=some (.slice e)) (hn:P.cellsOf e=n) (h0:0<n) (hb:0<P.bytesOf e):RdA P t 1 (fun l:List α=>[.sl (l.map enc)]) (fun l=>l.length<=reachBytes/\∀a∈l,Q a):=by
 have E:=(pY h.len h.one).slice h0
 refine ⟨E.len,E.one,fun H e w base spare held fuel cs x hx hz=>?_⟩
 have hR:RdZ P _ (avR n enc h.len h.one) Q:=fun H e w base spare held fuel cs x hx hz=>h.read H e w base spare held fuel cs x hx hz
 obtain ⟨a,ha,hq⟩:=hR.slice ht hn h0 hb H e w base spare held fuel cs x hx hz
 exact ⟨a,⟨by rw [(avR n enc h.len h.one).slice.len ha,E.len],fun j y hj=>E.one a y (qP hj),fun j y v hj hv=>E.to ha j y v hj hv⟩,hq⟩
theorem RdA.part {α:Type} {ty n off:Nat} {enc:α->List AV} {Q:α->Prop} (h:RdA P ty n enc Q) {H:Type} {e:TypeId × Value->H} {w:World} {base:Nat} {spare:Nat->Bool} {held:Bool} {cs:List Value} {m:Nat}
  (hp:∃y,DataW.trod e P w base spare held m ty ((cs.drop off).take n)=some y/\∀k∈y.1.weights P ty,k<=reachBytes):∃a:α,PWs w (fun b=>b<w.heap.size) (enc a) ((cs.drop off).take n)/\Q a:=by
 obtain ⟨y,hy,hz⟩:=hp
 exact h.read H e w base spare held m _ y hy hz
theorem gE {fs:Array Field} (ht:P.underlying t=some (.struct fs)) {H:Type} {enc:TypeId × Value->H} {w:World} {base:Nat} {spare:Nat->Bool} {held:Bool} {fuel:Nat} {cs:List Value} {x:DataW H × List MemPlace}
  (hx:DataW.trod enc P w base spare held fuel t cs=some x) (hz:∀k∈x.1.weights P t,k<=reachBytes):∃m,cs.length=P.cellsOf t/\∀(j ty off n:Nat),(fs[j]?).map (fun f=>(f.type,f.offset))=some (ty,off)->P.cellsOf ty=n ->
   ∃y,DataW.trod enc P w base spare held m ty ((cs.drop off).take n)=some y/\∀k∈y.1.weights P ty,k<=reachBytes:=by
 obtain ⟨xs,n,_,rfl,hl,hxs,hf⟩:=DataW.trod_struct ht hx
 simp only [DataW.weights,ht] at hz
 refine ⟨n,hl,fun j ty off k hj hk=>?_⟩
 cases hfj:fs[j]? with
 | none=>rw [hfj] at hj;cases hj
 | some f =>
  rw [hfj] at hj
  simp only [Option.map_some,qT,vC] at hj
  have h:=hf j f hfj
  rw [hj.1,hj.2,hk] at h
  have hlt:j<xs.length:=by rw [hxs];exact (qI.1 hfj).1
  refine ⟨xs[j],by rw [h,qA hlt],fun n' hn'=>hz n' ?_⟩
  refine DataW.weights_mem_each (j:=j) (t:=ty) (d:=xs[j].1) ?_ ?_ n' hn'
  ·rw [qE,vO,hfj,Option.map_some,hj.1]
  ·rw [qE,qA hlt];rfl
variable {H : Type} {e : TypeId × Value -> H} {W : World} {base b0 : Nat} {spare : Nat -> Bool} {held : Bool} {v : Value} {d : DataW H} {p : List MemPlace}
theorem RdA.arg_struct {α:Type} {n:Nat} {enc:α->List AV} {Q:α->Prop} (h:RdA P t n enc Q) {fs:Array Field} (ht:P.underlying t=some (.struct fs)) {ts:List TypeId} {ds:List (DataW H)} (hsz:(DataW.weightsEach P ts ds).all (·<=reachBytes)=true) (j:Nat) (hj:ts[j]?=some t) (hdj:ds[j]?=some d) (ho:Value.okWide P W .any b0 t v) (hd:DataW.Trod e P W base spare held t v d p) :
  ∃a:α,ar W (fun b=>b<W.heap.size) (.agg (enc a)) v/\Q a:=by
 obtain ⟨cs,rfl,hs⟩:=okWide_struct ht ho
 obtain ⟨fuel,hf⟩:=hd
 obtain ⟨a,ha,hq⟩:=h.read H e W base spare held fuel _ _ hf fun k hk=>by
  have:=qW.1 hsz _ (DataW.weights_mem_each hj hdj k hk)
  simpa using this
 have hc:(Value.cells (.agg cs)).toList=cs.toList:=by simp [Value.cells]
 rw [hc] at ha
 refine ⟨a,?_,hq⟩
 have:=ar.agg (W:=W) (F:=fun b=>b<W.heap.size) (enc a) cs.toList ha.len ha.one ha.rel
 simpa using this
end
def Cf.Lens (c:Cf):Prop:=∀t∈c.tables,∀l∈t,l.length<=reachBytes
end Go.Proofs.YtdidjpohnopihaaGreat.Sm
end
section
namespace Go.Proofs.YtdidjpohnopihaaGreat.Sm
open Go.RowKit
def AC:Cb:=⟨⟨0,1⟩,⟨0,1⟩⟩
def Bm:Rl:=⟨0,Cb.zero,⟨1,0,0,Cb.zero⟩⟩
def rF:List Rl:=[⟨1,AC,⟨3,1,0,Cb.zero⟩⟩,Bm]
def E8:List Rl:=[⟨1,AC,⟨2,1,0,Cb.zero⟩⟩,Bm]
def pG:List (List Pt):=[[⟨1,0,0,0,0⟩,⟨2,0,1,0,1⟩],[⟨2,0,0,1,1⟩,⟨1,0,0,0,0⟩]]
def bn:Cf:=⟨⟨pG⟩,⟨1,[],[]⟩,[[rF],[E8]]⟩
def RmL (π:List (Nat × Nat)) (σ σ':Sto):List AV->List AV->Prop
 | [],[]=>True
 | x::xs,y::ys=>(Rm π σ σ' x y/\y.one=true)/\RmL π σ σ' xs ys
 | _,_=>False
theorem RmL.ok {π:List (Nat × Nat)} {σ σ':Sto}:∀{xs ys:List AV},RmL π σ σ' xs ys->ys.length=xs.length/\∀(j:Nat) (x y:AV),xs[j]?=some x->ys[j]?=some y->Rm π σ σ' x y/\y.one=true
 | [],[],_=>⟨rfl,fun j x y h=>by simp at h⟩
 | x::xs,y::ys,h=>by
  obtain ⟨h1,h2⟩:=h
  obtain ⟨g1,g2⟩:=RmL.ok h2
  refine ⟨by rw [qS,qS,g1],fun j a b ha hb=>?_⟩
  cases j with
  | zero =>
   obtain rfl:x=a:=by simpa using ha
   obtain rfl:y=b:=by simpa using hb
   exact h1
  | succ j=>exact g2 j a b (by simpa using ha) (by simpa using hb)
 | [],y::ys,h=>h.elim
 | x::xs,[],h=>h.elim
theorem Rm.aggL {π:List (Nat × Nat)} {σ σ':Sto} {z:AV} {xs ys:List AV} (e:z = .agg xs) (h:RmL π σ σ' xs ys):Rm π σ σ' z (.agg ys):=by
 subst e
 obtain ⟨g1,g2⟩:=h.ok
 refine .agg g1 (fun j y hy=>?_) fun j x y hx hy=>(g2 j x y hx hy).1
 obtain ⟨x,hx⟩:∃x,xs[j]?=some x:=⟨_,qA (by rw [<- g1];exact (qD.1 hy).1)⟩
 exact (g2 j x y hx hy).2
theorem Rm.refIs {π:List (Nat × Nat)} {σ σ':Sto} {x:AV} {id id' ep ep':Nat} {k:RK} {bd bd':aD} (e:x = .ref id ep k) (hm:lkP π id=some id') (h:σ id=⟨ep,some bd⟩) (h':σ' id'=⟨ep',some bd'⟩):Rm π σ σ' x (.ref id' ep' k):=e ▸ .ref (gg hm) h h'
theorem tA:bn.sound=0:=by kernel_rfl
theorem rB {α:Type} {l:List α}:∀{ls:List (List α)},l∈ls->l.length<=ls.flatten.length
 | x::ls,h=>by
  rw [uL,qK]
  rcases vA.1 h with rfl | h
  ·omega
  ·have:=rB h
   omega
theorem Cf.small {c:Cf} (h0:c.sound=0) (hL:c.Lens):c.Small:=by
 have hc:=Cf.ok h0
 intro t ht
 obtain ⟨n,hn⟩:=List.mem_iff_getElem?.1 ht
 have h3:=(cY (hc.tabs n t hn)).2.1
 have h4:=jo t (hL t ht)
 have h5:reachBytes*t.length<=reachBytes*3:=Nat.mul_le_mul_left _ h3
 have h6:reachBytes*3<=1000000000000000:=by decide
 omega
theorem lc {c:Cf} (h0:c.sound=0) (hL:c.Lens):j9 c:=by
 have hc:=Cf.ok h0
 have hs:=Cf.small h0 hL
 intro n t
 have hnil:jp []:=rA [] (by decide)
 rw [bg,qM,qM]
 cases h1:c.tables[n]? with
 | none=>exact hnil
 | some tb =>
  show jp (tb[t]?.getD [])
  cases h2:tb[t]? with
  | none=>exact hnil
  | some l =>
   have h3:=cY (hc.tabs n tb h1)
   have h4:=hs tb (qP h1)
   have h5:=jz tb 0 (by omega)
   have h6:=rB (qP h2)
   have h7:((0:Nat):Int)=0:=rfl
   rw [h7] at h5
   exact rA l (by omega)
def np (l:List Cb):List Cb:=(jF ltC l.toArray).toList
theorem cB (l:List Cb):(np l).Perm l:=sD l
def cr (c:Cf) (V:Int):Vd:=ki c V (np (aK c V))
theorem dA {c:Cf} {V:Int} (h:dy c V=0):c.sound=0:=by
 rw [dy] at h
 split at h
 ·assumption
 ·exact h
theorem r7 (c:Cf) (V:Int) (hL:c.Lens):ae Tryz.prog 21 [.agg (cCf c),.i .i64 V] (.agg (cVd (cr c V))) :=
 CM c V _ (fun h=>lc (dA h) hL) (fun h=>Cf.small (dA h) hL) (fun _=>cB _) fun _ h=>sJ _ (by omega)
theorem lI (c:Cf) (V:Int) (s:Sp):∀(l:List aH),(lV c V s l=none/\∀a∈l,cZ c s (bC c s a.head V 10800)=0) \/
  ∃a∈l,cZ c s (bC c s a.head V 10800)≠0/\lV c V s l=some ⟨2,0,cZ c s (bC c s a.head V 10800),s,a.head,bC c s a.head V 10800⟩
 | []=>.inl ⟨rfl,fun a ha=>by cases ha⟩
 | a::l=>by
  rw [lV]
  by_cases h:cZ c s (bC c s a.head V 10800)=0
  ·rw [qF h,cond_true]
   rcases lI c V s l with ⟨h1,h2⟩ | ⟨b,hb,h1,h2⟩
   ·refine .inl ⟨h1,fun b hb=>?_⟩
    rcases vA.1 hb with rfl | hb
    ·exact h
    ·exact h2 b hb
   ·exact .inr ⟨b,qZ _ hb,h1,h2⟩
  ·rw [qC h,cond_false]
   exact .inr ⟨a,vD,h,rfl⟩
theorem iq (c:Cf) (V:Int) (l:List aH):∀(ss:List Sp),(ja c V l ss=vdE 1 0/\∀s∈ss,∀a∈l,cZ c s (bC c s a.head V 10800)=0) \/
  ∃s∈ss,∃a∈l,cZ c s (bC c s a.head V 10800)≠0/\ja c V l ss=⟨2,0,cZ c s (bC c s a.head V 10800),s,a.head,bC c s a.head V 10800⟩
 | []=>.inl ⟨rfl,fun s hs=>by cases hs⟩
 | s::ss=>by
  rw [ja]
  rcases lI c V s l with ⟨h1,h2⟩ | ⟨a,ha,h1,h2⟩
  ·rw [h1]
   rcases iq c V l ss with ⟨h3,h4⟩ | ⟨s',hs',a,ha,h3,h4⟩
   ·refine .inl ⟨h3,fun s' hs'=>?_⟩
    rcases vA.1 hs' with rfl | hs'
    ·exact h2
    ·exact h4 s' hs'
   ·exact .inr ⟨s',qZ _ hs',a,ha,h3,h4⟩
  ·rw [h2]
   exact .inr ⟨s,vD,a,ha,h1,rfl⟩
theorem iL {c:Cf} (h0:c.sound=0) {s:Sp} (hs:s∈aG c.topo.ports) (r:Run):cZ c s r=bz c s r:=by
 have h:=(jn (Cf.ok h0).topo).2 hs
 rw [cZ,if_pos ⟨h0,by omega⟩]
theorem kY {c:Cf} (h0:c.sound=0) {v:Nat} (hv:v<=255):dy c (v:Int)=0:=by
 rw [dy,if_pos h0,if_neg (by omega)]
theorem pf (c:Cf) (v:Nat) (hv:v<=255) (h0:c.sound=0):(∃e:Int,(e=10\/e=11)/\cr c v=vdE 4 e) \/
  (cr c v=vdE 1 0/\∀s∈aG c.topo.ports,∀h,bz c s (bC c s h v 10800)=0) \/
  (∃s h,s∈aG c.topo.ports/\bz c s (bC c s h v 10800)≠0/\cr c v=⟨2,0,bz c s (bC c s h v 10800),s,h,bC c s h v 10800⟩):=by
 have hc:=Cf.ok h0
 obtain ⟨hsnd,hask⟩:=jl hc (v:Int)
 have hp:=cB (aK c (v:Int))
 rw [cr,ki,qF (kY h0 hv),cond_true]
 by_cases h1:(aK c (v:Int)).length>500
 ·rw [qF h1,cond_true]
  exact .inl ⟨10,.inl rfl,rfl⟩
 rw [qC h1,cond_false]
 have hA:=hask (by omega)
 generalize aK c (v:Int)=ps at hsnd hp h1 hA
 generalize np ps=l' at hp
 obtain ⟨g1,g2⟩:=tM (ps:=l') (fun x hx=>hsnd x (hp.mem_iff.1 hx)) (by rw [hp.length_eq];omega)
 by_cases h2:(aO l').2=0
 rotate_left
 ·rw [qC h2,cond_false]
  rcases g1 with g | g | g
  ·exact absurd g h2
  ·rw [g];exact .inl ⟨10,.inl rfl,rfl⟩
  ·rw [g];exact .inl ⟨11,.inr rfl,rfl⟩
 rw [qF h2,cond_true]
 have hP:=g2 h2
 generalize (aO l').1=list at hP
 rw [cK,qF (kY h0 hv),cond_true]
 rcases iq c v list (aG c.topo.ports) with ⟨h3,h4⟩ | ⟨s,hs,a,ha,h3,h4⟩
 ·refine .inr (.inl ⟨h3,fun s hs h=>?_⟩)
  obtain ⟨a,ha,hh⟩:=hP.all h
  have hlike:pO ps h a.head:=fun p hpp=>hP.like a ha h a.head hh (hP.head a ha) p (hp.mem_iff.2 hpp)
  rw [(lS hc hA hs hlike 10800).wrong c s,<- iL h0 hs]
  exact h4 s hs a ha
 ·rw [iL h0 hs] at h3 h4
  exact .inr (.inr ⟨s,a.head,hs,h3,h4⟩)
def Hop.zero:Hop:=⟨0,0,0,Hd.zero⟩
theorem Ea (c:Cf) (V:Nat) (hV:V<=255) (h0:c.sound=0) (hL:c.Lens):ae Tryz.prog 46 [.agg (cCf c),.i .i64 (V:Nat)] (ofR (aK c (V:Nat)) (np (aK c (V:Nat)))) :=
 Ga c h0 (Cf.small h0 hL) V hV _ (cB _) fun h=>sJ _ (by omega)
theorem zp {c:Cf} {V:Int} (h:dy c V=0):c.sound=0/\∃v:Nat,V=v/\v<=255:=by
 refine ⟨dA h,?_⟩
 rw [dy,if_pos (dA h)] at h
 split at h
 ·cases h
 ·exact ⟨V.toNat,by omega,by omega⟩
open Go.Sort (swp)
theorem zc (x:Int):ae Tryz.prog 197 [.i .i64 x] (.b false):=by
 refine jb Tryz.func197 ?_
 have hx:x=x:=rfl
 refine zR ?_
 exact congrArg AV.b (by simp)
def ltO (x y:Int):Bool:=decide (x<y)
theorem DE (x y:Int):ae Tryz.prog 147 [.i .i64 x,.i .i64 y] (.b (ltO x y)):=by
 refine jb Tryz.func147 ?_
 refine jA ?_
 refine jc (zc x) ?_;refine jH ?_
 exact zS
end Go.Proofs.YtdidjpohnopihaaGreat.Sm
end
section
namespace Go.Proofs
open Go.Shelf
def Tryz.lays189_ren:Go.Shelf.Ren:=⟨fun | 189=>62 | 125=>105 | 257=>104 | 128=>150 | 129=>151 | 294=>141 | 295=>142 | 296=>143 | 297=>144 | 298=>145 | 299=>146 | 216=>147 | 300=>148 | 301=>149 | 328=>192 | 329=>193 | 330=>194 | 331=>195 | 332=>196 | 215=>197 | 343=>228 | n=>n,fun | 28=>51 | 3=>3 | 46=>134 | 0=>0 | 51=>242 | 53=>32 | 4=>4 | 183=>235 | 182=>234 | 131=>116 | 5=>5 | 9=>9 | 218=>276 | 222=>280 | 228=>300 | 229=>301 | n=>n,fun | n=>n⟩
theorem Tryz.lays189:Go.Proofs.Lays.n189 Tryz.prog Tryz.lays189_ren:={
 mixed:=by kernel_rfl
 f125:=Tryz.func105.trans (congrArg some (by kernel_rfl))
 f128:=Tryz.func150.trans (congrArg some (by kernel_rfl))
 f129:=Tryz.func151.trans (congrArg some (by kernel_rfl))
 f189:=Tryz.func62.trans (congrArg some (by kernel_rfl))
 f215:=Tryz.func197.trans (congrArg some (by kernel_rfl))
 f216:=Tryz.func147.trans (congrArg some (by kernel_rfl))
 f257:=Tryz.func104.trans (congrArg some (by kernel_rfl))
 f294:=Tryz.func141.trans (congrArg some (by kernel_rfl))
 f295:=Tryz.func142.trans (congrArg some (by kernel_rfl))
 f296:=Tryz.func143.trans (congrArg some (by kernel_rfl))
 f297:=Tryz.func144.trans (congrArg some (by kernel_rfl))
 f298:=Tryz.func145.trans (congrArg some (by kernel_rfl))
 f299:=Tryz.func146.trans (congrArg some (by kernel_rfl))
 f300:=Tryz.func148.trans (congrArg some (by kernel_rfl))
 f301:=Tryz.func149.trans (congrArg some (by kernel_rfl))
 f328:=Tryz.func192.trans (congrArg some (by kernel_rfl))
 f329:=Tryz.func193.trans (congrArg some (by kernel_rfl))
 f330:=Tryz.func194.trans (congrArg some (by kernel_rfl))
 f331:=Tryz.func195.trans (congrArg some (by kernel_rfl))
 f332:=Tryz.func196.trans (congrArg some (by kernel_rfl))
 f343:=Tryz.func228.trans (congrArg some (by kernel_rfl))
 t0:=Tryz.underlying0
 a0:=Tryz.isAgg0
 z0:=Tryz.sizeOf0
 v0:=Tryz.zeroValue0
 t3:=Tryz.underlying3
 a3:=Tryz.isAgg3
 z3:=Tryz.sizeOf3
 v3:=Tryz.zeroValue3
 t4:=Tryz.underlying4
 a4:=Tryz.isAgg4
 z4:=Tryz.sizeOf4
 v4:=Tryz.zeroValue4
 t5:=Tryz.underlying5
 a5:=Tryz.isAgg5
 z5:=Tryz.sizeOf5
 v5:=Tryz.zeroValue5
 t9:=Tryz.underlying9
 a9:=Tryz.isAgg9
 z9:=Tryz.sizeOf9
 v9:=Tryz.zeroValue9
 t28:=Tryz.underlying51
 a28:=Tryz.isAgg51
 z28:=Tryz.sizeOf51
 v28:=Tryz.zeroValue51
 t46:=Tryz.underlying134
 a46:=Tryz.isAgg134
 z46:=Tryz.sizeOf134
 v46:=Tryz.zeroValue134
 t51:=Tryz.underlying242
 a51:=Tryz.isAgg242
 z51:=Tryz.sizeOf242
 v51:=Tryz.zeroValue242
 t53:=Tryz.underlying32
 a53:=Tryz.isAgg32
 z53:=Tryz.sizeOf32
 v53:=Tryz.zeroValue32
 t131:=Tryz.underlying116
 a131:=Tryz.isAgg116
 z131:=Tryz.sizeOf116
 v131:=Tryz.zeroValue116
 t182:=Tryz.underlying234
 a182:=Tryz.isAgg234
 z182:=Tryz.sizeOf234
 v182:=Tryz.zeroValue234
 t183:=Tryz.underlying235
 a183:=Tryz.isAgg235
 z183:=Tryz.sizeOf235
 v183:=Tryz.zeroValue235
 t218:=Tryz.underlying276
 a218:=Tryz.isAgg276
 z218:=Tryz.sizeOf276
 v218:=Tryz.zeroValue276
 t222:=Tryz.underlying280
 a222:=Tryz.isAgg280
 z222:=Tryz.sizeOf280
 v222:=Tryz.zeroValue280
 t228:=Tryz.underlying300
 a228:=Tryz.isAgg300
 z228:=Tryz.sizeOf300
 v228:=Tryz.zeroValue300
 t229:=Tryz.underlying301
 a229:=Tryz.isAgg301
 z229:=Tryz.sizeOf301
 v229:=Tryz.zeroValue301 }
end Go.Proofs
namespace Go.Proofs.YtdidjpohnopihaaGreat.Sm
open Go.RowKit
def zQ:Tr->Nat->Tr
 | .nil,_=>.nil
 | .node a b c _,k=>if k=0 then a else if k=1 then b else c
theorem xm (x:Cb) (a b c:Tr) (ids:List Nat) (n:Nat):dP x (.node a b c ids) (n+1)=ids++(fP x n).flatMap fun k=>dP x (zQ (.node a b c ids) k) n:=by
 rw [dP]
 congr 1
 refine congrArg (fun f=>(fP x n).flatMap f) (funext fun k=>?_)
 show _=dP x (if k=0 then a else if k=1 then b else c) n
 split
 ·rfl
 ·split <;> rfl
theorem Do {x:Cb} {n k:Nat} (h:k∈fP x n):k<3:=by
 unfold fP at h
 split at h
 ·simp at h;omega
 ·rcases pq x n with h1 | h1 | h1 <;> rw [h1] at h <;> simp at h <;> omega
theorem B8 (l m:List Nat):idC (l++m)=idC l++idC m:=uA ..
theorem yZ {W:World} {F:Nat->Prop} {ids:List Nat} {news:List Value} (h:dv W F 1 (ids.map cI1) news):news=idC ids:=by
 have hn:=h.n
 rw [qH,Nat.mul_one] at hn
 refine List.ext_getElem? fun k=>?_
 by_cases hk:k<ids.length
 ·obtain ⟨_,u,h1,h2⟩:=h.r k (cI1 ids[k]) 0 (.i .i64 (ids[k]:Nat)) (by rw [qE,qA hk];rfl) rfl
  rw [Nat.mul_one,Nat.add_zero] at h1
  rw [h1,idC,qE,qA hk]
  exact congrArg some (aC rfl h2)
 ·rw [uK (by omega),idC,uK (by rw [qH];omega)]
theorem mQ {w : World} {ops : Array Oper} {rest : List Oper} {o : Oper} {a : Act} {Q : Exit -> Act -> World -> Prop} (hgd : o.guard = none) (s x : Operand)
    (ho:o.op = .call { callee:=.builtin .append,args:=#[s,x],argTypes:=#[51,51] }) (v:Value) (l ids:List Nat) (hs:a.eval s=v) (hown:w.ownsRow 0 3 1 v l.length (idC l))
    (F:Nat->Prop) (y:Value) (hy:a.eval x=y) (hx:ar w F (.sl (ids.map cI1)) y) (hb:l.length+ids.length<=1000000000)
    (h:∀v' w',w'.ownsRow 0 3 1 v' (l++ids).length (idC (l++ids))->w.grownBy w' v.ownBlock->(v'.ownBlock=v.ownBlock\/v'.ownBlock=some w.heap.size)->wpList Tryz.prog ops Q rest (a.put o.dst v') w'):wpList Tryz.prog ops Q (o::rest) a w :=
  wpList_plain hgd fun K hK=>by
    have hll:(l.map cI1).length=l.length:=qH ..
    have hil:(ids.map cI1).length=ids.length:=qH ..
    have ht:aF Tryz.prog 51 ⟨.slice 3,1,24,[.raw (.slice none 0 0)]⟩:=aW af (by kernel_rfl)
    have hi:aF Tryz.prog 3 ⟨.int .i64,1,8,[.i .i64 0]⟩:=aW af (by kernel_rfl)
    obtain ⟨v',w',cells,hr,h1,⟨news,rfl,hn⟩,h3,h4⟩:=nG (n:=0) (ty:=o.type) ht rfl hi Nat.zero_lt_one (els:=l.map cI1) (els2:=ids.map cI1) (cells:=idC l) (F:=F) (y:=y) (by rw [hll];exact hown)
      ⟨fun k cs hk=>by
        rw [qE] at hk
        obtain ⟨i,_,rfl⟩:=vR.1 hk
        rfl,by rw [hll,Nat.mul_one];exact qH ..,fun k cs j z hk hj=>by
        rw [qE] at hk
        obtain ⟨i,hi,rfl⟩:=vR.1 hk
        match j,hj with
        | 0,hj =>
          obtain rfl:=qB hj
          refine ⟨rfl,.int .i64 ((i:Nat):Int),?_,.i _ _⟩
          rw [Nat.mul_one,Nat.add_zero,idC,qE,hi]
          rfl
        | j+1,hj=>simp [cI1] at hj⟩ (yf hx (fun cs hcs=>by
        obtain ⟨i,_,rfl⟩:=vH.1 hcs
        rfl) (by decide)) (by rw [hll,hil];show (l.length+ids.length)*8<=_;omega) (by rw [hll,hil];omega)
    rw [qK,hll,hil,yZ hn,<- B8,<- qK] at h1
    unfold Oper.wp execOp
    simp only [ho,resolve,invoke,builtin,Sem.run_bind,Sem.run_pure,Result.andThen_ok,List.map_toArray,vE,List.map_nil,hs,hy,hr]
    exact hK _ _ (h v' w' h1 h3 h4)
def fnV (x:Cb):Value:=.func (.func 61) #[cbV x] #[]
structure kP (w:World) (out:Value) (r:List Nat) (w':World) (out':Value):Prop where
 own:w'.ownsRow 0 3 1 out' r.length (idC r)
 grow:w.grownBy w' out.ownBlock
 new:out'.ownBlock=out.ownBlock\/∀g,out'.ownBlock=some g->w.heap.size<=g
def Dz (x:Cb) (d:Int) (t:Tr) (r:List Nat):Prop:=∀(w:World) (F:Nat->Prop) (v out:Value) (l:List Nat),ar w F (trA t) v->(∀b,F b->b<w.heap.size)->(∀g,out.ownBlock=some g->¬F g)->w.ownsRow 0 3 1 out l.length (idC l)->l.length+r.length<=100000000 ->
 Calls Tryz.prog 60 #[v,.int .i64 d,fnV x,out] w fun e w'=>∃out',e = .returned out'/\kP w out (l++r) w' out'
theorem kP.lt {w w':World} {out out':Value} {r:List Nat} (h:kP w out r w' out') {k:Nat} (hk:k<w.heap.size) (hn:∀g,out.ownBlock=some g->g≠k):out'.ownBlock≠some k:=fun e=>by
 rcases h.new with h1 | h1
 ·rw [h1] at e
  exact hn k e rfl
 ·have:=h1 k e
  omega
theorem kP.trans {w w1 w2:World} {out o1 o2:Value} {r1 r2:List Nat} (h:kP w out r1 w1 o1) (k:kP w1 o1 r2 w2 o2):kP w out r2 w2 o2:=by
 refine ⟨k.own,⟨k.grow.os.trans h.grow.os,k.grow.tape.trans h.grow.tape,k.grow.output.trans h.grow.output,vJ h.grow.size k.grow.size,fun b hb hn=>?_⟩,?_⟩
 ·rw [k.grow.block b (vK hb h.grow.size) (fun e=>?_),h.grow.block b hb hn]
  rcases h.new with h1 | h1
  ·exact hn (e.trans h1)
  ·have:=h1 b e.symm
   omega
 ·rcases k.new with k1 | k1
  ·rw [k1]
   exact h.new
  ·exact .inr fun g hg=>vJ h.grow.size (k1 g hg)
theorem kP.kp {w w1 w2:World} {out o1:Value} {r1:List Nat} (h:kP w out r1 w1 o1) (k:Kp No w1 w2):kP w out r1 w2 o1 :=
 ⟨gb h.own fun g hg=>k.block g (h.own.lt g hg).2 (az _),⟨k.os.trans h.grow.os,k.tape.trans h.grow.tape,k.output.trans h.grow.output,vJ h.grow.size k.size,fun b hb hn=>(k.block b (vK hb h.grow.size) (az _)).trans (h.grow.block b hb hn)⟩,h.new⟩
theorem pg {W:World} {F:Nat->Prop} {t:Tr} {v:Value} (h:ar W F (trA t) v):∃p,v = .pointer p:=by
 cases t with
 | nil=>exact ⟨none,aC rfl h⟩
 | node a b c ids =>
  unfold trA at h
  cases h with
  | ro cs b off=>exact ⟨_,rfl⟩
theorem Gw (x:Cb) (d:Int):Dz x d .nil []:=by
 intro w F v out l hv hF ho hown hl
 obtain rfl:v = .pointer none:=aC rfl hv
 unfold fnV cbV
 rw [vZ]
 go_enter Tryz.func60,Tryz.ntmps60
 go_wp2_with fail
 go_ret
 exact ⟨out,rfl,hown,⟨rfl,rfl,rfl,qJ _,fun _ _ _=>rfl⟩,.inl rfl⟩
set_option maxHeartbeats 4000000 in
theorem yr (x : Cb) (d d' : Int) (a b c : Tr) (ids ws : List Nat) (g : Nat -> List Nat) (hw : ae Tryz.prog 61 [.agg (cCb x), .i .i64 d] (.sl (ws.map cI1))) (hd : IntKind.i64.wrap (d - 1) = d')
  (hws:∀k∈ws,k<3) (H:∀k∈ws,Dz x d' (zQ (.node a b c ids) k) (g k)):Dz x d (.node a b c ids) (ids++ws.flatMap g):=by
 intro w F v out l hv hF ho hown hl
 unfold trA at hv
 cases hv with
 | ro cs b0 off cell hFb hb h1 hr hc =>
  have k0:ar w F (trA a) (cell 0):=hr 0 _ rfl
  have k1:ar w F (trA b) (cell 1):=hr 1 _ rfl
  have k2:ar w F (trA c) (cell 2):=hr 2 _ rfl
  have k3:ar w F (.sl (ids.map cI1)) (cell 3):=hr 3 _ rfl
  have c0:=hc 0 _ rfl
  have c1:=hc 1 _ rfl
  have c2:=hc 2 _ rfl
  have c3:=hc 3 _ rfl
  obtain ⟨p0,e0⟩:=pg k0
  obtain ⟨p1,e1⟩:=pg k1
  obtain ⟨p2,e2⟩:=pg k2
  obtain ⟨A3,n3,e3,_,_⟩:=bP k3
  rw [e0] at k0 c0
  rw [e1] at k1 c1
  rw [e2] at k2 c2
  rw [e3,qH] at k3 c3
  clear e0 e1 e2 e3 h1 hr hc
  rw [Nat.add_zero] at c0
  have K0:=Lib.hid k0
  have K1:=Lib.hid k1
  have K2:=Lib.hid k2
  have K3:=Lib.hid k3
  have HF:=Lib.hid hF
  have Ho:=Lib.hid ho
  have Hown:=Lib.hid hown
  have Hl:=Lib.hid hl
  have Hb:=Lib.hid hb
  have HFb:=Lib.hid hFb
  have Hw:=Lib.hid hw
  have Hd:=Lib.hid hd
  have HH:=Lib.hid H
  have Hws:=Lib.hid hws
  clear k0 k1 k2 k3 hF ho hown hl hb hFb hw hd H hws
  unfold fnV cbV
  go_enter Tryz.func60,Tryz.ntmps60
  go_wp2_with (at_builtin;refine mQ rfl _ _ rfl out l ids rfl Hown.out F _ rfl K3.out (by have:=Hl.out;rw [qK] at this;omega) ?_)
  intro out1 w1 hown1 hgrow1 hnew1
  rw [<- qK] at hown1
  have H1:=Lib.hid (show kP w out (l++ids) w1 out1 from ⟨hown1,hgrow1,hnew1.imp id fun e g hg=>by rw [e] at hg;exact Nat.le_of_eq (qB hg)⟩)
  clear hown1 hgrow1 hnew1 c3
  go_wp2_with fail
  refine (Hw.out.calls w1 (fun _=>False) [cbV x,.int .i64 d] rfl (aS (gq _ _ _) (aS (.i _ _) cN)) (fun _ h=>h.elim) (eI _ _)).mono ?_
  rintro e W2 ⟨u,rfl,hk2,hp⟩
  obtain ⟨A4,n4,rfl,_,hmx⟩:=bP hp
  rw [qH] at hp
  have hm4:=tT hp
  rw [qH]
  rw [qH] at hm4
  unfold maxLen at hm4
  have H2:=Lib.hid (H1.out.kp hk2)
  have Hk2:=Lib.hid hk2
  have Hp:=Lib.hid hp
  clear hk2 hp hmx
  -- what the loop keeps
  have KF:=Lib.hid (fun (wr:World) (o:Value) (r:List Nat) (h:kP W2 out1 r wr o) (b:Nat) (hb:F b)=>show wr.heap[b]?=w.heap[b]? from by
   have h0:=HF.out b hb
   rw [h.grow.block b (vK h0 H2.out.grow.size) (fun e=>H2.out.lt h0 (fun g hg e=>Ho.out g hg (e ▸ hb)) e.symm),H2.out.grow.block b h0 (fun e=>Ho.out b e.symm hb)])
  go_wp2_with fail
  go_loopw [3,24] (fun o i wr=>∃j,j<=ws.length/\i = .int .i64 (j:Nat)/\kP W2 out1 (l++ids++(ws.take j).flatMap g) wr o) (fun _ i _=>ws.length - (intOf i).toNat)
  case atStart=>exact ⟨0,qR _,rfl,by simpa using H2.out.own,⟨rfl,rfl,rfl,qJ _,fun _ _ _=>rfl⟩,.inl rfl⟩
  case round =>
   obtain ⟨j,hj,rfl,hG⟩:=hrel
   have HG:=Lib.hid hG
   clear hG
   by_cases hlt:j<ws.length
   ·have hkj:ws[j]?=some ws[j]:=qA hlt
    have hmem:ws[j]∈ws:=vS hlt
    generalize ws[j]=k at hkj hmem
    have hk3:=Hws.out k hmem
    obtain ⟨b4,off4,v4,rfl,hFb4,ck,hv4⟩:=nD Hp.out (by rw [qE,hkj];rfl)
    obtain rfl:=aC rfl hv4
    have hb4:w1.heap.size<=b4/\b4<W2.heap.size:=hFb4.elim (fun h=>h.elim) id
    replace ck:wr.cell? ⟨b4,off4+j,none⟩=some (.int .i64 ((k:Nat):Int)):=by
     rw [<- ck]
     exact World.cell?_of_block (a:=⟨b4,off4+j,none⟩) (HG.out.grow.block b4 hb4.2 (fun e=>by
      have:=(H1.out.own.lt b4 e.symm).2
      omega))
    obtain ⟨pk,cp,hpk⟩:∃pk,w.cell? ⟨b0,off+k,none⟩=some (.pointer pk)/\ar w F (trA (zQ (.node a b c ids) k)) (.pointer pk):=by
     have:k=0\/k=1\/k=2:=by omega
     rcases this with rfl | rfl | rfl
     ·exact ⟨p0,c0,K0.out⟩
     ·exact ⟨p1,c1,K1.out⟩
     ·exact ⟨p2,c2,K2.out⟩
    replace cp:wr.cell? ⟨b0,off+k,none⟩=some (.pointer pk):=(World.cell?_of_block (a:=⟨b0,off+k,none⟩) (KF.out _ _ _ HG.out b0 HFb.out)).trans cp
    have Hpk:=Lib.hid hpk
    have Hkj:=Lib.hid hkj
    have Hmem:=Lib.hid hmem
    have q1:(j:Int)<(ws.length:Int):=by omega
    have q2:(k:Int)<3:=by omega
    clear hv4 hb4 hFb4 hkj hmem hpk c0 c1 c2 hlt
    have hdd:=Hd.out
    go_wp2_with fail
    have hst:(ws.take (j+1)).flatMap g=(ws.take j).flatMap g++g k:=iS g Hkj.out
    have hlen:(l++ids++(ws.take j).flatMap g).length+(g k).length<=100000000:=by
     obtain ⟨r,hr⟩:=qi g Hkj.out
     have:=Hl.out
     rw [hr] at this
     simp only [qK] at this ⊢
     omega
    have Hst:=Lib.hid hst
    clear hst
    refine (HH.out k Hmem.out wr F (.pointer pk) u3 _ (Hpk.out.keep (fun b hb _=>KF.out _ _ _ HG.out b hb) fun b h _=>h) (fun b hb=>vK (HF.out b hb) (vJ H2.out.grow.size HG.out.grow.size)) (fun g' hg' hFg=>by
     have h0:=HF.out g' hFg
     have h1:out1.ownBlock≠some g':=H1.out.lt h0 fun g'' hg'' e=>Ho.out g'' hg'' (e ▸ hFg)
     exact HG.out.lt (vK h0 H2.out.grow.size) (fun g'' hg'' e=>h1 (e ▸ hg'')) hg') HG.out.own hlen).mono ?_
    rintro e W3 ⟨out3,rfl,h3⟩
    have H3:=Lib.hid (HG.out.trans h3)
    clear h3 hlen ck cp
    go_wp2_with fail
    go_roundw
    case rel =>
     refine ⟨j+1,by omega,by go_num,?_⟩
     rw [Hst.out,<- uI]
     exact H3.out
    case measure=>simp [intOf];omega
   ·have q1:¬(j:Int)<(ws.length:Int):=by omega
    obtain rfl:j=ws.length:=by omega
    rw [vL (qJ _)] at HG
    go_wp2_with fail
    go_ret
    refine ⟨u3,rfl,?_⟩
    rw [<- uI]
    exact H2.out.trans HG.out
theorem om (x:Cb):∀(n:Nat) (t:Tr),n<=128->Dz x ((n:Int) - 1) t (dP x t n)
 | n,.nil,hn=>by
  have e:dP x .nil n=[]:=by cases n <;> rfl
  rw [e]
  exact Gw x _
 | 0,.node a b c ids,hn=>by
  have h:=yr x (((0:Nat):Int) - 1) (-2) a b c ids [] (fun _=>[]) (C5 x) (by decide) (fun k hk=>by cases hk) (fun k hk=>by cases hk)
  rw [List.flatMap_nil,vZ] at h
  exact h
 | n+1,.node a b c ids,hn=>by
  rw [xm]
  have e:(((n+1:Nat):Int) - 1)=(n:Int):=by omega
  rw [e]
  exact yr x (n:Int) ((n:Int) - 1) a b c ids (fP x n) (fun k=>dP x (zQ (.node a b c ids) k) n) (EQ x n (by omega)) (by rw [IntKind.wrap_i64];omega) (fun k hk=>Do hk) (fun k hk=>om x n (zQ (.node a b c ids) k) (by omega))
theorem EI:ae Tryz.prog 141 [.sl [],.i .i64 0,.i .i64 0] (.tup []):=by
 refine jb Tryz.func141 ?_
 refine jA ?_
 refine AW.loopL (ι:=Unit) (fun _=>[(0,.sl []),(1,.i .i64 0),(2,.i .i64 0),(6,.i .i64 1)]) (fun _=>[]) (fun _=>True) (fun _=>0) () trivial jW jW fun _ _=>?_
 refine jA ?_
 refine zF ?_
 refine jE ?_;refine jA ?_
 exact (oZ rfl (.inl rfl))
theorem Ex (lim:Int):ae Tryz.prog 104 [.sl [],.i .i64 0,.i .i64 0,.i .i64 lim] (.tup []):=by
 refine jb Tryz.func104 ?_
 refine jA ?_
 refine AW.loopL (ι:=Unit) (fun _=>[(0,.sl []),(1,.i .i64 0),(2,.i .i64 0),(3,.i .i64 lim)]) (fun _=>[]) (fun _=>True) (fun _=>0) () trivial jW jW fun _ _=>?_
 refine jA ?_
 refine zT ?_
 refine jc EI ?_;refine jH ?_
 exact AW.ret (oZ rfl (.inr rfl))
theorem Bs:ae Tryz.prog 62 [.sl []] (.tup []):=by
 refine jb Tryz.func62 ?_
 have hL:=tQ (cy ((0:Nat):Int)) (by rw [kg (by omega)];omega)
 refine jA ?_
 refine jc hL ?_
 refine wH rfl ?_
 refine RG.callS rfl rfl rfl rfl rfl (Ex _) rfl rfl ?_
 refine jH ?_
 exact (oZ rfl (.inl rfl))
def ovL (x:Cb) (l:List (Nat × Cb)):List Int:=((dP x (fW l) 128).map fun n=>((n:Nat):Int)).mergeSort fun a b=>decide (a<=b)
theorem EH (w:World) (out:Value) (r:List Nat) (h:w.ownsRow 0 3 1 out r.length (idC r)) (hl:r.length<=1000000000) :
  Calls Tryz.prog 62 #[out] w fun e w'=>e = .returned (.tuple #[])/\w'.ownsRow 0 3 1 out r.length (((r.map fun n=>((n:Nat):Int)).mergeSort fun a b=>decide (a<=b)).map (Value.int .i64))/\w.grownBy w' out.ownBlock:=by
 rcases h.2 with ⟨rfl,h0⟩ | ⟨g,cap,cur,rfl,_,hg,h1,h2,h3,h4⟩
 ·obtain rfl:r=[]:=List.eq_nil_of_length_eq_zero h0
  have hc:=Bs.calls w (fun _=>False) [.slice none 0 0] rfl (aS (.sl [] none 0 1 0 0 (fun _ _=>undef) (qJ _) (qR _) (fun h=>absurd h (Nat.lt_irrefl 0)) (fun _ _ h=>by simp at h) (fun _ _ _ _ h=>by simp at h) (fun _ _ _ _ h=>by simp at h) (fun _ _ _ _ h=>by simp at h)) cN) (fun _ h=>h.elim) (eI _ _)
  refine hc.mono ?_
  rintro e w' ⟨v,rfl,hk,hp⟩
  have hv:v = .tuple #[]:=by
   cases hp with
   | tup cs vs hl hr =>
    obtain rfl:vs=[]:=List.eq_nil_of_length_eq_zero hl
    rfl
  subst hv
  exact ⟨rfl,⟨by simp,.inl ⟨rfl,rfl⟩⟩,⟨hk.os,hk.tape,hk.output,hk.size,fun k hk' _=>hk.block k hk' (az _)⟩⟩
 ·have hlt:=(qI.1 hg).1
  have hll:(r.map fun n=>((n:Nat):Int)).length=r.length:=qH ..
  rw [Nat.mul_one] at h4
  have ht:cur.toList.take (r.map fun n=>((n:Nat):Int)).length=(r.map fun n=>((n:Nat):Int)).map (Value.int .i64):=by
   rw [hll,h4,idC,List.map_map]
   rfl
  have hS:=Any.slices_Sort_int Tryz.lays189 g 0 cap (r.map fun n=>((n:Nat):Int)) w (holds_of_blockI hg ht) hlt (by omega)
  rw [hll] at hS
  refine hS.mono ?_
  rintro e w' ⟨rfl,n,os,rfl⟩
  refine ⟨rfl,?_,grownBy_sortedI _⟩
  have:=ownsRow_sortedI (w:=w) (base:=0) (g:=g) (cap:=cap) (n:=n) (e:=3) (os:=os) (cur:=cur) (ss:=r.map fun n=>((n:Nat):Int)) (ts:=(r.map fun n=>((n:Nat):Int)).mergeSort fun a b=>decide (a<=b)) (by rw [List.length_mergeSort]) (qR _) hg (by omega) h2 h3
  rw [hll] at this
  exact this
theorem zm (w:World) (A:Option Addr) (n c:Nat) (h:n<=c) (hA:A=none->c=0) (hn:n<=1000000000):Calls Tryz.prog 37 #[.slice A n c] w fun e w'=>e = .returned (.slice A n n)/\Kp No w w':=by
 have q1:(n:Int)<=(c:Int):=by omega
 go_enter Tryz.func37,Tryz.ntmps37
 cases A with
 | none =>
  obtain rfl:=hA rfl
  obtain rfl:n=0:=by omega
  go_wp2_with fail
  go_ret
  exact ⟨rfl,Kp.refl _ _⟩
 | some ad =>
  go_wp2_with fail
  go_ret
  exact ⟨rfl,Kp.refl _ _⟩
noncomputable def cA (l:List (Nat × Cb)):List AV:=[trA (trL 127 (atN l 127 [0])),trA (trL 127 (atN l 127 [1])),trA (trL 127 (atN l 127 [2])),.sl ((i8 l []).map cI1)]
theorem Bl {W:World} {F:Nat->Prop} {g n:Nat} (xs:List Int) (hn:xs.length=n) (hm:n<=maxLen) (hF:F g) (hg:g<W.heap.size) (hc:∀k (h:k<xs.length),W.cell? ⟨g,k,none⟩=some (.int .i64 xs[k])):ar W F (.sl (xs.map cI)) (.slice (some ⟨g,0,none⟩) n n):=by
  have hlen:(xs.map cI).length=n:=by rw [qH,hn]
  have hat:∀(k:Nat) (cs:List AV),(xs.map cI)[k]?=some cs->∃h:k<xs.length,cs=cI xs[k]:=fun k cs hk=>by
    rw [qE] at hk
    obtain ⟨i,hi,rfl⟩:=vR.1 hk
    obtain ⟨h,e⟩:=qD.1 hi
    exact ⟨h,by rw [e]⟩
  have hj0:∀{i:Int} {j:Nat} {x:AV},(cI i)[j]?=some x->j=0/\x = .i .i64 i:=fun {i j x} hx=>by
    match j,hx with
    | 0,hx=>exact ⟨rfl,(qB hx).symm⟩
    | j+1,hx=>simp [cI] at hx
  have hs:=ar.sl (W:=W) (F:=F) (xs.map cI) (some ⟨g,0,none⟩) n 1 g 0 (fun k _=>.int .i64 (xs.getD k 0)) (by omega) hm (fun _=>⟨rfl,hF,hg⟩)
    (fun k cs hk=>by obtain ⟨_,rfl⟩:=hat k cs hk;rfl)
    (fun k cs j x hk hx=>by obtain ⟨_,rfl⟩:=hat k cs hk;obtain ⟨_,rfl⟩:=hj0 hx;rfl)
    (fun k cs j x hk hx=>by
      obtain ⟨h,rfl⟩:=hat k cs hk
      obtain ⟨_,rfl⟩:=hj0 hx
      rw [qM,qA h]
      exact .i _ _)
    (fun k cs j x hk hx=>by
      obtain ⟨h,rfl⟩:=hat k cs hk
      obtain ⟨rfl,rfl⟩:=hj0 hx
      rw [vN,Nat.mul_one,Nat.add_zero,hc k h,qM,qA h]
      rfl)
  rw [hlen] at hs
  exact hs
theorem ae.mkT2 {P : Program} {f : FuncId} {x y r : AV} (hf : ∃ fn c, P.funcs[f]? = some fn /\ fn.body = some c /\ (fn.name == "runtime.NumGoroutine") = false) (h : ∀ (W : World) (F : Nat -> Prop) (v u : Value), ar W F x v -> ar W F y u -> (∀ b, F b -> b < W.heap.size) -> jZ W F ->
  Calls P f #[v,u] W fun e W'=>∃v,e = .returned v/\Kp No W W'/\ar W' (fun b=>F b\/(W.heap.size<=b/\b<W'.heap.size)) r v):ae P f [x,y] r :=
 ⟨hf,fun W F vs hl hv hF hL=>by
  match vs,hl with
  | [v,u],_=>exact h W F v u (hv 0 _ _ rfl rfl) (hv 1 _ _ rfl rfl) hF hL⟩
theorem Cr (x:Cb) (l:List (Nat × Cb)):(ovL x l).length=(dP x (fW l) 128).length:=by rw [ovL,List.length_mergeSort,qH]
theorem CL (x:Cb) (l:List (Nat × Cb)):(dP x (fW l) 128).length<=l.length:=by
 rw [(qv x l).length_eq,qH]
 exact List.length_filter_le _ _
set_option maxHeartbeats 4000000 in
theorem x7 (x:Cb) (l:List (Nat × Cb)) (hl:l.length<=100000000) (hx:x.sound=true):ae Tryz.prog 30 [.ro (cA l),.agg (cCb x)] (.sl ((ovL x l).map cI)):=by
 refine ae.mkT2 ⟨_,_,Tryz.func30,rfl,by kernel_rfl⟩ fun w F v u hv hu hF hL=>?_
 obtain ⟨b0,off,rfl⟩:∃b off,v = .pointer (some ⟨b,off,none⟩):=by
  cases hv with
  | ro cs b off=>exact ⟨_,_,rfl⟩
 obtain rfl:u=cbV x:=by
  cases hu with
  | agg cs vs hlen h1 hr =>
   match vs,hlen with
   | [v0,v1,v2,v3],_ =>
    rw [aC rfl (hr 0 _ v0 rfl rfl),aC rfl (hr 1 _ v1 rfl rfl),aC rfl (hr 2 _ v2 rfl rfl),aC rfl (hr 3 _ v3 rfl rfl)]
    rfl
 have Hsnd:=Lib.hid (fun (W:World)=>(aV x true hx).calls W (fun _=>False) [cbV x] rfl (aS (gq _ _ _) cN) (fun _ h=>h.elim) (eI _ _))
 have Hv:=Lib.hid hv
 have HF:=Lib.hid hF
 have Hlen:=Lib.hid (vJ (CL x l) hl)
 clear hv hF hu hx
 unfold cbV
 go_enter Tryz.func30,Tryz.ntmps30
 go_wp2_with fail
 refine (Hsnd.out _).mono ?_
 rintro e W1 ⟨v,rfl,hk1,hp⟩
 obtain rfl:v = .bool true:=aC rfl hp
 have Hk1:=Lib.hid (((Kp.refl No w).alloc _).trans hk1)
 have Hbox:=Lib.hid ((hk1.block _ (by simp) (az _)).trans (heap_alloc_new w _))
 clear hk1 hp Hsnd
 go_wp2_with fail
 refine gn 6 (by kernel_rfl) (by kernel_rfl) fun W2 hk2=>?_
 have Hk2:=Lib.hid (Hk1.out.trans hk2)
 have hbx:=hk2.heap Hbox.out (az _)
 have c0:W2.cell? ⟨w.heap.size,0,none⟩=some (.int .u64 x.value.hi.toNat):=aa hbx rfl
 have c1:W2.cell? ⟨w.heap.size,1,none⟩=some (.int .u64 x.value.lo.toNat):=aa hbx rfl
 have c2:W2.cell? ⟨w.heap.size,2,none⟩=some (.int .u64 x.care.hi.toNat):=aa hbx rfl
 have c3:W2.cell? ⟨w.heap.size,3,none⟩=some (.int .u64 x.care.lo.toNat):=aa hbx rfl
 clear hk2 hbx
 simp only [List.take_succ_cons,List.take_zero,List.drop_succ_cons,uR]
 repeat still_step
 refine wpStill_nil ?_
 clear c0 c1 c2 c3
 go_wp2_with fail
 refine (om x 128 (fW l) (qJ _) W2 F _ (.slice none 0 0) [] (Hv.out.keep (fun b hb h=>Hk2.out.block b h (az _)) fun b h _=>h) (fun b hb=>vK (HF.out b hb) Hk2.out.size) (fun g hg=>by cases hg) ⟨by simp [idC],.inl ⟨rfl,rfl⟩⟩ (by have:=Hlen.out;simp only [List.length_nil];omega)).mono ?_
 rintro e W3 ⟨out,rfl,h3⟩
 rw [uT] at h3
 have H3:=Lib.hid h3
 clear h3
 go_wp2_with fail
 refine (EH W3 out _ H3.out.own (by have:=Hlen.out;omega)).mono ?_
 rintro e W4 ⟨rfl,hown,hgrow⟩
 generalize hn:(dP x (fW l) 128).length=n at hown
 have hn':n<=100000000:=hn ▸ Hlen.out
 have hov:(ovL x l).map (Value.int .i64)=(((dP x (fW l) 128).map fun n=>((n:Nat):Int)).mergeSort fun a b=>decide (a<=b)).map (Value.int .i64):=rfl
 rw [<- hov] at hown
 have hol:(ovL x l).length=n:=(Cr x l).trans hn
 have hnew:∀g,out.ownBlock=some g->w.heap.size<=g:=fun g hg=>by
  rcases H3.out.new with h1 | h1
  ·rw [h1] at hg
   cases hg
  ·exact vJ Hk2.out.size (h1 g hg)
 have hkp:Kp No w W4:=⟨hgrow.os.trans (H3.out.grow.os.trans Hk2.out.os),hgrow.tape.trans (H3.out.grow.tape.trans Hk2.out.tape),hgrow.output.trans (H3.out.grow.output.trans Hk2.out.output),vJ (vJ Hk2.out.size H3.out.grow.size) hgrow.size,fun k hk _=>by
  rw [hgrow.block k (vK hk (vJ Hk2.out.size H3.out.grow.size)) (fun e=>by have:=hnew k e.symm;omega),H3.out.grow.block k (vK hk Hk2.out.size) (fun e=>by cases e),Hk2.out.block k hk (az _)]⟩
 have Hkp:=Lib.hid hkp
 have Hov:=Lib.hid hown
 have Hnew:=Lib.hid hnew
 have Hol:=Lib.hid hol
 clear hgrow hnew hov hkp hn
 rcases hown.2 with ⟨rfl,h0⟩ | ⟨g,cap,cur,rfl,_,hg,h1,h2,h3,h4⟩
 ·clear hown
  go_wp2_with fail
  refine (zm W4 none 0 0 (qJ _) (fun _=>rfl) (qR _)).mono ?_
  rintro e W5 ⟨rfl,hk5⟩
  have Hk5:=Lib.hid hk5
  clear hk5
  go_wp2_with fail
  go_ret
  have e0:ovL x l=[]:=List.eq_nil_of_length_eq_zero (Hol.out.trans h0)
  refine ⟨_,rfl,Hkp.out.trans Hk5.out,?_⟩
  rw [e0]
  exact .sl [] none 0 1 0 0 (fun _ _=>undef) (qJ _) (qR _) (fun h=>absurd h (Nat.lt_irrefl 0)) (fun _ _ h=>by simp at h) (fun _ _ _ _ h=>by simp at h) (fun _ _ _ _ h=>by simp at h) (fun _ _ _ _ h=>by simp at h)
 ·have Hg:=Lib.hid hg
  clear hown hg h3 h4
  go_wp2_with fail
  refine (zm W4 (some ⟨g,0,none⟩) n cap h1 (fun h=>by cases h) (by omega)).mono ?_
  rintro e W5 ⟨rfl,hk5⟩
  have Hk5:=Lib.hid hk5
  clear hk5
  go_wp2_with fail
  go_ret
  refine ⟨_,rfl,Hkp.out.trans Hk5.out,?_⟩
  have hlt:=(qI.1 Hg.out).1
  refine Bl (ovL x l) Hol.out (by omega) (.inr ⟨Hnew.out g rfl,vK hlt Hk5.out.size⟩) (vK hlt Hk5.out.size) fun k hk=>?_
  have hk':k<n:=Hol.out ▸ hk
  rw [World.cell?_of_block (w:=W4) (a:=⟨g,k,none⟩) (Hk5.out.block g hlt (az _)),Hov.out.cellAt k (by omega),qE,qA hk]
  rfl
theorem tj (x:Cb) (l:List (Nat × Cb)) (hx:x.sound=false):ae Tryz.prog 30 [.ro (cA l),.agg (cCb x)] (.sl []):=by
 refine ae.mkT2 ⟨_,_,Tryz.func30,rfl,by kernel_rfl⟩ fun w F v u hv hu hF hL=>?_
 obtain ⟨b0,off,rfl⟩:∃b off,v = .pointer (some ⟨b,off,none⟩):=by
  cases hv with
  | ro cs b off=>exact ⟨_,_,rfl⟩
 obtain rfl:u=cbV x:=by
  cases hu with
  | agg cs vs hlen h1 hr =>
   match vs,hlen with
   | [v0,v1,v2,v3],_ =>
    rw [aC rfl (hr 0 _ v0 rfl rfl),aC rfl (hr 1 _ v1 rfl rfl),aC rfl (hr 2 _ v2 rfl rfl),aC rfl (hr 3 _ v3 rfl rfl)]
    rfl
 have Hsnd:=Lib.hid (fun (W:World)=>(aV x false hx).calls W (fun _=>False) [cbV x] rfl (aS (gq _ _ _) cN) (fun _ h=>h.elim) (eI _ _))
 clear hv hF hu hx
 unfold cbV
 go_enter Tryz.func30,Tryz.ntmps30
 go_wp2_with fail
 refine (Hsnd.out _).mono ?_
 rintro e W1 ⟨v,rfl,hk1,hp⟩
 obtain rfl:v = .bool false:=aC rfl hp
 have Hk1:=Lib.hid (((Kp.refl No w).alloc _).trans hk1)
 clear hk1 hp Hsnd
 go_wp2_with fail
 go_ret
 exact ⟨_,rfl,Hk1.out,.sl [] none 0 1 0 0 (fun _ _=>undef) (qJ _) (qR _) (fun h=>absurd h (Nat.lt_irrefl 0)) (fun _ _ h=>by simp at h) (fun _ _ _ _ h=>by simp at h) (fun _ _ _ _ h=>by simp at h) (fun _ _ _ _ h=>by simp at h)⟩
def F2 (x:Cb):List AV:=[.agg (cCb x)]
def aqB (pre:List Cb):List (Nat × SB):=[(2,⟨0,some (.box 73 [.row 40 0 0 (pre.map cCb).length])⟩),(40,⟨0,some (.row 36 4 (pre.map cCb))⟩)]
theorem FD (pre:List Cb):(aqB pre).all lw=true:=by
 have h2:lw (40,⟨0,some (.row 36 4 (pre.map cCb))⟩)=true:=by
  simp only [lw,aD.nof]
  rw [qQ]
  refine ⟨rfl,qW.2 fun cs hcs=>?_⟩
  obtain ⟨x,_,rfl⟩:=vH.1 hcs
  rfl
 rw [aqB,uZ,uZ,h2]
 rfl
def GJ (Fin:List Cb->Prop) (e:Exit) (s:St):Prop:=(e = .normal\/e = .ret)/\∃(ep:Nat) (pre:List Cb),Fin pre/\s.σ 40=⟨ep,some (.row 36 4 (pre.map cCb))⟩/\s.ts 4 = .row 40 ep 0 (pre.map cCb).length
theorem sQ {f : FuncId} {cs : List Value} {Nx : List Cb -> Cb -> Prop} {Fin : List Cb -> Prop} (C : Ctx) (hfF : ∃ fn c, Tryz.prog.funcs[f]? = some fn /\ fn.body = some c /\ (fn.name == "runtime.NumGoroutine") = false)
  (hI:∀W F,C.In W F->(∀b,F b->b<W.heap.size)->IAt Tryz.prog f cs F2 Nx Fin W F) (hNx:∀pre x,Nx pre x->pre.length<=1000000) (W:World) (F:Nat->Prop) (hF:∀b,F b->b<W.heap.size) (hC:C.In W F) :
  Calls Tryz.prog 200 #[.slice none 0 0,.func (.func f) #[] cs.toArray] W fun e W'=>∃pre v,Fin pre/\e = .returned v/\Kp No W W'/\∃cells,W'.ownsRow 0 36 4 v pre.length cells/\dv W' (fun _=>False) 4 (pre.map cCb) cells/\∀g,v.ownBlock=some g->W.heap.size<=g:=by
 refine (pV (C:=C) (args:=[.raw (.slice none 0 0),.raw (.func (.func f) #[] cs.toArray)]) Tryz.func200 rfl rfl rfl (Q:=GJ Fin) ?_ (fun s=>s.ts 4) ?_ W F [.slice none 0 0,.func (.func f) #[] cs.toArray] rfl (aS (.raw _) (aS (.raw _) cN)) hF (eI _ _) hC).mono ?_
 ·refine AWC.fst ?_
  refine jA ?_
  refine AWC.seq ?_
  refine AWC.fst ?_
  refine AW.nilRow 40 0 36 4 [(1,.raw (.func (.func f) #[] cs.toArray)),(2,.own 2 0 0)] (aqB []) ⟨.is rfl rfl,.rn (rO rfl rfl rfl),trivial⟩ ⟨.boxL rfl ⟨.nil rfl,trivial⟩ rfl,.old (bR rfl rfl),trivial⟩ ?_
  refine jA ?_
  refine AWC.block ?_
  refine AWC.rangeFunc hfF hI rfl (fun _=>rfl) rfl [2] [(2,.own 2 0 0)] aqB jW ?_ rfl (fun pre id hid=>?_) FD ?_ ?_
  ·exact ⟨.boxL rfl jQ rfl,bR rfl rfl,trivial⟩
  ·obtain rfl:=qO.1 hid
   exact ⟨by decide,_,rfl⟩
  ·intro q pre x hx
   have hl:=hNx pre x hx
   refine jA ?_
   refine RG.opS rfl (co cCb pre x (by omega) rfl rfl rfl rfl (tk rfl) rfl (tk rfl) rfl rfl ⟨_,rfl,rfl⟩ rfl rfl) rfl ?_;refine jH ?_
   exact ⟨.ghost rfl rfl rfl,.boxL rfl jQ rfl,bR rfl rfl,trivial⟩
  ·intro q pre hpre
   show AWC _ _ _ _ _ _
   refine AWC.lift ?_
   refine jA ?_
   exact AW.ret ⟨.inr rfl,_,pre,hpre,rfl,rfl⟩
 ·rintro e s ⟨he,_⟩
  exact ⟨he,pd rfl s⟩
 ·rintro e W' ⟨v,F',μ',s',q,rfl,hk,⟨he,ep,pre,hp,h1,h2⟩,hrel,hinv,hown⟩
  rw [h2] at hrel
  obtain ⟨cells,ho,hc,hg⟩:=mZ hinv h1 hrel
  rw [qH] at ho
  refine ⟨pre,v,hp,rfl,hk,cells,ho,⟨hc.hm,hc.n,fun k cs j x hk hj=>?_⟩,fun g hgg=>?_⟩
  ·obtain ⟨q1,u,q2,q3⟩:=hc.r k cs j x hk hj
   refine ⟨q1,u,q2,?_⟩
   rw [qE] at hk
   obtain ⟨y,_,rfl⟩:=vR.1 hk
   match j,hj with
   | 0,hj=>obtain rfl:=qB hj;rw [aC rfl q3];exact .u _
   | 1,hj=>obtain rfl:=qB hj;rw [aC rfl q3];exact .u _
   | 2,hj=>obtain rfl:=qB hj;rw [aC rfl q3];exact .u _
   | 3,hj=>obtain rfl:=qB hj;rw [aC rfl q3];exact .u _
   | j+4,hj=>simp [cCb] at hj
  ·obtain ⟨c,hm⟩:=hg g hgg
   exact hown g ⟨40,ep,_,c,h1,hm⟩
abbrev CE:=Cb × Int × Nat
def cuE (e:CE):MapEntry:=⟨bH e.1,.int .i64 e.2.1,e.2.2⟩
def cuO (es:List CE) (clk:Nat):Obj:=.map (es.map cuE).toArray clk
theorem nR {P : Program} (w : World) (ty : TypeId) (r bm since c0 : Nat) (seen : Array Nat) (es : Array MapEntry) (clock : Nat) (hi : w.heap[r]? = some (.mapIter (some bm) since seen c0)) (hb : w.heap[bm]? = some (.map es clock)) (hold : ∀ x ∈ es.toList, x.born < since) (hsc : since <= c0) :
  ((leftOf es seen).size=0/\(Instr.next (.pointer (some ⟨r,0,none⟩)) false ty).run P w = .ok (.tuple #[.bool false]) w) \/
  ∃e∈(leftOf es seen).toList,∃w1:World,(w1=w\/w1=w.drew)/\(Instr.next (.pointer (some ⟨r,0,none⟩)) false ty).run P w = .ok (.tuple #[.bool true,e.key,e.val]) { w1 with heap:=w1.heap.setIfInBounds r (.mapIter (some bm) since (seen.push e.born) clock) }:=by
 simp only [Instr.next,getObj,Sem.run_bind,Sem.run,hi,hb,Result.andThen,next_test_false seen es since c0 hold hsc,Bool.false_eq_true,if_false]
 unfold leftOf
 have hmem:∀x∈(Array.filter (fun e=>!seen.contains e.born) es).toList,x.born<since:=fun x hx=>hold x (by simp at hx ⊢;exact hx.1)
 generalize Array.filter (fun e=>!seen.contains e.born) es=L at hmem ⊢
 have e1:L.filter (fun x=>decide (x.born<since))=L:=Array.filter_eq_self.2 (fun x hx=>by simpa using hmem x (by simpa using hx))
 have e2:L.filter (fun x=>decide (x.born>=since)) = #[]:=by
  rw [Array.filter_eq_empty_iff]
  intro x hx
  have:=hmem x (by simpa using hx)
  simp
  omega
 simp only [e1,e2,Array.append_empty]
 by_cases h0:L.size=0
 ·left
  have:L = #[]:=Array.eq_empty_of_size_eq_zero h0
  subst this
  refine ⟨rfl,?_⟩
  simp [choose,Sem.run,Question.forced]
 ·right
  have hne:L.isEmpty=false:=by simp [Array.isEmpty,h0]
  simp only [hne,Bool.false_eq_true,if_false,Array.empty_append,Array.size_map]
  have hch:∃(j:Nat) (w1:World),j<L.size/\(w1=w\/w1=w.drew)/\(choose (Question.mapNext L.size)).run P w = .ok j w1:=by
   by_cases hf:L.size<=1
   ·exact ⟨0,w,by omega,.inl rfl,by simp [choose,Sem.run,Question.forced,hf]⟩
   ·exact ⟨_, w.drew, Nat.mod_lt _ (by omega), .inr rfl, by
     simp only [choose,Sem.run,Question.forced,vM,hf,if_false,Question.cut]
     rfl⟩
  obtain ⟨j,w1,hj,hal,hrun⟩:=hch
  refine ⟨L[j],by simp,w1,hal,?_⟩
  have hw1:w1.heap[r]?=some (.mapIter (some bm) since seen c0):=by rcases hal with rfl | rfl <;> exact hi
  have hset:∀(o':Obj),(setObj r o').run P w1 = .ok () ({ w1 with heap:=w1.heap.setIfInBounds r o' }:World):=fun o'=>by
   simp only [setObj,Sem.run]
   rw [hw1]
  simp only [hrun,Array.getElem?_map,uJ hj,Option.map_some,Sem.run_bind,hset,Result.andThen]
  rfl
theorem eA {α:Type} [DecidableEq α]:∀{l m:List α},l.Nodup->(∀x∈l,x∈m)->l.length<=m.length
 | [],m,_,_=>qR _
 | x::l,m,hn,hs=>by
  obtain ⟨h1,h2⟩:=vU.1 hn
  have hx:=hs x (by simp)
  have ih:=eA (m:=m.erase x) h2 fun y hy=>(List.mem_erase_of_ne (fun e:y=x=>h1 (e ▸ hy))).2 (hs y (by simp [hy]))
  rw [List.length_erase_of_mem hx] at ih
  have:=List.length_pos_of_mem hx
  rw [qS]
  omega
theorem zi {es:List CE} (hn:(es.map fun e=>e.2.2).Nodup) {a b:CE} (ha:a∈es) (hb:b∈es) (h:a.2.2=b.2.2):a=b:=by
 induction es with
 | nil=>cases ha
 | cons x l ih =>
  rw [vE,vU] at hn
  rcases vA.1 ha with rfl | ha' <;> rcases vA.1 hb with rfl | hb'
  ·rfl
  ·exact absurd (vH.2 ⟨b,hb',h.symm⟩) hn.1
  ·exact absurd (vH.2 ⟨a,ha',h⟩) hn.1
  ·exact ih hn.2 ha' hb'
theorem eQ {α β:Type} (f:α->β):∀{l:List α},(l.map f).Nodup->l.Nodup
 | [],_=>List.nodup_nil
 | x::l,h=>by
  rw [vE,vU] at h
  exact vU.2 ⟨fun hx=>h.1 (qX hx),eQ f h.2⟩
set_option maxHeartbeats 4000000 in
theorem B5 (es : List CE) (clk bx b1 : Nat) (W : World) (F : Nat -> Prop) (hFx : F bx) (hF1 : F b1) (hx : W.heap[bx]? = some (.cells #[.map (some b1)] 88 (0, 0))) (h1 : W.heap[b1]? = some (cuO es clk)) (hn : (es.map fun e => e.2.2).Nodup) (hc : ∀ e ∈ es, e.2.2 < clk) (hF : ∀ b, F b -> b < W.heap.size) :
  IAt Tryz.prog 157 [.pointer (some ⟨bx,0,none⟩)] F2 (fun pre _=>pre.length<es.length) (fun pre=>pre.Perm (es.map (·.1))) W F:=⟨fun W1 hk1 l J hJ hY h0=>by
 have hx1:=hk1.heap hx (az _)
 have h11:=hk1.heap h1 (az _)
 have c0:W1.cell? ⟨bx,0,none⟩=some (.map (some b1)):=aa hx1 rfl
 have hrg:=run_range_map (P:=Tryz.prog) W1 88 36 3 b1 _ clk (by kernel_rfl) h11
 refine (callsIn_wide (n:=1)).1 ?_
 refine callsIn_of_wp Tryz.func157 rfl trivial ?_ rfl
 simp only [Tryz.ntmps157,uG,qS,List.length_nil,Nat.reduceAdd,Nat.reduceSub,Array.replicate_succ,Array.replicate_zero,List.push_toArray,List.append_toArray,uT,uW]
 gi_wp2_with (fail)
 gi_loopw [3] (fun _ wr=>∃(M:Nat->Prop) (L:List CE),J (some (L.map (·.1))) M wr/\M W1.heap.size/\(∀b,M b->W1.heap.size<=b/\b<wr.heap.size)/\(∀b,F b->wr.heap[b]?=W1.heap[b]?)/\wr.heap[W1.heap.size]?=some (.mapIter (some b1) clk (L.map (·.2.2)).toArray clk)/\(∀e∈L,e∈es)/\(L.map (·.2.2)).Nodup)
  (fun _ wr=>es.length - match wr.heap[W1.heap.size]? with | some (.mapIter _ _ seen _)=>seen.size | _=>0)
 case atStart =>
  refine ⟨fun b=>b=W1.heap.size,[],hJ (some []) _ _ W1 _ h0 ((Kp.refl _ W1).alloc _) (fun b h=>h.elim) (fun b h=>.inr (by simp;omega)),rfl,fun b h=>by simp;omega,fun b hb=>heap_alloc_old _ _ (vK (hF b hb) hk1.size),heap_alloc_new _ _,fun e he=>(by cases he),List.nodup_nil⟩
 case round =>
  obtain ⟨M,L,hj,hM,hMl,hFk,hit,hsub,hnd⟩:=hrel
  have hFl:∀b,F b->b<W1.heap.size:=fun b hb=>vK (hF b hb) hk1.size
  have hb1:wr.heap[b1]?=some (cuO es clk):=(hFk b1 hF1).trans h11
  have hborn:∀x∈(es.map cuE).toArray.toList,x.born<clk:=fun x hx=>by
   obtain ⟨e,he,rfl⟩:=vH.1 hx
   exact hc e he
  rcases nR (P:=Tryz.prog) wr 0 W1.heap.size b1 clk clk (L.map (·.2.2)).toArray (es.map cuE).toArray clk hit hb1 hborn (qJ _) with ⟨hz,hrun⟩ | ⟨x,hx,w1,hw1,hrun⟩
  ·have hperm : (L.map (·.1)).Perm (es.map (·.1)) := by
    refine List.Perm.map _ ((List.perm_ext_iff_of_nodup (eQ (fun e:CE=>e.2.2) hnd) (eQ (fun e:CE=>e.2.2) hn)).2 fun e=>⟨hsub e,fun he=>?_⟩)
    by_cases hm:e.2.2∈L.map (·.2.2)
    ·obtain ⟨e',he',hb⟩:=vH.1 hm
     rw [<- zi hn (hsub e' he') he hb]
     exact he'
    ·exfalso
     have:cuE e∈(leftOf (es.map cuE).toArray (L.map (·.2.2)).toArray):=by
      unfold leftOf
      rw [Array.mem_filter]
      refine ⟨List.mem_toArray.2 (qX he),?_⟩
      have:(L.map (·.2.2)).toArray.contains (cuE e).born=false:=by
       rw [<- Bool.not_eq_true,Array.contains_iff_mem,List.mem_toArray]
       exact hm
      rw [this]
      rfl
     have h2:=Array.eq_empty_of_size_eq_zero hz
     rw [h2] at this
     simp at this
   clear hborn hb1
   gi_wp2_with (fail)
   go_end0
   exact ⟨⟨_,rfl⟩,M,.inr ⟨_,hperm,hj⟩⟩
  ·obtain ⟨e, he, rfl, hes⟩ : ∃ e ∈ es, cuE e = x /\ e.2.2 ∉ L.map (·.2.2) := by
    unfold leftOf at hx
    rw [Array.mem_toList_iff,Array.mem_filter] at hx
    obtain ⟨e,he,rfl⟩:=vH.1 (by simpa using hx.1:x∈es.map cuE)
    refine ⟨e,he,rfl,fun hm=>?_⟩
    have h3:(L.map (·.2.2)).toArray.contains (cuE e).born=true:=by
     rw [Array.contains_iff_mem,List.mem_toArray]
     exact hm
    have h4:=hx.2
    rw [h3] at h4
    cases h4
   obtain ⟨w2,hw2⟩:∃w2:World,w2 = { w1 with heap:=w1.heap.setIfInBounds W1.heap.size (.mapIter (some b1) clk ((L.map (·.2.2)).toArray.push (cuE e).born) clk) }:=⟨_,rfl⟩
   rw [<- hw2] at hrun
   have hw1h:w1.heap=wr.heap:=by rcases hw1 with rfl | rfl <;> rfl
   have hilt:=(qI.1 hit).1
   have hit2:w2.heap[W1.heap.size]?=some (.mapIter (some b1) clk ((L++[e]).map (·.2.2)).toArray clk):=by
    rw [hw2]
    simp only [Array.getElem?_setIfInBounds,if_true,hw1h,if_pos hilt]
    rw [uA]
    simp [cuE]
   have hoth:∀k,k≠W1.heap.size->w2.heap[k]?=wr.heap[k]?:=fun k hk=>by
    rw [hw2]
    simp only [Array.getElem?_setIfInBounds,hw1h,if_neg fun e=>hk (Eq.symm e)]
   have hsz2:w2.heap.size=wr.heap.size:=by rw [hw2];simp [hw1h]
   have hkp2:Kp M wr w2:=by
    refine ⟨?_,?_,?_,by omega,fun k hk hn=>hoth k fun e=>hn (e ▸ hM)⟩
    all_goals
     rw [hw2]
     rcases hw1 with rfl | rfl <;> rfl
   have hj2:=hJ _ _ M _ _ hj hkp2 (fun _ h=>h) (fun _ h=>.inl h)
   have hb2:w2.heap[b1]?=some (cuO es clk):=(hoth b1 fun e=>by have:=hFl b1 hF1;omega).trans hb1
   have hen:(Instr.entry (.pointer (some ⟨W1.heap.size,0,none⟩))).run Tryz.prog w2 = .ok (.tuple #[bH e.1,.int .i64 e.2.1]) w2:=by
    have hf:(es.map cuE).toArray.find? (·.born == e.2.2)=some (cuE e):=by
     rw [<- Array.find?_toList]
     exact find_born (cuE e) _ (by simpa [cuE,Function.comp_def] using hn) (qX he)
    rw [uA,vE,List.map_nil,<- List.push_toArray] at hit2
    simp only [cuO] at hb2
    simp only [Instr.entry,getObj,Sem.run_bind,Sem.run,hit2,hb2,Result.andThen,Array.back?_push,bne_self_eq_false,Bool.false_eq_true,if_false,hf]
    rfl
   have hlen:(L.map (·.1)).length<es.length:=by
    have:=eA (l:=L++[e]) (m:=es) (eQ (fun e:CE=>e.2.2) (by
     rw [uA]
     exact uO.2 ⟨hnd,by simp,fun a ha b hb=>by
      obtain rfl:=qO.1 hb
      exact fun h=>hes (by rw [show e.2.2=a from h.symm];exact ha)⟩)) (fun x hx=>by
     rcases vB.1 hx with h | h
     ·exact hsub x h
     ·rw [qO.1 h];exact he)
    rw [qK,uB] at this
    rw [qH]
    omega
   obtain ⟨w3,hw3⟩:∃w3,w3=w2.alloc (.cells #[.int .u64 e.1.value.hi.toNat,.int .u64 e.1.value.lo.toNat,.int .u64 e.1.care.hi.toNat,.int .u64 e.1.care.lo.toNat] 36):=⟨_,rfl⟩
   have hz3:w3.heap.size=w2.heap.size+1:=by rw [hw3];simp
   have hk3:∀k,k<w2.heap.size->w3.heap[k]?=w2.heap[k]?:=fun k hk=>by rw [hw3];exact heap_alloc_old _ _ hk
   have hj3:=hJ _ _ M _ w3 hj2 (by rw [hw3];exact (Kp.refl _ _).alloc _) (fun _ h=>h) (fun _ h=>.inl h)
   obtain ⟨fn,tmps,assign,body,hy,hR⟩:=hY (L.map (·.1)) e.1 M w3 [.agg #[.int .u64 e.1.value.hi.toNat,.int .u64 e.1.value.lo.toNat,.int .u64 e.1.care.hi.toNat,.int .u64 e.1.care.lo.toNat]] hj3 hlen (fun b hb=>by have:=(hMl b hb).2;omega) rfl (aS (gq _ _ e.1) cN)
   rw [hw3] at hy hR
   unfold bH at hen
   have Hit:=Lib.hid hit2
   have Hoth:=Lib.hid hoth
   have Hk3:=Lib.hid hk3
   have HR:=Lib.hid hR
   have Hlen:=Lib.hid hlen
   clear hkp2 hj2 hj3 hb2 hw2 hlen hb1 hborn hw1h hilt hR hk3 hoth hit2 hj
   gi_wp2_with (fail)
   refine HR.out.mono ?_
   rintro e4 W4 ⟨go,rfl,hj4,hk4⟩
   rw [<- hw3] at hk4
   have H4:=Lib.hid hk4
   have HJ4:=Lib.hid hj4
   clear hj4 hk4 hy HR hen hrun
   have hz4:w3.heap.size<=W4.heap.size:=H4.out.size
   cases go with
   | false =>
    gi_wp2_with (fail)
    refine bodyPost_ret (results_none rfl _ _ _) rfl ?_
    exact ⟨⟨_,rfl⟩,M,.inl HJ4.out⟩
   | true =>
    have hitW:W4.heap[W1.heap.size]?=some (.mapIter (some b1) clk ((L++[e]).map (·.2.2)).toArray clk):=by
     have hlt:=(qI.1 Hit.out).1
     rw [H4.out.block _ (by omega) (fun h=>h.2 hM),Hk3.out _ hlt]
     exact Hit.out
    gi_wp2_with (fail)
    go_roundw
    case rel =>
     refine ⟨M,L++[e],by rw [uA];exact HJ4.out,hM,fun b hb=>⟨(hMl b hb).1,by have:=(hMl b hb).2;omega⟩,fun b hb=>?_,hitW,fun x hx=>?_,?_⟩
     ·have:=hFl b hb
      have h5:=(qI.1 hit).1
      rw [H4.out.block b (by omega) (fun h=>h.1 hb),Hk3.out b (by omega),Hoth.out b (by omega)]
      exact hFk b hb
     ·rcases vB.1 hx with h | h
      ·exact hsub x h
      ·rw [qO.1 h];exact he
     ·rw [uA]
      exact uO.2 ⟨hnd,by simp,fun a ha b hb=>by
       obtain rfl:=qO.1 hb
       exact fun h=>hes (by rw [show e.2.2=a from h.symm];exact ha)⟩
    case measure =>
     rw [hitW,hit]
     simp only [uG,qH,qK,uB]
     have:=Hlen.out
     rw [qH] at this
     omega⟩
def gR (es:List CE) (c:Cb):Int:=((es.find? fun e=>decide (e.1=c)).map fun e=>e.2.1).getD 0
theorem eZ:Tryz.prog.underlying 88=some (.map 36 3):=by kernel_rfl
theorem qw (W:World):(zeroValue 3).run Tryz.prog W = .ok (.int .i64 0) W:=by kernel_rfl
theorem iP {es:List CE} (hk:(es.map (·.1)).Nodup) {e:CE} (he:e∈es):gR es e.1=e.2.1:=by
 induction es with
 | nil=>cases he
 | cons x l ih =>
  rw [vE,vU] at hk
  unfold gR
  rw [List.find?_cons]
  rcases vA.1 he with rfl | h
  ·rw [qF rfl]
   rfl
  ·rw [qC fun e'=>hk.1 (vH.2 ⟨e,h,e'.symm⟩)]
   exact ih hk.2 h
theorem qd {es:List CE} {c:Cb} (h:∀e∈es,e.1≠c):gR es c=0:=by
 unfold gR
 rw [List.find?_eq_none.2 fun e he=>by simpa using h e he]
 rfl
theorem me (W:World) (es:List CE) (c:Cb):((∀e∈es,e.1≠c)/\(Instr.findKey 36 (bH c) (es.map cuE)).run Tryz.prog W = .ok none W)\/∃(j:Nat) (e:CE),es[j]?=some e/\e.1=c/\(Instr.findKey 36 (bH c) (es.map cuE)).run Tryz.prog W = .ok (some (j,.int .i64 e.2.1)) W:=by
 obtain ⟨lx,hx⟩:=du c
 rcases key_law.find W hx (es.map cuE) (fun e he=>by
  obtain ⟨x,_,rfl⟩:=vH.1 he
  exact du x.1) with ⟨h1,h2⟩ | ⟨j,e,h1,h2,h3⟩
 ·exact .inl ⟨fun e he hc=>h2 (cuE e) (qX he) (congrArg bH hc),h1⟩
 ·rw [qE] at h2
  obtain ⟨x,hx,rfl⟩:=vR.1 h2
  exact .inr ⟨j,x,hx,oU h3,h1⟩
theorem pb (W:World) (es:List CE) (clk b1:Nat) (c:Cb) (hk:(es.map (·.1)).Nodup) (hb:W.heap[b1]?=some (cuO es clk)):(Instr.lookup 88 (.map (some b1)) (bH c) false).run Tryz.prog W = .ok (.int .i64 (gR es c)) W:=by
 obtain ⟨lx,hx⟩:=du c
 have hck:=fun em=>key_law.check W em hx
 unfold cuO at hb
 rcases me W es c with ⟨h1,h2⟩ | ⟨j,e,h1,rfl,h2⟩
 ·rw [qd h1]
  simp only [Instr.lookup,Sem.run_bind,run_underlying eZ,Result.andThen_ok,MapKept.run_getObj_map hb,Sem.run_pure,hck,h2,qw]
  rfl
 ·rw [iP hk (qP h1)]
  simp only [Instr.lookup,Sem.run_bind,run_underlying eZ,Result.andThen_ok,MapKept.run_getObj_map hb,Sem.run_pure,hck,h2]
  rfl
theorem et {P:Program} {id:Nat} {Q:Exit->Act->World->Prop} {a:Act} {w:World} {l:List Oper} (hm:P.follows .mixedOrders=true) (hB:Region.lexB .any l.toArray=true)
  (h:∀w',w'=w.drewN 1->wpStill P l.toArray w' (fun a'=>Q .normal a' w') l a):(Code.region id l.toArray true).wp P Q a w :=
 wp_region_still_lit hm hB (h _ rfl)
set_option maxHeartbeats 4000000 in
theorem C4 (es:List CE) (clk b1 bk:Nat) (x y:Cb) (nx ls:Value) (W:World) (hk:(es.map (·.1)).Nodup) (hb:W.heap[b1]?=some (cuO es clk)) (hbk:W.heap[bk]?=some (.cells #[.map (some b1),nx,ls] 90 (0,0))) (hn:∀e∈es,0<=e.2.1/\e.2.1<=1000000000) :
  Calls Tryz.prog 114 #[bH x,bH y,.pointer (some ⟨bk,0,none⟩)] W fun e w'=>e = .returned (.int .i64 (gR es x - gR es y))/\∃q os',w'=Go.Sort.grow (W.drewN q) os':=by
 have hx:=fun W' h=>pb W' es clk b1 x hk h
 have hy:=fun W' h=>pb W' es clk b1 y hk h
 have Hb:=Lib.hid hb
 have Hbk:=Lib.hid hbk
 unfold bH at hx hy
 have HX:=Lib.hid hx
 have HY:=Lib.hid hy
 clear hx hy hb hbk
 unfold bH
 go_enter Tryz.func114,Tryz.ntmps114
 go_wp2_with fail
 obtain ⟨Wa,hWa⟩:∃Wa,Wa=W.alloc (.cells #[.int .u64 x.value.hi.toNat,.int .u64 x.value.lo.toNat,.int .u64 x.care.hi.toNat,.int .u64 x.care.lo.toNat] 36):=⟨_,rfl⟩
 obtain ⟨Wb,hWb⟩:∃Wb,Wb=Wa.alloc (.cells #[.int .u64 y.value.hi.toNat,.int .u64 y.value.lo.toNat,.int .u64 y.care.hi.toNat,.int .u64 y.care.lo.toNat] 36):=⟨_,rfl⟩
 rw [<- hWa,<- hWb]
 refine et (by kernel_rfl) (by kernel_rfl) fun W2 hW2=>?_
 have hsa:Wa.heap.size=W.heap.size+1:=by rw [hWa];simp
 have hh2:W2.heap=Wb.heap:=by rw [hW2];rfl
 have hold:∀k,k<W.heap.size->W2.heap[k]?=W.heap[k]?:=fun k hk=>by
  rw [hh2,hWb,heap_alloc_old _ _ (by omega),hWa,heap_alloc_old _ _ hk]
 have h1:W2.heap[b1]?=some (cuO es clk):=(hold b1 (qI.1 Hb.out).1).trans Hb.out
 have hbk:=(hold bk (qI.1 Hbk.out).1).trans Hbk.out
 have hbx:W2.heap[W.heap.size]?=some (.cells #[.int .u64 x.value.hi.toNat,.int .u64 x.value.lo.toNat,.int .u64 x.care.hi.toNat,.int .u64 x.care.lo.toNat] 36 (0,0)):=by
  rw [hh2,hWb,heap_alloc_old _ _ (by omega),hWa,heap_alloc_new]
 have hby:W2.heap[W.heap.size+1]?=some (.cells #[.int .u64 y.value.hi.toNat,.int .u64 y.value.lo.toNat,.int .u64 y.care.hi.toNat,.int .u64 y.care.lo.toNat] 36 (0,0)):=by
  rw [hh2,hWb,<- hsa,heap_alloc_new]
 have hlx:=HX.out W2 h1
 have hly:=HY.out W2 h1
 have c0:W2.cell? ⟨bk,0,none⟩=some (.map (some b1)):=aa hbk rfl
 have x0:W2.cell? ⟨W.heap.size,0,none⟩=some (.int .u64 x.value.hi.toNat):=aa hbx rfl
 have x1:W2.cell? ⟨W.heap.size,1,none⟩=some (.int .u64 x.value.lo.toNat):=aa hbx rfl
 have x2:W2.cell? ⟨W.heap.size,2,none⟩=some (.int .u64 x.care.hi.toNat):=aa hbx rfl
 have x3:W2.cell? ⟨W.heap.size,3,none⟩=some (.int .u64 x.care.lo.toNat):=aa hbx rfl
 have y0:W2.cell? ⟨W.heap.size+1,0,none⟩=some (.int .u64 y.value.hi.toNat):=aa hby rfl
 have y1:W2.cell? ⟨W.heap.size+1,1,none⟩=some (.int .u64 y.value.lo.toNat):=aa hby rfl
 have y2:W2.cell? ⟨W.heap.size+1,2,none⟩=some (.int .u64 y.care.hi.toNat):=aa hby rfl
 have y3:W2.cell? ⟨W.heap.size+1,3,none⟩=some (.int .u64 y.care.lo.toNat):=aa hby rfl
 have HW:=Lib.hid (show ∃q os',W2=Go.Sort.grow (W.drewN q) os' from ⟨1,_,by
  rw [hW2,hWb,hWa,Go.Sort.alloc_eq_grow,Go.Sort.alloc_eq_grow,Go.Sort.grow_grow]
  rfl⟩)
 have hbd:∀c,0<=gR es c/\gR es c<=1000000000:=fun c=>by
  by_cases h:∃e∈es,e.1=c
  ·obtain ⟨e,he,rfl⟩:=h
   rw [iP hk he]
   exact hn e he
  ·rw [qd fun e he hc=>h ⟨e,he,hc⟩]
   decide
 have h5:=hbd x
 have h6:=hbd y
 have hw:IntKind.i64.wrap (gR es x - gR es y)=gR es x - gR es y:=by rw [IntKind.wrap_i64];omega
 clear hWa hWb hW2 hsa hh2 hold h1 hbk hbx hby hbd hk hn
 repeat still_step
 refine wpStill_nil ?_
 go_wp2_with fail
 go_ret
 exact ⟨rfl,HW.out⟩
def cd (es:List CE) (clk:Nat):aD:=.obj (cuO es clk)
def jC (es:List CE) (c:Cb):Bool:=es.any fun e=>decide (e.1=c)
theorem cH {es:List CE} {c:Cb}:jC es c=true↔∃e∈es,e.1=c:=by simp [jC]
theorem oH {α β:Type} (f:α->β):∀(l:List α) (j:Nat),(l.map f).eraseIdx j=(l.eraseIdx j).map f
 | [],_=>rfl
 | x::l,0=>rfl
 | x::l,j+1=>congrArg (f x::·) (oH f l j)
theorem kk:∀{es:List CE} {j:Nat} {e:CE},(es.map (·.1)).Nodup->es[j]?=some e->es.filter (fun x=>!decide (x.1=e.1))=es.eraseIdx j
 | x::l,0,e,hn,h=>by
  obtain rfl:=qB h
  rw [vE,vU] at hn
  rw [List.filter_cons,qF rfl]
  show l.filter _=l
  refine List.filter_eq_self.2 fun y hy=>?_
  have:y.1≠x.1:=fun h=>hn.1 (vH.2 ⟨y,hy,h⟩)
  simpa using this
 | x::l,j+1,e,hn,h=>by
  have h':l[j]?=some e:=h
  rw [vE,vU] at hn
  have hx:x.1≠e.1:=fun hh=>hn.1 (vH.2 ⟨e,qP h',hh.symm⟩)
  rw [List.filter_cons,qC hx]
  show x::l.filter _=x::l.eraseIdx j
  rw [kk hn.2 h']
section
variable {N : Nat} {o : Oper} {s : St}
theorem yM {x k:Operand} {id ep clk:Nat} {es:List CE} {c:Cb} (r:Int) (ho:o.op = .lookup 88 x k false) (hx:s.ev x = .ref id ep .map) (hid:s.σ id=⟨ep,some (cd es clk)⟩) (hk:s.ev k = .agg (cCb c)) (hn:(es.map (·.1)).Nodup) (hr:gR es c=r) :
  ay Tryz.prog N o s ⟨.i .i64 r,[],[id]⟩:=by
 subst hr
 refine aA [id] _ fun s' W F μ a h1 h2 hr=>⟨.int .i64 (gR es c),?_,.pure (.i _ _)⟩
 have ex:=hr.ev x
 have ek:=hr.ev k
 rw [h1 x (by rw [ho];simp [Op.operands]),hx] at ex
 rw [h1 k (by rw [ho];simp [Op.operands]),hk] at ek
 have hid':=(h2 id (by simp)).trans hid
 obtain ⟨b,c',hm,hv⟩:=(Rel.ref' ex).2.2 _ hid'
 obtain ⟨b',c'',hm',hh⟩:=hr.inv.body _ _ _ hid'
 obtain ⟨rfl,rfl⟩:b=b'/\c'=c'':=by rw [hm] at hm';simpa using hm'
 have hkv:=fS ek
 simp only [execOp,ho,hv,RK.val,hkv,pb W es clk b c hn hh,Sem.run_bind,Result.andThen_ok,Sem.run_pure]
theorem yz (W:World) (es:List CE) (clk b1:Nat) (c:Cb) (hk:(es.map (·.1)).Nodup) (hb:W.heap[b1]?=some (cuO es clk)):(Instr.lookup 88 (.map (some b1)) (bH c) true).run Tryz.prog W = .ok (.tuple #[.int .i64 (gR es c),.bool (jC es c)]) W:=by
 obtain ⟨lx,hx⟩:=du c
 have hck:=fun em=>key_law.check W em hx
 unfold cuO at hb
 rcases me W es c with ⟨h1,h2⟩ | ⟨j,e,h1,rfl,h2⟩
 ·have h3:jC es c=false:=by
   rw [<- Bool.not_eq_true,cH]
   rintro ⟨e,he,hc⟩
   exact h1 e he hc
  rw [qd h1,h3]
  simp only [Instr.lookup,Sem.run_bind,run_underlying eZ,Result.andThen_ok,MapKept.run_getObj_map hb,Sem.run_pure,hck,h2,qw]
  rfl
 ·have he:=qP h1
  rw [iP hk he,cH.2 ⟨e,he,rfl⟩]
  simp only [Instr.lookup,Sem.run_bind,run_underlying eZ,Result.andThen_ok,MapKept.run_getObj_map hb,Sem.run_pure,hck,h2]
  rfl
theorem oA {x k:Operand} {id ep clk:Nat} {es:List CE} {c:Cb} (r:Bool) (ho:o.op = .lookup 88 x k true) (hx:s.ev x = .ref id ep .map) (hid:s.σ id=⟨ep,some (cd es clk)⟩) (hk:s.ev k = .agg (cCb c)) (hn:(es.map (·.1)).Nodup) (hr:jC es c=r) :
  ay Tryz.prog N o s ⟨.tup [.i .i64 (gR es c),.b r],[],[id]⟩:=by
 subst hr
 refine aA [id] _ fun s' W F μ a h1 h2 hr=>⟨.tuple [.int .i64 (gR es c),.bool (jC es c)].toArray,?_,.pure (.tup _ [_,_] rfl (aS (.i _ _) (aS (.b _) cN)))⟩
 have ex:=hr.ev x
 have ek:=hr.ev k
 rw [h1 x (by rw [ho];simp [Op.operands]),hx] at ex
 rw [h1 k (by rw [ho];simp [Op.operands]),hk] at ek
 have hid':=(h2 id (by simp)).trans hid
 obtain ⟨b,c',hm,hv⟩:=(Rel.ref' ex).2.2 _ hid'
 obtain ⟨b',c'',hm',hh⟩:=hr.inv.body _ _ _ hid'
 obtain ⟨rfl,rfl⟩:b=b'/\c'=c'':=by rw [hm] at hm';simpa using hm'
 have hkv:=fS ek
 simp only [execOp,ho,hv,RK.val,hkv,yz W es clk b c hn hh,Sem.run_bind,Result.andThen_ok,Sem.run_pure]
theorem vu {x : Operand} {id ep : Nat} {ob ob' : Obj} {P : Program} (rd : List Operand) (hrd : ∀ y ∈ rd, y ∈ o.op.operands.toList) (hx : s.ev x = .ref id ep .map) (hxr : x ∈ o.op.operands.toList) (hid : s.σ id = ⟨ep, some (.obj ob)⟩) (v : Next) (hv : v = .skip \/ v = .value (.tuple #[]))
  (hrun:∀(s':St) W F μ a b,(∀y∈o.op.operands.toList,s'.ev y=s.ev y)->RS N W F μ s' a->a.eval x = .map (some b)->W.heap[b]?=some ob->(execOp a.eval o).run P W = .ok v { W with heap:=W.heap.setIfInBounds b ob' }) :
  ay P N o s ⟨.tup [],[(id,⟨ep,some (.obj ob')⟩)],[]⟩:=by
 intro s' g1 g2 g3 W F μ a hr K Q hK
 have hid':s'.σ id=⟨ep,some (.obj ob)⟩:=(g3 (id,⟨ep,some (.obj ob')⟩) (by simp)).trans hid
 have ex:=hr.ev x
 rw [g1 x hxr,hx] at ex
 obtain ⟨b,c',hm,hev⟩:=(Rel.ref' ex).2.2 _ hid'
 obtain ⟨b',c'',hm',hh⟩:=hr.inv.body _ _ _ hid'
 obtain ⟨rfl,rfl⟩:b=b'/\c'=c'':=by rw [hm] at hm';simpa using hm'
 have hlt:b<W.heap.size:=(qI.1 hh).1
 have hrun:=hrun s' W F μ a b g1 hr hev hh
 generalize hW:({ W with heap:=W.heap.setIfInBounds b ob' }:World)=W' at hrun
 have hk:Kp (fun b=>(s'.σ id).body.isSome=true/\∃c,μ id=some (b,c)) W W':=by
  subst hW
  exact ⟨rfl,rfl,rfl,by simp,fun k hk hn=>by
   have:b≠k:=fun e=>hn ⟨by rw [hid'];rfl,c',e ▸ hm⟩
   simp only [Array.getElem?_setIfInBounds,if_neg this]⟩
 have hh':W'.heap[b]?=some ob':=by
  subst hW
  simp only [Array.getElem?_setIfInBounds,if_true,if_pos hlt]
 have hsz:W'.heap.size=W.heap.size:=by subst hW;simp
 obtain ⟨hs, hi⟩ := cu hr.inv id (μ id) ep (.obj ob') hk (fun b1 c1 e => by
   rw [hm] at e
   obtain ⟨rfl,rfl⟩:b=b1/\c'=c1:=by simpa using e
   exact ⟨by rw [hsz];exact hlt,.inr ⟨by rw [hid'];rfl,c',hm⟩⟩)
  (.inr ⟨by rw [hid'],.obj ob,by rw [hid'],rfl,rfl⟩) (fun hs=>⟨b,c',hm,hh'⟩)
 unfold Oper.wp
 rw [hrun]
 rcases hv with rfl | rfl
 ·exact hK _ F _ _ (hr.put hs hi (.pure (.tup [] [] rfl (by simp)))) hs
 ·exact hK _ F _ _ (hr.put hs hi (.pure (.tup [] [] rfl (by simp)))) hs
theorem v6 {x k v:Operand} {id ep clk:Nat} {es:List CE} {c:Cb} {n:Int} (ho:o.op = .mapUpdate 88 x k v) (hx:s.ev x = .ref id ep .map) (hid:s.σ id=⟨ep,some (cd es clk)⟩) (hk:s.ev k = .agg (cCb c)) (hv:s.ev v = .i .i64 n) (hc:∀e∈es,e.1≠c) :
  ay Tryz.prog N o s ⟨.tup [],[(id,⟨ep,some (cd (es++[(c,n,clk)]) (clk+1))⟩)],[]⟩:=by
 refine vu [] (fun y hy=>by cases hy) hx (by rw [ho];simp [Op.operands]) hid .skip (.inl rfl) fun s' W F μ a b g1 hr hev hh=>?_
 have ek:=hr.ev k
 have ev:=hr.ev v
 rw [g1 k (by rw [ho];simp [Op.operands]),hk] at ek
 rw [g1 v (by rw [ho];simp [Op.operands]),hv] at ev
 have hkv:=fS ek
 have hvv:=ev.i'
 obtain ⟨lx,hlx⟩:=du c
 have hck:=fun em=>key_law.check W em hlx
 have hf:(Instr.findKey 36 (bH c) (es.map cuE)).run Tryz.prog W = .ok none W:=by
  rcases me W es c with ⟨_,h4⟩ | ⟨j,e,h3,h4,_⟩
  ·exact h4
  ·exact absurd h4 (hc e (qP h3))
 have hpush:(es.map cuE).toArray.push ⟨bH c,.int .i64 n,clk⟩=((es++[(c,n,clk)]).map cuE).toArray:=by
  rw [uA,List.push_toArray]
  rfl
 unfold cuO at hh
 simp only [execOp,ho,Instr.mapUpdate,Sem.run_bind,run_underlying eZ,Result.andThen_ok,hev,MapKept.run_getObj_map hh,Sem.run_pure,hkv,hvv,hck,hf,MapKept.run_setObj_map _ hh,hpush]
 rfl
theorem BH {cl : Call} {x k : Operand} {id ep clk : Nat} {es es' : List CE} {c : Cb} (ho : o.op = .call cl) (hcl : cl.callee = .builtin .delete) (ha : cl.args = #[x, k]) (hat : cl.argTypes = #[88, 36]) (hx : s.ev x = .ref id ep .map) (hid : s.σ id = ⟨ep, some (cd es clk)⟩) (hk : s.ev k = .agg (cCb c))
  (hn:(es.map (·.1)).Nodup) (he:es.filter (fun e=>!decide (e.1=c))=es') :
  ay Tryz.prog N o s ⟨.tup [],[(id,⟨ep,some (cd es' clk)⟩)],[]⟩:=by
 subst he
 refine vu [] (fun y hy=>by cases hy) hx (by rw [ho];simp [Op.operands,Call.operands,hcl,ha]) hid (.value (.tuple #[])) (.inr rfl) fun s' W F μ a b g1 hr hev hh=>?_
 have ek:=hr.ev k
 rw [g1 k (by rw [ho];simp [Op.operands,Call.operands,hcl,ha]),hk] at ek
 have hkv:=fS ek
 obtain ⟨lx,hlx⟩:=du c
 have hck:=fun em=>key_law.check W em hlx
 unfold cuO at hh
 rcases me W es c with ⟨h3,h4⟩ | ⟨j,e,h3,h5,h4⟩
 ·have hf:es.filter (fun e=>!decide (e.1=c))=es:=List.filter_eq_self.2 fun e he=>by simpa using h3 e he
  rw [hf]
  simp only [execOp,ho,resolve,hcl,ha,hat,List.map_toArray,vE,List.map_nil,invoke,builtin,Builtin.delete_,uF,List.getElem?_cons_zero,uQ,hev,hkv,Sem.run_bind,Sem.run_pure,run_underlying eZ,Result.andThen_ok,MapKept.run_getObj_map hh,hck,h4,MapKept.run_setObj_map _ hh]
  rfl
 ·have hf:=kk hn h3
  rw [h5] at hf
  have hj:=(qD.1 h3).1
  have he:(es.map cuE).toArray.eraseIdxIfInBounds j=((es.filter fun e=>!decide (e.1=c)).map cuE).toArray:=by
   rw [hf,Array.eraseIdxIfInBounds,dif_pos (by simpa using hj)]
   apply Array.toList_inj.1
   rw [Array.toList_eraseIdx]
   rw [List.toList_toArray,oH]
  simp only [execOp,ho,resolve,hcl,ha,hat,List.map_toArray,vE,List.map_nil,invoke,builtin,Builtin.delete_,uF,List.getElem?_cons_zero,uQ,hev,hkv,Sem.run_bind,Sem.run_pure,run_underlying eZ,Result.andThen_ok,MapKept.run_getObj_map hh,hck,h4,MapKept.run_setObj_map _ hh,he]
  rfl
end
def DH (l:List Int) (n:Int):Nat:=l.countP fun y=>decide (y<n)
theorem ux {n:Int}:∀{l:List Int} {k:Nat},k<=l.length->(∀i (h:i<l.length),i<k->l[i]<n)->(∀i (h:i<l.length),k<=i->¬l[i]<n)->DH l n=k
 | [],k,hk,_,_=>by
  have:k=0:=Nat.le_zero.1 hk
  rw [this]
  rfl
 | x::l,0,_,_,h2=>by
  unfold DH
  rw [List.countP_eq_zero]
  intro y hy
  obtain ⟨i,hi,rfl⟩:=List.mem_iff_getElem.1 hy
  simpa using h2 i hi (qR _)
 | x::l,k+1,hk,h1,h2=>by
  have h0:=h1 0 (by simp) (by omega)
  have ih:=ux (l:=l) (n:=n) (k:=k) (by simpa using hk) (fun i h hi=>by have:=h1 (i+1) (by simpa using h) (by omega);simpa using this) (fun i h hi=>by have:=h2 (i+1) (by simpa using h) (by omega);simpa using this)
  unfold DH at ih ⊢
  rw [List.countP_cons,ih]
  have:decide (x<n)=true:=qF (by simpa using h0)
  rw [if_pos this]
theorem zY {l:List Int} {n:Int} {k:Nat} (h1:∀i (h:i<l.length),i<k->l[i]<n) (hs:l.Pairwise (· < ·)) (hk:k<l.length):n∈l↔l[k]=n\/l[k]<n/\n∈l:=by
 constructor
 ·intro h
  obtain ⟨i,hi,rfl⟩:=List.mem_iff_getElem.1 h
  rcases Nat.lt_trichotomy i k with h3 | h3 | h3
  ·exact absurd (h1 i hi h3) (by omega)
  ·subst h3;exact .inl rfl
  ·exact .inr ⟨List.pairwise_iff_getElem.1 hs k i hk hi h3,h⟩
 ·rintro (h | h)
  ·rw [<- h];exact vS hk
  ·exact h.2
theorem FJ (a b:Nat) (h:a+b<=2000000):IntKind.i64.wrap (((cw (cy (IntKind.i64.wrap ((a:Int)+(b:Int)))) (UInt64.ofNat 1).toNat).toNat:Nat):Int)=(((a+b) / 2:Nat):Int):=by
 have e0:IntKind.i64.wrap ((a:Int)+(b:Int))=((a+b:Nat):Int):=by rw [IntKind.wrap_i64];omega
 have e1:(cy ((a+b:Nat):Int)).toNat=a+b:=by
  have e:=eX ((a+b:Nat):Int)
  rw [IntKind.wrap_u64] at e
  omega
 rw [e0,qn _ (by decide),UInt64.toNat_shiftRight,e1]
 have e2:(a+b) >>> ((UInt64.ofNat (UInt64.ofNat 1).toNat).toNat % 64)=(a+b) / 2:=by
  show (a+b) >>> 1=_
  rw [Nat.shiftRight_eq_div_pow]
 rw [e2,IntKind.wrap_i64]
 omega
theorem Bg (x:Int):ae Tryz.prog 251 [.i .i64 x] (.b false):=by
 refine jb Tryz.func251 ?_
 have hx:x=x:=rfl
 refine zR ?_
 exact congrArg AV.b (by simp)
theorem Gm (l:List Int) (n:Int) (hs:l.Pairwise (· < ·)) (hl:l.length<=1000000):ae Tryz.prog 242 [.sl (l.map cI),.i .i64 n] (.tup [.i .i64 (DH l n:Nat),.b (decide (n∈l))]):=by
  refine jb Tryz.func242 ?_
  refine jA ?_
  refine AW.loopL (ι:=Nat × Nat) (fun x=>[(0,.sl (l.map cI)),(1,.i .i64 n),(6,.i .i64 (l.map cI).length),(7,.i .i64 (x.1:Nat)),(8,.i .i64 (x.2:Nat))]) (fun _=>[]) (fun x=>x.1<=x.2/\x.2<=l.length/\(∀i (h:i<l.length),i<x.1->l[i]<n)/\(∀i (h:i<l.length),x.2<=i->¬l[i]<n)) (fun x=>x.2 - x.1) (0,l.length) ⟨qR _,qJ _,fun i _ h=>absurd h (uS _),fun i h h2=>absurd h (by omega)⟩ ?_ jW fun x hx=>?_
  · exact ⟨rI rfl rfl,rI rfl rfl,rI rfl rfl,rI rfl rfl,rI (show AV.i .i64 (((l.map cI).length:Nat):Int)=_ by rw [qH]) rfl,trivial⟩
  obtain ⟨a,b⟩:=x
  obtain ⟨h1,h2,h3,h4⟩:=hx
  simp only at h1 h2 h3 h4
  refine jA ?_
  refine AW.cond rfl (fun h0=>?_) (fun h0=>?_)
  · have hab:a<b:=by simpa using h0
    refine jB ?_
    have hmid:=FJ a b (by omega)
    have hm1:(a+b) / 2<l.length:=by omega
    obtain ⟨m,hm⟩:∃m,m=(a+b) / 2:=⟨_,rfl⟩
    have ham:a<=m:=by omega
    have hmb:m<b:=by omega
    rw [<- hm] at hmid hm1
    refine AW.text ?_
    refine RG.runO af 0 [(21,.i .i64 (m:Nat))] 400 rfl jD ?_
    refine jA ?_
    refine RG.opS rfl (ai rfl (tk rfl) rfl (tk rfl) rfl rfl (show (l.map cI)[m]?=some (cI l[m]) by rw [qE,qA (by assumption)];rfl) rfl) rfl ?_
    refine wH rfl ?_
    refine jc (DE l[m] n) ?_;refine jH ?_
    refine AW.cond rfl (fun h5=>?_) (fun h5=>?_)
    · have h6:l[m]<n:=of_decide_eq_true h5
      have hw:IntKind.i64.wrap ((m:Int)+Int.ofNat 1)=((m+1:Nat):Int):=by rw [IntKind.wrap_i64];simp only [qG];omega
      refine jA ?_
      refine ⟨(m+1,b),⟨⟨by omega,h2,fun i hi him=>?_,h4⟩,by show b - (m+1)<b - a;omega⟩,⟨rI rfl rfl,rI rfl rfl,rI rfl rfl,rI (congrArg (AV.i .i64) hw) rfl,rI rfl rfl,trivial⟩,jW⟩
      rcases Nat.lt_or_ge i m with h7 | h7
      · have:=List.pairwise_iff_getElem.1 hs i m hi hm1 h7
        omega
      · obtain rfl:i=m:=by omega
        exact h6
    · have h6:¬l[m]<n:=of_decide_eq_false h5
      refine jA ?_
      refine ⟨(a,m),⟨⟨ham,by show m<=l.length;omega,h3,fun i hi him=>?_⟩,by show m - a<b - a;omega⟩,jQ,jW⟩
      rcases Nat.lt_or_ge m i with h7 | h7
      · have:=List.pairwise_iff_getElem.1 hs m i hm1 hi h7
        omega
      · obtain rfl:m=i:=Nat.le_antisymm him h7
        exact h6
  · have hab : a = b := by have : ¬ a < b := by simpa using h0
                           omega
    subst hab
    have hp:=ux h2 h3 h4
    rw [hp]
    refine jB ?_
    refine jE ?_;refine jB ?_
    rcases Nat.lt_or_ge a l.length with h | h
    · have hlt:(a:Int)<((l.map cI).length:Int):=by rw [qH];omega
      have hh:=zY h3 hs h
      refine AW.text ?_
      refine RG.runO af 0 [(34,.b true)] 400 rfl jD ?_
      refine RG.opS rfl (ai rfl (tk rfl) rfl (tk rfl) rfl rfl (show (l.map cI)[a]?=some (cI l[a]) by rw [qE,qA (by assumption)];rfl) rfl) rfl ?_
      by_cases he:l[a]=n
      · refine RG.runO af 0 [(41,.b true)] 400 rfl jD ?_
        refine zH ?_
        exact congrArg (fun b=>AV.tup [.i .i64 (a:Nat),.b b]) (qF (hh.2 (.inl he))).symm
      · refine RG.runO af 0 [(41,.b false)] 400 rfl jD ?_
        refine RG.opS rfl (ai rfl (tk rfl) rfl (tk rfl) rfl rfl (show (l.map cI)[a]?=some (cI l[a]) by rw [qE,qA (by assumption)];rfl) rfl) rfl ?_
        refine wH rfl ?_
        refine jc (Bg l[a]) ?_;refine jH ?_
        refine jR ?_
        refine congrArg (fun b=>AV.tup [.i .i64 (a:Nat),.b b]) (qC fun hm=>?_).symm
        rcases hh.1 hm with h5 | h5
        · exact he h5
        · exact h4 a h (qJ _) h5.1
    · have hlt:¬(a:Int)<((l.map cI).length:Int):=by rw [qH];omega
      refine AW.text ?_
      refine RG.runO af 0 [(34,.b false)] 400 rfl jD ?_
      refine zH ?_
      refine congrArg (fun b=>AV.tup [.i .i64 (a:Nat),.b b]) (qC fun hm=>?_).symm
      obtain ⟨i,hi,rfl⟩:=List.mem_iff_getElem.1 hm
      have:=h3 i hi (by omega)
      omega
theorem DV (l:List Int) (n:Int) (hs:l.Pairwise (· < ·)) (hl:l.length<=1000000) (b:Bool) (hb:decide (n∈l)=b):ae Tryz.prog 210 [.sl (l.map cI),.i .i64 n] (.b b):=by
 have h:=Gm l n hs hl
 rw [hb] at h
 refine jb Tryz.func210 ?_
 refine jA ?_
 refine jc h ?_;refine jH ?_
 exact zS
theorem v8 (l:List Int) (n:Int) (hs:l.Pairwise (· < ·)) (hl:l.length<=1000000) (b:Bool) (hb:decide (n∈l)=b):ae Tryz.prog 206 [.sl (l.map cI),.i .i64 n] (.b (!b)):=by
 have h:=DV l n hs hl b hb
 refine jb Tryz.func206 ?_
 refine jA ?_
 refine jc h ?_;refine jH ?_
 exact zS
theorem EW (l:List Int) (n:Int) (hs:l.Pairwise (· < ·)) (hl:l.length<=1000000) (b:Bool) (hb:decide (n∈l)=b):ae Tryz.prog 167 [.sl (l.map cI),.i .i64 n] (.b b):=by
 have h:=DV l n hs hl b hb
 refine jb Tryz.func167 ?_
 refine jA ?_
 refine jm (mt l hs hl) ?_;refine jH ?_
 refine jc h ?_;refine jH ?_
 exact zS
def dR (a b:List Int):List Int:=a.filter fun n=>!decide (n∈b)
theorem FF (a b:List Int) (hb:b.Pairwise (· < ·)) (ha:a.length<=1000000) (hbl:b.length<=1000000):ae Tryz.prog 205 [.sl (a.map cI),.fn 206 [.sl (b.map cI)] []] (.sl ((dR a b).map cI)):=by
 refine jb Tryz.func205 ?_
 have hm:a.length<=9223372036854775807:=by omega
 refine jB ?_;refine wF ?_;refine wH rfl ?_;refine jB ?_
 refine AW.text ?_
 refine RG.opS rfl (cv 5 3 1 rfl) rfl ?_
 refine jH ?_
 refine AW.loopL (ι:=Nat × List Int) (fun x=>[(1,.fn 206 [.sl (b.map cI)] []),(5,.row 5 0 0 (x.2.map cI).length),(8,.sl (a.map cI)),(9,.i .i64 (a.map cI).length),(10,.i .i64 (x.1:Nat))]) (fun x=>[(5,⟨0,some (.row 3 1 (x.2.map cI))⟩)]) (fun x=>x.1<=a.length/\x.2=dR (a.take x.1) b) (fun x=>a.length - x.1) (0,[]) ⟨qR _,rfl⟩ jQ jW fun x hk=>?_
 obtain ⟨k,X⟩:=x
 obtain ⟨hk,hX⟩:=hk
 simp only at hk hX
 refine jA ?_
 refine AW.cond rfl (fun h0=>?_) (fun h0=>?_)
 ·have h:k<a.length:=by simpa using h0
  have hol:X.length<=100000000:=by
   have h1:X.length<=(a.take k).length:=by rw [hX];exact List.length_filter_le _ _
   rw [vG] at h1
   omega
  have hst:dR (a.take (k+1)) b=X++if decide (a[k]∈b)=true then [] else [a[k]]:=by
   rw [hX]
   unfold dR
   rw [List.take_add_one,qA h,List.filter_append]
   congr 1
   cases hd:decide (a[k]∈b) <;> simp [hd]
  refine jA ?_
  refine RG.opS rfl (ai rfl (tk rfl) rfl (tk rfl) rfl rfl (show (a.map cI)[k]?=some (cI a[k]) by rw [qE,qA (by assumption)];rfl) rfl) rfl ?_
  refine jH ?_
  cases h1:decide (a[k]∈b)
  ·rw [h1,if_neg (by decide)] at hst
   refine RG.callS rfl rfl rfl rfl rfl (v8 b a[k] hb hbl _ h1) rfl rfl ?_;refine jH ?_
   refine AW.condT rfl ?_;refine jB ?_
   refine AW.text ?_
   refine wH rfl ?_
   refine RG.opS rfl (co cI X a[k] hol rfl rfl rfl rfl (tk rfl) rfl (tk rfl) rfl rfl ⟨_,rfl,rfl⟩ rfl rfl) rfl ?_;refine jH ?_
   exact ⟨(k+1,_),⟨⟨h,hst.symm⟩,by show a.length - (k+1)<a.length - k;omega⟩,⟨Rn.fnF rfl rfl,rR rfl rfl rfl,rI rfl rfl,rI rfl rfl,rI (au h hm) rfl,trivial⟩,jW⟩
  ·rw [h1,if_pos rfl,vZ] at hst
   refine RG.callS rfl rfl rfl rfl rfl (v8 b a[k] hb hbl _ h1) rfl rfl ?_;refine jH ?_
   refine zF ?_
   exact ⟨(k+1,X),⟨⟨h,hst.symm⟩,by show a.length - (k+1)<a.length - k;omega⟩,⟨Rn.fnF rfl rfl,rR rfl rfl rfl,rI rfl rfl,rI rfl rfl,rI (au h hm) rfl,trivial⟩,jW⟩
 ·have h:¬k<a.length:=by simpa using h0
  obtain rfl:k=a.length:=by omega
  rw [vW] at hX
  subst hX
  refine zE ?_
  refine RG.callMS rfl rfl rfl rfl (congrArg (fun x=>[x]) (bq rfl)) rfl (jt (dR a b)) rfl ?_;refine jH ?_
  exact zS
theorem y5 {a b:List Int} (h:a.Pairwise (· < ·)):(dR a b).Pairwise (· < ·):=h.sublist List.filter_sublist
theorem CK (a b:List Int) (ha:a.Pairwise (· < ·)) (hb:b.Pairwise (· < ·)) (hal:a.length<=1000000) (hbl:b.length<=1000000):ae Tryz.prog 160 [.sl (a.map cI),.sl (b.map cI)] (.sl ((dR a b).map cI)):=by
 refine jb Tryz.func160 ?_
 refine jA ?_
 refine jm (mt a ha hal) ?_;refine jH ?_
 refine jm (mt b hb hbl) ?_;refine jH ?_
 refine jm (FF a b hb hal hbl) ?_;refine jH ?_
 exact zS
theorem fR (F:Nat) (c0:List AV) (p:aH->Bool) (l:List (aH)) (H:∀x∈l,ae Tryz.prog F [.agg (aB x),.ro c0] (.b (p x))):ae Tryz.prog 161 [.sl (l.map aB),.fn F [] [.ro c0]] (.i .i64 (bG p 0 l)):=by
 refine jb Tryz.func161 ?_
 refine jA ?_
 refine AW.lens 6 rfl fun hm=>?_
 rw [qH] at hm
 refine AW.loopL (ι:=Nat) (fun k=>[(0,.sl (l.map aB)),(1,.fn F [] [.ro c0]),(7,.i .i64 (l.map aB).length),(8,.i .i64 (k:Nat))]) (fun _=>[]) (fun k=>k<=l.length/\bG p k (l.drop k)=bG p 0 l) (fun k=>l.length - k) 0 ⟨qR _,rfl⟩ ⟨Rn.is rfl rfl,Rn.fnRo rfl rfl,Rn.is rfl rfl,Rn.is rfl rfl,trivial⟩ trivial fun k hk=>?_
 obtain ⟨hk,hf⟩:=hk
 refine jA ?_
 refine AW.cond rfl (fun h0=>?_) (fun h0=>?_)
 ·have h:k<l.length:=by simpa using h0
  rw [qV h,bG] at hf
  have hH:=H l[k] (vS h)
  have hx:(l.map aB)[k]?=some (aB l[k]):=by rw [qE,qA h];rfl
  generalize l[k]=x at hf hH hx
  refine jA ?_
  refine jx hx ?_
  refine wH rfl ?_
  cases hp:p x
  ·rw [hp] at hf hH
   refine jc hH ?_;refine jH ?_
   refine zF ?_
   exact ⟨k+1,⟨⟨h,hf⟩,by omega⟩,⟨Rn.is rfl rfl,Rn.fnRo rfl rfl,Rn.is rfl rfl,Rn.is (au h hm) rfl,trivial⟩,trivial⟩
  ·rw [hp] at hf hH
   refine jc hH ?_;refine jH ?_
   refine zT ?_
   refine jR ?_
   rw [<- hf]
   rfl
 ·have h:¬k<l.length:=by simpa using h0
  obtain rfl:k=l.length:=by omega
  rw [vI,bG] at hf
  refine zE ?_
  refine jR ?_
  rw [<- hf]
  rfl
theorem i7 (F:Nat) (c0:List AV) (p:aH->Bool) (l:List (aH)) (H:∀x∈l,ae Tryz.prog F [.agg (aB x),.ro c0] (.b (p x))) (q:Bool) (hq:l.any p=q):ae Tryz.prog 165 [.sl (l.map aB),.fn F [] [.ro c0]] (.b q):=by
 refine jb Tryz.func165 ?_
 refine jA ?_
 refine jc (fR F c0 p l H) ?_;refine jH ?_
 refine jR ?_
 exact congrArg AV.b ((dL 0 l).trans hq)
theorem ke (F:Nat) (p:aH->Bool) (l:List (aH)) (H:∀x∈l,ae Tryz.prog F [.agg (aB x)] (.b (p x))):ae Tryz.prog 161 [.sl (l.map aB),.fn F [] []] (.i .i64 (bG p 0 l)):=by
 refine jb Tryz.func161 ?_
 refine jA ?_
 refine AW.lens 6 rfl fun hm=>?_
 rw [qH] at hm
 refine AW.loopL (ι:=Nat) (fun k=>[(0,.sl (l.map aB)),(1,.fn F [] []),(7,.i .i64 (l.map aB).length),(8,.i .i64 (k:Nat))]) (fun _=>[]) (fun k=>k<=l.length/\bG p k (l.drop k)=bG p 0 l) (fun k=>l.length - k) 0 ⟨qR _,rfl⟩ ⟨Rn.is rfl rfl,Rn.fnRo rfl rfl,Rn.is rfl rfl,Rn.is rfl rfl,trivial⟩ trivial fun k hk=>?_
 obtain ⟨hk,hf⟩:=hk
 refine jA ?_
 refine AW.cond rfl (fun h0=>?_) (fun h0=>?_)
 ·have h:k<l.length:=by simpa using h0
  rw [qV h,bG] at hf
  have hH:=H l[k] (vS h)
  have hx:(l.map aB)[k]?=some (aB l[k]):=by rw [qE,qA h];rfl
  generalize l[k]=x at hf hH hx
  refine jA ?_
  refine jx hx ?_
  refine wH rfl ?_
  cases hp:p x
  ·rw [hp] at hf hH
   refine jc hH ?_;refine jH ?_
   refine zF ?_
   exact ⟨k+1,⟨⟨h,hf⟩,by omega⟩,⟨Rn.is rfl rfl,Rn.fnRo rfl rfl,Rn.is rfl rfl,Rn.is (au h hm) rfl,trivial⟩,trivial⟩
  ·rw [hp] at hf hH
   refine jc hH ?_;refine jH ?_
   refine zT ?_
   refine jR ?_
   rw [<- hf]
   rfl
 ·have h:¬k<l.length:=by simpa using h0
  obtain rfl:k=l.length:=by omega
  rw [vI,bG] at hf
  refine zE ?_
  refine jR ?_
  rw [<- hf]
  rfl
theorem iw (F:Nat) (p:aH->Bool) (l:List (aH)) (H:∀x∈l,ae Tryz.prog F [.agg (aB x)] (.b (p x))) (q:Bool) (hq:l.any p=q):ae Tryz.prog 165 [.sl (l.map aB),.fn F [] []] (.b q):=by
 refine jb Tryz.func165 ?_
 refine jA ?_
 refine jc (ke F p l H) ?_;refine jH ?_
 refine jR ?_
 exact congrArg AV.b ((dL 0 l).trans hq)
theorem Cy (n:Nat) (h0:0<n) (hn:n<=1000000) (q:Nat->Option (Nat × Nat)):aq Tryz.prog 241 [.raw (.slice none 0 0),.i .i64 (n:Nat)] (gl q [] []) (.row 2 0 0 0) (gl q [] [(2,⟨0,some (.row 36 4 [])⟩)]):=by
 refine aq.of_body Tryz.func241 rfl (by kernel_rfl) rfl rfl ?_
 refine jA ?_
 refine AW.cond rfl (fun h=>?_) (fun h=>?_)
 ·exact absurd (of_decide_eq_true h) (by simp only [qG];omega)
 have hw:IntKind.i64.wrap ((n:Int) - IntKind.i64.wrap (((0:Nat):Int) - ((0:Nat):Int)))=(n:Nat):=by
  rw [IntKind.wrap_i64,IntKind.wrap_i64]
  omega
 refine jA ?_
 refine RG.opS rfl (mh rfl rfl rfl rfl (tk rfl) rfl rfl) rfl ?_
 refine RG.runO af 0 [(14,.i .i64 (n:Nat))] 400 rfl jD ?_
 refine jA ?_
 refine AW.cond rfl (fun h=>?_) (fun h=>?_)
 rotate_left
 ·exact absurd (show Int.ofNat 0<(n:Int) by simp only [qG];omega) (of_decide_eq_false h)
 refine jA ?_
 refine RG.opS rfl (mh rfl rfl rfl rfl (tk rfl) rfl rfl) rfl ?_
 refine RG.opS rfl (o4 rfl (tk rfl) rfl (tk rfl) rfl .no (.at_ rfl)) rfl ?_
 refine wH rfl ?_
 refine RG.opS rfl (je (id:=2) n h0 (by omega) rfl rfl rfl rfl (tk rfl) rfl (tk rfl) rfl (tk rfl) (by decide) (by decide) rfl rfl) rfl ?_
 refine wH rfl ?_
 refine RG.opS rfl (oN (h:=0) rfl (tk rfl) rfl (tk rfl) rfl rfl .no (.at_ rfl) (qR _)) rfl ?_
 refine wH rfl ?_;refine jB ?_
 refine AW.only [(0,.row 2 0 0 0)] [(2,⟨0,some (.row 36 4 [])⟩)] ⟨Rn.rowTIs rfl rfl rfl (qJ _),trivial⟩ ⟨.rowT (n:=0) rfl rfl,trivial⟩ ?_
 refine jA ?_
 exact AW.ret (dQ rfl (Rm.rowIs rfl rfl rfl rfl) ⟨.row rfl rfl,trivial⟩)
def cPl (l:List Cb):List AV:=[.sl (l.map cCb)]
theorem xC (xs:List (List Cb)) (h0:0<xs.flatten.length) (hn:xs.flatten.length<=1000000) (hx:xs.length<=1000000):ae Tryz.prog 209 [.sl (xs.map cPl)] (.sl (xs.flatten.map cCb)):=by
 refine jb Tryz.func209 ?_
 have hm:xs.length<=9223372036854775807:=by omega
 refine jA ?_
 refine AW.loopL (ι:=Nat × Nat) (fun i=>[(0,.sl (xs.map cPl)),(3,.i .i64 (i.2:Nat)),(9,.sl (xs.map cPl)),(10,.i .i64 (xs.map cPl).length),(11,.i .i64 (i.1:Nat))]) (fun _=>[]) (fun i=>i.1<=xs.length/\i.2=(xs.take i.1).flatten.length) (fun i=>xs.length - i.1) (0,0) ⟨qR _,rfl⟩ jW trivial fun i hi=>?_
 obtain ⟨k,n⟩:=i
 obtain ⟨hk,hf⟩:=hi
 simp only at hk hf
 refine jA ?_
 refine AW.cond rfl (fun h0'=>?_) (fun h0'=>?_)
 ·have h:k<xs.length:=by simpa using h0'
  have h2:n+xs[k].length=(xs.take (k+1)).flatten.length:=by rw [iJ xs k h,qK,hf]
  have h3:=mv xs (k+1)
  have hw:IntKind.i64.wrap ((n:Int)+((xs[k].map cCb).length:Nat))=((n+xs[k].length:Nat):Int):=by
   rw [IntKind.wrap_i64,qH]
   omega
  refine zB ?_
  refine RG.opS rfl (ai rfl (tk rfl) rfl (tk rfl) rfl rfl (show (xs.map cPl)[k]?=some (cPl xs[k]) by rw [qE,qA (by assumption)];rfl) rfl) rfl ?_
  refine wH rfl ?_;refine jB ?_
  refine AW.text ?_
  refine RG.runO af 0 [(18,.i .i64 (n+xs[k].length:Nat))] 400 rfl jD ?_
  refine jA ?_
  refine AW.cond rfl (fun h4=>?_) (fun h4=>?_)
  ·exact absurd (of_decide_eq_true h4) (by simp only [qG];omega)
  refine jA ?_
  exact ⟨(k+1,n+xs[k].length),⟨⟨h,h2⟩,by show xs.length - (k+1)<xs.length - k;omega⟩,⟨Rn.is rfl rfl,Rn.is rfl rfl,Rn.is rfl rfl,Rn.is rfl rfl,Rn.is (au h hm) rfl,trivial⟩,trivial⟩
 have h:¬k<xs.length:=by simpa using h0'
 obtain rfl:k=xs.length:=by omega
 rw [vW] at hf
 subst hf
 refine zE ?_
 refine RG.ownNV [] [(2,6)] (fun q=>Cy _ h0 hn q) rfl rfl rfl rfl rfl rfl rfl rfl rfl rfl ?_
 refine jH ?_
 refine AW.loopL (ι:=Nat × List Cb) (fun i=>[(6,.row 6 0 0 (i.2.map cCb).length),(25,.sl (xs.map cPl)),(26,.i .i64 (xs.map cPl).length),(27,.i .i64 (i.1:Nat))]) (fun i=>[(6,⟨0,some (.row 36 4 (i.2.map cCb))⟩)]) (fun i=>i.1<=xs.length/\i.2=(xs.take i.1).flatten) (fun i=>xs.length - i.1) (0,[]) ⟨qR _,rfl⟩ jW jW fun i hi=>?_
 obtain ⟨k,out⟩:=i
 obtain ⟨hk,hf⟩:=hi
 simp only at hk hf
 refine jA ?_
 refine AW.cond rfl (fun h0'=>?_) (fun h0'=>?_)
 ·have h:k<xs.length:=by simpa using h0'
  have h2:out++xs[k]=(xs.take (k+1)).flatten:=by rw [iJ xs k h,hf]
  have h3:=mv xs (k+1)
  rw [<- h2,qK] at h3
  refine jA ?_
  refine RG.opS rfl (ai rfl (tk rfl) rfl (tk rfl) rfl rfl (show (xs.map cPl)[k]?=some (cPl xs[k]) by rw [qE,qA (by assumption)];rfl) rfl) rfl ?_
  refine jH ?_
  refine RG.opS rfl (iV cCb out xs[k] (by omega) (fun _=>rfl) rfl rfl rfl rfl (tk rfl) rfl (tk rfl) rfl rfl ⟨_,rfl,rfl⟩ rfl) rfl ?_;refine jH ?_
  exact ⟨(k+1,_),⟨⟨h,h2⟩,by show xs.length - (k+1)<xs.length - k;omega⟩,⟨Rn.rowIs rfl rfl rfl,Rn.is rfl rfl,Rn.is rfl rfl,Rn.is (au h hm) rfl,trivial⟩,jW⟩
 ·have h:¬k<xs.length:=by simpa using h0'
  obtain rfl:k=xs.length:=by omega
  rw [vW] at hf
  subst hf
  refine zE ?_
  refine jR ?_
  exact bq rfl
def bJ (p q:List Cb):List Cb × Int:=bif aj p && aj q then cz (p++q) else ([],2)
theorem Dv (p q:List Cb) (h0:0<(p++q).length):ae Tryz.prog 164 [.sl (p.map cCb),.sl (q.map cCb)] (ul (bJ p q)):=by
 refine jb Tryz.func164 ?_
 have hP:=nA p q _ rfl
 cases hb:aj p && aj q with
 | false =>
  rw [hb] at hP
  rw [bJ,hb,cond_false]
  refine jA ?_
  refine jc hP ?_;refine jH ?_
  refine zT ?_
  exact zS
 | true =>
  rw [hb] at hP
  rw [bJ,hb,cond_true]
  rw [qQ] at hb
  have hl1:=cg hb.1
  have hl2:=cg hb.2
  have hL:(p++q).length<=1000000:=by rw [qK];omega
  have hC:=xC [p,q] (by simpa using h0) (by simpa using hL) (by simp)
  have hf:[p,q].flatten=p++q:=by simp
  rw [hf] at hC
  refine jA ?_
  refine jc hP ?_;refine jH ?_
  refine zF ?_
  refine jm hC ?_;refine jH ?_
  refine jm (qe (p++q) hL) ?_;refine jH ?_
  exact zS
theorem yU (a b:List Int) (q:Bool) (hq:decide (a=b)=q) (hal:a.length<=1000000):ae Tryz.prog 163 [.sl (a.map cI),.sl (b.map cI)] (.b q):=by
 refine jb Tryz.func163 ?_
 have hm:a.length<=9223372036854775807:=by omega
 refine jA ?_
 have hlen:((a.map cI).length:Int)=a.length/\((b.map cI).length:Int)=b.length:=by simp
 refine AW.cond rfl (fun h0=>?_) (fun h0=>?_)
 ·have hne : a.length ≠ b.length := fun e => by
   have:¬((a.map cI).length:Int)=((b.map cI).length:Int):=by simpa using h0
   exact this (by rw [hlen.1,hlen.2,e])
  refine zR ?_
  exact congrArg AV.b ((qC fun e:a=b=>hne (congrArg List.length e)).symm.trans hq)
 ·have heq : a.length = b.length := by
   have:((a.map cI).length:Int)=((b.map cI).length:Int):=by simpa using h0
   rw [hlen.1,hlen.2] at this
   omega
  refine jA ?_
  refine AW.loopL (ι:=Nat) (fun k=>[(0,.sl (a.map cI)),(1,.sl (b.map cI)),(12,.i .i64 (a.map cI).length),(13,.i .i64 (k:Nat))]) (fun _=>[]) (fun k=>k<=a.length/\a.take k=b.take k) (fun k=>a.length - k) 0 ⟨qR _,rfl⟩ jW trivial fun k hk=>?_
  obtain ⟨hk,hf⟩:=hk
  refine jA ?_
  refine AW.cond rfl (fun h1=>?_) (fun h1=>?_)
  ·have h:k<a.length:=by simpa using h1
   have h':k<b.length:=by omega
   refine zB ?_
   refine wH rfl ?_
   refine zD ?_
   refine wH rfl ?_
   refine RG.opS rfl (ai rfl (tk rfl) rfl (tk rfl) rfl rfl (show (a.map cI)[k]?=some (cI a[k]) by rw [qE,qA (by assumption)];rfl) rfl) rfl ?_
   refine wH rfl ?_
   refine RG.opS rfl (ai rfl (tk rfl) rfl (tk rfl) rfl rfl (show (b.map cI)[k]?=some (cI b[k]) by rw [qE,qA (by assumption)];rfl) rfl) rfl ?_
   refine jH ?_
   refine AW.cond rfl (fun h2=>?_) (fun h2=>?_)
   ·have hne:¬a[k]=b[k]:=by simpa using h2
    refine zR ?_
    exact congrArg AV.b ((qC fun e:a=b=>hne (by subst e;rfl)).symm.trans hq)
   ·have he:a[k]=b[k]:=by simpa using h2
    refine jA ?_
    exact ⟨k+1,⟨⟨h,by rw [bi (qA h),bi (qA h'),hf,he]⟩,by omega⟩,⟨rI rfl rfl,rI rfl rfl,rI rfl rfl,rI (au h hm) rfl,trivial⟩,trivial⟩
  ·have h:¬k<a.length:=by simpa using h1
   obtain rfl:k=a.length:=by omega
   refine zE ?_
   refine jR ?_
   rw [vW,heq,vW] at hf
   exact congrArg AV.b ((qF hf).symm.trans hq)
theorem tE (a:aH):ae Tryz.prog 202 [.agg (aB a)] (.b (!aj a.pile)):=by
 refine jb Tryz.func202 ?_
 refine jA ?_
 refine RG.callS rfl rfl rfl rfl rfl (ip a.pile _ rfl) rfl rfl ?_;refine jH ?_
 exact zS
theorem rc (l:List aH) (q:Bool) (hq:(l.any fun a=>!aj a.pile) = !q):ae Tryz.prog 159 [.sl (l.map aB)] (.b q):=by
 refine jb Tryz.func159 ?_
 refine jA ?_
 refine RG.callS rfl rfl rfl rfl rfl (iw _ _ l (fun x _=>tE x) _ hq) rfl rfl ?_;refine jH ?_
 refine jR ?_
 exact congrArg AV.b (by simp)
theorem Da (id:Int) (a:aH) (hs:a.ids.Pairwise (· < ·)) (hl:a.ids.length<=1000000):ae Tryz.prog 166 [.agg (aB a),.ro [.i .i64 id]] (.b (decide (id∈a.ids))):=by
 refine jb Tryz.func166 ?_
 refine jA ?_
 refine RG.callS rfl rfl rfl rfl rfl (EW a.ids id hs hl _ rfl) rfl rfl ?_;refine jH ?_
 exact zS
def dm (l:List aH) (n:Nat) (c:Cb):List aH × Int:=aT n c l []
theorem zb (l:List aH) (n:Nat) (c:Cb) (hA:∀a∈l,nr n a/\a.ids.length<=1000) (hc:c.sound=true) (hl:l.length<=600):ae Tryz.prog 117 [.sl (l.map aB),.i .i64 (n:Nat),.agg (cCb c)] (qr (dm l n c)):=by
 have h1:(l.any fun a=>!aj a.pile) = !true:=by
  rw [Bool.not_true,List.any_eq_false]
  intro a ha
  rw [(hA a ha).1.pile]
  decide
 have h2:(l.any fun a=>decide ((n:Int)∈a.ids))=false:=by
  rw [List.any_eq_false]
  intro a ha
  rw [qC fun h=>by have:=(hA a ha).1.ids _ h;omega]
  decide
 refine jb Tryz.func117 ?_
 refine jA ?_
 refine AW.cond rfl (fun h=>?_) (fun _=>?_)
 ·have:((n:Nat):Int)<0:=of_decide_eq_true h
  omega
 refine jA ?_
 refine jc (aV c true hc) ?_;refine jH ?_
 refine jc (rc l true h1) ?_;refine jH ?_
 refine zF ?_
 refine RG.callS rfl rfl rfl rfl rfl (i7 _ _ _ l (fun x hx=>Da n x (hA x hx).1.up (by have:=(hA x hx).2;omega)) _ h2) rfl rfl ?_;refine jH ?_
 refine zF ?_
 refine jm (wg l n c hA hc hl) ?_;refine jH ?_
 refine RG.callMS rfl rfl rfl rfl rfl rfl (iu _) rfl ?_;refine jH ?_
 exact zS
end Go.Proofs.YtdidjpohnopihaaGreat.Sm
end
