/- Contracts of the program's functions over data, and the plain laws that they meet (part 6). No condition. -/
import Derived.Test.YtdidjpohnopihaaGreatVqe
import Derived.WalkKit
import Derived.WalkSpells
import Derived.WalkLawsBesides
import Derived.Lib.Hide
import Derived.Deep.RegionHeld3
import Derived.Maps.AppendAt
import Derived.KernelRfl
import Derived.Lib.AppendStr
import Derived.Orders
import Derived.LoopTactic
import Derived.Laws.CopyRow
import Derived.Laws.Cells
import Derived.OrdersIn
import Derived.Laws.Externs
import Derived.TacticsIn
import Derived.RangeFuncLeaves
import Derived.RangeFuncRecord
import Derived.Great.BuildSlice
import Derived.Laws.ResultCell
import Derived.Laws.StructEq
import Derived.Laws.MakeOwn
import Derived.Lib.AppendZerosOnto
import Derived.RangeFuncSeq
import Derived.RangeFuncIn
import Derived.Deep.Slices
import Derived.Deep.Fields
import Derived.ChangeSame
import Derived.ProofKit
import Derived.OpenShut
import Derived.SizedLaws
import Derived.Test.YtdidjpohnopihaaGreatProg
import Derived.Shelf.Spec.BitsCarry
import Derived.Laws.AppendOwn
import Derived.DeepKeys4
import Derived.MapKept
import Derived.Maps.Own
import Derived.Maps.OwnOps
import Derived.StillTailTactics
import Derived.Laws.OwnMore
import Derived.Sort.AssemblyPlain
import Derived.Sort.LotD4
import Derived.Sort.Walk13a
import Derived.Shelf.Sort.Plain
import Derived.Sort.OwnSortedInts
import Derived.Sort.LotA
set_option linter.unusedVariables false
set_option linter.unusedSimpArgs false
set_option maxRecDepth 100000
set_option maxHeartbeats 4000000
section
namespace Go.Proofs.YtdidjpohnopihaaGreat.Sm
open Go.RowKit
open Go.Sort (swp)
section
variable {α:Type} [Inhabited α] (lt:α -> α -> Bool)
theorem G8 (f a m b:Nat)(d:Array α)(h1:¬m-a=1)(h2:¬b-m=1):bc lt (f+1) a m b d=pU (fun a m b d=>bc lt f a m b d) a b ((a+b) / 2) (cU lt d a m b) ((a+b) / 2+m-cU lt d a m b) (sm1 d (cU lt d a m b) m ((a+b) / 2+m-cU lt d a m b)):=by
 rw [bc,if_neg h1,if_neg h2]
theorem zX {f:Nat}{d:Array α}{a s b:Nat}(h:b<=d.size):Pm d (sm2 (fun a m b d=>bc lt f a m b d) d a s b):=by
 rw [sm2]
 by_cases k:a<s/\s<b
 ·rw [qE k,cond_true]
  exact cZ lt f a s b d k.1 k.2 h
 ·rw [qC k,cond_false]
  exact Pm.refl d
theorem yq {i k:Nat}{d:Array α}(h:¬i<k):rc i k d=d:=by
 cases k with
 |zero=>rfl
 |succ k=>rw [rc,if_neg (by omega)]
end
theorem Bx (n:Nat)(hl:n<=100000000):∀(f a m b:Nat) (d:Array Cb),d.size=n->a<m->m<b->b<=n->b-a<=f->∀(q:Nat->Option (Nat × Nat)),aj Tryz.prog 182 [.row 201 0 0 n,.i .i64 (a:Nat),.i .i64 (m:Nat),.i .i64 (b:Nat),.fn 82 [] []] (gl q [201] (rwB d)) (.tup []) (gl q [201] (rwB (bc ltC f a m b d))):=by
 intro f
 induction f with
 |zero=>intro a m b d hn h1 h2 h3 hf;omega
 |succ f IH=>
 intro a m b d hn h1 h2 h3 hf q
 refine aj.of_body Tryz.func182 rfl (by kernel_rfl) rfl rfl ?_
 by_cases e1:m-a=1
 ·rw [bc,if_pos e1]
  have w0:IntKind.i64.wrap (((m:Nat):Int)-((a:Nat):Int))=1:=by rw [kA0];omega
  generalize hG:rZ (bsr (fun h=>ltC d[h]! d[a]!) m b-1) a d=G
  have hR:=ee (fun h=>ltC d[h]! d[a]!) _ m b (qJ _) (by omega)
  generalize hbs:bsr (fun h=>ltC d[h]! d[a]!) m b=R at hG hR
  refine zB ?_
  refine RG.runO ae 0 [(28,.b true)] 400 rfl jD ?_
  refine jB ?_
  refine zT ?_
  refine AW.loopL (ι:=Nat × Nat) (fun x=>[(0,.row 201 0 0 n),(1,.i .i64 (a:Nat)),(4,.fn 82 [] []),(10,.i .i64 (x.1:Nat)),(11,.i .i64 (x.2:Nat))]) (fun _=>gl q [201] (rwB d)) (fun x=>(m<=x.1/\x.1<=x.2/\x.2<=b)/\bsr (fun h=>ltC d[h]! d[a]!) x.1 x.2=R) (fun x=>x.2-x.1) (m,b) ⟨⟨qJ _,by show m<=b;omega,qJ _⟩,hbs⟩ jQ (aH rfl rfl rfl) fun x hx=>?_
  clear hbs
  obtain⟨i,j⟩:=x
  obtain⟨⟨hi,hij,hj⟩,hf⟩:=hx
  simp only at hi hij hj hf
  rw [bsr] at hf
  refine jA ?_
  refine AW.cond rfl (fun h0=>?_) (fun h0=>?_)
  ·have h:i < j := by
    have:=of_decide_eq_true h0
    omega
   rw [dif_pos h] at hf
   have w1:IntKind.i64.wrap ((cj (bQ (IntKind.i64.wrap ((i:Int)+(j:Int)))) 1).toNat:Int)=(((i+j) / 2:Nat):Int):=by rw [ka i j (by omega),kA0];omega
   have w2:IntKind.i64.wrap ((((i+j) / 2:Nat):Int)+Int.ofNat 1)=(((i+j) / 2+1:Nat):Int):=by rw [kA0];simp only [qH];omega
   refine zB ?_
   refine RG.runO ae 0 [(39,.i .i64 (((i+j) / 2:Nat):Int))] 400 rfl jD ?_
   refine zD ?_
   refine wH rfl ?_;refine jI (ia ((i+j) / 2) cCb ((d).toList)) ?_;refine jL (lA ((i+j) / 2) cCb (d)) ?_
   refine wH rfl ?_;refine jI (ia (a) cCb ((d).toList)) ?_;refine jL (lA (a) cCb (d)) ?_
   refine wH rfl ?_
   refine jc (qr d[(i+j) / 2]! d[a]!) ?_
   refine wH rfl ?_;refine jB ?_
   refine AW.cond rfl (fun h1=>?_) (fun h1=>?_)
   ·rw [if_pos (show ltC d[(i+j) / 2]! d[a]! = true from h1)] at hf
    refine jA ?_
    exact⟨((i+j) / 2+1,j),⟨⟨⟨by show m<=(i+j) / 2+1;omega,by show (i+j) / 2+1<=j;omega,hj⟩,hf⟩,by show j-((i+j) / 2+1)<j-i;omega⟩,⟨Rn.rowIs rfl rfl rfl,Rn.is rfl rfl,Rn.fnF rfl rfl,Rn.is (congrArg (AV.i .i64) w2) rfl,Rn.is rfl rfl,trivial⟩,aH rfl rfl rfl⟩
   ·rw [if_neg (by rw [show ltC d[(i+j) / 2]! d[a]! = false from h1];decide)] at hf
    refine jA ?_
    exact⟨(i,(i+j) / 2),⟨⟨⟨hi,by show i<=(i+j) / 2;omega,by show (i+j) / 2<=b;omega⟩,hf⟩,by show (i+j) / 2-i<j-i;omega⟩,jQ,aH rfl rfl rfl⟩
  ·have h:¬ i < j := by
    have:=of_decide_eq_false h0
    omega
   rw [dif_neg h] at hf
   subst hf
   have w3:IntKind.i64.wrap (((i:Nat):Int)-Int.ofNat 1)=((i-1:Nat):Int):=by rw [kA0];simp only [qH];omega
   refine zE ?_
   refine AW.loopL (ι:=Nat × Array Cb) (fun x=>[(0,.row 201 0 0 n),(10,.i .i64 (i:Nat)),(13,.i .i64 (x.1:Nat))]) (fun x=>gl q [201] (rwB x.2)) (fun x=>(x.1<=n/\x.2.size=n)/\rZ (i-1) x.1 x.2=G) (fun x=>n+1-x.1) (a,d) ⟨⟨by show a<=n;omega,hn⟩,hG⟩ jQ (aH rfl rfl rfl) fun x hx=>?_
   clear hG
   obtain⟨k,v⟩:=x
   obtain⟨⟨hk,hv⟩,hf⟩:=hx
   simp only at hk hv hf
   rw [rZ] at hf
   refine zB ?_
   refine RG.runO ae 0 [(57,.i .i64 ((i-1:Nat):Int))] 400 rfl jD ?_
   refine jB ?_
   refine AW.cond rfl (fun h4=>?_) (fun h4=>?_)
   ·have h4:k < i-1 := by
     have:=of_decide_eq_true h4
     omega
    rw [if_pos h4] at hf
    have w4:IntKind.i64.wrap (((k:Nat):Int)+Int.ofNat 1)=((k+1:Nat):Int):=by rw [kA0];simp only [qH];omega
    refine zD ?_
    refine wH rfl ?_;refine jI (ia (k+1) cCb ((v).toList)) ?_;refine jL (lA (k+1) cCb (v)) ?_;refine wH rfl ?_;refine jI (ia (k) cCb ((v).toList)) ?_;refine jL (lA (k) cCb (v)) ?_;refine wH rfl ?_;refine jI (ia (k) cCb ((v).toList)) ?_;refine RG.opS rfl (aS (k) cCb ((v).toList) ((v)[k+1]!) (by simp only [vF,qL];omega) rfl (tk rfl) rfl rfl rfl rfl rfl (fun _=>rfl)) rfl ?_;refine wH rfl ?_;refine jI (ia (k+1) cCb (((v).toList.set (k) (v)[k+1]!))) ?_;refine RG.opS rfl (aS (k+1) cCb (((v).toList.set (k) (v)[k+1]!)) ((v)[k]!) (by simp only [vF,qL];omega) rfl (tk rfl) rfl rfl rfl rfl rfl (fun _=>rfl)) rfl ?_
    refine wH rfl ?_;refine jB ?_
    refine AW.text ?_
    refine wH rfl ?_;refine jB ?_
    exact⟨(k+1,swp v k (k+1)),⟨⟨⟨by show k+1<=n;omega,(bg _ _ _).trans hv⟩,hf⟩,by show n+1-(k+1)<n+1-k;omega⟩,⟨Rn.rowTIs rfl rfl rfl (ah ((bg _ _ _).trans hv)),Rn.is rfl rfl,Rn.is (congrArg (AV.i .i64) w4) rfl,trivial⟩,aH rfl rfl (by rw [bj])⟩
   ·have h4:¬ k < i-1 := by
     have:=of_decide_eq_false h4
     omega
    rw [if_neg h4] at hf
    subst hf
    refine zE ?_
    exact AW.ret (cO rfl (.inr rfl) (aH rfl rfl rfl))
 have w0:¬IntKind.i64.wrap (((m:Nat):Int)-((a:Nat):Int))=Int.ofNat 1:=by rw [kA0];simp only [qH];omega
 refine zB ?_
 refine RG.runO ae 0 [(28,.b false)] 400 rfl jD ?_
 refine jB ?_
 refine AW.condF rfl ?_
 by_cases e2:b-m=1
 ·rw [bc,if_neg e1,if_pos e2]
  have w0:IntKind.i64.wrap (((b:Nat):Int)-((m:Nat):Int))=Int.ofNat 1:=by rw [kA0];simp only [qH];omega
  generalize hG:rc (bsr (fun h=>!ltC d[m]! d[h]!) a m) m d=G
  have hR:=ee (fun h=>!ltC d[m]! d[h]!) _ a m (qJ _) (by omega)
  generalize hbs:bsr (fun h=>!ltC d[m]! d[h]!) a m=R at hG hR
  refine zB ?_
  refine RG.runO ae 0 [(80,.b true)] 400 rfl jD ?_
  refine jB ?_
  refine zT ?_
  refine AW.loopL (ι:=Nat × Nat) (fun x=>[(0,.row 201 0 0 n),(2,.i .i64 (m:Nat)),(4,.fn 82 [] []),(14,.i .i64 (x.1:Nat)),(15,.i .i64 (x.2:Nat))]) (fun _=>gl q [201] (rwB d)) (fun x=>(a<=x.1/\x.1<=x.2/\x.2<=m)/\bsr (fun h=>!ltC d[m]! d[h]!) x.1 x.2=R) (fun x=>x.2-x.1) (a,m) ⟨⟨qJ _,by show a<=m;omega,qJ _⟩,hbs⟩ jQ (aH rfl rfl rfl) fun x hx=>?_
  clear hbs
  obtain⟨i,j⟩:=x
  obtain⟨⟨hi,hij,hj⟩,hf⟩:=hx
  simp only at hi hij hj hf
  rw [bsr] at hf
  refine jA ?_
  refine AW.cond rfl (fun h0=>?_) (fun h0=>?_)
  ·have h:i < j := by
    have:=of_decide_eq_true h0
    omega
   rw [dif_pos h] at hf
   have w1:IntKind.i64.wrap ((cj (bQ (IntKind.i64.wrap ((i:Int)+(j:Int)))) 1).toNat:Int)=(((i+j) / 2:Nat):Int):=by rw [ka i j (by omega),kA0];omega
   have w2:IntKind.i64.wrap ((((i+j) / 2:Nat):Int)+Int.ofNat 1)=(((i+j) / 2+1:Nat):Int):=by rw [kA0];simp only [qH];omega
   refine zB ?_
   refine RG.runO ae 0 [(91,.i .i64 (((i+j) / 2:Nat):Int))] 400 rfl jD ?_
   refine zD ?_
   refine wH rfl ?_;refine jI (ia (m) cCb ((d).toList)) ?_;refine jL (lA (m) cCb (d)) ?_
   refine wH rfl ?_;refine jI (ia ((i+j) / 2) cCb ((d).toList)) ?_;refine jL (lA ((i+j) / 2) cCb (d)) ?_
   refine wH rfl ?_
   refine jc (qr d[m]! d[(i+j) / 2]!) ?_
   refine wH rfl ?_;refine jB ?_
   refine AW.cond rfl (fun h1=>?_) (fun h1=>?_)
   ·rw [if_pos (show (!ltC d[m]! d[(i+j) / 2]!)=true from h1)] at hf
    refine jA ?_
    exact⟨((i+j) / 2+1,j),⟨⟨⟨by show a<=(i+j) / 2+1;omega,by show (i+j) / 2+1<=j;omega,hj⟩,hf⟩,by show j-((i+j) / 2+1)<j-i;omega⟩,⟨Rn.rowIs rfl rfl rfl,Rn.is rfl rfl,Rn.fnF rfl rfl,Rn.is (congrArg (AV.i .i64) w2) rfl,Rn.is rfl rfl,trivial⟩,aH rfl rfl rfl⟩
   ·rw [if_neg (by rw [show (!ltC d[m]! d[(i+j) / 2]!)=false from h1];decide)] at hf
    refine jA ?_
    exact⟨(i,(i+j) / 2),⟨⟨⟨hi,by show i<=(i+j) / 2;omega,by show (i+j) / 2<=m;omega⟩,hf⟩,by show (i+j) / 2-i<j-i;omega⟩,jQ,aH rfl rfl rfl⟩
  ·have h:¬ i < j := by
    have:=of_decide_eq_false h0
    omega
   rw [dif_neg h] at hf
   subst hf
   refine zE ?_
   refine AW.loopL (ι:=Nat × Array Cb) (fun x=>[(0,.row 201 0 0 n),(14,.i .i64 (i:Nat)),(17,.i .i64 (x.1:Nat))]) (fun x=>gl q [201] (rwB x.2)) (fun x=>(x.1<=m/\x.2.size=n)/\rc i x.1 x.2=G) (fun x=>x.1) (m,d) ⟨⟨qJ _,hn⟩,hG⟩ jQ (aH rfl rfl rfl) fun x hx=>?_
   clear hG
   obtain⟨k,v⟩:=x
   obtain⟨⟨hk,hv⟩,hf⟩:=hx
   simp only at hk hv hf
   refine jA ?_
   refine AW.cond rfl (fun h4=>?_) (fun h4=>?_)
   ·have h4:i < k := by
     have:=of_decide_eq_true h4
     omega
    obtain⟨k,rfl⟩:∃z,k=z+1:=⟨k-1,by omega⟩
    rw [rc,if_pos h4] at hf
    have w4:IntKind.i64.wrap (((k+1:Nat):Int)-Int.ofNat 1)=((k:Nat):Int):=by rw [kA0];simp only [qH];omega
    refine zD ?_
    refine wH rfl ?_;refine jI (ia (k) cCb ((v).toList)) ?_;refine jL (lA (k) cCb (v)) ?_;refine wH rfl ?_;refine jI (ia (k+1) cCb ((v).toList)) ?_;refine jL (lA (k+1) cCb (v)) ?_;refine wH rfl ?_;refine jI (ia (k+1) cCb ((v).toList)) ?_;refine RG.opS rfl (aS (k+1) cCb ((v).toList) ((v)[k]!) (by simp only [vF,qL];omega) rfl (tk rfl) rfl rfl rfl rfl rfl (fun _=>rfl)) rfl ?_;refine wH rfl ?_;refine jI (ia (k) cCb (((v).toList.set (k+1) (v)[k]!))) ?_;refine RG.opS rfl (aS (k) cCb (((v).toList.set (k+1) (v)[k]!)) ((v)[k+1]!) (by simp only [vF,qL];omega) rfl (tk rfl) rfl rfl rfl rfl rfl (fun _=>rfl)) rfl ?_
    refine wH rfl ?_;refine jB ?_
    refine AW.text ?_
    refine wH rfl ?_;refine jB ?_
    exact⟨(k,swp v (k+1) k),⟨⟨⟨by show k<=m;omega,(bg _ _ _).trans hv⟩,hf⟩,by show k<k+1;omega⟩,⟨Rn.rowTIs rfl rfl rfl (ah ((bg _ _ _).trans hv)),Rn.is rfl rfl,Rn.is (congrArg (AV.i .i64) w4) rfl,trivial⟩,aH rfl rfl (by rw [bj])⟩
   ·have h4:¬ i < k := by
     have:=of_decide_eq_false h4
     omega
    rw [yq h4] at hf
    subst hf
    refine zE ?_
    exact AW.ret (cO rfl (.inr rfl) (aH rfl rfl rfl))
 have w0:¬IntKind.i64.wrap (((b:Nat):Int)-((m:Nat):Int))=Int.ofNat 1:=by rw [kA0];simp only [qH];omega
 have hsr:=jF ltC d h1 h2
 rw [G8 ltC f a m b d e1 e2]
 rw [pU]
 rw [cU] at hsr ⊢
 generalize hmid:(a+b) / 2=mid at hsr ⊢
 generalize hst:(if m>mid then mid+m-b else a)=st0 at hsr ⊢
 generalize hr0:(if m>mid then mid else m)=r0 at hsr ⊢
 have hst1:a<=st0/\st0<=r0/\r0<=m/\r0<=mid/\mid+m<=st0+b:=by
  by_cases g:m>mid
  ·rw [if_pos g] at hst hr0;omega
  ·rw [if_neg g] at hst hr0;omega
 have wm:IntKind.i64.wrap ((cj (bQ (IntKind.i64.wrap ((a:Int)+(b:Int)))) 1).toNat:Int)=((mid:Nat):Int):=by rw [ka a b (by omega),kA0];omega
 have wn:IntKind.i64.wrap (((mid:Nat):Int)+((m:Nat):Int))=((mid+m:Nat):Int):=by rw [kA0];omega
 have wp:IntKind.i64.wrap (((mid+m:Nat):Int)-Int.ofNat 1)=((mid+m-1:Nat):Int):=by rw [kA0];simp only [qH];omega
 have wb:IntKind.i64.wrap (((mid+m:Nat):Int)-((b:Nat):Int))=(((mid+m:Nat):Int)-((b:Nat):Int)):=by rw [kA0];omega
 refine zB ?_
 refine RG.runO ae 0 [(80,.b false)] 400 rfl jD ?_
 refine jB ?_
 refine AW.condF rfl ?_;refine jB ?_
 refine AW.text ?_
 refine RG.runO ae 0 [(134,.i .i64 ((mid:Nat):Int))] 400 rfl jD ?_
 refine zB ?_
 refine RG.runO ae 0 [(137,.i .i64 ((mid+m:Nat):Int))] 400 rfl jD ?_
 refine jA ?_
 refine AW.cutT (ι:=Unit) (fun _=>[(0,.row 201 0 0 n),(1,.i .i64 (a:Nat)),(2,.i .i64 (m:Nat)),(3,.i .i64 (b:Nat)),(4,.fn 82 [] []),(18,.i .i64 (mid:Nat)),(19,.i .i64 ((mid+m:Nat):Int)),(20,.i .i64 (st0:Nat)),(21,.i .i64 (r0:Nat))]) (fun _=>gl q [201] (rwB d)) (fun _=>True) ?_ fun _ _=>?_
 ·refine AW.cond rfl (fun h0=>?_) (fun h0=>?_)
  ·have g:m > mid := by
    have:=of_decide_eq_true h0
    omega
   rw [if_pos g] at hst hr0
   subst hr0
   have wb:IntKind.i64.wrap (((mid+m:Nat):Int)-((b:Nat):Int))=((st0:Nat):Int):=by rw [wb];omega
   refine jA ?_
   exact⟨(),trivial,⟨Rn.rowIs rfl rfl rfl,Rn.is rfl rfl,Rn.is rfl rfl,Rn.is rfl rfl,Rn.fnF rfl rfl,Rn.is rfl rfl,Rn.is rfl rfl,Rn.is (congrArg (AV.i .i64) wb) rfl,Rn.is rfl rfl,trivial⟩,aH rfl rfl rfl⟩
  ·have g:¬ m > mid := by
    have:=of_decide_eq_false h0
    omega
   rw [if_neg g] at hst hr0
   subst hr0 hst
   refine jA ?_
   exact⟨(),trivial,jQ,aH rfl rfl rfl⟩
 refine zB ?_
 refine RG.runO ae 0 [(148,.i .i64 ((mid+m-1:Nat):Int))] 400 rfl jD ?_
 refine jA ?_
 have hR:=ee (fun c=>!ltC d[mid+m-1-c]! d[c]!) _ st0 r0 (qJ _) hst1.2.1
 generalize hbs:bsr (fun c=>!ltC d[mid+m-1-c]! d[c]!) st0 r0=R at hR hsr ⊢
 refine AW.loopL (ι:=Nat × Nat) (fun x=>[(0,.row 201 0 0 n),(1,.i .i64 (a:Nat)),(2,.i .i64 (m:Nat)),(3,.i .i64 (b:Nat)),(4,.fn 82 [] []),(18,.i .i64 (mid:Nat)),(19,.i .i64 ((mid+m:Nat):Int)),(20,.i .i64 (x.1:Nat)),(21,.i .i64 (x.2:Nat)),(22,.i .i64 ((mid+m-1:Nat):Int))]) (fun _=>gl q [201] (rwB d)) (fun x=>(st0<=x.1/\x.1<=x.2/\x.2<=r0)/\bsr (fun c=>!ltC d[mid+m-1-c]! d[c]!) x.1 x.2=R) (fun x=>x.2-x.1) (st0,r0) ⟨⟨qJ _,hst1.2.1,qJ _⟩,hbs⟩ jQ (aH rfl rfl rfl) fun x hx=>?_
 clear hbs hst hr0
 obtain⟨i,j⟩:=x
 obtain⟨⟨hi,hij,hj⟩,hf⟩:=hx
 simp only at hi hij hj hf
 rw [bsr] at hf
 refine jA ?_
 refine AW.cond rfl (fun h0=>?_) (fun h0=>?_)
 ·have h:i < j := by
   have:=of_decide_eq_true h0
   omega
  rw [dif_pos h] at hf
  have w1:IntKind.i64.wrap ((cj (bQ (IntKind.i64.wrap ((i:Int)+(j:Int)))) 1).toNat:Int)=(((i+j) / 2:Nat):Int):=by rw [ka i j (by omega),kA0];omega
  have w2:IntKind.i64.wrap ((((i+j) / 2:Nat):Int)+Int.ofNat 1)=(((i+j) / 2+1:Nat):Int):=by rw [kA0];simp only [qH];omega
  refine zB ?_
  refine RG.runO ae 0 [(157,.i .i64 (((i+j) / 2:Nat):Int))] 400 rfl jD ?_
  refine zD ?_
  refine wH rfl ?_;refine jI (ia (mid+m-1-(i+j) / 2) cCb ((d).toList)) ?_;refine jL (lA (mid+m-1-(i+j) / 2) cCb (d)) ?_
  refine wH rfl ?_;refine jI (ia ((i+j) / 2) cCb ((d).toList)) ?_;refine jL (lA ((i+j) / 2) cCb (d)) ?_
  refine wH rfl ?_
  refine jc (qr d[mid+m-1-(i+j) / 2]! d[(i+j) / 2]!) ?_
  refine wH rfl ?_;refine jB ?_
  refine AW.cond rfl (fun h1=>?_) (fun h1=>?_)
  ·rw [if_pos (show (!ltC d[mid+m-1-(i+j) / 2]! d[(i+j) / 2]!)=true from h1)] at hf
   refine jA ?_
   exact⟨((i+j) / 2+1,j),⟨⟨⟨by show st0<=(i+j) / 2+1;omega,by show (i+j) / 2+1<=j;omega,hj⟩,hf⟩,by show j-((i+j) / 2+1)<j-i;omega⟩,⟨Rn.rowIs rfl rfl rfl,Rn.is rfl rfl,Rn.is rfl rfl,Rn.is rfl rfl,Rn.fnF rfl rfl,Rn.is rfl rfl,Rn.is rfl rfl,Rn.is (congrArg (AV.i .i64) w2) rfl,Rn.is rfl rfl,Rn.is rfl rfl,trivial⟩,aH rfl rfl rfl⟩
  ·rw [if_neg (by rw [show (!ltC d[mid+m-1-(i+j) / 2]! d[(i+j) / 2]!)=false from h1];decide)] at hf
   refine jA ?_
   exact⟨(i,(i+j) / 2),⟨⟨⟨hi,by show i<=(i+j) / 2;omega,by show (i+j) / 2<=r0;omega⟩,hf⟩,by show (i+j) / 2-i<j-i;omega⟩,jQ,aH rfl rfl rfl⟩
 have h:¬i<j:=by
  have:=of_decide_eq_false h0
  omega
 rw [dif_neg h] at hf
 subst hf
 have we:IntKind.i64.wrap (((mid+m:Nat):Int)-((i:Nat):Int))=((mid+m-i:Nat):Int):=by rw [kA0];omega
 have hen:mid+m-i<=b:=by omega
 generalize hE:mid+m-i=en at we hen ⊢
 (repeat first|apply wA|apply wB|apply wC|apply wE|(apply zM;·kernel_rfl)|apply wF|apply wG)
 refine jE ?_;refine jB ?_
 refine AW.text ?_
 refine RG.runO ae 0 [(177,.i .i64 (en:Nat))] 400 rfl jD ?_
 refine jB ?_
 refine AW.cutT (ι:=Unit) (fun _=>[(0,.row 201 0 0 n),(1,.i .i64 (a:Nat)),(2,.i .i64 (m:Nat)),(3,.i .i64 (b:Nat)),(4,.fn 82 [] []),(18,.i .i64 (mid:Nat)),(20,.i .i64 (i:Nat)),(24,.i .i64 (en:Nat)),(185,.b (decide (i<m/\m<en)))]) (fun _=>gl q [201] (rwB d)) (fun _=>True) ?_ fun _ _=>?_
 ·refine AW.text ?_
  by_cases k1:((i:Nat):Int)<((m:Nat):Int)
  ·by_cases k2:((m:Nat):Int)<((en:Nat):Int)
   ·refine RG.runO ae 0 [(180,.b true),(184,.b true)] 400 rfl jD ?_
    refine jB ?_
    exact⟨(),trivial,⟨Rn.rowIs rfl rfl rfl,Rn.is rfl rfl,Rn.is rfl rfl,Rn.is rfl rfl,Rn.fnF rfl rfl,Rn.is rfl rfl,Rn.is rfl rfl,Rn.is rfl rfl,Rn.is (congrArg AV.b (qE (show i<m/\m<en by omega)).symm) rfl,trivial⟩,aH rfl rfl rfl⟩
   ·refine RG.runO ae 0 [(180,.b true),(184,.b false)] 400 rfl jD ?_
    refine jB ?_
    exact⟨(),trivial,⟨Rn.rowIs rfl rfl rfl,Rn.is rfl rfl,Rn.is rfl rfl,Rn.is rfl rfl,Rn.fnF rfl rfl,Rn.is rfl rfl,Rn.is rfl rfl,Rn.is rfl rfl,Rn.is (congrArg AV.b (qC (show ¬(i<m/\m<en) by omega)).symm) rfl,trivial⟩,aH rfl rfl rfl⟩
  ·refine RG.runO ae 0 [(180,.b false)] 400 rfl jD ?_
   refine jB ?_
   exact⟨(),trivial,⟨Rn.rowIs rfl rfl rfl,Rn.is rfl rfl,Rn.is rfl rfl,Rn.is rfl rfl,Rn.fnF rfl rfl,Rn.is rfl rfl,Rn.is rfl rfl,Rn.is rfl rfl,Rn.is (congrArg AV.b (qC (show ¬(i<m/\m<en) by omega)).symm) rfl,trivial⟩,aH rfl rfl rfl⟩
 have hpm:=Ay (d:=d) (s:=i) (m:=m) (e:=en) (by omega)
 have hval:sm1 d i m en=bif decide (i<m/\m<en) then p8 d i m en else d:=rfl
 generalize sm1 d i m en=v at hpm hval ⊢
 refine jB ?_
 refine AW.cutT (ι:=Unit) (fun _=>[(0,.row 201 0 0 n),(1,.i .i64 (a:Nat)),(2,.i .i64 (m:Nat)),(3,.i .i64 (b:Nat)),(4,.fn 82 [] []),(18,.i .i64 (mid:Nat)),(20,.i .i64 (i:Nat)),(24,.i .i64 (en:Nat))]) (fun _=>gl q [201] (rwB v)) (fun _=>True) ?_ fun _ _=>?_
 ·refine AW.cond rfl (fun h0=>?_) (fun h0=>?_)
  ·rw [h0,cond_true] at hval
   subst hval
   have k:=of_decide_eq_true h0
   refine jA ?_
   refine RG.ownK [(201,201)] [(201,201)] 201 201 (bG (hpm.1)) (fun q=>H8 d n i m en hn k.1 k.2 (by omega) hl q) rfl rfl rfl rfl rfl rfl rfl rfl rfl rfl rfl rfl rfl ?_
   refine jH ?_
   exact⟨(),trivial,jQ,aH rfl rfl rfl⟩
  ·rw [h0,cond_false] at hval
   subst hval
   refine jA ?_
   exact⟨(),trivial,jQ,aH rfl rfl rfl⟩
 have hn:v.size=n:=hpm.1.trans hn
 clear hpm hval
 generalize v=d1 at hn ⊢
 refine jB ?_
 refine AW.cutT (ι:=Unit) (fun _=>[(0,.row 201 0 0 n),(1,.i .i64 (a:Nat)),(2,.i .i64 (m:Nat)),(3,.i .i64 (b:Nat)),(4,.fn 82 [] []),(18,.i .i64 (mid:Nat)),(20,.i .i64 (i:Nat)),(24,.i .i64 (en:Nat)),(199,.b (decide (a<i/\i<mid)))]) (fun _=>gl q [201] (rwB d1)) (fun _=>True) ?_ fun _ _=>?_
 ·refine AW.text ?_
  by_cases k1:((a:Nat):Int)<((i:Nat):Int)
  ·by_cases k2:((i:Nat):Int)<((mid:Nat):Int)
   ·refine RG.runO ae 0 [(194,.b true),(198,.b true)] 400 rfl jD ?_
    refine jB ?_
    exact⟨(),trivial,⟨Rn.rowIs rfl rfl rfl,Rn.is rfl rfl,Rn.is rfl rfl,Rn.is rfl rfl,Rn.fnF rfl rfl,Rn.is rfl rfl,Rn.is rfl rfl,Rn.is rfl rfl,Rn.is (congrArg AV.b (qE (show a<i/\i<mid by omega)).symm) rfl,trivial⟩,aH rfl rfl rfl⟩
   ·refine RG.runO ae 0 [(194,.b true),(198,.b false)] 400 rfl jD ?_
    refine jB ?_
    exact⟨(),trivial,⟨Rn.rowIs rfl rfl rfl,Rn.is rfl rfl,Rn.is rfl rfl,Rn.is rfl rfl,Rn.fnF rfl rfl,Rn.is rfl rfl,Rn.is rfl rfl,Rn.is rfl rfl,Rn.is (congrArg AV.b (qC (show ¬(a<i/\i<mid) by omega)).symm) rfl,trivial⟩,aH rfl rfl rfl⟩
  ·refine RG.runO ae 0 [(194,.b false)] 400 rfl jD ?_
   refine jB ?_
   exact⟨(),trivial,⟨Rn.rowIs rfl rfl rfl,Rn.is rfl rfl,Rn.is rfl rfl,Rn.is rfl rfl,Rn.fnF rfl rfl,Rn.is rfl rfl,Rn.is rfl rfl,Rn.is rfl rfl,Rn.is (congrArg AV.b (qC (show ¬(a<i/\i<mid) by omega)).symm) rfl,trivial⟩,aH rfl rfl rfl⟩
 have hpm:=zX ltC (f:=f) (d:=d1) (a:=a) (s:=i) (b:=mid) (by omega)
 have hval:sm2 (fun a m b d=>bc ltC f a m b d) d1 a i mid=bif decide (a<i/\i<mid) then bc ltC f a i mid d1 else d1:=rfl
 generalize sm2 (fun a m b d=>bc ltC f a m b d) d1 a i mid=v at hpm hval ⊢
 refine jB ?_
 refine AW.cutT (ι:=Unit) (fun _=>[(0,.row 201 0 0 n),(1,.i .i64 (a:Nat)),(2,.i .i64 (m:Nat)),(3,.i .i64 (b:Nat)),(4,.fn 82 [] []),(18,.i .i64 (mid:Nat)),(20,.i .i64 (i:Nat)),(24,.i .i64 (en:Nat))]) (fun _=>gl q [201] (rwB v)) (fun _=>True) ?_ fun _ _=>?_
 ·refine AW.cond rfl (fun h0=>?_) (fun h0=>?_)
  ·rw [h0,cond_true] at hval
   subst hval
   have k:=of_decide_eq_true h0
   refine jA ?_
   refine RG.ownK [(201,201)] [(201,201)] 201 201 (bG (hpm.1)) (fun q=>IH a i mid d1 hn k.1 k.2 (by omega) (by omega) q) rfl rfl rfl rfl rfl rfl rfl rfl rfl rfl rfl rfl rfl ?_
   refine jH ?_
   exact⟨(),trivial,jQ,aH rfl rfl rfl⟩
  ·rw [h0,cond_false] at hval
   subst hval
   refine jA ?_
   exact⟨(),trivial,jQ,aH rfl rfl rfl⟩
 have hn:v.size=n:=hpm.1.trans hn
 clear hpm hval
 generalize v=d2 at hn ⊢
 refine jB ?_
 refine AW.cutT (ι:=Unit) (fun _=>[(0,.row 201 0 0 n),(1,.i .i64 (a:Nat)),(2,.i .i64 (m:Nat)),(3,.i .i64 (b:Nat)),(4,.fn 82 [] []),(18,.i .i64 (mid:Nat)),(20,.i .i64 (i:Nat)),(24,.i .i64 (en:Nat)),(213,.b (decide (mid<en/\en<b)))]) (fun _=>gl q [201] (rwB d2)) (fun _=>True) ?_ fun _ _=>?_
 ·refine AW.text ?_
  by_cases k1:((mid:Nat):Int)<((en:Nat):Int)
  ·by_cases k2:((en:Nat):Int)<((b:Nat):Int)
   ·refine RG.runO ae 0 [(208,.b true),(212,.b true)] 400 rfl jD ?_
    refine jB ?_
    exact⟨(),trivial,⟨Rn.rowIs rfl rfl rfl,Rn.is rfl rfl,Rn.is rfl rfl,Rn.is rfl rfl,Rn.fnF rfl rfl,Rn.is rfl rfl,Rn.is rfl rfl,Rn.is rfl rfl,Rn.is (congrArg AV.b (qE (show mid<en/\en<b by omega)).symm) rfl,trivial⟩,aH rfl rfl rfl⟩
   ·refine RG.runO ae 0 [(208,.b true),(212,.b false)] 400 rfl jD ?_
    refine jB ?_
    exact⟨(),trivial,⟨Rn.rowIs rfl rfl rfl,Rn.is rfl rfl,Rn.is rfl rfl,Rn.is rfl rfl,Rn.fnF rfl rfl,Rn.is rfl rfl,Rn.is rfl rfl,Rn.is rfl rfl,Rn.is (congrArg AV.b (qC (show ¬(mid<en/\en<b) by omega)).symm) rfl,trivial⟩,aH rfl rfl rfl⟩
  ·refine RG.runO ae 0 [(208,.b false)] 400 rfl jD ?_
   refine jB ?_
   exact⟨(),trivial,⟨Rn.rowIs rfl rfl rfl,Rn.is rfl rfl,Rn.is rfl rfl,Rn.is rfl rfl,Rn.fnF rfl rfl,Rn.is rfl rfl,Rn.is rfl rfl,Rn.is rfl rfl,Rn.is (congrArg AV.b (qC (show ¬(mid<en/\en<b) by omega)).symm) rfl,trivial⟩,aH rfl rfl rfl⟩
 have hpm:=zX ltC (f:=f) (d:=d2) (a:=mid) (s:=en) (b:=b) (by omega)
 have hval:sm2 (fun a m b d=>bc ltC f a m b d) d2 mid en b=bif decide (mid<en/\en<b) then bc ltC f mid en b d2 else d2:=rfl
 generalize sm2 (fun a m b d=>bc ltC f a m b d) d2 mid en b=v at hpm hval ⊢
 refine jB ?_
 refine AW.cond rfl (fun h0=>?_) (fun h0=>?_)
 ·rw [h0,cond_true] at hval
  subst hval
  have k:=of_decide_eq_true h0
  refine jA ?_
  refine RG.ownK [(201,201)] [(201,201)] 201 201 (bG (hpm.1)) (fun q=>IH mid en b d2 hn k.1 k.2 (by omega) (by omega) q) rfl rfl rfl rfl rfl rfl rfl rfl rfl rfl rfl rfl rfl ?_
  refine jH ?_
  exact cO rfl (.inl rfl) (aH rfl rfl rfl)
 ·rw [h0,cond_false] at hval
  subst hval
  refine jA ?_
  exact cO rfl (.inl rfl) (aH rfl rfl rfl)
theorem xV (d:Array Cb)(n:Nat)(hn:d.size=n)(hl:n<=100000)(q:Nat->Option (Nat × Nat)):aj Tryz.prog 130 [.row 201 0 0 n,.i .i64 (n:Nat),.fn 82 [] []] (gl q [201] (rwB d)) (.tup []) (gl q [201] (rwB (jM ltC d))):=by
 refine aj.of_body Tryz.func130 rfl (by kernel_rfl) rfl rfl ?_
 generalize hG:jM ltC d=G
 rw [jM,hn] at hG
 refine jA ?_
 refine AW.loopL (ι:=(Nat × Nat) × Array Cb) (fun x=>[(0,.row 201 0 0 n),(1,.i .i64 (n:Nat)),(2,.fn 82 [] []),(6,.i .i64 20),(7,.i .i64 (x.1.1:Nat)),(8,.i .i64 (x.1.2:Nat))]) (fun x=>gl q [201] (rwB x.2)) (fun x=>(x.1.1<=n/\x.1.2=x.1.1+20/\x.2.size=n)/\∃f,n<x.1.1+f/\rX ltC n (n+1) 20 (xY ltC n f x.1.1 x.1.2 x.2)=G) (fun x=>n-x.1.1) ((0,20),d) ⟨⟨qR _,rfl,hn⟩,n+1,by show n<0+(n+1);omega,hG⟩ jQ (aH rfl rfl rfl) fun x hx=>?_
 clear hG hn d
 obtain⟨⟨a,b⟩,d⟩:=x
 obtain⟨⟨ha,hb,hn⟩,f,hff,hf⟩:=hx
 simp only at ha hb hn hff hf
 subst hb
 obtain⟨f,rfl⟩:∃k,f=k+1:=⟨f-1,by omega⟩
 rw [xY] at hf
 have w1:IntKind.i64.wrap (((a+20:Nat):Int)+20)=((a+20+20:Nat):Int):=by rw [kA0];omega
 refine jA ?_
 refine AW.cond rfl (fun h0=>?_) (fun h0=>?_)
 ·have h:a+20<=n:=by
   have:=of_decide_eq_true h0
   simp only at this
   omega
  rw [if_pos h] at hf
  have hs:=ot ltC d a (a+20) (by omega)
  refine jA ?_
  refine RG.ownK [(201,201)] [(201,201)] 201 201 (bG (hs.1)) (fun q=>Ce d n a (a+20) hn h (by omega) (by omega) q) rfl rfl rfl rfl rfl rfl rfl rfl rfl rfl rfl rfl rfl ?_
  refine jH ?_
  exact⟨((a+20,a+20+20),Go.Sort.insertionSort ltC d a (a+20)),⟨⟨⟨h,rfl,hs.1.trans hn⟩,f,by show n<a+20+f;omega,hf⟩,by show n-(a+20)<n-a;omega⟩,⟨Rn.rowIs rfl rfl rfl,Rn.is rfl rfl,Rn.fnF rfl rfl,Rn.is rfl rfl,Rn.is rfl rfl,Rn.is (congrArg (AV.i .i64) w1) rfl,trivial⟩,aH rfl rfl rfl⟩
 have h:¬a+20<=n:=by
  have:=of_decide_eq_false h0
  simp only at this
  omega
 rw [if_neg h] at hf
 have hs:=ot ltC d a n (by omega)
 refine zE ?_
 refine RG.ownK [(201,201)] [(201,201)] 201 201 (bG (hs.1)) (fun q=>Ce d n a n hn (by omega) ha (by omega) q) rfl rfl rfl rfl rfl rfl rfl rfl rfl rfl rfl rfl rfl ?_
 refine jH ?_
 have hn:=hs.1.trans hn
 generalize Go.Sort.insertionSort ltC d a n=d1 at hn hf ⊢
 clear hs h h0 w1 hff
 refine AW.loopL (ι:=Nat × Array Cb) (fun x=>[(0,.row 201 0 0 n),(1,.i .i64 (n:Nat)),(2,.fn 82 [] []),(6,.i .i64 (x.1:Nat))]) (fun x=>gl q [201] (rwB x.2)) (fun x=>(0<x.1/\x.1<=2*n+20/\x.2.size=n)/\∃f,n<x.1+f/\rX ltC n f x.1 x.2=G) (fun x=>n-x.1) (20,d1) ⟨⟨by show 0<20;decide,by show 20<=2*n+20;omega,hn⟩,n+1,by show n<20+(n+1);omega,hf⟩ jQ (aH rfl rfl rfl) fun x hx=>?_
 clear hf hn d1 f
 obtain⟨s,d⟩:=x
 obtain⟨⟨hs0,hs1,hn⟩,f,hff,hf⟩:=hx
 simp only at hs0 hs1 hn hff hf
 refine jA ?_
 refine AW.cond rfl (fun h0=>?_) (fun h0=>?_)
 rotate_left
 ·have h:¬s<n:=by
   have:=of_decide_eq_false h0
   simp only at this
   omega
  have:d=G:=by
   cases f with
   |zero=>exact hf
   |succ f=>rw [rX,if_neg h] at hf;exact hf
  subst this
  refine zE ?_
  exact cO rfl (.inl rfl) (aH rfl rfl rfl)
 have h:s<n:=by
  have:=of_decide_eq_true h0
  simp only at this
  omega
 obtain⟨f,rfl⟩:∃k,f=k+1:=⟨f-1,by omega⟩
 rw [rX,if_pos h] at hf
 have w1:IntKind.i64.wrap (Int.ofNat 2*((s:Nat):Int))=((2*s:Nat):Int):=by rw [kA0];simp only [qH];omega
 have w2:IntKind.i64.wrap (((s:Nat):Int)*Int.ofNat 2)=((2*s:Nat):Int):=by rw [kA0];simp only [qH];omega
 have hs2:=qm ltC n s hs0 (n+1) 0 (2*s) d (by omega) (by omega)
 have hf2:pR ltC n s (n+1) 0 (2*s) d=pR ltC n s (n+1) 0 (2*s) d:=rfl
 generalize hM:pR ltC n s (n+1) 0 (2*s) d=M at hf hs2
 clear hf2
 refine jA ?_
 refine AW.loopL (ι:=(Nat × Nat) × Array Cb) (fun x=>[(0,.row 201 0 0 n),(1,.i .i64 (n:Nat)),(2,.fn 82 [] []),(6,.i .i64 (s:Nat)),(7,.i .i64 (x.1.1:Nat)),(8,.i .i64 (x.1.2:Nat))]) (fun x=>gl q [201] (rwB x.2)) (fun x=>(x.1.1<=n/\x.1.2=x.1.1+2*s/\x.2.size=n)/\∃g,n<x.1.1+g/\pR ltC n s g x.1.1 x.1.2 x.2=M) (fun x=>n-x.1.1) ((0,2*s),d) ⟨⟨qR _,by show 2*s=0+2*s;omega,hn⟩,n+1,by show n<0+(n+1);omega,hM⟩ ⟨Rn.rowIs rfl rfl rfl,Rn.is rfl rfl,Rn.fnF rfl rfl,Rn.is rfl rfl,Rn.is rfl rfl,Rn.is (congrArg (AV.i .i64) w1) rfl,trivial⟩ (aH rfl rfl rfl) fun x hx=>?_
 clear hM
 obtain⟨⟨a,b⟩,v⟩:=x
 obtain⟨⟨ha,hb,hv⟩,g,hgg,hg⟩:=hx
 simp only at ha hb hv hgg hg
 subst hb
 obtain⟨g,rfl⟩:∃k,g=k+1:=⟨g-1,by omega⟩
 rw [pR] at hg
 have w3:IntKind.i64.wrap (((a:Nat):Int)+((s:Nat):Int))=((a+s:Nat):Int):=by rw [kA0];omega
 have w4:IntKind.i64.wrap (((a+2*s:Nat):Int)+IntKind.i64.wrap (Int.ofNat 2*((s:Nat):Int)))=((a+2*s+2*s:Nat):Int):=by rw [w1,kA0];omega
 refine jA ?_
 refine AW.cond rfl (fun h2=>?_) (fun h2=>?_)
 ·have k2:a+2*s<=n:=by
   have:=of_decide_eq_true h2
   simp only at this
   omega
  rw [if_pos k2] at hg
  have hp:=cZ ltC (a+2*s-a) a (a+s) (a+2*s) v (by omega) (by omega) (by omega)
  refine zB ?_
  refine RG.runO ae 0 [(40,.i .i64 ((a+s:Nat):Int))] 400 rfl jD ?_
  refine RG.ownK [(201,201)] [(201,201)] 201 201 (bG (hp.1)) (fun q=>Bx n (by omega) (a+2*s-a) a (a+s) (a+2*s) v hv (by omega) (by omega) k2 (qJ _) q) rfl rfl rfl rfl rfl rfl rfl rfl rfl rfl rfl rfl rfl ?_
  refine jH ?_
  exact⟨((a+2*s,a+2*s+2*s),bc ltC (a+2*s-a) a (a+s) (a+2*s) v),⟨⟨⟨k2,rfl,hp.1.trans hv⟩,g,by show n<a+2*s+g;omega,hg⟩,by show n-(a+2*s)<n-a;omega⟩,⟨Rn.rowIs rfl rfl rfl,Rn.is rfl rfl,Rn.fnF rfl rfl,Rn.is rfl rfl,Rn.is rfl rfl,Rn.is (congrArg (AV.i .i64) w4) rfl,trivial⟩,aH rfl rfl rfl⟩
 have k2:¬a+2*s<=n:=by
  have:=of_decide_eq_false h2
  simp only at this
  omega
 rw [if_neg k2] at hg
 (repeat first|apply wA|apply wB|apply wC|apply wE|(apply zM;·kernel_rfl)|apply wF|apply wG)
 refine jE ?_;refine jB ?_
 refine AW.text ?_
 refine RG.runO ae 0 [(51,.i .i64 ((a+s:Nat):Int))] 400 rfl jD ?_
 refine jA ?_
 refine AW.cond rfl (fun h3=>?_) (fun h3=>?_)
 ·have k3:a+s<n:=by
   have:=of_decide_eq_true h3
   omega
  rw [if_pos k3] at hg
  subst hg
  have hp:=cZ ltC (n-a) a (a+s) n v (by omega) (by omega) (by omega)
  refine jA ?_
  refine RG.ownK [(201,201)] [(201,201)] 201 201 (bG (hp.1)) (fun q=>Bx n (by omega) (n-a) a (a+s) n v hv (by omega) k3 (qJ _) (qJ _) q) rfl rfl rfl rfl rfl rfl rfl rfl rfl rfl rfl rfl rfl ?_
  refine jH ?_
  exact⟨(2*s,bc ltC (n-a) a (a+s) n v),⟨⟨⟨by show 0<2*s;omega,by show 2*s<=2*n+20;omega,hp.1.trans hv⟩,f,by show n<2*s+f;omega,hf⟩,by show n-2*s<n-s;omega⟩,⟨Rn.rowIs rfl rfl rfl,Rn.is rfl rfl,Rn.fnF rfl rfl,Rn.is (congrArg (AV.i .i64) w2) rfl,trivial⟩,aH rfl rfl rfl⟩
 ·have k3:¬a+s<n:=by
   have:=of_decide_eq_false h3
   omega
  rw [if_neg k3] at hg
  subst hg
  refine jA ?_
  exact⟨(2*s,v),⟨⟨⟨by show 0<2*s;omega,by show 2*s<=2*n+20;omega,hv⟩,f,by show n<2*s+f;omega,hf⟩,by show n-2*s<n-s;omega⟩,⟨Rn.rowIs rfl rfl rfl,Rn.is rfl rfl,Rn.fnF rfl rfl,Rn.is (congrArg (AV.i .i64) w2) rfl,trivial⟩,aH rfl rfl rfl⟩
theorem s4 (l:List Cb)(hl:l.length<=100000):B6 l (jM ltC l.toArray).toList:=by
 intro m0 n hn q
 have hn2:l.toArray.size=n:=by rw [uH,hn,qG]
 have hpm:=pc ltC l.toArray
 refine aj.of_body Tryz.func81 rfl (by kernel_rfl) rfl rfl ?_
 refine jA ?_
 refine RG.ownK [(201,201)] [(201,201)] 201 201 (bG hpm.1) (fun q=>xV l.toArray n hn2 (by rw [hn,qG];exact hl) q) rfl rfl rfl rfl rfl rfl rfl rfl rfl rfl rfl rfl rfl ?_
 refine jH ?_
 exact cO rfl (.inl rfl) (FF rfl rfl rfl rfl rfl rfl rfl rfl rfl)
theorem rT (l:List Cb):(jM ltC l.toArray).toList.Perm l:=(pc ltC l.toArray).2
end Go.Proofs.YtdidjpohnopihaaGreat.Sm
end
section
namespace Go.Proofs.YtdidjpohnopihaaGreat.Sm
open Go.RowKit
open Go.Sort (swp)
theorem Rn.fnO {σ σ':Sto}{x:AV}{f:FuncId}{id ep ep' off:Nat}{bd bd':aE}(e:x = .fn f [.own id ep off] [])(h:σ id=⟨ep,some bd⟩)(h':σ' id=⟨ep',some bd'⟩):Rn σ σ' x (.fn f [.own id ep' off] []):=by
 subst e
 refine .fn rfl rfl (fun j x x' h1 h2=>?_) (fun j x x' h1=>by simp at h1)
 match j with
 |0=>
  obtain rfl:AV.own id ep off=x:=by simpa using h1
  obtain rfl:AV.own id ep' off=x':=by simpa using h2
  exact .own h h'
 |j+1=>simp at h1
def am {L:Nat}(x:Fin (L+1)):List AV:=cI ((x.1:Nat):Int)
def dt (l:List Rl)(k:Nat):Int:=(l.getD k Rl.zero).prio
def FH (l:List Rl)(L:Nat)(x y:Fin (L+1)):Int:=orI [du (dt l y.1) (dt l x.1),du ((x.1:Nat):Int) ((y.1:Nat):Int)]
def ltI (l:List Rl)(L:Nat)(x y:Fin (L+1)):Bool:=decide (FH l L x y<0)
def ioB {L:Nat}(l:List Rl)(n:Nat)(d:Array (Fin (L+1))):List (Nat × SB):=[(210,⟨0,some (.box 322 [.sl (l.map cRl),.row 201 0 0 n])⟩),(201,⟨0,some (.row 3 1 (d.toList.map am))⟩)]
theorem ak {L:Nat}{l:List Rl}{d:Array (Fin (L+1))}{s:St}{q:Nat->Option (Nat × Nat)}{n e e1 e1' g g1:Nat}{els:List (List AV)}(h0:s.σ 210=⟨e,some (.box 322 [.sl (l.map cRl),.row 201 e1 0 n])⟩)(h1:s.σ 201=⟨e1',some (.row 3 1 els)⟩)
  (hg:s.σ 1110=⟨g,some (.ghost 210 e (q 210))⟩) (hg1:s.σ 1101=⟨g1,some (.ghost 201 e1' (q 201))⟩) (he:e1=e1') (hel:els=d.toList.map am) (hn:0+n<=(d.toList.map am).length):WkB s (lkB (gl q [210,201] (ioB l n d))) (gl q [210,201] (ioB l n d)):=by
 subst he hel
 exact⟨.ghost hg h0 rfl,.ghost hg1 h1 rfl,.boxL h0 ⟨Rn.is rfl rfl,Rn.rowIs rfl h1 rfl,trivial⟩ rfl,.row h1 rfl,trivial⟩
theorem Bf {l:List Rl}{k:Nat}(h:k<l.length):l[k]?=some (l.getD k Rl.zero):=by
 rw [qM,qA h];rfl
theorem bF (l:List Rl)(L:Nat)(hL:l.length=L+1)(n:Nat)(d:Array (Fin (L+1)))(x y:Fin (L+1))(q:Nat->Option (Nat × Nat))(hfit:0+n<=(d.toList.map am).length):aj Tryz.prog 253 [.own 210 0 0,.i .i64 ((x.1:Nat):Int),.i .i64 ((y.1:Nat):Int)] (gl q [210,201] (ioB l n d)) (.i .i64 (FH l L x y)) (gl q [210,201] (ioB l n d)):=by
 refine aj.of_body Tryz.func253 rfl (by kernel_rfl) rfl rfl ?_
 have hx:l[x.1]?=some (l.getD x.1 Rl.zero):=Bf (by have:=x.2;omega)
 have hy:l[y.1]?=some (l.getD y.1 Rl.zero):=Bf (by have:=y.2;omega)
 refine jA ?_
 refine RG.opS rfl (aq rfl (tk rfl) rfl (tk rfl) rfl rfl (show (l.map cRl)[y.1]?=some (cRl (l.getD y.1 Rl.zero)) by rw [qF,hy];rfl) rfl) rfl ?_
 refine wH rfl ?_
 refine RG.opS rfl (aq rfl (tk rfl) rfl (tk rfl) rfl rfl (show (l.map cRl)[x.1]?=some (cRl (l.getD x.1 Rl.zero)) by rw [qF,hx];rfl) rfl) rfl ?_
 refine wH rfl ?_
 refine jc (jk (l.getD y.1 Rl.zero).prio (l.getD x.1 Rl.zero).prio) ?_
 refine wH rfl ?_
 refine jc (jk ((x.1:Nat):Int) ((y.1:Nat):Int)) ?_
 refine wH rfl ?_
 refine jc (E9 [du (l.getD y.1 Rl.zero).prio (l.getD x.1 Rl.zero).prio,du ((x.1:Nat):Int) ((y.1:Nat):Int)]) ?_;refine jH ?_
 exact AW.ret (dW rfl (Rm.is rfl rfl) (ak rfl rfl rfl rfl rfl rfl hfit))
theorem FQ (l:List Rl)(L:Nat)(hL:l.length=L+1)(n:Nat)(hl:n<=100000)(d:Array (Fin (L+1)))(hn:d.size=n)(a b:Nat)(ha:a<=n)(hb:b<=n)(q:Nat->Option (Nat × Nat)):aj Tryz.prog 259 [.row 201 0 0 n,.i .i64 ((a:Nat):Int),.i .i64 ((b:Nat):Int),.fn 253 [.own 210 0 0] []] (gl q [210,201] (ioB l n (d))) (.tup []) (gl q [210,201] (ioB l n (Go.Sort.insertionSort (ltI l L) d a b))):=by
 refine aj.of_body Tryz.func259 rfl (by kernel_rfl) rfl rfl ?_
 generalize hG:Go.Sort.insertionSort (ltI l L) d a b=G
 have w1:IntKind.i64.wrap (((a:Nat):Int)+Int.ofNat 1)=((a+1:Nat):Int):=by simp only [kA0,qH];omega
 refine jA ?_
 refine AW.loopL (ι:=Nat × Array (Fin (L+1))) (fun x=>[(0,.row 201 0 0 n),(1,.i .i64 ((a:Nat):Int)),(2,.i .i64 ((b:Nat):Int)),(3,.fn 253 [.own 210 0 0] []),(8,.i .i64 ((x.1:Nat):Int))]) (fun x=>gl q [210,201] (ioB l n (x.2))) (fun x=>(a<x.1/\x.1<=n+1/\x.2.size=n)/\Go.Sort.insOuter (ltI l L) a b x.1 x.2=G) (fun x=>n+2-x.1) (a+1,d) ⟨⟨by show a<a+1;omega,by show a+1<=n+1;omega,hn⟩,hG⟩ ⟨Rn.rowIs rfl rfl rfl,Rn.is rfl rfl,Rn.is rfl rfl,Rn.fnO rfl rfl rfl,Rn.is (congrArg (AV.i .i64) w1) rfl,trivial⟩ (ak rfl rfl rfl rfl rfl (rfl) (ah (by assumption))) fun x hx=>?_
 clear hG hn d
 obtain⟨i,m⟩:=x
 obtain⟨⟨hi1,hi2,hm⟩,hf⟩:=hx
 simp only at hi1 hi2 hm hf
 rw [Go.Sort.insOuter] at hf
 refine jA ?_
 refine AW.cond rfl (fun h0=>?_) (fun h0=>?_)
 rotate_left
 ·have h:¬ i < b := by
   have:=of_decide_eq_false h0
   try simp only at this
   omega
  rw [if_neg h] at hf
  subst hf
  refine zE ?_
  exact cO rfl (.inl rfl) (ak rfl rfl rfl rfl rfl (rfl) (ah (by assumption)))
 have h:i<b:=by
  have:=of_decide_eq_true h0
  try simp only at this
  omega
 rw [if_pos h] at hf
 have w2:IntKind.i64.wrap (((i:Nat):Int)+Int.ofNat 1)=((i+1:Nat):Int):=by simp only [kA0,qH];omega
 refine jA ?_
 refine AW.loopL (ι:=Nat × Array (Fin (L+1))) (fun x=>[(0,.row 201 0 0 n),(1,.i .i64 ((a:Nat):Int)),(2,.i .i64 ((b:Nat):Int)),(3,.fn 253 [.own 210 0 0] []),(8,.i .i64 ((i:Nat):Int)),(9,.i .i64 ((x.1:Nat):Int))]) (fun x=>gl q [210,201] (ioB l n (x.2))) (fun x=>(x.1<=i/\x.2.size=n)/\Go.Sort.insOuter (ltI l L) a b (i+1) (Go.Sort.insInner (ltI l L) a x.1 x.2)=G) (fun x=>x.1) (i,m) ⟨⟨qJ _,hm⟩,hf⟩ jQ (ak rfl rfl rfl rfl rfl (rfl) (ah (by assumption))) fun x hx=>?_
 clear hf hm
 obtain⟨j,m⟩:=x
 obtain⟨⟨hj,hm⟩,hf⟩:=hx
 simp only at hj hm hf
 refine jB ?_
 by_cases g1:((a:Nat):Int)<((j:Nat):Int)
 rotate_left
 ·rw [jC (by omega)] at hf
  refine AW.draws aJ ?_
  refine RG.runO ae 0 [(20,.b false)] 400 rfl jD ?_
  refine jB ?_
  refine zF ?_
  refine jE ?_;refine jA ?_
  exact⟨(i+1,m),⟨⟨⟨by show a<i+1;omega,by show i+1<=n+1;omega,hm⟩,hf⟩,by show n+2-(i+1)<n+2-i;omega⟩,⟨Rn.rowIs rfl rfl rfl,Rn.is rfl rfl,Rn.is rfl rfl,Rn.fnO rfl rfl rfl,Rn.is (congrArg (AV.i .i64) w2) rfl,trivial⟩,ak rfl rfl rfl rfl rfl (rfl) (ah (by assumption))⟩
 obtain⟨j,rfl⟩:∃k,j=k+1:=⟨j-1,by omega⟩
 rw [lP (by omega)] at hf
 have w3:IntKind.i64.wrap (((j+1:Nat):Int)-Int.ofNat 1)=((j:Nat):Int):=by simp only [kA0,qH];omega
 refine AW.draws aJ ?_
 refine RG.runO ae 0 [(20,.b true)] 400 rfl jD ?_
 refine jI (ia (j+1) am (m.toList)) ?_
 refine jL (lA (j+1) am (m)) ?_
 refine wH rfl ?_;refine jI (ia (j) am ((m).toList)) ?_;refine jL (lA (j) am (m)) ?_
 refine wH rfl ?_
 refine RG.ownK [(210,210),(201,201)] [(210,210),(201,201)] 201 201 rfl (fun q=>bF l L hL n (m) (m[j+1]!) (m[j]!) q (ah (by assumption))) rfl rfl rfl rfl rfl rfl rfl rfl rfl rfl rfl rfl rfl ?_
 refine wH rfl ?_;refine jB ?_
 refine AW.cond rfl (fun h1=>?_) (fun h1=>?_)
 ·rw [show ltI l L m[j+1]! m[j]! = true from h1,cond_true] at hf
  have hm2:=(bg m (j+1) j).trans hm
  refine zD ?_
  refine wH rfl ?_;refine jI (ia (j) am ((m).toList)) ?_;refine jL (lA (j) am (m)) ?_;refine wH rfl ?_;refine jI (ia (j+1) am ((m).toList)) ?_;refine jL (lA (j+1) am (m)) ?_;refine wH rfl ?_;refine jI (ia (j+1) am ((m).toList)) ?_;refine RG.opS rfl (aS (j+1) am ((m).toList) ((m)[j]!) (by simp only [vF,qL];omega) rfl (tk rfl) rfl rfl rfl rfl rfl (fun _=>rfl)) rfl ?_;refine wH rfl ?_;refine jI (ia (j) am (((m).toList.set (j+1) (m)[j]!))) ?_;refine RG.opS rfl (aS (j) am (((m).toList.set (j+1) (m)[j]!)) ((m)[j+1]!) (by simp only [vF,qL];omega) rfl (tk rfl) rfl rfl rfl rfl rfl (fun _=>rfl)) rfl ?_
  refine wH rfl ?_;refine jB ?_
  refine AW.text ?_
  refine wH rfl ?_;refine jB ?_
  exact⟨(j,swp m (j+1) j),⟨⟨⟨by show j<=i;omega,hm2⟩,hf⟩,by show j<j+1;omega⟩,⟨Rn.rowTIs rfl rfl rfl (ah (hm2)),Rn.is rfl rfl,Rn.is rfl rfl,Rn.fnO rfl rfl rfl,Rn.is rfl rfl,Rn.is (congrArg (AV.i .i64) w3) rfl,trivial⟩,ak rfl rfl rfl rfl rfl (by rw [bj]) (ah (by assumption))⟩
 ·rw [show ltI l L m[j+1]! m[j]! = false from h1,cond_false] at hf
  refine zE ?_
  exact⟨(i+1,m),⟨⟨⟨by show a<i+1;omega,by show i+1<=n+1;omega,hm⟩,hf⟩,by show n+2-(i+1)<n+2-i;omega⟩,⟨Rn.rowIs rfl rfl rfl,Rn.is rfl rfl,Rn.is rfl rfl,Rn.fnO rfl rfl rfl,Rn.is (congrArg (AV.i .i64) w2) rfl,trivial⟩,ak rfl rfl rfl rfl rfl (rfl) (ah (by assumption))⟩
theorem GE (l:List Rl)(L:Nat)(hL:l.length=L+1)(n:Nat)(hl:n<=100000)(d:Array (Fin (L+1)))(hn:d.size=n)(a b:Nat)(ha:a<b)(hb:b<=n)(q:Nat->Option (Nat × Nat)):aj Tryz.prog 263 [.row 201 0 0 n,.i .i64 ((a:Nat):Int),.i .i64 ((b:Nat):Int),.fn 253 [.own 210 0 0] []] (gl q [210,201] (ioB l n (d))) (.tup []) (gl q [210,201] (ioB l n (Go.Sort.reverseRange d a b))):=by
 refine aj.of_body Tryz.func263 rfl (by kernel_rfl) rfl rfl ?_
 generalize hG:Go.Sort.reverseRange d a b=G
 have w1:IntKind.i64.wrap (((b:Nat):Int)-Int.ofNat 1)=((b-1:Nat):Int):=by simp only [kA0,qH];omega
 refine jA ?_
 refine AW.loopL (ι:=(Nat × Nat) × Array (Fin (L+1))) (fun x=>[(0,.row 201 0 0 n),(8,.i .i64 ((x.1.1:Nat):Int)),(9,.i .i64 ((x.1.2:Nat):Int))]) (fun x=>gl q [210,201] (ioB l n (x.2))) (fun x=>(x.1.1<=n/\x.1.2<n/\x.1.1<=x.1.2+1/\x.2.size=n)/\Go.Sort.reverseLoop x.1.1 x.1.2 x.2=G) (fun x=>x.1.2+1-x.1.1) ((a,b-1),d) ⟨⟨by show a<=n;omega,by show b-1<n;omega,by show a<=b-1+1;omega,hn⟩,hG⟩ ⟨Rn.rowIs rfl rfl rfl,Rn.is rfl rfl,Rn.is (congrArg (AV.i .i64) w1) rfl,trivial⟩ (ak rfl rfl rfl rfl rfl (rfl) (ah (by assumption))) fun x hx=>?_
 clear hG hn d
 obtain⟨⟨i,j⟩,m⟩:=x
 obtain⟨⟨hi,hj,hij,hm⟩,hf⟩:=hx
 simp only at hi hj hij hm hf
 rw [Go.Sort.reverseLoop] at hf
 refine jA ?_
 refine AW.cond rfl (fun h0=>?_) (fun h0=>?_)
 rotate_left
 ·have h:¬i<j:=by
   have:=of_decide_eq_false h0
   try simp only at this
   omega
  rw [if_neg h] at hf
  subst hf
  refine zE ?_
  exact cO rfl (.inl rfl) (ak rfl rfl rfl rfl rfl (rfl) (ah (by assumption)))
 have h:i<j:=by
  have:=of_decide_eq_true h0
  try simp only at this
  omega
 rw [if_pos h] at hf
 have w2:IntKind.i64.wrap (((i:Nat):Int)+Int.ofNat 1)=((i+1:Nat):Int):=by simp only [kA0,qH];omega
 have w3:IntKind.i64.wrap (((j:Nat):Int)-Int.ofNat 1)=((j-1:Nat):Int):=by simp only [kA0,qH];omega
 have hm2:=(bg m i j).trans hm
 refine zD ?_
 refine wH rfl ?_;refine jI (ia (j) am ((m).toList)) ?_;refine jL (lA (j) am (m)) ?_;refine wH rfl ?_;refine jI (ia (i) am ((m).toList)) ?_;refine jL (lA (i) am (m)) ?_;refine wH rfl ?_;refine jI (ia (i) am ((m).toList)) ?_;refine RG.opS rfl (aS (i) am ((m).toList) ((m)[j]!) (by simp only [vF,qL];omega) rfl (tk rfl) rfl rfl rfl rfl rfl (fun _=>rfl)) rfl ?_;refine wH rfl ?_;refine jI (ia (j) am (((m).toList.set (i) (m)[j]!))) ?_;refine RG.opS rfl (aS (j) am (((m).toList.set (i) (m)[j]!)) ((m)[i]!) (by simp only [vF,qL];omega) rfl (tk rfl) rfl rfl rfl rfl rfl (fun _=>rfl)) rfl ?_
 refine jH ?_
 exact⟨((i+1,j-1),swp m i j),⟨⟨⟨by show i+1<=n;omega,by show j-1<n;omega,by show i+1<=j-1+1;omega,hm2⟩,hf⟩,by show j-1+1-(i+1)<j+1-i;omega⟩,⟨Rn.rowTIs rfl rfl rfl (ah (hm2)),Rn.is (congrArg (AV.i .i64) w2) rfl,Rn.is (congrArg (AV.i .i64) w3) rfl,trivial⟩,ak rfl rfl rfl rfl rfl (by rw [bj]) (ah (by assumption))⟩
def ioS {L:Nat}(l:List Rl)(n:Nat)(d:Array (Fin (L+1)))(c:Nat):List (Nat × SB):=(230,⟨0,some (.box 3 (cI ((c:Nat):Int)))⟩)::ioB l n d
theorem mE {L:Nat}{l:List Rl}{d:Array (Fin (L+1))}{s:St}{q:Nat->Option (Nat × Nat)}{n c e e1 e1' e3 g g1 g3:Nat}{els:List (List AV)}{cs:List AV}(h3:s.σ 230=⟨e3,some (.box 3 cs)⟩)(h0:s.σ 210=⟨e,some (.box 322 [.sl (l.map cRl),.row 201 e1 0 n])⟩)(h1:s.σ 201=⟨e1',some (.row 3 1 els)⟩)
  (hg3:s.σ 1130=⟨g3,some (.ghost 230 e3 (q 230))⟩) (hg:s.σ 1110=⟨g,some (.ghost 210 e (q 210))⟩) (hg1:s.σ 1101=⟨g1,some (.ghost 201 e1' (q 201))⟩) (he:e1=e1') (hc:cs=cI ((c:Nat):Int)) (hel:els=d.toList.map am) (hn:0+n<=(d.toList.map am).length):WkB s (lkB (gl q [230,210,201] (ioS l n d c))) (gl q [230,210,201] (ioS l n d c)):=by
 subst he hel hc
 exact⟨.ghost hg3 h3 rfl,.ghost hg h0 rfl,.ghost hg1 h1 rfl,.boxL h3 jQ rfl,.boxL h0 ⟨Rn.is rfl rfl,Rn.rowIs rfl h1 rfl,trivial⟩ rfl,.row h1 rfl,trivial⟩
theorem nh (l:List Rl)(L:Nat)(hL:l.length=L+1)(n:Nat)(hl:n<=100000)(d:Array (Fin (L+1)))(hn:d.size=n)(a b:Nat)(ha:a<n)(hb:b<n)(c:Nat)(hc:c<=100)(q:Nat->Option (Nat × Nat)):aj Tryz.prog 270 [.row 201 0 0 n,.i .i64 ((a:Nat):Int),.i .i64 ((b:Nat):Int),.own 230 0 0,.fn 253 [.own 210 0 0] []] (gl q [230,210,201] (ioS l n d (c))) (.tup [.i .i64 (((Go.Sort.order2 (ltI l L) d a b c).1:Nat):Int),.i .i64 (((Go.Sort.order2 (ltI l L) d a b c).2.1:Nat):Int)]) (gl q [230,210,201] (ioS l n d ((Go.Sort.order2 (ltI l L) d a b c).2.2))):=by
 refine aj.of_body Tryz.func270 rfl (by kernel_rfl) rfl rfl ?_
 rw [Go.Sort.order2]
 refine zB ?_
 refine wH rfl ?_;refine jB ?_
 refine AW.draws aJ ?_
 refine wH rfl ?_;refine jI (ia (b) am ((d).toList)) ?_;refine jL (lA (b) am (d)) ?_
 refine wH rfl ?_;refine jI (ia (a) am ((d).toList)) ?_;refine jL (lA (a) am (d)) ?_
 refine wH rfl ?_
 refine RG.ownK [(210,210),(201,201)] [(210,210),(201,201)] 201 201 rfl (fun q=>bF l L hL n (d) (d[b]!) (d[a]!) q (ah (by assumption))) rfl rfl rfl rfl rfl rfl rfl rfl rfl rfl rfl rfl rfl ?_
 refine wH rfl ?_;refine jB ?_
 refine AW.cond rfl (fun h1=>?_) (fun h1=>?_)
 ·rw [show ltI l L d[b]! d[a]! = true from h1]
  have w1:IntKind.i64.wrap (((c:Nat):Int)+Int.ofNat 1)=((c+1:Nat):Int):=by simp only [kA0,qH];omega
  refine jA ?_
  exact AW.ret (ni rfl (Rm.is rfl rfl) (Rm.is rfl rfl) (mE rfl rfl rfl rfl rfl rfl rfl (congrArg cI w1) rfl (ah hn)))
 ·rw [show ltI l L d[b]! d[a]! = false from h1]
  refine jA ?_
  exact AW.ret (ni rfl (Rm.is rfl rfl) (Rm.is rfl rfl) (mE rfl rfl rfl rfl rfl rfl rfl (rfl) rfl (ah hn)))
theorem la {L:Nat}{lt:Fin (L+1)->Fin (L+1)->Bool}{d:Array (Fin (L+1))}{n a b c:Nat}(ha:a<n)(hb:b<n):(Go.Sort.order2 lt d a b c).1<n/\(Go.Sort.order2 lt d a b c).2.1<n/\(Go.Sort.order2 lt d a b c).2.2<=c+1:=by
 rw [Go.Sort.order2]
 split
 ·exact⟨hb,ha,qJ _⟩
 ·exact⟨ha,hb,Nat.le_succ _⟩
theorem nf (l:List Rl)(L:Nat)(hL:l.length=L+1)(n:Nat)(hl:n<=100000)(d:Array (Fin (L+1)))(hn:d.size=n)(a b e:Nat)(ha:a<n)(hb:b<n)(he:e<n)(c:Nat)(hc:c<=90)(q:Nat->Option (Nat × Nat)):aj Tryz.prog 269 [.row 201 0 0 n,.i .i64 ((a:Nat):Int),.i .i64 ((b:Nat):Int),.i .i64 ((e:Nat):Int),.own 230 0 0,.fn 253 [.own 210 0 0] []] (gl q [230,210,201] (ioS l n d (c))) (.i .i64 (((Go.Sort.median (ltI l L) d a b e c).1:Nat):Int)) (gl q [230,210,201] (ioS l n d ((Go.Sort.median (ltI l L) d a b e c).2))):=by
 refine aj.of_body Tryz.func269 rfl (by kernel_rfl) rfl rfl ?_
 have k1:=la (lt:=ltI l L) (d:=d) (c:=c) ha hb
 have m1:=nh l L hL n hl d hn a b ha hb c (by omega)
 obtain⟨r1,e1⟩:∃r,r=Go.Sort.order2 (ltI l L) d a b c:=⟨_,rfl⟩
 rw [<- e1] at k1 m1
 have k2:=la (lt:=ltI l L) (d:=d) (c:=r1.2.2) k1.2.1 he
 have m2:=nh l L hL n hl d hn r1.2.1 e k1.2.1 he r1.2.2 (by have:=k1.2.2;omega)
 obtain⟨r2,e2⟩:∃r,r=Go.Sort.order2 (ltI l L) d r1.2.1 e r1.2.2:=⟨_,rfl⟩
 rw [<- e2] at k2 m2
 have k3:=la (lt:=ltI l L) (d:=d) (c:=r2.2.2) k1.1 k2.1
 have m3:=nh l L hL n hl d hn r1.1 r2.1 k1.1 k2.1 r2.2.2 (by have:=k1.2.2;have:=k2.2.2;omega)
 obtain⟨r3,e3⟩:∃r,r=Go.Sort.order2 (ltI l L) d r1.1 r2.1 r2.2.2:=⟨_,rfl⟩
 rw [<- e3] at k3 m3
 have hM:Go.Sort.median (ltI l L) d a b e c=(r3.2.1,r3.2.2):=by rw [e3,e2,e1];rfl
 rw [hM]
 clear hM e3 e2 e1
 refine jA ?_
 refine RG.ownK [(230,230),(210,210),(201,201)] [(230,230),(210,210),(201,201)] 201 201 rfl (fun q=>m1 q) rfl rfl rfl rfl rfl rfl rfl rfl rfl rfl rfl rfl rfl ?_
 refine jH ?_
 refine RG.ownK [(230,230),(210,210),(201,201)] [(230,230),(210,210),(201,201)] 201 201 rfl (fun q=>m2 q) rfl rfl rfl rfl rfl rfl rfl rfl rfl rfl rfl rfl rfl ?_
 refine jH ?_
 refine RG.ownK [(230,230),(210,210),(201,201)] [(230,230),(210,210),(201,201)] 201 201 rfl (fun q=>m3 q) rfl rfl rfl rfl rfl rfl rfl rfl rfl rfl rfl rfl rfl ?_
 refine jH ?_
 exact AW.ret (dW rfl (Rm.is rfl rfl) (mE rfl rfl rfl rfl rfl rfl rfl (rfl) rfl (ah hn)))
theorem ol (l:List Rl)(L:Nat)(hL:l.length=L+1)(n:Nat)(hl:n<=100000)(d:Array (Fin (L+1)))(hn:d.size=n)(a:Nat)(h0:0<a)(ha:a+1<n)(c:Nat)(hc:c<=90)(q:Nat->Option (Nat × Nat)):aj Tryz.prog 268 [.row 201 0 0 n,.i .i64 ((a:Nat):Int),.own 230 0 0,.fn 253 [.own 210 0 0] []] (gl q [230,210,201] (ioS l n d (c))) (.i .i64 (((Go.Sort.medianAdjacent (ltI l L) d a c).1:Nat):Int)) (gl q [230,210,201] (ioS l n d ((Go.Sort.medianAdjacent (ltI l L) d a c).2))):=by
 refine aj.of_body Tryz.func268 rfl (by kernel_rfl) rfl rfl ?_
 rw [Go.Sort.medianAdjacent]
 have w1:IntKind.i64.wrap (((a:Nat):Int)-Int.ofNat 1)=((a-1:Nat):Int):=by simp only [kA0,qH];omega
 have w2:IntKind.i64.wrap (((a:Nat):Int)+Int.ofNat 1)=((a+1:Nat):Int):=by simp only [kA0,qH];omega
 have m1:=nf l L hL n hl d hn (a-1) a (a+1) (by omega) (by omega) ha c hc
 refine zB ?_
 refine wH rfl ?_;refine jB ?_
 refine AW.text ?_
 refine RG.runO ae 0 [(11,.i .i64 ((a-1:Nat):Int)),(14,.i .i64 ((a+1:Nat):Int))] 400 rfl jD ?_
 refine RG.ownK [(230,230),(210,210),(201,201)] [(230,230),(210,210),(201,201)] 201 201 rfl (fun q=>m1 q) rfl rfl rfl rfl rfl rfl rfl rfl rfl rfl rfl rfl rfl ?_
 refine jH ?_
 exact AW.ret (dW rfl (Rm.is rfl rfl) (mE rfl rfl rfl rfl rfl rfl rfl (rfl) rfl (ah hn)))
end Go.Proofs.YtdidjpohnopihaaGreat.Sm
end
section
namespace Go.Proofs.YtdidjpohnopihaaGreat.Sm
open Go.RowKit
open Go.Sort (swp)
theorem pY (m k:Nat)(h:m<=100000)(hk:k<=3)(a:Nat)(ha:a<=100000):IntKind.i64.wrap (((a:Nat):Int)+IntKind.i64.wrap (IntKind.i64.wrap (Int.tdiv ((m:Nat):Int) (Int.ofNat 4))*Int.ofNat k))=((a+m / 4*k:Nat):Int):=by
 have e1:IntKind.i64.wrap (Int.tdiv ((m:Nat):Int) (Int.ofNat 4))=((m / 4:Nat):Int):=by
  rw [Int.tdiv_eq_ediv_of_nonneg (by omega),kA0];simp only [qH];omega
 have hm:m / 4*k<=100000*3:=Nat.mul_le_mul (by omega) hk
 have e2:IntKind.i64.wrap (((m / 4:Nat):Int)*Int.ofNat k)=((m / 4*k:Nat):Int):=by
  rw [qH,<- Int.natCast_mul]
  generalize m / 4*k=x at hm
  rw [kA0];omega
 rw [e1,e2]
 generalize m / 4*k=x at hm
 rw [kA0];omega
theorem lC {L:Nat}{lt:Fin (L+1)->Fin (L+1)->Bool}{d:Array (Fin (L+1))}{n a c:Nat}(ha:a+1<n):(Go.Sort.medianAdjacent lt d a c).1<n:=by
 rcases Go.Sort.medianAdjacent_mem lt d a c with h|h|h <;> rw [h] <;> omega
def pvB {L:Nat}(q:Nat->Option (Nat × Nat))(l:List Rl)(n:Nat)(d:Array (Fin (L+1)))(c:Nat):List (Nat × SB):=(11,⟨0,some (.box 3 (cI ((c:Nat):Int)))⟩)::gl q [210,201] (ioB l n d)
theorem vq {L:Nat}{l:List Rl}{d:Array (Fin (L+1))}{s:St}{q:Nat->Option (Nat × Nat)}{n c e e1 e1' e3 g g1:Nat}{els:List (List AV)}{cs:List AV}(h3:s.σ 11=⟨e3,some (.box 3 cs)⟩)(h0:s.σ 210=⟨e,some (.box 322 [.sl (l.map cRl),.row 201 e1 0 n])⟩)(h1:s.σ 201=⟨e1',some (.row 3 1 els)⟩)
  (hg:s.σ 1110=⟨g,some (.ghost 210 e (q 210))⟩) (hg1:s.σ 1101=⟨g1,some (.ghost 201 e1' (q 201))⟩) (he:e1=e1') (hc:cs=cI ((c:Nat):Int)) (hel:els=d.toList.map am) (hn:0+n<=(d.toList.map am).length):WkB s (lkB (pvB q l n d c)) (pvB q l n d c):=by
 subst he hel hc
 exact⟨.boxL h3 jQ rfl,.ghost hg h0 rfl,.ghost hg1 h1 rfl,.boxL h0 ⟨Rn.is rfl rfl,Rn.rowIs rfl h1 rfl,trivial⟩ rfl,.row h1 rfl,trivial⟩
theorem C7 (l:List Rl)(L:Nat)(hL:l.length=L+1)(n:Nat)(hl:n<=100000)(d:Array (Fin (L+1)))(hn:d.size=n)(a b:Nat)(ha:a<b)(hb:b<=n)(q:Nat->Option (Nat × Nat)):aj Tryz.prog 262 [.row 201 0 0 n,.i .i64 ((a:Nat):Int),.i .i64 ((b:Nat):Int),.fn 253 [.own 210 0 0] []] (gl q [210,201] (ioB l n (d))) (.tup [.i .i64 (((Go.Sort.rawPivot (ltI l L) d a b).1:Nat):Int),.i .i64 (Go.Sort.hintCode (Go.Sort.hintOf (Go.Sort.rawPivot (ltI l L) d a b).2))]) (gl q [210,201] (ioB l n (d))):=by
 refine aj.of_body Tryz.func262 rfl (by kernel_rfl) rfl rfl ?_
 generalize hR:Go.Sort.rawPivot (ltI l L) d a b=R
 rw [Go.Sort.rawPivot] at hR
 have wl:IntKind.i64.wrap (((b:Nat):Int)-((a:Nat):Int))=((b-a:Nat):Int):=by rw [kA0];omega
 generalize hm:b-a=m at wl hR
 have w1:=pY m 1 (by omega) (by decide) a (by omega)
 have w2:=pY m 2 (by omega) (by decide) a (by omega)
 have w3:=pY m 3 (by omega) (by decide) a (by omega)
 refine jB ?_;refine wF ?_;refine wH rfl ?_;refine jB ?_
 refine AW.text ?_
 refine RG.runO ae 0 [(17,.i .i64 ((m:Nat):Int))] 400 rfl jD ?_
 refine jB ?_;refine wF ?_;refine wH rfl ?_;refine jB ?_
 refine AW.text ?_
 refine RG.runO ae 0 [(22,.i .i64 ((a+m / 4*1:Nat):Int))] 400 rfl jD ?_
 refine zB ?_
 refine RG.runO ae 0 [(27,.i .i64 ((a+m / 4*2:Nat):Int))] 400 rfl jD ?_
 refine zB ?_
 refine RG.runO ae 0 [(32,.i .i64 ((a+m / 4*3:Nat):Int))] 400 rfl jD ?_
 refine jA ?_
 refine AW.cutT (ι:=Unit) (fun _=>[(11,.own 11 0 0),(13,.i .i64 ((R.1:Nat):Int))]) (fun _=>pvB q l n d R.2) (fun _=>True) ?_ fun _ _=>?_
 ·refine AW.cond rfl (fun h0=>?_) (fun h0=>?_)
  rotate_left
  ·have h:¬m>=8:=by
    have:=of_decide_eq_false h0
    simp only [qH] at this
    omega
   rw [if_neg h] at hR
   subst hR
   refine jA ?_
   exact⟨(),trivial,jQ,vq rfl rfl rfl rfl rfl rfl rfl rfl (ah hn)⟩
  have h:m>=8:=by
   have:=of_decide_eq_true h0
   simp only [qH] at this
   omega
  rw [if_pos h] at hR
  refine jA ?_
  refine AW.cond rfl (fun h1=>?_) (fun h1=>?_)
  ·have k:m>=50:=by
    have:=of_decide_eq_true h1
    simp only [qH] at this
    omega
   rw [if_pos k] at hR
   have b1:a+m / 4*1+1<n:=by omega
   have b2:a+m / 4*2+1<n:=by omega
   have b3:a+m / 4*3+1<n:=by omega
   have b0:0<m / 4:=by omega
   have m1:=ol l L hL n hl d hn (a+m / 4*1) (by omega) b1 0 (by decide)
   have k1:=lC (lt:=ltI l L) (d:=d) (c:=0) b1
   have c1:=Go.Sort.medianAdjacent_count (ltI l L) d (a+m / 4*1) 0
   generalize Go.Sort.medianAdjacent (ltI l L) d (a+m / 4*1) 0=r1 at hR m1 k1 c1
   have m2:=ol l L hL n hl d hn (a+m / 4*2) (by omega) b2 r1.2 (by omega)
   have k2:=lC (lt:=ltI l L) (d:=d) (c:=r1.2) b2
   have c2:=Go.Sort.medianAdjacent_count (ltI l L) d (a+m / 4*2) r1.2
   generalize Go.Sort.medianAdjacent (ltI l L) d (a+m / 4*2) r1.2=r2 at hR m2 k2 c2
   have m3:=ol l L hL n hl d hn (a+m / 4*3) (by omega) b3 r2.2 (by omega)
   have k3:=lC (lt:=ltI l L) (d:=d) (c:=r2.2) b3
   have c3:=Go.Sort.medianAdjacent_count (ltI l L) d (a+m / 4*3) r2.2
   generalize Go.Sort.medianAdjacent (ltI l L) d (a+m / 4*3) r2.2=r3 at hR m3 k3 c3
   have m4:=nf l L hL n hl d hn r1.1 r2.1 r3.1 k1 k2 k3 r3.2 (by omega)
   rw [hR] at m4
   refine jA ?_
   refine RG.ownK [(11,230),(210,210),(201,201)] [(230,11),(210,210),(201,201)] 201 201 rfl (fun q=>m1 q) rfl rfl rfl rfl rfl rfl rfl rfl rfl rfl rfl rfl rfl ?_
   refine jH ?_
   refine RG.ownK [(11,230),(210,210),(201,201)] [(230,11),(210,210),(201,201)] 201 201 rfl (fun q=>m2 q) rfl rfl rfl rfl rfl rfl rfl rfl rfl rfl rfl rfl rfl ?_
   refine jH ?_
   refine RG.ownK [(11,230),(210,210),(201,201)] [(230,11),(210,210),(201,201)] 201 201 rfl (fun q=>m3 q) rfl rfl rfl rfl rfl rfl rfl rfl rfl rfl rfl rfl rfl ?_
   refine jH ?_
   refine RG.ownK [(11,230),(210,210),(201,201)] [(230,11),(210,210),(201,201)] 201 201 rfl (fun q=>m4 q) rfl rfl rfl rfl rfl rfl rfl rfl rfl rfl rfl rfl rfl ?_
   refine jH ?_
   exact⟨(),trivial,jQ,vq rfl rfl rfl rfl rfl rfl rfl rfl (ah hn)⟩
  ·have k:¬m>=50:=by
    have:=of_decide_eq_false h1
    simp only [qH] at this
    omega
   rw [if_neg k] at hR
   have m4:=nf l L hL n hl d hn (a+m / 4*1) (a+m / 4*2) (a+m / 4*3) (by omega) (by omega) (by omega) 0 (by decide)
   rw [hR] at m4
   refine jA ?_
   refine RG.ownK [(11,230),(210,210),(201,201)] [(230,11),(210,210),(201,201)] 201 201 rfl (fun q=>m4 q) rfl rfl rfl rfl rfl rfl rfl rfl rfl rfl rfl rfl rfl ?_
   refine jH ?_
   exact⟨(),trivial,jQ,vq rfl rfl rfl rfl rfl rfl rfl rfl (ah hn)⟩
 clear hR w1 w2 w3
 rw [Go.Sort.hintOf]
 refine jA ?_
 refine AW.cond rfl (fun h0=>?_) (fun h0=>?_)
 ·have h:R.2=0:=by
   have:=of_decide_eq_true h0
   simp only [qH] at this
   omega
  rw [if_pos h]
  refine jA ?_
  exact AW.ret (ni rfl (Rm.is rfl rfl) (Rm.is rfl rfl) (ak rfl rfl rfl rfl rfl (rfl) (ah (by assumption))))
 have h:¬R.2=0:=by
  have:=of_decide_eq_false h0
  simp only [qH] at this
  omega
 rw [if_neg h]
 refine jA ?_
 refine AW.cond rfl (fun h1=>?_) (fun h1=>?_)
 ·have k:R.2=12:=by
   have:=of_decide_eq_true h1
   simp only [qH] at this
   omega
  rw [if_pos k]
  refine jA ?_
  exact AW.ret (ni rfl (Rm.is rfl rfl) (Rm.is rfl rfl) (ak rfl rfl rfl rfl rfl (rfl) (ah (by assumption))))
 ·have k:¬R.2=12:=by
   have:=of_decide_eq_false h1
   simp only [qH] at this
   omega
  rw [if_neg k]
  refine jA ?_
  exact AW.ret (ni rfl (Rm.is rfl rfl) (Rm.is rfl rfl) (ak rfl rfl rfl rfl rfl (rfl) (ah (by assumption))))
section
variable {α:Type} [Inhabited α] {lt:α -> α -> Bool}
def chB (lt:α->α->Bool)(hi first root:Nat)(d:Array α):Bool:=decide (2*root+1+1<hi) && lt d[first+(2*root+1)]! d[first+(2*root+1)+1]!
def chN (lt:α->α->Bool)(hi first root:Nat)(d:Array α):Nat:=bif chB lt hi first root d then 2*root+2 else 2*root+1
theorem vv {hi first root:Nat}{d:Array α}(h:¬2*root+1>=hi):root<chN lt hi first root d/\chN lt hi first root d<hi:=by
 rw [chN]
 cases e:chB lt hi first root d
 ·rw [cond_false];omega
 ·rw [chB,qQ,vM] at e
  rw [cond_true];omega
theorem wN {hi first root:Nat}{d:Array α}(h:¬2*root+1>=hi):Go.Sort.siftDown lt hi first root d=bif lt d[first+root]! d[first+chN lt hi first root d]! then Go.Sort.siftDown lt hi first (chN lt hi first root d) (swp d (first+root) (first+chN lt hi first root d)) else d:=by
 have hc:=vv (lt:=lt) (first:=first) (d:=d) h
 rw [Go.Sort.siftDown,dif_neg h]
 rw [chN] at hc ⊢
 rw [chB] at hc ⊢
 cases e:(decide (2*root+1+1<hi) && lt d[first+(2*root+1)]! d[first+(2*root+1)+1]!)
 ·rw [if_neg (by simp)]
  simp only [cond_false]
  cases lt d[first+root]! d[first+(2*root+1)]!
  ·rfl
  ·rfl
 ·rw [e,cond_true] at hc
  rw [if_pos rfl]
  simp only [cond_true]
  cases lt d[first+root]! d[first+(2*root+2)]!
  ·rfl
  ·rw [if_neg (by simp),dif_pos hc.2];rfl
theorem lE {hi first root:Nat}{d:Array α}(h:2*root+1>=hi):Go.Sort.siftDown lt hi first root d=d:=by
 rw [Go.Sort.siftDown,dif_pos h]
theorem kb {hi first:Nat}:∀(f root:Nat) (d:Array α),hi-root<=f->(Go.Sort.siftDown lt hi first root d).size=d.size
 |0,root,d,hf=>by rw [lE (by omega)]
 |f+1,root,d,hf=>by
  by_cases h:2*root+1>=hi
  ·rw [lE h]
  ·have hc:=vv (lt:=lt) (first:=first) (d:=d) h
   rw [wN h]
   cases lt d[first+root]! d[first+chN lt hi first root d]!
   ·rfl
   ·rw [cond_true,kb f _ _ (by omega),bg]
theorem sY {hi first:Nat}:∀(k:Nat) (d:Array α),(Go.Sort.heapBuild lt hi first k d).size=d.size
 |0,d=>rfl
 |k+1,d=>by rw [Go.Sort.heapBuild,sY k,kb _ _ _ (qJ _)]
theorem BG {first:Nat}:∀(k:Nat) (d:Array α),(Go.Sort.heapPop lt first k d).size=d.size
 |0,d=>rfl
 |k+1,d=>by rw [Go.Sort.heapPop,BG k,kb _ _ _ (qJ _),bg]
end
theorem BU (l:List Rl)(L:Nat)(hL:l.length=L+1)(n:Nat)(hl:n<=100000)(d:Array (Fin (L+1)))(hn:d.size=n)(root hi first:Nat)(hr:root<=n)(hf:first+hi<=n)(q:Nat->Option (Nat × Nat)):aj Tryz.prog 267 [.row 201 0 0 n,.i .i64 ((root:Nat):Int),.i .i64 ((hi:Nat):Int),.i .i64 ((first:Nat):Int),.fn 253 [.own 210 0 0] []] (gl q [210,201] (ioB l n (d))) (.tup []) (gl q [210,201] (ioB l n (Go.Sort.siftDown (ltI l L) hi first root d))):=by
 refine aj.of_body Tryz.func267 rfl (by kernel_rfl) rfl rfl ?_
 generalize hG:Go.Sort.siftDown (ltI l L) hi first root d=G
 refine jA ?_
 refine AW.loopL (ι:=Nat × Array (Fin (L+1))) (fun x=>[(0,.row 201 0 0 n),(2,.i .i64 ((hi:Nat):Int)),(3,.i .i64 ((first:Nat):Int)),(4,.fn 253 [.own 210 0 0] []),(10,.i .i64 ((x.1:Nat):Int))]) (fun x=>gl q [210,201] (ioB l n (x.2))) (fun x=>(x.1<=n/\x.2.size=n)/\Go.Sort.siftDown (ltI l L) hi first x.1 x.2=G) (fun x=>hi-x.1) (root,d) ⟨⟨hr,hn⟩,hG⟩ jQ (ak rfl rfl rfl rfl rfl (rfl) (ah (by assumption))) fun x hx=>?_
 clear hG hn hr
 obtain⟨root,m⟩:=x
 obtain⟨⟨hr,hm⟩,hG⟩:=hx
 simp only at hr hm hG
 have wc:IntKind.i64.wrap (IntKind.i64.wrap (Int.ofNat 2*((root:Nat):Int))+Int.ofNat 1)=((2*root+1:Nat):Int):=by
  have e:IntKind.i64.wrap (Int.ofNat 2*((root:Nat):Int))=((2*root:Nat):Int):=by rw [kA0];simp only [qH];omega
  rw [e,kA0];simp only [qH];omega
 have w2:IntKind.i64.wrap (((2*root+1:Nat):Int)+Int.ofNat 1)=((2*root+1+1:Nat):Int):=by simp only [kA0,qH];omega
 refine zB ?_
 refine RG.runO ae 0 [(15,.i .i64 ((2*root+1:Nat):Int))] 400 rfl jD ?_
 refine jA ?_
 refine AW.cond rfl (fun h0=>?_) (fun h0=>?_)
 ·have h:2 * root + 1 >= hi := by
   have:=of_decide_eq_true h0
   omega
  rw [lE h] at hG
  subst hG
  refine jA ?_
  refine AW.exit ?_;refine Eq.mpr (if_neg (by decide)) ?_;refine Eq.mpr (if_pos rfl) ?_;refine jA ?_
  exact cO rfl (.inl rfl) (ak rfl rfl rfl rfl rfl (rfl) (ah (by assumption)))
 have h:¬2*root+1>=hi:=by
  have:=of_decide_eq_false h0
  omega
 have hc:=vv (lt:=ltI l L) (first:=first) (d:=m) h
 rw [wN h] at hG
 refine jB ?_
 refine AW.cutT (ι:=Unit) (fun _=>[(0,.row 201 0 0 n),(2,.i .i64 ((hi:Nat):Int)),(3,.i .i64 ((first:Nat):Int)),(4,.fn 253 [.own 210 0 0] []),(10,.i .i64 ((root:Nat):Int)),(11,.i .i64 ((2*root+1:Nat):Int)),(40,.b (chB (ltI l L) hi first root m))]) (fun _=>gl q [210,201] (ioB l n (m))) (fun _=>True) ?_ fun _ _=>?_
 ·refine AW.draws aJ ?_
  by_cases g1:((2*root+1+1:Nat):Int)<((hi:Nat):Int)
  ·refine RG.runO ae 0 [(20,.i .i64 ((2*root+1+1:Nat):Int)),(22,.b true)] 400 rfl jD ?_
   have w4:IntKind.i64.wrap (((first:Nat):Int)+((2*root+1:Nat):Int))=((first+(2*root+1):Nat):Int):=by rw [kA0];omega
   have w5:IntKind.i64.wrap (((first+(2*root+1):Nat):Int)+Int.ofNat 1)=((first+(2*root+1)+1:Nat):Int):=by simp only [kA0,qH];omega
   refine jI (ia (first+(2*root+1)) am (m.toList)) ?_
   refine jL (lA (first+(2*root+1)) am (m)) ?_
   refine RG.runO ae 0 [(34,.i .i64 ((first+(2*root+1):Nat):Int)),(35,.i .i64 ((first+(2*root+1)+1:Nat):Int))] 400 rfl jD ?_
   refine jI (ia (first+(2*root+1)+1) am (m.toList)) ?_
   refine jL (lA (first+(2*root+1)+1) am (m)) ?_
   refine wH rfl ?_
   refine RG.ownK [(210,210),(201,201)] [(210,210),(201,201)] 201 201 rfl (fun q=>bF l L hL n (m) (m[first+(2*root+1)]!) (m[first+(2*root+1)+1]!) q (ah (by assumption))) rfl rfl rfl rfl rfl rfl rfl rfl rfl rfl rfl rfl rfl ?_
   refine wH rfl ?_;refine jB ?_
   exact⟨(),trivial,⟨Rn.rowIs rfl rfl rfl,Rn.is rfl rfl,Rn.is rfl rfl,Rn.fnO rfl rfl rfl,Rn.is rfl rfl,Rn.is rfl rfl,Rn.is (congrArg AV.b (by rw [chB,qE (show 2*root+1+1<hi by omega),uE];rfl)) rfl,trivial⟩,ak rfl rfl rfl rfl rfl (rfl) (ah (by assumption))⟩
  ·refine RG.runO ae 0 [(20,.i .i64 ((2*root+1+1:Nat):Int)),(22,.b false)] 400 rfl jD ?_
   refine jB ?_
   exact⟨(),trivial,⟨Rn.rowIs rfl rfl rfl,Rn.is rfl rfl,Rn.is rfl rfl,Rn.fnO rfl rfl rfl,Rn.is rfl rfl,Rn.is rfl rfl,Rn.is (congrArg AV.b (by rw [chB,qC (show ¬2*root+1+1<hi by omega),uI])) rfl,trivial⟩,ak rfl rfl rfl rfl rfl (rfl) (ah (by assumption))⟩
 obtain⟨ch,hch⟩:∃c,chN (ltI l L) hi first root m=c:=⟨_,rfl⟩
 rw [hch] at hc hG
 rw [chN] at hch
 refine jB ?_
 refine AW.cutT (ι:=Unit) (fun _=>[(0,.row 201 0 0 n),(2,.i .i64 ((hi:Nat):Int)),(3,.i .i64 ((first:Nat):Int)),(4,.fn 253 [.own 210 0 0] []),(10,.i .i64 ((root:Nat):Int)),(11,.i .i64 ((ch:Nat):Int))]) (fun _=>gl q [210,201] (ioB l n (m))) (fun _=>True) ?_ fun _ _=>?_
 ·refine AW.cond rfl (fun h1=>?_) (fun h1=>?_)
  ·rw [h1,cond_true] at hch
   subst hch
   refine jA ?_
   exact⟨(),trivial,⟨Rn.rowIs rfl rfl rfl,Rn.is rfl rfl,Rn.is rfl rfl,Rn.fnO rfl rfl rfl,Rn.is rfl rfl,Rn.is (congrArg (AV.i .i64) w2) rfl,trivial⟩,ak rfl rfl rfl rfl rfl (rfl) (ah (by assumption))⟩
  ·rw [h1,cond_false] at hch
   subst hch
   refine jA ?_
   exact⟨(),trivial,jQ,ak rfl rfl rfl rfl rfl (rfl) (ah (by assumption))⟩
 refine zD ?_
 refine wH rfl ?_;refine jI (ia (first+root) am ((m).toList)) ?_;refine jL (lA (first+root) am (m)) ?_
 refine wH rfl ?_;refine jI (ia (first+ch) am ((m).toList)) ?_;refine jL (lA (first+ch) am (m)) ?_
 refine wH rfl ?_
 refine RG.ownK [(210,210),(201,201)] [(210,210),(201,201)] 201 201 rfl (fun q=>bF l L hL n (m) (m[first+root]!) (m[first+ch]!) q (ah (by assumption))) rfl rfl rfl rfl rfl rfl rfl rfl rfl rfl rfl rfl rfl ?_
 refine wH rfl ?_;refine jB ?_
 refine AW.cond rfl (fun h1=>?_) (fun h1=>?_)
 ·rw [show ltI l L m[first+root]! m[first+ch]! = false from by rw [ltI];simpa using h1,cond_false] at hG
  subst hG
  refine jA ?_
  exact AW.ret (cO rfl (.inr rfl) (ak rfl rfl rfl rfl rfl (rfl) (ah (by assumption))))
 ·rw [show ltI l L m[first+root]! m[first+ch]! = true from by rw [ltI];simpa using h1,cond_true] at hG
  have hm2:=(bg m (first+root) (first+ch)).trans hm
  refine zD ?_
  refine wH rfl ?_;refine jI (ia (first+ch) am ((m).toList)) ?_;refine jL (lA (first+ch) am (m)) ?_;refine wH rfl ?_;refine jI (ia (first+root) am ((m).toList)) ?_;refine jL (lA (first+root) am (m)) ?_;refine wH rfl ?_;refine jI (ia (first+root) am ((m).toList)) ?_;refine RG.opS rfl (aS (first+root) am ((m).toList) ((m)[first+ch]!) (by simp only [vF,qL];omega) rfl (tk rfl) rfl rfl rfl rfl rfl (fun _=>rfl)) rfl ?_;refine wH rfl ?_;refine jI (ia (first+ch) am (((m).toList.set (first+root) (m)[first+ch]!))) ?_;refine RG.opS rfl (aS (first+ch) am (((m).toList.set (first+root) (m)[first+ch]!)) ((m)[first+root]!) (by simp only [vF,qL];omega) rfl (tk rfl) rfl rfl rfl rfl rfl (fun _=>rfl)) rfl ?_
  refine jH ?_
  exact⟨(ch,swp m (first+root) (first+ch)),⟨⟨⟨by show ch<=n;omega,hm2⟩,hG⟩,by show hi-ch<hi-root;omega⟩,⟨Rn.rowTIs rfl rfl rfl (ah (hm2)),Rn.is rfl rfl,Rn.is rfl rfl,Rn.fnO rfl rfl rfl,Rn.is rfl rfl,trivial⟩,ak rfl rfl rfl rfl rfl (by rw [bj]) (ah (by assumption))⟩
theorem FK (l:List Rl)(L:Nat)(hL:l.length=L+1)(n:Nat)(hl:n<=100000)(d:Array (Fin (L+1)))(hn:d.size=n)(a b:Nat)(ha:a<b)(hb:b<=n)(q:Nat->Option (Nat × Nat)):aj Tryz.prog 260 [.row 201 0 0 n,.i .i64 ((a:Nat):Int),.i .i64 ((b:Nat):Int),.fn 253 [.own 210 0 0] []] (gl q [210,201] (ioB l n (d))) (.tup []) (gl q [210,201] (ioB l n (Go.Sort.heapSort (ltI l L) d a b))):=by
 refine aj.of_body Tryz.func260 rfl (by kernel_rfl) rfl rfl ?_
 generalize hG:Go.Sort.heapSort (ltI l L) d a b=G
 rw [Go.Sort.heapSort] at hG
 have wl:IntKind.i64.wrap (((b:Nat):Int)-((a:Nat):Int))=((b-a:Nat):Int):=by rw [kA0];omega
 generalize hh:b-a=hi at wl hG
 have w1:IntKind.i64.wrap (Int.tdiv (IntKind.i64.wrap (((hi:Nat):Int)-Int.ofNat 1)) (Int.ofNat 2))=(((hi-1) / 2+1:Nat):Int)-1:=by
  have e:IntKind.i64.wrap (((hi:Nat):Int)-Int.ofNat 1)=((hi-1:Nat):Int):=by rw [kA0];simp only [qH];omega
  rw [e,Int.tdiv_eq_ediv_of_nonneg (by omega),kA0];simp only [qH];omega
 refine jB ?_;refine wF ?_;refine wH rfl ?_;refine jB ?_;refine wF ?_;refine wH rfl ?_;refine jB ?_
 refine AW.text ?_
 refine RG.runO ae 0 [(16,.i .i64 ((hi:Nat):Int))] 400 rfl jD ?_
 refine jA ?_
 refine AW.loopL (ι:=Nat × Array (Fin (L+1))) (fun x=>[(0,.row 201 0 0 n),(3,.fn 253 [.own 210 0 0] []),(8,.i .i64 ((a:Nat):Int)),(9,.i .i64 ((0:Nat):Int)),(10,.i .i64 ((hi:Nat):Int)),(11,.i .i64 (((x.1:Nat):Int)-1))]) (fun x=>gl q [210,201] (ioB l n (x.2))) (fun x=>(x.1<=hi/\x.2.size=n)/\Go.Sort.heapPop (ltI l L) a hi (Go.Sort.heapBuild (ltI l L) hi a x.1 x.2)=G) (fun x=>x.1) ((hi-1) / 2+1,d) ⟨⟨by show (hi-1) / 2+1<=hi;omega,hn⟩,hG⟩ ⟨Rn.rowIs rfl rfl rfl,Rn.fnO rfl rfl rfl,Rn.is rfl rfl,Rn.is rfl rfl,Rn.is rfl rfl,Rn.is (congrArg (AV.i .i64) (w1)) rfl,trivial⟩ (ak rfl rfl rfl rfl rfl (rfl) (ah (by assumption))) fun x hx=>?_
 clear hG hn w1 d
 obtain⟨k,m⟩:=x
 obtain⟨⟨hk,hm⟩,hG⟩:=hx
 simp only at hk hm hG
 refine jA ?_
 refine AW.cond rfl (fun h0=>?_) (fun h0=>?_)
 ·have h:0<k:=by
   have:=of_decide_eq_true h0
   simp only [qH] at this
   omega
  obtain⟨k,rfl⟩:∃z,k=z+1:=⟨k-1,by omega⟩
  rw [Go.Sort.heapBuild] at hG
  have e1:(((k+1:Nat):Int)-1)=((k:Nat):Int):=by omega
  have e2:IntKind.i64.wrap ((((k+1:Nat):Int)-1)-Int.ofNat 1)=(((k:Nat):Int)-1):=by rw [kA0];simp only [qH];omega
  have hs:=kb (lt:=ltI l L) (hi:=hi) (first:=a) _ k m (qJ _)
  refine zB ?_
  refine RG.runO ae 0 [(25,.i .i64 ((k:Nat):Int))] 400 rfl jD ?_
  refine RG.ownK [(210,210),(201,201)] [(210,210),(201,201)] 201 201 (bG (hs)) (fun q=>BU l L hL n hl m hm k hi a (by omega) (by omega) q) rfl rfl rfl rfl rfl rfl rfl rfl rfl rfl rfl rfl rfl ?_
  refine jH ?_
  exact⟨(k,Go.Sort.siftDown (ltI l L) hi a k m),⟨⟨⟨by show k<=hi;omega,hs.trans hm⟩,hG⟩,by show k<k+1;omega⟩,⟨Rn.rowIs rfl rfl rfl,Rn.fnO rfl rfl rfl,Rn.is rfl rfl,Rn.is rfl rfl,Rn.is rfl rfl,Rn.is (congrArg (AV.i .i64) (e2)) rfl,trivial⟩,ak rfl rfl rfl rfl rfl (rfl) (ah (hs.trans hm))⟩
 have h:k=0:=by
  have:=of_decide_eq_false h0
  simp only [qH] at this
  omega
 subst h
 rw [Go.Sort.heapBuild] at hG
 have w1:IntKind.i64.wrap (((hi:Nat):Int)-Int.ofNat 1)=(((hi:Nat):Int)-1):=by rw [kA0];simp only [qH];omega
 refine zE ?_
 refine AW.loopL (ι:=Nat × Array (Fin (L+1))) (fun x=>[(0,.row 201 0 0 n),(3,.fn 253 [.own 210 0 0] []),(8,.i .i64 ((a:Nat):Int)),(9,.i .i64 ((0:Nat):Int)),(10,.i .i64 ((hi:Nat):Int)),(12,.i .i64 (((x.1:Nat):Int)-1))]) (fun x=>gl q [210,201] (ioB l n (x.2))) (fun x=>(x.1<=hi/\x.2.size=n)/\Go.Sort.heapPop (ltI l L) a x.1 x.2=G) (fun x=>x.1) (hi,m) ⟨⟨qJ _,hm⟩,hG⟩ ⟨Rn.rowIs rfl rfl rfl,Rn.fnO rfl rfl rfl,Rn.is rfl rfl,Rn.is rfl rfl,Rn.is rfl rfl,Rn.is (congrArg (AV.i .i64) (w1)) rfl,trivial⟩ (ak rfl rfl rfl rfl rfl (rfl) (ah (by assumption))) fun x hx=>?_
 clear hG hm w1
 obtain⟨k,m⟩:=x
 obtain⟨⟨hk,hm⟩,hG⟩:=hx
 simp only at hk hm hG
 refine jA ?_
 refine AW.cond rfl (fun h0=>?_) (fun h0=>?_)
 rotate_left
 ·have h:k=0:=by
   have:=of_decide_eq_false h0
   simp only [qH] at this
   omega
  subst h
  rw [Go.Sort.heapPop] at hG
  subst hG
  refine zE ?_
  exact cO rfl (.inl rfl) (ak rfl rfl rfl rfl rfl (rfl) (ah (by assumption)))
 have h:0<k:=by
  have:=of_decide_eq_true h0
  simp only [qH] at this
  omega
 obtain⟨k,rfl⟩:∃z,k=z+1:=⟨k-1,by omega⟩
 rw [Go.Sort.heapPop] at hG
 have e1:(((k+1:Nat):Int)-1)=((k:Nat):Int):=by omega
 have e2:IntKind.i64.wrap ((((k+1:Nat):Int)-1)-Int.ofNat 1)=(((k:Nat):Int)-1):=by rw [kA0];simp only [qH];omega
 have hm2:=(bg m a (a+k)).trans hm
 have hs:=kb (lt:=ltI l L) (hi:=k) (first:=a) _ 0 (swp m a (a+k)) (qJ _)
 refine zD ?_
 refine RG.runO ae 0 [(40,.i .i64 ((k:Nat):Int)),(44,.i .i64 ((k:Nat):Int))] 400 rfl jD ?_
 refine jI (ia (a+k) am (m.toList)) ?_
 refine jL (lA (a+k) am (m)) ?_
 refine wH rfl ?_;refine jI (ia (a) am ((m).toList)) ?_;refine jL (lA (a) am (m)) ?_
 refine wH rfl ?_;refine jI (ia (a) am (m.toList)) ?_
 refine RG.opS rfl (aS (a) am (m.toList) (m[a+k]!) (by simp only [vF,qL];omega) rfl (tk rfl) rfl rfl rfl rfl rfl (fun _=>rfl)) rfl ?_
 refine wH rfl ?_;refine jI (ia (a+k) am ((m.toList.set a m[a+k]!))) ?_
 refine RG.opS rfl (aS (a+k) am ((m.toList.set a m[a+k]!)) (m[a]!) (by simp only [vF,qL];omega) rfl (tk rfl) rfl rfl rfl rfl rfl (fun _=>rfl)) rfl ?_
 rw [<- bj]
 refine wH rfl ?_;refine jB ?_
 refine AW.text ?_
 refine RG.runO ae 0 [(56,.i .i64 ((k:Nat):Int))] 400 rfl jD ?_
 refine RG.ownK [(210,210),(201,201)] [(210,210),(201,201)] 201 201 (bG (hs)) (fun q=>BU l L hL n hl (swp m a (a+k)) hm2 0 k a (by omega) (by omega) q) rfl rfl rfl rfl rfl rfl rfl rfl rfl rfl rfl rfl rfl ?_
 refine jH ?_
 exact⟨(k,Go.Sort.siftDown (ltI l L) k a 0 (swp m a (a+k))),⟨⟨⟨by show k<=hi;omega,hs.trans hm2⟩,hG⟩,by show k<k+1;omega⟩,⟨Rn.rowIs rfl rfl rfl,Rn.fnO rfl rfl rfl,Rn.is rfl rfl,Rn.is rfl rfl,Rn.is rfl rfl,Rn.is (congrArg (AV.i .i64) (e2)) rfl,trivial⟩,ak rfl rfl rfl rfl rfl (rfl) (ah (hs.trans hm2))⟩
end Go.Proofs.YtdidjpohnopihaaGreat.Sm
end
section
namespace Go.Proofs.YtdidjpohnopihaaGreat.Sm
open Go.RowKit
open Go.Sort (swp)
section
variable {α:Type} [Inhabited α] {lt:α -> α -> Bool}
theorem lg (p:α->Bool)(d:Array α)(j i:Nat):Go.Sort.scanUp p d j i=bif (decide (i<=j) && p d[i]!) then Go.Sort.scanUp p d j (i+1) else i:=by
 rw [Go.Sort.scanUp]
 cases (decide (i<=j) && p d[i]!)
 ·rw [if_neg (by simp)];rfl
 ·rw [if_pos rfl];rfl
theorem iD (p:α->Bool)(d:Array α){i:Nat}(hi:0<i)(j:Nat):Go.Sort.scanDown p d i j=bif (decide (i<=j) && p d[j]!) then Go.Sort.scanDown p d i (j-1) else j:=by
 cases j with
 |zero=>rw [qC (show ¬i<=0 by omega),uI];rfl
 |succ j=>
  rw [Go.Sort.scanDown,Nat.add_sub_cancel]
  cases (decide (i<=j+1) && p d[j+1]!)
  ·rw [if_neg (by simp)];rfl
  ·rw [if_pos rfl];rfl
theorem Cl {d m:Array α}{a b pivot I J:Nat}(hm:swp d a pivot=m)(hI:Go.Sort.scanUp (fun x=>lt x m[a]!) m (b-1) (a+1)=I)(hJ:Go.Sort.scanDown (fun x=>!lt x m[a]!) m I (b-1)=J) :
  Go.Sort.partition lt d a b pivot=if I>J then (J,true,swp m J a) else ((Go.Sort.partLoop lt a (I+1) (J-1) (swp m I J)).1,false,swp (Go.Sort.partLoop lt a (I+1) (J-1) (swp m I J)).2 (Go.Sort.partLoop lt a (I+1) (J-1) (swp m I J)).1 a):=by
 subst hm hI hJ
 rfl
theorem D9 {m:Array α}{a i j I J:Nat}(hI:Go.Sort.scanUp (fun x=>lt x m[a]!) m j i=I)(hJ:Go.Sort.scanDown (fun x=>!lt x m[a]!) m I j=J) :
  Go.Sort.partLoop lt a i j m=if I>J then (J,m) else Go.Sort.partLoop lt a (I+1) (J-1) (swp m I J):=by
 rw [Go.Sort.partLoop_eq,hI,hJ]
theorem yD {m:Array α}{a i j I J:Nat}(hI:Go.Sort.scanUp (fun x=>!lt m[a]! x) m j i=I)(hJ:Go.Sort.scanDown (fun x=>lt m[a]! x) m I j=J) :
  Go.Sort.partEqLoop lt a i j m=if I>J then (I,m) else Go.Sort.partEqLoop lt a (I+1) (J-1) (swp m I J):=by
 rw [Go.Sort.partEqLoop_eq,hI,hJ]
end
theorem FM (l:List Rl)(L:Nat)(hL:l.length=L+1)(n:Nat)(hl:n<=100000)(d:Array (Fin (L+1)))(hn:d.size=n)(a b pivot:Nat)(ha:a<=pivot)(hp:pivot<b)(hb:b<=n)(q:Nat->Option (Nat × Nat)):aj Tryz.prog 266 [.row 201 0 0 n,.i .i64 ((a:Nat):Int),.i .i64 ((b:Nat):Int),.i .i64 ((pivot:Nat):Int),.fn 253 [.own 210 0 0] []] (gl q [210,201] (ioB l n (d))) (.tup [.i .i64 (((Go.Sort.partition (ltI l L) d a b pivot).1:Nat):Int),.b (Go.Sort.partition (ltI l L) d a b pivot).2.1]) (gl q [210,201] (ioB l n ((Go.Sort.partition (ltI l L) d a b pivot).2.2))):=by
 refine aj.of_body Tryz.func266 rfl (by kernel_rfl) rfl rfl ?_
 have hm:(swp d a pivot).size=n:=(bg _ _ _).trans hn
 obtain⟨m,e0⟩:∃m,swp d a pivot=m:=⟨_,rfl⟩
 obtain⟨I,hI⟩:∃I,Go.Sort.scanUp (fun x=>ltI l L x m[a]!) m (b-1) (a+1)=I:=⟨_,rfl⟩
 obtain⟨J,hJ⟩:∃J,Go.Sort.scanDown (fun x=>!ltI l L x m[a]!) m I (b-1)=J:=⟨_,rfl⟩
 rw [Cl e0 hI hJ]
 have w1:IntKind.i64.wrap (((a:Nat):Int)+Int.ofNat 1)=((a+1:Nat):Int):=by simp only [kA0,qH];omega
 have w2:IntKind.i64.wrap (((b:Nat):Int)-Int.ofNat 1)=((b-1:Nat):Int):=by simp only [kA0,qH];omega
 refine zB ?_
 refine wH rfl ?_;refine jB ?_
 refine AW.draws aJ ?_
 refine wH rfl ?_;refine jI (ia (pivot) am ((d).toList)) ?_;refine jL (lA (pivot) am (d)) ?_;refine wH rfl ?_;refine jI (ia (a) am ((d).toList)) ?_;refine jL (lA (a) am (d)) ?_;refine wH rfl ?_;refine jI (ia (a) am ((d).toList)) ?_;refine RG.opS rfl (aS (a) am ((d).toList) ((d)[pivot]!) (by simp only [vF,qL];omega) rfl (tk rfl) rfl rfl rfl rfl rfl (fun _=>rfl)) rfl ?_;refine wH rfl ?_;refine jI (ia (pivot) am (((d).toList.set (a) (d)[pivot]!))) ?_;refine RG.opS rfl (aS (pivot) am (((d).toList.set (a) (d)[pivot]!)) ((d)[a]!) (by simp only [vF,qL];omega) rfl (tk rfl) rfl rfl rfl rfl rfl (fun _=>rfl)) rfl ?_
 rw [<- bj,e0]
 rw [e0] at hm
 clear e0 hn
 refine jH ?_
 refine AW.loopL (ι:=Nat) (fun x=>[(0,.row 201 0 0 n),(1,.i .i64 ((a:Nat):Int)),(4,.fn 253 [.own 210 0 0] []),(12,.i .i64 ((x:Nat):Int)),(13,.i .i64 (((b-1):Nat):Int))]) (fun _=>gl q [210,201] (ioB l n (m))) (fun x=>(a<x/\x<=b)/\Go.Sort.scanUp (fun x=>ltI l L x m[a]!) m (b-1) x=I) (fun x=>(b-1)+1-x) ((a+1)) ⟨by omega,hI⟩ ⟨Rn.rowIs rfl rfl rfl,Rn.is rfl rfl,Rn.fnO rfl rfl rfl,Rn.is (congrArg (AV.i .i64) w1) rfl,Rn.is (congrArg (AV.i .i64) w2) rfl,trivial⟩ (ak rfl rfl rfl rfl rfl (rfl) (ah (by assumption))) fun x hx=>?_
 clear hI
 obtain⟨hx,hf⟩:=hx
 rw [lg] at hf
 refine jB ?_
 refine AW.cutT (ι:=Unit) (fun _=>[(0,.row 201 0 0 n),(1,.i .i64 ((a:Nat):Int)),(4,.fn 253 [.own 210 0 0] []),(12,.i .i64 ((x:Nat):Int)),(13,.i .i64 (((b-1):Nat):Int)),(47,.b (decide (x<=(b-1)) && (ltI l L m[x]! m[a]!)))]) (fun _=>gl q [210,201] (ioB l n (m))) (fun _=>True) ?_ fun _ _=>?_
 ·refine AW.draws aJ ?_
  by_cases g1:((x:Nat):Int)<=(((b-1):Nat):Int)
  ·refine RG.runO ae 0 [(34,.b true)] 400 rfl jD ?_
   refine wH rfl ?_;refine jI (ia (x) am ((m).toList)) ?_;refine jL (lA (x) am (m)) ?_
   refine wH rfl ?_;refine jI (ia (a) am ((m).toList)) ?_;refine jL (lA (a) am (m)) ?_
   refine wH rfl ?_
   refine RG.ownK [(210,210),(201,201)] [(210,210),(201,201)] 201 201 rfl (fun q=>bF l L hL n (m) (m[x]!) (m[a]!) q (ah (by assumption))) rfl rfl rfl rfl rfl rfl rfl rfl rfl rfl rfl rfl rfl ?_
   refine wH rfl ?_;refine jB ?_
   exact⟨(),trivial,⟨Rn.rowIs rfl rfl rfl,Rn.is rfl rfl,Rn.fnO rfl rfl rfl,Rn.is rfl rfl,Rn.is rfl rfl,Rn.is (congrArg AV.b (by rw [qE (show x<=(b-1) by omega),uE];rfl)) rfl,trivial⟩,ak rfl rfl rfl rfl rfl (rfl) (ah (by assumption))⟩
  ·refine RG.runO ae 0 [(34,.b false)] 400 rfl jD ?_
   refine jB ?_
   exact⟨(),trivial,⟨Rn.rowIs rfl rfl rfl,Rn.is rfl rfl,Rn.fnO rfl rfl rfl,Rn.is rfl rfl,Rn.is rfl rfl,Rn.is (congrArg AV.b (by rw [qC (show ¬x<=(b-1) by omega),uI])) rfl,trivial⟩,ak rfl rfl rfl rfl rfl (rfl) (ah (by assumption))⟩
 cases hb:(decide (x<=(b-1)) && (ltI l L m[x]! m[a]!))
 rotate_left
 ·rw [hb,cond_true] at hf
  have hle:x<=(b-1):=by
   rw [qQ,vM] at hb
   exact hb.1
  have w9:IntKind.i64.wrap (((x:Nat):Int)+Int.ofNat 1)=((x+1:Nat):Int):=by simp only [kA0,qH];omega
  refine AW.cond rfl (fun _=>?_) (fun h1=>by cases h1)
  refine jA ?_
  exact⟨x+1,⟨⟨by omega,hf⟩,by omega⟩,⟨Rn.rowIs rfl rfl rfl,Rn.is rfl rfl,Rn.fnO rfl rfl rfl,Rn.is (congrArg (AV.i .i64) w9) rfl,Rn.is rfl rfl,trivial⟩,ak rfl rfl rfl rfl rfl (rfl) (ah (by assumption))⟩
 rw [hb,cond_false] at hf
 clear hb
 obtain rfl:I=x:=hf.symm
 refine AW.cond rfl (fun h1=>by cases h1) (fun _=>?_)
 refine zE ?_
 refine AW.loopL (ι:=Nat) (fun x=>[(0,.row 201 0 0 n),(1,.i .i64 ((a:Nat):Int)),(4,.fn 253 [.own 210 0 0] []),(12,.i .i64 ((I:Nat):Int)),(13,.i .i64 ((x:Nat):Int))]) (fun _=>gl q [210,201] (ioB l n (m))) (fun x=>(a<=x/\x<=b-1)/\Go.Sort.scanDown (fun x=>!ltI l L x m[a]!) m I x=J) (fun x=>x) ((b-1)) ⟨by omega,hJ⟩ jQ (ak rfl rfl rfl rfl rfl (rfl) (ah (by assumption))) fun x hx=>?_
 clear hJ
 obtain⟨hy,hf⟩:=hx
 rw [iD _ _ (by omega)] at hf
 refine jB ?_
 refine AW.cutT (ι:=Unit) (fun _=>[(0,.row 201 0 0 n),(1,.i .i64 ((a:Nat):Int)),(4,.fn 253 [.own 210 0 0] []),(12,.i .i64 ((I:Nat):Int)),(13,.i .i64 ((x:Nat):Int)),(66,.b (decide (I<=x) && (!ltI l L m[x]! m[a]!)))]) (fun _=>gl q [210,201] (ioB l n (m))) (fun _=>True) ?_ fun _ _=>?_
 ·refine AW.draws aJ ?_
  by_cases g1:((I:Nat):Int)<=((x:Nat):Int)
  ·refine RG.runO ae 0 [(52,.b true)] 400 rfl jD ?_
   refine wH rfl ?_;refine jI (ia (x) am ((m).toList)) ?_;refine jL (lA (x) am (m)) ?_
   refine wH rfl ?_;refine jI (ia (a) am ((m).toList)) ?_;refine jL (lA (a) am (m)) ?_
   refine wH rfl ?_
   refine RG.ownK [(210,210),(201,201)] [(210,210),(201,201)] 201 201 rfl (fun q=>bF l L hL n (m) (m[x]!) (m[a]!) q (ah (by assumption))) rfl rfl rfl rfl rfl rfl rfl rfl rfl rfl rfl rfl rfl ?_
   refine wH rfl ?_;refine jB ?_
   exact⟨(),trivial,⟨Rn.rowIs rfl rfl rfl,Rn.is rfl rfl,Rn.fnO rfl rfl rfl,Rn.is rfl rfl,Rn.is rfl rfl,Rn.is (congrArg AV.b (by rw [qE (show I<=x by omega),uE];rfl)) rfl,trivial⟩,ak rfl rfl rfl rfl rfl (rfl) (ah (by assumption))⟩
  ·refine RG.runO ae 0 [(52,.b false)] 400 rfl jD ?_
   refine jB ?_
   exact⟨(),trivial,⟨Rn.rowIs rfl rfl rfl,Rn.is rfl rfl,Rn.fnO rfl rfl rfl,Rn.is rfl rfl,Rn.is rfl rfl,Rn.is (congrArg AV.b (by rw [qC (show ¬I<=x by omega),uI])) rfl,trivial⟩,ak rfl rfl rfl rfl rfl (rfl) (ah (by assumption))⟩
 cases hb:(decide (I<=x) && (!ltI l L m[x]! m[a]!))
 rotate_left
 ·rw [hb,cond_true] at hf
  have hle:I<=x:=by
   rw [qQ,vM] at hb
   exact hb.1
  have w9:IntKind.i64.wrap (((x:Nat):Int)-Int.ofNat 1)=((x-1:Nat):Int):=by simp only [kA0,qH];omega
  refine AW.cond rfl (fun _=>?_) (fun h1=>by cases h1)
  refine jA ?_
  exact⟨x-1,⟨⟨by omega,hf⟩,by omega⟩,⟨Rn.rowIs rfl rfl rfl,Rn.is rfl rfl,Rn.fnO rfl rfl rfl,Rn.is rfl rfl,Rn.is (congrArg (AV.i .i64) w9) rfl,trivial⟩,ak rfl rfl rfl rfl rfl (rfl) (ah (by assumption))⟩
 rw [hb,cond_false] at hf
 clear hb
 obtain rfl:J=x:=hf.symm
 refine AW.cond rfl (fun h1=>by cases h1) (fun _=>?_)
 refine zE ?_
 refine AW.cond rfl (fun h0=>?_) (fun h0=>?_)
 ·have h:I > J := by
   have:=of_decide_eq_true h0
   try simp only at this
   omega
  rw [if_pos h]
  refine zD ?_
  refine wH rfl ?_;refine jI (ia (a) am ((m).toList)) ?_;refine jL (lA (a) am (m)) ?_;refine wH rfl ?_;refine jI (ia (J) am ((m).toList)) ?_;refine jL (lA (J) am (m)) ?_;refine wH rfl ?_;refine jI (ia (J) am ((m).toList)) ?_;refine RG.opS rfl (aS (J) am ((m).toList) ((m)[a]!) (by simp only [vF,qL];omega) rfl (tk rfl) rfl rfl rfl rfl rfl (fun _=>rfl)) rfl ?_;refine wH rfl ?_;refine jI (ia (a) am (((m).toList.set (J) (m)[a]!))) ?_;refine RG.opS rfl (aS (a) am (((m).toList.set (J) (m)[a]!)) ((m)[J]!) (by simp only [vF,qL];omega) rfl (tk rfl) rfl rfl rfl rfl rfl (fun _=>rfl)) rfl ?_
  refine jH ?_
  exact AW.ret (ni rfl (Rm.is rfl rfl) (Rm.is rfl rfl) (ak rfl rfl rfl rfl rfl (by rw [bj]) (ah ((bg _ _ _).trans hm))))
 have h:¬I>J:=by
  have:=of_decide_eq_false h0
  try simp only at this
  omega
 rw [if_neg h]
 obtain⟨R,hR⟩:∃R,Go.Sort.partLoop (ltI l L) a (I+1) (J-1) (swp m I J)=R:=⟨_,rfl⟩
 rw [hR]
 have wI:IntKind.i64.wrap (((I:Nat):Int)+Int.ofNat 1)=((I+1:Nat):Int):=by simp only [kA0,qH];omega
 have wJ:IntKind.i64.wrap (((J:Nat):Int)-Int.ofNat 1)=((J-1:Nat):Int):=by simp only [kA0,qH];omega
 have hm2:=(bg m I J).trans hm
 refine zD ?_
 refine wH rfl ?_;refine jI (ia (J) am ((m).toList)) ?_;refine jL (lA (J) am (m)) ?_;refine wH rfl ?_;refine jI (ia (I) am ((m).toList)) ?_;refine jL (lA (I) am (m)) ?_;refine wH rfl ?_;refine jI (ia (I) am ((m).toList)) ?_;refine RG.opS rfl (aS (I) am ((m).toList) ((m)[J]!) (by simp only [vF,qL];omega) rfl (tk rfl) rfl rfl rfl rfl rfl (fun _=>rfl)) rfl ?_;refine wH rfl ?_;refine jI (ia (J) am (((m).toList.set (I) (m)[J]!))) ?_;refine RG.opS rfl (aS (J) am (((m).toList.set (I) (m)[J]!)) ((m)[I]!) (by simp only [vF,qL];omega) rfl (tk rfl) rfl rfl rfl rfl rfl (fun _=>rfl)) rfl ?_
 refine jH ?_
 refine AW.loopL (ι:=(Nat × Nat) × Array (Fin (L+1))) (fun x=>[(0,.row 201 0 0 n),(1,.i .i64 ((a:Nat):Int)),(4,.fn 253 [.own 210 0 0] []),(12,.i .i64 ((x.1.1:Nat):Int)),(13,.i .i64 ((x.1.2:Nat):Int))]) (fun x=>gl q [210,201] (ioB l n (x.2))) (fun x=>(a<x.1.1/\x.1.1<=x.1.2+2/\a<=x.1.2/\x.1.2<n/\x.2.size=n)/\Go.Sort.partLoop (ltI l L) a x.1.1 x.1.2 x.2=R) (fun x=>x.1.2+1-x.1.1) ((I+1,J-1),swp m I J) ⟨⟨by show a<I+1;omega,by show I+1<=J-1+2;omega,by show a<=J-1;omega,by show J-1<n;omega,hm2⟩,hR⟩ ⟨Rn.rowTIs rfl rfl rfl (ah (hm2)),Rn.is rfl rfl,Rn.fnO rfl rfl rfl,Rn.is (congrArg (AV.i .i64) wI) rfl,Rn.is (congrArg (AV.i .i64) wJ) rfl,trivial⟩ (ak rfl rfl rfl rfl rfl (by rw [bj]) (ah (by assumption))) fun x hx=>?_
 clear hR hm2 hm wI wJ
 obtain⟨⟨i,j⟩,m⟩:=x
 obtain⟨⟨hi,hij,haj,hj,hm⟩,hG⟩:=hx
 simp only at hi hij haj hj hm hG
 obtain⟨I,hI⟩:∃I,Go.Sort.scanUp (fun x=>ltI l L x m[a]!) m j i=I:=⟨_,rfl⟩
 obtain⟨J,hJ⟩:∃J,Go.Sort.scanDown (fun x=>!ltI l L x m[a]!) m I j=J:=⟨_,rfl⟩
 rw [D9 hI hJ] at hG
 refine jB ?_
 refine AW.loopL (ι:=Nat) (fun x=>[(0,.row 201 0 0 n),(1,.i .i64 ((a:Nat):Int)),(4,.fn 253 [.own 210 0 0] []),(12,.i .i64 ((x:Nat):Int)),(13,.i .i64 ((j:Nat):Int))]) (fun _=>gl q [210,201] (ioB l n (m))) (fun x=>(i<=x/\x<=j+2)/\Go.Sort.scanUp (fun x=>ltI l L x m[a]!) m j x=I) (fun x=>j+1-x) (i) ⟨by omega,hI⟩ jQ (ak rfl rfl rfl rfl rfl (rfl) (ah (by assumption))) fun x hx=>?_
 clear hI
 obtain⟨hx,hf⟩:=hx
 rw [lg] at hf
 refine jB ?_
 refine AW.cutT (ι:=Unit) (fun _=>[(0,.row 201 0 0 n),(1,.i .i64 ((a:Nat):Int)),(4,.fn 253 [.own 210 0 0] []),(12,.i .i64 ((x:Nat):Int)),(13,.i .i64 ((j:Nat):Int)),(120,.b (decide (x<=j) && (ltI l L m[x]! m[a]!)))]) (fun _=>gl q [210,201] (ioB l n (m))) (fun _=>True) ?_ fun _ _=>?_
 ·refine AW.draws aJ ?_
  by_cases g1:((x:Nat):Int)<=((j:Nat):Int)
  ·refine RG.runO ae 0 [(107,.b true)] 400 rfl jD ?_
   refine wH rfl ?_;refine jI (ia (x) am ((m).toList)) ?_;refine jL (lA (x) am (m)) ?_
   refine wH rfl ?_;refine jI (ia (a) am ((m).toList)) ?_;refine jL (lA (a) am (m)) ?_
   refine wH rfl ?_
   refine RG.ownK [(210,210),(201,201)] [(210,210),(201,201)] 201 201 rfl (fun q=>bF l L hL n (m) (m[x]!) (m[a]!) q (ah (by assumption))) rfl rfl rfl rfl rfl rfl rfl rfl rfl rfl rfl rfl rfl ?_
   refine wH rfl ?_;refine jB ?_
   exact⟨(),trivial,⟨Rn.rowIs rfl rfl rfl,Rn.is rfl rfl,Rn.fnO rfl rfl rfl,Rn.is rfl rfl,Rn.is rfl rfl,Rn.is (congrArg AV.b (by rw [qE (show x<=j by omega),uE];rfl)) rfl,trivial⟩,ak rfl rfl rfl rfl rfl (rfl) (ah (by assumption))⟩
  ·refine RG.runO ae 0 [(107,.b false)] 400 rfl jD ?_
   refine jB ?_
   exact⟨(),trivial,⟨Rn.rowIs rfl rfl rfl,Rn.is rfl rfl,Rn.fnO rfl rfl rfl,Rn.is rfl rfl,Rn.is rfl rfl,Rn.is (congrArg AV.b (by rw [qC (show ¬x<=j by omega),uI])) rfl,trivial⟩,ak rfl rfl rfl rfl rfl (rfl) (ah (by assumption))⟩
 cases hb:(decide (x<=j) && (ltI l L m[x]! m[a]!))
 rotate_left
 ·rw [hb,cond_true] at hf
  have hle:x<=j:=by
   rw [qQ,vM] at hb
   exact hb.1
  have w9:IntKind.i64.wrap (((x:Nat):Int)+Int.ofNat 1)=((x+1:Nat):Int):=by simp only [kA0,qH];omega
  refine AW.cond rfl (fun _=>?_) (fun h1=>by cases h1)
  refine jA ?_
  exact⟨x+1,⟨⟨by omega,hf⟩,by omega⟩,⟨Rn.rowIs rfl rfl rfl,Rn.is rfl rfl,Rn.fnO rfl rfl rfl,Rn.is (congrArg (AV.i .i64) w9) rfl,Rn.is rfl rfl,trivial⟩,ak rfl rfl rfl rfl rfl (rfl) (ah (by assumption))⟩
 rw [hb,cond_false] at hf
 clear hb
 obtain rfl:I=x:=hf.symm
 refine AW.cond rfl (fun h1=>by cases h1) (fun _=>?_)
 refine zE ?_
 refine AW.loopL (ι:=Nat) (fun x=>[(0,.row 201 0 0 n),(1,.i .i64 ((a:Nat):Int)),(4,.fn 253 [.own 210 0 0] []),(12,.i .i64 ((I:Nat):Int)),(13,.i .i64 ((x:Nat):Int))]) (fun _=>gl q [210,201] (ioB l n (m))) (fun x=>(a<=x/\x<=j)/\Go.Sort.scanDown (fun x=>!ltI l L x m[a]!) m I x=J) (fun x=>x) (j) ⟨by omega,hJ⟩ jQ (ak rfl rfl rfl rfl rfl (rfl) (ah (by assumption))) fun x hx=>?_
 clear hJ
 obtain⟨hy,hf⟩:=hx
 rw [iD _ _ (by omega)] at hf
 refine jB ?_
 refine AW.cutT (ι:=Unit) (fun _=>[(0,.row 201 0 0 n),(1,.i .i64 ((a:Nat):Int)),(4,.fn 253 [.own 210 0 0] []),(12,.i .i64 ((I:Nat):Int)),(13,.i .i64 ((x:Nat):Int)),(139,.b (decide (I<=x) && (!ltI l L m[x]! m[a]!)))]) (fun _=>gl q [210,201] (ioB l n (m))) (fun _=>True) ?_ fun _ _=>?_
 ·refine AW.draws aJ ?_
  by_cases g1:((I:Nat):Int)<=((x:Nat):Int)
  ·refine RG.runO ae 0 [(125,.b true)] 400 rfl jD ?_
   refine wH rfl ?_;refine jI (ia (x) am ((m).toList)) ?_;refine jL (lA (x) am (m)) ?_
   refine wH rfl ?_;refine jI (ia (a) am ((m).toList)) ?_;refine jL (lA (a) am (m)) ?_
   refine wH rfl ?_
   refine RG.ownK [(210,210),(201,201)] [(210,210),(201,201)] 201 201 rfl (fun q=>bF l L hL n (m) (m[x]!) (m[a]!) q (ah (by assumption))) rfl rfl rfl rfl rfl rfl rfl rfl rfl rfl rfl rfl rfl ?_
   refine wH rfl ?_;refine jB ?_
   exact⟨(),trivial,⟨Rn.rowIs rfl rfl rfl,Rn.is rfl rfl,Rn.fnO rfl rfl rfl,Rn.is rfl rfl,Rn.is rfl rfl,Rn.is (congrArg AV.b (by rw [qE (show I<=x by omega),uE];rfl)) rfl,trivial⟩,ak rfl rfl rfl rfl rfl (rfl) (ah (by assumption))⟩
  ·refine RG.runO ae 0 [(125,.b false)] 400 rfl jD ?_
   refine jB ?_
   exact⟨(),trivial,⟨Rn.rowIs rfl rfl rfl,Rn.is rfl rfl,Rn.fnO rfl rfl rfl,Rn.is rfl rfl,Rn.is rfl rfl,Rn.is (congrArg AV.b (by rw [qC (show ¬I<=x by omega),uI])) rfl,trivial⟩,ak rfl rfl rfl rfl rfl (rfl) (ah (by assumption))⟩
 cases hb:(decide (I<=x) && (!ltI l L m[x]! m[a]!))
 rotate_left
 ·rw [hb,cond_true] at hf
  have hle:I<=x:=by
   rw [qQ,vM] at hb
   exact hb.1
  have w9:IntKind.i64.wrap (((x:Nat):Int)-Int.ofNat 1)=((x-1:Nat):Int):=by simp only [kA0,qH];omega
  refine AW.cond rfl (fun _=>?_) (fun h1=>by cases h1)
  refine jA ?_
  exact⟨x-1,⟨⟨by omega,hf⟩,by omega⟩,⟨Rn.rowIs rfl rfl rfl,Rn.is rfl rfl,Rn.fnO rfl rfl rfl,Rn.is rfl rfl,Rn.is (congrArg (AV.i .i64) w9) rfl,trivial⟩,ak rfl rfl rfl rfl rfl (rfl) (ah (by assumption))⟩
 rw [hb,cond_false] at hf
 clear hb
 obtain rfl:J=x:=hf.symm
 refine AW.cond rfl (fun h1=>by cases h1) (fun _=>?_)
 refine zE ?_
 refine AW.cond rfl (fun h0=>?_) (fun h0=>?_)
 ·have h:I > J := by
   have:=of_decide_eq_true h0
   try simp only at this
   omega
  rw [if_pos h] at hG
  subst hG
  refine jA ?_
  refine AW.exit ?_;refine Eq.mpr (if_neg (by decide)) ?_;refine Eq.mpr (if_pos rfl) ?_;refine jA ?_
  refine wH rfl ?_;refine jI (ia (a) am ((m).toList)) ?_;refine jL (lA (a) am (m)) ?_;refine wH rfl ?_;refine jI (ia (J) am ((m).toList)) ?_;refine jL (lA (J) am (m)) ?_;refine wH rfl ?_;refine jI (ia (J) am ((m).toList)) ?_;refine RG.opS rfl (aS (J) am ((m).toList) ((m)[a]!) (by simp only [vF,qL];omega) rfl (tk rfl) rfl rfl rfl rfl rfl (fun _=>rfl)) rfl ?_;refine wH rfl ?_;refine jI (ia (a) am (((m).toList.set (J) (m)[a]!))) ?_;refine RG.opS rfl (aS (a) am (((m).toList.set (J) (m)[a]!)) ((m)[J]!) (by simp only [vF,qL];omega) rfl (tk rfl) rfl rfl rfl rfl rfl (fun _=>rfl)) rfl ?_
  refine jH ?_
  exact AW.ret (ni rfl (Rm.is rfl rfl) (Rm.is rfl rfl) (ak rfl rfl rfl rfl rfl (by rw [bj]) (ah ((bg _ _ _).trans hm))))
 have h:¬I>J:=by
  have:=of_decide_eq_false h0
  try simp only at this
  omega
 rw [if_neg h] at hG
 have wI:IntKind.i64.wrap (((I:Nat):Int)+Int.ofNat 1)=((I+1:Nat):Int):=by simp only [kA0,qH];omega
 have wJ:IntKind.i64.wrap (((J:Nat):Int)-Int.ofNat 1)=((J-1:Nat):Int):=by simp only [kA0,qH];omega
 have hm2:=(bg m I J).trans hm
 refine zD ?_
 refine wH rfl ?_;refine jI (ia (J) am ((m).toList)) ?_;refine jL (lA (J) am (m)) ?_;refine wH rfl ?_;refine jI (ia (I) am ((m).toList)) ?_;refine jL (lA (I) am (m)) ?_;refine wH rfl ?_;refine jI (ia (I) am ((m).toList)) ?_;refine RG.opS rfl (aS (I) am ((m).toList) ((m)[J]!) (by simp only [vF,qL];omega) rfl (tk rfl) rfl rfl rfl rfl rfl (fun _=>rfl)) rfl ?_;refine wH rfl ?_;refine jI (ia (J) am (((m).toList.set (I) (m)[J]!))) ?_;refine RG.opS rfl (aS (J) am (((m).toList.set (I) (m)[J]!)) ((m)[I]!) (by simp only [vF,qL];omega) rfl (tk rfl) rfl rfl rfl rfl rfl (fun _=>rfl)) rfl ?_
 refine jH ?_
 exact⟨((I+1,J-1),swp m I J),⟨⟨⟨by show a<I+1;omega,by show I+1<=J-1+2;omega,by show a<=J-1;omega,by show J-1<n;omega,hm2⟩,hG⟩,by show J-1+1-(I+1)<j+1-i;omega⟩,⟨Rn.rowTIs rfl rfl rfl (ah (hm2)),Rn.is rfl rfl,Rn.fnO rfl rfl rfl,Rn.is (congrArg (AV.i .i64) wI) rfl,Rn.is (congrArg (AV.i .i64) wJ) rfl,trivial⟩,ak rfl rfl rfl rfl rfl (by rw [bj]) (ah (by assumption))⟩
theorem BK (l:List Rl)(L:Nat)(hL:l.length=L+1)(n:Nat)(hl:n<=100000)(d:Array (Fin (L+1)))(hn:d.size=n)(a b pivot:Nat)(ha:a<=pivot)(hp:pivot<b)(hb:b<=n)(q:Nat->Option (Nat × Nat)):aj Tryz.prog 265 [.row 201 0 0 n,.i .i64 ((a:Nat):Int),.i .i64 ((b:Nat):Int),.i .i64 ((pivot:Nat):Int),.fn 253 [.own 210 0 0] []] (gl q [210,201] (ioB l n (d))) (.i .i64 (((Go.Sort.partitionEqual (ltI l L) d a b pivot).1:Nat):Int)) (gl q [210,201] (ioB l n ((Go.Sort.partitionEqual (ltI l L) d a b pivot).2))):=by
 refine aj.of_body Tryz.func265 rfl (by kernel_rfl) rfl rfl ?_
 have hm:(swp d a pivot).size=n:=(bg _ _ _).trans hn
 obtain⟨R,hR⟩:∃R,Go.Sort.partitionEqual (ltI l L) d a b pivot=R:=⟨_,rfl⟩
 rw [hR]
 rw [Go.Sort.partitionEqual] at hR
 have w1:IntKind.i64.wrap (((a:Nat):Int)+Int.ofNat 1)=((a+1:Nat):Int):=by simp only [kA0,qH];omega
 have w2:IntKind.i64.wrap (((b:Nat):Int)-Int.ofNat 1)=((b-1:Nat):Int):=by simp only [kA0,qH];omega
 refine zB ?_
 refine wH rfl ?_;refine jB ?_
 refine AW.draws aJ ?_
 refine wH rfl ?_;refine jI (ia (pivot) am ((d).toList)) ?_;refine jL (lA (pivot) am (d)) ?_;refine wH rfl ?_;refine jI (ia (a) am ((d).toList)) ?_;refine jL (lA (a) am (d)) ?_;refine wH rfl ?_;refine jI (ia (a) am ((d).toList)) ?_;refine RG.opS rfl (aS (a) am ((d).toList) ((d)[pivot]!) (by simp only [vF,qL];omega) rfl (tk rfl) rfl rfl rfl rfl rfl (fun _=>rfl)) rfl ?_;refine wH rfl ?_;refine jI (ia (pivot) am (((d).toList.set (a) (d)[pivot]!))) ?_;refine RG.opS rfl (aS (pivot) am (((d).toList.set (a) (d)[pivot]!)) ((d)[a]!) (by simp only [vF,qL];omega) rfl (tk rfl) rfl rfl rfl rfl rfl (fun _=>rfl)) rfl ?_
 rw [<- bj]
 refine jH ?_
 refine AW.loopL (ι:=(Nat × Nat) × Array (Fin (L+1))) (fun x=>[(0,.row 201 0 0 n),(1,.i .i64 ((a:Nat):Int)),(4,.fn 253 [.own 210 0 0] []),(11,.i .i64 ((x.1.1:Nat):Int)),(12,.i .i64 ((x.1.2:Nat):Int))]) (fun x=>gl q [210,201] (ioB l n (x.2))) (fun x=>(a<x.1.1/\x.1.1<=x.1.2+2/\a<=x.1.2/\x.1.2<n/\x.2.size=n)/\Go.Sort.partEqLoop (ltI l L) a x.1.1 x.1.2 x.2=R) (fun x=>x.1.2+1-x.1.1) ((a+1,b-1),swp d a pivot) ⟨⟨by show a<a+1;omega,by show a+1<=b-1+2;omega,by show a<=b-1;omega,by show b-1<n;omega,hm⟩,hR⟩ ⟨Rn.rowIs rfl rfl rfl,Rn.is rfl rfl,Rn.fnO rfl rfl rfl,Rn.is (congrArg (AV.i .i64) w1) rfl,Rn.is (congrArg (AV.i .i64) w2) rfl,trivial⟩ (ak rfl rfl rfl rfl rfl (rfl) (ah (by assumption))) fun x hx=>?_
 clear hR hm hn w1 w2
 obtain⟨⟨i,j⟩,m⟩:=x
 obtain⟨⟨hi,hij,haj,hj,hm⟩,hG⟩:=hx
 simp only at hi hij haj hj hm hG
 obtain⟨I,hI⟩:∃I,Go.Sort.scanUp (fun x=>!ltI l L m[a]! x) m j i=I:=⟨_,rfl⟩
 obtain⟨J,hJ⟩:∃J,Go.Sort.scanDown (fun x=>ltI l L m[a]! x) m I j=J:=⟨_,rfl⟩
 rw [yD hI hJ] at hG
 refine jB ?_
 refine AW.loopL (ι:=Nat) (fun x=>[(0,.row 201 0 0 n),(1,.i .i64 ((a:Nat):Int)),(4,.fn 253 [.own 210 0 0] []),(11,.i .i64 ((x:Nat):Int)),(12,.i .i64 ((j:Nat):Int))]) (fun _=>gl q [210,201] (ioB l n (m))) (fun x=>(i<=x/\x<=j+2)/\Go.Sort.scanUp (fun x=>!ltI l L m[a]! x) m j x=I) (fun x=>j+1-x) (i) ⟨by omega,hI⟩ jQ (ak rfl rfl rfl rfl rfl (rfl) (ah (by assumption))) fun x hx=>?_
 clear hI
 obtain⟨hx,hf⟩:=hx
 rw [lg] at hf
 refine jB ?_
 refine AW.cutT (ι:=Unit) (fun _=>[(0,.row 201 0 0 n),(1,.i .i64 ((a:Nat):Int)),(4,.fn 253 [.own 210 0 0] []),(11,.i .i64 ((x:Nat):Int)),(12,.i .i64 ((j:Nat):Int)),(47,.b (decide (x<=j) && (!ltI l L m[a]! m[x]!)))]) (fun _=>gl q [210,201] (ioB l n (m))) (fun _=>True) ?_ fun _ _=>?_
 ·refine AW.draws aJ ?_
  by_cases g1:((x:Nat):Int)<=((j:Nat):Int)
  ·refine RG.runO ae 0 [(33,.b true)] 400 rfl jD ?_
   refine wH rfl ?_;refine jI (ia (a) am ((m).toList)) ?_;refine jL (lA (a) am (m)) ?_
   refine wH rfl ?_;refine jI (ia (x) am ((m).toList)) ?_;refine jL (lA (x) am (m)) ?_
   refine wH rfl ?_
   refine RG.ownK [(210,210),(201,201)] [(210,210),(201,201)] 201 201 rfl (fun q=>bF l L hL n (m) (m[a]!) (m[x]!) q (ah (by assumption))) rfl rfl rfl rfl rfl rfl rfl rfl rfl rfl rfl rfl rfl ?_
   refine wH rfl ?_;refine jB ?_
   exact⟨(),trivial,⟨Rn.rowIs rfl rfl rfl,Rn.is rfl rfl,Rn.fnO rfl rfl rfl,Rn.is rfl rfl,Rn.is rfl rfl,Rn.is (congrArg AV.b (by rw [qE (show x<=j by omega),uE];rfl)) rfl,trivial⟩,ak rfl rfl rfl rfl rfl (rfl) (ah (by assumption))⟩
  ·refine RG.runO ae 0 [(33,.b false)] 400 rfl jD ?_
   refine jB ?_
   exact⟨(),trivial,⟨Rn.rowIs rfl rfl rfl,Rn.is rfl rfl,Rn.fnO rfl rfl rfl,Rn.is rfl rfl,Rn.is rfl rfl,Rn.is (congrArg AV.b (by rw [qC (show ¬x<=j by omega),uI])) rfl,trivial⟩,ak rfl rfl rfl rfl rfl (rfl) (ah (by assumption))⟩
 cases hb:(decide (x<=j) && (!ltI l L m[a]! m[x]!))
 rotate_left
 ·rw [hb,cond_true] at hf
  have hle:x<=j:=by
   rw [qQ,vM] at hb
   exact hb.1
  have w9:IntKind.i64.wrap (((x:Nat):Int)+Int.ofNat 1)=((x+1:Nat):Int):=by simp only [kA0,qH];omega
  refine AW.cond rfl (fun _=>?_) (fun h1=>by cases h1)
  refine jA ?_
  exact⟨x+1,⟨⟨by omega,hf⟩,by omega⟩,⟨Rn.rowIs rfl rfl rfl,Rn.is rfl rfl,Rn.fnO rfl rfl rfl,Rn.is (congrArg (AV.i .i64) w9) rfl,Rn.is rfl rfl,trivial⟩,ak rfl rfl rfl rfl rfl (rfl) (ah (by assumption))⟩
 rw [hb,cond_false] at hf
 clear hb
 obtain rfl:I=x:=hf.symm
 refine AW.cond rfl (fun h1=>by cases h1) (fun _=>?_)
 refine zE ?_
 refine AW.loopL (ι:=Nat) (fun x=>[(0,.row 201 0 0 n),(1,.i .i64 ((a:Nat):Int)),(4,.fn 253 [.own 210 0 0] []),(11,.i .i64 ((I:Nat):Int)),(12,.i .i64 ((x:Nat):Int))]) (fun _=>gl q [210,201] (ioB l n (m))) (fun x=>(a<=x/\x<=j)/\Go.Sort.scanDown (fun x=>ltI l L m[a]! x) m I x=J) (fun x=>x) (j) ⟨by omega,hJ⟩ jQ (ak rfl rfl rfl rfl rfl (rfl) (ah (by assumption))) fun x hx=>?_
 clear hJ
 obtain⟨hy,hf⟩:=hx
 rw [iD _ _ (by omega)] at hf
 refine jB ?_
 refine AW.cutT (ι:=Unit) (fun _=>[(0,.row 201 0 0 n),(1,.i .i64 ((a:Nat):Int)),(4,.fn 253 [.own 210 0 0] []),(11,.i .i64 ((I:Nat):Int)),(12,.i .i64 ((x:Nat):Int)),(65,.b (decide (I<=x) && (ltI l L m[a]! m[x]!)))]) (fun _=>gl q [210,201] (ioB l n (m))) (fun _=>True) ?_ fun _ _=>?_
 ·refine AW.draws aJ ?_
  by_cases g1:((I:Nat):Int)<=((x:Nat):Int)
  ·refine RG.runO ae 0 [(52,.b true)] 400 rfl jD ?_
   refine wH rfl ?_;refine jI (ia (a) am ((m).toList)) ?_;refine jL (lA (a) am (m)) ?_
   refine wH rfl ?_;refine jI (ia (x) am ((m).toList)) ?_;refine jL (lA (x) am (m)) ?_
   refine wH rfl ?_
   refine RG.ownK [(210,210),(201,201)] [(210,210),(201,201)] 201 201 rfl (fun q=>bF l L hL n (m) (m[a]!) (m[x]!) q (ah (by assumption))) rfl rfl rfl rfl rfl rfl rfl rfl rfl rfl rfl rfl rfl ?_
   refine wH rfl ?_;refine jB ?_
   exact⟨(),trivial,⟨Rn.rowIs rfl rfl rfl,Rn.is rfl rfl,Rn.fnO rfl rfl rfl,Rn.is rfl rfl,Rn.is rfl rfl,Rn.is (congrArg AV.b (by rw [qE (show I<=x by omega),uE];rfl)) rfl,trivial⟩,ak rfl rfl rfl rfl rfl (rfl) (ah (by assumption))⟩
  ·refine RG.runO ae 0 [(52,.b false)] 400 rfl jD ?_
   refine jB ?_
   exact⟨(),trivial,⟨Rn.rowIs rfl rfl rfl,Rn.is rfl rfl,Rn.fnO rfl rfl rfl,Rn.is rfl rfl,Rn.is rfl rfl,Rn.is (congrArg AV.b (by rw [qC (show ¬I<=x by omega),uI])) rfl,trivial⟩,ak rfl rfl rfl rfl rfl (rfl) (ah (by assumption))⟩
 cases hb:(decide (I<=x) && (ltI l L m[a]! m[x]!))
 rotate_left
 ·rw [hb,cond_true] at hf
  have hle:I<=x:=by
   rw [qQ,vM] at hb
   exact hb.1
  have w9:IntKind.i64.wrap (((x:Nat):Int)-Int.ofNat 1)=((x-1:Nat):Int):=by simp only [kA0,qH];omega
  refine AW.cond rfl (fun _=>?_) (fun h1=>by cases h1)
  refine jA ?_
  exact⟨x-1,⟨⟨by omega,hf⟩,by omega⟩,⟨Rn.rowIs rfl rfl rfl,Rn.is rfl rfl,Rn.fnO rfl rfl rfl,Rn.is rfl rfl,Rn.is (congrArg (AV.i .i64) w9) rfl,trivial⟩,ak rfl rfl rfl rfl rfl (rfl) (ah (by assumption))⟩
 rw [hb,cond_false] at hf
 clear hb
 obtain rfl:J=x:=hf.symm
 refine AW.cond rfl (fun h1=>by cases h1) (fun _=>?_)
 refine zE ?_
 refine AW.cond rfl (fun h0=>?_) (fun h0=>?_)
 ·have h:I > J := by
   have:=of_decide_eq_true h0
   try simp only at this
   omega
  rw [if_pos h] at hG
  subst hG
  refine jA ?_
  refine AW.exit ?_;refine Eq.mpr (if_neg (by decide)) ?_;refine Eq.mpr (if_pos rfl) ?_;refine jA ?_
  exact AW.ret (dW rfl (Rm.is rfl rfl) (ak rfl rfl rfl rfl rfl (rfl) (ah (by assumption))))
 have h:¬I>J:=by
  have:=of_decide_eq_false h0
  try simp only at this
  omega
 rw [if_neg h] at hG
 have wI:IntKind.i64.wrap (((I:Nat):Int)+Int.ofNat 1)=((I+1:Nat):Int):=by simp only [kA0,qH];omega
 have wJ:IntKind.i64.wrap (((J:Nat):Int)-Int.ofNat 1)=((J-1:Nat):Int):=by simp only [kA0,qH];omega
 have hm2:=(bg m I J).trans hm
 refine zD ?_
 refine wH rfl ?_;refine jI (ia (J) am ((m).toList)) ?_;refine jL (lA (J) am (m)) ?_;refine wH rfl ?_;refine jI (ia (I) am ((m).toList)) ?_;refine jL (lA (I) am (m)) ?_;refine wH rfl ?_;refine jI (ia (I) am ((m).toList)) ?_;refine RG.opS rfl (aS (I) am ((m).toList) ((m)[J]!) (by simp only [vF,qL];omega) rfl (tk rfl) rfl rfl rfl rfl rfl (fun _=>rfl)) rfl ?_;refine wH rfl ?_;refine jI (ia (J) am (((m).toList.set (I) (m)[J]!))) ?_;refine RG.opS rfl (aS (J) am (((m).toList.set (I) (m)[J]!)) ((m)[I]!) (by simp only [vF,qL];omega) rfl (tk rfl) rfl rfl rfl rfl rfl (fun _=>rfl)) rfl ?_
 refine jH ?_
 exact⟨((I+1,J-1),swp m I J),⟨⟨⟨by show a<I+1;omega,by show I+1<=J-1+2;omega,by show a<=J-1;omega,by show J-1<n;omega,hm2⟩,hG⟩,by show J-1+1-(I+1)<j+1-i;omega⟩,⟨Rn.rowTIs rfl rfl rfl (ah (hm2)),Rn.is rfl rfl,Rn.fnO rfl rfl rfl,Rn.is (congrArg (AV.i .i64) wI) rfl,Rn.is (congrArg (AV.i .i64) wJ) rfl,trivial⟩,ak rfl rfl rfl rfl rfl (by rw [bj]) (ah (by assumption))⟩
end Go.Proofs.YtdidjpohnopihaaGreat.Sm
end
section
namespace Go.Proofs.YtdidjpohnopihaaGreat.Sm
open Go.RowKit
open Go.Sort (swp)
theorem AW.cutB {P:Program}{N:Nat}{Q:Exit->St->Prop}{s:St}{x y:Code}{id:Nat}{ι:Type}(T:ι->List (Nat × AV))(B:ι->List (Nat × SB))(J:ι->Prop)(h1:AW P N x (hZ (fun s'=>∃i,J i/\WkT s' (lkB (B i)) (T i)/\WkB s' (lkB (B i)) (B i)) (jS id (hZ (AW P N y Q) Q))) s)
  (h2:∀i,J i->AW P N y Q (stL (T i) (B i))):AW P N x (jS id (hZ (AW P N y Q) Q)) s :=
 h1.mono fun e s' hq=>by
  cases e with
  |normal=>
   obtain⟨i,hJ,ht,hB⟩:=hq
   exact AW.only _ _ ht hB (h2 i hJ)
  |_=>exact hq
section
variable {α:Type} [Inhabited α] {lt:α -> α -> Bool}
theorem oE (d:Array α)(b i:Nat):Go.Sort.scanSorted lt d b i=bif (decide (i<b) && !lt d[i]! d[i-1]!) then Go.Sort.scanSorted lt d b (i+1) else i:=by
 rw [Go.Sort.scanSorted]
 cases (decide (i<b) && !lt d[i]! d[i-1]!)
 ·rw [if_neg (by simp)];rfl
 ·rw [if_pos rfl];rfl
theorem kC:∀(j:Nat) (d:Array α),(Go.Sort.shiftDown lt j d).size=d.size
 |0,d=>rfl
 |j+1,d=>by
  rw [Go.Sort.shiftDown]
  split
  ·rfl
  ·rw [kC j,bg]
theorem nK (b:Nat):∀(f j:Nat) (d:Array α),b-j<=f->(Go.Sort.shiftUp lt b j d).size=d.size
 |0,j,d,hf=>by rw [Go.Sort.shiftUp,if_neg (by omega)]
 |f+1,j,d,hf=>by
  rw [Go.Sort.shiftUp]
  split
  ·split
   ·rfl
   ·rw [nK b f _ _ (by omega),bg]
  ·rfl
def pi1 (lt:α->α->Bool)(a i:Nat)(d:Array α):Array α:=bif decide (i-a>=2) then Go.Sort.shiftDown lt (i-1) d else d
def pi2 (lt:α->α->Bool)(b i:Nat)(d:Array α):Array α:=bif decide (b-i>=2) then Go.Sort.shiftUp lt b (i+1) d else d
theorem FB {a i:Nat}{d:Array α}:(pi1 lt a i d).size=d.size:=by
 rw [pi1]
 cases decide (i-a>=2)
 ·rfl
 ·exact kC _ _
theorem GN {b i:Nat}{d:Array α}:(pi2 lt b i d).size=d.size:=by
 rw [pi2]
 cases decide (b-i>=2)
 ·rfl
 ·exact nK _ _ _ _ (qJ _)
theorem Ig {a b s i I:Nat}{d:Array α}(hI:Go.Sort.scanSorted lt d b i=I):Go.Sort.partialIns lt a b (s+1) i d=if I=b then (d,true) else if b-a<50 then (d,false) else Go.Sort.partialIns lt a b s I (pi2 lt b I (pi1 lt a I (swp d I (I-1)))):=by
 subst hI
 rw [Go.Sort.partialIns]
 simp only [pi1,pi2,Bool.cond_decide]
end
theorem FS (l:List Rl)(L:Nat)(hL:l.length=L+1)(n:Nat)(hl:n<=100000)(d:Array (Fin (L+1)))(hn:d.size=n)(a b:Nat)(ha:a<b)(hb:b<=n)(q:Nat->Option (Nat × Nat)):aj Tryz.prog 264 [.row 201 0 0 n,.i .i64 ((a:Nat):Int),.i .i64 ((b:Nat):Int),.fn 253 [.own 210 0 0] []] (gl q [210,201] (ioB l n (d))) (.b (Go.Sort.partialInsertionSort (ltI l L) d a b).2) (gl q [210,201] (ioB l n ((Go.Sort.partialInsertionSort (ltI l L) d a b).1))):=by
 refine aj.of_body Tryz.func264 rfl (by kernel_rfl) rfl rfl ?_
 obtain⟨R,hR⟩:∃R,Go.Sort.partialInsertionSort (ltI l L) d a b=R:=⟨_,rfl⟩
 rw [hR]
 rw [Go.Sort.partialInsertionSort] at hR
 have w1:IntKind.i64.wrap (((a:Nat):Int)+Int.ofNat 1)=((a+1:Nat):Int):=by simp only [kA0,qH];omega
 refine jA ?_
 refine AW.loopL (ι:=(Nat × Nat) × Array (Fin (L+1))) (fun x=>[(0,.row 201 0 0 n),(1,.i .i64 ((a:Nat):Int)),(2,.i .i64 ((b:Nat):Int)),(3,.fn 253 [.own 210 0 0] []),(9,.i .i64 ((x.1.1:Nat):Int)),(10,.i .i64 ((x.1.2:Nat):Int))]) (fun x=>gl q [210,201] (ioB l n (x.2))) (fun x=>(a<x.1.1/\x.1.1<=b/\x.1.2<=5/\x.2.size=n)/\Go.Sort.partialIns (ltI l L) a b (5-x.1.2) x.1.1 x.2=R) (fun x=>5-x.1.2) ((a+1,0),d) ⟨⟨by show a<a+1;omega,by show a+1<=b;omega,by show 0<=5;omega,hn⟩,hR⟩ ⟨Rn.rowIs rfl rfl rfl,Rn.is rfl rfl,Rn.is rfl rfl,Rn.fnO rfl rfl rfl,Rn.is (congrArg (AV.i .i64) w1) rfl,Rn.is rfl rfl,trivial⟩ (ak rfl rfl rfl rfl rfl (rfl) (ah (by assumption))) fun x hx=>?_
 clear hR hn w1
 obtain⟨⟨i,st⟩,m⟩:=x
 obtain⟨⟨hi,hib,hst,hm⟩,hG⟩:=hx
 simp only at hi hib hst hm hG
 refine jA ?_
 refine AW.cond rfl (fun h0=>?_) (fun h0=>?_)
 rotate_left
 ·have h:st = 5 := by
   have:=of_decide_eq_false h0
   simp only [qH] at this
   omega
  subst h
  have hG:(m,false)=R:=hG
  subst hG
  refine zE ?_
  exact AW.ret (dW rfl (Rm.is rfl rfl) (ak rfl rfl rfl rfl rfl (rfl) (ah (by assumption))))
 have h:st<5:=by
  have:=of_decide_eq_true h0
  simp only [qH] at this
  omega
 obtain⟨I,hI⟩:∃I,Go.Sort.scanSorted (ltI l L) m b i=I:=⟨_,rfl⟩
 rw [show 5-st=(5-(st+1))+1 by omega,Ig hI] at hG
 refine jB ?_
 refine AW.loopL (ι:=Nat) (fun x=>[(0,.row 201 0 0 n),(1,.i .i64 ((a:Nat):Int)),(2,.i .i64 ((b:Nat):Int)),(3,.fn 253 [.own 210 0 0] []),(9,.i .i64 ((x:Nat):Int)),(10,.i .i64 ((st:Nat):Int))]) (fun _=>gl q [210,201] (ioB l n (m))) (fun x=>(i<=x/\x<=b)/\Go.Sort.scanSorted (ltI l L) m b x=I) (fun x=>b-x) i ⟨by omega,hI⟩ jQ (ak rfl rfl rfl rfl rfl (rfl) (ah (by assumption))) fun x hx=>?_
 clear hI
 obtain⟨hx,hf⟩:=hx
 rw [oE] at hf
 refine jB ?_
 refine AW.cutT (ι:=Unit) (fun _=>[(0,.row 201 0 0 n),(1,.i .i64 ((a:Nat):Int)),(2,.i .i64 ((b:Nat):Int)),(3,.fn 253 [.own 210 0 0] []),(9,.i .i64 ((x:Nat):Int)),(10,.i .i64 ((st:Nat):Int)),(36,.b (decide (x<b) && (!ltI l L m[x]! m[x-1]!)))]) (fun _=>gl q [210,201] (ioB l n (m))) (fun _=>True) ?_ fun _ _=>?_
 ·refine AW.draws aJ ?_
  by_cases g1:((x:Nat):Int)<((b:Nat):Int)
  ·refine RG.runO ae 0 [(21,.b true)] 400 rfl jD ?_
   refine wH rfl ?_;refine jI (ia (x) am ((m).toList)) ?_;refine jL (lA (x) am (m)) ?_
   refine wH rfl ?_;refine jI (ia (x-1) am ((m).toList)) ?_;refine jL (lA (x-1) am (m)) ?_
   refine wH rfl ?_
   refine RG.ownK [(210,210),(201,201)] [(210,210),(201,201)] 201 201 rfl (fun q=>bF l L hL n (m) (m[x]!) (m[x-1]!) q (ah (by assumption))) rfl rfl rfl rfl rfl rfl rfl rfl rfl rfl rfl rfl rfl ?_
   refine wH rfl ?_;refine jB ?_
   exact⟨(),trivial,⟨Rn.rowIs rfl rfl rfl,Rn.is rfl rfl,Rn.is rfl rfl,Rn.fnO rfl rfl rfl,Rn.is rfl rfl,Rn.is rfl rfl,Rn.is (congrArg AV.b (by rw [qE (show x<b by omega),uE];rfl)) rfl,trivial⟩,ak rfl rfl rfl rfl rfl (rfl) (ah (by assumption))⟩
  ·refine RG.runO ae 0 [(21,.b false)] 400 rfl jD ?_
   refine jB ?_
   exact⟨(),trivial,⟨Rn.rowIs rfl rfl rfl,Rn.is rfl rfl,Rn.is rfl rfl,Rn.fnO rfl rfl rfl,Rn.is rfl rfl,Rn.is rfl rfl,Rn.is (congrArg AV.b (by rw [qC (show ¬x<b by omega),uI])) rfl,trivial⟩,ak rfl rfl rfl rfl rfl (rfl) (ah (by assumption))⟩
 cases hcb:(decide (x<b) && (!ltI l L m[x]! m[x-1]!))
 rotate_left
 ·rw [hcb,cond_true] at hf
  have hle:x<b:=by
   rw [qQ,vM] at hcb
   exact hcb.1
  have w9:IntKind.i64.wrap (((x:Nat):Int)+Int.ofNat 1)=((x+1:Nat):Int):=by simp only [kA0,qH];omega
  refine AW.cond rfl (fun _=>?_) (fun h1=>by cases h1)
  refine jA ?_
  exact⟨x+1,⟨⟨by omega,hf⟩,by omega⟩,⟨Rn.rowIs rfl rfl rfl,Rn.is rfl rfl,Rn.is rfl rfl,Rn.fnO rfl rfl rfl,Rn.is (congrArg (AV.i .i64) w9) rfl,Rn.is rfl rfl,trivial⟩,ak rfl rfl rfl rfl rfl (rfl) (ah (by assumption))⟩
 rw [hcb,cond_false] at hf
 clear hcb
 obtain rfl:I=x:=hf.symm
 refine AW.cond rfl (fun h1=>by cases h1) (fun _=>?_)
 refine zE ?_
 refine AW.cond rfl (fun h1=>?_) (fun h1=>?_)
 ·have k:I = b := by
   have:=of_decide_eq_true h1
   omega
  rw [if_pos k] at hG
  subst hG
  refine jA ?_
  exact AW.ret (dW rfl (Rm.is rfl rfl) (ak rfl rfl rfl rfl rfl (rfl) (ah (by assumption))))
 have k:¬I=b:=by
  have:=of_decide_eq_false h1
  omega
 rw [if_neg k] at hG
 have wl:IntKind.i64.wrap (((b:Nat):Int)-((a:Nat):Int))=((b-a:Nat):Int):=by rw [kA0];omega
 refine zB ?_
 refine RG.runO ae 0 [(44,.i .i64 ((b-a:Nat):Int))] 400 rfl jD ?_
 refine jB ?_
 refine AW.cond rfl (fun h2=>?_) (fun h2=>?_)
 ·have k2:b-a < 50 := by
   have:=of_decide_eq_true h2
   simp only [qH] at this
   omega
  rw [if_pos k2] at hG
  subst hG
  refine jA ?_
  exact AW.ret (dW rfl (Rm.is rfl rfl) (ak rfl rfl rfl rfl rfl (rfl) (ah (by assumption))))
 have k2:¬b-a<50:=by
  have:=of_decide_eq_false h2
  simp only [qH] at this
  omega
 rw [if_neg k2] at hG
 refine zD ?_
 refine wH rfl ?_;refine jI (ia (I-1) am ((m).toList)) ?_;refine jL (lA (I-1) am (m)) ?_;refine wH rfl ?_;refine jI (ia (I) am ((m).toList)) ?_;refine jL (lA (I) am (m)) ?_;refine wH rfl ?_;refine jI (ia (I) am ((m).toList)) ?_;refine RG.opS rfl (aS (I) am ((m).toList) ((m)[I-1]!) (by simp only [vF,qL];omega) rfl (tk rfl) rfl rfl rfl rfl rfl (fun _=>rfl)) rfl ?_;refine wH rfl ?_;refine jI (ia (I-1) am (((m).toList.set (I) (m)[I-1]!))) ?_;refine RG.opS rfl (aS (I-1) am (((m).toList.set (I) (m)[I-1]!)) ((m)[I]!) (by simp only [vF,qL];omega) rfl (tk rfl) rfl rfl rfl rfl rfl (fun _=>rfl)) rfl ?_
 rw [<- bj]
 have hm0:=(bg m I (I-1)).trans hm
 generalize swp m I (I-1)=m0 at hG hm0 ⊢
 refine jH ?_
 have wIa:IntKind.i64.wrap (((I:Nat):Int)-((a:Nat):Int))=((I-a:Nat):Int):=by rw [kA0];omega
 obtain⟨m1,e1⟩:∃z,pi1 (ltI l L) a I m0=z:=⟨_,rfl⟩
 have hm1:m1.size=n:=by rw [<- e1,FB];exact hm0
 rw [e1] at hG
 rw [pi1] at e1
 refine AW.cutT (ι:=Unit) (fun _=>[(0,.row 201 0 0 n),(1,.i .i64 ((a:Nat):Int)),(2,.i .i64 ((b:Nat):Int)),(3,.fn 253 [.own 210 0 0] []),(9,.i .i64 ((I:Nat):Int)),(10,.i .i64 ((st:Nat):Int))]) (fun _=>gl q [210,201] (ioB l n (m1))) (fun _=>True) ?_ fun _ _=>?_
 ·refine AW.cond rfl (fun h3=>?_) (fun h3=>?_)
  rotate_left
  ·have k3:¬ I-a >= 2 := by
    have:=of_decide_eq_false h3
    simp only [qH] at this
    rw [wIa] at this
    omega
   rw [qC k3,cond_false] at e1
   subst e1
   refine jA ?_
   exact⟨(),trivial,jQ,ak rfl rfl rfl rfl rfl (rfl) (ah (by assumption))⟩
  have k3:I-a>=2:=by
   have:=of_decide_eq_true h3
   simp only [qH] at this
   rw [wIa] at this
   omega
  rw [qE k3,cond_true] at e1
  have wj:IntKind.i64.wrap (((I:Nat):Int)-Int.ofNat 1)=((I-1:Nat):Int):=by simp only [kA0,qH];omega
  refine jA ?_
  refine AW.loopL (ι:=Nat × Array (Fin (L+1))) (fun x=>[(0,.row 201 0 0 n),(1,.i .i64 ((a:Nat):Int)),(2,.i .i64 ((b:Nat):Int)),(3,.fn 253 [.own 210 0 0] []),(9,.i .i64 ((I:Nat):Int)),(10,.i .i64 ((st:Nat):Int)),(11,.i .i64 ((x.1:Nat):Int))]) (fun x=>gl q [210,201] (ioB l n (x.2))) (fun x=>(x.1<I/\x.2.size=n)/\Go.Sort.shiftDown (ltI l L) x.1 x.2=m1) (fun x=>x.1) (I-1,m0) ⟨⟨by show I-1<I;omega,hm0⟩,e1⟩ ⟨Rn.rowIs rfl rfl rfl,Rn.is rfl rfl,Rn.is rfl rfl,Rn.fnO rfl rfl rfl,Rn.is rfl rfl,Rn.is rfl rfl,Rn.is (congrArg (AV.i .i64) wj) rfl,trivial⟩ (ak rfl rfl rfl rfl rfl (rfl) (ah (by assumption))) fun x hx=>?_
  clear e1 wj
  obtain⟨j,v⟩:=x
  obtain⟨⟨hj,hv⟩,hs⟩:=hx
  simp only at hj hv hs
  refine jA ?_
  refine AW.cond rfl (fun h4=>?_) (fun h4=>?_)
  rotate_left
  ·have k4:j = 0 := by
    have:=of_decide_eq_false h4
    simp only [qH] at this
    omega
   subst k4
   have hs:v=m1:=hs
   subst hs
   refine zE ?_
   exact⟨(),trivial,jQ,ak rfl rfl rfl rfl rfl (rfl) (ah (by assumption))⟩
  have k4:0<j:=by
   have:=of_decide_eq_true h4
   simp only [qH] at this
   omega
  obtain⟨j,rfl⟩:∃z,j=z+1:=⟨j-1,by omega⟩
  rw [Go.Sort.shiftDown] at hs
  have wk:IntKind.i64.wrap (((j+1:Nat):Int)-Int.ofNat 1)=((j:Nat):Int):=by simp only [kA0,qH];omega
  refine zD ?_
  refine wH rfl ?_;refine jI (ia (j+1) am ((v).toList)) ?_;refine jL (lA (j+1) am (v)) ?_
  refine wH rfl ?_;refine jI (ia (j) am ((v).toList)) ?_;refine jL (lA (j) am (v)) ?_
  refine wH rfl ?_
  refine RG.ownK [(210,210),(201,201)] [(210,210),(201,201)] 201 201 rfl (fun q=>bF l L hL n (v) (v[j+1]!) (v[j]!) q (ah (by assumption))) rfl rfl rfl rfl rfl rfl rfl rfl rfl rfl rfl rfl rfl ?_
  refine wH rfl ?_;refine jB ?_
  refine AW.cond rfl (fun h5=>?_) (fun h5=>?_)
  ·rw [if_pos (show (!ltI l L v[j+1]! v[j]!)=true from h5)] at hs
   subst hs
   refine jA ?_
   refine AW.exit ?_;first|(refine Eq.mpr (if_pos rfl) ?_)|(refine Eq.mpr (if_neg (by decide)) ?_;refine Eq.mpr (if_pos rfl) ?_)|(refine Eq.mpr (if_neg (by decide)) ?_;refine Eq.mpr (if_neg (by decide)) ?_;refine Eq.mpr (if_pos rfl) ?_);refine jA ?_
   exact⟨(),trivial,jQ,ak rfl rfl rfl rfl rfl (rfl) (ah (by assumption))⟩
  ·rw [if_neg (by rw [show (!ltI l L v[j+1]! v[j]!)=false from h5];decide)] at hs
   have hv2:=(bg v (j+1) j).trans hv
   refine zD ?_
   refine wH rfl ?_;refine jI (ia (j) am ((v).toList)) ?_;refine jL (lA (j) am (v)) ?_;refine wH rfl ?_;refine jI (ia (j+1) am ((v).toList)) ?_;refine jL (lA (j+1) am (v)) ?_;refine wH rfl ?_;refine jI (ia (j+1) am ((v).toList)) ?_;refine RG.opS rfl (aS (j+1) am ((v).toList) ((v)[j]!) (by simp only [vF,qL];omega) rfl (tk rfl) rfl rfl rfl rfl rfl (fun _=>rfl)) rfl ?_;refine wH rfl ?_;refine jI (ia (j) am (((v).toList.set (j+1) (v)[j]!))) ?_;refine RG.opS rfl (aS (j) am (((v).toList.set (j+1) (v)[j]!)) ((v)[j+1]!) (by simp only [vF,qL];omega) rfl (tk rfl) rfl rfl rfl rfl rfl (fun _=>rfl)) rfl ?_
   refine wH rfl ?_;refine jB ?_
   refine AW.text ?_
   refine wH rfl ?_;refine jB ?_
   exact⟨(j,swp v (j+1) j),⟨⟨⟨by show j<I;omega,hv2⟩,hs⟩,by show j<j+1;omega⟩,⟨Rn.rowTIs rfl rfl rfl (ah (hv2)),Rn.is rfl rfl,Rn.is rfl rfl,Rn.fnO rfl rfl rfl,Rn.is rfl rfl,Rn.is rfl rfl,Rn.is (congrArg (AV.i .i64) wk) rfl,trivial⟩,ak rfl rfl rfl rfl rfl (by rw [bj]) (ah (by assumption))⟩
 have wbI:IntKind.i64.wrap (((b:Nat):Int)-((I:Nat):Int))=((b-I:Nat):Int):=by rw [kA0];omega
 obtain⟨m2,e2⟩:∃z,pi2 (ltI l L) b I m1=z:=⟨_,rfl⟩
 have hm2:m2.size=n:=by rw [<- e2,GN];exact hm1
 rw [e2] at hG
 rw [pi2] at e2
 refine jA ?_
 refine AW.cutB (ι:=Unit) (fun _=>[(0,.row 201 0 0 n),(1,.i .i64 ((a:Nat):Int)),(2,.i .i64 ((b:Nat):Int)),(3,.fn 253 [.own 210 0 0] []),(9,.i .i64 ((I:Nat):Int)),(10,.i .i64 ((st:Nat):Int))]) (fun _=>gl q [210,201] (ioB l n (m2))) (fun _=>True) ?_ fun _ _=>?_
 ·refine AW.cond rfl (fun h3=>?_) (fun h3=>?_)
  rotate_left
  ·have k3:¬ b-I >= 2 := by
    have:=of_decide_eq_false h3
    simp only [qH] at this
    rw [wbI] at this
    omega
   rw [qC k3,cond_false] at e2
   subst e2
   refine jA ?_
   exact⟨(),trivial,jQ,ak rfl rfl rfl rfl rfl (rfl) (ah (by assumption))⟩
  have k3:b-I>=2:=by
   have:=of_decide_eq_true h3
   simp only [qH] at this
   rw [wbI] at this
   omega
  rw [qE k3,cond_true] at e2
  have wj:IntKind.i64.wrap (((I:Nat):Int)+Int.ofNat 1)=((I+1:Nat):Int):=by simp only [kA0,qH];omega
  refine jA ?_
  refine AW.loopL (ι:=Nat × Array (Fin (L+1))) (fun x=>[(0,.row 201 0 0 n),(1,.i .i64 ((a:Nat):Int)),(2,.i .i64 ((b:Nat):Int)),(3,.fn 253 [.own 210 0 0] []),(9,.i .i64 ((I:Nat):Int)),(10,.i .i64 ((st:Nat):Int)),(12,.i .i64 ((x.1:Nat):Int))]) (fun x=>gl q [210,201] (ioB l n (x.2))) (fun x=>(I<x.1/\x.1<=b/\x.2.size=n)/\Go.Sort.shiftUp (ltI l L) b x.1 x.2=m2) (fun x=>b-x.1) (I+1,m1) ⟨⟨by show I<I+1;omega,by show I+1<=b;omega,hm1⟩,e2⟩ ⟨Rn.rowIs rfl rfl rfl,Rn.is rfl rfl,Rn.is rfl rfl,Rn.fnO rfl rfl rfl,Rn.is rfl rfl,Rn.is rfl rfl,Rn.is (congrArg (AV.i .i64) wj) rfl,trivial⟩ (ak rfl rfl rfl rfl rfl (rfl) (ah (by assumption))) fun x hx=>?_
  clear e2 wj
  obtain⟨j,v⟩:=x
  obtain⟨⟨hj0,hj,hv⟩,hs⟩:=hx
  simp only at hj0 hj hv hs
  rw [Go.Sort.shiftUp] at hs
  refine jA ?_
  refine AW.cond rfl (fun h4=>?_) (fun h4=>?_)
  rotate_left
  ·have k4:¬ j < b := by
    have:=of_decide_eq_false h4
    omega
   rw [if_neg k4] at hs
   subst hs
   refine zE ?_
   exact⟨(),trivial,jQ,ak rfl rfl rfl rfl rfl (rfl) (ah (by assumption))⟩
  have k4:j<b:=by
   have:=of_decide_eq_true h4
   omega
  rw [if_pos k4] at hs
  have wk:IntKind.i64.wrap (((j:Nat):Int)+Int.ofNat 1)=((j+1:Nat):Int):=by simp only [kA0,qH];omega
  refine zD ?_
  refine wH rfl ?_;refine jI (ia (j) am ((v).toList)) ?_;refine jL (lA (j) am (v)) ?_
  refine wH rfl ?_;refine jI (ia (j-1) am ((v).toList)) ?_;refine jL (lA (j-1) am (v)) ?_
  refine wH rfl ?_
  refine RG.ownK [(210,210),(201,201)] [(210,210),(201,201)] 201 201 rfl (fun q=>bF l L hL n (v) (v[j]!) (v[j-1]!) q (ah (by assumption))) rfl rfl rfl rfl rfl rfl rfl rfl rfl rfl rfl rfl rfl ?_
  refine wH rfl ?_;refine jB ?_
  refine AW.cond rfl (fun h5=>?_) (fun h5=>?_)
  ·rw [if_pos (show (!ltI l L v[j]! v[j-1]!)=true from h5)] at hs
   subst hs
   refine jA ?_
   refine AW.exit ?_;first|(refine Eq.mpr (if_pos rfl) ?_)|(refine Eq.mpr (if_neg (by decide)) ?_;refine Eq.mpr (if_pos rfl) ?_)|(refine Eq.mpr (if_neg (by decide)) ?_;refine Eq.mpr (if_neg (by decide)) ?_;refine Eq.mpr (if_pos rfl) ?_);refine jA ?_
   exact⟨(),trivial,jQ,ak rfl rfl rfl rfl rfl (rfl) (ah (by assumption))⟩
  ·rw [if_neg (by rw [show (!ltI l L v[j]! v[j-1]!)=false from h5];decide)] at hs
   have hv2:=(bg v j (j-1)).trans hv
   refine zD ?_
   refine wH rfl ?_;refine jI (ia (j-1) am ((v).toList)) ?_;refine jL (lA (j-1) am (v)) ?_;refine wH rfl ?_;refine jI (ia (j) am ((v).toList)) ?_;refine jL (lA (j) am (v)) ?_;refine wH rfl ?_;refine jI (ia (j) am ((v).toList)) ?_;refine RG.opS rfl (aS (j) am ((v).toList) ((v)[j-1]!) (by simp only [vF,qL];omega) rfl (tk rfl) rfl rfl rfl rfl rfl (fun _=>rfl)) rfl ?_;refine wH rfl ?_;refine jI (ia (j-1) am (((v).toList.set (j) (v)[j-1]!))) ?_;refine RG.opS rfl (aS (j-1) am (((v).toList.set (j) (v)[j-1]!)) ((v)[j]!) (by simp only [vF,qL];omega) rfl (tk rfl) rfl rfl rfl rfl rfl (fun _=>rfl)) rfl ?_
   refine wH rfl ?_;refine jB ?_
   refine AW.text ?_
   refine wH rfl ?_;refine jB ?_
   exact⟨(j+1,swp v j (j-1)),⟨⟨⟨by show I<j+1;omega,by show j+1<=b;omega,hv2⟩,hs⟩,by show b-(j+1)<b-j;omega⟩,⟨Rn.rowTIs rfl rfl rfl (ah (hv2)),Rn.is rfl rfl,Rn.is rfl rfl,Rn.fnO rfl rfl rfl,Rn.is rfl rfl,Rn.is rfl rfl,Rn.is (congrArg (AV.i .i64) wk) rfl,trivial⟩,ak rfl rfl rfl rfl rfl (by rw [bj]) (ah (by assumption))⟩
 have ws:IntKind.i64.wrap (((st:Nat):Int)+Int.ofNat 1)=((st+1:Nat):Int):=by simp only [kA0,qH];omega
 refine jA ?_
 exact⟨((I,st+1),m2),⟨⟨⟨by show a<I;omega,by show I<=b;omega,by show st+1<=5;omega,hm2⟩,hG⟩,by show 5-(st+1)<5-st;omega⟩,⟨Rn.rowIs rfl rfl rfl,Rn.is rfl rfl,Rn.is rfl rfl,Rn.fnO rfl rfl rfl,Rn.is rfl rfl,Rn.is (congrArg (AV.i .i64) ws) rfl,trivial⟩,ak rfl rfl rfl rfl rfl (rfl) (ah (by assumption))⟩
end Go.Proofs.YtdidjpohnopihaaGreat.Sm
end
section
namespace Go.Proofs.YtdidjpohnopihaaGreat.Sm
open Go.RowKit
open Go.Sort (swp)
theorem CM {l:List UInt8}(h:(List.range 256).all (fun k=>l[k]? == some (UInt8.ofNat (Go.Sort.bitsLen k)))=true){v:UInt64}(hv:v.toNat<256):l[v.toUInt8.toNat]?=some (UInt8.ofNat (Go.Sort.bitsLen v.toNat)):=by
 have h1:=qV.1 h v.toNat (uV.2 hv)
 have e:v.toUInt8.toNat=v.toNat:=by rw [UInt64.toNat_toUInt8];omega
 rw [e]
 simpa using h1
theorem lv {k:Nat}(h:k<256):Go.Sort.bitsLen k<=8:=(Go.Sort.bitsLen_le_iff k 8).2 h
theorem yV (v:UInt64)(hv:v.toNat<256):aa Tryz.prog 151 [.u v] (.i .i64 ((Go.Sort.bitsLen v.toNat:Nat):Int)):=by
 refine jb Tryz.func151 ?_
 have h8:=lv hv
 refine jA ?_
 refine AW.cond rfl (fun h=>?_) (fun h=>?_)
 ·have:=UInt64.le_iff_toNat_le.1 (of_decide_eq_true h)
  exact absurd (Nat.lt_of_le_of_lt this hv) (by decide)
 clear h
 refine jA ?_
 refine AW.cond rfl (fun h=>?_) (fun h=>?_)
 ·have:=UInt64.le_iff_toNat_le.1 (of_decide_eq_true h)
  exact absurd (Nat.lt_of_le_of_lt this hv) (by decide)
 clear h
 refine jA ?_
 refine AW.cond rfl (fun h=>?_) (fun h=>?_)
 ·have:=UInt64.le_iff_toNat_le.1 (of_decide_eq_true h)
  exact absurd (Nat.lt_of_le_of_lt this hv) (by decide)
 clear h
 refine jA ?_
 refine RG.opS rfl (mX rfl (tk rfl) rfl rfl rfl (CM (by kernel_rfl) hv)) rfl ?_
 refine zH ?_
 have e:(UInt8.ofNat (Go.Sort.bitsLen v.toNat)).toNat=Go.Sort.bitsLen v.toNat:=by rw [UInt8.toNat_ofNat'];omega
 have e2:IntKind.i64.wrap ((Go.Sort.bitsLen v.toNat:Nat):Int)=((Go.Sort.bitsLen v.toNat:Nat):Int):=by rw [kA0];omega
 show AV.i .i64 (IntKind.i64.wrap (0+IntKind.i64.wrap (((UInt8.ofNat (Go.Sort.bitsLen v.toNat)).toNat:Nat):Int)))=_
 rw [e,e2,Int.zero_add,e2]
theorem uf (v:UInt64)(hv:v.toNat<256):aa Tryz.prog 105 [.u v] (.i .i64 ((Go.Sort.bitsLen v.toNat:Nat):Int)):=by
 have hr:=yV v hv
 refine jb Tryz.func105 ?_
 refine jA ?_
 refine zF ?_
 refine jc hr ?_;refine jH ?_
 exact zS
theorem kJ {k:Nat}(h:k<256):(bQ ((k:Nat):Int)).toNat=k:=by
 have e:=eB ((k:Nat):Int)
 rw [IntKind.wrap_u64] at e
 omega
def tO (k:Nat):UInt64:=ct (UInt64.ofNat 1) (Go.Sort.bitsLen k)
theorem yr (k:Nat)(hk:k<256):aa Tryz.prog 193 [.i .i64 ((k:Nat):Int)] (.u (tO k)):=by
 have hr:=uf (bQ ((k:Nat):Int)) (by rw [kJ hk];exact hk)
 rw [kJ hk] at hr
 refine jb Tryz.func193 ?_
 refine jA ?_
 refine jc hr ?_;refine jH ?_
 exact zS
theorem tI (a:UInt64){k:Nat}(h:k<64):ct a k=a <<< UInt64.ofNat k:=by
 apply UInt64.toNat_inj.1
 rw [ct,UInt64.toNat_ofNat',UInt64.toNat_shiftLeft,UInt64.toNat_ofNat',Nat.shiftLeft_eq,kB3 (by omega)]
 have:k % 2 ^ 64 % 64=k:=by omega
 rw [this]
theorem sk (a:UInt64){k:Nat}(h:k<64):cj a k=a >>> UInt64.ofNat k:=by
 apply UInt64.toNat_inj.1
 rw [cj,UInt64.toNat_ofNat',UInt64.toNat_shiftRight,UInt64.toNat_ofNat',Nat.shiftRight_eq_div_pow,kB3 (by omega)]
 have:k % 2 ^ 64 % 64=k:=by omega
 rw [this]
 exact Nat.mod_eq_of_lt (Nat.lt_of_le_of_lt (Nat.div_le_self _ _) (UInt64.toNat_lt a))
def xsB (r:UInt64):List (Nat × SB):=[(240,⟨0,some (.box 276 [.u r])⟩)]
theorem GB (r:UInt64)(q:Nat->Option (Nat × Nat)):aj Tryz.prog 194 [.own 240 0 0] (gl q [240] (xsB r)) (.u (Go.Sort.xorNext r)) (gl q [240] (xsB (Go.Sort.xorNext r))):=by
 refine aj.of_body Tryz.func194 rfl (by kernel_rfl) rfl rfl ?_
 have e:Go.Sort.xorNext r=((r ^^^ ct r 13) ^^^ cj (r ^^^ ct r 13) 7) ^^^ ct ((r ^^^ ct r 13) ^^^ cj (r ^^^ ct r 13) 7) 17:=by
  rw [tI _ (by decide),sk _ (by decide),tI _ (by decide)];rfl
 rw [e]
 refine jA ?_
 exact AW.ret (dW rfl (Rm.is rfl rfl) ⟨.ghost rfl rfl rfl,.boxL rfl jQ rfl,trivial⟩)
section
variable {α:Type} [Inhabited α]
def ya (a len md:Nat):Nat->Nat->UInt64 × Array α->UInt64 × Array α
 |0,_,st=>st
 |k+1,idx,st=>ya a len md k (idx+1) (Go.Sort.breakStep a len md st idx)
theorem FG {d:Array α}{a b:Nat}(h:b-a>=8):Go.Sort.breakPatterns d a b=(ya a (b-a) (1 <<< Go.Sort.bitsLen (b-a)) 3 (a+(b-a) / 4*2-1) (UInt64.ofNat (b-a),d)).2:=by
 rw [Go.Sort.breakPatterns]
 simp only [h,if_true]
 rfl
def yN (len md:Nat)(r:UInt64):Nat:=bif decide ((Go.Sort.xorNext r).toNat &&& (md-1)>=len) then ((Go.Sort.xorNext r).toNat &&& (md-1))-len else (Go.Sort.xorNext r).toNat &&& (md-1)
theorem zq {a len md idx:Nat}{r:UInt64}{d:Array α}:Go.Sort.breakStep a len md (r,d) idx=(Go.Sort.xorNext r,swp d idx (a+yN len md r)):=by
 rw [Go.Sort.breakStep,yN]
 simp only [Bool.cond_decide]
theorem Cn {len:Nat}(h:0<len)(r:UInt64):yN len (1 <<< Go.Sort.bitsLen len) r<len:=by
 have h1:=Go.Sort.two_pow_bitsLen_le h
 have h2:(Go.Sort.xorNext r).toNat &&& ((1 <<< Go.Sort.bitsLen len)-1)<=(1 <<< Go.Sort.bitsLen len)-1:=Nat.and_le_right
 rw [Nat.one_shiftLeft] at h2 ⊢
 rw [yN]
 have h3:0<2 ^ Go.Sort.bitsLen len:=Nat.two_pow_pos _
 by_cases k:(Go.Sort.xorNext r).toNat &&& (2 ^ Go.Sort.bitsLen len-1)>=len
 ·rw [qE k,cond_true];omega
 ·rw [qC k,cond_false];omega
end
theorem BI {len:Nat}(h:len<256)(h0:0<len)(r:UInt64):IntKind.i64.wrap (((r &&& (tO len-UInt64.ofNat 1)).toNat:Nat):Int)=((r.toNat &&& ((1 <<< Go.Sort.bitsLen len)-1):Nat):Int):=by
 have h8:=lv h
 have e:(tO len).toNat=1 <<< Go.Sort.bitsLen len:=by
  rw [tO,ct,UInt64.toNat_ofNat',Nat.one_shiftLeft,kB3 (by omega)]
  have h1:2 ^ Go.Sort.bitsLen len<=2 ^ 8:=Nat.pow_le_pow_right (by decide) h8
  show (1*2 ^ Go.Sort.bitsLen len) % 2 ^ 64=_
  rw [Nat.one_mul]
  exact Nat.mod_eq_of_lt (by omega)
 have hp:0<1 <<< Go.Sort.bitsLen len:=by rw [Nat.one_shiftLeft];exact Nat.two_pow_pos _
 have h2:(1 <<< Go.Sort.bitsLen len)<=2 ^ 8:=by rw [Nat.one_shiftLeft];exact Nat.pow_le_pow_right (by decide) h8
 have e2:(tO len-UInt64.ofNat 1).toNat=(1 <<< Go.Sort.bitsLen len)-1:=by
  rw [UInt64.toNat_sub_of_le _ _ (UInt64.le_iff_toNat_le.2 (by rw [e];exact hp)),e];rfl
 rw [UInt64.toNat_and,e2]
 have h3:r.toNat &&& ((1 <<< Go.Sort.bitsLen len)-1)<=(1 <<< Go.Sort.bitsLen len)-1:=Nat.and_le_right
 generalize r.toNat &&& ((1 <<< Go.Sort.bitsLen len)-1)=x at h3
 rw [kA0];omega
end Go.Proofs.YtdidjpohnopihaaGreat.Sm
end
section
namespace Go.Proofs.YtdidjpohnopihaaGreat.Sm
open Go.RowKit
open Go.Sort (swp)
def bpB {L:Nat}(q:Nat->Option (Nat × Nat))(l:List Rl)(n:Nat)(d:Array (Fin (L+1)))(r:UInt64):List (Nat × SB):=(9,⟨0,some (.box 276 [.u r])⟩)::gl q [210,201] (ioB l n d)
theorem rA {L:Nat}{l:List Rl}{d:Array (Fin (L+1))}{s:St}{q:Nat->Option (Nat × Nat)}{n e e1 e1' e3 g g1:Nat}{r:UInt64}{els:List (List AV)}{cs:List AV}(h3:s.σ 9=⟨e3,some (.box 276 cs)⟩)(h0:s.σ 210=⟨e,some (.box 322 [.sl (l.map cRl),.row 201 e1 0 n])⟩)(h1:s.σ 201=⟨e1',some (.row 3 1 els)⟩)
  (hg:s.σ 1110=⟨g,some (.ghost 210 e (q 210))⟩) (hg1:s.σ 1101=⟨g1,some (.ghost 201 e1' (q 201))⟩) (he:e1=e1') (hc:cs=[.u r]) (hel:els=d.toList.map am) (hn:0+n<=(d.toList.map am).length):WkB s (lkB (bpB q l n d r)) (bpB q l n d r):=by
 subst he hel hc
 exact⟨.boxL h3 jQ rfl,.ghost hg h0 rfl,.ghost hg1 h1 rfl,.boxL h0 ⟨Rn.is rfl rfl,Rn.rowIs rfl h1 rfl,trivial⟩ rfl,.row h1 rfl,trivial⟩
theorem Da (l:List Rl)(L:Nat)(hL:l.length=L+1)(n:Nat)(hl:n<=100000)(d:Array (Fin (L+1)))(hn:d.size=n)(a b:Nat)(hab:a+8<=b)(hb:b<=n)(h256:n<256)(q:Nat->Option (Nat × Nat)):aj Tryz.prog 261 [.row 201 0 0 n,.i .i64 ((a:Nat):Int),.i .i64 ((b:Nat):Int),.fn 253 [.own 210 0 0] []] (gl q [210,201] (ioB l n (d))) (.tup []) (gl q [210,201] (ioB l n (Go.Sort.breakPatterns d a b))):=by
 refine aj.of_body Tryz.func261 rfl (by kernel_rfl) rfl rfl ?_
 obtain⟨G,hG⟩:∃R,Go.Sort.breakPatterns d a b=R:=⟨_,rfl⟩
 rw [hG]
 rw [FG (by omega)] at hG
 have wl:IntKind.i64.wrap (((b:Nat):Int)-((a:Nat):Int))=((b-a:Nat):Int):=by rw [kA0];omega
 generalize hm:b-a=m at wl hG
 have w2:=pY m 2 (by omega) (by decide) a (by omega)
 have wb:IntKind.i64.wrap (((a+m / 4*2:Nat):Int)-Int.ofNat 1)=((a+m / 4*2-1:Nat):Int):=by rw [kA0];simp only [qH];omega
 have wc:IntKind.i64.wrap (((a+m / 4*2:Nat):Int)+Int.ofNat 1)=((a+m / 4*2+1:Nat):Int):=by rw [kA0];simp only [qH];omega
 have hlen:=yr m (by omega)
 have hr0:bQ ((m:Nat):Int)=UInt64.ofNat m:=mF m (by omega)
 refine zB ?_
 refine RG.runO ae 0 [(15,.i .i64 ((m:Nat):Int))] 400 rfl jD ?_
 refine jA ?_
 refine AW.cond rfl (fun h0=>?_) (fun h0=>?_)
 rotate_left
 ·exfalso
  have:=of_decide_eq_false h0
  simp only [qH] at this
  omega
 refine jB ?_;refine wF ?_;refine wH rfl ?_;refine jB ?_
 refine AW.text ?_
 refine wH rfl ?_
 refine jc hlen ?_
 refine wH rfl ?_;refine jB ?_
 refine AW.text ?_
 refine RG.runO ae 0 [(26,.i .i64 ((a+m / 4*2:Nat):Int)),(27,.i .i64 ((a+m / 4*2-1:Nat):Int))] 400 rfl jD ?_
 refine jA ?_
 have hm4:m / 4*2+1<m/\2<=m / 4:=by omega
 obtain⟨c,hc⟩:∃c,a+m / 4*2-1=c:=⟨_,rfl⟩
 have hc1:a+m / 4*2=c+1:=by omega
 have hc2:a+m / 4*2+1=c+2:=by omega
 rw [hc] at hG
 refine AW.loopL (ι:=Nat × (UInt64 × Array (Fin (L+1)))) (fun x=>[(0,.row 201 0 0 n),(1,.i .i64 ((a:Nat):Int)),(8,.i .i64 ((m:Nat):Int)),(9,.own 9 0 0),(10,.u (tO m)),(11,.i .i64 ((x.1:Nat):Int))]) (fun x=>bpB q l n x.2.2 x.2.1) (fun x=>(c<=x.1/\x.1<=c+3/\x.2.2.size=n)/\(ya a m (1 <<< Go.Sort.bitsLen m) (c+3-x.1) x.1 x.2).2=G) (fun x=>c+3-x.1) (c,(UInt64.ofNat m,d)) ⟨⟨qJ _,by show c<=c+3;omega,hn⟩,by show (ya a m _ (c+3-c) c _).2=G;rw [Nat.add_sub_cancel_left];exact hG⟩ ⟨Rn.rowIs rfl rfl rfl,Rn.is rfl rfl,Rn.is rfl rfl,Rn.ownIs rfl rfl rfl,Rn.is rfl rfl,Rn.is (congrArg (AV.i .i64) (show (((a+m / 4*2-1:Nat):Int))=((c:Nat):Int) by rw [hc])) rfl,trivial⟩ (rA rfl rfl rfl rfl rfl rfl (by rw [<- hr0]) (rfl) (ah hn)) fun x hx=>?_
 clear hG hn
 obtain⟨i,r,v⟩:=x
 obtain⟨⟨hi0,hi,hv⟩,hG⟩:=hx
 simp only at hi0 hi hv hG
 refine zB ?_
 refine RG.runO ae 0 [(33,.i .i64 ((a+m / 4*2:Nat):Int)),(34,.i .i64 ((a+m / 4*2+1:Nat):Int))] 400 rfl jD ?_
 refine jB ?_
 refine AW.cond rfl (fun h1=>?_) (fun h1=>?_)
 rotate_left
 ·have k:i=c+3:=by
   have:=of_decide_eq_false h1
   try simp only at this
   omega
  subst k
  rw [Nat.sub_self,ya] at hG
  subst hG
  refine zE ?_
  exact cO rfl (.inl rfl) (ak rfl rfl rfl rfl rfl (rfl) (ah hv))
 have k:i<=c+2:=by
  have:=of_decide_eq_true h1
  try simp only at this
  omega
 rw [show c+3-i=(c+3-(i+1))+1 by omega,ya,zq] at hG
 have ho:=Cn (len:=m) (by omega) r
 have hoth:=BI (len:=m) (by omega) (by omega) (Go.Sort.xorNext r)
 have hmd:=Go.Sort.two_pow_bitsLen_le (n:=m) (by omega)
 have hle:(Go.Sort.xorNext r).toNat &&& ((1 <<< Go.Sort.bitsLen m)-1)<=(1 <<< Go.Sort.bitsLen m)-1:=Nat.and_le_right
 rw [Nat.one_shiftLeft] at hle
 obtain⟨o,hO⟩:∃o,yN m (1 <<< Go.Sort.bitsLen m) r=o:=⟨_,rfl⟩
 rw [hO] at ho hG
 rw [yN] at hO
 rw [Nat.one_shiftLeft] at hoth hO
 generalize (Go.Sort.xorNext r).toNat &&& (2 ^ Go.Sort.bitsLen m-1)=oth at hoth hO hle
 have w3:oth<=100000:=by omega
 refine zB ?_
 refine wH rfl ?_
 refine RG.ownN [(9,240)] [(240,9)] (fun q=>GB r q) rfl rfl rfl rfl rfl rfl rfl rfl rfl rfl ?_
 refine RG.runO ae 0 [(42,.i .i64 ((oth:Nat):Int))] 400 rfl jD ?_
 refine jA ?_
 refine AW.cutT (ι:=Unit) (fun _=>[(0,.row 201 0 0 n),(1,.i .i64 ((a:Nat):Int)),(8,.i .i64 ((m:Nat):Int)),(9,.own 9 0 0),(10,.u (tO m)),(11,.i .i64 ((i:Nat):Int)),(12,.i .i64 ((o:Nat):Int))]) (fun _=>bpB q l n v (Go.Sort.xorNext r)) (fun _=>True) ?_ fun _ _=>?_
 ·refine AW.cond rfl (fun h2=>?_) (fun h2=>?_)
  ·have k2:oth>=m:=by
    have:=of_decide_eq_true h2
    try simp only at this
    omega
   rw [qE k2,cond_true] at hO
   have wo:IntKind.i64.wrap (((oth:Nat):Int)-((m:Nat):Int))=((o:Nat):Int):=by rw [kA0];omega
   refine jA ?_
   exact⟨(),trivial,⟨Rn.rowIs rfl rfl rfl,Rn.is rfl rfl,Rn.is rfl rfl,Rn.ownIs rfl rfl rfl,Rn.is rfl rfl,Rn.is rfl rfl,Rn.is (congrArg (AV.i .i64) wo) rfl,trivial⟩,rA rfl rfl rfl rfl rfl rfl (rfl) (rfl) (ah hv)⟩
  ·have k2:¬oth>=m:=by
    have:=of_decide_eq_false h2
    try simp only at this
    omega
   rw [qC k2,cond_false] at hO
   subst hO
   refine jA ?_
   exact⟨(),trivial,jQ,rA rfl rfl rfl rfl rfl rfl (rfl) (rfl) (ah hv)⟩
 have wi:IntKind.i64.wrap (((i:Nat):Int)+Int.ofNat 1)=((i+1:Nat):Int):=by simp only [kA0,qH];omega
 have hv2:=(bg v i (a+o)).trans hv
 refine zD ?_
 refine wH rfl ?_;refine jI (ia (a+o) am ((v).toList)) ?_;refine jL (lA (a+o) am (v)) ?_;refine wH rfl ?_;refine jI (ia (i) am ((v).toList)) ?_;refine jL (lA (i) am (v)) ?_;refine wH rfl ?_;refine jI (ia (i) am ((v).toList)) ?_;refine RG.opS rfl (aS (i) am ((v).toList) ((v)[a+o]!) (by simp only [vF,qL];omega) rfl (tk rfl) rfl rfl rfl rfl rfl (fun _=>rfl)) rfl ?_;refine wH rfl ?_;refine jI (ia (a+o) am (((v).toList.set (i) (v)[a+o]!))) ?_;refine RG.opS rfl (aS (a+o) am (((v).toList.set (i) (v)[a+o]!)) ((v)[i]!) (by simp only [vF,qL];omega) rfl (tk rfl) rfl rfl rfl rfl rfl (fun _=>rfl)) rfl ?_
 refine wH rfl ?_;refine jB ?_
 refine AW.text ?_
 refine wH rfl ?_;refine jB ?_
 exact⟨(i+1,(Go.Sort.xorNext r,swp v i (a+o))),⟨⟨⟨by show c<=i+1;omega,by show i+1<=c+3;omega,hv2⟩,hG⟩,by show c+3-(i+1)<c+3-i;omega⟩,⟨Rn.rowTIs rfl rfl rfl (ah (hv2)),Rn.is rfl rfl,Rn.is rfl rfl,Rn.ownIs rfl rfl rfl,Rn.is rfl rfl,Rn.is (congrArg (AV.i .i64) wi) rfl,trivial⟩,rA rfl rfl rfl rfl rfl rfl (rfl) (by rw [bj]) (ah hv2)⟩
end Go.Proofs.YtdidjpohnopihaaGreat.Sm
end
section
namespace Go.Proofs.YtdidjpohnopihaaGreat.Sm
open Go.RowKit
open Go.Sort (swp)
open Go.Sort (SWO Below PermIn SortedIn)
theorem EM (h:Go.Sort.Hint):decide (Go.Sort.hintCode h=2)=decide (h = .decreasing):=by cases h <;> rfl
theorem H6 (h:Go.Sort.Hint):decide (Go.Sort.hintCode h=1)=decide (h = .increasing):=by cases h <;> rfl
theorem DE {α:Type}[Inhabited α]{lt:α->α->Bool}(d:Array α)(a b:Nat):(Go.Sort.heapSort lt d a b).size=d.size:=by
 rw [Go.Sort.heapSort,BG,sY]
theorem Ib (l:List Rl)(L:Nat)(hL:l.length = L + 1)(n:Nat)(hl:n <= 100000)(h256:n < 256)(hS:SWO (ltI l L)):∀ (f a b lim:Nat) (d:Array (Fin (L + 1))),d.size = n -> a <= b -> b <= n -> b-a <= f -> lim <= 1000 -> Below (ltI l L) a b d -> ∀ (q:Nat -> Option (Nat × Nat)),
  aj Tryz.prog 256 [.row 201 0 0 n,.i .i64 ((a:Nat):Int),.i .i64 ((b:Nat):Int),.i .i64 ((lim:Nat):Int),.fn 253 [.own 210 0 0] []] (gl q [210,201] (ioB l n (d))) (.tup []) (gl q [210,201] (ioB l n (Go.Sort.pdq (ltI l L) d a b lim true true))):=by
 intro f
 induction f using Nat.strongRecOn with
 |ind f IH=>
 intro a b lim d hn hab hb hf hlim hB q
 refine aj.of_body Tryz.func256 rfl (by kernel_rfl) rfl rfl ?_
 generalize hG:Go.Sort.pdq (ltI l L) d a b lim true true=G
 refine jA ?_
 refine AW.loopL (ι:=(Nat × Nat × Nat) × (Bool × Bool) × Array (Fin (L+1))) (fun x=>[(0,.row 201 0 0 n),(1,.i .i64 ((x.1.1:Nat):Int)),(2,.i .i64 ((x.1.2.1:Nat):Int)),(3,.i .i64 ((x.1.2.2:Nat):Int)),(4,.fn 253 [.own 210 0 0] []),(10,.b x.2.1.1),(11,.b x.2.1.2)]) (fun x=>gl q [210,201] (ioB l n (x.2.2))) (fun x=>(x.1.1<=x.1.2.1/\x.1.2.1<=n/\x.1.2.1-x.1.1<=f/\x.1.2.2<=1000/\x.2.2.size=n/\Below (ltI l L) x.1.1 x.1.2.1 x.2.2)/\Go.Sort.pdq (ltI l L) x.2.2 x.1.1 x.1.2.1 x.1.2.2 x.2.1.1 x.2.1.2=G) (fun x=>x.1.2.1-x.1.1) ((a,b,lim),(true,true),d) ⟨⟨hab,hb,hf,hlim,hn,hB⟩,hG⟩ jQ (ak rfl rfl rfl rfl rfl (rfl) (ah (by assumption))) fun x hx=>?_
 clear hG hn hab hb hf hlim hB
 obtain⟨⟨a,b,lim⟩,⟨wb,wp⟩,d⟩:=x
 obtain⟨⟨hab,hb,hf,hlim,hn,hB⟩,hG⟩:=hx
 simp only at hab hb hf hlim hn hB hG
 have p:=Go.Sort.pdq_unfold (lt:=ltI l L) (d:=d) (a:=a) (b:=b) (limit:=lim) (wb:=wb) (wp:=wp)
 rw [p] at hG
 clear p
 have wl:IntKind.i64.wrap (((b:Nat):Int)-((a:Nat):Int))=((b-a:Nat):Int):=by rw [kA0];omega
 refine zB ?_
 refine RG.runO ae 0 [(23,.i .i64 ((b-a:Nat):Int))] 400 rfl jD ?_
 refine jA ?_
 refine AW.cond rfl (fun h0=>?_) (fun h0=>?_)
 ·have h:b-a <= 12 := by
   have:=of_decide_eq_true h0
   simp only [qH] at this
   omega
  rw [if_pos h] at hG
  subst hG
  have hs:=ot (ltI l L) d a b (by omega)
  refine jA ?_
  refine RG.ownK [(210,210),(201,201)] [(210,210),(201,201)] 201 201 (bG (hs.1)) (fun q=>FQ l L hL n hl d hn a b (by omega) hb q) rfl rfl rfl rfl rfl rfl rfl rfl rfl rfl rfl rfl rfl ?_
  refine jH ?_
  exact AW.ret (cO rfl (.inr rfl) (ak rfl rfl rfl rfl rfl (rfl) (ah (hs.1.trans hn))))
 have h:¬b-a<=12:=by
  have:=of_decide_eq_false h0
  simp only [qH] at this
  omega
 rw [if_neg h] at hG
 refine jA ?_
 refine AW.cond rfl (fun h1=>?_) (fun h1=>?_)
 ·have k:lim = 0 := by
   have:=of_decide_eq_true h1
   simp only [qH] at this
   omega
  rw [if_pos k] at hG
  subst hG
  have hs:=DE (lt:=ltI l L) d a b
  refine jA ?_
  refine RG.ownK [(210,210),(201,201)] [(210,210),(201,201)] 201 201 (bG (hs)) (fun q=>FK l L hL n hl d hn a b (by omega) hb q) rfl rfl rfl rfl rfl rfl rfl rfl rfl rfl rfl rfl rfl ?_
  refine jH ?_
  exact AW.ret (cO rfl (.inr rfl) (ak rfl rfl rfl rfl rfl (rfl) (ah (hs.trans hn))))
 have k:¬lim=0:=by
  have:=of_decide_eq_false h1
  simp only [qH] at this
  omega
 rw [if_neg k] at hG
 have hF:=Go.Sort.rd_facts (limit:=lim) (wb:=wb) (wp:=wp) hS Go.Sort.partialInsertionSort_holds Go.Sort.reverseRange_holds (show a<b by omega) (show b<=d.size by omega) hB
 have hlm:=Go.Sort.rd_lim_le (lt:=ltI l L) (d:=d) (a:=a) (b:=b) (limit:=lim) (wb:=wb) (wp:=wp)
 obtain⟨X,hX⟩:∃X,Go.Sort.rd (ltI l L) d a b lim wb wp=X:=⟨_,rfl⟩
 rw [hX] at hG hF hlm
 have q1:X.d1=(if (!wb)=true then Go.Sort.breakPatterns d a b else d):=by rw [<- hX];rfl
 have q2:X.lim=(if (!wb)=true then lim-1 else lim):=by rw [<- hX];rfl
 have q0:X.c=Go.Sort.choosePivot (ltI l L) X.d1 a b:=by rw [<- hX];rfl
 have q3:X.d2=(if X.c.2 = .decreasing then Go.Sort.reverseRange X.d1 a b else X.d1):=by rw [<- hX];rfl
 have q4:X.pivot=(if X.c.2 = .decreasing then (b-1)-(X.c.1-a) else X.c.1):=by rw [<- hX];rfl
 have q5:X.hint=(if X.c.2 = .decreasing then Go.Sort.Hint.increasing else X.c.2):=by rw [<- hX];rfl
 have q6:X.pi=(if (wb && wp && decide (X.hint = .increasing))=true then Go.Sort.partialInsertionSort (ltI l L) X.d2 a b else (X.d2,false)):=by rw [<- hX];rfl
 clear hX
 obtain⟨s1,B1,⟨c1,c2⟩,s2,B2,⟨v1,v2⟩,s3,B3⟩:=hF
 have s1:=s1.trans hn
 have s2:=s2.trans hn
 have s3:=s3.trans hn
 refine jA ?_
 refine AW.cutT (ι:=Unit) (fun _=>[(0,.row 201 0 0 n),(1,.i .i64 ((a:Nat):Int)),(2,.i .i64 ((b:Nat):Int)),(3,.i .i64 ((X.lim:Nat):Int)),(4,.fn 253 [.own 210 0 0] []),(10,.b wb),(11,.b wp),(12,.i .i64 ((b-a:Nat):Int))]) (fun _=>gl q [210,201] (ioB l n (X.d1))) (fun _=>True) ?_ fun _ _=>?_
 ·refine AW.cond rfl (fun h2=>?_) (fun h2=>?_)
  ·rw [if_pos h2] at q1 q2
   have wm:IntKind.i64.wrap (((lim:Nat):Int)-Int.ofNat 1)=((X.lim:Nat):Int):=by rw [q2,kA0];simp only [qH];omega
   have hbk:=Da l L hL n hl d hn a b (by omega) hb h256
   rw [<- q1] at hbk
   refine jA ?_
   refine RG.ownK [(210,210),(201,201)] [(210,210),(201,201)] 201 201 (bG (s1.trans hn.symm)) (fun q=>hbk q) rfl rfl rfl rfl rfl rfl rfl rfl rfl rfl rfl rfl rfl ?_
   refine jH ?_
   exact⟨(),trivial,⟨Rn.rowIs rfl rfl rfl,Rn.is rfl rfl,Rn.is rfl rfl,Rn.is (congrArg (AV.i .i64) wm) rfl,Rn.fnO rfl rfl rfl,Rn.is rfl rfl,Rn.is rfl rfl,Rn.is rfl rfl,trivial⟩,ak rfl rfl rfl rfl rfl (rfl) (ah s1)⟩
  ·rw [if_neg (by rw [h2];decide)] at q1 q2
   rw [q1,q2]
   refine jA ?_
   exact⟨(),trivial,jQ,ak rfl rfl rfl rfl rfl (rfl) (ah hn)⟩
 clear q1 q2
 have hpv:=C7 l L hL n hl X.d1 s1 a b (by omega) hb
 have e0:Go.Sort.choosePivot (ltI l L) X.d1 a b=((Go.Sort.rawPivot (ltI l L) X.d1 a b).1,Go.Sort.hintOf (Go.Sort.rawPivot (ltI l L) X.d1 a b).2):=Go.Sort.choosePivot_eq _ _ _ _
 have e1:(Go.Sort.rawPivot (ltI l L) X.d1 a b).1=X.c.1:=by rw [q0,e0]
 have e2:Go.Sort.hintOf (Go.Sort.rawPivot (ltI l L) X.d1 a b).2=X.c.2:=by rw [q0,e0]
 rw [e1,e2] at hpv
 clear e0 e1 e2 q0
 refine jA ?_
 refine RG.ownK [(210,210),(201,201)] [(210,210),(201,201)] 201 201 (bG (rfl)) (fun q=>hpv q) rfl rfl rfl rfl rfl rfl rfl rfl rfl rfl rfl rfl rfl ?_
 refine jH ?_
 refine AW.cutT (ι:=Unit) (fun _=>[(0,.row 201 0 0 n),(1,.i .i64 ((a:Nat):Int)),(2,.i .i64 ((b:Nat):Int)),(3,.i .i64 ((X.lim:Nat):Int)),(4,.fn 253 [.own 210 0 0] []),(10,.b wb),(11,.b wp),(12,.i .i64 ((b-a:Nat):Int)),(13,.i .i64 ((X.pivot:Nat):Int)),(14,.i .i64 (Go.Sort.hintCode X.hint))]) (fun _=>gl q [210,201] (ioB l n (X.d2))) (fun _=>True) ?_ fun _ _=>?_
 ·refine AW.cond rfl (fun h2=>?_) (fun h2=>?_)
  ·have k2:X.c.2 = .decreasing:=of_decide_eq_true ((EM X.c.2).symm.trans h2)
   rw [if_pos k2] at q3 q4 q5
   have hrv:=GE l L hL n hl X.d1 s1 a b (by omega) hb
   rw [<- q3] at hrv
   have wa:IntKind.i64.wrap (((b:Nat):Int)-Int.ofNat 1)=((b-1:Nat):Int):=by rw [kA0];simp only [qH];omega
   have wc:IntKind.i64.wrap (((X.c.1:Nat):Int)-((a:Nat):Int))=((X.c.1-a:Nat):Int):=by rw [kA0];omega
   have wd:IntKind.i64.wrap (((b-1:Nat):Int)-((X.c.1-a:Nat):Int))=((X.pivot:Nat):Int):=by rw [q4,kA0];omega
   refine jA ?_
   refine RG.ownK [(210,210),(201,201)] [(210,210),(201,201)] 201 201 (bG (s2.trans s1.symm)) (fun q=>hrv q) rfl rfl rfl rfl rfl rfl rfl rfl rfl rfl rfl rfl rfl ?_
   refine wH rfl ?_;refine jB ?_
   refine AW.text ?_
   refine RG.runO ae 0 [(63,.i .i64 ((b-1:Nat):Int)),(66,.i .i64 ((X.c.1-a:Nat):Int)),(67,.i .i64 ((X.pivot:Nat):Int))] 400 rfl jD ?_
   refine jA ?_
   exact⟨(),trivial,⟨Rn.rowIs rfl rfl rfl,Rn.is rfl rfl,Rn.is rfl rfl,Rn.is rfl rfl,Rn.fnO rfl rfl rfl,Rn.is rfl rfl,Rn.is rfl rfl,Rn.is rfl rfl,Rn.is rfl rfl,Rn.is (by rw [q5];rfl) rfl,trivial⟩,ak rfl rfl rfl rfl rfl (rfl) (ah s2)⟩
  ·have k2:¬X.c.2 = .decreasing:=of_decide_eq_false ((EM X.c.2).symm.trans h2)
   rw [if_neg k2] at q3 q4 q5
   rw [q3,q4,q5]
   refine jA ?_
   exact⟨(),trivial,jQ,ak rfl rfl rfl rfl rfl (rfl) (ah s1)⟩
 clear q3 q4 q5
 refine jB ?_
 refine AW.cutT (ι:=Unit) (fun _=>[(0,.row 201 0 0 n),(1,.i .i64 ((a:Nat):Int)),(2,.i .i64 ((b:Nat):Int)),(3,.i .i64 ((X.lim:Nat):Int)),(4,.fn 253 [.own 210 0 0] []),(10,.b wb),(11,.b wp),(12,.i .i64 ((b-a:Nat):Int)),(13,.i .i64 ((X.pivot:Nat):Int)),(14,.i .i64 (Go.Sort.hintCode X.hint)),(75,.b (wb && wp && decide (X.hint = .increasing)))]) (fun _=>gl q [210,201] (ioB l n (X.d2))) (fun _=>True) ?_ fun _ _=>?_
 ·refine AW.text ?_
  cases wb
  ·refine wH rfl ?_;refine jB ?_
   exact⟨(),trivial,jQ,ak rfl rfl rfl rfl rfl (rfl) (ah s2)⟩
  cases wp
  ·refine wH rfl ?_;refine jB ?_
   exact⟨(),trivial,jQ,ak rfl rfl rfl rfl rfl (rfl) (ah s2)⟩
  refine wH rfl ?_;refine jB ?_
  exact⟨(),trivial,⟨Rn.rowIs rfl rfl rfl,Rn.is rfl rfl,Rn.is rfl rfl,Rn.is rfl rfl,Rn.fnO rfl rfl rfl,Rn.is rfl rfl,Rn.is rfl rfl,Rn.is rfl rfl,Rn.is rfl rfl,Rn.is rfl rfl,Rn.is (congrArg AV.b (by rw [uE,uE];exact H6 X.hint)) rfl,trivial⟩,ak rfl rfl rfl rfl rfl (rfl) (ah s2)⟩
 refine jB ?_
 refine AW.cutT (ι:=Unit) (fun _=>[(0,.row 201 0 0 n),(1,.i .i64 ((a:Nat):Int)),(2,.i .i64 ((b:Nat):Int)),(3,.i .i64 ((X.lim:Nat):Int)),(4,.fn 253 [.own 210 0 0] []),(10,.b wb),(11,.b wp),(12,.i .i64 ((b-a:Nat):Int)),(13,.i .i64 ((X.pivot:Nat):Int))]) (fun _=>gl q [210,201] (ioB l n (X.pi.1))) (fun _=>X.pi.2=false) ?_ fun _ hpi=>?_
 ·refine AW.cond rfl (fun h2=>?_) (fun h2=>?_)
  ·rw [if_pos h2] at q6
   have hpn:=FS l L hL n hl X.d2 s2 a b (by omega) hb
   rw [<- q6] at hpn
   refine jA ?_
   refine RG.ownK [(210,210),(201,201)] [(210,210),(201,201)] 201 201 (bG (s3.trans s2.symm)) (fun q=>hpn q) rfl rfl rfl rfl rfl rfl rfl rfl rfl rfl rfl rfl rfl ?_
   refine jH ?_
   refine AW.cond rfl (fun h3=>?_) (fun h3=>?_)
   ·rw [if_pos h3] at hG
    subst hG
    exact AW.ret (cO rfl (.inr rfl) (ak rfl rfl rfl rfl rfl (rfl) (ah s3)))
   ·refine jA ?_
    exact⟨(),h3,jQ,ak rfl rfl rfl rfl rfl (rfl) (ah s3)⟩
  ·rw [if_neg (by rw [h2];decide)] at q6
   have q7:X.pi.1=X.d2:=by rw [q6]
   have q8:X.pi.2=false:=by rw [q6]
   rw [q7]
   refine jA ?_
   exact⟨(),q8,jQ,ak rfl rfl rfl rfl rfl (rfl) (ah s2)⟩
 rw [if_neg (by rw [hpi];decide)] at hG
 clear q6 hpi
 refine jB ?_
 refine AW.cutT (ι:=Unit) (fun _=>[(0,.row 201 0 0 n),(1,.i .i64 ((a:Nat):Int)),(2,.i .i64 ((b:Nat):Int)),(3,.i .i64 ((X.lim:Nat):Int)),(4,.fn 253 [.own 210 0 0] []),(10,.b wb),(11,.b wp),(12,.i .i64 ((b-a:Nat):Int)),(13,.i .i64 ((X.pivot:Nat):Int)),(97,.b (decide (a>0) && !ltI l L X.pi.1[a-1]! X.pi.1[X.pivot]!))]) (fun _=>gl q [210,201] (ioB l n (X.pi.1))) (fun _=>True) ?_ fun _ _=>?_
 ·refine AW.draws aJ ?_
  by_cases g1:(0:Int)<((a:Nat):Int)
  ·refine RG.runO ae 0 [(82,.b true)] 400 rfl jD ?_
   refine wH rfl ?_;refine jI (ia (a-1) am ((X.pi.1).toList)) ?_;refine jL (lA (a-1) am (X.pi.1)) ?_
   refine wH rfl ?_;refine jI (ia (X.pivot) am ((X.pi.1).toList)) ?_;refine jL (lA (X.pivot) am (X.pi.1)) ?_
   refine wH rfl ?_
   refine RG.ownK [(210,210),(201,201)] [(210,210),(201,201)] 201 201 rfl (fun q=>bF l L hL n (X.pi.1) (X.pi.1[a-1]!) (X.pi.1[X.pivot]!) q (ah (by assumption))) rfl rfl rfl rfl rfl rfl rfl rfl rfl rfl rfl rfl rfl ?_
   refine wH rfl ?_;refine jB ?_
   exact⟨(),trivial,⟨Rn.rowIs rfl rfl rfl,Rn.is rfl rfl,Rn.is rfl rfl,Rn.is rfl rfl,Rn.fnO rfl rfl rfl,Rn.is rfl rfl,Rn.is rfl rfl,Rn.is rfl rfl,Rn.is rfl rfl,Rn.is (congrArg AV.b (by rw [qE (show a>0 by omega),uE];rfl)) rfl,trivial⟩,ak rfl rfl rfl rfl rfl (rfl) (ah s3)⟩
  ·refine RG.runO ae 0 [(82,.b false)] 400 rfl jD ?_
   refine jB ?_
   exact⟨(),trivial,⟨Rn.rowIs rfl rfl rfl,Rn.is rfl rfl,Rn.is rfl rfl,Rn.is rfl rfl,Rn.fnO rfl rfl rfl,Rn.is rfl rfl,Rn.is rfl rfl,Rn.is rfl rfl,Rn.is rfl rfl,Rn.is (congrArg AV.b (by rw [qC (show ¬a>0 by omega),uI])) rfl,trivial⟩,ak rfl rfl rfl rfl rfl (rfl) (ah s3)⟩
 cases hcb:(decide (a>0) && !ltI l L X.pi.1[a-1]! X.pi.1[X.pivot]!)
 rotate_left
 ·rw [if_pos hcb] at hG
  rw [qQ,vM,Bool.not_eq_true'] at hcb
  have hpe:=BK l L hL n hl X.pi.1 s3 a b X.pivot v1 v2 hb
  obtain⟨⟨mid,d4⟩,hx⟩:∃z,Go.Sort.partitionEqual (ltI l L) X.pi.1 a b X.pivot=z:=⟨_,rfl⟩
  obtain⟨g1,g2,g3,g4,_⟩:=Go.Sort.round_eq hS (Go.Sort.partitionEqual_holds _) hcb.1 v1 v2 (by omega) B3 hcb.2 hx
  rw [hx] at hpe hG
  simp only at hpe
  rw [if_pos ⟨g1,g2⟩] at hG
  simp only at hG
  have hn4:=g3.trans s3
  refine AW.cond rfl (fun _=>?_) (fun h1=>by cases h1)
  refine jA ?_
  refine RG.ownK [(210,210),(201,201)] [(210,210),(201,201)] 201 201 (bG (g3)) (fun q=>hpe q) rfl rfl rfl rfl rfl rfl rfl rfl rfl rfl rfl rfl rfl ?_
  refine jH ?_
  refine AW.exit ?_;first|(refine Eq.mpr (if_pos rfl) ?_)|(refine Eq.mpr (if_neg (by decide)) ?_;refine Eq.mpr (if_pos rfl) ?_)|(refine Eq.mpr (if_neg (by decide)) ?_;refine Eq.mpr (if_neg (by decide)) ?_;refine Eq.mpr (if_pos rfl) ?_);refine jA ?_
  exact⟨((mid,b,X.lim),(wb,wp),d4),⟨⟨⟨g2,hb,by show b-mid<=f;omega,by show X.lim<=1000;omega,hn4,g4⟩,hG⟩,by show b-mid<b-a;omega⟩,jQ,ak rfl rfl rfl rfl rfl (rfl) (ah hn4)⟩
 rw [if_neg (by rw [hcb];decide)] at hG
 clear hcb
 have hpt:=FM l L hL n hl X.pi.1 s3 a b X.pivot v1 v2 hb
 obtain⟨⟨mid,ap,d4⟩,hx⟩:∃z,Go.Sort.partition (ltI l L) X.pi.1 a b X.pivot=z:=⟨_,rfl⟩
 obtain⟨g1,g2,g3,g4,g5,g6,g7⟩:=Go.Sort.round_part hS (Go.Sort.partition_holds _) v1 v2 (by omega) B3 hx
 rw [hx] at hpt hG
 simp only at hpt hG
 rw [if_pos ⟨g1,g2⟩] at hG
 have hn4:=g3.trans s3
 have wL:IntKind.i64.wrap (((mid:Nat):Int)-((a:Nat):Int))=((mid-a:Nat):Int):=by rw [kA0];omega
 have wR:IntKind.i64.wrap (((b:Nat):Int)-((mid:Nat):Int))=((b-mid:Nat):Int):=by rw [kA0];omega
 have w8:IntKind.i64.wrap (Int.tdiv ((b-a:Nat):Int) (Int.ofNat 8))=(((b-a) / 8:Nat):Int):=by
  rw [Int.tdiv_eq_ediv_of_nonneg (by omega),kA0];simp only [qH];omega
 have wI:IntKind.i64.wrap (((mid:Nat):Int)+Int.ofNat 1)=((mid+1:Nat):Int):=by rw [kA0];simp only [qH];omega
 refine AW.cond rfl (fun h1=>by cases h1) (fun _=>?_)
 refine jA ?_
 refine RG.ownK [(210,210),(201,201)] [(210,210),(201,201)] 201 201 (bG (g3)) (fun q=>hpt q) rfl rfl rfl rfl rfl rfl rfl rfl rfl rfl rfl rfl rfl ?_
 refine wH rfl ?_;refine jB ?_;refine wF ?_;refine wH rfl ?_;refine jB ?_
 refine AW.text ?_
 refine RG.runO ae 0 [(117,.i .i64 ((mid-a:Nat):Int)),(120,.i .i64 ((b-mid:Nat):Int))] 400 rfl jD ?_
 refine zB ?_
 refine RG.runO ae 0 [(122,.i .i64 (((b-a) / 8:Nat):Int))] 400 rfl jD ?_
 refine jA ?_
 refine AW.cond rfl (fun h2=>?_) (fun h2=>?_)
 ·have k2:mid-a < b-mid := by
   have:=of_decide_eq_true h2
   omega
  rw [if_pos k2] at hG
  have ih:=IH (mid-a) (by omega) a mid X.lim d4 hn4 g1 (by omega) (qJ _) (by omega) g4
  obtain⟨l1,l2⟩:=Go.Sort.pdq_sorts (ltI l L) hS d4 a mid X.lim true true g1 (by omega) g4
  obtain⟨l3,_⟩:=g6 _ l1 l2
  have hn5:=l1.1.trans hn4
  refine jA ?_
  refine RG.ownK [(210,210),(201,201)] [(210,210),(201,201)] 201 201 (bG (l1.1)) (fun q=>ih q) rfl rfl rfl rfl rfl rfl rfl rfl rfl rfl rfl rfl rfl ?_
  refine jH ?_
  exact⟨((mid+1,b,X.lim),(decide (mid-a>=(b-a) / 8),ap),Go.Sort.pdq (ltI l L) d4 a mid X.lim true true),⟨⟨⟨by show mid+1<=b;omega,hb,by show b-(mid+1)<=f;omega,by show X.lim<=1000;omega,hn5,l3⟩,hG⟩,by show b-(mid+1)<b-a;omega⟩,⟨Rn.rowIs rfl rfl rfl,Rn.is (congrArg (AV.i .i64) wI) rfl,Rn.is rfl rfl,Rn.is rfl rfl,Rn.fnO rfl rfl rfl,Rn.is (congrArg AV.b (decide_eq_decide.2 (by omega))) rfl,Rn.is rfl rfl,trivial⟩,ak rfl rfl rfl rfl rfl (rfl) (ah hn5)⟩
 ·have k2:¬ mid-a < b-mid := by
   have:=of_decide_eq_false h2
   omega
  rw [if_neg k2] at hG
  have ih:=IH (b-(mid+1)) (by omega) (mid+1) b X.lim d4 hn4 (by omega) hb (qJ _) (by omega) g5
  obtain⟨l1,l2⟩:=Go.Sort.pdq_sorts (ltI l L) hS d4 (mid+1) b X.lim true true (by omega) (by omega) g5
  obtain⟨l3,_⟩:=g7 _ l1 l2
  have hn5:=l1.1.trans hn4
  refine jB ?_;refine wF ?_;refine wH rfl ?_;refine jB ?_
  refine AW.text ?_
  refine RG.runO ae 0 [(142,.i .i64 ((mid+1:Nat):Int))] 400 rfl jD ?_
  refine RG.ownK [(210,210),(201,201)] [(210,210),(201,201)] 201 201 (bG (l1.1)) (fun q=>ih q) rfl rfl rfl rfl rfl rfl rfl rfl rfl rfl rfl rfl rfl ?_
  refine jH ?_
  exact⟨((a,mid,X.lim),(decide (b-mid>=(b-a) / 8),ap),Go.Sort.pdq (ltI l L) d4 (mid+1) b X.lim true true),⟨⟨⟨g1,by show mid<=n;omega,by show mid-a<=f;omega,by show X.lim<=1000;omega,hn5,l3⟩,hG⟩,by show mid-a<b-a;omega⟩,⟨Rn.rowIs rfl rfl rfl,Rn.is rfl rfl,Rn.is rfl rfl,Rn.is rfl rfl,Rn.fnO rfl rfl rfl,Rn.is (congrArg AV.b (decide_eq_decide.2 (by omega))) rfl,Rn.is rfl rfl,trivial⟩,ak rfl rfl rfl rfl rfl (rfl) (ah hn5)⟩
end Go.Proofs.YtdidjpohnopihaaGreat.Sm
end
section
namespace Go.Proofs.YtdidjpohnopihaaGreat.Sm
open Go.RowKit
open Go.Sort (swp)
open Go.Sort (SWO Below PermIn SortedIn)
theorem xw {l:List Rl}{L:Nat}{x y:Fin (L+1)}:ltI l L x y=true↔dt l y.1<dt l x.1\/(dt l y.1=dt l x.1/\x.1<y.1):=by
 rw [ltI,vM,FH]
 generalize dt l y.1=p
 generalize dt l x.1=r
 by_cases h1:p<r
 ·have e:du p r = -1:=by rw [du,if_pos h1]
  rw [e]
  exact⟨fun _=>.inl h1,fun _=>by rw [orI,if_pos (by decide)];decide⟩
 by_cases h2:r<p
 ·have e:du p r=1:=by rw [du,if_neg h1,if_pos h2]
  rw [e]
  exact⟨fun h=>absurd h (by simp [orI]),fun h=>by omega⟩
 have e:du p r=0:=by rw [du,if_neg h1,if_neg h2]
 rw [e]
 have hpr:p=r:=by omega
 by_cases h3:x.1<y.1
 ·have e:du ((x.1:Nat):Int) ((y.1:Nat):Int) = -1:=by rw [du,if_pos (by omega)]
  rw [e]
  exact⟨fun _=>.inr ⟨hpr,h3⟩,fun _=>by decide⟩
 by_cases h4:y.1<x.1
 ·have e:du ((x.1:Nat):Int) ((y.1:Nat):Int)=1:=by rw [du,if_neg (by omega),if_pos (by omega)]
  rw [e]
  exact⟨fun h=>absurd h (by simp [orI]),fun h=>by omega⟩
 have e:du ((x.1:Nat):Int) ((y.1:Nat):Int)=0:=by rw [du,if_neg (by omega),if_neg (by omega)]
 rw [e]
 exact⟨fun h=>absurd h (by simp [orI]),fun h=>by omega⟩
theorem ux {l:List Rl}{L:Nat}{x y:Fin (L+1)}:ltI l L x y=false↔¬(dt l y.1<dt l x.1\/(dt l y.1=dt l x.1/\x.1<y.1)):=by
 rw [<- xw,Bool.not_eq_true]
theorem p9 (l:List Rl)(L:Nat):SWO (ltI l L) where
 irrefl x:=by rw [ux];omega
 trans x y z h1 h2:=by rw [xw] at *;omega
 ntrans x y z h1 h2:=by rw [ux] at *;omega
theorem CX (l:List Rl)(L:Nat)(hL:l.length=L+1)(n:Nat)(hl:n<=100000)(h256:n<256)(d:Array (Fin (L+1)))(hn:d.size=n)(q:Nat->Option (Nat × Nat)):aj Tryz.prog 252 [.row 201 0 0 n,.fn 253 [.own 210 0 0] []] (gl q [210,201] (ioB l n (d))) (.tup []) (gl q [210,201] (ioB l n (Go.Sort.pdq (ltI l L) d 0 n (Go.Sort.bitsLen n) true true))):=by
 refine aj.of_body Tryz.func252 rfl (by kernel_rfl) rfl rfl ?_
 have hr:=uf (bQ ((n:Nat):Int)) (by rw [kJ h256];exact h256)
 rw [kJ h256] at hr
 have h8:=lv h256
 have hp:=Ib l L hL n hl h256 (p9 l L) n 0 n (Go.Sort.bitsLen n) d hn (qR _) (qJ _) (Nat.sub_le _ _) (by omega) (.inl rfl)
 obtain⟨l1,_⟩:=Go.Sort.pdq_sorts (ltI l L) (p9 l L) d 0 n (Go.Sort.bitsLen n) true true (qR _) (by omega) (.inl rfl)
 refine jA ?_
 refine jc hr ?_
 refine wH rfl ?_
 refine RG.ownK [(210,210),(201,201)] [(210,210),(201,201)] 201 201 (bG (l1.1)) (fun q=>hp q) rfl rfl rfl rfl rfl rfl rfl rfl rfl rfl rfl rfl rfl ?_
 refine jH ?_
 exact cO rfl (.inl rfl) (ak rfl rfl rfl rfl rfl (rfl) (ah (l1.1.trans hn)))
def nz (L:Nat):Array (Fin (L+1)):=Array.ofFn id
theorem jq (L:Nat):(nz L).size=L+1:=by simp [nz]
theorem ta (L:Nat):(nz L).toList.map (fun x=>x.1)=List.range (L+1):=by
 apply List.ext_getElem
 ·simp [nz]
 ·intro i h1 h2
  rw [List.getElem_map,Array.getElem_toList]
  simp only [nz,Array.getElem_ofFn,List.getElem_range]
  rfl
theorem Cj (L:Nat):(List.range (L+1)).map ea=(nz L).toList.map am:=by
 rw [<- ta,List.map_map];rfl
theorem l8 {α:Type}(d:Array α){n:Nat}(h:d.size=n):d.extract 0 n=d:=by
 subst h
 simp
theorem Ct {L:Nat}{D:Array (Fin (L+1))}(h:D.size=L+1):AV.sl (((D.toList.map am).drop 0).take (L+1))=AV.sl (D.toList.map am):=by
 rw [uR,vL (by rw [qG,qL,h];exact qJ _)]
theorem rP (l:List Rl)(hl:l.length<256):j4 l:=by
 cases hlen:l.length with
 |zero=>
  obtain rfl:l=[]:=uD.1 hlen
  exact t7 (fun k x y h=>by simp at h) (by decide)
 |succ L=>
 have hS:=p9 l L
 obtain⟨l1,l2⟩:=Go.Sort.pdq_sorts (ltI l L) hS (nz L) 0 (L+1) (Go.Sort.bitsLen (L+1)) true true (qR _) (by rw [jq];exact qJ _) (.inl rfl)
 have hm:=CX l L hlen (L+1) (by omega) (by omega) (nz L) (jq L)
 generalize Go.Sort.pdq (ltI l L) (nz L) 0 (L+1) (Go.Sort.bitsLen (L+1)) true true=D at l1 l2 hm
 have hD:D.size=L+1:=l1.1.trans (jq L)
 refine⟨D.toList.map (fun x=>x.1),?_,?_,?_⟩
 ·have h3:=l1.2.2
  rw [l8 _ hD,l8 _ (jq L)] at h3
  rw [hlen,<- ta]
  exact h3.map _
 ·rw [List.pairwise_iff_getElem]
  intro i j hi hj hij
  rw [qG,qL] at hi hj
  have h4:=l2 i j (qR _) hij (by omega)
  rw [ux] at h4
  rw [List.getElem_map,List.getElem_map,Array.getElem_toList,Array.getElem_toList,<- getElem!_pos D i hi,<- getElem!_pos D j hj]
  generalize D[i]! = x at h4
  generalize D[j]! = y at h4
  show dt l y.1<dt l x.1\/(dt l y.1=dt l x.1/\x.1<=y.1)
  omega
 rw [show (D.toList.map (fun x=>x.1)).map ea=D.toList.map am by rw [List.map_map];rfl]
 refine jb Tryz.func244 ?_
 refine jB ?_;refine wF ?_;refine wH rfl ?_;refine jB ?_;refine wF ?_;refine wH rfl ?_;refine jB ?_
 refine AW.nilRow 40 0 3 1 [(0,.sl (l.map cRl)),(3,.own 7 0 0)] [(7,⟨0,some (.box 322 [.sl (l.map cRl),.row 40 0 0 0])⟩),(40,⟨0,some (.row 3 1 [])⟩)] ⟨.rn (Rn.is rfl rfl),.rn (Rn.ownIs rfl rfl rfl),trivial⟩ ⟨.boxL rfl ⟨RnN.is rfl rfl,.nil rfl,trivial⟩ rfl,.old (.row rfl rfl),trivial⟩ ?_
 refine jA ?_
 have hmx:l.length<=9223372036854775807:=by omega
 refine AW.loopL (ι:=Nat × List Nat) (fun i=>[(3,.own 7 0 0),(8,.sl (l.map cRl)),(9,.i .i64 (l.map cRl).length),(10,.i .i64 (i.1:Nat))]) (fun i=>[(7,⟨0,some (.box 322 [.sl (l.map cRl),.row 40 0 0 (i.2.map ea).length])⟩),(40,⟨0,some (.row 3 1 (i.2.map ea))⟩)]) (fun i=>i.1<=l.length/\i.2=List.range i.1) (fun i=>l.length-i.1) (0,[]) ⟨qR _,rfl⟩ jW ⟨.boxL rfl jQ rfl,.row rfl rfl,trivial⟩ fun i hi=>?_
 obtain⟨k,out⟩:=i
 obtain⟨hk,ho⟩:=hi
 simp only at hk ho
 refine jA ?_
 refine AW.cond rfl (fun h0=>?_) (fun h0=>?_)
 ·have h:k<l.length:=by simpa using h0
  have hL:out.length<=100000000:=by rw [ho,List.length_range];omega
  refine jA ?_
  refine RG.opS rfl (bI ea out k hL rfl rfl rfl rfl (tk rfl) rfl (tk rfl) rfl rfl ⟨_,rfl,rfl⟩ rfl rfl) rfl ?_;refine jH ?_
  exact⟨(k+1,out++[k]),⟨⟨h,by show out++[k]=List.range (k+1);rw [ho,List.range_succ]⟩,by show l.length-(k+1)<l.length-k;omega⟩,jV,⟨.boxL rfl jQ rfl,.row rfl rfl,trivial⟩⟩
 ·have h:¬k<l.length:=by simpa using h0
  obtain rfl:k=l.length:=by omega
  rw [hlen] at ho
  have hrow:out.map ea=(nz L).toList.map am:=by rw [ho,Cj]
  have hlo:(out.map ea).length=L+1:=by rw [hrow,qG,qL,jq]
  refine AW.only [(3,.own 7 0 0)] [(7,⟨0,some (.box 322 [.sl (l.map cRl),.row 40 0 0 (L+1)])⟩),(40,⟨0,some (.row 3 1 ((nz L).toList.map am))⟩)] jQ ⟨.boxL rfl ⟨Rn.is rfl rfl,Rn.rowTIs (by rw [<- hlo]) rfl rfl (ah (jq L)),trivial⟩ rfl,.row rfl hrow,trivial⟩ ?_
  refine zE ?_
  refine RG.ownK [(7,210),(40,201)] [(210,7),(201,40)] 40 201 (bG l1.1) hm rfl rfl rfl rfl rfl rfl rfl rfl rfl rfl rfl rfl rfl ?_
  refine zH ?_
  exact Ct hD
end Go.Proofs.YtdidjpohnopihaaGreat.Sm
end
section
namespace Go.Proofs.YtdidjpohnopihaaGreat.Sm
open Go.RowKit Go.WideShapes Go.ChangeShapes Go.Deep
section
variable {H:Type} {P:Program}
theorem iL {e:TypeId}:∀{ds:List (DataW H)} {d:DataW H},d∈ds->∀n∈d.weights P e,n∈DataW.weightsAll P e ds
 |d0::ds,d,hd,n,hn=>by
  simp only [DataW.weightsAll,vB]
  rcases vA.1 hd with rfl|hd
  ·exact .inl hn
  ·exact .inr (iL hd n hn)
end
def RdZ {α:Type}(P:Program)(t:TypeId)(R:Rep α)(Q:α->Prop):Prop :=
 ∀(H:Type) (enc:TypeId × Value->H) (w:World) (base:Nat) (spare:Nat->Bool) (held:Bool) (fuel:Nat) (cs:List Value) (x:DataW H × List MemPlace),
  DataW.trod enc P w base spare held fuel t cs=some x->(∀k∈x.1.weights P t,k<=reachBytes)->∃a:α,R.rel w (fun b=>b<w.heap.size) a cs/\Q a
theorem om {α:Type}{r:α->List Value->Prop}{Q:α->Prop}:∀{xs:List α} {cs:List Value},eo (fun a c=>r a c/\Q a) xs cs->eo r xs cs/\∀a∈xs,Q a
 |[],cs,h=>⟨h,fun a ha=>by cases ha⟩
 |x::xs,cs,⟨c1,c2,h1,h2,h3⟩=>by
  obtain⟨g1,g2⟩:=om h3
  refine⟨⟨c1,c2,h1,h2.1,g1⟩,fun a ha=>?_⟩
  rcases vA.1 ha with rfl|ha
  ·exact h2.2
  ·exact g2 a ha
theorem RdZ.slice {α:Type}{P:Program}{t e:TypeId}{R:Rep α}{Q:α->Prop}(hR:RdZ P e R Q)(ht:P.underlying t=some (.slice e))(hn:P.cellsOf e=R.n)(h0:0<R.n)(hb:0<P.bytesOf e):RdZ P t R.slice (fun l=>l.length<=reachBytes/\∀a∈l,Q a):=by
 intro H enc w base spare held fuel cs x hx hz
 rcases open_slice ht hx with⟨rfl,_⟩|⟨a,len,cap,m,n,D,Pl,rfl,_,hlc,hcm,hm,rfl,hel⟩
 ·exact⟨[],⟨_,rfl,bb.nil _ _ _⟩,qR _,fun a ha=>by cases ha⟩
 ·have hlm:len<=m:=by rw [hm];split <;> omega
  simp only [DataW.weights,ht] at hz
  have hlen:len<=reachBytes:=by
   have h1:=hz _ vD
   rw [qG,List.length_range] at h1
   have h2:len*1<=(len+(List.map (fun j=>D (len+j)) (List.range (m-len))).length)*P.bytesOf e:=Nat.mul_le_mul (Nat.le_add_right _ _) hb
   omega
  have hzi:∀i,i<len->∀k∈(D i).weights P e,k<=reachBytes:=fun i hi k hk=>by
   refine hz k (qZ _ (vS _ ?_))
   exact iL (qX (uV.2 hi)) k hk
  by_cases hp:0<len
  ·have hspot:a = ⟨a.block,a.off,none⟩ /\ a.block < w.heap.size := by
    obtain⟨cs',hc,_⟩:=hel 0 (by omega)
    obtain⟨_,hl,hat⟩:=World.cells?_some hc
    have h1:=hat 0 (by rw [hn];exact h0)
    have e:(a.add (0*P.cellsOf e)).add 0=a:=by simp [Addr.add]
    rw [e,qA (by rw [hl,hn];exact h0)] at h1
    refine⟨?_,World.block_lt_of_cell? w a h1⟩
    unfold World.cell? at h1
    split at h1
    ·split at h1
     ·cases h1
     ·rename_i hs
      obtain⟨ab,ao,asp⟩:=a
      cases asp with
      |none=>rfl
      |some k=>simp at hs
    ·cases h1
   obtain⟨xs,cells,h1,h2,h3⟩:=eW (r:=fun a c=>R.rel w (fun b=>b<w.heap.size) a c/\Q a) (n:=R.n) (fun _ _ h=>R.len h.1) w a.block a.off len fun i hi=>by
    obtain⟨cs',hc,ht'⟩:=hel i (by omega)
    obtain⟨y,hy,hq⟩:=hR H enc w base spare held n cs' _ ht' (hzi i hi)
    obtain⟨_,hl,hat⟩:=World.cells?_some hc
    refine⟨y,cs',⟨hy,hq⟩,fun j u hu=>?_⟩
    have hj:j<P.cellsOf e:=by have:=(qD.1 hu).1;omega
    have:=hat j hj
    rw [hu,hn,hspot.1] at this
    rw [show ((⟨a.block,a.off,none⟩:Addr).add (i*R.n)).add j=⟨a.block,a.off+(i*R.n+j),none⟩ by
     unfold Addr.add
     by_cases h1:i*R.n=0 <;> by_cases h2:j=0 <;> simp [h1,h2,Nat.add_assoc]] at this
    exact this
   obtain⟨g1,g2⟩:=om h2
   exact⟨xs,⟨_,rfl,some a,cap,by rw [h1],by omega,hcm,fun _=>⟨a.block,a.off,by rw [<- hspot.1],hspot.2,hspot.2,cells,g1,h3⟩⟩,by rw [h1];exact hlen,g2⟩
  ·obtain rfl:len=0:=by omega
   exact⟨[],⟨_,rfl,some a,cap,rfl,qR _,hcm,fun h=>absurd h (Nat.lt_irrefl _)⟩,qR _,fun a ha=>by cases ha⟩
structure RdA {α:Type}(P:Program)(t:TypeId)(n:Nat)(enc:α->List AV)(Q:α->Prop):Prop where
 len:∀a,(enc a).length=n
 one:∀a,∀y∈enc a,y.one=true
 read:∀(H:Type) (e:TypeId × Value->H) (w:World) (base:Nat) (spare:Nat->Bool) (held:Bool) (fuel:Nat) (cs:List Value) (x:DataW H × List MemPlace),
  DataW.trod e P w base spare held fuel t cs=some x->(∀k∈x.1.weights P t,k<=reachBytes)->∃a:α,PWs w (fun b=>b<w.heap.size) (enc a) cs/\Q a
section
variable {P:Program} {t:TypeId}
theorem RdA.of {α:Type}{n:Nat}{enc:α->List AV}(h:bz P t n enc):RdA P t n enc (fun _=>True):=⟨h.len,h.one,fun H e w base spare held fuel cs x hx _=>by
 obtain⟨a,ha⟩:=h.read H e w base spare held fuel cs x hx
 exact⟨a,ha,trivial⟩⟩
theorem RdA.slice {α:Type}{e:TypeId}{n:Nat}{enc:α->List AV}{Q:α->Prop}(h:RdA P e n enc Q)(ht:P.underlying t=some (.slice e))(hn:P.cellsOf e=n)(h0:0<n)(hb:0<P.bytesOf e):RdA P t 1 (fun l:List α=>[.sl (l.map enc)]) (fun l=>l.length<=reachBytes/\∀a∈l,Q a):=by
 have E:=(rf h.len h.one).slice h0
 refine⟨E.len,E.one,fun H e w base spare held fuel cs x hx hz=>?_⟩
 have hR:RdZ P _ (avR n enc h.len h.one) Q:=fun H e w base spare held fuel cs x hx hz=>h.read H e w base spare held fuel cs x hx hz
 obtain⟨a,ha,hq⟩:=hR.slice ht hn h0 hb H e w base spare held fuel cs x hx hz
 exact⟨a,⟨by rw [(avR n enc h.len h.one).slice.len ha,E.len],fun j y hj=>E.one a y (qN hj),fun j y v hj hv=>E.to ha j y v hj hv⟩,hq⟩
theorem RdA.part {α:Type}{ty n off:Nat}{enc:α->List AV}{Q:α->Prop}(h:RdA P ty n enc Q){H:Type}{e:TypeId × Value->H}{w:World}{base:Nat}{spare:Nat->Bool}{held:Bool}{cs:List Value}{m:Nat}
  (hp:∃y,DataW.trod e P w base spare held m ty ((cs.drop off).take n)=some y/\∀k∈y.1.weights P ty,k<=reachBytes):∃a:α,PWs w (fun b=>b<w.heap.size) (enc a) ((cs.drop off).take n)/\Q a:=by
 obtain⟨y,hy,hz⟩:=hp
 exact h.read H e w base spare held m _ y hy hz
theorem gH {fs:Array Field}(ht:P.underlying t=some (.struct fs)){H:Type}{enc:TypeId × Value->H}{w:World}{base:Nat}{spare:Nat->Bool}{held:Bool}{fuel:Nat}{cs:List Value}{x:DataW H × List MemPlace}
  (hx:DataW.trod enc P w base spare held fuel t cs=some x) (hz:∀k∈x.1.weights P t,k<=reachBytes):∃m,cs.length=P.cellsOf t/\∀(j ty off n:Nat),(fs[j]?).map (fun f=>(f.type,f.offset))=some (ty,off)->P.cellsOf ty=n ->
   ∃y,DataW.trod enc P w base spare held m ty ((cs.drop off).take n)=some y/\∀k∈y.1.weights P ty,k<=reachBytes:=by
 obtain⟨xs,n,_,rfl,hl,hxs,hf⟩:=DataW.trod_struct ht hx
 simp only [DataW.weights,ht] at hz
 refine⟨n,hl,fun j ty off k hj hk=>?_⟩
 cases hfj:fs[j]? with
 |none=>rw [hfj] at hj;cases hj
 |some f=>
  rw [hfj] at hj
  simp only [Option.map_some,qU,vC] at hj
  have h:=hf j f hfj
  rw [hj.1,hj.2,hk] at h
  have hlt:j<xs.length:=by rw [hxs];exact (qI.1 hfj).1
  refine⟨xs[j],by rw [h,qA hlt],fun n' hn'=>hz n' ?_⟩
  refine DataW.weights_mem_each (j:=j) (t:=ty) (d:=xs[j].1) ?_ ?_ n' hn'
  ·rw [qF,vO,hfj,Option.map_some,hj.1]
  ·rw [qF,qA hlt];rfl
variable {H:Type} {e:TypeId × Value -> H} {W:World} {base b0:Nat} {spare:Nat -> Bool} {held:Bool} {v:Value} {d:DataW H} {p:List MemPlace}
theorem RdA.arg_struct {α:Type}{n:Nat}{enc:α->List AV}{Q:α->Prop}(h:RdA P t n enc Q){fs:Array Field}(ht:P.underlying t=some (.struct fs)){ts:List TypeId}{ds:List (DataW H)}(hsz:(DataW.weightsEach P ts ds).all (·<=reachBytes)=true)(j:Nat)(hj:ts[j]?=some t)(hdj:ds[j]?=some d)(ho:Value.okWide P W .any b0 t v)(hd:DataW.Trod e P W base spare held t v d p) :
  ∃a:α,au W (fun b=>b<W.heap.size) (.agg (enc a)) v/\Q a:=by
 obtain⟨cs,rfl,hs⟩:=okWide_struct ht ho
 obtain⟨fuel,hf⟩:=hd
 obtain⟨a,ha,hq⟩:=h.read H e W base spare held fuel _ _ hf fun k hk=>by
  have:=qV.1 hsz _ (DataW.weights_mem_each hj hdj k hk)
  simpa using this
 have hc:(Value.cells (.agg cs)).toList=cs.toList:=by simp [Value.cells]
 rw [hc] at ha
 refine⟨a,?_,hq⟩
 have:=au.agg (W:=W) (F:=fun b=>b<W.heap.size) (enc a) cs.toList ha.len ha.one ha.rel
 simpa using this
end
def Cf.Lens (c:Cf):Prop:=∀t∈c.tables,∀l∈t,l.length<=reachBytes
end Go.Proofs.YtdidjpohnopihaaGreat.Sm
end
section
namespace Go.Proofs.YtdidjpohnopihaaGreat.Sm
open Go.RowKit
def zZ:Cb:=⟨⟨0,1⟩,⟨0,1⟩⟩
def Af:Rl:=⟨0,Cb.zero,⟨1,0,0,Cb.zero⟩⟩
def sB:List Rl:=[⟨1,zZ,⟨3,1,0,Cb.zero⟩⟩,Af]
def F6:List Rl:=[⟨1,zZ,⟨2,1,0,Cb.zero⟩⟩,Af]
def qq:List (List Pt):=[[⟨1,0,0,0,0⟩,⟨2,0,1,0,1⟩],[⟨2,0,0,1,1⟩,⟨1,0,0,0,0⟩]]
def br:Cf:=⟨⟨qq⟩,⟨1,[],[]⟩,[[sB],[F6]]⟩
def RmL (π:List (Nat × Nat))(σ σ':Sto):List AV->List AV->Prop
 |[],[]=>True
 |x::xs,y::ys=>(Rm π σ σ' x y/\y.one=true)/\RmL π σ σ' xs ys
 |_,_=>False
theorem RmL.ok {π:List (Nat × Nat)}{σ σ':Sto}:∀{xs ys:List AV},RmL π σ σ' xs ys->ys.length=xs.length/\∀(j:Nat) (x y:AV),xs[j]?=some x->ys[j]?=some y->Rm π σ σ' x y/\y.one=true
 |[],[],_=>⟨rfl,fun j x y h=>by simp at h⟩
 |x::xs,y::ys,h=>by
  obtain⟨h1,h2⟩:=h
  obtain⟨g1,g2⟩:=RmL.ok h2
  refine⟨by rw [qS,qS,g1],fun j a b ha hb=>?_⟩
  cases j with
  |zero=>
   obtain rfl:x=a:=by simpa using ha
   obtain rfl:y=b:=by simpa using hb
   exact h1
  |succ j=>exact g2 j a b (by simpa using ha) (by simpa using hb)
 |[],y::ys,h=>h.elim
 |x::xs,[],h=>h.elim
theorem Rm.aggL {π:List (Nat × Nat)}{σ σ':Sto}{z:AV}{xs ys:List AV}(e:z = .agg xs)(h:RmL π σ σ' xs ys):Rm π σ σ' z (.agg ys):=by
 subst e
 obtain⟨g1,g2⟩:=h.ok
 refine .agg g1 (fun j y hy=>?_) fun j x y hx hy=>(g2 j x y hx hy).1
 obtain⟨x,hx⟩:∃x,xs[j]?=some x:=⟨_,qA (by rw [<- g1];exact (qD.1 hy).1)⟩
 exact (g2 j x y hx hy).2
theorem Rm.refIs {π:List (Nat × Nat)}{σ σ':Sto}{x:AV}{id id' ep ep':Nat}{k:RK}{bd bd':aE}(e:x = .ref id ep k)(hm:lkP π id=some id')(h:σ id=⟨ep,some bd⟩)(h':σ' id'=⟨ep',some bd'⟩):Rm π σ σ' x (.ref id' ep' k):=e ▸ .ref (gO hm) h h'
theorem ub:br.sound=0:=by kernel_rfl
theorem sI {α:Type}{l:List α}:∀{ls:List (List α)},l∈ls->l.length<=ls.flatten.length
 |x::ls,h=>by
  rw [uN,qK]
  rcases vA.1 h with rfl|h
  ·omega
  ·have:=sI h
   omega
theorem Cf.small {c:Cf}(h0:c.sound=0)(hL:c.Lens):c.Small:=by
 have hc:=Cf.ok h0
 intro t ht
 obtain⟨n,hn⟩:=List.mem_iff_getElem?.1 ht
 have h3:=(cY (hc.tabs n t hn)).2.1
 have h4:=jN t (hL t ht)
 have h5:reachBytes*t.length<=reachBytes*3:=Nat.mul_le_mul_left _ h3
 have h6:reachBytes*3<=1000000000000000:=by decide
 omega
theorem ll {c:Cf}(h0:c.sound=0)(hL:c.Lens):kg c:=by
 have hc:=Cf.ok h0
 have hs:=Cf.small h0 hL
 intro n t
 have hnil:j4 []:=rP [] (by decide)
 rw [aX,qM,qM]
 cases h1:c.tables[n]? with
 |none=>exact hnil
 |some tb=>
  show j4 (tb[t]?.getD [])
  cases h2:tb[t]? with
  |none=>exact hnil
  |some l=>
   have h3:=cY (hc.tabs n tb h1)
   have h4:=hs tb (qN h1)
   have h5:=jY tb 0 (by omega)
   have h6:=sI (qN h2)
   have h7:((0:Nat):Int)=0:=rfl
   rw [h7] at h5
   exact rP l (by omega)
def ph (l:List Cb):List Cb:=(jM ltC l.toArray).toList
theorem cH (l:List Cb):(ph l).Perm l:=rT l
def dJ (c:Cf)(V:Int):Vd:=mC c V (ph (aL c V))
theorem dH {c:Cf}{V:Int}(h:dD c V=0):c.sound=0:=by
 rw [dD] at h
 split at h
 ·assumption
 ·exact h
theorem rY (c:Cf)(V:Int)(hL:c.Lens):aa Tryz.prog 21 [.agg (cCf c),.i .i64 V] (.agg (cVd (dJ c V))) :=
 Eg c V _ (fun h=>ll (dH h) hL) (fun h=>Cf.small (dH h) hL) (fun _=>cH _) fun _ h=>s4 _ (by omega)
theorem l9 (c:Cf)(V:Int)(s:Sp):∀(l:List aG),(me c V s l=none/\∀a∈l,de c s (bD c s a.head V 10800)=0) \/
  ∃a∈l,de c s (bD c s a.head V 10800)≠0/\me c V s l=some ⟨2,0,de c s (bD c s a.head V 10800),s,a.head,bD c s a.head V 10800⟩
 |[]=>.inl ⟨rfl,fun a ha=>by cases ha⟩
 |a::l=>by
  rw [me]
  by_cases h:de c s (bD c s a.head V 10800)=0
  ·rw [qE h,cond_true]
   rcases l9 c V s l with⟨h1,h2⟩|⟨b,hb,h1,h2⟩
   ·refine .inl ⟨h1,fun b hb=>?_⟩
    rcases vA.1 hb with rfl|hb
    ·exact h
    ·exact h2 b hb
   ·exact .inr ⟨b,qZ _ hb,h1,h2⟩
  ·rw [qC h,cond_false]
   exact .inr ⟨a,vD,h,rfl⟩
theorem lM (c:Cf)(V:Int)(l:List aG):∀(ss:List Sp),(jy c V l ss=vdE 1 0/\∀s∈ss,∀a∈l,de c s (bD c s a.head V 10800)=0) \/
  ∃s∈ss,∃a∈l,de c s (bD c s a.head V 10800)≠0/\jy c V l ss=⟨2,0,de c s (bD c s a.head V 10800),s,a.head,bD c s a.head V 10800⟩
 |[]=>.inl ⟨rfl,fun s hs=>by cases hs⟩
 |s::ss=>by
  rw [jy]
  rcases l9 c V s l with⟨h1,h2⟩|⟨a,ha,h1,h2⟩
  ·rw [h1]
   rcases lM c V l ss with⟨h3,h4⟩|⟨s',hs',a,ha,h3,h4⟩
   ·refine .inl ⟨h3,fun s' hs'=>?_⟩
    rcases vA.1 hs' with rfl|hs'
    ·exact h2
    ·exact h4 s' hs'
   ·exact .inr ⟨s',qZ _ hs',a,ha,h3,h4⟩
  ·rw [h2]
   exact .inr ⟨s,vD,a,ha,h1,rfl⟩
theorem po {c:Cf}(h0:c.sound=0){s:Sp}(hs:s∈aI c.topo.ports)(r:Run):de c s r=cv c s r:=by
 have h:=(fo (Cf.ok h0).topo).2 hs
 rw [de,if_pos ⟨h0,by omega⟩]
theorem x7 {c:Cf}(h0:c.sound=0){v:Nat}(hv:v<=255):dD c (v:Int)=0:=by
 rw [dD,if_pos h0,if_neg (by omega)]
def Hop.zero:Hop:=⟨0,0,0,Hd.zero⟩
theorem ER (c:Cf)(V:Nat)(hV:V<=255)(h0:c.sound=0)(hL:c.Lens):aa Tryz.prog 46 [.agg (cCf c),.i .i64 (V:Nat)] (ofR (aL c (V:Nat)) (ph (aL c (V:Nat)))) :=
 HL c h0 (Cf.small h0 hL) V hV _ (cH _) fun h=>s4 _ (by omega)
theorem zN {c:Cf}{V:Int}(h:dD c V=0):c.sound=0/\∃v:Nat,V=v/\v<=255:=by
 refine⟨dH h,?_⟩
 rw [dD,if_pos (dH h)] at h
 split at h
 ·cases h
 ·exact⟨V.toNat,by omega,by omega⟩
open Go.Sort (swp)
theorem A9 (x:Int):aa Tryz.prog 197 [.i .i64 x] (.b false):=by
 refine jb Tryz.func197 ?_
 have hx:x=x:=rfl
 refine zR ?_
 exact congrArg AV.b (by simp)
def ltO (x y:Int):Bool:=decide (x<y)
theorem EL (x y:Int):aa Tryz.prog 147 [.i .i64 x,.i .i64 y] (.b (ltO x y)):=by
 refine jb Tryz.func147 ?_
 refine jA ?_
 refine jc (A9 x) ?_;refine jH ?_
 exact zS
end Go.Proofs.YtdidjpohnopihaaGreat.Sm
end
section
namespace Go.Proofs
open Go.Shelf
def Tryz.lays189_ren:Go.Shelf.Ren:=⟨fun|189=>62|125=>105|257=>104|128=>150|129=>151|294=>141|295=>142|296=>143|297=>144|298=>145|299=>146|216=>147|300=>148|301=>149|328=>192|329=>193|330=>194|331=>195|332=>196|215=>197|343=>228|n=>n,fun|28=>51|3=>3|46=>134|0=>0|51=>242|53=>32|4=>4|183=>235|182=>234|131=>116|5=>5|9=>9|218=>276|222=>280|228=>300|229=>301|n=>n,fun|n=>n⟩
theorem Tryz.lays189:Go.Proofs.Lays.n189 Tryz.prog Tryz.lays189_ren:={
 mixed:=by kernel_rfl
 f125:=Tryz.func105.trans (congrArg some (by kernel_rfl))
 f128:=Tryz.func150.trans (congrArg some (by kernel_rfl))
 f129:=Tryz.func151.trans (congrArg some (by kernel_rfl))
 f189:=Tryz.func62.trans (congrArg some (by kernel_rfl))
 f215:=Tryz.func197.trans (congrArg some (by kernel_rfl))
 f216:=Tryz.func147.trans (congrArg some (by kernel_rfl))
 f257:=Tryz.func104.trans (congrArg some (by kernel_rfl))
 f294:=Tryz.func141.trans (congrArg some (by kernel_rfl))
 f295:=Tryz.func142.trans (congrArg some (by kernel_rfl))
 f296:=Tryz.func143.trans (congrArg some (by kernel_rfl))
 f297:=Tryz.func144.trans (congrArg some (by kernel_rfl))
 f298:=Tryz.func145.trans (congrArg some (by kernel_rfl))
 f299:=Tryz.func146.trans (congrArg some (by kernel_rfl))
 f300:=Tryz.func148.trans (congrArg some (by kernel_rfl))
 f301:=Tryz.func149.trans (congrArg some (by kernel_rfl))
 f328:=Tryz.func192.trans (congrArg some (by kernel_rfl))
 f329:=Tryz.func193.trans (congrArg some (by kernel_rfl))
 f330:=Tryz.func194.trans (congrArg some (by kernel_rfl))
 f331:=Tryz.func195.trans (congrArg some (by kernel_rfl))
 f332:=Tryz.func196.trans (congrArg some (by kernel_rfl))
 f343:=Tryz.func228.trans (congrArg some (by kernel_rfl))
 t0:=Tryz.underlying0
 a0:=Tryz.isAgg0
 z0:=Tryz.sizeOf0
 v0:=Tryz.zeroValue0
 t3:=Tryz.underlying3
 a3:=Tryz.isAgg3
 z3:=Tryz.sizeOf3
 v3:=Tryz.zeroValue3
 t4:=Tryz.underlying4
 a4:=Tryz.isAgg4
 z4:=Tryz.sizeOf4
 v4:=Tryz.zeroValue4
 t5:=Tryz.underlying5
 a5:=Tryz.isAgg5
 z5:=Tryz.sizeOf5
 v5:=Tryz.zeroValue5
 t9:=Tryz.underlying9
 a9:=Tryz.isAgg9
 z9:=Tryz.sizeOf9
 v9:=Tryz.zeroValue9
 t28:=Tryz.underlying51
 a28:=Tryz.isAgg51
 z28:=Tryz.sizeOf51
 v28:=Tryz.zeroValue51
 t46:=Tryz.underlying134
 a46:=Tryz.isAgg134
 z46:=Tryz.sizeOf134
 v46:=Tryz.zeroValue134
 t51:=Tryz.underlying242
 a51:=Tryz.isAgg242
 z51:=Tryz.sizeOf242
 v51:=Tryz.zeroValue242
 t53:=Tryz.underlying32
 a53:=Tryz.isAgg32
 z53:=Tryz.sizeOf32
 v53:=Tryz.zeroValue32
 t131:=Tryz.underlying116
 a131:=Tryz.isAgg116
 z131:=Tryz.sizeOf116
 v131:=Tryz.zeroValue116
 t182:=Tryz.underlying234
 a182:=Tryz.isAgg234
 z182:=Tryz.sizeOf234
 v182:=Tryz.zeroValue234
 t183:=Tryz.underlying235
 a183:=Tryz.isAgg235
 z183:=Tryz.sizeOf235
 v183:=Tryz.zeroValue235
 t218:=Tryz.underlying276
 a218:=Tryz.isAgg276
 z218:=Tryz.sizeOf276
 v218:=Tryz.zeroValue276
 t222:=Tryz.underlying280
 a222:=Tryz.isAgg280
 z222:=Tryz.sizeOf280
 v222:=Tryz.zeroValue280
 t228:=Tryz.underlying300
 a228:=Tryz.isAgg300
 z228:=Tryz.sizeOf300
 v228:=Tryz.zeroValue300
 t229:=Tryz.underlying301
 a229:=Tryz.isAgg301
 z229:=Tryz.sizeOf301
 v229:=Tryz.zeroValue301 }
end Go.Proofs
namespace Go.Proofs.YtdidjpohnopihaaGreat.Sm
open Go.RowKit
def BH:Tr->Nat->Tr
 | .nil,_=>.nil
 | .node a b c _,k=>if k=0 then a else if k=1 then b else c
theorem ym (x:Cb)(a b c:Tr)(ids:List Nat)(n:Nat):ec x (.node a b c ids) (n+1)=ids++(gg x n).flatMap fun k=>ec x (BH (.node a b c ids) k) n:=by
 rw [ec]
 congr 1
 refine congrArg (fun f=>(gg x n).flatMap f) (funext fun k=>?_)
 show _=ec x (if k=0 then a else if k=1 then b else c) n
 split
 ·rfl
 ·split <;> rfl
theorem DK {x:Cb}{n k:Nat}(h:k∈gg x n):k<3:=by
 unfold gg at h
 split at h
 ·simp at h;omega
 ·rcases ra x n with h1|h1|h1 <;> rw [h1] at h <;> simp at h <;> omega
theorem CO (l m:List Nat):idC (l++m)=idC l++idC m:=uB ..
theorem B4 {W:World}{F:Nat->Prop}{ids:List Nat}{news:List Value}(h:dz W F 1 (ids.map cI1) news):news=idC ids:=by
 have hn:=h.n
 rw [qG,Nat.mul_one] at hn
 refine List.ext_getElem? fun k=>?_
 by_cases hk:k<ids.length
 ·obtain⟨_,u,h1,h2⟩:=h.r k (cI1 ids[k]) 0 (.i .i64 (ids[k]:Nat)) (by rw [qF,qA hk];rfl) rfl
  rw [Nat.mul_one,Nat.add_zero] at h1
  rw [h1,idC,qF,qA hk]
  exact congrArg some (aD rfl h2)
 ·rw [vX (by omega),idC,vX (by rw [qG];omega)]
theorem nL {w : World} {ops : Array Oper} {rest : List Oper} {o : Oper} {a : Act} {Q : Exit -> Act -> World -> Prop} (hgd : o.guard = none) (s x : Operand)
    (ho:o.op = .call { callee:=.builtin .append,args:=#[s,x],argTypes:=#[51,51] }) (v:Value) (l ids:List Nat) (hs:a.eval s=v) (hown:w.ownsRow 0 3 1 v l.length (idC l))
    (F:Nat->Prop) (y:Value) (hy:a.eval x=y) (hx:au w F (.sl (ids.map cI1)) y) (hb:l.length+ids.length<=1000000000)
    (h:∀v' w',w'.ownsRow 0 3 1 v' (l++ids).length (idC (l++ids))->w.grownBy w' v.ownBlock->(v'.ownBlock=v.ownBlock\/v'.ownBlock=some w.heap.size)->wpList Tryz.prog ops Q rest (a.put o.dst v') w'):wpList Tryz.prog ops Q (o::rest) a w :=
  kB1 hgd fun K hK=>by
    have hll:(l.map cI1).length=l.length:=qG ..
    have hil:(ids.map cI1).length=ids.length:=qG ..
    have ht:aB Tryz.prog 51 ⟨.slice 3,1,24,[.raw (.slice none 0 0)]⟩:=aW ae (by kernel_rfl)
    have hi:aB Tryz.prog 3 ⟨.int .i64,1,8,[.i .i64 0]⟩:=aW ae (by kernel_rfl)
    obtain⟨v',w',cells,hr,h1,⟨news,rfl,hn⟩,h3,h4⟩:=nX (n:=0) (ty:=o.type) ht rfl hi Nat.zero_lt_one (els:=l.map cI1) (els2:=ids.map cI1) (cells:=idC l) (F:=F) (y:=y) (by rw [hll];exact hown)
      ⟨fun k cs hk=>by
        rw [qF] at hk
        obtain⟨i,_,rfl⟩:=vT.1 hk
        rfl,by rw [hll,Nat.mul_one];exact qG ..,fun k cs j z hk hj=>by
        rw [qF] at hk
        obtain⟨i,hi,rfl⟩:=vT.1 hk
        match j,hj with
        |0,hj=>
          obtain rfl:=qB hj
          refine⟨rfl,.int .i64 ((i:Nat):Int),?_,.i _ _⟩
          rw [Nat.mul_one,Nat.add_zero,idC,qF,hi]
          rfl
        |j+1,hj=>simp [cI1] at hj⟩ (BE hx (fun cs hcs=>by
        obtain⟨i,_,rfl⟩:=vI.1 hcs
        rfl) (by decide)) (by rw [hll,hil];show (l.length+ids.length)*8<=_;omega) (by rw [hll,hil];omega)
    rw [qK,hll,hil,B4 hn,<- CO,<- qK] at h1
    unfold Oper.wp execOp
    simp only [ho,resolve,invoke,builtin,kA2,kA3,kA1,List.map_toArray,vE,List.map_nil,hs,hy,hr]
    exact hK _ _ (h v' w' h1 h3 h4)
end Go.Proofs.YtdidjpohnopihaaGreat.Sm
end
