/- Contracts of the program's functions over data, and the plain laws that they meet (part 6). No condition. -/
import Derived.Test.YtoaibdbehlcnfaaGreatVfe
import Derived.WalkKit
import Derived.WalkSpells
import Derived.WalkLawsBesides
import Derived.Lib.Hide
import Derived.Deep.RegionHeld3
import Derived.Maps.AppendAt
import Derived.KernelRfl
import Derived.Lib.AppendStr
import Derived.Orders
import Derived.LoopTactic
import Derived.Laws.CopyRow
import Derived.Laws.Cells
import Derived.OrdersIn
import Derived.Laws.Externs
import Derived.TacticsIn
import Derived.RangeFuncLeaves
import Derived.RangeFuncRecord
import Derived.Great.BuildSlice
import Derived.Laws.ResultCell
import Derived.Laws.StructEq
import Derived.Laws.MakeOwn
import Derived.Deep.Slices
import Derived.Deep.Fields
import Derived.ChangeSame
import Derived.ProofKit
import Derived.OpenShut
import Derived.SizedLaws
import Derived.Test.YtoaibdbehlcnfaaGreatProg
import Derived.Shelf.Spec.BitsCarry
import Derived.Lib.AppendZerosOnto
import Derived.DeepKeys4
import Derived.MapKept
import Derived.Sort.AssemblyPlain
import Derived.Sort.LotD4
import Derived.Sort.Walk13a
import Derived.RangeFuncSeq
import Derived.RangeFuncIn
set_option linter.unusedVariables false
set_option linter.unusedSimpArgs false
set_option maxRecDepth 100000
set_option maxHeartbeats 4000000
section
namespace Go.Proofs.YtoaibdbehlcnfaaGreat.Sm
open Go.RowKit
open Go.Sort (swp)
theorem AW.cutB {P:Program} {N:Nat} {Q:Exit->St->Prop} {s:St} {x y:Code} {id:Nat} {ι:Type} (T:ι->List (Nat × AV)) (B:ι->List (Nat × SB)) (J:ι->Prop) (h1:AW P N x (thenA (fun s'=>∃i,J i/\WkT s' (lkB (B i)) (T i)/\WkB s' (lkB (B i)) (B i)) (inBlkA id (thenA (AW P N y Q) Q))) s)
  (h2:∀i,J i->AW P N y Q (stL (T i) (B i))):AW P N x (inBlkA id (thenA (AW P N y Q) Q)) s :=
 h1.mono fun e s' hq=>by
  cases e with
  | normal =>
   obtain ⟨i,hJ,ht,hB⟩:=hq
   exact AW.only _ _ ht hB (h2 i hJ)
  | _=>exact hq
section
variable {α : Type} [Inhabited α] {lt : α -> α -> Bool}
theorem scanSorted_eq (d:Array α) (b i:Nat):Go.Sort.scanSorted lt d b i=bif (decide (i<b) && !lt d[i]! d[i - 1]!) then Go.Sort.scanSorted lt d b (i+1) else i:=by
 rw [Go.Sort.scanSorted]
 cases (decide (i<b) && !lt d[i]! d[i - 1]!)
 ·rw [if_neg (by simp)];rfl
 ·rw [if_pos rfl];rfl
theorem shiftDown_sz:∀(j:Nat) (d:Array α),(Go.Sort.shiftDown lt j d).size=d.size
 | 0,d=>rfl
 | j+1,d=>by
  rw [Go.Sort.shiftDown]
  split
  ·rfl
  ·rw [shiftDown_sz j,swp_sz]
theorem shiftUp_sz (b:Nat):∀(f j:Nat) (d:Array α),b - j<=f->(Go.Sort.shiftUp lt b j d).size=d.size
 | 0,j,d,hf=>by rw [Go.Sort.shiftUp,if_neg (by omega)]
 | f+1,j,d,hf=>by
  rw [Go.Sort.shiftUp]
  split
  ·split
   ·rfl
   ·rw [shiftUp_sz b f _ _ (by omega),swp_sz]
  ·rfl
def pi1 (lt:α->α->Bool) (a i:Nat) (d:Array α):Array α:=bif decide (i - a>=2) then Go.Sort.shiftDown lt (i - 1) d else d
def pi2 (lt:α->α->Bool) (b i:Nat) (d:Array α):Array α:=bif decide (b - i>=2) then Go.Sort.shiftUp lt b (i+1) d else d
theorem pi1_sz {a i:Nat} {d:Array α}:(pi1 lt a i d).size=d.size:=by
 rw [pi1]
 cases decide (i - a>=2)
 ·rfl
 ·exact shiftDown_sz _ _
theorem pi2_sz {b i:Nat} {d:Array α}:(pi2 lt b i d).size=d.size:=by
 rw [pi2]
 cases decide (b - i>=2)
 ·rfl
 ·exact shiftUp_sz _ _ _ _ (Nat.le_refl _)
theorem pi_eq {a b s i I:Nat} {d:Array α} (hI:Go.Sort.scanSorted lt d b i=I):Go.Sort.partialIns lt a b (s+1) i d=if I=b then (d,true) else if b - a<50 then (d,false) else Go.Sort.partialIns lt a b s I (pi2 lt b I (pi1 lt a I (swp d I (I - 1)))):=by
 subst hI
 rw [Go.Sort.partialIns]
 simp only [pi1,pi2,Bool.cond_decide]
end
theorem m_pins (l:List Rl) (L:Nat) (hL:l.length=L+1) (n:Nat) (hl:n<=100000) (d:Array (Fin (L+1))) (hn:d.size=n) (a b:Nat) (ha:a<b) (hb:b<=n) (q:Nat->Option (Nat × Nat)):MDoes Tryz.prog 315 [.row 201 0 0 n,.i .i64 ((a:Nat):Int),.i .i64 ((b:Nat):Int),.fn 300 [.own 210 0 0] []] (gl q [210,201] (ioB l n (d))) (.b (Go.Sort.partialInsertionSort (ltI l L) d a b).2) (gl q [210,201] (ioB l n ((Go.Sort.partialInsertionSort (ltI l L) d a b).1))):=by
  refine MDoes.of_body Tryz.func315 rfl (by kernel_rfl) rfl rfl ?_
  obtain ⟨R,hR⟩:∃R,Go.Sort.partialInsertionSort (ltI l L) d a b=R:=⟨_,rfl⟩
  rw [hR]
  rw [Go.Sort.partialInsertionSort] at hR
  have w1:IntKind.i64.wrap (((a:Nat):Int)+Int.ofNat 1)=((a+1:Nat):Int):=by simp only [IntKind.wrap_i64,Int.ofNat_eq_natCast];omega
  refine jA ?_
  refine AW.loopL (ι:=(Nat × Nat) × Array (Fin (L+1))) (fun x=>[(0,.row 201 0 0 n),(1,.i .i64 ((a:Nat):Int)),(2,.i .i64 ((b:Nat):Int)),(3,.fn 300 [.own 210 0 0] []),(9,.i .i64 ((x.1.1:Nat):Int)),(10,.i .i64 ((x.1.2:Nat):Int))]) (fun x=>gl q [210,201] (ioB l n (x.2))) (fun x=>(a<x.1.1/\x.1.1<=b/\x.1.2<=5/\x.2.size=n)/\Go.Sort.partialIns (ltI l L) a b (5 - x.1.2) x.1.1 x.2=R) (fun x=>5 - x.1.2) ((a+1,0),d) ⟨⟨by show a<a+1;omega,by show a+1<=b;omega,by show 0<=5;omega,hn⟩,hR⟩ ⟨Rn.rowIs rfl rfl rfl,Rn.is rfl rfl,Rn.is rfl rfl,Rn.fnO rfl rfl rfl,Rn.is (congrArg (AV.i .i64) w1) rfl,Rn.is rfl rfl,trivial⟩ (io_end rfl rfl rfl rfl rfl (rfl) (rowFit (by assumption))) fun x hx=>?_
  clear hR hn w1
  obtain ⟨⟨i,st⟩,m⟩:=x
  obtain ⟨⟨hi,hib,hst,hm⟩,hG⟩:=hx
  simp only at hi hib hst hm hG
  refine jA ?_
  refine AW.cond rfl (fun h0=>?_) (fun h0=>?_)
  rotate_left
  · have h : st = 5 := by
      have:=of_decide_eq_false h0
      simp only [Int.ofNat_eq_natCast] at this
      omega
    subst h
    have hG:(m,false)=R:=hG
    subst hG
    refine jA ?_
    refine jE ?_;refine jA ?_
    exact AW.ret (retM1 rfl (Rm.is rfl rfl) (io_end rfl rfl rfl rfl rfl (rfl) (rowFit (by assumption))))
  have h:st<5:=by
    have:=of_decide_eq_true h0
    simp only [Int.ofNat_eq_natCast] at this
    omega
  obtain ⟨I,hI⟩:∃I,Go.Sort.scanSorted (ltI l L) m b i=I:=⟨_,rfl⟩
  rw [show 5 - st=(5 - (st+1))+1 by omega,pi_eq hI] at hG
  refine jB ?_
  refine AW.loopL (ι:=Nat) (fun x=>[(0,.row 201 0 0 n),(1,.i .i64 ((a:Nat):Int)),(2,.i .i64 ((b:Nat):Int)),(3,.fn 300 [.own 210 0 0] []),(9,.i .i64 ((x:Nat):Int)),(10,.i .i64 ((st:Nat):Int))]) (fun _=>gl q [210,201] (ioB l n (m))) (fun x=>(i<=x/\x<=b)/\Go.Sort.scanSorted (ltI l L) m b x=I) (fun x=>b - x) i ⟨by omega,hI⟩ ⟨Rn.rowIs rfl rfl rfl,Rn.is rfl rfl,Rn.is rfl rfl,Rn.fnO rfl rfl rfl,Rn.is rfl rfl,Rn.is rfl rfl,trivial⟩ (io_end rfl rfl rfl rfl rfl (rfl) (rowFit (by assumption))) fun x hx=>?_
  clear hI
  obtain ⟨hx,hf⟩:=hx
  rw [scanSorted_eq] at hf
  refine jB ?_
  refine AW.cutT (ι:=Unit) (fun _=>[(0,.row 201 0 0 n),(1,.i .i64 ((a:Nat):Int)),(2,.i .i64 ((b:Nat):Int)),(3,.fn 300 [.own 210 0 0] []),(9,.i .i64 ((x:Nat):Int)),(10,.i .i64 ((st:Nat):Int)),(36,.b (decide (x<b) && (!ltI l L m[x]! m[x - 1]!)))]) (fun _=>gl q [210,201] (ioB l n (m))) (fun _=>True) ?_ fun _ _=>?_
  · refine AW.draws mixed_ok ?_
    by_cases g1:((x:Nat):Int)<((b:Nat):Int)
    · refine RG.runO ty_ok 0 [(21,.b true)] 400 rfl jD ?_
      refine wH rfl ?_;refine RG.opS rfl (op_ixW (x) numF ((m).toList) (by omega) rfl (tk rfl) rfl (tk rfl) rfl rfl rfl jX) rfl ?_;refine RG.opS rfl (op_ldW (x) numF (m) (by omega) rfl (tk rfl) rfl rfl rfl) rfl ?_
      refine wH rfl ?_;refine RG.opS rfl (op_ixW (x - 1) numF ((m).toList) (by omega) rfl (tk rfl) rfl (tk rfl) rfl rfl rfl jX) rfl ?_;refine RG.opS rfl (op_ldW (x - 1) numF (m) (by omega) rfl (tk rfl) rfl rfl rfl) rfl ?_
      refine wH rfl ?_
      refine RG.ownK [(210,210),(201,201)] [(210,210),(201,201)] 201 201 rfl (fun q=>m_compare l L hL n (m) (m[x]!) (m[x - 1]!) q (rowFit (by assumption))) rfl rfl rfl rfl rfl rfl rfl rfl rfl rfl rfl rfl rfl ?_
      refine wH rfl ?_;refine jB ?_
      exact ⟨(),trivial,⟨Rn.rowIs rfl rfl rfl,Rn.is rfl rfl,Rn.is rfl rfl,Rn.fnO rfl rfl rfl,Rn.is rfl rfl,Rn.is rfl rfl,Rn.is (congrArg AV.b (by rw [decide_eq_true (show x<b by omega),Bool.true_and];rfl)) rfl,trivial⟩,io_end rfl rfl rfl rfl rfl (rfl) (rowFit (by assumption))⟩
    · refine RG.runO ty_ok 0 [(21,.b false)] 400 rfl jD ?_
      refine jB ?_
      exact ⟨(),trivial,⟨Rn.rowIs rfl rfl rfl,Rn.is rfl rfl,Rn.is rfl rfl,Rn.fnO rfl rfl rfl,Rn.is rfl rfl,Rn.is rfl rfl,Rn.is (congrArg AV.b (by rw [decide_eq_false (show ¬x<b by omega),Bool.false_and])) rfl,trivial⟩,io_end rfl rfl rfl rfl rfl (rfl) (rowFit (by assumption))⟩
  cases hcb:(decide (x<b) && (!ltI l L m[x]! m[x - 1]!))
  rotate_left
  · rw [hcb,cond_true] at hf
    have hle:x<b:=by
      rw [Bool.and_eq_true,decide_eq_true_eq] at hcb
      exact hcb.1
    have w9:IntKind.i64.wrap (((x:Nat):Int)+Int.ofNat 1)=((x+1:Nat):Int):=by simp only [IntKind.wrap_i64,Int.ofNat_eq_natCast];omega
    refine AW.cond rfl (fun _=>?_) (fun h1=>by cases h1)
    refine jA ?_
    exact ⟨x+1,⟨⟨by omega,hf⟩,by omega⟩,⟨Rn.rowIs rfl rfl rfl,Rn.is rfl rfl,Rn.is rfl rfl,Rn.fnO rfl rfl rfl,Rn.is (congrArg (AV.i .i64) w9) rfl,Rn.is rfl rfl,trivial⟩,io_end rfl rfl rfl rfl rfl (rfl) (rowFit (by assumption))⟩
  rw [hcb,cond_false] at hf
  clear hcb
  obtain rfl:I=x:=hf.symm
  refine AW.cond rfl (fun h1=>by cases h1) (fun _=>?_)
  refine jA ?_
  refine jE ?_;refine jA ?_
  refine AW.cond rfl (fun h1=>?_) (fun h1=>?_)
  · have k : I = b := by
      have:=of_decide_eq_true h1
      omega
    rw [if_pos k] at hG
    subst hG
    refine jA ?_
    exact AW.ret (retM1 rfl (Rm.is rfl rfl) (io_end rfl rfl rfl rfl rfl (rfl) (rowFit (by assumption))))
  have k:¬I=b:=by
    have:=of_decide_eq_false h1
    omega
  rw [if_neg k] at hG
  have wl:IntKind.i64.wrap (((b:Nat):Int) - ((a:Nat):Int))=((b - a:Nat):Int):=by rw [IntKind.wrap_i64];omega
  refine jB ?_
  refine AW.text ?_
  refine RG.runO ty_ok 0 [(44,.i .i64 ((b - a:Nat):Int))] 400 rfl jD ?_
  refine jB ?_
  refine AW.cond rfl (fun h2=>?_) (fun h2=>?_)
  · have k2 : b - a < 50 := by
      have:=of_decide_eq_true h2
      simp only [Int.ofNat_eq_natCast] at this
      omega
    rw [if_pos k2] at hG
    subst hG
    refine jA ?_
    exact AW.ret (retM1 rfl (Rm.is rfl rfl) (io_end rfl rfl rfl rfl rfl (rfl) (rowFit (by assumption))))
  have k2:¬b - a<50:=by
    have:=of_decide_eq_false h2
    simp only [Int.ofNat_eq_natCast] at this
    omega
  rw [if_neg k2] at hG
  refine jB ?_
  refine AW.draws mixed_ok ?_
  refine wH rfl ?_;refine RG.opS rfl (op_ixW (I - 1) numF ((m).toList) (by omega) rfl (tk rfl) rfl (tk rfl) rfl rfl rfl jX) rfl ?_;refine RG.opS rfl (op_ldW (I - 1) numF (m) (by omega) rfl (tk rfl) rfl rfl rfl) rfl ?_;refine wH rfl ?_;refine RG.opS rfl (op_ixW (I) numF ((m).toList) (by omega) rfl (tk rfl) rfl (tk rfl) rfl rfl rfl jX) rfl ?_;refine RG.opS rfl (op_ldW (I) numF (m) (by omega) rfl (tk rfl) rfl rfl rfl) rfl ?_;refine wH rfl ?_;refine RG.opS rfl (op_ixW (I) numF ((m).toList) (by omega) rfl (tk rfl) rfl (tk rfl) rfl rfl rfl jX) rfl ?_;refine RG.opS rfl (op_stW (I) numF ((m).toList) ((m)[I - 1]!) (by simp only [List.length_set,Array.length_toList];omega) rfl (tk rfl) rfl rfl rfl rfl rfl (fun _=>rfl)) rfl ?_;refine wH rfl ?_;refine RG.opS rfl (op_ixW (I - 1) numF (((m).toList.set (I) (m)[I - 1]!)) (by omega) rfl (tk rfl) rfl (tk rfl) rfl rfl rfl jX) rfl ?_;refine RG.opS rfl (op_stW (I - 1) numF (((m).toList.set (I) (m)[I - 1]!)) ((m)[I]!) (by simp only [List.length_set,Array.length_toList];omega) rfl (tk rfl) rfl rfl rfl rfl rfl (fun _=>rfl)) rfl ?_
  rw [<- swp_list]
  have hm0:=(swp_sz m I (I - 1)).trans hm
  generalize swp m I (I - 1)=m0 at hG hm0 ⊢
  refine wH rfl ?_;refine jA ?_
  have wIa:IntKind.i64.wrap (((I:Nat):Int) - ((a:Nat):Int))=((I - a:Nat):Int):=by rw [IntKind.wrap_i64];omega
  obtain ⟨m1,e1⟩:∃z,pi1 (ltI l L) a I m0=z:=⟨_,rfl⟩
  have hm1:m1.size=n:=by rw [<- e1,pi1_sz];exact hm0
  rw [e1] at hG
  rw [pi1] at e1
  refine AW.cutT (ι:=Unit) (fun _=>[(0,.row 201 0 0 n),(1,.i .i64 ((a:Nat):Int)),(2,.i .i64 ((b:Nat):Int)),(3,.fn 300 [.own 210 0 0] []),(9,.i .i64 ((I:Nat):Int)),(10,.i .i64 ((st:Nat):Int))]) (fun _=>gl q [210,201] (ioB l n (m1))) (fun _=>True) ?_ fun _ _=>?_
  · refine AW.cond rfl (fun h3=>?_) (fun h3=>?_)
    rotate_left
    · have k3 : ¬ I - a >= 2 := by
        have:=of_decide_eq_false h3
        simp only [Int.ofNat_eq_natCast] at this
        rw [wIa] at this
        omega
      rw [decide_eq_false k3,cond_false] at e1
      subst e1
      refine jA ?_
      exact ⟨(),trivial,⟨Rn.rowIs rfl rfl rfl,Rn.is rfl rfl,Rn.is rfl rfl,Rn.fnO rfl rfl rfl,Rn.is rfl rfl,Rn.is rfl rfl,trivial⟩,io_end rfl rfl rfl rfl rfl (rfl) (rowFit (by assumption))⟩
    have k3:I - a>=2:=by
      have:=of_decide_eq_true h3
      simp only [Int.ofNat_eq_natCast] at this
      rw [wIa] at this
      omega
    rw [decide_eq_true k3,cond_true] at e1
    have wj:IntKind.i64.wrap (((I:Nat):Int) - Int.ofNat 1)=((I - 1:Nat):Int):=by simp only [IntKind.wrap_i64,Int.ofNat_eq_natCast];omega
    refine jA ?_
    refine AW.loopL (ι:=Nat × Array (Fin (L+1))) (fun x=>[(0,.row 201 0 0 n),(1,.i .i64 ((a:Nat):Int)),(2,.i .i64 ((b:Nat):Int)),(3,.fn 300 [.own 210 0 0] []),(9,.i .i64 ((I:Nat):Int)),(10,.i .i64 ((st:Nat):Int)),(11,.i .i64 ((x.1:Nat):Int))]) (fun x=>gl q [210,201] (ioB l n (x.2))) (fun x=>(x.1<I/\x.2.size=n)/\Go.Sort.shiftDown (ltI l L) x.1 x.2=m1) (fun x=>x.1) (I - 1,m0) ⟨⟨by show I - 1<I;omega,hm0⟩,e1⟩ ⟨Rn.rowIs rfl rfl rfl,Rn.is rfl rfl,Rn.is rfl rfl,Rn.fnO rfl rfl rfl,Rn.is rfl rfl,Rn.is rfl rfl,Rn.is (congrArg (AV.i .i64) wj) rfl,trivial⟩ (io_end rfl rfl rfl rfl rfl (rfl) (rowFit (by assumption))) fun x hx=>?_
    clear e1 wj
    obtain ⟨j,v⟩:=x
    obtain ⟨⟨hj,hv⟩,hs⟩:=hx
    simp only at hj hv hs
    refine jA ?_
    refine AW.cond rfl (fun h4=>?_) (fun h4=>?_)
    rotate_left
    · have k4 : j = 0 := by
        have:=of_decide_eq_false h4
        simp only [Int.ofNat_eq_natCast] at this
        omega
      subst k4
      have hs:v=m1:=hs
      subst hs
      refine jA ?_
      refine jE ?_;refine jA ?_
      exact ⟨(),trivial,⟨Rn.rowIs rfl rfl rfl,Rn.is rfl rfl,Rn.is rfl rfl,Rn.fnO rfl rfl rfl,Rn.is rfl rfl,Rn.is rfl rfl,trivial⟩,io_end rfl rfl rfl rfl rfl (rfl) (rowFit (by assumption))⟩
    have k4:0<j:=by
      have:=of_decide_eq_true h4
      simp only [Int.ofNat_eq_natCast] at this
      omega
    obtain ⟨j,rfl⟩:∃z,j=z+1:=⟨j - 1,by omega⟩
    rw [Go.Sort.shiftDown] at hs
    have wk:IntKind.i64.wrap (((j+1:Nat):Int) - Int.ofNat 1)=((j:Nat):Int):=by simp only [IntKind.wrap_i64,Int.ofNat_eq_natCast];omega
    refine jB ?_
    refine AW.draws mixed_ok ?_
    refine wH rfl ?_;refine RG.opS rfl (op_ixW (j+1) numF ((v).toList) (by omega) rfl (tk rfl) rfl (tk rfl) rfl rfl rfl jX) rfl ?_;refine RG.opS rfl (op_ldW (j+1) numF (v) (by omega) rfl (tk rfl) rfl rfl rfl) rfl ?_
    refine wH rfl ?_;refine RG.opS rfl (op_ixW (j) numF ((v).toList) (by omega) rfl (tk rfl) rfl (tk rfl) rfl rfl rfl jX) rfl ?_;refine RG.opS rfl (op_ldW (j) numF (v) (by omega) rfl (tk rfl) rfl rfl rfl) rfl ?_
    refine wH rfl ?_
    refine RG.ownK [(210,210),(201,201)] [(210,210),(201,201)] 201 201 rfl (fun q=>m_compare l L hL n (v) (v[j+1]!) (v[j]!) q (rowFit (by assumption))) rfl rfl rfl rfl rfl rfl rfl rfl rfl rfl rfl rfl rfl ?_
    refine wH rfl ?_;refine jB ?_
    refine AW.cond rfl (fun h5=>?_) (fun h5=>?_)
    · rw [if_pos (show (!ltI l L v[j+1]! v[j]!)=true from h5)] at hs
      subst hs
      refine jA ?_
      refine AW.exit ?_;first | (refine Eq.mpr (if_pos rfl) ?_) | (refine Eq.mpr (if_neg (by decide)) ?_;refine Eq.mpr (if_pos rfl) ?_) | (refine Eq.mpr (if_neg (by decide)) ?_;refine Eq.mpr (if_neg (by decide)) ?_;refine Eq.mpr (if_pos rfl) ?_);refine jA ?_
      exact ⟨(),trivial,⟨Rn.rowIs rfl rfl rfl,Rn.is rfl rfl,Rn.is rfl rfl,Rn.fnO rfl rfl rfl,Rn.is rfl rfl,Rn.is rfl rfl,trivial⟩,io_end rfl rfl rfl rfl rfl (rfl) (rowFit (by assumption))⟩
    · rw [if_neg (by rw [show (!ltI l L v[j+1]! v[j]!)=false from h5];decide)] at hs
      have hv2:=(swp_sz v (j+1) j).trans hv
      refine jB ?_
      refine AW.draws mixed_ok ?_
      refine wH rfl ?_;refine RG.opS rfl (op_ixW (j) numF ((v).toList) (by omega) rfl (tk rfl) rfl (tk rfl) rfl rfl rfl jX) rfl ?_;refine RG.opS rfl (op_ldW (j) numF (v) (by omega) rfl (tk rfl) rfl rfl rfl) rfl ?_;refine wH rfl ?_;refine RG.opS rfl (op_ixW (j+1) numF ((v).toList) (by omega) rfl (tk rfl) rfl (tk rfl) rfl rfl rfl jX) rfl ?_;refine RG.opS rfl (op_ldW (j+1) numF (v) (by omega) rfl (tk rfl) rfl rfl rfl) rfl ?_;refine wH rfl ?_;refine RG.opS rfl (op_ixW (j+1) numF ((v).toList) (by omega) rfl (tk rfl) rfl (tk rfl) rfl rfl rfl jX) rfl ?_;refine RG.opS rfl (op_stW (j+1) numF ((v).toList) ((v)[j]!) (by simp only [List.length_set,Array.length_toList];omega) rfl (tk rfl) rfl rfl rfl rfl rfl (fun _=>rfl)) rfl ?_;refine wH rfl ?_;refine RG.opS rfl (op_ixW (j) numF (((v).toList.set (j+1) (v)[j]!)) (by omega) rfl (tk rfl) rfl (tk rfl) rfl rfl rfl jX) rfl ?_;refine RG.opS rfl (op_stW (j) numF (((v).toList.set (j+1) (v)[j]!)) ((v)[j+1]!) (by simp only [List.length_set,Array.length_toList];omega) rfl (tk rfl) rfl rfl rfl rfl rfl (fun _=>rfl)) rfl ?_
      refine wH rfl ?_;refine jB ?_
      refine AW.text ?_
      refine wH rfl ?_;refine jB ?_
      exact ⟨(j,swp v (j+1) j),⟨⟨⟨by show j<I;omega,hv2⟩,hs⟩,by show j<j+1;omega⟩,⟨Rn.rowTIs rfl rfl rfl (rowFit (hv2)),Rn.is rfl rfl,Rn.is rfl rfl,Rn.fnO rfl rfl rfl,Rn.is rfl rfl,Rn.is rfl rfl,Rn.is (congrArg (AV.i .i64) wk) rfl,trivial⟩,io_end rfl rfl rfl rfl rfl (by rw [swp_list]) (rowFit (by assumption))⟩
  have wbI:IntKind.i64.wrap (((b:Nat):Int) - ((I:Nat):Int))=((b - I:Nat):Int):=by rw [IntKind.wrap_i64];omega
  obtain ⟨m2,e2⟩:∃z,pi2 (ltI l L) b I m1=z:=⟨_,rfl⟩
  have hm2:m2.size=n:=by rw [<- e2,pi2_sz];exact hm1
  rw [e2] at hG
  rw [pi2] at e2
  refine jA ?_
  refine AW.cutB (ι:=Unit) (fun _=>[(0,.row 201 0 0 n),(1,.i .i64 ((a:Nat):Int)),(2,.i .i64 ((b:Nat):Int)),(3,.fn 300 [.own 210 0 0] []),(9,.i .i64 ((I:Nat):Int)),(10,.i .i64 ((st:Nat):Int))]) (fun _=>gl q [210,201] (ioB l n (m2))) (fun _=>True) ?_ fun _ _=>?_
  · refine AW.cond rfl (fun h3=>?_) (fun h3=>?_)
    rotate_left
    · have k3 : ¬ b - I >= 2 := by
        have:=of_decide_eq_false h3
        simp only [Int.ofNat_eq_natCast] at this
        rw [wbI] at this
        omega
      rw [decide_eq_false k3,cond_false] at e2
      subst e2
      refine jA ?_
      exact ⟨(),trivial,⟨Rn.rowIs rfl rfl rfl,Rn.is rfl rfl,Rn.is rfl rfl,Rn.fnO rfl rfl rfl,Rn.is rfl rfl,Rn.is rfl rfl,trivial⟩,io_end rfl rfl rfl rfl rfl (rfl) (rowFit (by assumption))⟩
    have k3:b - I>=2:=by
      have:=of_decide_eq_true h3
      simp only [Int.ofNat_eq_natCast] at this
      rw [wbI] at this
      omega
    rw [decide_eq_true k3,cond_true] at e2
    have wj:IntKind.i64.wrap (((I:Nat):Int)+Int.ofNat 1)=((I+1:Nat):Int):=by simp only [IntKind.wrap_i64,Int.ofNat_eq_natCast];omega
    refine jA ?_
    refine AW.loopL (ι:=Nat × Array (Fin (L+1))) (fun x=>[(0,.row 201 0 0 n),(1,.i .i64 ((a:Nat):Int)),(2,.i .i64 ((b:Nat):Int)),(3,.fn 300 [.own 210 0 0] []),(9,.i .i64 ((I:Nat):Int)),(10,.i .i64 ((st:Nat):Int)),(12,.i .i64 ((x.1:Nat):Int))]) (fun x=>gl q [210,201] (ioB l n (x.2))) (fun x=>(I<x.1/\x.1<=b/\x.2.size=n)/\Go.Sort.shiftUp (ltI l L) b x.1 x.2=m2) (fun x=>b - x.1) (I+1,m1) ⟨⟨by show I<I+1;omega,by show I+1<=b;omega,hm1⟩,e2⟩ ⟨Rn.rowIs rfl rfl rfl,Rn.is rfl rfl,Rn.is rfl rfl,Rn.fnO rfl rfl rfl,Rn.is rfl rfl,Rn.is rfl rfl,Rn.is (congrArg (AV.i .i64) wj) rfl,trivial⟩ (io_end rfl rfl rfl rfl rfl (rfl) (rowFit (by assumption))) fun x hx=>?_
    clear e2 wj
    obtain ⟨j,v⟩:=x
    obtain ⟨⟨hj0,hj,hv⟩,hs⟩:=hx
    simp only at hj0 hj hv hs
    rw [Go.Sort.shiftUp] at hs
    refine jA ?_
    refine AW.cond rfl (fun h4=>?_) (fun h4=>?_)
    rotate_left
    · have k4 : ¬ j < b := by
        have:=of_decide_eq_false h4
        omega
      rw [if_neg k4] at hs
      subst hs
      refine jA ?_
      refine jE ?_;refine jA ?_
      exact ⟨(),trivial,⟨Rn.rowIs rfl rfl rfl,Rn.is rfl rfl,Rn.is rfl rfl,Rn.fnO rfl rfl rfl,Rn.is rfl rfl,Rn.is rfl rfl,trivial⟩,io_end rfl rfl rfl rfl rfl (rfl) (rowFit (by assumption))⟩
    have k4:j<b:=by
      have:=of_decide_eq_true h4
      omega
    rw [if_pos k4] at hs
    have wk:IntKind.i64.wrap (((j:Nat):Int)+Int.ofNat 1)=((j+1:Nat):Int):=by simp only [IntKind.wrap_i64,Int.ofNat_eq_natCast];omega
    refine jB ?_
    refine AW.draws mixed_ok ?_
    refine wH rfl ?_;refine RG.opS rfl (op_ixW (j) numF ((v).toList) (by omega) rfl (tk rfl) rfl (tk rfl) rfl rfl rfl jX) rfl ?_;refine RG.opS rfl (op_ldW (j) numF (v) (by omega) rfl (tk rfl) rfl rfl rfl) rfl ?_
    refine wH rfl ?_;refine RG.opS rfl (op_ixW (j - 1) numF ((v).toList) (by omega) rfl (tk rfl) rfl (tk rfl) rfl rfl rfl jX) rfl ?_;refine RG.opS rfl (op_ldW (j - 1) numF (v) (by omega) rfl (tk rfl) rfl rfl rfl) rfl ?_
    refine wH rfl ?_
    refine RG.ownK [(210,210),(201,201)] [(210,210),(201,201)] 201 201 rfl (fun q=>m_compare l L hL n (v) (v[j]!) (v[j - 1]!) q (rowFit (by assumption))) rfl rfl rfl rfl rfl rfl rfl rfl rfl rfl rfl rfl rfl ?_
    refine wH rfl ?_;refine jB ?_
    refine AW.cond rfl (fun h5=>?_) (fun h5=>?_)
    · rw [if_pos (show (!ltI l L v[j]! v[j - 1]!)=true from h5)] at hs
      subst hs
      refine jA ?_
      refine AW.exit ?_;first | (refine Eq.mpr (if_pos rfl) ?_) | (refine Eq.mpr (if_neg (by decide)) ?_;refine Eq.mpr (if_pos rfl) ?_) | (refine Eq.mpr (if_neg (by decide)) ?_;refine Eq.mpr (if_neg (by decide)) ?_;refine Eq.mpr (if_pos rfl) ?_);refine jA ?_
      exact ⟨(),trivial,⟨Rn.rowIs rfl rfl rfl,Rn.is rfl rfl,Rn.is rfl rfl,Rn.fnO rfl rfl rfl,Rn.is rfl rfl,Rn.is rfl rfl,trivial⟩,io_end rfl rfl rfl rfl rfl (rfl) (rowFit (by assumption))⟩
    · rw [if_neg (by rw [show (!ltI l L v[j]! v[j - 1]!)=false from h5];decide)] at hs
      have hv2:=(swp_sz v j (j - 1)).trans hv
      refine jB ?_
      refine AW.draws mixed_ok ?_
      refine wH rfl ?_;refine RG.opS rfl (op_ixW (j - 1) numF ((v).toList) (by omega) rfl (tk rfl) rfl (tk rfl) rfl rfl rfl jX) rfl ?_;refine RG.opS rfl (op_ldW (j - 1) numF (v) (by omega) rfl (tk rfl) rfl rfl rfl) rfl ?_;refine wH rfl ?_;refine RG.opS rfl (op_ixW (j) numF ((v).toList) (by omega) rfl (tk rfl) rfl (tk rfl) rfl rfl rfl jX) rfl ?_;refine RG.opS rfl (op_ldW (j) numF (v) (by omega) rfl (tk rfl) rfl rfl rfl) rfl ?_;refine wH rfl ?_;refine RG.opS rfl (op_ixW (j) numF ((v).toList) (by omega) rfl (tk rfl) rfl (tk rfl) rfl rfl rfl jX) rfl ?_;refine RG.opS rfl (op_stW (j) numF ((v).toList) ((v)[j - 1]!) (by simp only [List.length_set,Array.length_toList];omega) rfl (tk rfl) rfl rfl rfl rfl rfl (fun _=>rfl)) rfl ?_;refine wH rfl ?_;refine RG.opS rfl (op_ixW (j - 1) numF (((v).toList.set (j) (v)[j - 1]!)) (by omega) rfl (tk rfl) rfl (tk rfl) rfl rfl rfl jX) rfl ?_;refine RG.opS rfl (op_stW (j - 1) numF (((v).toList.set (j) (v)[j - 1]!)) ((v)[j]!) (by simp only [List.length_set,Array.length_toList];omega) rfl (tk rfl) rfl rfl rfl rfl rfl (fun _=>rfl)) rfl ?_
      refine wH rfl ?_;refine jB ?_
      refine AW.text ?_
      refine wH rfl ?_;refine jB ?_
      exact ⟨(j+1,swp v j (j - 1)),⟨⟨⟨by show I<j+1;omega,by show j+1<=b;omega,hv2⟩,hs⟩,by show b - (j+1)<b - j;omega⟩,⟨Rn.rowTIs rfl rfl rfl (rowFit (hv2)),Rn.is rfl rfl,Rn.is rfl rfl,Rn.fnO rfl rfl rfl,Rn.is rfl rfl,Rn.is rfl rfl,Rn.is (congrArg (AV.i .i64) wk) rfl,trivial⟩,io_end rfl rfl rfl rfl rfl (by rw [swp_list]) (rowFit (by assumption))⟩
  have ws:IntKind.i64.wrap (((st:Nat):Int)+Int.ofNat 1)=((st+1:Nat):Int):=by simp only [IntKind.wrap_i64,Int.ofNat_eq_natCast];omega
  refine jA ?_
  exact ⟨((I,st+1),m2),⟨⟨⟨by show a<I;omega,by show I<=b;omega,by show st+1<=5;omega,hm2⟩,hG⟩,by show 5 - (st+1)<5 - st;omega⟩,⟨Rn.rowIs rfl rfl rfl,Rn.is rfl rfl,Rn.is rfl rfl,Rn.fnO rfl rfl rfl,Rn.is rfl rfl,Rn.is (congrArg (AV.i .i64) ws) rfl,trivial⟩,io_end rfl rfl rfl rfl rfl (rfl) (rowFit (by assumption))⟩
end Go.Proofs.YtoaibdbehlcnfaaGreat.Sm
end
section
namespace Go.Proofs.YtoaibdbehlcnfaaGreat.Sm
open Go.RowKit
open Go.Sort (swp)
theorem tab_all {l:List UInt8} (h:(List.range 256).all (fun k=>l[k]? == some (UInt8.ofNat (Go.Sort.bitsLen k)))=true) {v:UInt64} (hv:v.toNat<256):l[v.toUInt8.toNat]?=some (UInt8.ofNat (Go.Sort.bitsLen v.toNat)):=by
 have h1:=List.all_eq_true.1 h v.toNat (List.mem_range.2 hv)
 have e:v.toUInt8.toNat=v.toNat:=by rw [UInt64.toNat_toUInt8];omega
 rw [e]
 simpa using h1
theorem bitsLen_8 {k:Nat} (h:k<256):Go.Sort.bitsLen k<=8:=(Go.Sort.bitsLen_le_iff k 8).2 h
theorem d_Len64X (v:UInt64) (hv:v.toNat<256):PDoes Tryz.prog 223 [.u v] (.i .i64 ((Go.Sort.bitsLen v.toNat:Nat):Int)):=by
 refine PDoes.of_bodyN Tryz.func223 rfl (by kernel_rfl) rfl rfl ?_
 have h8:=bitsLen_8 hv
 refine jA ?_
 refine AW.cond rfl (fun h=>?_) (fun h=>?_)
 ·have:=UInt64.le_iff_toNat_le.1 (of_decide_eq_true h)
  exact absurd (Nat.lt_of_le_of_lt this hv) (by decide)
 clear h
 refine jA ?_
 refine AW.cond rfl (fun h=>?_) (fun h=>?_)
 ·have:=UInt64.le_iff_toNat_le.1 (of_decide_eq_true h)
  exact absurd (Nat.lt_of_le_of_lt this hv) (by decide)
 clear h
 refine jA ?_
 refine AW.cond rfl (fun h=>?_) (fun h=>?_)
 ·have:=UInt64.le_iff_toNat_le.1 (of_decide_eq_true h)
  exact absurd (Nat.lt_of_le_of_lt this hv) (by decide)
 clear h
 refine jA ?_
 refine RG.opS rfl (op_indexSy rfl (tk rfl) rfl rfl rfl (tab_all (by kernel_rfl) hv)) rfl ?_
 refine wH rfl ?_;refine jA ?_
 refine AW.ret (retQA ty_ok rfl rfl rfl ?_)
 have e:(UInt8.ofNat (Go.Sort.bitsLen v.toNat)).toNat=Go.Sort.bitsLen v.toNat:=by rw [UInt8.toNat_ofNat'];omega
 have e2:IntKind.i64.wrap ((Go.Sort.bitsLen v.toNat:Nat):Int)=((Go.Sort.bitsLen v.toNat:Nat):Int):=by rw [IntKind.wrap_i64];omega
 show AV.i .i64 (IntKind.i64.wrap (0+IntKind.i64.wrap (((UInt8.ofNat (Go.Sort.bitsLen v.toNat)).toNat:Nat):Int)))=_
 rw [e,e2,Int.zero_add,e2]
theorem d_LenX (v:UInt64) (hv:v.toNat<256):PDoes Tryz.prog 168 [.u v] (.i .i64 ((Go.Sort.bitsLen v.toNat:Nat):Int)):=by
 have hr:=d_Len64X v hv
 refine PDoes.of_bodyN Tryz.func168 rfl (by kernel_rfl) rfl rfl ?_
 refine jA ?_
 refine AW.condF rfl ?_;refine jA ?_
 refine RG.callS rfl rfl rfl rfl rfl hr rfl rfl ?_;refine wH rfl ?_;refine jA ?_
 refine AW.ret (retQA ty_ok rfl rfl rfl ?_)
 rfl
theorem ofI_len {k:Nat} (h:k<256):(ofI64 ((k:Nat):Int)).toNat=k:=by
 have e:=ofI64_nat ((k:Nat):Int)
 rw [IntKind.wrap_u64] at e
 omega
def pow2 (k:Nat):UInt64:=shl64 (UInt64.ofNat 1) (Go.Sort.bitsLen k)
theorem d_nextPow (k:Nat) (hk:k<256):PDoes Tryz.prog 264 [.i .i64 ((k:Nat):Int)] (.u (pow2 k)):=by
 have hr:=d_LenX (ofI64 ((k:Nat):Int)) (by rw [ofI_len hk];exact hk)
 rw [ofI_len hk] at hr
 refine PDoes.of_bodyN Tryz.func264 rfl (by kernel_rfl) rfl rfl ?_
 refine jA ?_
 refine RG.callS rfl rfl rfl rfl rfl hr rfl rfl ?_;refine wH rfl ?_;refine jA ?_
 refine AW.ret (retQA ty_ok rfl rfl rfl ?_)
 rfl
theorem shl64_eq (a:UInt64) {k:Nat} (h:k<64):shl64 a k=a <<< UInt64.ofNat k:=by
 apply UInt64.toNat_inj.1
 rw [shl64,UInt64.toNat_ofNat',UInt64.toNat_shiftLeft,UInt64.toNat_ofNat',Nat.shiftLeft_eq,Nat.min_eq_left (by omega)]
 have:k % 2 ^ 64 % 64=k:=by omega
 rw [this]
theorem shr64_eq (a:UInt64) {k:Nat} (h:k<64):shr64 a k=a >>> UInt64.ofNat k:=by
 apply UInt64.toNat_inj.1
 rw [shr64,UInt64.toNat_ofNat',UInt64.toNat_shiftRight,UInt64.toNat_ofNat',Nat.shiftRight_eq_div_pow,Nat.min_eq_left (by omega)]
 have:k % 2 ^ 64 % 64=k:=by omega
 rw [this]
 exact Nat.mod_eq_of_lt (Nat.lt_of_le_of_lt (Nat.div_le_self _ _) (UInt64.toNat_lt a))
def xsB (r:UInt64):List (Nat × SB):=[(240,⟨0,some (.box 338 [.u r])⟩)]
theorem m_next (r:UInt64) (q:Nat->Option (Nat × Nat)):MDoes Tryz.prog 265 [.own 240 0 0] (gl q [240] (xsB r)) (.u (Go.Sort.xorNext r)) (gl q [240] (xsB (Go.Sort.xorNext r))):=by
 refine MDoes.of_body Tryz.func265 rfl (by kernel_rfl) rfl rfl ?_
 have e:Go.Sort.xorNext r=((r ^^^ shl64 r 13) ^^^ shr64 (r ^^^ shl64 r 13) 7) ^^^ shl64 ((r ^^^ shl64 r 13) ^^^ shr64 (r ^^^ shl64 r 13) 7) 17:=by
  rw [shl64_eq _ (by decide),shr64_eq _ (by decide),shl64_eq _ (by decide)];rfl
 rw [e]
 refine jA ?_
 exact AW.ret (retM1 rfl (Rm.is rfl rfl) ⟨.ghost rfl rfl rfl,.boxL rfl ⟨Rn.is rfl rfl,trivial⟩ rfl,trivial⟩)
section
variable {α : Type} [Inhabited α]
def brkL (a len md:Nat):Nat->Nat->UInt64 × Array α->UInt64 × Array α
 | 0,_,st=>st
 | k+1,idx,st=>brkL a len md k (idx+1) (Go.Sort.breakStep a len md st idx)
theorem brk_eq {d:Array α} {a b:Nat} (h:b - a>=8):Go.Sort.breakPatterns d a b=(brkL a (b - a) (1 <<< Go.Sort.bitsLen (b - a)) 3 (a+(b - a) / 4*2 - 1) (UInt64.ofNat (b - a),d)).2:=by
 rw [Go.Sort.breakPatterns]
 simp only [h,if_true]
 rfl
def brkO (len md:Nat) (r:UInt64):Nat:=bif decide ((Go.Sort.xorNext r).toNat &&& (md - 1)>=len) then ((Go.Sort.xorNext r).toNat &&& (md - 1)) - len else (Go.Sort.xorNext r).toNat &&& (md - 1)
theorem brk_step {a len md idx:Nat} {r:UInt64} {d:Array α}:Go.Sort.breakStep a len md (r,d) idx=(Go.Sort.xorNext r,swp d idx (a+brkO len md r)):=by
 rw [Go.Sort.breakStep,brkO]
 simp only [Bool.cond_decide]
theorem brkO_lt {len:Nat} (h:0<len) (r:UInt64):brkO len (1 <<< Go.Sort.bitsLen len) r<len:=by
 have h1:=Go.Sort.two_pow_bitsLen_le h
 have h2:(Go.Sort.xorNext r).toNat &&& ((1 <<< Go.Sort.bitsLen len) - 1)<=(1 <<< Go.Sort.bitsLen len) - 1:=Nat.and_le_right
 rw [Nat.one_shiftLeft] at h2 ⊢
 rw [brkO]
 have h3:0<2 ^ Go.Sort.bitsLen len:=Nat.two_pow_pos _
 by_cases k:(Go.Sort.xorNext r).toNat &&& (2 ^ Go.Sort.bitsLen len - 1)>=len
 ·rw [decide_eq_true k,cond_true];omega
 ·rw [decide_eq_false k,cond_false];omega
end
theorem pow2_and {len:Nat} (h:len<256) (h0:0<len) (r:UInt64):IntKind.i64.wrap (((r &&& (pow2 len - UInt64.ofNat 1)).toNat:Nat):Int)=((r.toNat &&& ((1 <<< Go.Sort.bitsLen len) - 1):Nat):Int):=by
 have h8:=bitsLen_8 h
 have e:(pow2 len).toNat=1 <<< Go.Sort.bitsLen len:=by
  rw [pow2,shl64,UInt64.toNat_ofNat',Nat.one_shiftLeft,Nat.min_eq_left (by omega)]
  have h1:2 ^ Go.Sort.bitsLen len<=2 ^ 8:=Nat.pow_le_pow_right (by decide) h8
  show (1*2 ^ Go.Sort.bitsLen len) % 2 ^ 64=_
  rw [Nat.one_mul]
  exact Nat.mod_eq_of_lt (by omega)
 have hp:0<1 <<< Go.Sort.bitsLen len:=by rw [Nat.one_shiftLeft];exact Nat.two_pow_pos _
 have h2:(1 <<< Go.Sort.bitsLen len)<=2 ^ 8:=by rw [Nat.one_shiftLeft];exact Nat.pow_le_pow_right (by decide) h8
 have e2:(pow2 len - UInt64.ofNat 1).toNat=(1 <<< Go.Sort.bitsLen len) - 1:=by
  rw [UInt64.toNat_sub_of_le _ _ (UInt64.le_iff_toNat_le.2 (by rw [e];exact hp)),e];rfl
 rw [UInt64.toNat_and,e2]
 have h3:r.toNat &&& ((1 <<< Go.Sort.bitsLen len) - 1)<=(1 <<< Go.Sort.bitsLen len) - 1:=Nat.and_le_right
 generalize r.toNat &&& ((1 <<< Go.Sort.bitsLen len) - 1)=x at h3
 rw [IntKind.wrap_i64];omega
end Go.Proofs.YtoaibdbehlcnfaaGreat.Sm
end
section
namespace Go.Proofs.YtoaibdbehlcnfaaGreat.Sm
open Go.RowKit
open Go.Sort (swp)
def bpB {L:Nat} (q:Nat->Option (Nat × Nat)) (l:List Rl) (n:Nat) (d:Array (Fin (L+1))) (r:UInt64):List (Nat × SB):=(9,⟨0,some (.box 338 [.u r])⟩)::gl q [210,201] (ioB l n d)
theorem bp_end {L:Nat} {l:List Rl} {d:Array (Fin (L+1))} {s:St} {q:Nat->Option (Nat × Nat)} {n e e1 e1' e3 g g1:Nat} {r:UInt64} {els:List (List AV)} {cs:List AV} (h3:s.σ 9=⟨e3,some (.box 338 cs)⟩) (h0:s.σ 210=⟨e,some (.box 368 [.sl (l.map cRl),.row 201 e1 0 n])⟩) (h1:s.σ 201=⟨e1',some (.row 3 1 els)⟩)
  (hg:s.σ 1110=⟨g,some (.ghost 210 e (q 210))⟩) (hg1:s.σ 1101=⟨g1,some (.ghost 201 e1' (q 201))⟩) (he:e1=e1') (hc:cs=[.u r]) (hel:els=d.toList.map numF) (hn:0+n<=(d.toList.map numF).length):WkB s (lkB (bpB q l n d r)) (bpB q l n d r):=by
 subst he hel hc
 exact ⟨.boxL h3 ⟨Rn.is rfl rfl,trivial⟩ rfl,.ghost hg h0 rfl,.ghost hg1 h1 rfl,.boxL h0 ⟨Rn.is rfl rfl,Rn.rowIs rfl h1 rfl,trivial⟩ rfl,.row h1 rfl,trivial⟩
theorem m_break (l:List Rl) (L:Nat) (hL:l.length=L+1) (n:Nat) (hl:n<=100000) (d:Array (Fin (L+1))) (hn:d.size=n) (a b:Nat) (hab:a+8<=b) (hb:b<=n) (h256:n<256) (q:Nat->Option (Nat × Nat)):MDoes Tryz.prog 312 [.row 201 0 0 n,.i .i64 ((a:Nat):Int),.i .i64 ((b:Nat):Int),.fn 300 [.own 210 0 0] []] (gl q [210,201] (ioB l n (d))) (.tup []) (gl q [210,201] (ioB l n (Go.Sort.breakPatterns d a b))):=by
 refine MDoes.of_body Tryz.func312 rfl (by kernel_rfl) rfl rfl ?_
 obtain ⟨G,hG⟩:∃R,Go.Sort.breakPatterns d a b=R:=⟨_,rfl⟩
 rw [hG]
 rw [brk_eq (by omega)] at hG
 have wl:IntKind.i64.wrap (((b:Nat):Int) - ((a:Nat):Int))=((b - a:Nat):Int):=by rw [IntKind.wrap_i64];omega
 generalize hm:b - a=m at wl hG
 have w2:=w_quo4 m 2 (by omega) (by decide) a (by omega)
 have wb:IntKind.i64.wrap (((a+m / 4*2:Nat):Int) - Int.ofNat 1)=((a+m / 4*2 - 1:Nat):Int):=by rw [IntKind.wrap_i64];simp only [Int.ofNat_eq_natCast];omega
 have wc:IntKind.i64.wrap (((a+m / 4*2:Nat):Int)+Int.ofNat 1)=((a+m / 4*2+1:Nat):Int):=by rw [IntKind.wrap_i64];simp only [Int.ofNat_eq_natCast];omega
 have hlen:=d_nextPow m (by omega)
 have hr0:ofI64 ((m:Nat):Int)=UInt64.ofNat m:=ofI_nat m (by omega)
 refine jB ?_
 refine AW.text ?_
 refine RG.runO ty_ok 0 [(15,.i .i64 ((m:Nat):Int))] 400 rfl jD ?_
 refine jA ?_
 refine AW.cond rfl (fun h0=>?_) (fun h0=>?_)
 rotate_left
 ·exfalso
  have:=of_decide_eq_false h0
  simp only [Int.ofNat_eq_natCast] at this
  omega
 refine jB ?_;refine wF ?_;refine wH rfl ?_;refine jB ?_
 refine AW.text ?_
 refine wH rfl ?_
 refine RG.callS rfl rfl rfl rfl rfl hlen rfl rfl ?_
 refine wH rfl ?_;refine jB ?_
 refine AW.text ?_
 refine RG.runO ty_ok 0 [(26,.i .i64 ((a+m / 4*2:Nat):Int)),(27,.i .i64 ((a+m / 4*2 - 1:Nat):Int))] 400 rfl jD ?_
 refine jA ?_
 have hm4:m / 4*2+1<m/\2<=m / 4:=by omega
 obtain ⟨c,hc⟩:∃c,a+m / 4*2 - 1=c:=⟨_,rfl⟩
 have hc1:a+m / 4*2=c+1:=by omega
 have hc2:a+m / 4*2+1=c+2:=by omega
 rw [hc] at hG
 refine AW.loopL (ι:=Nat × (UInt64 × Array (Fin (L+1)))) (fun x=>[(0,.row 201 0 0 n),(1,.i .i64 ((a:Nat):Int)),(8,.i .i64 ((m:Nat):Int)),(9,.own 9 0 0),(10,.u (pow2 m)),(11,.i .i64 ((x.1:Nat):Int))]) (fun x=>bpB q l n x.2.2 x.2.1) (fun x=>(c<=x.1/\x.1<=c+3/\x.2.2.size=n)/\(brkL a m (1 <<< Go.Sort.bitsLen m) (c+3 - x.1) x.1 x.2).2=G) (fun x=>c+3 - x.1) (c,(UInt64.ofNat m,d)) ⟨⟨Nat.le_refl _,by show c<=c+3;omega,hn⟩,by show (brkL a m _ (c+3 - c) c _).2=G;rw [Nat.add_sub_cancel_left];exact hG⟩ ⟨Rn.rowIs rfl rfl rfl,Rn.is rfl rfl,Rn.is rfl rfl,Rn.ownIs rfl rfl rfl,Rn.is rfl rfl,Rn.is (congrArg (AV.i .i64) (show (((a+m / 4*2 - 1:Nat):Int))=((c:Nat):Int) by rw [hc])) rfl,trivial⟩ (bp_end rfl rfl rfl rfl rfl rfl (by rw [<- hr0]) (rfl) (rowFit hn)) fun x hx=>?_
 clear hG hn
 obtain ⟨i,r,v⟩:=x
 obtain ⟨⟨hi0,hi,hv⟩,hG⟩:=hx
 simp only at hi0 hi hv hG
 refine jB ?_
 refine AW.text ?_
 refine RG.runO ty_ok 0 [(33,.i .i64 ((a+m / 4*2:Nat):Int)),(34,.i .i64 ((a+m / 4*2+1:Nat):Int))] 400 rfl jD ?_
 refine jB ?_
 refine AW.cond rfl (fun h1=>?_) (fun h1=>?_)
 rotate_left
 ·have k:i=c+3:=by
   have:=of_decide_eq_false h1
   try simp only at this
   omega
  subst k
  rw [Nat.sub_self,brkL] at hG
  subst hG
  refine jA ?_
  refine jE ?_;refine jA ?_
  exact retM0 rfl (.inl rfl) (io_end rfl rfl rfl rfl rfl (rfl) (rowFit hv))
 have k:i<=c+2:=by
  have:=of_decide_eq_true h1
  try simp only at this
  omega
 rw [show c+3 - i=(c+3 - (i+1))+1 by omega,brkL,brk_step] at hG
 have ho:=brkO_lt (len:=m) (by omega) r
 have hoth:=pow2_and (len:=m) (by omega) (by omega) (Go.Sort.xorNext r)
 have hmd:=Go.Sort.two_pow_bitsLen_le (n:=m) (by omega)
 have hle:(Go.Sort.xorNext r).toNat &&& ((1 <<< Go.Sort.bitsLen m) - 1)<=(1 <<< Go.Sort.bitsLen m) - 1:=Nat.and_le_right
 rw [Nat.one_shiftLeft] at hle
 obtain ⟨o,hO⟩:∃o,brkO m (1 <<< Go.Sort.bitsLen m) r=o:=⟨_,rfl⟩
 rw [hO] at ho hG
 rw [brkO] at hO
 rw [Nat.one_shiftLeft] at hoth hO
 generalize (Go.Sort.xorNext r).toNat &&& (2 ^ Go.Sort.bitsLen m - 1)=oth at hoth hO hle
 have w3:oth<=100000:=by omega
 refine jB ?_
 refine AW.text ?_
 refine wH rfl ?_
 refine RG.ownN [(9,240)] [(240,9)] (fun q=>m_next r q) rfl rfl rfl rfl rfl rfl rfl rfl rfl rfl ?_
 refine RG.runO ty_ok 0 [(42,.i .i64 ((oth:Nat):Int))] 400 rfl jD ?_
 refine jA ?_
 refine AW.cutT (ι:=Unit) (fun _=>[(0,.row 201 0 0 n),(1,.i .i64 ((a:Nat):Int)),(8,.i .i64 ((m:Nat):Int)),(9,.own 9 0 0),(10,.u (pow2 m)),(11,.i .i64 ((i:Nat):Int)),(12,.i .i64 ((o:Nat):Int))]) (fun _=>bpB q l n v (Go.Sort.xorNext r)) (fun _=>True) ?_ fun _ _=>?_
 ·refine AW.cond rfl (fun h2=>?_) (fun h2=>?_)
  ·have k2:oth>=m:=by
    have:=of_decide_eq_true h2
    try simp only at this
    omega
   rw [decide_eq_true k2,cond_true] at hO
   have wo:IntKind.i64.wrap (((oth:Nat):Int) - ((m:Nat):Int))=((o:Nat):Int):=by rw [IntKind.wrap_i64];omega
   refine jA ?_
   exact ⟨(),trivial,⟨Rn.rowIs rfl rfl rfl,Rn.is rfl rfl,Rn.is rfl rfl,Rn.ownIs rfl rfl rfl,Rn.is rfl rfl,Rn.is rfl rfl,Rn.is (congrArg (AV.i .i64) wo) rfl,trivial⟩,bp_end rfl rfl rfl rfl rfl rfl (rfl) (rfl) (rowFit hv)⟩
  ·have k2:¬oth>=m:=by
    have:=of_decide_eq_false h2
    try simp only at this
    omega
   rw [decide_eq_false k2,cond_false] at hO
   subst hO
   refine jA ?_
   exact ⟨(),trivial,⟨Rn.rowIs rfl rfl rfl,Rn.is rfl rfl,Rn.is rfl rfl,Rn.ownIs rfl rfl rfl,Rn.is rfl rfl,Rn.is rfl rfl,Rn.is rfl rfl,trivial⟩,bp_end rfl rfl rfl rfl rfl rfl (rfl) (rfl) (rowFit hv)⟩
 have wi:IntKind.i64.wrap (((i:Nat):Int)+Int.ofNat 1)=((i+1:Nat):Int):=by simp only [IntKind.wrap_i64,Int.ofNat_eq_natCast];omega
 have hv2:=(swp_sz v i (a+o)).trans hv
 refine jB ?_
 refine AW.draws mixed_ok ?_
 refine wH rfl ?_;refine RG.opS rfl (op_ixW (a+o) numF ((v).toList) (by omega) rfl (tk rfl) rfl (tk rfl) rfl rfl rfl jX) rfl ?_;refine RG.opS rfl (op_ldW (a+o) numF (v) (by omega) rfl (tk rfl) rfl rfl rfl) rfl ?_;refine wH rfl ?_;refine RG.opS rfl (op_ixW (i) numF ((v).toList) (by omega) rfl (tk rfl) rfl (tk rfl) rfl rfl rfl jX) rfl ?_;refine RG.opS rfl (op_ldW (i) numF (v) (by omega) rfl (tk rfl) rfl rfl rfl) rfl ?_;refine wH rfl ?_;refine RG.opS rfl (op_ixW (i) numF ((v).toList) (by omega) rfl (tk rfl) rfl (tk rfl) rfl rfl rfl jX) rfl ?_;refine RG.opS rfl (op_stW (i) numF ((v).toList) ((v)[a+o]!) (by simp only [List.length_set,Array.length_toList];omega) rfl (tk rfl) rfl rfl rfl rfl rfl (fun _=>rfl)) rfl ?_;refine wH rfl ?_;refine RG.opS rfl (op_ixW (a+o) numF (((v).toList.set (i) (v)[a+o]!)) (by omega) rfl (tk rfl) rfl (tk rfl) rfl rfl rfl jX) rfl ?_;refine RG.opS rfl (op_stW (a+o) numF (((v).toList.set (i) (v)[a+o]!)) ((v)[i]!) (by simp only [List.length_set,Array.length_toList];omega) rfl (tk rfl) rfl rfl rfl rfl rfl (fun _=>rfl)) rfl ?_
 refine wH rfl ?_;refine jB ?_
 refine AW.text ?_
 refine wH rfl ?_;refine jB ?_
 exact ⟨(i+1,(Go.Sort.xorNext r,swp v i (a+o))),⟨⟨⟨by show c<=i+1;omega,by show i+1<=c+3;omega,hv2⟩,hG⟩,by show c+3 - (i+1)<c+3 - i;omega⟩,⟨Rn.rowTIs rfl rfl rfl (rowFit (hv2)),Rn.is rfl rfl,Rn.is rfl rfl,Rn.ownIs rfl rfl rfl,Rn.is rfl rfl,Rn.is (congrArg (AV.i .i64) wi) rfl,trivial⟩,bp_end rfl rfl rfl rfl rfl rfl (rfl) (by rw [swp_list]) (rowFit hv2)⟩
end Go.Proofs.YtoaibdbehlcnfaaGreat.Sm
end
section
namespace Go.Proofs.YtoaibdbehlcnfaaGreat.Sm
open Go.RowKit
open Go.Sort (swp)
open Go.Sort (SWO Below PermIn SortedIn)
theorem hint2 (h:Go.Sort.Hint):decide (Go.Sort.hintCode h=2)=decide (h = .decreasing):=by cases h <;> rfl
theorem hint1 (h:Go.Sort.Hint):decide (Go.Sort.hintCode h=1)=decide (h = .increasing):=by cases h <;> rfl
theorem heap_sz {α:Type} [Inhabited α] {lt:α->α->Bool} (d:Array α) (a b:Nat):(Go.Sort.heapSort lt d a b).size=d.size:=by
 rw [Go.Sort.heapSort,pop_sz,build_sz]
theorem m_pdq (l : List Rl) (L : Nat) (hL : l.length = L + 1) (n : Nat) (hl : n <= 100000) (h256 : n < 256) (hS : SWO (ltI l L)) : ∀ (f a b lim : Nat) (d : Array (Fin (L + 1))), d.size = n -> a <= b -> b <= n -> b - a <= f -> lim <= 1000 -> Below (ltI l L) a b d -> ∀ (q : Nat -> Option (Nat × Nat)),
    MDoes Tryz.prog 306 [.row 201 0 0 n,.i .i64 ((a:Nat):Int),.i .i64 ((b:Nat):Int),.i .i64 ((lim:Nat):Int),.fn 300 [.own 210 0 0] []] (gl q [210,201] (ioB l n (d))) (.tup []) (gl q [210,201] (ioB l n (Go.Sort.pdq (ltI l L) d a b lim true true))):=by
  intro f
  induction f using Nat.strongRecOn with
  | ind f IH =>
  intro a b lim d hn hab hb hf hlim hB q
  refine MDoes.of_body Tryz.func306 rfl (by kernel_rfl) rfl rfl ?_
  generalize hG:Go.Sort.pdq (ltI l L) d a b lim true true=G
  refine jA ?_
  refine AW.loopL (ι:=(Nat × Nat × Nat) × (Bool × Bool) × Array (Fin (L+1))) (fun x=>[(0,.row 201 0 0 n),(1,.i .i64 ((x.1.1:Nat):Int)),(2,.i .i64 ((x.1.2.1:Nat):Int)),(3,.i .i64 ((x.1.2.2:Nat):Int)),(4,.fn 300 [.own 210 0 0] []),(10,.b x.2.1.1),(11,.b x.2.1.2)]) (fun x=>gl q [210,201] (ioB l n (x.2.2))) (fun x=>(x.1.1<=x.1.2.1/\x.1.2.1<=n/\x.1.2.1 - x.1.1<=f/\x.1.2.2<=1000/\x.2.2.size=n/\Below (ltI l L) x.1.1 x.1.2.1 x.2.2)/\Go.Sort.pdq (ltI l L) x.2.2 x.1.1 x.1.2.1 x.1.2.2 x.2.1.1 x.2.1.2=G) (fun x=>x.1.2.1 - x.1.1) ((a,b,lim),(true,true),d) ⟨⟨hab,hb,hf,hlim,hn,hB⟩,hG⟩ ⟨Rn.rowIs rfl rfl rfl,Rn.is rfl rfl,Rn.is rfl rfl,Rn.is rfl rfl,Rn.fnO rfl rfl rfl,Rn.is rfl rfl,Rn.is rfl rfl,trivial⟩ (io_end rfl rfl rfl rfl rfl (rfl) (rowFit (by assumption))) fun x hx=>?_
  clear hG hn hab hb hf hlim hB
  obtain ⟨⟨a,b,lim⟩,⟨wb,wp⟩,d⟩:=x
  obtain ⟨⟨hab,hb,hf,hlim,hn,hB⟩,hG⟩:=hx
  simp only at hab hb hf hlim hn hB hG
  have p:=Go.Sort.pdq_unfold (lt:=ltI l L) (d:=d) (a:=a) (b:=b) (limit:=lim) (wb:=wb) (wp:=wp)
  rw [p] at hG
  clear p
  have wl:IntKind.i64.wrap (((b:Nat):Int) - ((a:Nat):Int))=((b - a:Nat):Int):=by rw [IntKind.wrap_i64];omega
  refine jB ?_
  refine AW.text ?_
  refine RG.runO ty_ok 0 [(23,.i .i64 ((b - a:Nat):Int))] 400 rfl jD ?_
  refine jA ?_
  refine AW.cond rfl (fun h0=>?_) (fun h0=>?_)
  · have h : b - a <= 12 := by
      have:=of_decide_eq_true h0
      simp only [Int.ofNat_eq_natCast] at this
      omega
    rw [if_pos h] at hG
    subst hG
    have hs:=ins_pm (ltI l L) d a b (by omega)
    refine jA ?_
    refine RG.ownK [(210,210),(201,201)] [(210,210),(201,201)] 201 201 (rowLen (hs.1)) (fun q=>m_insI l L hL n hl d hn a b (by omega) hb q) rfl rfl rfl rfl rfl rfl rfl rfl rfl rfl rfl rfl rfl ?_
    refine wH rfl ?_;refine jA ?_
    exact AW.ret (retM0 rfl (.inr rfl) (io_end rfl rfl rfl rfl rfl (rfl) (rowFit (hs.1.trans hn))))
  have h:¬b - a<=12:=by
    have:=of_decide_eq_false h0
    simp only [Int.ofNat_eq_natCast] at this
    omega
  rw [if_neg h] at hG
  refine jA ?_
  refine AW.cond rfl (fun h1=>?_) (fun h1=>?_)
  · have k : lim = 0 := by
      have:=of_decide_eq_true h1
      simp only [Int.ofNat_eq_natCast] at this
      omega
    rw [if_pos k] at hG
    subst hG
    have hs:=heap_sz (lt:=ltI l L) d a b
    refine jA ?_
    refine RG.ownK [(210,210),(201,201)] [(210,210),(201,201)] 201 201 (rowLen (hs)) (fun q=>m_heap l L hL n hl d hn a b (by omega) hb q) rfl rfl rfl rfl rfl rfl rfl rfl rfl rfl rfl rfl rfl ?_
    refine wH rfl ?_;refine jA ?_
    exact AW.ret (retM0 rfl (.inr rfl) (io_end rfl rfl rfl rfl rfl (rfl) (rowFit (hs.trans hn))))
  have k:¬lim=0:=by
    have:=of_decide_eq_false h1
    simp only [Int.ofNat_eq_natCast] at this
    omega
  rw [if_neg k] at hG
  have hF:=Go.Sort.rd_facts (limit:=lim) (wb:=wb) (wp:=wp) hS Go.Sort.partialInsertionSort_holds Go.Sort.reverseRange_holds (show a<b by omega) (show b<=d.size by omega) hB
  have hlm:=Go.Sort.rd_lim_le (lt:=ltI l L) (d:=d) (a:=a) (b:=b) (limit:=lim) (wb:=wb) (wp:=wp)
  obtain ⟨X,hX⟩:∃X,Go.Sort.rd (ltI l L) d a b lim wb wp=X:=⟨_,rfl⟩
  rw [hX] at hG hF hlm
  have q1:X.d1=(if (!wb)=true then Go.Sort.breakPatterns d a b else d):=by rw [<- hX];rfl
  have q2:X.lim=(if (!wb)=true then lim - 1 else lim):=by rw [<- hX];rfl
  have q0:X.c=Go.Sort.choosePivot (ltI l L) X.d1 a b:=by rw [<- hX];rfl
  have q3:X.d2=(if X.c.2 = .decreasing then Go.Sort.reverseRange X.d1 a b else X.d1):=by rw [<- hX];rfl
  have q4:X.pivot=(if X.c.2 = .decreasing then (b - 1) - (X.c.1 - a) else X.c.1):=by rw [<- hX];rfl
  have q5:X.hint=(if X.c.2 = .decreasing then Go.Sort.Hint.increasing else X.c.2):=by rw [<- hX];rfl
  have q6:X.pi=(if (wb && wp && decide (X.hint = .increasing))=true then Go.Sort.partialInsertionSort (ltI l L) X.d2 a b else (X.d2,false)):=by rw [<- hX];rfl
  clear hX
  obtain ⟨s1,B1,⟨c1,c2⟩,s2,B2,⟨v1,v2⟩,s3,B3⟩:=hF
  have s1:=s1.trans hn
  have s2:=s2.trans hn
  have s3:=s3.trans hn
  refine jA ?_
  refine AW.cutT (ι:=Unit) (fun _=>[(0,.row 201 0 0 n),(1,.i .i64 ((a:Nat):Int)),(2,.i .i64 ((b:Nat):Int)),(3,.i .i64 ((X.lim:Nat):Int)),(4,.fn 300 [.own 210 0 0] []),(10,.b wb),(11,.b wp),(12,.i .i64 ((b - a:Nat):Int))]) (fun _=>gl q [210,201] (ioB l n (X.d1))) (fun _=>True) ?_ fun _ _=>?_
  · refine AW.cond rfl (fun h2=>?_) (fun h2=>?_)
    · rw [if_pos h2] at q1 q2
      have wm:IntKind.i64.wrap (((lim:Nat):Int) - Int.ofNat 1)=((X.lim:Nat):Int):=by rw [q2,IntKind.wrap_i64];simp only [Int.ofNat_eq_natCast];omega
      have hbk:=m_break l L hL n hl d hn a b (by omega) hb h256
      rw [<- q1] at hbk
      refine jA ?_
      refine RG.ownK [(210,210),(201,201)] [(210,210),(201,201)] 201 201 (rowLen (s1.trans hn.symm)) (fun q=>hbk q) rfl rfl rfl rfl rfl rfl rfl rfl rfl rfl rfl rfl rfl ?_
      refine wH rfl ?_;refine jA ?_
      exact ⟨(),trivial,⟨Rn.rowIs rfl rfl rfl,Rn.is rfl rfl,Rn.is rfl rfl,Rn.is (congrArg (AV.i .i64) wm) rfl,Rn.fnO rfl rfl rfl,Rn.is rfl rfl,Rn.is rfl rfl,Rn.is rfl rfl,trivial⟩,io_end rfl rfl rfl rfl rfl (rfl) (rowFit s1)⟩
    · rw [if_neg (by rw [h2];decide)] at q1 q2
      rw [q1,q2]
      refine jA ?_
      exact ⟨(),trivial,⟨Rn.rowIs rfl rfl rfl,Rn.is rfl rfl,Rn.is rfl rfl,Rn.is rfl rfl,Rn.fnO rfl rfl rfl,Rn.is rfl rfl,Rn.is rfl rfl,Rn.is rfl rfl,trivial⟩,io_end rfl rfl rfl rfl rfl (rfl) (rowFit hn)⟩
  clear q1 q2
  have hpv:=m_pivot l L hL n hl X.d1 s1 a b (by omega) hb
  have e0:Go.Sort.choosePivot (ltI l L) X.d1 a b=((Go.Sort.rawPivot (ltI l L) X.d1 a b).1,Go.Sort.hintOf (Go.Sort.rawPivot (ltI l L) X.d1 a b).2):=Go.Sort.choosePivot_eq _ _ _ _
  have e1:(Go.Sort.rawPivot (ltI l L) X.d1 a b).1=X.c.1:=by rw [q0,e0]
  have e2:Go.Sort.hintOf (Go.Sort.rawPivot (ltI l L) X.d1 a b).2=X.c.2:=by rw [q0,e0]
  rw [e1,e2] at hpv
  clear e0 e1 e2 q0
  refine jA ?_
  refine RG.ownK [(210,210),(201,201)] [(210,210),(201,201)] 201 201 (rowLen (rfl)) (fun q=>hpv q) rfl rfl rfl rfl rfl rfl rfl rfl rfl rfl rfl rfl rfl ?_
  refine wH rfl ?_;refine jA ?_
  refine AW.cutT (ι:=Unit) (fun _=>[(0,.row 201 0 0 n),(1,.i .i64 ((a:Nat):Int)),(2,.i .i64 ((b:Nat):Int)),(3,.i .i64 ((X.lim:Nat):Int)),(4,.fn 300 [.own 210 0 0] []),(10,.b wb),(11,.b wp),(12,.i .i64 ((b - a:Nat):Int)),(13,.i .i64 ((X.pivot:Nat):Int)),(14,.i .i64 (Go.Sort.hintCode X.hint))]) (fun _=>gl q [210,201] (ioB l n (X.d2))) (fun _=>True) ?_ fun _ _=>?_
  · refine AW.cond rfl (fun h2=>?_) (fun h2=>?_)
    · have k2:X.c.2 = .decreasing:=of_decide_eq_true ((hint2 X.c.2).symm.trans h2)
      rw [if_pos k2] at q3 q4 q5
      have hrv:=m_revI l L hL n hl X.d1 s1 a b (by omega) hb
      rw [<- q3] at hrv
      have wa:IntKind.i64.wrap (((b:Nat):Int) - Int.ofNat 1)=((b - 1:Nat):Int):=by rw [IntKind.wrap_i64];simp only [Int.ofNat_eq_natCast];omega
      have wc:IntKind.i64.wrap (((X.c.1:Nat):Int) - ((a:Nat):Int))=((X.c.1 - a:Nat):Int):=by rw [IntKind.wrap_i64];omega
      have wd:IntKind.i64.wrap (((b - 1:Nat):Int) - ((X.c.1 - a:Nat):Int))=((X.pivot:Nat):Int):=by rw [q4,IntKind.wrap_i64];omega
      refine jA ?_
      refine RG.ownK [(210,210),(201,201)] [(210,210),(201,201)] 201 201 (rowLen (s2.trans s1.symm)) (fun q=>hrv q) rfl rfl rfl rfl rfl rfl rfl rfl rfl rfl rfl rfl rfl ?_
      refine wH rfl ?_;refine jB ?_
      refine AW.text ?_
      refine RG.runO ty_ok 0 [(63,.i .i64 ((b - 1:Nat):Int)),(66,.i .i64 ((X.c.1 - a:Nat):Int)),(67,.i .i64 ((X.pivot:Nat):Int))] 400 rfl jD ?_
      refine jA ?_
      exact ⟨(),trivial,⟨Rn.rowIs rfl rfl rfl,Rn.is rfl rfl,Rn.is rfl rfl,Rn.is rfl rfl,Rn.fnO rfl rfl rfl,Rn.is rfl rfl,Rn.is rfl rfl,Rn.is rfl rfl,Rn.is rfl rfl,Rn.is (by rw [q5];rfl) rfl,trivial⟩,io_end rfl rfl rfl rfl rfl (rfl) (rowFit s2)⟩
    · have k2:¬X.c.2 = .decreasing:=of_decide_eq_false ((hint2 X.c.2).symm.trans h2)
      rw [if_neg k2] at q3 q4 q5
      rw [q3,q4,q5]
      refine jA ?_
      exact ⟨(),trivial,⟨Rn.rowIs rfl rfl rfl,Rn.is rfl rfl,Rn.is rfl rfl,Rn.is rfl rfl,Rn.fnO rfl rfl rfl,Rn.is rfl rfl,Rn.is rfl rfl,Rn.is rfl rfl,Rn.is rfl rfl,Rn.is rfl rfl,trivial⟩,io_end rfl rfl rfl rfl rfl (rfl) (rowFit s1)⟩
  clear q3 q4 q5
  refine jB ?_
  refine AW.cutT (ι:=Unit) (fun _=>[(0,.row 201 0 0 n),(1,.i .i64 ((a:Nat):Int)),(2,.i .i64 ((b:Nat):Int)),(3,.i .i64 ((X.lim:Nat):Int)),(4,.fn 300 [.own 210 0 0] []),(10,.b wb),(11,.b wp),(12,.i .i64 ((b - a:Nat):Int)),(13,.i .i64 ((X.pivot:Nat):Int)),(14,.i .i64 (Go.Sort.hintCode X.hint)),(75,.b (wb && wp && decide (X.hint = .increasing)))]) (fun _=>gl q [210,201] (ioB l n (X.d2))) (fun _=>True) ?_ fun _ _=>?_
  · refine AW.text ?_
    cases wb
    · refine wH rfl ?_;refine jB ?_
      exact ⟨(),trivial,⟨Rn.rowIs rfl rfl rfl,Rn.is rfl rfl,Rn.is rfl rfl,Rn.is rfl rfl,Rn.fnO rfl rfl rfl,Rn.is rfl rfl,Rn.is rfl rfl,Rn.is rfl rfl,Rn.is rfl rfl,Rn.is rfl rfl,Rn.is rfl rfl,trivial⟩,io_end rfl rfl rfl rfl rfl (rfl) (rowFit s2)⟩
    cases wp
    · refine wH rfl ?_;refine jB ?_
      exact ⟨(),trivial,⟨Rn.rowIs rfl rfl rfl,Rn.is rfl rfl,Rn.is rfl rfl,Rn.is rfl rfl,Rn.fnO rfl rfl rfl,Rn.is rfl rfl,Rn.is rfl rfl,Rn.is rfl rfl,Rn.is rfl rfl,Rn.is rfl rfl,Rn.is rfl rfl,trivial⟩,io_end rfl rfl rfl rfl rfl (rfl) (rowFit s2)⟩
    refine wH rfl ?_;refine jB ?_
    exact ⟨(),trivial,⟨Rn.rowIs rfl rfl rfl,Rn.is rfl rfl,Rn.is rfl rfl,Rn.is rfl rfl,Rn.fnO rfl rfl rfl,Rn.is rfl rfl,Rn.is rfl rfl,Rn.is rfl rfl,Rn.is rfl rfl,Rn.is rfl rfl,Rn.is (congrArg AV.b (by rw [Bool.true_and,Bool.true_and];exact hint1 X.hint)) rfl,trivial⟩,io_end rfl rfl rfl rfl rfl (rfl) (rowFit s2)⟩
  refine jB ?_
  refine AW.cutT (ι:=Unit) (fun _=>[(0,.row 201 0 0 n),(1,.i .i64 ((a:Nat):Int)),(2,.i .i64 ((b:Nat):Int)),(3,.i .i64 ((X.lim:Nat):Int)),(4,.fn 300 [.own 210 0 0] []),(10,.b wb),(11,.b wp),(12,.i .i64 ((b - a:Nat):Int)),(13,.i .i64 ((X.pivot:Nat):Int))]) (fun _=>gl q [210,201] (ioB l n (X.pi.1))) (fun _=>X.pi.2=false) ?_ fun _ hpi=>?_
  · refine AW.cond rfl (fun h2=>?_) (fun h2=>?_)
    · rw [if_pos h2] at q6
      have hpn:=m_pins l L hL n hl X.d2 s2 a b (by omega) hb
      rw [<- q6] at hpn
      refine jA ?_
      refine RG.ownK [(210,210),(201,201)] [(210,210),(201,201)] 201 201 (rowLen (s3.trans s2.symm)) (fun q=>hpn q) rfl rfl rfl rfl rfl rfl rfl rfl rfl rfl rfl rfl rfl ?_
      refine wH rfl ?_;refine jA ?_
      refine AW.cond rfl (fun h3=>?_) (fun h3=>?_)
      · rw [if_pos h3] at hG
        subst hG
        exact AW.ret (retM0 rfl (.inr rfl) (io_end rfl rfl rfl rfl rfl (rfl) (rowFit s3)))
      · refine jA ?_
        exact ⟨(),h3,⟨Rn.rowIs rfl rfl rfl,Rn.is rfl rfl,Rn.is rfl rfl,Rn.is rfl rfl,Rn.fnO rfl rfl rfl,Rn.is rfl rfl,Rn.is rfl rfl,Rn.is rfl rfl,Rn.is rfl rfl,trivial⟩,io_end rfl rfl rfl rfl rfl (rfl) (rowFit s3)⟩
    · rw [if_neg (by rw [h2];decide)] at q6
      have q7:X.pi.1=X.d2:=by rw [q6]
      have q8:X.pi.2=false:=by rw [q6]
      rw [q7]
      refine jA ?_
      exact ⟨(),q8,⟨Rn.rowIs rfl rfl rfl,Rn.is rfl rfl,Rn.is rfl rfl,Rn.is rfl rfl,Rn.fnO rfl rfl rfl,Rn.is rfl rfl,Rn.is rfl rfl,Rn.is rfl rfl,Rn.is rfl rfl,trivial⟩,io_end rfl rfl rfl rfl rfl (rfl) (rowFit s2)⟩
  rw [if_neg (by rw [hpi];decide)] at hG
  clear q6 hpi
  refine jB ?_
  refine AW.cutT (ι:=Unit) (fun _=>[(0,.row 201 0 0 n),(1,.i .i64 ((a:Nat):Int)),(2,.i .i64 ((b:Nat):Int)),(3,.i .i64 ((X.lim:Nat):Int)),(4,.fn 300 [.own 210 0 0] []),(10,.b wb),(11,.b wp),(12,.i .i64 ((b - a:Nat):Int)),(13,.i .i64 ((X.pivot:Nat):Int)),(97,.b (decide (a>0) && !ltI l L X.pi.1[a - 1]! X.pi.1[X.pivot]!))]) (fun _=>gl q [210,201] (ioB l n (X.pi.1))) (fun _=>True) ?_ fun _ _=>?_
  · refine AW.draws mixed_ok ?_
    by_cases g1:(0:Int)<((a:Nat):Int)
    · refine RG.runO ty_ok 0 [(82,.b true)] 400 rfl jD ?_
      refine wH rfl ?_;refine RG.opS rfl (op_ixW (a - 1) numF ((X.pi.1).toList) (by omega) rfl (tk rfl) rfl (tk rfl) rfl rfl rfl jX) rfl ?_;refine RG.opS rfl (op_ldW (a - 1) numF (X.pi.1) (by omega) rfl (tk rfl) rfl rfl rfl) rfl ?_
      refine wH rfl ?_;refine RG.opS rfl (op_ixW (X.pivot) numF ((X.pi.1).toList) (by omega) rfl (tk rfl) rfl (tk rfl) rfl rfl rfl jX) rfl ?_;refine RG.opS rfl (op_ldW (X.pivot) numF (X.pi.1) (by omega) rfl (tk rfl) rfl rfl rfl) rfl ?_
      refine wH rfl ?_
      refine RG.ownK [(210,210),(201,201)] [(210,210),(201,201)] 201 201 rfl (fun q=>m_compare l L hL n (X.pi.1) (X.pi.1[a - 1]!) (X.pi.1[X.pivot]!) q (rowFit (by assumption))) rfl rfl rfl rfl rfl rfl rfl rfl rfl rfl rfl rfl rfl ?_
      refine wH rfl ?_;refine jB ?_
      exact ⟨(),trivial,⟨Rn.rowIs rfl rfl rfl,Rn.is rfl rfl,Rn.is rfl rfl,Rn.is rfl rfl,Rn.fnO rfl rfl rfl,Rn.is rfl rfl,Rn.is rfl rfl,Rn.is rfl rfl,Rn.is rfl rfl,Rn.is (congrArg AV.b (by rw [decide_eq_true (show a>0 by omega),Bool.true_and];rfl)) rfl,trivial⟩,io_end rfl rfl rfl rfl rfl (rfl) (rowFit s3)⟩
    · refine RG.runO ty_ok 0 [(82,.b false)] 400 rfl jD ?_
      refine jB ?_
      exact ⟨(),trivial,⟨Rn.rowIs rfl rfl rfl,Rn.is rfl rfl,Rn.is rfl rfl,Rn.is rfl rfl,Rn.fnO rfl rfl rfl,Rn.is rfl rfl,Rn.is rfl rfl,Rn.is rfl rfl,Rn.is rfl rfl,Rn.is (congrArg AV.b (by rw [decide_eq_false (show ¬a>0 by omega),Bool.false_and])) rfl,trivial⟩,io_end rfl rfl rfl rfl rfl (rfl) (rowFit s3)⟩
  cases hcb:(decide (a>0) && !ltI l L X.pi.1[a - 1]! X.pi.1[X.pivot]!)
  rotate_left
  · rw [if_pos hcb] at hG
    rw [Bool.and_eq_true,decide_eq_true_eq,Bool.not_eq_true'] at hcb
    have hpe:=m_partEq l L hL n hl X.pi.1 s3 a b X.pivot v1 v2 hb
    obtain ⟨⟨mid,d4⟩,hx⟩:∃z,Go.Sort.partitionEqual (ltI l L) X.pi.1 a b X.pivot=z:=⟨_,rfl⟩
    obtain ⟨g1,g2,g3,g4,_⟩:=Go.Sort.round_eq hS (Go.Sort.partitionEqual_holds _) hcb.1 v1 v2 (by omega) B3 hcb.2 hx
    rw [hx] at hpe hG
    simp only at hpe
    rw [if_pos ⟨g1,g2⟩] at hG
    simp only at hG
    have hn4:=g3.trans s3
    refine AW.cond rfl (fun _=>?_) (fun h1=>by cases h1)
    refine jA ?_
    refine RG.ownK [(210,210),(201,201)] [(210,210),(201,201)] 201 201 (rowLen (g3)) (fun q=>hpe q) rfl rfl rfl rfl rfl rfl rfl rfl rfl rfl rfl rfl rfl ?_
    refine wH rfl ?_;refine jA ?_
    refine AW.exit ?_;first | (refine Eq.mpr (if_pos rfl) ?_) | (refine Eq.mpr (if_neg (by decide)) ?_;refine Eq.mpr (if_pos rfl) ?_) | (refine Eq.mpr (if_neg (by decide)) ?_;refine Eq.mpr (if_neg (by decide)) ?_;refine Eq.mpr (if_pos rfl) ?_);refine jA ?_
    exact ⟨((mid,b,X.lim),(wb,wp),d4),⟨⟨⟨g2,hb,by show b - mid<=f;omega,by show X.lim<=1000;omega,hn4,g4⟩,hG⟩,by show b - mid<b - a;omega⟩,⟨Rn.rowIs rfl rfl rfl,Rn.is rfl rfl,Rn.is rfl rfl,Rn.is rfl rfl,Rn.fnO rfl rfl rfl,Rn.is rfl rfl,Rn.is rfl rfl,trivial⟩,io_end rfl rfl rfl rfl rfl (rfl) (rowFit hn4)⟩
  rw [if_neg (by rw [hcb];decide)] at hG
  clear hcb
  have hpt:=m_part l L hL n hl X.pi.1 s3 a b X.pivot v1 v2 hb
  obtain ⟨⟨mid,ap,d4⟩,hx⟩:∃z,Go.Sort.partition (ltI l L) X.pi.1 a b X.pivot=z:=⟨_,rfl⟩
  obtain ⟨g1,g2,g3,g4,g5,g6,g7⟩:=Go.Sort.round_part hS (Go.Sort.partition_holds _) v1 v2 (by omega) B3 hx
  rw [hx] at hpt hG
  simp only at hpt hG
  rw [if_pos ⟨g1,g2⟩] at hG
  have hn4:=g3.trans s3
  have wL:IntKind.i64.wrap (((mid:Nat):Int) - ((a:Nat):Int))=((mid - a:Nat):Int):=by rw [IntKind.wrap_i64];omega
  have wR:IntKind.i64.wrap (((b:Nat):Int) - ((mid:Nat):Int))=((b - mid:Nat):Int):=by rw [IntKind.wrap_i64];omega
  have w8:IntKind.i64.wrap (Int.tdiv ((b - a:Nat):Int) (Int.ofNat 8))=(((b - a) / 8:Nat):Int):=by
    rw [Int.tdiv_eq_ediv_of_nonneg (by omega),IntKind.wrap_i64];simp only [Int.ofNat_eq_natCast];omega
  have wI:IntKind.i64.wrap (((mid:Nat):Int)+Int.ofNat 1)=((mid+1:Nat):Int):=by rw [IntKind.wrap_i64];simp only [Int.ofNat_eq_natCast];omega
  refine AW.cond rfl (fun h1=>by cases h1) (fun _=>?_)
  refine jA ?_
  refine RG.ownK [(210,210),(201,201)] [(210,210),(201,201)] 201 201 (rowLen (g3)) (fun q=>hpt q) rfl rfl rfl rfl rfl rfl rfl rfl rfl rfl rfl rfl rfl ?_
  refine wH rfl ?_;refine jB ?_;refine wF ?_;refine wH rfl ?_;refine jB ?_
  refine AW.text ?_
  refine RG.runO ty_ok 0 [(117,.i .i64 ((mid - a:Nat):Int)),(120,.i .i64 ((b - mid:Nat):Int))] 400 rfl jD ?_
  refine jB ?_
  refine AW.text ?_
  refine RG.runO ty_ok 0 [(122,.i .i64 (((b - a) / 8:Nat):Int))] 400 rfl jD ?_
  refine jA ?_
  refine AW.cond rfl (fun h2=>?_) (fun h2=>?_)
  · have k2 : mid - a < b - mid := by
      have:=of_decide_eq_true h2
      omega
    rw [if_pos k2] at hG
    have ih:=IH (mid - a) (by omega) a mid X.lim d4 hn4 g1 (by omega) (Nat.le_refl _) (by omega) g4
    obtain ⟨l1,l2⟩:=Go.Sort.pdq_sorts (ltI l L) hS d4 a mid X.lim true true g1 (by omega) g4
    obtain ⟨l3,_⟩:=g6 _ l1 l2
    have hn5:=l1.1.trans hn4
    refine jA ?_
    refine RG.ownK [(210,210),(201,201)] [(210,210),(201,201)] 201 201 (rowLen (l1.1)) (fun q=>ih q) rfl rfl rfl rfl rfl rfl rfl rfl rfl rfl rfl rfl rfl ?_
    refine wH rfl ?_;refine jA ?_
    exact ⟨((mid+1,b,X.lim),(decide (mid - a>=(b - a) / 8),ap),Go.Sort.pdq (ltI l L) d4 a mid X.lim true true),⟨⟨⟨by show mid+1<=b;omega,hb,by show b - (mid+1)<=f;omega,by show X.lim<=1000;omega,hn5,l3⟩,hG⟩,by show b - (mid+1)<b - a;omega⟩,⟨Rn.rowIs rfl rfl rfl,Rn.is (congrArg (AV.i .i64) wI) rfl,Rn.is rfl rfl,Rn.is rfl rfl,Rn.fnO rfl rfl rfl,Rn.is (congrArg AV.b (decide_eq_decide.2 (by omega))) rfl,Rn.is rfl rfl,trivial⟩,io_end rfl rfl rfl rfl rfl (rfl) (rowFit hn5)⟩
  · have k2 : ¬ mid - a < b - mid := by
      have:=of_decide_eq_false h2
      omega
    rw [if_neg k2] at hG
    have ih:=IH (b - (mid+1)) (by omega) (mid+1) b X.lim d4 hn4 (by omega) hb (Nat.le_refl _) (by omega) g5
    obtain ⟨l1,l2⟩:=Go.Sort.pdq_sorts (ltI l L) hS d4 (mid+1) b X.lim true true (by omega) (by omega) g5
    obtain ⟨l3,_⟩:=g7 _ l1 l2
    have hn5:=l1.1.trans hn4
    refine jB ?_;refine wF ?_;refine wH rfl ?_;refine jB ?_
    refine AW.text ?_
    refine RG.runO ty_ok 0 [(142,.i .i64 ((mid+1:Nat):Int))] 400 rfl jD ?_
    refine RG.ownK [(210,210),(201,201)] [(210,210),(201,201)] 201 201 (rowLen (l1.1)) (fun q=>ih q) rfl rfl rfl rfl rfl rfl rfl rfl rfl rfl rfl rfl rfl ?_
    refine wH rfl ?_;refine jA ?_
    exact ⟨((a,mid,X.lim),(decide (b - mid>=(b - a) / 8),ap),Go.Sort.pdq (ltI l L) d4 (mid+1) b X.lim true true),⟨⟨⟨g1,by show mid<=n;omega,by show mid - a<=f;omega,by show X.lim<=1000;omega,hn5,l3⟩,hG⟩,by show mid - a<b - a;omega⟩,⟨Rn.rowIs rfl rfl rfl,Rn.is rfl rfl,Rn.is rfl rfl,Rn.is rfl rfl,Rn.fnO rfl rfl rfl,Rn.is (congrArg AV.b (decide_eq_decide.2 (by omega))) rfl,Rn.is rfl rfl,trivial⟩,io_end rfl rfl rfl rfl rfl (rfl) (rowFit hn5)⟩
end Go.Proofs.YtoaibdbehlcnfaaGreat.Sm
end
section
namespace Go.Proofs.YtoaibdbehlcnfaaGreat.Sm
open Go.RowKit
open Go.Sort (swp)
open Go.Sort (SWO Below PermIn SortedIn)
theorem ltI_iff {l:List Rl} {L:Nat} {x y:Fin (L+1)}:ltI l L x y=true↔prioAt l y.1<prioAt l x.1\/(prioAt l y.1=prioAt l x.1/\x.1<y.1):=by
  rw [ltI,decide_eq_true_eq,cmpR]
  generalize prioAt l y.1=p
  generalize prioAt l x.1=r
  by_cases h1:p<r
  · have e:cmpI p r = -1:=by rw [cmpI,if_pos h1]
    rw [e]
    exact ⟨fun _=>.inl h1,fun _=>by rw [orI,if_pos (by decide)];decide⟩
  by_cases h2:r<p
  · have e:cmpI p r=1:=by rw [cmpI,if_neg h1,if_pos h2]
    rw [e]
    exact ⟨fun h=>absurd h (by simp [orI]),fun h=>by omega⟩
  have e:cmpI p r=0:=by rw [cmpI,if_neg h1,if_neg h2]
  rw [e]
  have hpr:p=r:=by omega
  by_cases h3:x.1<y.1
  · have e:cmpI ((x.1:Nat):Int) ((y.1:Nat):Int) = -1:=by rw [cmpI,if_pos (by omega)]
    rw [e]
    exact ⟨fun _=>.inr ⟨hpr,h3⟩,fun _=>by decide⟩
  by_cases h4:y.1<x.1
  · have e:cmpI ((x.1:Nat):Int) ((y.1:Nat):Int)=1:=by rw [cmpI,if_neg (by omega),if_pos (by omega)]
    rw [e]
    exact ⟨fun h=>absurd h (by simp [orI]),fun h=>by omega⟩
  have e:cmpI ((x.1:Nat):Int) ((y.1:Nat):Int)=0:=by rw [cmpI,if_neg (by omega),if_neg (by omega)]
  rw [e]
  exact ⟨fun h=>absurd h (by simp [orI]),fun h=>by omega⟩
theorem ltI_no {l:List Rl} {L:Nat} {x y:Fin (L+1)}:ltI l L x y=false↔¬(prioAt l y.1<prioAt l x.1\/(prioAt l y.1=prioAt l x.1/\x.1<y.1)):=by
 rw [<- ltI_iff,Bool.not_eq_true]
theorem swo_ltI (l:List Rl) (L:Nat):SWO (ltI l L) where
 irrefl x:=by rw [ltI_no];omega
 trans x y z h1 h2:=by rw [ltI_iff] at *;omega
 ntrans x y z h1 h2:=by rw [ltI_no] at *;omega
theorem m_sortI (l:List Rl) (L:Nat) (hL:l.length=L+1) (n:Nat) (hl:n<=100000) (h256:n<256) (d:Array (Fin (L+1))) (hn:d.size=n) (q:Nat->Option (Nat × Nat)):MDoes Tryz.prog 299 [.row 201 0 0 n,.fn 300 [.own 210 0 0] []] (gl q [210,201] (ioB l n (d))) (.tup []) (gl q [210,201] (ioB l n (Go.Sort.pdq (ltI l L) d 0 n (Go.Sort.bitsLen n) true true))):=by
 refine MDoes.of_body Tryz.func299 rfl (by kernel_rfl) rfl rfl ?_
 have hr:=d_LenX (ofI64 ((n:Nat):Int)) (by rw [ofI_len h256];exact h256)
 rw [ofI_len h256] at hr
 have h8:=bitsLen_8 h256
 have hp:=m_pdq l L hL n hl h256 (swo_ltI l L) n 0 n (Go.Sort.bitsLen n) d hn (Nat.zero_le _) (Nat.le_refl _) (Nat.sub_le _ _) (by omega) (.inl rfl)
 obtain ⟨l1,_⟩:=Go.Sort.pdq_sorts (ltI l L) (swo_ltI l L) d 0 n (Go.Sort.bitsLen n) true true (Nat.zero_le _) (by omega) (.inl rfl)
 refine jA ?_
 refine RG.callS rfl rfl rfl rfl rfl hr rfl rfl ?_
 refine wH rfl ?_
 refine RG.ownK [(210,210),(201,201)] [(210,210),(201,201)] 201 201 (rowLen (l1.1)) (fun q=>hp q) rfl rfl rfl rfl rfl rfl rfl rfl rfl rfl rfl rfl rfl ?_
 refine wH rfl ?_;refine jA ?_
 exact retM0 rfl (.inl rfl) (io_end rfl rfl rfl rfl rfl (rfl) (rowFit (l1.1.trans hn)))
def idsA (L:Nat):Array (Fin (L+1)):=Array.ofFn id
theorem idsA_sz (L:Nat):(idsA L).size=L+1:=by simp [idsA]
theorem idsA_val (L:Nat):(idsA L).toList.map (fun x=>x.1)=List.range (L+1):=by
 apply List.ext_getElem
 ·simp [idsA]
 ·intro i h1 h2
  rw [List.getElem_map,Array.getElem_toList]
  simp only [idsA,Array.getElem_ofFn,List.getElem_range]
  rfl
theorem idsA_row (L:Nat):(List.range (L+1)).map numN=(idsA L).toList.map numF:=by
 rw [<- idsA_val,List.map_map];rfl
theorem extract_all {α:Type} (d:Array α) {n:Nat} (h:d.size=n):d.extract 0 n=d:=by
 subst h
 simp
theorem rowAllF {L:Nat} {D:Array (Fin (L+1))} (h:D.size=L+1):AV.sl (((D.toList.map numF).drop 0).take (L+1))=AV.sl (D.toList.map numF):=by
 rw [List.drop_zero,List.take_of_length_le (by rw [List.length_map,Array.length_toList,h];exact Nat.le_refl _)]
theorem look_any (l:List Rl) (hl:l.length<256):LookOk l:=by
  cases hlen:l.length with
  | zero =>
    obtain rfl:l=[]:=List.length_eq_zero_iff.1 hlen
    exact look_falls (fun k x y h=>by simp at h) (by decide)
  | succ L =>
  have hS:=swo_ltI l L
  obtain ⟨l1,l2⟩:=Go.Sort.pdq_sorts (ltI l L) hS (idsA L) 0 (L+1) (Go.Sort.bitsLen (L+1)) true true (Nat.zero_le _) (by rw [idsA_sz];exact Nat.le_refl _) (.inl rfl)
  have hm:=m_sortI l L hlen (L+1) (by omega) (by omega) (idsA L) (idsA_sz L)
  generalize Go.Sort.pdq (ltI l L) (idsA L) 0 (L+1) (Go.Sort.bitsLen (L+1)) true true=D at l1 l2 hm
  have hD:D.size=L+1:=l1.1.trans (idsA_sz L)
  refine ⟨D.toList.map (fun x=>x.1),?_,?_,?_⟩
  · have h3:=l1.2.2
    rw [extract_all _ hD,extract_all _ (idsA_sz L)] at h3
    rw [hlen,<- idsA_val]
    exact h3.map _
  · rw [List.pairwise_iff_getElem]
    intro i j hi hj hij
    rw [List.length_map,Array.length_toList] at hi hj
    have h4:=l2 i j (Nat.zero_le _) hij (by omega)
    rw [ltI_no] at h4
    rw [List.getElem_map,List.getElem_map,Array.getElem_toList,Array.getElem_toList,<- getElem!_pos D i hi,<- getElem!_pos D j hj]
    generalize D[i]! = x at h4
    generalize D[j]! = y at h4
    show prioAt l y.1<prioAt l x.1\/(prioAt l y.1=prioAt l x.1/\x.1<=y.1)
    omega
  rw [show (D.toList.map (fun x=>x.1)).map numN=D.toList.map numF by rw [List.map_map];rfl]
  refine PDoes.of_bodyN Tryz.func285 rfl (by kernel_rfl) rfl rfl ?_
  refine jB ?_;refine wF ?_;refine wH rfl ?_;refine jB ?_;refine wF ?_;refine wH rfl ?_;refine jB ?_
  refine AW.nilRow 40 0 3 1 [(0,.sl (l.map cRl)),(3,.own 7 0 0)] [(7,⟨0,some (.box 368 [.sl (l.map cRl),.row 40 0 0 0])⟩),(40,⟨0,some (.row 3 1 [])⟩)] ⟨.rn (Rn.is rfl rfl),.rn (Rn.ownIs rfl rfl rfl),trivial⟩ ⟨.boxL rfl ⟨RnN.is rfl rfl,.nil rfl,trivial⟩ rfl,.old (.row rfl rfl),trivial⟩ ?_
  refine jA ?_
  have hmx:l.length<=9223372036854775807:=by omega
  refine AW.loopL (ι:=Nat × List Nat) (fun i=>[(3,.own 7 0 0),(8,.sl (l.map cRl)),(9,.i .i64 (l.map cRl).length),(10,.i .i64 (i.1:Nat))]) (fun i=>[(7,⟨0,some (.box 368 [.sl (l.map cRl),.row 40 0 0 (i.2.map numN).length])⟩),(40,⟨0,some (.row 3 1 (i.2.map numN))⟩)]) (fun i=>i.1<=l.length/\i.2=List.range i.1) (fun i=>l.length - i.1) (0,[]) ⟨Nat.zero_le _,rfl⟩ jW ⟨.boxL rfl ⟨Rn.is rfl rfl,Rn.rowIs rfl rfl rfl,trivial⟩ rfl,.row rfl rfl,trivial⟩ fun i hi=>?_
  obtain ⟨k,out⟩:=i
  obtain ⟨hk,ho⟩:=hi
  simp only at hk ho
  refine jA ?_
  refine AW.cond rfl (fun h0=>?_) (fun h0=>?_)
  · have h:k<l.length:=by simpa using h0
    have hL:out.length<=100000000:=by rw [ho,List.length_range];omega
    refine jA ?_
    refine RG.opS rfl (op_app1 numN out k hL rfl rfl rfl rfl (tk rfl) rfl (tk rfl) rfl rfl ⟨_,rfl,rfl⟩ rfl rfl) rfl ?_;refine wH rfl ?_;refine jA ?_
    exact ⟨(k+1,out++[k]),⟨⟨h,by show out++[k]=List.range (k+1);rw [ho,List.range_succ]⟩,by show l.length - (k+1)<l.length - k;omega⟩,jV,⟨.boxL rfl ⟨Rn.is rfl rfl,Rn.rowIs rfl rfl rfl,trivial⟩ rfl,.row rfl rfl,trivial⟩⟩
  · have h:¬k<l.length:=by simpa using h0
    obtain rfl:k=l.length:=by omega
    rw [hlen] at ho
    have hrow:out.map numN=(idsA L).toList.map numF:=by rw [ho,idsA_row]
    have hlo:(out.map numN).length=L+1:=by rw [hrow,List.length_map,Array.length_toList,idsA_sz]
    refine AW.only [(3,.own 7 0 0)] [(7,⟨0,some (.box 368 [.sl (l.map cRl),.row 40 0 0 (L+1)])⟩),(40,⟨0,some (.row 3 1 ((idsA L).toList.map numF))⟩)] ⟨Rn.ownIs rfl rfl rfl,trivial⟩ ⟨.boxL rfl ⟨Rn.is rfl rfl,Rn.rowTIs (by rw [<- hlo]) rfl rfl (rowFit (idsA_sz L)),trivial⟩ rfl,.row rfl hrow,trivial⟩ ?_
    refine jA ?_
    refine jE ?_;refine jA ?_
    refine RG.ownK [(7,210),(40,201)] [(210,7),(201,40)] 40 201 (rowLen l1.1) hm rfl rfl rfl rfl rfl rfl rfl rfl rfl rfl rfl rfl rfl ?_
    refine wH rfl ?_;refine jA ?_
    refine AW.ret (retQA ty_ok rfl rfl rfl ?_)
    exact rowAllF hD
end Go.Proofs.YtoaibdbehlcnfaaGreat.Sm
end
section
namespace Go.Proofs.YtoaibdbehlcnfaaGreat.Sm
open Go.RowKit Go.WideShapes Go.ChangeShapes Go.Deep
section
variable {H : Type} {P : Program}
theorem weights_all {e:TypeId}:∀{ds:List (DataW H)} {d:DataW H},d∈ds->∀n∈d.weights P e,n∈DataW.weightsAll P e ds
 | d0::ds,d,hd,n,hn=>by
  simp only [DataW.weightsAll,List.mem_append]
  rcases List.mem_cons.1 hd with rfl | hd
  ·exact .inl hn
  ·exact .inr (weights_all hd n hn)
end
def RdZ {α:Type} (P:Program) (t:TypeId) (R:Rep α) (Q:α->Prop):Prop :=
 ∀(H:Type) (enc:TypeId × Value->H) (w:World) (base:Nat) (spare:Nat->Bool) (held:Bool) (fuel:Nat) (cs:List Value) (x:DataW H × List MemPlace),
  DataW.trod enc P w base spare held fuel t cs=some x->(∀k∈x.1.weights P t,k<=reachBytes)->∃a:α,R.rel w (fun b=>b<w.heap.size) a cs/\Q a
theorem RdZ.of {α:Type} {P:Program} {t:TypeId} {R:Rep α} (h:Readable P t R):RdZ P t R (fun _=>True):=fun H enc w base spare held fuel cs x hx _=>by
 obtain ⟨a,ha⟩:=h H enc w base spare held fuel cs x hx
 exact ⟨a,ha,trivial⟩
theorem all2_and {α:Type} {r:α->List Value->Prop} {Q:α->Prop}:∀{xs:List α} {cs:List Value},All2 (fun a c=>r a c/\Q a) xs cs->All2 r xs cs/\∀a∈xs,Q a
 | [],cs,h=>⟨h,fun a ha=>by cases ha⟩
 | x::xs,cs,⟨c1,c2,h1,h2,h3⟩=>by
  obtain ⟨g1,g2⟩:=all2_and h3
  refine ⟨⟨c1,c2,h1,h2.1,g1⟩,fun a ha=>?_⟩
  rcases List.mem_cons.1 ha with rfl | ha
  ·exact h2.2
  ·exact g2 a ha
theorem RdZ.slice {α:Type} {P:Program} {t e:TypeId} {R:Rep α} {Q:α->Prop} (hR:RdZ P e R Q) (ht:P.underlying t=some (.slice e)) (hn:P.cellsOf e=R.n) (h0:0<R.n) (hb:0<P.bytesOf e):RdZ P t R.slice (fun l=>l.length<=reachBytes/\∀a∈l,Q a):=by
  intro H enc w base spare held fuel cs x hx hz
  rcases open_slice ht hx with ⟨rfl,_⟩ | ⟨a,len,cap,m,n,D,Pl,rfl,_,hlc,hcm,hm,rfl,hel⟩
  · exact ⟨[],⟨_,rfl,SliceAt.nil _ _ _⟩,Nat.zero_le _,fun a ha=>by cases ha⟩
  · have hlm:len<=m:=by rw [hm];split <;> omega
    simp only [DataW.weights,ht] at hz
    have hlen:len<=reachBytes:=by
      have h1:=hz _ List.mem_cons_self
      rw [List.length_map,List.length_range] at h1
      have h2:len*1<=(len+(List.map (fun j=>D (len+j)) (List.range (m - len))).length)*P.bytesOf e:=Nat.mul_le_mul (Nat.le_add_right _ _) hb
      omega
    have hzi:∀i,i<len->∀k∈(D i).weights P e,k<=reachBytes:=fun i hi k hk=>by
      refine hz k (List.mem_cons_of_mem _ (List.mem_append_left _ ?_))
      exact weights_all (List.mem_map_of_mem (List.mem_range.2 hi)) k hk
    by_cases hp:0<len
    · have hspot : a = ⟨a.block, a.off, none⟩ /\ a.block < w.heap.size := by
        obtain ⟨cs',hc,_⟩:=hel 0 (by omega)
        obtain ⟨_,hl,hat⟩:=World.cells?_some hc
        have h1:=hat 0 (by rw [hn];exact h0)
        have e:(a.add (0*P.cellsOf e)).add 0=a:=by simp [Addr.add]
        rw [e,List.getElem?_eq_getElem (by rw [hl,hn];exact h0)] at h1
        refine ⟨?_,World.block_lt_of_cell? w a h1⟩
        unfold World.cell? at h1
        split at h1
        · split at h1
          · cases h1
          · rename_i hs
            obtain ⟨ab,ao,asp⟩:=a
            cases asp with
            | none=>rfl
            | some k=>simp at hs
        · cases h1
      obtain ⟨xs,cells,h1,h2,h3⟩:=all2_collect (r:=fun a c=>R.rel w (fun b=>b<w.heap.size) a c/\Q a) (n:=R.n) (fun _ _ h=>R.len h.1) w a.block a.off len fun i hi=>by
        obtain ⟨cs',hc,ht'⟩:=hel i (by omega)
        obtain ⟨y,hy,hq⟩:=hR H enc w base spare held n cs' _ ht' (hzi i hi)
        obtain ⟨_,hl,hat⟩:=World.cells?_some hc
        refine ⟨y,cs',⟨hy,hq⟩,fun j u hu=>?_⟩
        have hj:j<P.cellsOf e:=by have:=(List.getElem?_eq_some_iff.1 hu).1;omega
        have:=hat j hj
        rw [hu,hn,hspot.1] at this
        rw [show ((⟨a.block,a.off,none⟩:Addr).add (i*R.n)).add j=⟨a.block,a.off+(i*R.n+j),none⟩ by
          unfold Addr.add
          by_cases h1:i*R.n=0 <;> by_cases h2:j=0 <;> simp [h1,h2,Nat.add_assoc]] at this
        exact this
      obtain ⟨g1,g2⟩:=all2_and h2
      exact ⟨xs,⟨_,rfl,some a,cap,by rw [h1],by omega,hcm,fun _=>⟨a.block,a.off,by rw [<- hspot.1],hspot.2,hspot.2,cells,g1,h3⟩⟩,by rw [h1];exact hlen,g2⟩
    · obtain rfl:len=0:=by omega
      exact ⟨[],⟨_,rfl,some a,cap,rfl,Nat.zero_le _,hcm,fun h=>absurd h (Nat.lt_irrefl _)⟩,Nat.zero_le _,fun a ha=>by cases ha⟩
structure RdA {α:Type} (P:Program) (t:TypeId) (n:Nat) (enc:α->List AV) (Q:α->Prop):Prop where
 len:∀a,(enc a).length=n
 one:∀a,∀y∈enc a,y.one=true
 read:∀(H:Type) (e:TypeId × Value->H) (w:World) (base:Nat) (spare:Nat->Bool) (held:Bool) (fuel:Nat) (cs:List Value) (x:DataW H × List MemPlace),
  DataW.trod e P w base spare held fuel t cs=some x->(∀k∈x.1.weights P t,k<=reachBytes)->∃a:α,PWs w (fun b=>b<w.heap.size) (enc a) cs/\Q a
section
variable {P : Program} {t : TypeId}
theorem RdA.of {α:Type} {n:Nat} {enc:α->List AV} (h:ReadA P t n enc):RdA P t n enc (fun _=>True):=⟨h.len,h.one,fun H e w base spare held fuel cs x hx _=>by
 obtain ⟨a,ha⟩:=h.read H e w base spare held fuel cs x hx
 exact ⟨a,ha,trivial⟩⟩
theorem RdA.slice {α:Type} {e:TypeId} {n:Nat} {enc:α->List AV} {Q:α->Prop} (h:RdA P e n enc Q) (ht:P.underlying t=some (.slice e)) (hn:P.cellsOf e=n) (h0:0<n) (hb:0<P.bytesOf e):RdA P t 1 (fun l:List α=>[.sl (l.map enc)]) (fun l=>l.length<=reachBytes/\∀a∈l,Q a):=by
 have E:=(avR_enc h.len h.one).slice h0
 refine ⟨E.len,E.one,fun H e w base spare held fuel cs x hx hz=>?_⟩
 have hR:RdZ P _ (avR n enc h.len h.one) Q:=fun H e w base spare held fuel cs x hx hz=>h.read H e w base spare held fuel cs x hx hz
 obtain ⟨a,ha,hq⟩:=hR.slice ht hn h0 hb H e w base spare held fuel cs x hx hz
 exact ⟨a,⟨by rw [(avR n enc h.len h.one).slice.len ha,E.len],fun j y hj=>E.one a y (List.mem_of_getElem? hj),fun j y v hj hv=>E.to ha j y v hj hv⟩,hq⟩
theorem RdA.part {α:Type} {ty n off:Nat} {enc:α->List AV} {Q:α->Prop} (h:RdA P ty n enc Q) {H:Type} {e:TypeId × Value->H} {w:World} {base:Nat} {spare:Nat->Bool} {held:Bool} {cs:List Value} {m:Nat}
  (hp:∃y,DataW.trod e P w base spare held m ty ((cs.drop off).take n)=some y/\∀k∈y.1.weights P ty,k<=reachBytes):∃a:α,PWs w (fun b=>b<w.heap.size) (enc a) ((cs.drop off).take n)/\Q a:=by
 obtain ⟨y,hy,hz⟩:=hp
 exact h.read H e w base spare held m _ y hy hz
theorem struct_partZ {fs:Array Field} (ht:P.underlying t=some (.struct fs)) {H:Type} {enc:TypeId × Value->H} {w:World} {base:Nat} {spare:Nat->Bool} {held:Bool} {fuel:Nat} {cs:List Value} {x:DataW H × List MemPlace}
  (hx:DataW.trod enc P w base spare held fuel t cs=some x) (hz:∀k∈x.1.weights P t,k<=reachBytes):∃m,cs.length=P.cellsOf t/\∀(j ty off n:Nat),(fs[j]?).map (fun f=>(f.type,f.offset))=some (ty,off)->P.cellsOf ty=n ->
   ∃y,DataW.trod enc P w base spare held m ty ((cs.drop off).take n)=some y/\∀k∈y.1.weights P ty,k<=reachBytes:=by
 obtain ⟨xs,n,_,rfl,hl,hxs,hf⟩:=DataW.trod_struct ht hx
 simp only [DataW.weights,ht] at hz
 refine ⟨n,hl,fun j ty off k hj hk=>?_⟩
 cases hfj:fs[j]? with
 | none=>rw [hfj] at hj;cases hj
 | some f =>
  rw [hfj] at hj
  simp only [Option.map_some,Option.some.injEq,Prod.mk.injEq] at hj
  have h:=hf j f hfj
  rw [hj.1,hj.2,hk] at h
  have hlt:j<xs.length:=by rw [hxs];exact (Array.getElem?_eq_some_iff.1 hfj).1
  refine ⟨xs[j],by rw [h,List.getElem?_eq_getElem hlt],fun n' hn'=>hz n' ?_⟩
  refine DataW.weights_mem_each (j:=j) (t:=ty) (d:=xs[j].1) ?_ ?_ n' hn'
  ·rw [List.getElem?_map,Array.getElem?_toList,hfj,Option.map_some,hj.1]
  ·rw [List.getElem?_map,List.getElem?_eq_getElem hlt];rfl
variable {H : Type} {e : TypeId × Value -> H} {W : World} {base b0 : Nat} {spare : Nat -> Bool} {held : Bool} {v : Value} {d : DataW H} {p : List MemPlace}
theorem RdA.arg_struct {α:Type} {n:Nat} {enc:α->List AV} {Q:α->Prop} (h:RdA P t n enc Q) {fs:Array Field} (ht:P.underlying t=some (.struct fs)) {ts:List TypeId} {ds:List (DataW H)} (hsz:(DataW.weightsEach P ts ds).all (·<=reachBytes)=true) (j:Nat) (hj:ts[j]?=some t) (hdj:ds[j]?=some d) (ho:Value.okWide P W .any b0 t v) (hd:DataW.Trod e P W base spare held t v d p) :
  ∃a:α,PRel W (fun b=>b<W.heap.size) (.agg (enc a)) v/\Q a:=by
 obtain ⟨cs,rfl,hs⟩:=okWide_struct ht ho
 obtain ⟨fuel,hf⟩:=hd
 obtain ⟨a,ha,hq⟩:=h.read H e W base spare held fuel _ _ hf fun k hk=>by
  have:=List.all_eq_true.1 hsz _ (DataW.weights_mem_each hj hdj k hk)
  simpa using this
 have hc:(Value.cells (.agg cs)).toList=cs.toList:=by simp [Value.cells]
 rw [hc] at ha
 refine ⟨a,?_,hq⟩
 have:=PRel.agg (W:=W) (F:=fun b=>b<W.heap.size) (enc a) cs.toList ha.len ha.one ha.rel
 simpa using this
end
def Cf.Lens (c:Cf):Prop:=∀t∈c.tables,∀l∈t,l.length<=reachBytes
end Go.Proofs.YtoaibdbehlcnfaaGreat.Sm
end
section
namespace Go.Proofs.YtoaibdbehlcnfaaGreat.Sm
open Go.RowKit
def lnCube:Cb:=⟨⟨0,1⟩,⟨0,1⟩⟩
def lnDrop:Rl:=⟨0,Cb.zero,⟨1,0,0,Cb.zero⟩⟩
def lnR0:List Rl:=[⟨1,lnCube,⟨3,1,0,Cb.zero⟩⟩,lnDrop]
def lnR1:List Rl:=[⟨1,lnCube,⟨2,1,0,Cb.zero⟩⟩,lnDrop]
def lnPorts:List (List Pt):=[[⟨1,0,0,0,0⟩,⟨2,0,1,0,1⟩],[⟨2,0,0,1,1⟩,⟨1,0,0,0,0⟩]]
def lineC:Cf:=⟨⟨lnPorts⟩,⟨1,[],[]⟩,[[lnR0],[lnR1]]⟩
def lnB:List (Nat × SB):=[(300,⟨0,some (.box 47 [.ref 301 0 (.sl 0 1 1),.ref 302 0 (.sl 0 1 1)])⟩),(301,⟨0,some (.box 48 [.row 24 0 0 2])⟩),(302,⟨0,some (.box 48 [.row 30 0 0 2])⟩),(24,⟨0,some (.row 40 12 (lnR0.map cRl))⟩),(30,⟨0,some (.row 40 12 (lnR1.map cRl))⟩),(12,⟨0,some (.row 115 1 (lnPorts.map cPts))⟩)]
def lnV:AV:=.agg [.row 12 0 0 2,.i .i64 1,.sl [],.sl [],.ref 300 0 (.sl 0 2 2)]
def RmL (π:List (Nat × Nat)) (σ σ':Sto):List AV->List AV->Prop
 | [],[]=>True
 | x::xs,y::ys=>(Rm π σ σ' x y/\y.one=true)/\RmL π σ σ' xs ys
 | _,_=>False
theorem RmL.ok {π:List (Nat × Nat)} {σ σ':Sto}:∀{xs ys:List AV},RmL π σ σ' xs ys->ys.length=xs.length/\∀(j:Nat) (x y:AV),xs[j]?=some x->ys[j]?=some y->Rm π σ σ' x y/\y.one=true
 | [],[],_=>⟨rfl,fun j x y h=>by simp at h⟩
 | x::xs,y::ys,h=>by
  obtain ⟨h1,h2⟩:=h
  obtain ⟨g1,g2⟩:=RmL.ok h2
  refine ⟨by rw [List.length_cons,List.length_cons,g1],fun j a b ha hb=>?_⟩
  cases j with
  | zero =>
   obtain rfl:x=a:=by simpa using ha
   obtain rfl:y=b:=by simpa using hb
   exact h1
  | succ j=>exact g2 j a b (by simpa using ha) (by simpa using hb)
 | [],y::ys,h=>h.elim
 | x::xs,[],h=>h.elim
theorem Rm.aggL {π:List (Nat × Nat)} {σ σ':Sto} {z:AV} {xs ys:List AV} (e:z = .agg xs) (h:RmL π σ σ' xs ys):Rm π σ σ' z (.agg ys):=by
 subst e
 obtain ⟨g1,g2⟩:=h.ok
 refine .agg g1 (fun j y hy=>?_) fun j x y hx hy=>(g2 j x y hx hy).1
 obtain ⟨x,hx⟩:∃x,xs[j]?=some x:=⟨_,List.getElem?_eq_getElem (by rw [<- g1];exact (List.getElem?_eq_some_iff.1 hy).1)⟩
 exact (g2 j x y hx hy).2
theorem Rm.refIs {π:List (Nat × Nat)} {σ σ':Sto} {x:AV} {id id' ep ep':Nat} {k:RK} {bd bd':Body} (e:x = .ref id ep k) (hm:lkP π id=some id') (h:σ id=⟨ep,some bd⟩) (h':σ' id'=⟨ep',some bd'⟩):Rm π σ σ' x (.ref id' ep' k):=e ▸ .ref (lkP_ok hm) h h'
end Go.Proofs.YtoaibdbehlcnfaaGreat.Sm
end
section
namespace Go.Proofs.YtoaibdbehlcnfaaGreat.Sm
open Go.RowKit
end Go.Proofs.YtoaibdbehlcnfaaGreat.Sm
end
section
namespace Go.Proofs.YtoaibdbehlcnfaaGreat.Sm
open Go.RowKit
end Go.Proofs.YtoaibdbehlcnfaaGreat.Sm
end
section
namespace Go.Proofs.YtoaibdbehlcnfaaGreat.Sm
open Go.RowKit
theorem flat_mem {α:Type} {l:List α}:∀{ls:List (List α)},l∈ls->l.length<=ls.flatten.length
 | x::ls,h=>by
  rw [List.flatten_cons,List.length_append]
  rcases List.mem_cons.1 h with rfl | h
  ·omega
  ·have:=flat_mem h
   omega
theorem Cf.small {c:Cf} (h0:c.sound=0) (hL:c.Lens):c.Small:=by
 have hc:=Cf.ok h0
 intro t ht
 obtain ⟨n,hn⟩:=List.mem_iff_getElem?.1 ht
 have h3:=(tabSound_ok (hc.tabs n t hn)).2.1
 have h4:=flat_bound t (hL t ht)
 have h5:reachBytes*t.length<=reachBytes*3:=Nat.mul_le_mul_left _ h3
 have h6:reachBytes*3<=1000000000000000:=by decide
 omega
theorem looks_any {c:Cf} (h0:c.sound=0) (hL:c.Lens):LooksOk c:=by
 have hc:=Cf.ok h0
 have hs:=Cf.small h0 hL
 intro n t
 have hnil:LookOk []:=look_any [] (by decide)
 rw [tabOf,List.getD_eq_getElem?_getD,List.getD_eq_getElem?_getD]
 cases h1:c.tables[n]? with
 | none=>exact hnil
 | some tb =>
  show LookOk (tb[t]?.getD [])
  cases h2:tb[t]? with
  | none=>exact hnil
  | some l =>
   have h3:=tabSound_ok (hc.tabs n tb h1)
   have h4:=hs tb (List.mem_of_getElem? h1)
   have h5:=countT_len tb 0 (by omega)
   have h6:=flat_mem (List.mem_of_getElem? h2)
   have h7:((0:Nat):Int)=0:=rfl
   rw [h7] at h5
   exact look_any l (by omega)
def sortG (l:List Cb):List Cb:=(stable ltC l.toArray).toList
theorem sortG_perm (l:List Cb):(sortG l).Perm l:=stable_perm l
theorem malE_sound {c:Cf} {V:Int} (h:malE c V=0):c.sound=0:=by
 rw [malE] at h
 split at h
 ·assumption
 ·exact h
theorem malE_zero {c:Cf} (h0:c.sound=0) {v:Nat} (hv:v<=255):malE c (v:Int)=0:=by
 rw [malE,if_pos h0,if_neg (by omega)]
end Go.Proofs.YtoaibdbehlcnfaaGreat.Sm
end
section
namespace Go.Proofs.YtoaibdbehlcnfaaGreat.Sm
open Go.RowKit
def Hop.zero:Hop:=⟨0,0,0,Hd.zero⟩
def ruleOf (c:Cf) (n t:Nat) (h:Hd):Int:=match fnd (tabOf c n t) h with | none=>-1 | some r=>(r:Nat)
theorem goF_pre {c:Cf}:∀(f n t:Nat) (h:Hd) (pre:List Hop),∃m,(goF c f n t h pre).hops=pre++m
 | 0,n,t,h,pre=>⟨[],by rw [goF,List.append_nil]⟩
 | f+1,n,t,h,pre=>by
  rw [goF]
  split
  ·exact ⟨_,rfl⟩
  ·rename_i r _
   split
   ·obtain ⟨m,hm⟩:=goF_pre f n ((tabOf c n t).getD r Rl.zero).act.table.toNat (h.set ((tabOf c n t).getD r Rl.zero).act.set) (pre++[⟨n,t,r,h⟩])
    exact ⟨_,by rw [hm,List.append_assoc]⟩
   split
   ·obtain ⟨m,hm⟩:=goF_pre f (portAt c.topo.ports ⟨n,((tabOf c n t).getD r Rl.zero).act.port⟩).peer.toNat 0 (h.set ((tabOf c n t).getD r Rl.zero).act.set) (pre++[⟨n,t,r,h⟩])
    exact ⟨_,by rw [hm,List.append_assoc]⟩
   split
   ·exact ⟨_,rfl⟩
   ·exact ⟨_,rfl⟩
theorem goF_one {c:Cf} {f n t:Nat} {h:Hd} {pre:List Hop}:∃m,(goF c (f+1) n t h pre).hops=pre++(⟨n,t,ruleOf c n t h,h⟩::m):=by
 rw [goF,ruleOf]
 split
 ·rename_i h0;exact ⟨[],by simp [h0]⟩
 ·rename_i r h0
  rw [h0]
  split
  ·obtain ⟨m,hm⟩:=goF_pre (c:=c) f n ((tabOf c n t).getD r Rl.zero).act.table.toNat (h.set ((tabOf c n t).getD r Rl.zero).act.set) (pre++[⟨n,t,r,h⟩])
   exact ⟨m,by rw [hm,List.append_assoc];rfl⟩
  split
  ·obtain ⟨m,hm⟩:=goF_pre (c:=c) f (portAt c.topo.ports ⟨n,((tabOf c n t).getD r Rl.zero).act.port⟩).peer.toNat 0 (h.set ((tabOf c n t).getD r Rl.zero).act.set) (pre++[⟨n,t,r,h⟩])
   exact ⟨m,by rw [hm,List.append_assoc];rfl⟩
  split
  ·exact ⟨[],rfl⟩
  ·exact ⟨[],rfl⟩
end Go.Proofs.YtoaibdbehlcnfaaGreat.Sm
end
section
namespace Go.Proofs.YtoaibdbehlcnfaaGreat.Sm
open Go.RowKit
end Go.Proofs.YtoaibdbehlcnfaaGreat.Sm
end
section
namespace Go.Proofs.YtoaibdbehlcnfaaGreat.Sm
open Go.RowKit
end Go.Proofs.YtoaibdbehlcnfaaGreat.Sm
end
section
namespace Go.Proofs.YtoaibdbehlcnfaaGreat.Sm
open Go.RowKit
end Go.Proofs.YtoaibdbehlcnfaaGreat.Sm
end
section
namespace Go.Proofs.YtoaibdbehlcnfaaGreat.Sm
open Go.RowKit
end Go.Proofs.YtoaibdbehlcnfaaGreat.Sm
end
section
namespace Go.Proofs.YtoaibdbehlcnfaaGreat.Sm
open Go.RowKit
theorem goF_fin {c:Cf}:∀(f n t:Nat) (h:Hd) (pre:List Hop),1<=(goF c f n t h pre).fin/\(goF c f n t h pre).fin<=4
 | 0,n,t,h,pre=>by rw [goF];exact ⟨by dsimp only;decide,by dsimp only;decide⟩
 | f+1,n,t,h,pre=>by
  rw [goF]
  split
  ·exact ⟨by dsimp only;decide,by dsimp only;decide⟩
  split
  ·exact goF_fin f _ _ _ _
  split
  ·exact goF_fin f _ _ _ _
  split
  ·exact ⟨by dsimp only;decide,by dsimp only;decide⟩
  ·exact ⟨by dsimp only;decide,by dsimp only;decide⟩
theorem goF_most {c:Cf}:∀(f n t:Nat) (h:Hd) (pre:List Hop),(goF c f n t h pre).hops.length<=pre.length+f
 | 0,n,t,h,pre=>by rw [goF];exact Nat.le_refl _
 | f+1,n,t,h,pre=>by
  rw [goF]
  split
  ·simp only [List.length_append,List.length_singleton];omega
  split
  ·refine Nat.le_trans (goF_most f _ _ _ _) ?_
   simp only [List.length_append,List.length_singleton];omega
  split
  ·refine Nat.le_trans (goF_most f _ _ _ _) ?_
   simp only [List.length_append,List.length_singleton];omega
  split
  ·simp only [List.length_append,List.length_singleton];omega
  ·simp only [List.length_append,List.length_singleton];omega
theorem rowAllN {X:List (List AV)} {n:Nat} (h:n=X.length):AV.sl (List.take n (List.drop 0 X)) = .sl X:=by
 rw [List.drop_zero,h,List.take_length]
end Go.Proofs.YtoaibdbehlcnfaaGreat.Sm
end
section
namespace Go.Proofs.YtoaibdbehlcnfaaGreat.Sm
open Go.RowKit
end Go.Proofs.YtoaibdbehlcnfaaGreat.Sm
end
section
namespace Go.Proofs.YtoaibdbehlcnfaaGreat.Sm
open Go.RowKit
end Go.Proofs.YtoaibdbehlcnfaaGreat.Sm
end
section
namespace Go.Proofs.YtoaibdbehlcnfaaGreat.Sm
open Go.RowKit
end Go.Proofs.YtoaibdbehlcnfaaGreat.Sm
end
section
namespace Go.Proofs.YtoaibdbehlcnfaaGreat.Sm
open Go.RowKit
theorem d_OfG (c:Cf) (V:Nat) (hV:V<=255) (h0:c.sound=0) (hL:c.Lens):PDoes Tryz.prog 52 [.agg (cCf c),.i .i64 (V:Nat)] (ofR (askedOf c (V:Nat)) (sortG (askedOf c (V:Nat)))) :=
 d_Of c h0 (Cf.small h0 hL) V hV _ (sortG_perm _) fun h=>sort_any _ (by omega)
end Go.Proofs.YtoaibdbehlcnfaaGreat.Sm
end
section
namespace Go.Proofs.YtoaibdbehlcnfaaGreat.Sm
open Go.RowKit
theorem nest_form {W:World} {F:Nat->Prop} {μ:Mu} {σ:Sto} (hi:Inv W F μ σ) {id ep off n t:Nat} {els:List AV} {v:Value} (h:Rel W F μ σ (.row id ep off n) v) (hid:σ id=⟨ep,some (.nest t els)⟩) :
  off+n<=els.length/\((v = .slice none 0 0/\els=[]/\μ id=none)\/∃b cap,μ id=some (b,cap)/\v = .slice (some ⟨b,off*1,none⟩) n (cap - off)/\els.length<=cap/\cap<=maxLen):=by
 obtain ⟨_,_,hv⟩:=Rel.rowN h
 obtain ⟨h1,h2⟩:=hv _ _ hid
 refine ⟨h1,?_⟩
 rcases hi.body _ _ _ hid with ⟨hn,rfl⟩ | ⟨b,cap,cur,hp,hh,q1,q2,_⟩
 ·rw [hn] at h2
  exact .inl ⟨h2,rfl,hn⟩
 ·rw [hp] at h2
  exact .inr ⟨b,cap,hp,h2,q1,q2⟩
structure NestC (W:World) (F:Nat->Prop) (μ:Mu) (σ:Sto) (els:List AV) (cells:List Value):Prop where
 n:cells.length=els.length
 r:∀(k:Nat) (x:AV),els[k]?=some x->x.one=true/\∃u,cells[k]?=some u/\Rel W F μ σ x u
theorem NestC.stp {W W':World} {F F':Nat->Prop} {μ μ':Mu} {σ σ':Sto} (hi:Inv W F μ σ) (hs:Stp W F μ σ W' F' μ' σ') {els:List AV} {cells:List Value} (h:NestC W F μ σ els cells):NestC W' F' μ' σ' els cells :=
 ⟨h.n,fun k x hx=>by obtain ⟨r1,u,r2,r3⟩:=h.r k x hx;exact ⟨r1,u,r2,r3.stp hi hs⟩⟩
theorem NestC.one {W:World} {F:Nat->Prop} {μ:Mu} {σ:Sto} {els:List AV} {cells:List Value} (h:NestC W F μ σ els cells) {k:Nat} {u:Value} (hu:cells[k]?=some u):u.oneCell'=true:=by
 have hk:k<els.length:=by rw [<- h.n];exact (List.getElem?_eq_some_iff.1 hu).1
 obtain ⟨r1,u',r2,r3⟩:=h.r k _ (List.getElem?_eq_getElem hk)
 obtain rfl:=Option.some.inj (hu.symm.trans r2)
 exact r3.one r1
theorem NestC.raw {W:World} {F:Nat->Prop} {μ:Mu} {σ:Sto} {els:List AV} {cells:List Value} (h:NestC W F μ σ els cells):RowC W F 1 (cells.map fun u=>[AV.raw u]) cells:=by
 refine ⟨fun k cs hk=>?_,by simp,fun k cs j x hk hj=>?_⟩
 ·rw [List.getElem?_map] at hk
  obtain ⟨u,_,rfl⟩:=Option.map_eq_some_iff.1 hk
  rfl
 ·rw [List.getElem?_map] at hk
  obtain ⟨u,hu,rfl⟩:=Option.map_eq_some_iff.1 hk
  have hj0:j=0:=by have:=(List.getElem?_eq_some_iff.1 hj).1;simp at this;omega
  subst hj0
  obtain rfl:AV.raw u=x:=by simpa using hj
  exact ⟨h.one hu,u,by rw [Nat.mul_one,Nat.add_zero];exact hu,.raw u⟩
theorem nest_owns {W : World} {F : Nat -> Prop} {μ : Mu} {σ : Sto} (hi : Inv W F μ σ) {id ep t : Nat} {els : List AV} (hid : σ id = ⟨ep, some (.nest t els)⟩) {v : Value} (hv : Rel W F μ σ (.row id ep 0 els.length) v) :
    ∃cells,W.ownsRow 0 t 1 v els.length cells/\NestC W F μ σ els cells/\∀g,v.ownBlock=some g->∃c,μ id=some (g,c):=by
  obtain ⟨_,⟨rfl,rfl,_⟩ | ⟨b,cap,hm,rfl,q1,q2⟩⟩:=nest_form hi hv hid
  · exact ⟨[],World.ownsRow_nil W 0 t 1,⟨rfl,fun k x h=>by simp at h⟩,fun g h=>by simp [Value.ownBlock] at h⟩
  · rcases hi.body _ _ _ hid with ⟨hn,_⟩ | ⟨b',cap',cur,hp,hh,r1,r2,r3,r5⟩
    · rw [hn] at hm;cases hm
    · obtain ⟨rfl,rfl⟩:b=b'/\cap=cap':=by rw [hm] at hp;simpa using hp
      refine ⟨cur.toList.take (els.length*1),⟨by simp;omega,.inr ⟨b,cap,cur,by simp,Nat.zero_le _,hh,r1,r2,by omega,rfl⟩⟩,⟨by simp;omega,fun k x hk=>?_⟩,fun g h=>⟨cap,by rw [hm];simp [Value.ownBlock] at h;rw [h]⟩⟩
      obtain ⟨s1,u,s2,s3⟩:=r5 k x hk
      refine ⟨s1,u,?_,s3⟩
      have hlt:k<els.length:=(List.getElem?_eq_some_iff.1 hk).1
      rw [List.getElem?_take,if_pos (by omega)]
      simpa using s2
theorem NestC.body {W:World} {F:Nat->Prop} {μ:Mu} {σ:Sto} {t b cap:Nat} {els:List AV} {cells:List Value} {cur:Array Value} (h:NestC W F μ σ els cells) (hh:W.heap[b]?=some (.cells cur t (0,0))) (h1:els.length<=cap) (h2:cap<=maxLen) (h3:cur.size=cap)
  (h4:cur.toList.take els.length=cells):BodyRel W F μ σ (some (b,cap)) (.nest t els):=by
 refine .inr ⟨b,cap,cur,rfl,hh,h1,h2,h3,fun k x hk=>?_⟩
 obtain ⟨r1,u,r2,r3⟩:=h.r k x hk
 refine ⟨r1,u,?_,r3⟩
 rw [<- h4,List.getElem?_take] at r2
 split at r2
 ·simpa using r2
 ·cases r2
section
variable {P : Program} {N : Nat} {o : Oper} {s : St}
theorem op_appN {c : Call} {x y : Operand} {t e ty id idy epy : Nat} {ti ei : TI} {els : List AV} {z : AV} (ho : o.op = .call c) (hc : c.callee = .builtin .append) (ha : c.args = #[x, y]) (hat : c.argTypes = #[t, t]) (ht : TiOk P t ti) (hk : ti.k = .slice e) (he : TiOk P e ei) (h1n : ei.n = 1)
    (hx:∃ep,s.ev x = .row id ep 0 els.length/\s.σ id=⟨ep,some (.nest e els)⟩) (hy:s.ev y = .ref idy epy (.sl 0 1 1)) (hidy:s.σ idy=⟨epy,some (.box ty [z])⟩)
    (hb:(els.length+1)*ei.sz<=140737488355328) (h63:els.length+1<=9223372036854775807) :
    OpLoc P N o s ⟨.row id ((s.σ id).ep+1) 0 (els.length+1),[(id,⟨(s.σ id).ep+1,some (.nest e (els++[z]))⟩)],[idy]⟩:=by
  intro s' g1 g2 g3 W F μ a hr K Q hK
  have hid:s'.σ id=s.σ id:=g3 (id,⟨(s.σ id).ep+1,some (.nest e (els++[z]))⟩) (by simp)
  have hdy:s'.σ idy=s.σ idy:=g2 idy (by simp)
  have opers:o.op.operands.toList=[x,y]:=by rw [ho];simp [Op.operands,Call.operands,hc,ha]
  have ex:=hr.ev x
  rw [g1 x (by rw [opers];simp)] at ex
  have ey:=hr.ev y
  rw [g1 y (by rw [opers];simp),hy] at ey
  have hz:∃by' u,a.eval y = .slice (some ⟨by',0,none⟩) 1 1/\W.cell? ⟨by',0,none⟩=some u/\z.one=true/\Rel W F μ s'.σ z u:=by
    cases ey with
    | pure h=>cases h
    | ref _ _ _ _ _ _ hv =>
      obtain ⟨b,cc,hm,e1⟩:=hv _ (hdy.trans hidy)
      obtain ⟨b',c',vs,hp,hh,hl,hvs⟩:=hr.inv.body _ _ _ (hdy.trans hidy)
      obtain ⟨rfl,_⟩:b=b'/\cc=c':=by rw [hm] at hp;simpa using hp
      match vs,hl with
      | [u],_ =>
        obtain ⟨k1,k2⟩:=hvs 0 z u rfl rfl
        exact ⟨b,u,e1,by simp [World.cell?,hh],k1,k2⟩
  obtain ⟨by',u,ey',hcu,hz1,hzu⟩:=hz
  obtain ⟨ep,hx1,hx2⟩:=hx
  rw [hx1] at ex
  obtain ⟨cells,h1,h2,h3⟩:=nest_owns hr.inv (hid.trans hx2) ex
  have hsrc:Src W F ei.n [[AV.raw u]] (a.eval y):=by
    refine ⟨some ⟨by',0,none⟩,1,[u],ey',?_,.inl ⟨_,rfl,fun j w hj=>?_⟩⟩
    · rw [h1n]
      exact ⟨fun k cs hk => by
          have hk0:k=0:=by have:=(List.getElem?_eq_some_iff.1 hk).1;simp at this;omega
          subst hk0
          obtain rfl:[AV.raw u]=cs:=by simpa using hk
          rfl,rfl,fun k cs j w hk hj=>by
          have hk0:k=0:=by have:=(List.getElem?_eq_some_iff.1 hk).1;simp at this;omega
          subst hk0
          obtain rfl:[AV.raw u]=cs:=by simpa using hk
          have hj0:j=0:=by have:=(List.getElem?_eq_some_iff.1 hj).1;simp at this;omega
          subst hj0
          obtain rfl:AV.raw u=w:=by simpa using hj
          exact ⟨hzu.one hz1,u,rfl,.raw u⟩⟩
    · have hj0:j=0:=by have:=(List.getElem?_eq_some_iff.1 hj).1;simp at this;omega
      subst hj0
      obtain rfl:u=w:=by simpa using hj
      exact hcu
  have hraw:=h2.raw
  rw [<- h1n] at hraw
  have h1':W.ownsRow 0 e ei.n (a.eval x) (cells.map fun u=>[AV.raw u]).length cells:=by rw [h1n,List.length_map,h2.n];exact h1
  obtain ⟨v',W',cells',hrun,ho',⟨news,rfl,hnews⟩,hg,hatb⟩:=append_run (P:=P) (ty:=o.type) (n:=0) ht hk he (by omega) h1' hraw hsrc (by rw [List.length_map,h2.n];exact hb) (by rw [List.length_map,h2.n];exact h63)
  have hlen:(cells.map fun u=>[AV.raw u]).length=els.length:=by rw [List.length_map,h2.n]
  have hnu:news=[u]:=by
    have hn:=hnews.n
    rw [h1n] at hn
    match news,hn with
    | [w],_ =>
      obtain ⟨_,w',e1,e2⟩:=hnews.r 0 [.raw u] 0 (.raw u) rfl rfl
      have e3:w=w':=by simpa using e1
      cases e2
      rw [e3]
  subst hnu
  have hk':Kp (fun b=>(s'.σ id).body.isSome=true/\∃c,μ id=some (b,c)) W W':=(Kp.refl _ W).grown hg fun k hk=>.inl ⟨by rw [hid,hx2];rfl,h3 k hk⟩
  have hsnoc:∀{W F μ σ},NestC W F μ σ els cells->Rel W F μ σ z u->NestC W F μ σ (els++[z]) (cells++[u]):=fun q1 q2=>by
    refine ⟨by simp [q1.n],fun k w hk=>?_⟩
    rw [List.getElem?_append] at hk
    split at hk
    · rename_i hlt
      obtain ⟨r1,u',r2,r3⟩:=q1.r k w hk
      exact ⟨r1,u',by rw [List.getElem?_append_left (List.getElem?_eq_some_iff.1 r2).1];exact r2,r3⟩
    · rename_i hge
      have hk0:k - els.length=0:=by have:=(List.getElem?_eq_some_iff.1 hk).1;simp at this;omega
      rw [hk0] at hk
      obtain rfl:z=w:=by simpa using hk
      have hkl:k=cells.length:=by rw [q1.n];omega
      exact ⟨hz1,u,by rw [hkl];simp,q2⟩
  have hp : ∃ p' : Option (Nat × Nat), (∀ b c, p' = some (b, c) -> b < W'.heap.size /\ (W.heap.size <= b \/ ((s'.σ id).body.isSome = true /\ ∃ c', μ id = some (b, c')))) /\
      (∀F μ' σ',NestC W' F μ' σ' (els++[z]) (cells++[u])->BodyRel W' F μ' σ' p' (.nest e (els++[z])))/\RowV p' 1 0 (els.length+1) (els.length+1) v'/\v'.oneCell'=true:=by
    rcases ho'.2 with ⟨rfl,hz0⟩ | ⟨g,cap,cur,rfl,_,hh,r1,r2,r3,r4⟩
    · simp at hz0
    · rw [List.length_append,hlen] at r1 r4
      refine ⟨some (g,cap),fun b c h=>?_,fun F μ' σ' hc=>hc.body hh (by simpa using r1) r2 (by rw [r3,h1n,Nat.mul_one]) (by rw [<- r4,h1n];simp),⟨by omega,by simp [hlen]⟩,rfl⟩
      obtain ⟨rfl,rfl⟩:g=b/\cap=c:=by simpa using h
      refine ⟨(Array.getElem?_eq_some_iff.1 hh).1,?_⟩
      rcases hatb with h | h
      · exact .inr ⟨by rw [hid,hx2];rfl,h3 g (by rw [<- h];rfl)⟩
      · have:W.heap.size=g:=by simp [Value.ownBlock] at h;exact h.symm
        exact .inl (by omega)
  obtain ⟨p',p1,p2,p3,p4⟩:=hp
  obtain ⟨hs,hi⟩:=inv_turn hr.inv id p' ((s.σ id).ep+1) (.nest e (els++[z])) hk' p1 (.inl (by rw [hid];omega)) (fun hs=>p2 _ _ _ (hsnoc (h2.stp hr.inv hs) (hzu.stp hr.inv hs)))
  unfold Oper.wp
  have hrun':(execOp a.eval o).run P W = .ok (.value v') W':=by
    simp only [execOp,ho,resolve,hc,ha,hat,List.map_toArray,List.map_cons,List.map_nil,Sem.run_bind,Sem.run_pure,Result.andThen_ok,invoke,builtin,hrun]
  rw [hrun']
  refine hK W' F (upm μ id p') _ (hr.put hs hi (.row id _ 0 _ _ ?_ p4 fun bd' m' l' hbd hL=>?_)) hs
  · rw [up1_eq,if_pos rfl]
    exact Nat.le_refl _
  · rw [up1_eq,if_pos rfl] at hbd
    obtain rfl:Body.nest e (els++[z])=bd':=by simpa using hbd
    obtain ⟨rfl,rfl⟩:1=m'/\(els++[z]).length=l':=by simpa only [Body.rowL,Option.some.injEq,Prod.mk.injEq] using hL
    rw [upm_eq,if_pos rfl]
    simpa using p3
theorem op_lenE {c:Call} {x:Operand} {t e id ep off n ty:Nat} {els:List AV} {ti:TI} (ho:o.op = .call c) (hc:c.callee = .builtin .len) (ha:c.args = #[x]) (hat:c.argTypes = #[t]) (ht:TiOk P t ti) (hk:ti.k = .slice e) (hx:s.ev x = .row id ep off n) (hid:s.σ id=⟨ep,some (.nest ty els)⟩):OpLoc P N o s ⟨.i .i64 n,[],[id]⟩ :=
  op_lenX ho hc ha hat ht hk [id] fun s' W F μ v hσ hi hv=>by
    rw [hx] at hv
    obtain ⟨h1,⟨rfl,rfl,_⟩ | ⟨b,cap,_,e,_⟩⟩:=nest_form hi hv ((hσ id (by simp)).trans hid)
    · obtain rfl:n=0:=by simp at h1;omega
      exact ⟨_,_,rfl⟩
    · exact ⟨_,_,e⟩
theorem op_ixE {t e k id ep n ty : Nat} {ti ei : TI} {x i : Operand} {kd : IntKind} {els : List AV} (ho : o.op = .indexAddr t x i) (ht : TiOk P t ti) (hk : ti.k = .slice e) (he : TiOk P e ei) (hx : s.ev x = .row id ep 0 n) (hid : s.σ id = ⟨ep, some (.nest ty els)⟩) (hi : s.ev i = .i kd (k : Int)) (hlt : k < n)
    (hn:ei.n=1):OpLoc P N o s ⟨.el id ep k 0,[],[id]⟩:=by
  refine oploc_val [id] _ fun s' W F μ a h1 h2 hs=>?_
  have hid':=(h2 id (by simp)).trans hid
  have ex:=hs.ev x
  rw [h1 x (by rw [ho];simp [Op.operands]),hx] at ex
  have ei':=hs.ev i
  rw [h1 i (by rw [ho];simp [Op.operands]),hi] at ei'
  obtain ⟨q1,⟨_,rfl,_⟩ | ⟨b,cap,hm,hv,_⟩⟩:=nest_form hs.inv ex hid'
  · simp at q1;omega
  · have hcond:(0:Int)<=(k:Int)/\(k:Int)<(n:Int):=by omega
    refine ⟨.pointer (some ⟨b,0*1+k*ei.n,none⟩),?_,.el id ep k 0 _ (by rw [hid'];exact Nat.le_refl _) rfl fun bd' m' l' hbd hL=>⟨b,cap,hm,?_⟩⟩
    · simp only [execOp,ho,Instr.indexAt,hv,ei'.i',asIntOf,Sem.run_bind,Sem.run_pure,Result.andThen_ok,run_underlying (ht.slice hk),if_pos hcond,he.size,Int.toNat_natCast,ca_ptr (W:=W)]
    · rw [hid'] at hbd
      obtain rfl:Body.nest ty els=bd':=by simpa using hbd
      obtain ⟨rfl,_⟩:1=m'/\els.length=l':=by simpa [Body.rowL] using hL
      rw [hn];simp
theorem op_ldE {t id ep k ty:Nat} {ti:TI} {p:Operand} {els:List AV} {x:AV} (ho:o.op = .load t p) (ht:TiOk P t ti) (hag:ti.k.ag=false) (hp:s.ev p = .el id ep k 0) (hid:s.σ id=⟨ep,some (.nest ty els)⟩) (hx:els[k]?=some x):OpLoc P N o s ⟨x,[],[id]⟩:=by
  refine oploc_val [id] _ fun s' W F μ a h1 h2 hs=>?_
  have hid':=(h2 id (by simp)).trans hid
  have ep':=hs.ev p
  rw [h1 p (by rw [ho];simp [Op.operands]),hp] at ep'
  obtain ⟨_,_,hv⟩:=Rel.elN ep'
  obtain ⟨b,c,hm,hv⟩:=hv _ _ hid'
  rcases hs.inv.body _ _ _ hid' with ⟨hn,rfl⟩ | ⟨b',cap,cur,hp',hh,q1,q2,q3,q4⟩
  · simp at hx
  · obtain ⟨rfl,rfl⟩:b=b'/\c=cap:=by rw [hm] at hp';simpa using hp'
    obtain ⟨_,u,hu,hr⟩:=q4 k x hx
    refine ⟨u,?_,hr⟩
    have hrun:(load ⟨b,k*1+0,none⟩).run P W = .ok u W:=by simp [load,Sem.run,World.cell?,hh,hu]
    simp only [execOp,ho,hv,Instr.loadAt,Instr.sureAddr,loadVar,Sem.run_bind,Sem.run_pure,Result.andThen_ok,ht.agg,hag,Bool.false_eq_true,if_false,hrun]
end
end Go.Proofs.YtoaibdbehlcnfaaGreat.Sm
end
section
namespace Go.Proofs.YtoaibdbehlcnfaaGreat.Sm
open Go.RowKit
def Rt (N:Nat) (s:St) {ι:Type} (st:ι->St) (J:ι->Prop):Prop :=
 ∀W F μ a,RS N W F μ s a->∃F' μ' i,J i/\RS N W F' μ' (st i) a/\Stq W F μ s.σ W F' μ' (st i).σ
section
variable {P : Program} {N : Nat} {Q : Exit -> St -> Prop} {s : St} {c : Code} {ι : Type}
theorem AW.retell (st:ι->St) (J:ι->Prop) (h:Rt N s st J) (h':∀i,J i->AW P N c Q (st i)):AW P N c Q s:=by
 intro W F μ a hr
 obtain ⟨F',μ',i,hJ,hr',hs⟩:=h W F μ a hr
 refine Code.wpA_mono ?_ (h' i hJ W F' μ' a hr')
 rintro e a' W' ⟨F'',μ'',s'',hq,hr'',hs''⟩
 exact ⟨F'',μ'',s'',hq,hr'',(hs.d rfl).trans hs''⟩
theorem Rt.wk {st:ι->St} {J:ι->Prop} (i:ι) (hJ:J i) (h:Wk s (st i)):Rt N s st J:=fun W F μ a hr=>⟨F,μ,i,hJ,h.rs hr,h.stp W F μ⟩
theorem Rt.trans {κ:Type} {s1:κ->St} {K:κ->Prop} {st:ι->St} {J:ι->Prop} (h:Rt N s s1 K) (h':∀k,K k->Rt N (s1 k) st J):Rt N s st J:=by
 intro W F μ a hr
 obtain ⟨F',μ',k,hK,hr',hs⟩:=h W F μ a hr
 obtain ⟨F'',μ'',i,hJ,hr'',hs'⟩:=h' k hK W F' μ' a hr'
 exact ⟨F'',μ'',i,hJ,hr'',hs.trans hs'⟩
open Classical in
theorem AW.loopR (st:ι->St) (J:ι->Prop) (m:ι->Nat) (h0:Rt N s st J)
  (round:∀i,J i->AW P N c (thenA (fun s'=>Rt N s' st fun i'=>J i'/\m i'<m i) Q) (st i)):AW P N (.loop c) Q s:=by
 intro W F μ a hr ro hn
 let R:Nat->Act->World->Prop:=fun n a' W'=>∃F' μ' i,m i=n/\J i/\RS N W' F' μ' (st i) a'/\Std W F μ s.σ a W' F' μ' (st i).σ a'
 obtain ⟨F0,μ0,i0,hJ0,hr0,hs0⟩:=h0 W F μ a hr
 refine wpIn_loop (fun a' W'=>∃n,R n a' W') (fun a' W'=>if h:∃n,R n a' W' then (least _ h).choose else 0) ⟨_,F0,μ0,i0,rfl,hJ0,hr0,hs0.d rfl⟩ ?_
 intro a1 W1 h
 simp only [dif_pos h]
 obtain ⟨F1,μ1,i,hm,hI,hr1,hs1⟩:=(least _ h).choose_spec.1
 rw [<- hm]
 refine wpIn_mono (round i hI W1 F1 μ1 a1 hr1 ro hn) ?_
 rintro e a' W' ⟨F',μ',s',hq,hr',hs⟩
 cases e with
 | normal =>
  obtain ⟨F2,μ2,i',⟨hI',hlt⟩,hr2,hs2⟩:=hq W' F' μ' a' hr'
  have hR:R (m i') a' W':=⟨F2,μ2,i',rfl,hI',hr2,(hs1.trans hs).trans (hs2.d rfl)⟩
  refine ⟨⟨_,hR⟩,?_⟩
  simp only [dif_pos (show ∃n,R n a' W' from ⟨_,hR⟩)]
  exact Nat.lt_of_le_of_lt ((least (fun n=>R n a' W') ⟨_,hR⟩).choose_spec.2 _ hR) hlt
 | _=>exact ⟨F',μ',s',hq,hr',hs1.trans hs⟩
end
def lkF (b:List (Nat × SB)) (f:Nat->SB):Sto:=fun id=>cond (Nat.ble 1000 id) (f (id - 1000)) (lkB b id)
theorem lkF_hi (b:List (Nat × SB)) (f:Nat->SB) (k:Nat):lkF b f (k+1000)=f k:=by
 have h:Nat.ble 1000 (k+1000)=true:=Nat.ble_eq_true_of_le (Nat.le_add_left 1000 k)
 show cond (Nat.ble 1000 (k+1000)) (f (k+1000 - 1000)) _=_
 rw [h,Nat.add_sub_cancel]
 rfl
theorem lkF_lo (b:List (Nat × SB)) (f:Nat->SB) {id:Nat} (h:id<1000):lkF b f id=lkB b id:=by
 have:Nat.ble 1000 id=false:=by
  cases e:Nat.ble 1000 id
  ·rfl
  ·exact absurd (Nat.le_of_ble_eq_true e) (by omega)
 rw [lkF,this,cond_false]
theorem WkF.to {s : St} {l : List (Nat × AV)} {b : List (Nat × SB)} {f : Nat -> SB} (ht : WkT s (lkF b f) l) (hB : WkB s (lkF b f) b)
    (hf:∀k bd',(f k).body=some bd'->∃bd,(s.σ (k+1000)).body=some bd/\RnB s.σ (lkF b f) bd bd'):Wk s ⟨lkT l,lkF b f⟩ :=
  ⟨wkT_ok ht,fun id bd' h=>by
    by_cases hid:1000<=id
    · obtain ⟨k,rfl⟩:∃k,id=k+1000:=⟨id - 1000,by omega⟩
      rw [show (⟨lkT l,lkF b f⟩:St).σ (k+1000)=f k from lkF_hi b f k] at h
      exact hf k bd' h
    · rw [show (⟨lkT l,lkF b f⟩:St).σ id=lkB b id from lkF_lo b f (by omega)] at h
      exact wkB_ok hB id bd' h⟩
def mvS (σ:Sto) (i j L e eL tL:Nat) (bd:Body) (els2:List AV):Sto:=up1 (up1 (up1 σ i ⟨e+1,none⟩) j ⟨(σ j).ep+1,some bd⟩) L ⟨eL,some (.nest tL els2)⟩
section
variable {σ : Sto} {i j L e eL tL : Nat} {bd : Body} {els2 : List AV}
theorem mvS_L:mvS σ i j L e eL tL bd els2 L=⟨eL,some (.nest tL els2)⟩:=by rw [mvS,up1_eq,if_pos rfl]
theorem mvS_j (h:L≠j):mvS σ i j L e eL tL bd els2 j=⟨(σ j).ep+1,some bd⟩:=by rw [mvS,up1_eq,if_neg (Ne.symm h),up1_eq,if_pos rfl]
theorem mvS_i (h:L≠i) (h':i≠j):mvS σ i j L e eL tL bd els2 i=⟨e+1,none⟩:=by rw [mvS,up1_eq,if_neg (Ne.symm h),up1_eq,if_neg h',up1_eq,if_pos rfl]
theorem mvS_o {k:Nat} (h1:k≠i) (h2:k≠j) (h3:k≠L):mvS σ i j L e eL tL bd els2 k=σ k:=by rw [mvS,up1_eq,if_neg h3,up1_eq,if_neg h2,up1_eq,if_neg h1]
end
theorem move_rs {N : Nat} {W : World} {F : Nat -> Prop} {μ : Mu} {s : St} {a : Act} (hr : RS N W F μ s a) {i j L e eL tL : Nat} {bd : Body} {els els2 : List AV} (hij : i ≠ j) (hiL : L ≠ i) (hjL : L ≠ j) (hi : s.σ i = ⟨e, some bd⟩) (hj : (s.σ j).body = none)
    (hL:s.σ L=⟨eL,some (.nest tL els)⟩) (hl:els2.length=els.length) (he:∀(k:Nat) (x x2:AV),els[k]?=some x->els2[k]?=some x2->x2=x\/∃off n,x = .row i e off n/\x2 = .row j ((s.σ j).ep+1) off n) :
    RS N W F (upm μ j (μ i)) ⟨s.ts,mvS s.σ i j L e eL tL bd els2⟩ a/\Stq W F μ s.σ W F (upm μ j (μ i)) (mvS s.σ i j L e eL tL bd els2):=by
  have g1:=@mvS_L s.σ i j L e eL tL bd els2
  have g2:=@mvS_j s.σ i j L e eL tL bd els2 hjL
  have g3:=@mvS_i s.σ i j L e eL tL bd els2 hiL hij
  have g4:∀k,k≠i->k≠j->k≠L->mvS s.σ i j L e eL tL bd els2 k=s.σ k:=fun k h1 h2 h3=>mvS_o h1 h2 h3
  generalize mvS s.σ i j L e eL tL bd els2=σ2 at g1 g2 g3 g4
  have m1:upm μ j (μ i) j=μ i:=by rw [upm_eq,if_pos rfl]
  have m2:∀k,k≠j->upm μ j (μ i) k=μ k:=fun k h=>by rw [upm_eq,if_neg h]
  generalize upm μ j (μ i)=μ2 at m1 m2
  -- where a living block of the new state lay
  have φ:∀id,(σ2 id).body.isSome=true->∃id0,(s.σ id0).body.isSome=true/\μ id0=μ2 id/\(id0=id\/(id=j/\id0=i))/\id≠i:=fun id h=>by
    by_cases e1:id=i
    · subst e1;rw [g3] at h;cases h
    by_cases e2:id=j
    · subst e2;exact ⟨i,by rw [hi];rfl,m1.symm,.inr ⟨rfl,rfl⟩,e1⟩
    by_cases e3:id=L
    · subst e3;exact ⟨id,by rw [hL];rfl,(m2 _ e2).symm,.inl rfl,e1⟩
    · rw [g4 id e1 e2 e3] at h
      exact ⟨id,h,(m2 _ e2).symm,.inl rfl,e1⟩
  have own:∀b,Own μ2 σ2 b->Own μ s.σ b:=fun b ⟨id,ep,bd',c,h1,h2⟩=>by
    obtain ⟨id0,k1,k2,_⟩:=φ id (by rw [h1];rfl)
    obtain ⟨bd0,k3⟩:=Option.isSome_iff_exists.1 k1
    exact ⟨id0,_,bd0,c,SB.mk' rfl k3,k2.trans h2⟩
  have hst:Stp W F μ s.σ W F μ2 σ2:=by
    refine ⟨Kp.refl _ _,fun _ h=>h,fun _ h=>.inl h,fun b h=>.inl (own b h),fun id=>?_,fun id hep bd' hb'=>?_⟩
    · by_cases e1:id=i
      · subst e1;rw [g3,hi];exact Nat.le_succ _
      by_cases e2:id=j
      · subst e2;rw [g2];exact Nat.le_succ _
      by_cases e3:id=L
      · subst e3;rw [g1,hL];exact Nat.le_refl _
      · rw [g4 id e1 e2 e3];exact Nat.le_refl _
    · by_cases e1:id=i
      · subst e1;rw [g3] at hb';cases hb'
      by_cases e2:id=j
      · subst e2;rw [g2] at hep;simp only at hep;omega
      by_cases e3:id=L
      · subst e3
        rw [g1] at hb'
        obtain rfl:Body.nest tL els2=bd':=by simpa using hb'
        exact ⟨_,by rw [hL],by simp [Body.sh,hl],m2 _ e2⟩
      · rw [g4 id e1 e2 e3] at hb'
        exact ⟨bd',hb',rfl,m2 _ e2⟩
  refine ⟨⟨fun t=>(hr.ts t).stp hr.inv hst,hr.defers.go hst.q,hr.n,⟨fun id ep bd' hb'=>?_,fun b hb=>hr.inv.apart b (own b hb),fun id id' b c c' h1 h2 h3 h4=>?_,hr.inv.old⟩⟩,hst.q⟩
  · replace hb':σ2 id=⟨ep,some bd'⟩:=hb'
    by_cases e1:id=i
    · subst e1;rw [g3] at hb';injection hb' with _ h;cases h
    by_cases e2:id=j
    · subst e2
      rw [g2] at hb'
      obtain rfl:bd=bd':=by injection hb' with _ h;exact Option.some.inj h
      rw [m1]
      exact (hr.inv.body i e bd hi).stp hr.inv hst fun _ _ _=>rfl
    by_cases e3:id=L
    · subst e3
      rw [g1] at hb'
      obtain rfl:Body.nest tL els2=bd':=by injection hb' with _ h;exact Option.some.inj h
      rw [m2 _ e2]
      rcases hr.inv.body _ _ _ hL with ⟨hn,rfl⟩ | ⟨b,cap,cur,hp,hh,q1,q2,q3,q4⟩
      · exact .inl ⟨hn,List.length_eq_zero_iff.1 hl⟩
      · refine .inr ⟨b,cap,cur,hp,hh,by omega,q2,q3,fun k x2 hk=>?_⟩
        obtain ⟨x,hx⟩:∃x,els[k]?=some x:=⟨_,List.getElem?_eq_getElem (by rw [<- hl];exact (List.getElem?_eq_some_iff.1 hk).1)⟩
        obtain ⟨o1,v,hv,hrel⟩:=q4 k x hx
        rcases he k x x2 hx hk with rfl | ⟨off,n,rfl,rfl⟩
        · exact ⟨o1,v,hv,hrel.stp hr.inv hst⟩
        · refine ⟨rfl,v,hv,?_⟩
          cases hrel with
          | pure h=>cases h
          | row _ _ _ _ _ w1 w2 w3 =>
            refine .row _ _ _ _ _ (by show _<=(σ2 j).ep;rw [g2];exact Nat.le_refl _) w2 fun bd1 m1' l1 hb1 hL1=>?_
            replace hb1:σ2 j=_:=hb1
            rw [g2] at hb1
            obtain rfl:bd=bd1:=by injection hb1 with _ h;exact Option.some.inj h
            rw [m1]
            exact w3 bd m1' l1 hi hL1
    · rw [g4 id e1 e2 e3] at hb'
      rw [m2 _ e2]
      exact (hr.inv.body id ep bd' hb').stp hr.inv hst fun _ _ _=>rfl
  · obtain ⟨x,k1,k2,k3,k4⟩:=φ id h1
    obtain ⟨x',k1',k2',k3',k4'⟩:=φ id' h2
    have hx:x=x':=hr.inv.inj x x' b c c' k1 k1' (k2.trans h3) (k2'.trans h4)
    rcases k3 with rfl | ⟨rfl,rfl⟩ <;> rcases k3' with rfl | ⟨rfl,rfl⟩
    · exact hx
    · exact absurd hx k4
    · exact absurd hx.symm k4'
    · rfl
end Go.Proofs.YtoaibdbehlcnfaaGreat.Sm
end
section
namespace Go.Proofs.YtoaibdbehlcnfaaGreat.Sm
open Go.RowKit
theorem Rel.mu {W:World} {F:Nat->Prop} {μ μ2:Mu} {σ:Sto} (h:∀id,(σ id).body.isSome=true->μ2 id=μ id) {x:AV} {v:Value} (hx:Rel W F μ σ x v):Rel W F μ2 σ x v:=by
 have al:∀{id ep:Nat} {bd:Body},σ id=⟨ep,some bd⟩->μ2 id=μ id:=fun e=>h _ (by rw [e];rfl)
 induction hx with
 | pure h=>exact .pure h
 | own id ep off v he h1 hv=>exact .own id ep off v he h1 fun bd hb=>by rw [al hb];exact hv bd hb
 | el id ep k j v he h1 hv=>exact .el id ep k j v he h1 fun bd m len hb hL=>by rw [al hb];exact hv bd m len hb hL
 | row id ep off n v he h1 hv=>exact .row id ep off n v he h1 fun bd m len hb hL=>by rw [al hb];exact hv bd m len hb hL
 | ref id ep k v he h1 hv=>exact .ref id ep k v he h1 fun bd hb=>by rw [al hb];exact hv bd hb
 | agg cs vs hl h1 _ ih=>exact .agg cs vs hl h1 ih
 | tup cs vs hl _ ih=>exact .tup cs vs hl ih
 | fn f first caps fs cs hf hc _ _ ih ih'=>exact .fn f first caps fs cs hf hc ih ih'
 | any v=>exact .any v
theorem BodyRel.mu {W:World} {F:Nat->Prop} {μ μ2:Mu} {σ:Sto} (h:∀id,(σ id).body.isSome=true->μ2 id=μ id) {p:Option (Nat × Nat)} {bd:Body} (hb:BodyRel W F μ σ p bd):BodyRel W F μ2 σ p bd:=by
 cases bd with
 | box t cs =>
  obtain ⟨b,c,vs,h1,h2,h3,h4⟩:=hb
  exact ⟨b,c,vs,h1,h2,h3,fun j x v hj hv=>⟨(h4 j x v hj hv).1,(h4 j x v hj hv).2.mu h⟩⟩
 | row t m els=>exact hb
 | obj o=>exact hb
 | ghost id ep q=>exact ⟨hb.1,hb.2.1,fun bd hbd=>by rw [h id (by rw [hbd];rfl)];exact hb.2.2 bd hbd⟩
 | nest t els =>
  rcases hb with h0 | ⟨b,cap,cur,h1,h2,h3,h4,h5,h6⟩
  ·exact .inl h0
  ·exact .inr ⟨b,cap,cur,h1,h2,h3,h4,h5,fun k x hk=>by obtain ⟨q1,v,q2,q3⟩:=h6 k x hk;exact ⟨q1,v,q2,q3.mu h⟩⟩
theorem RnB.rel {W:World} {F:Nat->Prop} {μ:Mu} {σ σ':Sto} {bd bd':Body} (hR:RnB σ σ' bd bd') {p:Option (Nat × Nat)} (hB:BodyRel W F μ σ p bd):BodyRel W F μ σ' p bd':=by
  cases hR with
  | row t m els=>exact hB
  | rowT t m n els=>exact hB.take n
  | obj o=>exact hB
  | @nest t els els' hl h1 hrn =>
    rcases hB with ⟨hn,rfl⟩ | ⟨b,cap,cur,hp,hh,q1,q2,q3,q4⟩
    · exact .inl ⟨hn,List.length_eq_zero_iff.1 hl⟩
    · refine .inr ⟨b,cap,cur,hp,hh,by omega,q2,q3,fun k x' hk=>⟨h1 k x' hk,?_⟩⟩
      obtain ⟨x,hx⟩:∃x,els[k]?=some x:=⟨_,List.getElem?_eq_getElem (by rw [<- hl];exact (List.getElem?_eq_some_iff.1 hk).1)⟩
      obtain ⟨_,v,hv,hr'⟩:=q4 k x hx
      exact ⟨v,hv,(hrn k x x' hx hk).rel hr'⟩
  | ghost h h'=>exact ⟨hB.1,by rw [h'];exact Nat.le_refl _,fun bd _=>hB.2.2 _ h⟩
  | @box t cs cs' hl h1 hrn =>
    obtain ⟨b,c,vs,hm,hw,hlv,hv⟩:=hB
    refine ⟨b,c,vs,hm,hw,by rw [hlv,hl],fun j x' v hj hvj=>⟨h1 j x' hj,?_⟩⟩
    obtain ⟨x,hxj⟩:∃x,cs[j]?=some x:=⟨_,List.getElem?_eq_getElem (by rw [<- hl];exact (List.getElem?_eq_some_iff.1 hj).1)⟩
    exact (hrn j x x' hxj hj).rel (hv j x v hxj hvj).2
structure GDoes (P:Program) (f:FuncId) (args:List AV) (r:AV) (g:Sto):Prop where
 fn : ∃ fn c, P.funcs[f]? = some fn /\ fn.body = some c /\ (fn.name == "runtime.NumGoroutine") = false
 calls:∀(W:World) (F:Nat->Prop) (vs:List Value),vs.length=args.length->(∀(j:Nat) (x:AV) (v:Value),args[j]?=some x->vs[j]?=some v->PRel W F x v)->(∀b,F b->b<W.heap.size) ->
  Calls P f vs.toArray W fun e W'=>∃(v:Value) (F':Nat->Prop) (μ':Mu),e = .returned v/\Kp No W W'/\(∀b,F b->F' b)/\(∀b,F' b->F b\/W.heap.size<=b)/\(∀b,Own μ' g b->W.heap.size<=b)/\Inv W' F' μ' g/\Rel W' F' μ' g r v
def retG (P:Program) (fn:Func) (r:AV) (g:Sto) (e:Exit) (s:St):Prop :=
 (e = .normal\/e = .ret)/\∃x,ResOk P fn s x/\Rn s.σ g x r/\∀id bd',(g id).body=some bd'->∃bd,(s.σ id).body=some bd/\RnB s.σ g bd bd'
theorem GDoes.of_body {P : Program} {f : FuncId} {fn : Func} {c : Code} {args : List AV} {r : AV} {g : Sto} {N : Nat} (hf : P.funcs[f]? = some fn) (hb : fn.body = some c) (hn : (fn.name == "runtime.NumGoroutine") = false) (hN : fn.ntmps = N) (hlen : Nat.ble args.length N = true)
    (h:AW P N c (retG P fn r g) (st0 args)):GDoes P f args r g:=by
  subst hN
  have hlen:=Nat.le_of_ble_eq_true hlen
  refine ⟨⟨fn,c,hf,hb,hn⟩,fun W F vs hl hv hF=>?_⟩
  have hi:Inv W F (fun _=>none) (fun _=>⟨0,none⟩):=⟨fun _ _ _ h=>(by cases h),fun b ⟨_,_,_,_,h,_⟩=>(by cases h),fun _ _ _ _ _ h=>(by cases h),hF⟩
  have hr:RS fn.ntmps W F (fun _=>none) (st0 args) { tmps:=vs.toArray++Array.replicate (fn.ntmps - vs.toArray.size) undef,defers:=[] }:=by
    refine ⟨fun t=>?_,.nil,by simp;omega,hi⟩
    show Rel W F _ _ (args.getD t (.tup [])) _
    rw [Array.getD_eq_getD_getElem?,Array.getElem?_append,List.getD_eq_getElem?_getD]
    by_cases ht:t<args.length
    · have h1:args[t]?=some args[t]:=List.getElem?_eq_getElem ht
      have h2:vs[t]?=some vs[t]:=List.getElem?_eq_getElem (by omega)
      rw [if_pos (by simp;omega),List.getElem?_toArray,h1,h2]
      exact .pure (hv t _ _ h1 h2)
    · rw [if_neg (by simp;omega),List.getElem?_eq_none (by omega)]
      have:(Array.replicate (fn.ntmps - vs.toArray.size) undef)[t - vs.toArray.size]?.getD undef=undef:=by
        rw [Array.getElem?_replicate]
        split <;> rfl
      rw [this]
      exact .pure (.tup [] [] rfl (by simp))
  refine calls_left hf hb (h W F _ _ hr) (fun _ _ h=>h.1) ?_
  rintro e W' F' μ' s' a' ⟨he,x,hres,hx,hB⟩ hr' hs
  obtain ⟨v,hrun,hxv⟩:=hres W' F' μ' a' hr'
  have hno:∀b,¬Own (fun _=>none) (fun _=>(⟨0,none⟩:SB)) b:=fun b ⟨_,_,_,_,h,_⟩=>(by cases h)
  have hw:Wk s' ⟨fun _=>.any,g⟩:=⟨fun _=>.any _,hB⟩
  have hfin:∃(v':Value) (F'':Nat->Prop) (μ'':Mu),Ending.returned v = .returned v'/\Kp No W W'/\(∀b,F b->F'' b)/\(∀b,F'' b->F b\/W.heap.size<=b)/\(∀b,Own μ'' g b->W.heap.size<=b)/\Inv W' F'' μ'' g/\Rel W' F'' μ'' g r v' :=
    ⟨v,F',μ',rfl,hs.kp.mono fun b _ hb=>(hno b hb).elim,hs.fro,fun b hb=>(hs.new b hb).imp (fun h=>h) fun h=>h.resolve_left (hno b),fun b hb=>(hs.own b (hw.own hb)).resolve_left (hno b),(hw.rs hr').inv,hx.rel hxv⟩
  exact ⟨_,hrun,hfin⟩
structure GIds (g:Sto) (r:AV) (ids:List Nat):Prop where
 mem:∀id,id∈ids↔(g id).body.isSome=true
 hi:∀id,id∈ids->1000<=id
 pos:∀id,id∈ids->0<(g id).ep
 none:∀id,id∉ids->g id=⟨0,none⟩
 self:∀σ2:Sto,(∀id,id∈ids->σ2 id=g id)->Rn g σ2 r r/\∀id bd,(g id).body=some bd->RnB g σ2 bd bd
theorem ups_ids {g:Sto}:∀{ids:List Nat} {σ:Sto} {j:Nat},ups σ (ids.map fun id=>(id,g id)) j=if j∈ids then g j else σ j
 | [],σ,j=>rfl
 | id::ids,σ,j=>by
  rw [List.map_cons,ups,ups_ids,up1_eq]
  by_cases h:j∈ids
  ·rw [if_pos h,if_pos (List.mem_cons_of_mem _ h)]
  ·rw [if_neg h]
   by_cases h':j=id
   ·subst h';rw [if_pos rfl,if_pos (by simp)]
   ·rw [if_neg h',if_neg (by simp [h,h'])]
theorem oploc_callG {P : Program} {N : Nat} {o : Oper} {c : Call} {fop : Operand} {s : St} {f : FuncId} {first caps ys : List AV} {r : AV} {g : Sto} {ids : List Nat} (ho : o.op = .call c) (hc : c.callee = .value fop) (hf : s.ev fop = .fn f first caps)
    (hz:FzL s.σ (first++(c.args.toList.map s.ev++caps)) ys []) (h:GDoes P f ys r g) (hg:GIds g r ids) (hfree:∀id,1000<=id->s.σ id=⟨0,none⟩):OpLoc P N o s ⟨r,ids.map fun id=>(id,g id),[]⟩:=by
  intro s' hev _ hid' W F μ a hr K Q hK
  have hfree':∀id,id∈ids->s'.σ id=⟨0,none⟩:=fun id hin=>(hid' (id,g id) (List.mem_map_of_mem (f:=fun id=>(id,g id)) hin)).trans (hfree id (hg.hi id hin))
  have hopers:o.op.operands.toList=fop::c.args.toList:=by
    rw [ho]
    simp [Op.operands,Call.operands,hc]
  have hf':s'.ev fop = .fn f first caps:=(hev fop (by rw [hopers];simp)).trans hf
  have hargs:c.args.toList.map s'.ev=c.args.toList.map s.ev:=List.map_congr_left fun x hx=>hev x (by rw [hopers];simp [hx])
  have hz':=hz.congr (σ':=s'.σ) (fun id hin=>by cases hin)
  rw [<- hargs] at hz'
  have hfv:=hr.ev fop
  rw [hf'] at hfv
  obtain ⟨fs,cs,hfe,hfl,hcl,hfr,hcr⟩:=hfv.fn'
  obtain ⟨fn,bd,g1,g2,g3⟩:=h.fn
  unfold Oper.wp
  rw [exec_call ho hc hfe g1 g2 g3]
  show Calls P f _ W _
  have hrel:=hz'.rel (W:=W) (F:=F) (μ:=μ) hr.inv (vs:=fs++(c.args.toList.map a.eval++cs)) (by simp [hfl,hcl]) (fun j x v hx hv=>by
    rw [List.getElem?_append] at hx hv
    rw [hfl] at hv
    split at hx
    · rename_i hlt
      rw [if_pos hlt] at hv
      exact hfr j x v hx hv
    · rename_i hlt
      rw [if_neg hlt] at hv
      rw [List.getElem?_append] at hx hv
      simp only [List.length_map] at hx hv
      split at hx
      · rename_i hlt2
        rw [if_pos hlt2] at hv
        rw [List.getElem?_map] at hx hv
        cases hq:c.args.toList[j - first.length]? with
        | none=>rw [hq] at hx;cases hx
        | some q =>
          rw [hq] at hx hv
          obtain rfl:s'.ev q=x:=by simpa using hx
          obtain rfl:a.eval q=v:=by simpa using hv
          exact hr.ev q
      · rename_i hlt2
        rw [if_neg hlt2] at hv
        exact hcr _ x v hx hv)
  have hF0:∀b,(F b\/Beh μ s'.σ [] b)->F b:=fun b hb=>hb.elim (fun h=>h) fun ⟨id,hin,_⟩=>by cases hin
  refine (h.calls W F _ hrel.1.symm (fun j y v hy hv=>(hrel.2 j y v hy hv).to hF0) hr.inv.old).mono ?_
  rintro e W' ⟨v,F',μ',rfl,hk,hF1,hF2,hown,hI,hv⟩
  have hσ2:∀id,ups s'.σ (ids.map fun id=>(id,g id)) id=if id∈ids then g id else s'.σ id:=fun id=>ups_ids
  have eq1:∀id,id∈ids->ups s'.σ (ids.map fun id=>(id,g id)) id=g id:=fun id hin=>by rw [hσ2,if_pos hin]
  have eq2:∀id,id∉ids->ups s'.σ (ids.map fun id=>(id,g id)) id=s'.σ id:=fun id hin=>by rw [hσ2,if_neg hin]
  show K (a.put o.dst v) W'
  have key:∀σ2:Sto,(∀id,id∈ids->σ2 id=g id)->(∀id,id∉ids->σ2 id=s'.σ id)->∃μ2,Stp W F μ s'.σ W' F' μ2 σ2/\Inv W' F' μ2 σ2/\Rel W' F' μ2 σ2 r v:=fun σ2 e1 e2=>by
    let μ2:Mu:=fun id=>if (g id).body.isSome=true then μ' id else μ id
    have m1:∀id,(g id).body.isSome=true->μ2 id=μ' id:=fun id h=>if_pos h
    have m2:∀id,id∉ids->μ2 id=μ id:=fun id h=>if_neg fun h'=>h ((hg.mem id).2 h')
    have size:=hk.size
    have own:∀b,Own μ2 σ2 b->(Own μ' g b/\W.heap.size<=b)\/Own μ s'.σ b:=fun b ⟨id,ep,bd,c,h1,h2⟩=>by
      by_cases hin:id∈ids
      · rw [e1 id hin] at h1
        rw [m1 id ((hg.mem id).1 hin)] at h2
        have:Own μ' g b:=⟨id,ep,bd,c,h1,h2⟩
        exact .inl ⟨this,hown b this⟩
      · rw [e2 id hin] at h1
        rw [m2 id hin] at h2
        exact .inr ⟨id,ep,bd,c,h1,h2⟩
    have hs:Stp W F μ s'.σ W' F' μ2 σ2:=by
      refine ⟨hk.mono fun b _ hb=>hb.elim,hF1,fun b hb=>(hF2 b hb).imp (fun h=>h) .inr,fun b hb=>(own b hb).elim (fun h=>.inr h.2) .inl,fun id=>?_,fun id he bd' hb'=>?_⟩
      · by_cases hin:id∈ids
        · rw [hfree' id hin];exact Nat.zero_le _
        · rw [e2 id hin];exact Nat.le_refl _
      · by_cases hin:id∈ids
        · rw [hfree' id hin,e1 id hin] at he
          have:=hg.pos id hin
          simp only at he
          omega
        · rw [e2 id hin] at hb'
          exact ⟨bd',hb',rfl,m2 id hin⟩
    obtain ⟨hself,hselfB⟩:=hg.self σ2 e1
    refine ⟨μ2,hs,⟨fun id ep bd hbd=>?_,fun b hb=>?_,fun id id' b c c' h1 h2 h3 h4=>?_,hI.old⟩,hself.rel (hv.mu m1)⟩
    · by_cases hin:id∈ids
      · rw [e1 id hin] at hbd
        rw [m1 id ((hg.mem id).1 hin)]
        exact (hselfB id bd (by rw [hbd])).rel ((hI.body id ep bd hbd).mu m1)
      · rw [e2 id hin] at hbd
        rw [m2 id hin]
        exact (hr.inv.body id ep bd hbd).stp hr.inv hs fun b c hp=>hk.block b (hr.inv.apart b ⟨id,ep,bd,c,hbd,hp⟩).1 fun h=>h
    · rcases own b hb with ⟨h1,_⟩ | h1
      · exact hI.apart b h1
      · obtain ⟨q1,q2⟩:=hr.inv.apart b h1
        exact ⟨by omega,fun hf=>(hF2 b hf).elim q2 (by omega)⟩
    · have cls : ∀ id c, (σ2 id).body.isSome = true -> μ2 id = some (b, c) -> (id ∈ ids /\ (g id).body.isSome = true /\ μ' id = some (b, c) /\ W.heap.size <= b) \/ (id ∉ ids /\ (s'.σ id).body.isSome = true /\ μ id = some (b, c) /\ b < W.heap.size) := fun id c q1 q2 => by
        by_cases hin:id∈ids
        · have hs':=(hg.mem id).1 hin
          rw [m1 id hs'] at q2
          obtain ⟨bd,hbd⟩:=Option.isSome_iff_exists.1 hs'
          exact .inl ⟨hin,hs',q2,hown b ⟨id,_,bd,c,SB.mk' rfl hbd,q2⟩⟩
        · rw [e2 id hin] at q1
          rw [m2 id hin] at q2
          obtain ⟨bd,hbd⟩:=Option.isSome_iff_exists.1 q1
          exact .inr ⟨hin,q1,q2,(hr.inv.apart b ⟨id,_,bd,c,SB.mk' rfl hbd,q2⟩).1⟩
      rcases cls id c h1 h3 with ⟨_,a1,a2,a3⟩ | ⟨_,a1,a2,a3⟩ <;> rcases cls id' c' h2 h4 with ⟨_,b1,b2,b3⟩ | ⟨_,b1,b2,b3⟩
      · exact hI.inj id id' b c c' a1 b1 a2 b2
      · omega
      · omega
      · exact hr.inv.inj id id' b c c' a1 b1 a2 b2
  obtain ⟨μ2,hs,hi2,hv2⟩:=key _ eq1 eq2
  exact hK W' F' μ2 _ (hr.put hs hi2 (dst:=o.dst) (x:=r) (v:=v) hv2) hs
def impS (σ g:Sto):Sto:=fun id=>cond (Nat.ble 1000 id) (g id) (σ id)
theorem impS_eq {σ g:Sto} {r:AV} {ids:List Nat} (hg:GIds g r ids) (hfree:∀id,1000<=id->σ id=⟨0,none⟩):ups σ (ids.map fun id=>(id,g id))=impS σ g:=by
  funext j
  rw [ups_ids,impS]
  cases hb:Nat.ble 1000 j
  · rw [if_neg fun h=>by have:=Nat.ble_eq_true_of_le (hg.hi j h);rw [hb] at this;cases this]
    rfl
  · rw [cond_true]
    by_cases hin:j∈ids
    · rw [if_pos hin]
    · rw [if_neg hin,hg.none j hin,hfree j (Nat.le_of_ble_eq_true hb)]
theorem RG.callG {P:Program} {N:Nat} {ops:Array Oper} {rest:List Oper} {K:St->List Eff->Prop} {o:Oper} {ts:Nat->AV} {σ:Sto} {c:Call} {f:FuncId} {xs ys zs:List AV} {r:AV} {g:Sto} {ids:List Nat} (hgd:gd ops ⟨ts,σ⟩ o=some true) (ho:o.op = .call c) (ha:argsA ⟨ts,σ⟩ c=some (f,xs)) (hz:fzL σ 6 xs=some (ys,[])) (hy:ys=zs)
  (h:GDoes P f zs r g) (hg:GIds g r ids) (hfree:∀id,1000<=id->σ id=⟨0,none⟩) {d:Option Nat} (hd:o.dst=d)
  (hr:RG P N ops rest ⟨putS N ts d r,impS σ g⟩ fun s' Es=>K s' (⟨r,ids.map fun id=>(id,g id),[]⟩::Es)):RG P N ops (o::rest) ⟨ts,σ⟩ K:=by
 subst hy hd
 rw [<- impS_eq hg hfree] at hr
 unfold argsA at ha
 split at ha
 ·rename_i fop hc
  split at ha
  ·rename_i f' first caps hf
   simp only [Option.some.injEq,Prod.mk.injEq] at ha
   obtain ⟨rfl,rfl⟩:=ha
   exact RG.opB hgd (fn_bd h.fn ho hc hf) (oploc_callG ho hc hf (fzL_ok hz) h hg hfree) hr
  ·cases ha
 ·cases ha
end Go.Proofs.YtoaibdbehlcnfaaGreat.Sm
end
section
namespace Go.Proofs.YtoaibdbehlcnfaaGreat.Sm
open Go.RowKit
def Abd {α:Type} (J:Option (List α)->(Nat->Prop)->World->Prop):Prop :=
 ∀p M M' W1 W2,J p M W1->Kp M W1 W2->(∀b,M b->M' b)->(∀b,M' b->M b\/(W1.heap.size<=b/\b<W2.heap.size))->J p M' W2
def Yld {α:Type} (P:Program) (F:Nat->Prop) (enc:α->List AV) (Nx:List α->α->Prop) (l:Nat) (J:Option (List α)->(Nat->Prop)->World->Prop):Prop :=
 ∀pre x M W1 (vs:List Value),J (some pre) M W1->Nx pre x->(∀b,M b->b<W1.heap.size)->vs.length=(enc x).length ->
  (∀(j:Nat) (y:AV) (v:Value),(enc x)[j]?=some y->vs[j]?=some v->PRel W1 (fun b=>F b\/M b) y v) ->
  YieldAt Fence.wide 0 P l vs.toArray W1 fun e W2=>∃go:Bool,e = .returned (.bool go)/\J (if go then some (pre++[x]) else none) M W2/\Kp (fun b=>¬F b/\¬M b) W1 W2
structure IDoes {α:Type} (P:Program) (f:FuncId) (caps:List AV) (enc:α->List AV) (Nx:List α->α->Prop) (Fin:List α->Prop):Prop where
 fn : ∃ fn c, P.funcs[f]? = some fn /\ fn.body = some c /\ (fn.name == "runtime.NumGoroutine") = false
 calls:∀(W:World) (F:Nat->Prop) (cs:List Value),cs.length=caps.length->(∀(j:Nat) (x:AV) (v:Value),caps[j]?=some x->cs[j]?=some v->PRel W F x v)->(∀b,F b->b<W.heap.size) ->
  ∀(l:Nat) (J:Option (List α)->(Nat->Prop)->World->Prop),Abd J->Yld P F enc Nx l J->J (some []) (fun _=>False) W ->
   Calls P f (.func (.yield l) #[] #[]::cs).toArray W fun e W'=>(∃v,e = .returned v)/\∃M,J none M W'\/∃pre,Fin pre/\J (some pre) M W'
structure Sd (F0:Nat->Prop) (W:World) (F:Nat->Prop) (μ:Mu) (σ:Sto) (a:Act) (M:Nat->Prop):Prop where
 own:∀b,Own μ σ b->M b
 fro:∀b,F b->F0 b\/M b
 fr0:∀b,F0 b->F b
 lt:∀b,M b->b<W.heap.size
 df:∀D,({ target:=.collected D,args:=#[] }:Deferred)∈a.defers->M D
theorem DefOk.lt {W:World} {F:Nat->Prop} {μ:Mu} {σ:Sto} {ds:List Deferred} (h:DefOk W F μ σ ds) {D:Nat} (hD:({ target:=.collected D,args:=#[] }:Deferred)∈ds):W.heap[D]?=some (.deferred (some []))/\¬F D/\¬Own μ σ D:=by
 obtain ⟨Ds,h1,rfl,h3⟩:=h
 obtain ⟨D',h4,h5⟩:=List.mem_map.1 hD
 obtain rfl:D'=D:=by simpa using h5
 exact h3 _ h4
theorem DefOk.heap {W W':World} {F:Nat->Prop} {μ:Mu} {σ:Sto} {ds:List Deferred} (h:DefOk W F μ σ ds) (hk:∀D,({ target:=.collected D,args:=#[] }:Deferred)∈ds->W'.heap[D]?=W.heap[D]?):DefOk W' F μ σ ds:=by
 obtain ⟨Ds,h1,rfl,h3⟩:=h
 exact ⟨Ds,h1,rfl,fun D hD=>⟨(hk D (List.mem_map_of_mem hD)).trans (h3 D hD).1,(h3 D hD).2⟩⟩
abbrev newM (M:Nat->Prop) (W W':World):Nat->Prop:=fun b=>M b\/(W.heap.size<=b/\b<W'.heap.size)
theorem Sd.std {F0:Nat->Prop} {N:Nat} {W W':World} {F F':Nat->Prop} {μ μ':Mu} {σ:Sto} {s':St} {a a':Act} {M:Nat->Prop} (hd:Sd F0 W F μ σ a M) (hs:Std W F μ σ a W' F' μ' s'.σ a') (hr':RS N W' F' μ' s' a'):Sd F0 W' F' μ' s'.σ a' (newM M W W'):=by
  refine ⟨fun b hb=>?_,fun b hb=>?_,fun b hb=>hs.fro b (hd.fr0 b hb),fun b hb=>?_,fun D hD=>?_⟩
  · rcases hs.own b hb with h | h
    · exact .inl (hd.own b h)
    · exact .inr ⟨h,(hr'.inv.apart b hb).1⟩
  · rcases hs.new b hb with h | h | h
    · exact (hd.fro b h).imp (fun h=>h) .inl
    · exact .inr (.inl (hd.own b h))
    · exact .inr (.inr ⟨h,hr'.inv.old b hb⟩)
  · rcases hb with hb | hb
    · exact Nat.lt_of_lt_of_le (hd.lt b hb) hs.kp.size
    · exact hb.2
  · rcases hs.nw _ hD with h | ⟨D',e,h⟩
    · exact .inl (hd.df D h)
    · obtain rfl:D=D':=by simpa using e
      exact .inr ⟨h,(Array.getElem?_eq_some_iff.1 (hr'.defers.lt hD).1).1⟩
abbrev thenJ {α:Type} (K:Option (List α)->St->Prop) (Q:Exit->Option (List α)->St->Prop):Exit->Option (List α)->St->Prop
 | .normal,p,s=>K p s
 | e,p,s=>Q e p s
abbrev inBlkJ {α:Type} (id:Nat) (Q:Exit->Option (List α)->St->Prop):Exit->Option (List α)->St->Prop
 | .exit id',p,s=>if id'=id then Q .normal p s else Q (.exit id') p s
 | e,p,s=>Q e p s
def AWJ {α:Type} (P:Program) (N:Nat) (F0:Nat->Prop) (J:Option (List α)->(Nat->Prop)->World->Prop) (c:Code) (Q:Exit->Option (List α)->St->Prop) (p:Option (List α)) (s:St):Prop :=
 ∀W F μ a M,RS N W F μ s a->Sd F0 W F μ s.σ a M->J p M W->Code.wpIn Fence.wide 0 P c (fun e a' W'=>∃F' μ' s' p' M',Q e p' s'/\RS N W' F' μ' s' a'/\Sd F0 W' F' μ' s'.σ a' M'/\J p' M' W') a W
section
variable {α : Type} {P : Program} {N : Nat} {F0 : Nat -> Prop} {J : Option (List α) -> (Nat -> Prop) -> World -> Prop} {Q : Exit -> Option (List α) -> St -> Prop} {p : Option (List α)} {s : St}
theorem AWJ.lift (hJ:Abd J) {c:Code} (h:AW P N c (fun e s'=>Q e p s') s):AWJ P N F0 J c Q p s:=by
 intro W F μ a M hr hd hj
 refine wpIn_mono (h W F μ a hr none fun _=>rfl) ?_
 rintro e a' W' ⟨F',μ',s',hq,hr',hs⟩
 exact ⟨F',μ',s',p,newM M W W',hq,hr',hd.std hs hr',hJ p M _ W W' hj (hs.kp.mono fun k _ hk=>hd.own k hk) (fun b hb=>.inl hb) (fun b hb=>hb)⟩
theorem AWJ.seq {x y:Code} (h:AWJ P N F0 J x (thenJ (AWJ P N F0 J y Q) Q) p s):AWJ P N F0 J (.seq x y) Q p s:=by
 intro W F μ a M hr hd hj
 refine wpIn_seq (wpIn_mono (h W F μ a M hr hd hj) ?_)
 rintro e a' W' ⟨F',μ',s',p',M',hq,hr',hd',hj'⟩
 cases e with
 | normal=>exact hq W' F' μ' a' M' hr' hd' hj'
 | _=>exact ⟨F',μ',s',p',M',hq,hr',hd',hj'⟩
theorem AWJ.fst (hJ:Abd J) {x y:Code} (h:AW P N x (thenA (fun s'=>AWJ P N F0 J y Q p s') fun e s'=>Q e p s') s):AWJ P N F0 J (.seq x y) Q p s:=by
 refine AWJ.seq (AWJ.lift hJ (h.mono fun e s' hq=>?_))
 cases e <;> exact hq
theorem AWJ.block {id:Nat} {c:Code} (h:AWJ P N F0 J c (inBlkJ id Q) p s):AWJ P N F0 J (.block id c) Q p s:=by
 intro W F μ a M hr hd hj
 refine wpIn_block (wpIn_mono (h W F μ a M hr hd hj) ?_)
 rintro e a' W' ⟨F',μ',s',p',M',hq,hr',hd',hj'⟩
 cases e with
 | exit id' =>
  show if id'=id then _ else _
  simp only [inBlkJ] at hq
  split
  ·rename_i e
   rw [if_pos e] at hq
   exact ⟨F',μ',s',p',M',hq,hr',hd',hj'⟩
  ·rename_i e
   rw [if_neg e] at hq
   exact ⟨F',μ',s',p',M',hq,hr',hd',hj'⟩
 | _=>exact ⟨F',μ',s',p',M',hq,hr',hd',hj'⟩
theorem Sd.wk {W:World} {F:Nat->Prop} {μ:Mu} {s s':St} {a:Act} {M:Nat->Prop} (hd:Sd F0 W F μ s.σ a M) (h:Wk s s'):Sd F0 W F μ s'.σ a M:=⟨fun b hb=>hd.own b (h.own hb),hd.fro,hd.fr0,hd.lt,hd.df⟩
open Classical in
theorem AWJ.loop {c:Code} {ι:Type} (st:ι->St) (pr:ι->Option (List α)) (I:ι->Prop) (m:ι->Nat) (i0:ι) (h0:I i0) (hp:p=pr i0) (hw:Wk s (st i0))
  (round:∀i,I i->AWJ P N F0 J c (thenJ (fun p' s'=>∃i',(I i'/\m i'<m i)/\p'=pr i'/\Wk s' (st i')) Q) (pr i) (st i)):AWJ P N F0 J (.loop c) Q p s:=by
 intro W F μ a M hr hd hj
 let R:Nat->Act->World->Prop:=fun n a' W'=>∃F' μ' i M',m i=n/\I i/\RS N W' F' μ' (st i) a'/\Sd F0 W' F' μ' (st i).σ a' M'/\J (pr i) M' W'
 refine wpIn_loop (fun a' W'=>∃n,R n a' W') (fun a' W'=>if h:∃n,R n a' W' then (least _ h).choose else 0) ⟨_,F,μ,i0,M,rfl,h0,hw.rs hr,hd.wk hw,hp ▸ hj⟩ ?_
 intro a1 W1 h
 simp only [dif_pos h]
 obtain ⟨F1,μ1,i,M1,hm,hI,hr1,hd1,hj1⟩:=(least _ h).choose_spec.1
 rw [<- hm]
 refine wpIn_mono (round i hI W1 F1 μ1 a1 M1 hr1 hd1 hj1) ?_
 rintro e a' W' ⟨F',μ',s',p',M',hq,hr',hd',hj'⟩
 cases e with
 | normal =>
  obtain ⟨i',⟨hI',hlt⟩,rfl,hw'⟩:=hq
  have hR:R (m i') a' W':=⟨F',μ',i',M',rfl,hI',hw'.rs hr',hd'.wk hw',hj'⟩
  refine ⟨⟨_,hR⟩,?_⟩
  simp only [dif_pos (show ∃n,R n a' W' from ⟨_,hR⟩)]
  exact Nat.lt_of_le_of_lt ((least (fun n=>R n a' W') ⟨_,hR⟩).choose_spec.2 _ hR) hlt
 | _=>exact ⟨F',μ',s',p',M',hq,hr',hd',hj'⟩
end
section
variable {α : Type} {P : Program} {N : Nat} {F0 : Nat -> Prop} {J : Option (List α) -> (Nat -> Prop) -> World -> Prop} {Q : Exit -> Option (List α) -> St -> Prop} {p : Option (List α)} {s : St}
theorem AWJ.loopL {c:Code} {ι:Type} (T:ι->List (Nat × AV)) (B:ι->List (Nat × SB)) (pr:ι->Option (List α)) (I:ι->Prop) (m:ι->Nat) (i0:ι) (h0:I i0) (hp:p=pr i0) (ht:WkT s (lkB (B i0)) (T i0)) (hB:WkB s (lkB (B i0)) (B i0))
  (round:∀i,I i->AWJ P N F0 J c (thenJ (fun p' s'=>∃i',(I i'/\m i'<m i)/\p'=pr i'/\Wk s' (stL (T i') (B i'))) Q) (pr i) (stL (T i) (B i))):AWJ P N F0 J (.loop c) Q p s :=
 AWJ.loop (fun i=>stL (T i) (B i)) pr I m i0 h0 hp ⟨fun t=>wkT_ok ht t,wkB_ok hB⟩ round
theorem AW.lensJ (hJ:Abd J) {c:Code} (t:Nat) {els:List (List AV)} (ht:s.ts t = .sl els) (h:els.length<=9223372036854775807->AWJ P N F0 J c Q p s):AWJ P N F0 J c Q p s:=by
 intro W F μ a M hr hd hj
 refine h ?_ W F μ a M hr hd hj
 have hx:=hr.ts t
 rw [ht] at hx
 generalize a.tmps.getD t undef=v at hx
 cases hx.sl' with
 | sl _ A cc m b off cell hc hm =>
  have:maxLen=9223372036854775807:=by decide
  omega
end
theorem chain_app {P:Program} {N:Nat} {ops:Array Oper} {l:List Oper} {s s':St} {Es:List Eff} (h:Chain P N ops l s Es s') (rest:List Oper) :
  ∀(W:World) F μ a,RS N W F μ s a->∀(ro:Option Nat) (Q:Exit->Act->World->Prop),(∀W' F' μ' a',RS N W' F' μ' s' a'->Stp W F μ s.σ W' F' μ' s'.σ->a'.defers=a.defers->wpListIn (wideR ro) 0 P ops Q rest a' W')->wpListIn (wideR ro) 0 P ops Q (l++rest) a W:=by
 induction h with
 | nil s=>exact fun W F μ a hr ro Q hq=>hq W F μ a hr (Stp.refl _ _ _ _) rfl
 | op hg hb h _ ih =>
  intro W F μ a hr ro Q hq
  rw [List.cons_append]
  unfold wpListIn
  rw [if_pos (gd_wanted hr hg)]
  exact op_in hr (gd_0 hg).2 hb (h.ok W F μ a hr _ _ fun W' F' μ' a' hr' hs hd=>ih W' F' μ' a' hr' ro Q fun W'' F'' μ'' a'' hr'' hs' hd'=>hq W'' F'' μ'' a'' hr'' (hs.trans hs') (hd'.trans hd))
 | skip hg _ ih =>
  intro W F μ a hr ro Q hq
  rw [List.cons_append]
  unfold wpListIn
  rw [if_neg (by rw [gd_wanted hr hg];simp)]
  exact ⟨fun _ _=>trivial,ih W F μ _ (hr.skip _) ro Q fun W' F' μ' a' h1 h2 h3=>hq W' F' μ' a' h1 h2 (h3.trans (defers_put _ _ _))⟩
theorem exec_yield {P:Program} {o:Oper} {c:Call} {fop:Operand} (ho:o.op = .call c) (hc:c.callee = .value fop) {a:Act} {l:Nat} (hf:a.eval fop = .func (.yield l) #[] #[]) (W:World) :
  (execOp a.eval o).run P W=(Instr.yield l (c.args.map a.eval)).run P W:=by
 obtain ⟨dst,op,ty,pos,after,guard⟩:=o
 simp only at ho
 subst ho
 simp [execOp,resolve,hc,hf,Deferred.ofValue,invoke]
theorem AWJ.yield {α : Type} {P : Program} {N : Nat} {F0 : Nat -> Prop} {J : Option (List α) -> (Nat -> Prop) -> World -> Prop} {Q : Exit -> Option (List α) -> St -> Prop} {s : St} (hJ : Abd J) {enc : α -> List AV} {Nx : List α -> α -> Prop} {l : Nat} (hy : Yld P F0 enc Nx l J)
    {id:Nat} {ops:Array Oper} (k:Nat) {o:Oper} {c:Call} {fop:Operand} {pre:List α} (x:α) (hnx:Nx pre x) (hl:ops.toList=ops.toList.take k++o::ops.toList.drop (k+1)) (ho:o.op = .call c) (hc:c.callee = .value fop)
    (h:RG P N ops (ops.toList.take k) s fun s1 _=>gd ops s1 o=some true/\s1.ev fop = .raw (.func (.yield l) #[] #[])/\(∃ys ids,fzL s1.σ 6 (c.args.toList.map s1.ev)=some (ys,ids)/\ys=enc x) /\
      ∀go:Bool,RG P N ops (ops.toList.drop (k+1)) ⟨putS N s1.ts o.dst (.b go),s1.σ⟩ fun s' _=>Q .normal (if go then some (pre++[x]) else none) s'):AWJ P N F0 J (.region id ops false) Q (some pre) s:=by
  intro W F μ a M hr hd hj
  obtain ⟨Es,s1,hch,hg,hf,⟨ys,ids,hz,rfl⟩,h2⟩:=h
  refine wpIn_region_list ?_
  rw [hl]
  refine chain_app hch _ W F μ a hr none _ fun W1 F1 μ1 a1 hr1 hs1 hd1=>?_
  have hs1':=hs1.q.d hd1
  have hsd1:=hd.std hs1' hr1
  have hj1:J (some pre) (newM M W W1) W1:=hJ _ M _ W W1 hj (hs1.kp.mono fun k _ hk=>hd.own k hk) (fun b hb=>.inl hb) (fun b hb=>hb)
  generalize newM M W W1=M1 at hsd1 hj1
  unfold wpListIn
  rw [if_pos (gd_wanted hr1 hg)]
  have hfv:=(hr1.ev fop)
  rw [hf] at hfv
  have hfe:=hfv.raw'
  refine ⟨fun _ _=>trivial,?_⟩
  show Oper.uponIn _ _ _ _ _ _ _ ((execOp a1.eval o).run P W1)
  rw [exec_yield ho hc hfe]
  have hrel:=(fzL_ok hz).rel (W:=W1) (F:=F1) (μ:=μ1) hr1.inv (vs:=c.args.toList.map a1.eval) (by simp) (fun j y v hj' hv=>by
    rw [List.getElem?_map] at hj' hv
    cases hq:c.args.toList[j]? with
    | none=>rw [hq] at hj';cases hj'
    | some q =>
      rw [hq] at hj' hv
      obtain rfl:s1.ev q=y:=by simpa using hj'
      obtain rfl:a1.eval q=v:=by simpa using hv
      exact hr1.ev q)
  have hM:∀b,(F1 b\/Beh μ1 s1.σ ids b)->F0 b\/M1 b:=fun b hb=>by
    rcases hb with hb | ⟨i,_,ep,bd,cc,e1,e2⟩
    · exact hsd1.fro b hb
    · exact .inr (hsd1.own b ⟨i,ep,bd,cc,e1,e2⟩)
  obtain ⟨fn,tmps,assign,body,hrun,hround⟩:=hy pre x M1 W1 (c.args.toList.map a1.eval) hj1 hnx hsd1.lt hrel.1.symm (fun j y v e1 e2=>(hrel.2 j y v e1 e2).to hM)
  have eargs:c.args.map a1.eval=(c.args.toList.map a1.eval).toArray:=by
    apply Array.toList_inj.1
    simp
  rw [eargs,hrun]
  refine ⟨fun e=>(by cases e),RoundIn.mono hround ?_⟩
  rintro e W2 ⟨go,rfl,hj2,hk2⟩
  show wpListIn _ _ _ _ _ _ _ _
  have hkeep:∀b,b<W1.heap.size->(F0 b\/M1 b)->W2.heap[b]?=W1.heap[b]?:=fun b hlt hb=>hk2.block b hlt fun hn=>hb.elim hn.1 hn.2
  have hr2:RS N W2 F1 μ1 s1 a1:=hr1.heap hk2.size (fun b hlt hb=>hkeep b hlt (hb.elim (hsd1.fro b) fun h=>.inr (hsd1.own b h)))
    (hr1.defers.heap fun D hD=>hkeep D (Array.getElem?_eq_some_iff.1 (hr1.defers.lt hD).1).1 (.inr (hsd1.df D hD)))
  have hr3:RS N W2 F1 μ1 ⟨putS N s1.ts o.dst (.b go),s1.σ⟩ (a1.put o.dst (.bool go)):=hr2.put (Stp.refl _ _ _ _) hr2.inv (.pure (.b go))
  have hsd3:Sd F0 W2 F1 μ1 s1.σ (a1.put o.dst (.bool go)) M1:=⟨hsd1.own,hsd1.fro,hsd1.fr0,fun b hb=>Nat.lt_of_lt_of_le (hsd1.lt b hb) hk2.size,fun D hD=>hsd1.df D (by rw [defers_put] at hD;exact hD)⟩
  obtain ⟨Es',s',hch',hq⟩:=h2 go
  have:=chain_app hch' [] W2 F1 μ1 _ hr3 none (fun e a' W'=>∃F' μ' s' p' M',Q e p' s'/\RS N W' F' μ' s' a'/\Sd F0 W' F' μ' s'.σ a' M'/\J p' M' W') fun W4 F4 μ4 a4 hr4 hs4 hd4=>?_
  · rw [List.append_nil] at this
    exact this
  · exact ⟨F4,μ4,s',_,newM M1 W2 W4,hq,hr4,hsd3.std (hs4.q.d hd4) hr4,hJ _ M1 _ W2 W4 hj2 (hs4.kp.mono fun k _ hk=>hsd3.own k hk) (fun b hb=>.inl hb) (fun b hb=>hb)⟩
def retI {α:Type} (Fin:List α->Prop) (e:Exit) (p:Option (List α)) (s:St):Prop:=(e = .normal\/e = .ret)/\(p=none\/∃pre,p=some pre/\Fin pre)
theorem IDoes.of_body {α : Type} {P : Program} {f : FuncId} {fn : Func} {c : Code} {caps : List AV} {enc : α -> List AV} {Nx : List α -> α -> Prop} {Fin : List α -> Prop} {N : Nat} (hf : P.funcs[f]? = some fn) (hb : fn.body = some c) (hn : (fn.name == "runtime.NumGoroutine") = false) (hres : fn.results = #[]) (hN : fn.ntmps = N) (hlen : Nat.ble (caps.length + 1) N = true)
    (h:∀(F0:Nat->Prop) (l:Nat) (J:Option (List α)->(Nat->Prop)->World->Prop),Abd J->Yld P F0 enc Nx l J->AWJ P N F0 J c (retI Fin) (some []) (st0 (.raw (.func (.yield l) #[] #[])::caps))):IDoes P f caps enc Nx Fin:=by
  subst hN
  have hlen:=Nat.le_of_ble_eq_true hlen
  refine ⟨⟨fn,c,hf,hb,hn⟩,fun W F cs hl hv hF l J hJ hy hj=>?_⟩
  have hi:Inv W F (fun _=>none) (fun _=>⟨0,none⟩):=⟨fun _ _ _ h=>(by cases h),fun b ⟨_,_,_,_,h,_⟩=>(by cases h),fun _ _ _ _ _ h=>(by cases h),hF⟩
  have hr:RS fn.ntmps W F (fun _=>none) (st0 (.raw (.func (.yield l) #[] #[])::caps)) { tmps:=(Value.func (.yield l) #[] #[]::cs).toArray++Array.replicate (fn.ntmps - (Value.func (.yield l) #[] #[]::cs).toArray.size) undef,defers:=[] }:=by
    refine ⟨fun t=>?_,.nil,by simp;omega,hi⟩
    show Rel W F _ _ ((_::caps).getD t (.tup [])) _
    rw [Array.getD_eq_getD_getElem?,Array.getElem?_append,List.getD_eq_getElem?_getD]
    by_cases ht:t<caps.length+1
    · rw [if_pos (by simp;omega),List.getElem?_toArray]
      cases t with
      | zero=>exact .pure (.raw _)
      | succ t =>
        have h1:caps[t]?=some caps[t]:=List.getElem?_eq_getElem (by omega)
        have h2:cs[t]?=some cs[t]:=List.getElem?_eq_getElem (by omega)
        rw [List.getElem?_cons_succ,List.getElem?_cons_succ,h1,h2]
        exact .pure (hv t _ _ h1 h2)
    · rw [if_neg (by simp;omega),List.getElem?_eq_none (by simp;omega)]
      have:∀q,(Array.replicate q undef)[t - (Value.func (.yield l) #[] #[]::cs).toArray.size]?.getD undef=undef:=by
        intro q
        rw [Array.getElem?_replicate]
        split <;> rfl
      rw [this]
      exact .pure (.tup [] [] rfl (by simp))
  have hsd:Sd F W F (fun _=>none) (st0 (.raw (.func (.yield l) #[] #[])::caps)).σ { tmps:=(Value.func (.yield l) #[] #[]::cs).toArray++Array.replicate (fn.ntmps - (Value.func (.yield l) #[] #[]::cs).toArray.size) undef,defers:=[] } (fun _=>False) :=
    ⟨fun b ⟨_,_,_,_,h,_⟩=>(by cases h),fun b hb=>.inl hb,fun b hb=>hb,fun b hb=>hb.elim,fun D hD=>by cases hD⟩
  refine (callsIn_wide (n:=0)).1 (callsIn_of_wp_marks hf hb trivial (wpIn_mono (h F l J hJ hy W F _ _ _ hr hsd hj) ?_))
  rintro e a' W' ⟨F',μ',s',p',M',⟨he,hp⟩,hr',hd',hj'⟩
  have key:LeavesInM Fence.wide 0 P fn a'.tmps (fun e W'=>(∃v,e = .returned v)/\∃M,J none M W'\/∃pre,Fin pre/\J (some pre) M W') a'.defers .returning W':=by
    obtain ⟨Ds,h1,h2,h3⟩:=hr'.defers
    rw [h2]
    refine leaves_marks Ds W' h1 (fun D hD=>(h3 D hD).1) ⟨_,results_none hres _ _ _,⟨_,rfl⟩,M',?_⟩
    have hkp:=shut_kp Ds W'
    have hjs:J p' M' (shut Ds W'):=hJ p' M' M' W' _ hj' (hkp.mono fun k _ hk=>hd'.df k (by rw [h2];exact List.mem_map_of_mem hk)) (fun b hb=>hb) (fun b hb=>.inl hb)
    rcases hp with rfl | ⟨pre,rfl,hfin⟩
    · exact .inl hjs
    · exact .inr ⟨pre,hfin,hjs⟩
  rcases he with rfl | rfl <;> exact key
end Go.Proofs.YtoaibdbehlcnfaaGreat.Sm
end
section
namespace Go.Proofs.YtoaibdbehlcnfaaGreat.Sm
open Go.RowKit
def AV.nof:AV->Bool
 | .b _ | .i _ _ | .u _ | .y _ | .s _ | .raw _ | .any=>true
 | .own id _ _ | .el id _ _ _ | .row id _ _ _ | .ref id _ _=>Nat.blt id 900
 | _=>false
theorem blt_lt {a b:Nat} (h:Nat.blt a b=true):a<b:=Nat.le_of_ble_eq_true h
theorem nof_rel {W:World} {F F':Nat->Prop} {μ μ':Mu} {σ σ':Sto} (hσ:∀id,id<900->σ' id=σ id/\μ' id=μ id) {x:AV} {v:Value} (h:x.nof=true) (hx:Rel W F μ σ x v):Rel W F' μ' σ' x v:=by
 cases hx with
 | pure hp=>cases hp <;> first | (simp [AV.nof] at h;done) | (exact .pure (by constructor))
 | own id ep off v he h1 hv =>
  obtain ⟨e1,e2⟩:=hσ id (blt_lt h)
  exact .own id ep off v (by rw [e1];exact he) h1 fun bd hb=>by rw [e2];exact hv bd (e1 ▸ hb)
 | el id ep k j v he h1 hv =>
  obtain ⟨e1,e2⟩:=hσ id (blt_lt h)
  exact .el id ep k j v (by rw [e1];exact he) h1 fun bd m len hb hL=>by rw [e2];exact hv bd m len (e1 ▸ hb) hL
 | row id ep off n v he h1 hv =>
  obtain ⟨e1,e2⟩:=hσ id (blt_lt h)
  exact .row id ep off n v (by rw [e1];exact he) h1 fun bd m len hb hL=>by rw [e2];exact hv bd m len (e1 ▸ hb) hL
 | ref id ep k v he h1 hv =>
  obtain ⟨e1,e2⟩:=hσ id (blt_lt h)
  exact .ref id ep k v (by rw [e1];exact he) h1 fun bd hb=>by rw [e2];exact hv bd (e1 ▸ hb)
 | agg=>simp [AV.nof] at h
 | tup=>simp [AV.nof] at h
 | fn=>simp [AV.nof] at h
 | any v=>exact .any v
def Body.nof:Body->Bool
 | .box _ cs=>cs.all AV.nof
 | .row _ _ els=>els.all fun cs=>cs.all AV.flat1
 | .obj _=>true
 | .nest _ els=>els.all AV.nof
 | .ghost _ _ _=>false
theorem nofB_rel {W:World} {F F':Nat->Prop} {μ μ':Mu} {σ σ':Sto} (hσ:∀id,id<900->σ' id=σ id/\μ' id=μ id) {p:Option (Nat × Nat)} {bd:Body} (h:bd.nof=true) (hb:BodyRel W F μ σ p bd):BodyRel W F' μ' σ' p bd:=by
 cases bd with
 | box t cs =>
  obtain ⟨b,c,vs,hp,hh,hl,hr⟩:=hb
  exact ⟨b,c,vs,hp,hh,hl,fun j x v h1 h2=>⟨(hr j x v h1 h2).1,nof_rel hσ (List.all_eq_true.1 h x (List.mem_of_getElem? h1)) (hr j x v h1 h2).2⟩⟩
 | row t m els =>
  rcases hb with hb | ⟨b,cap,cur,hp,hh,h1,h2,h3,h4,h5⟩
  ·exact .inl hb
  ·refine .inr ⟨b,cap,cur,hp,hh,h1,h2,h3,h4,fun k cs j x g1 g2=>?_⟩
   obtain ⟨q1,v,q2,q3⟩:=h5 k cs j x g1 g2
   exact ⟨q1,v,q2,flat1_rel (List.all_eq_true.1 (List.all_eq_true.1 h cs (List.mem_of_getElem? g1)) x (List.mem_of_getElem? g2)) q3⟩
 | ghost id ep q=>cases h
 | obj o=>exact hb
 | nest t els =>
  rcases hb with hb | ⟨b,cap,cur,hp,hh,h1,h2,h3,h5⟩
  ·exact .inl hb
  ·refine .inr ⟨b,cap,cur,hp,hh,h1,h2,h3,fun k x g1=>?_⟩
   obtain ⟨q1,v,q2,q3⟩:=h5 k x g1
   exact ⟨q1,v,q2,nof_rel hσ (List.all_eq_true.1 h x (List.mem_of_getElem? g1)) q3⟩
def nofSB (p:Nat × SB):Bool:=Nat.blt p.1 900 && match p.2.body with
 | some bd=>bd.nof
 | none=>true
theorem nofSB_ok {B:List (Nat × SB)} (h:B.all nofSB=true) {k:Nat} {bd:Body} (hb:(lkB B k).body=some bd):k<900/\bd.nof=true:=by
 obtain ⟨q,hq,rfl,e⟩:=lkB_some hb
 have:=List.all_eq_true.1 h q hq
 unfold nofSB at this
 rw [Bool.and_eq_true,e,hb] at this
 exact ⟨blt_lt this.1,this.2⟩
def slotB (ks:List Nat):AV->Bool
 | .own id ep _=>Nat.beq ep 0 && ks.any (Nat.beq id)
 | .ref id ep _=>Nat.beq ep 0 && ks.any (Nat.beq id)
 | x=>x.pu1
theorem any_beq {ks:List Nat} {id:Nat} (h:ks.any (Nat.beq id)=true):id∈ks:=by
 obtain ⟨k,hk,e⟩:=List.any_eq_true.1 h
 rw [Nat.eq_of_beq_eq_true e]
 exact hk
theorem slot_rel {W W':World} {F F':Nat->Prop} {μ μ':Mu} {σ σ':Sto} {ks:List Nat} (hF:∀b,F b->b<W.heap.size->W'.heap[b]?=W.heap[b]?/\F' b) (hk:∀id∈ks,μ' id=μ id/\∃bd,σ id=⟨0,some bd⟩) {x:AV} {v:Value} (h:slotB ks x=true) (hx:Rel W F μ σ x v):Rel W' F' μ' σ' x v:=by
 cases x with
 | own id ep off =>
  simp only [slotB,Bool.and_eq_true] at h
  obtain ⟨e1,bd0,e2⟩:=hk id (any_beq h.2)
  obtain rfl:ep=0:=Nat.eq_of_beq_eq_true h.1
  cases hx with
  | pure hp=>cases hp
  | own _ _ _ _ he h1 hv=>exact .own id 0 off v (Nat.zero_le _) h1 fun bd hb=>by rw [e1];exact hv bd0 e2
 | ref id ep k =>
  simp only [slotB,Bool.and_eq_true] at h
  obtain ⟨e1,bd0,e2⟩:=hk id (any_beq h.2)
  obtain rfl:ep=0:=Nat.eq_of_beq_eq_true h.1
  cases hx with
  | pure hp=>cases hp
  | ref _ _ _ _ he h1 hv=>exact .ref id 0 k v (Nat.zero_le _) h1 fun bd hb=>by rw [e1];exact hv bd0 e2
 | _=>exact .pure ((pu1_rel (by simpa only [slotB] using h) hx).keep (fun b h1 h2=>(hF b h1 h2).1) fun b h1 h2=>(hF b h1 h2).2)
theorem slot_T {ks:List Nat}:∀{T:List (Nat × AV)},T.all (fun p=>slotB ks p.2)=true->∀t,slotB ks (lkT T t)=true\/lkT T t = .any
 | [],_,t=>.inr rfl
 | p::T,h,t=>by
  rw [List.all_cons,Bool.and_eq_true] at h
  show slotB ks (cond (Nat.beq t p.1) p.2 (lkT T t))=true\/cond (Nat.beq t p.1) p.2 (lkT T t) = .any
  cases Nat.beq t p.1 with
  | true=>exact .inl h.1
  | false=>exact slot_T h.2 t
def prm (N:Nat):List Nat->List AV->(Nat->AV)->Nat->AV
 | t::ts,y::ys,f=>prm N ts ys (putS N f (some t) y)
 | _,_,f=>f
theorem prm_ok {W:World} {F:Nat->Prop} {μ:Mu} {σ:Sto} {N:Nat}:∀(ps:List Nat) (ys:List AV) (vs:List Value) (f:Nat->AV) (tm:Array Value),tm.size=N->ys.length=vs.length->(∀t,Rel W F μ σ (f t) (tm.getD t undef))->(∀(j:Nat) (y:AV) (v:Value),ys[j]?=some y->vs[j]?=some v->Rel W F μ σ y v) ->
  ((ps.zip vs).foldl (fun tmps (p:Nat × Value)=>tmps.setIfInBounds p.1 p.2) tm).size=N/\∀t,Rel W F μ σ (prm N ps ys f t) (((ps.zip vs).foldl (fun tmps (p:Nat × Value)=>tmps.setIfInBounds p.1 p.2) tm).getD t undef)
 | [],ys,vs,f,tm,hn,hl,h,_=>⟨hn,fun t=>h t⟩
 | p::ps,[],[],f,tm,hn,hl,h,_=>⟨hn,fun t=>h t⟩
 | p::ps,[],v::vs,f,tm,hn,hl,h,_=>by simp at hl
 | p::ps,y::ys,[],f,tm,hn,hl,h,_=>by simp at hl
 | p::ps,y::ys,v::vs,f,tm,hn,hl,h,hy=>by
  refine prm_ok ps ys vs (putS N f (some p) y) (tm.setIfInBounds p v) (by simpa using hn) (by simpa using hl) (fun t=>?_) (fun j y' v' h1 h2=>hy (j+1) y' v' h1 h2)
  rw [putS_eq]
  have:=getD_put { tmps:=tm,defers:=[] } (some p) v t
  simp only [Act.put,hn] at this
  rw [this]
  split
  ·exact hy 0 y v rfl rfl
  ·exact h t
theorem gl_slot {q:Nat->Option (Nat × Nat)} {ks:List Nat} {B:List (Nat × SB)} (hn:B.all nofSB=true) {W:World} {F:Nat->Prop} {μ:Mu} (hi:Inv W F μ (lkB B)) (hq:∀id∈ks,id<900/\q id=μ id):Inv W F (fun id=>if Nat.ble 900 id then none else μ id) (lkB (gl q ks B)):=by
  have lo:∀id,id<900->lkB (gl q ks B) id=lkB B id/\(if Nat.ble 900 id then none else μ id)=μ id:=fun id h=>⟨gl_lo h ks,by
    have:Nat.ble 900 id=false:=by
      cases e:Nat.ble 900 id
      · rfl
      · exact absurd (Nat.le_of_ble_eq_true e) (by omega)
    rw [this];rfl⟩
  have hi9:∀id,900<=id->(if Nat.ble 900 id then none else μ id)=(none:Option (Nat × Nat)):=fun id h=>by rw [Nat.ble_eq_true_of_le h];rfl
  have al:∀{id:Nat} {b c:Nat} {bd:Body},(lkB (gl q ks B) id).body=some bd->(if Nat.ble 900 id then none else μ id)=some (b,c)->(lkB B id).body=some bd/\μ id=some (b,c):=fun {id b c bd} h1 h2=>by
    by_cases h:id<900
    · rw [<- (lo id h).1,<- (lo id h).2];exact ⟨h1,h2⟩
    · rw [hi9 id (by omega)] at h2;cases h2
  refine ⟨fun id ep bd hb=>?_,fun b ⟨id,ep,bd,c,h1,h2⟩=>?_,fun id id' b c c' h1 h2 h3 h4=>?_,hi.old⟩
  · rcases gl_hi (show (lkB (gl q ks B) id).body=some bd by rw [hb]) with ⟨i,rfl,rfl⟩ | hB
    · have hin : i ∈ ks := by
        refine Classical.byContradiction fun hno=>?_
        have:∀ks':List Nat,i∉ks'->lkB (gl q ks' B) (900+i)=lkB B (900+i):=by
          intro ks'
          induction ks' with
          | nil=>intro _;rfl
          | cons a l ih =>
            intro h
            show cond (Nat.beq (900+i) (900+a)) _ (lkB (gl q l B) (900+i))=_
            rw [beq_f (fun e=>h (by rw [show i=a by omega];exact List.mem_cons_self))]
            exact ih fun h'=>h (List.mem_cons_of_mem _ h')
        rw [this ks hno] at hb
        have:=(nofSB_ok hn (show (lkB B (900+i)).body=some _ by rw [hb])).1
        omega
      refine ⟨hi9 _ (by omega),Nat.zero_le _,fun bd hbd=>?_⟩
      exact (lo i (hq i hin).1).2.trans (hq i hin).2.symm
    · obtain ⟨h1,h2⟩:=nofSB_ok hn hB
      have:=hi.body id (lkB B id).ep bd (by rw [<- hB])
      rw [(lo id h1).2]
      exact nofB_rel lo h2 this
  · obtain ⟨g1,g2⟩:=al (by rw [h1]) h2
    exact hi.apart b ⟨id,(lkB B id).ep,bd,c,by rw [<- g1],g2⟩
  · obtain ⟨bd,e1⟩:=Option.isSome_iff_exists.1 h1
    obtain ⟨bd',e2⟩:=Option.isSome_iff_exists.1 h2
    obtain ⟨g1,g2⟩:=al e1 h3
    obtain ⟨g3,g4⟩:=al e2 h4
    exact hi.inj id id' b c c' (by rw [g1];rfl) (by rw [g3];rfl) g2 g4
theorem gl_own {q:Nat->Option (Nat × Nat)} {ks:List Nat} {B:List (Nat × SB)} {μ:Mu} {b:Nat} (h:Own (fun id=>if Nat.ble 900 id then none else μ id) (lkB (gl q ks B)) b):Own μ (lkB B) b:=by
 obtain ⟨id,ep,bd,c,h1,h2⟩:=h
 by_cases h9:id<900
 ·have:Nat.ble 900 id=false:=by
   cases e:Nat.ble 900 id
   ·rfl
   ·exact absurd (Nat.le_of_ble_eq_true e) (by omega)
  replace h2:(if Nat.ble 900 id then none else μ id)=some (b,c):=h2
  rw [this] at h2
  rw [gl_lo h9] at h1
  exact ⟨id,ep,bd,c,h1,h2⟩
 ·replace h2:(if Nat.ble 900 id then none else μ id)=some (b,c):=h2
  rw [Nat.ble_eq_true_of_le (by omega)] at h2
  cases h2
abbrev onlyN (K:St->Prop):Exit->St->Prop:=thenA K fun _ _=>False
section
variable {α : Type} {P : Program} {N : Nat} {Q : Exit -> St -> Prop} {s : St} {g : Operand} {ps : Array Tmp} {assign body : Code} {f : FuncId} {caps ys : List AV} {enc : α -> List AV} {Nx : List α -> α -> Prop} {Fin : List α -> Prop}
def Rng (P:Program) (N:Nat) (W0:World) (F:Nat->Prop) (μ0:Mu) (σ0:Sto) (a:Act) (T:List (Nat × AV)) (G:List α->List (Nat × SB)) (rec:LoopState->Option Code->Loop):Option (List α)->(Nat->Prop)->World->Prop
 | none,_,_=>False
 | some pre,M,W=>∃μ,RS N W F μ (stL T (G pre)) { a with defers:={ target:=.collected W0.heap.size,args:=#[] }::a.defers }/\Stq W0 F μ0 σ0 W F μ (lkB (G pre))/\W.heap[W0.heap.size+1]?=some (.loop (rec .ready none)) /\
   (∀b,M b->W0.heap.size+2<=b)/\W0.heap.size+2<=W.heap.size/\(∀b,M b->¬Own μ (lkB (G pre)) b)/\¬Own μ (lkB (G pre)) (W0.heap.size+1)
theorem Rng.abd {W0:World} {F:Nat->Prop} {μ0:Mu} {σ0:Sto} {a:Act} {T:List (Nat × AV)} {G:List α->List (Nat × SB)} {rec:LoopState->Option Code->Loop} (hF:∀b,F b->b<W0.heap.size) (hds:∀D,({ target:=.collected D,args:=#[] }:Deferred)∈a.defers->D<W0.heap.size):Abd (Rng P N W0 F μ0 σ0 a T G rec):=by
  intro p M M' W1 W2 hj hk h1 h2
  cases p with
  | none=>exact hj
  | some pre =>
    obtain ⟨μ,hr,hs,hl,hm,hz,ho,hol⟩:=hj
    have nF:∀b,F b->¬M b:=fun b hb hM=>by have:=hF b hb;have:=hm b hM;omega
    have hr':RS N W2 F μ (stL T (G pre)) { a with defers:={ target:=.collected W0.heap.size,args:=#[] }::a.defers }:=by
      refine hr.heap hk.size (fun b hlt hb=>hk.block b hlt fun hM=>hb.elim (nF b · hM) (ho b hM)) (hr.defers.heap fun D hD=>?_)
      obtain ⟨e1,e2,e3⟩:=hr.defers.lt hD
      have hlt:=(Array.getElem?_eq_some_iff.1 e1).1
      refine hk.block D hlt fun hM=>?_
      have:=hm D hM
      rcases List.mem_cons.1 hD with e | e
      · obtain rfl:D=W0.heap.size:=by simpa using e
        omega
      · have:=hds D e
        omega
    refine ⟨μ,hr',⟨?_,hs.fro,hs.new,hs.own⟩,(hk.block _ (by omega) fun hM=>by have:=hm _ hM;omega).trans hl,fun b hb=>?_,Nat.le_trans hz hk.size,fun b hb=>?_,hol⟩
    · exact hs.kp.trans2 hk fun g hlt hM=>by have:=hm g hM;omega
    · rcases h2 b hb with h | h
      · exact hm b h
      · omega
    · rcases h2 b hb with h | h
      · exact ho b h
      · exact fun hown=>by have:=(hr.inv.apart b hown).1;omega
theorem BodyRel.toF {W:World} {F F':Nat->Prop} {μ:Mu} {σ:Sto} (hF:∀b,F b->F' b) {p:Option (Nat × Nat)} {bd:Body} (hb:BodyRel W F μ σ p bd):BodyRel W F' μ σ p bd:=by
 cases bd with
 | box t cs =>
  obtain ⟨b,c,vs,hp,hh,hl,hr⟩:=hb
  exact ⟨b,c,vs,hp,hh,hl,fun j x v h1 h2=>⟨(hr j x v h1 h2).1,(hr j x v h1 h2).2.toF hF⟩⟩
 | row t m els =>
  rcases hb with hb | ⟨b,cap,cur,hp,hh,h1,h2,h3,h4,h5⟩
  ·exact .inl hb
  ·refine .inr ⟨b,cap,cur,hp,hh,h1,h2,h3,h4,fun k cs j x g1 g2=>?_⟩
   obtain ⟨q1,v,q2,q3⟩:=h5 k cs j x g1 g2
   exact ⟨q1,v,q2,q3.to hF⟩
 | ghost id ep q=>exact hb
 | obj o=>exact hb
 | nest t els =>
  rcases hb with hb | ⟨b,cap,cur,hp,hh,h1,h2,h3,h5⟩
  ·exact .inl hb
  ·refine .inr ⟨b,cap,cur,hp,hh,h1,h2,h3,fun k x g1=>?_⟩
   obtain ⟨q1,v,q2,q3⟩:=h5 k x g1
   exact ⟨q1,v,q2,q3.toF hF⟩
theorem gl_nof {q:Nat->Option (Nat × Nat)} {ks:List Nat} {B:List (Nat × SB)} (hn:B.all nofSB=true) {W:World} {F F':Nat->Prop} {μ:Mu} {σ:Sto} {id:Nat} {bd:Body} (hb:(lkB (gl q ks B) id).body=some bd) {p:Option (Nat × Nat)} (h:BodyRel W F μ σ p bd):BodyRel W F' μ σ p bd:=by
 rcases gl_hi hb with ⟨i,rfl,rfl⟩ | hB
 ·exact h
 ·exact nofB_rel (fun id _=>⟨rfl,rfl⟩) (nofSB_ok hn hB).2 h
theorem AW.rangeFunc (hI : IDoes P f ys enc Nx Fin) (hg : s.ev g = .fn f [] caps) (hz : fzL s.σ 6 caps = some (ys, [])) (hps : ∀ x, (enc x).length = ps.size) (hrf : (hasRF assign || hasRF body) = false)
    (ks:List Nat) (T:List (Nat × AV)) (B:List α->List (Nat × SB)) (hT:WkT s (lkB (B [])) T) (hB:WkB s (lkB (B [])) (B [])) (hTs:T.all (fun p=>slotB ks p.2)=true)
    (hk:∀pre,∀id∈ks,id<900/\∃bd,lkB (B pre) id=⟨0,some bd⟩) (hn:∀pre,(B pre).all nofSB=true)
    (round:∀q pre x,Nx pre x->AW P N assign (onlyN fun s1=>AW P N body (onlyN fun s2=>WkB s2 (lkB (gl q ks (B (pre++[x])))) (gl q ks (B (pre++[x])))) s1) ⟨prm N ps.toList (enc x) (lkT T),lkB (gl q ks (B pre))⟩)
    (done:∀q pre,Fin pre->Q .normal (stL T (gl q ks (B pre)))):AW P N (.rangeFunc g ps assign body) Q s:=by
  intro W0 F μ0 a hr ro hro
  obtain rfl:=hro rfl
  obtain ⟨rf1,rf2⟩:hasRF assign=false/\hasRF body=false:=by simpa using hrf
  have hgv:=hr.ev g
  rw [hg] at hgv
  obtain ⟨fs,cs,hge,hfl,hcl,-,hcr⟩:=hgv.fn'
  obtain rfl:fs=[]:=List.length_eq_zero_iff.1 hfl
  have hcap:=(fzL_ok hz).rel (W:=W0) (F:=F) (μ:=μ0) hr.inv hcl hcr
  have hcap2:∀(j:Nat) (x:AV) (v:Value),ys[j]?=some x->cs[j]?=some v->PRel W0 F x v:=fun j x v h1 h2=>(hcap.2 j x v h1 h2).to fun b hb=>hb.elim (fun h=>h) fun ⟨_,h,_⟩=>by cases h
  have hF0:=hr.inv.old
  have hds:∀D,({ target:=.collected D,args:=#[] }:Deferred)∈a.defers->D<W0.heap.size:=fun D hD=>(Array.getElem?_eq_some_iff.1 (hr.defers.lt hD).1).1
  -- the state is told anew, with ghosts
  have hwk:Wk s (stL T (B [])):=⟨fun t=>wkT_ok hT t,wkB_ok hB⟩
  have hr1:=hwk.rs hr
  obtain ⟨q,hq⟩:∃q:Nat->Option (Nat × Nat),∀id,q id=μ0 id:=⟨μ0,fun _=>rfl⟩
  have hi1:=gl_slot (ks:=ks) (q:=q) (hn []) hr1.inv fun id hid=>⟨(hk [] id hid).1,hq id⟩
  have ho1:∀b,Own (fun id=>if Nat.ble 900 id then none else μ0 id) (lkB (gl q ks (B []))) b->Own μ0 s.σ b:=fun b hb=>hwk.own (gl_own hb)
  have hs1:Stq W0 F μ0 s.σ W0 F (fun id=>if Nat.ble 900 id then none else μ0 id) (lkB (gl q ks (B []))):=⟨Kp.refl _ _,fun _ h=>h,fun _ h=>.inl h,fun b hb=>.inl (ho1 b hb)⟩
  have hmu:∀id∈ks,(if Nat.ble 900 id then none else μ0 id)=μ0 id:=fun id hid=>by
    have h9:=(hk [] id hid).1
    have:Nat.ble 900 id=false:=by
      cases e:Nat.ble 900 id
      · rfl
      · exact absurd (Nat.le_of_ble_eq_true e) (by omega)
    rw [this];rfl
  have ht1:∀t,Rel W0 F (fun id=>if Nat.ble 900 id then none else μ0 id) (lkB (gl q ks (B []))) (lkT T t) (a.tmps.getD t undef):=fun t=>by
    rcases slot_T hTs t with h | h
    · exact slot_rel (μ:=μ0) (σ:=lkB (B [])) (fun b h1 h2=>⟨rfl,h1⟩) (fun id hid=>⟨hmu id hid,(hk [] id hid).2⟩) h (hr1.ts t)
    · rw [h];exact .any _
  generalize (fun id=>if Nat.ble 900 id then none else μ0 id)=μ1 at hi1 ho1 hs1 ht1
  have hr2:RS N W0 F μ1 (stL T (gl q ks (B []))) a:=⟨ht1,hr.defers.go hs1,hr.n,hi1⟩
  refine wpIn_rangeFunc ?_
  intro fn hfn
  obtain ⟨rec,hrec⟩:∃rec:LoopState->Option Code->Loop,rec=fun st pe=>{ state:=st,pending:=pe,fn,tmps:=a.tmps,params:=ps,assign,body,defers:=W0.heap.size }:=⟨_,rfl⟩
  obtain ⟨W1,hW1⟩:∃W1,(W0.alloc (.deferred (some []))).alloc (.loop (rec .ready none))=W1:=⟨_,rfl⟩
  have hz1:W1.heap.size=W0.heap.size+2:=by rw [<- hW1];simp
  have hL1:W1.heap[W0.heap.size+1]?=some (.loop (rec .ready none)):=by
    rw [<- hW1];have:=World.alloc_heap_new (W0.alloc (.deferred (some []))) (.loop (rec .ready none));rwa [World.size_alloc] at this
  have hK1:W1.heap[W0.heap.size]?=some (.deferred (some [])):=by
    rw [<- hW1];exact (Below.heap_alloc _ _ _ (by simp)).trans (World.alloc_heap_new W0 _)
  have hk1:Kp No W0 W1:=by rw [<- hW1];exact ((Kp.refl No W0).alloc _).alloc _
  have hr3:RS N W1 F μ1 (stL T (gl q ks (B []))) { a with defers:={ target:=.collected W0.heap.size,args:=#[] }::a.defers }:=by
    refine hr2.heap hk1.size (fun b hlt _=>hk1.block b hlt fun h=>h) ?_
    obtain ⟨Ds,d1,d2,d3⟩:=hr2.defers
    refine ⟨W0.heap.size::Ds,List.nodup_cons.2 ⟨fun h=>?_,d1⟩,by rw [List.map_cons,d2],fun D hD=>?_⟩
    · have:=(Array.getElem?_eq_some_iff.1 (d3 _ h).1).1
      omega
    · rcases List.mem_cons.1 hD with rfl | h
      · exact ⟨hK1,fun h=>by have:=hF0 _ h;omega,fun h=>by have:=(hi1.apart _ h).1;omega⟩
      · have hlt:=(Array.getElem?_eq_some_iff.1 (d3 _ h).1).1
        exact ⟨(hk1.block D hlt fun h=>h).trans (d3 D h).1,(d3 D h).2⟩
  obtain ⟨fn0,bd0,g1,g2,g3⟩:=hI.fn
  have eg:∀args w,(callFunc f args).run P w = .ok (.enter f args) w:=fun args w=>by
    have g3' : ¬ fn0.name = "runtime.NumGoroutine" := by simpa using g3
    simp [callFunc,program,g1,g2,g3',Sem.run]
  refine ⟨W0.heap.size+1,[{ target:=.collected W0.heap.size,args:=#[] }],W1,{ target:=.fn (.func f) cs.toArray,args:=#[.func (.yield (W0.heap.size+1)) #[] #[]] },W1,f,
    #[.func (.yield (W0.heap.size+1)) #[] #[]]++cs.toArray,W1,?_,?_,fun _ _=>trivial,?_,fun e=>(by cases e),?_⟩
  · rw [<- hW1,hrec];exact run_enterLoop_outer _ _ _ _ _
  · simp only [resolve,hge]
    simp [go_sem]
  · simp [invoke,go_sem,eg]
  · have hj0 : Rng P N W0 F μ0 s.σ a T (fun pre => gl q ks (B pre)) rec (some []) (fun _ => False) W1 :=
      ⟨μ1,hr3,⟨hk1.mono fun k _ h=>h.elim,hs1.fro,fun b hb=>(hs1.new b hb),hs1.own⟩,hL1,fun b h=>h.elim,by omega,fun b h=>h.elim,fun h=>by have:=(hi1.apart _ h).1;omega⟩
    have hcall:=hI.calls W1 F cs (hcap.1.symm) (fun j x v h1 h2=>(hcap2 j x v h1 h2).keep (fun b _ hlt=>hk1.block b hlt fun h=>h) fun b hb _=>hb) (fun b hb=>by have:=hF0 b hb;omega) (W0.heap.size+1) _ (Rng.abd (P:=P) (N:=N) (μ0:=μ0) (σ0:=s.σ) (T:=T) (G:=fun pre=>gl q ks (B pre)) (rec:=rec) hF0 hds) ?_ hj0
    · have e0:#[Value.func (.yield (W0.heap.size+1)) #[] #[]]++cs.toArray=(Value.func (.yield (W0.heap.size+1)) #[] #[]::cs).toArray:=by simp
      rw [e0]
      refine ((callsR none).2 hcall).mono ?_
      rintro e W2 ⟨⟨v,rfl⟩,M,hj | ⟨pre,hfin,μ2,hr4,hs4,hl4,hm4,hz4,hom,hol⟩⟩
      · exact hj.elim
      · have hend:=run_endLoop (P:=P) hl4 (by rw [hrec];simp)
        refine ⟨none,W2.putObj (W0.heap.size+1) (.loop { rec .ready none with state:=.exhausted }),by rw [hrec] at hend ⊢;exact hend,?_⟩
        have hkl:∀b,b≠W0.heap.size+1->(W2.putObj (W0.heap.size+1) (.loop { rec .ready none with state:=.exhausted })).heap[b]?=W2.heap[b]?:=fun b h=>World.putObj_heap_other h
        refine ⟨F,μ2,_,done q pre hfin,?_,⟨⟨?_,hs4.fro,hs4.new,hs4.own⟩,fun d hd=>?_⟩⟩
        · have := hr4.heap (W' := W2.putObj (W0.heap.size + 1) (.loop { rec .ready none with state := .exhausted })) (by simp) (fun b hlt hb => hkl b fun e => by
            subst e
            rcases hb with hb | hb
            · have:=hF0 _ hb;omega
            · exact hol hb) (hr4.defers.heap fun D hD=>hkl D fun e=>by
              subst e
              rw [(hr4.defers.lt hD).1] at hl4
              cases hl4)
          exact this
        · refine hs4.kp.trans2 (S':=fun b=>b=W0.heap.size+1) ⟨rfl,rfl,rfl,by simp,fun b _ h=>hkl b h⟩ fun g hlt e=>?_
          omega
        · rcases List.mem_cons.1 hd with rfl | h
          · exact .inr ⟨_,rfl,Nat.le_refl _⟩
          · exact .inl h
    · -- one round
      rintro pre x M W vs ⟨μk,hrk,hsk,hlk,hmk,hzk,homk,holk⟩ hnx hMlt hvl hvr
      have hsize:vs.toArray.size=(rec .ready none).params.size:=by rw [hrec];simp [hvl,hps x]
      have hy:=run_yield (P:=P) (args:=vs.toArray) hlk hsize
      refine ⟨_,_,_,_,hy,?_⟩
      subst hrec
      have hlt:W0.heap.size+1<W.heap.size:=by omega
      have nM:¬M (W0.heap.size+1):=fun h=>by have:=hmk _ h;omega
      have nF:¬F (W0.heap.size+1):=fun h=>by have:=hF0 _ h;omega
      refine roundIn_of_wpIn trivial ?_
      have hpr:=prm_ok (W:=W) (F:=fun b=>F b\/M b) (μ:=μk) (σ:=lkB (gl q ks (B pre))) ps.toList (enc x) vs (lkT T) a.tmps hrk.n hvl.symm (fun t=>(hrk.ts t).toF fun b hb=>.inl hb) (fun j y v h1 h2=>.pure (hvr j y v h1 h2))
      have hfold:(ps.zip vs.toArray).foldl (fun tmps (t,a)=>tmps.setIfInBounds t a) a.tmps=(ps.toList.zip vs).foldl (fun tmps (p:Nat × Value)=>tmps.setIfInBounds p.1 p.2) a.tmps:=by
        rw [<- Array.foldl_toList,Array.toList_zip]
      show Code.wpIn _ _ _ _ _ { tmps:=(ps.zip vs.toArray).foldl (fun tmps (t,a)=>tmps.setIfInBounds t a) a.tmps,defers:=[] } W
      rw [hfold]
      generalize (ps.toList.zip vs).foldl (fun tmps (p:Nat × Value)=>tmps.setIfInBounds p.1 p.2) a.tmps=tm at hpr
      have hrX:RS N W (fun b=>F b\/M b) μk ⟨prm N ps.toList (enc x) (lkT T),lkB (gl q ks (B pre))⟩ { tmps:=tm,defers:=[] } :=
        ⟨hpr.2,.nil,hpr.1,⟨fun id ep bd hb=>(hrk.inv.body id ep bd hb).toF fun b hb=>.inl hb,fun b hb=>⟨(hrk.inv.apart b hb).1,fun h=>h.elim (hrk.inv.apart b hb).2 fun hm=>homk b hm hb⟩,hrk.inv.inj,fun b hb=>hb.elim (hrk.inv.old b) (hMlt b)⟩⟩
      refine wpIn_mono (round q pre x hnx W _ μk _ hrX (some (W0.heap.size+1)) (fun h=>by rw [rf1] at h;cases h)) ?_
      rintro e a1 w1 ⟨F1,μa,s1,hq1,hra,hsa⟩
      cases e with
      | normal =>
        have hl1:=(hsa.kp.block _ hlt holk).trans hlk
        have nO1:¬Own μa s1.σ (W0.heap.size+1):=fun h=>by
          rcases hsa.own _ h with h | h
          · exact holk h
          · omega
        have nF1:¬F1 (W0.heap.size+1):=fun h=>by
          rcases hsa.new _ h with (h | h) | h | h
          · exact nF h
          · exact nM h
          · exact holk h
          · omega
        refine ⟨_,run_beginRound hl1 rfl,?_⟩
        generalize hw2:w1.putObj (W0.heap.size+1) _=w2
        have hkl:∀b,b≠W0.heap.size+1->w2.heap[b]?=w1.heap[b]?:=fun b h=>by rw [<- hw2];exact World.putObj_heap_other h
        have hz2:w2.heap.size=w1.heap.size:=by rw [<- hw2];simp
        have hl2:w2.heap[W0.heap.size+1]?=some (.loop { state:=.busy,pending:=none,fn,tmps:=a.tmps,params:=ps,assign,body,defers:=W0.heap.size }):=by
          rw [<- hw2];exact World.putObj_heap_same (Array.getElem?_eq_some_iff.1 hl1).1
        have hkp2:Kp (fun b=>b=W0.heap.size+1) w1 w2:=by rw [<- hw2];exact ⟨rfl,rfl,rfl,by simp,fun b _ h=>World.putObj_heap_other h⟩
        have hrb:RS N w2 F1 μa s1 a1:=hra.heap (by omega) (fun b _ hb=>hkl b fun e=>by subst e;exact hb.elim nF1 nO1) (hra.defers.heap fun D hD=>hkl D fun e=>by
          subst e
          rw [(hra.defers.lt hD).1] at hl1
          cases hl1)
        refine wpIn_mono (hq1 w2 F1 μa a1 hrb (some (W0.heap.size+1)) (fun h=>by rw [rf2] at h;cases h)) ?_
        rintro e a3 W3 ⟨F3,μ3,s3,hq3,hr3,hs3⟩
        cases e with
        | normal =>
          have hsz1:=hsa.kp.size
          have hsz3:=hs3.kp.size
          have hl3:=(hs3.kp.block _ (by omega) nO1).trans hl2
          -- from the round's beginning to its end
          have own3:∀b,Own μ3 s3.σ b->Own μk (lkB (gl q ks (B pre))) b\/W.heap.size<=b:=fun b hb=>by
            rcases hs3.own b hb with h | h
            · exact hsa.own b h
            · exact .inr (by omega)
          have kp3:Kp (fun b=>Own μk (lkB (gl q ks (B pre))) b\/b=W0.heap.size+1) W W3:=by
            refine (hsa.kp.mono fun k _ h=>.inl h).trans2 ((hkp2.mono fun k _ h=>.inl h).trans2 (S':=Own μa s1.σ) (S:=fun b=>b=W0.heap.size+1\/Own μa s1.σ b) hs3.kp fun g _ h=>.inr h) fun g hlt' h=>?_
            rcases h with h | h
            · exact .inr h
            · rcases hsa.own g h with h | h
              · exact .inl h
              · omega
          have hw3:Wk s3 ⟨fun _=>.any,lkB (gl q ks (B (pre++[x])))⟩:=⟨fun _=>.any _,wkB_ok hq3⟩
          have hr3':=hw3.rs hr3
          have own3':∀b,Own μ3 (lkB (gl q ks (B (pre++[x])))) b->Own μk (lkB (gl q ks (B pre))) b\/W.heap.size<=b:=fun b hb=>own3 b (hw3.own hb)
          have fF:∀b,F b->F3 b:=fun b hb=>hs3.fro b (hsa.fro b (.inl hb))
          have hinv:Inv W3 F μ3 (lkB (gl q ks (B (pre++[x])))):=⟨fun id ep bd hb=>gl_nof (hn _) (show (lkB (gl q ks (B (pre++[x]))) id).body=some bd by rw [show lkB (gl q ks (B (pre++[x]))) id=_ from hb]) (hr3'.inv.body id ep bd hb),fun b hb=>⟨(hr3'.inv.apart b hb).1,fun h=>(hr3'.inv.apart b hb).2 (fF b h)⟩,hr3'.inv.inj,fun b hb=>hr3'.inv.old b (fF b hb)⟩
          have mu3:∀id∈ks,μ3 id=μk id:=fun id hid=>by
            have h1:=hrk.inv.body (900+id) 0 (.ghost id 0 (q id)) (gl_at hid)
            have h3:=hinv.body (900+id) 0 (.ghost id 0 (q id)) (gl_at hid)
            obtain ⟨h9,bd0,e0⟩:=hk pre id hid
            obtain ⟨_,bd1,e1⟩:=hk (pre++[x]) id hid
            have q1:=h1.2.2 bd0 ((gl_lo h9 ks).trans e0)
            have q3:=h3.2.2 bd1 ((gl_lo h9 ks).trans e1)
            rw [q1,q3]
          have nFk:∀b,F b->b<W.heap.size->W3.heap[b]?=W.heap[b]?/\F b:=fun b hb hlt'=>⟨kp3.block b hlt' fun h=>by
            rcases h with h | h
            · exact (hrk.inv.apart b h).2 hb
            · subst h;exact nF hb,hb⟩
          have hts:∀t,Rel W3 F μ3 (lkB (gl q ks (B (pre++[x])))) (lkT T t) (a.tmps.getD t undef):=fun t=>by
            rcases slot_T hTs t with h | h
            · refine slot_rel (μ:=μk) (σ:=lkB (gl q ks (B pre))) nFk (fun id hid=>⟨mu3 id hid,?_⟩) h (hrk.ts t)
              obtain ⟨h9,bd0,e0⟩:=hk pre id hid
              exact ⟨bd0,(gl_lo h9 ks).trans e0⟩
            · rw [h];exact .any _
          have hrJ:RS N W3 F μ3 (stL T (gl q ks (B (pre++[x])))) { a with defers:={ target:=.collected W0.heap.size,args:=#[] }::a.defers }:=by
            refine ⟨hts,?_,hr.n,hinv⟩
            obtain ⟨Ds,d1,d2,d3⟩:=hrk.defers
            refine ⟨Ds,d1,d2,fun D hD=>?_⟩
            obtain ⟨e1,e2,e3⟩:=d3 D hD
            have hDl:=(Array.getElem?_eq_some_iff.1 e1).1
            refine ⟨(kp3.block D hDl fun h=>?_).trans e1,e2,fun h=>?_⟩
            · rcases h with h | h
              · exact e3 h
              · subst h;rw [hlk] at e1;cases e1
            · rcases own3' D h with h | h
              · exact e3 h
              · omega
          have hend:=run_endRound (P:=P) none hl3
          have nO3:¬Own μ3 (lkB (gl q ks (B (pre++[x])))) (W0.heap.size+1):=fun h=>by
            rcases own3' _ h with h | h
            · exact holk h
            · omega
          refine ⟨_,_,hend,true,rfl,⟨μ3,?_,?_,?_,hmk,?_,fun b hM hb=>?_,nO3⟩,?_⟩
          · refine hrJ.heap (by simp) (fun b _ hb=>World.putObj_heap_other fun e=>?_) (hrJ.defers.heap fun D hD=>World.putObj_heap_other fun e=>?_)
            · subst e
              exact hb.elim nF nO3
            · subst e
              rw [(hrJ.defers.lt hD).1] at hl3
              cases hl3
          · refine ⟨hsk.kp.trans2 (S':=fun b=>Own μk (lkB (gl q ks (B pre))) b\/b=W0.heap.size+1) (kp3.trans2 (S':=fun b=>b=W0.heap.size+1) ⟨rfl,rfl,rfl,by simp,fun b _ h=>World.putObj_heap_other h⟩ fun g _ h=>.inr h) fun g hlt' h=>?_,fun b hb=>hb,fun b hb=>.inl hb,fun b hb=>?_⟩
            · rcases h with h | h
              · rcases hsk.own g h with h | h
                · exact h
                · omega
              · omega
            · rcases own3' b hb with h | h
              · exact hsk.own b h
              · exact .inr (by omega)
          · exact World.putObj_heap_same (Array.getElem?_eq_some_iff.1 hl3).1
          · rw [show ∀(W:World) (l:Nat) (o:Obj),(W.putObj l o).heap.size=W.heap.size from fun _ _ _=>by simp]
            omega
          · rcases own3' b hb with h | h
            · exact homk b hM h
            · have:=hMlt b hM
              omega
          · refine (kp3.mono (S':=fun b=>¬F b/\¬M b) fun b hb h=>?_).trans2 (S':=fun b=>b=W0.heap.size+1) ⟨rfl,rfl,rfl,by simp,fun b _ h=>World.putObj_heap_other h⟩ fun g _ h=>?_
            · rcases h with h | h
              · exact ⟨(hrk.inv.apart b h).2,fun hM=>homk b hM h⟩
              · subst h;exact ⟨nF,nM⟩
            · subst h;exact ⟨nF,nM⟩
        | _=>exact hq3.elim
      | _=>exact hq1.elim
end
end Go.Proofs.YtoaibdbehlcnfaaGreat.Sm
end
section
namespace Go.Proofs.YtoaibdbehlcnfaaGreat.Sm
open Go.RowKit
theorem d_rsound (c:Cf) (V:Int):PDoes Tryz.prog 65 [.agg (cCf c),.i .i64 V] (.i .i64 (malE c V)):=by
  refine PDoes.of_bodyN Tryz.func65 rfl (by kernel_rfl) rfl rfl ?_
  by_cases h0:c.sound=0
  rotate_left
  · have e:malE c V=c.sound:=by rw [malE,if_neg h0]
    rw [e]
    refine jA ?_
    refine RG.callS rfl rfl rfl rfl rfl (d_CSound c) rfl rfl ?_;refine wH rfl ?_;refine jA ?_
    refine AW.cond rfl (fun h=>?_) (fun h=>?_)
    rotate_left
    · exact absurd (by simpa using h) h0
    refine jA ?_
    refine AW.ret (retQA ty_ok rfl rfl rfl ?_)
    rfl
  have hCS:=d_CSound c
  rw [h0] at hCS
  refine jA ?_
  refine RG.callS rfl rfl rfl rfl rfl hCS rfl rfl ?_;refine wH rfl ?_;refine jA ?_
  refine AW.condF rfl ?_;refine jB ?_
  refine AW.text ?_
  by_cases g1:V<0
  · refine RG.runO ty_ok 0 [(12,.b true)] 400 rfl jD ?_
    have e:malE c V=4:=by rw [malE,if_pos h0,if_pos (by omega)]
    rw [e]
    refine jB ?_;refine AW.condT rfl ?_;refine jA ?_
    refine AW.ret (retQA ty_ok rfl rfl rfl ?_)
    rfl
  · by_cases g2:V>255
    · refine RG.runO ty_ok 0 [(12,.b false),(15,.b true)] 400 rfl jD ?_
      have e:malE c V=4:=by rw [malE,if_pos h0,if_pos (by omega)]
      rw [e]
      refine jB ?_;refine AW.condT rfl ?_;refine jA ?_
      refine AW.ret (retQA ty_ok rfl rfl rfl ?_)
      rfl
    · refine RG.runO ty_ok 0 [(12,.b false),(15,.b false)] 400 rfl jD ?_
      have e:malE c V=0:=by rw [malE,if_pos h0,if_neg (by omega)]
      rw [e]
      refine jB ?_;refine AW.condF rfl ?_;refine jA ?_
      refine AW.ret (retQA ty_ok rfl rfl rfl ?_)
      rfl
def lookE (c:Cf) (V:Int):Int:=bif decide (malE c V=0) then (bif decide ((askedOf c V).length>500) then 10 else (atomsOf (sortG (askedOf c V))).2) else malE c V
def lookA (c:Cf) (V:Int):List Atom:=(atomsOf (sortG (askedOf c V))).1
def cLk (c:Cf) (V:Int) (list:List Atom):List AV:=cCf c++[.i .i64 V,.sl (list.map cAtom)]
def lookR (c:Cf) (V:Int):AV:=bif decide (lookE c V=0) then .tup [.ro (cLk c V (lookA c V)),.i .i64 0] else .tup [.raw (.pointer none),.i .i64 (lookE c V)]
theorem d_look (c:Cf) (V:Int) (hL:c.Lens):PDoes Tryz.prog 57 [.agg (cCf c),.i .i64 V] (lookR c V):=by
  refine PDoes.of_bodyN Tryz.func57 rfl (by kernel_rfl) rfl rfl ?_
  rw [lookR]
  have hm:=d_rsound c V
  by_cases h1:malE c V=0
  rotate_left
  · have e:lookE c V=malE c V:=by rw [lookE,decide_eq_false h1];rfl
    rw [e,decide_eq_false h1]
    refine jA ?_
    refine RG.callS rfl rfl rfl rfl rfl hm rfl rfl ?_;refine wH rfl ?_;refine jA ?_
    refine AW.cond rfl (fun h=>?_) (fun h=>?_)
    rotate_left
    · exact absurd (by simpa using h) h1
    refine jA ?_
    refine AW.ret (retQA ty_ok rfl rfl rfl ?_)
    rfl
  have e:lookE c V=bif decide ((askedOf c V).length>500) then 10 else (atomsOf (sortG (askedOf c V))).2:=by rw [lookE,decide_eq_true h1];rfl
  rw [h1] at hm
  rw [malE] at h1
  split at h1
  · rename_i h0
    split at h1
    · cases h1
    rename_i hV
    obtain ⟨v,rfl⟩:∃v:Nat,V=v:=⟨V.toNat,by omega⟩
    have hV:v<=255:=by omega
    have hOf:=d_OfG c v hV h0 hL
    rw [ofR] at hOf
    refine jA ?_
    refine RG.callS rfl rfl rfl rfl rfl hm rfl rfl ?_;refine wH rfl ?_;refine jA ?_
    refine AW.condF rfl ?_;refine jA ?_
    by_cases h2:(askedOf c v).length>500
    · rw [decide_eq_true h2] at hOf e
      rw [e]
      refine RG.callMS rfl rfl rfl rfl rfl rfl hOf rfl ?_;refine wH rfl ?_;refine jA ?_
      refine AW.condT rfl ?_;refine jA ?_
      refine AW.ret (retQA ty_ok rfl rfl rfl ?_)
      rfl
    rw [decide_eq_false h2] at hOf e
    rw [cond_false] at e
    rw [e]
    refine RG.callMS rfl rfl rfl rfl rfl rfl hOf rfl ?_;refine wH rfl ?_;refine jA ?_
    refine AW.condF rfl ?_;refine jA ?_
    refine RG.callMS rfl rfl rfl rfl rfl rfl (d_Split (sortG (askedOf c v))) rfl ?_;refine wH rfl ?_;refine jA ?_
    refine AW.cond rfl (fun h3=>?_) (fun h3=>?_)
    · have h3:¬(atomsOf (sortG (askedOf c v))).2=0:=by simpa using h3
      rw [decide_eq_false h3,cond_false]
      refine jA ?_
      refine AW.ret (retQA ty_ok rfl rfl rfl ?_)
      rfl
    · have h3:(atomsOf (sortG (askedOf c v))).2=0:=by simpa using h3
      rw [decide_eq_true h3,cond_true]
      refine jA ?_
      refine AW.ret (retQA ty_ok rfl rfl rfl ?_)
      rfl
  · rename_i h0
    exact absurd h1 h0
end Go.Proofs.YtoaibdbehlcnfaaGreat.Sm
end
section
namespace Go.Proofs.YtoaibdbehlcnfaaGreat.Sm
open Go.RowKit
theorem d_runs (c:Cf) (v:Int) (list:List Atom) (s:Sp):PDoes Tryz.prog 69 [.ro (cLk c v list),.agg (cSp s)] (.fn 118 [] [.ro [.ro (cLk c v list)],.ro (cSp s)]):=by
 refine PDoes.of_bodyN Tryz.func69 rfl (by kernel_rfl) rfl rfl ?_
 refine jA ?_
 refine AW.ret (retQA ty_ok rfl rfl rfl ?_)
 rfl
def encR (c:Cf) (v:Int) (s:Sp) (list:List Atom) (k:Nat):List AV:=[.agg (cHd (list.getD k ⟨[],Hd.zero,[]⟩).head),.agg (cRun (runOf c s (list.getD k ⟨[],Hd.zero,[]⟩).head v 10800))]
theorem i_runs (c : Cf) (h0 : c.sound = 0) (hL : LooksOk c) (s : Sp) (hs : s ∈ edges c.topo.ports) (v : Nat) (hV : v <= 255) (list : List Atom) :
    IDoes Tryz.prog 118 [.ro [.ro (cLk c v list)],.ro (cSp s)] (encR c v s list) (fun pre k=>pre=List.range k/\k<list.length) (fun pre=>pre=List.range list.length):=by
  refine IDoes.of_body Tryz.func118 rfl (by kernel_rfl) rfl rfl rfl fun F0 l J hJ hy=>?_
  refine AWJ.fst hJ ?_
  refine jA ?_
  refine AWJ.block ?_
  refine AW.lensJ hJ 11 rfl fun hml=>?_
  rw [List.length_map] at hml
  refine AWJ.loopL (ι:=Nat) (fun k=>[(0,.raw (.func (.yield l) #[] #[])),(1,.ro [.ro (cLk c v list)]),(2,.ro (cSp s)),(11,.sl (list.map cAtom)),(12,.i .i64 (list.map cAtom).length),(13,.i .i64 (k:Nat))]) (fun _=>[]) (fun k=>some (List.range k)) (fun k=>k<=list.length) (fun k=>list.length - k) 0 (Nat.zero_le _) rfl ⟨Rn.is rfl rfl,Rn.is rfl rfl,Rn.is rfl rfl,Rn.is rfl rfl,Rn.is rfl rfl,Rn.is rfl rfl,trivial⟩ trivial fun k hk=>?_
  refine AWJ.fst hJ ?_
  refine jA ?_
  refine AWJ.fst hJ ?_
  refine AW.cond rfl (fun h2=>?_) (fun h2=>?_)
  rotate_left
  · have h:¬k<list.length:=by simpa using h2
    obtain rfl:k=list.length:=by omega
    refine AW.exit ?_
    refine Eq.mpr (if_pos rfl) ?_
    exact ⟨.inl rfl,.inr ⟨_,rfl,rfl⟩⟩
  have h:k<list.length:=by simpa using h2
  refine AW.skip ?_
  refine AWJ.seq (AWJ.block ?_)
  refine AWJ.fst hJ ?_
  refine AW.text ?_
  refine RG.opS rfl (op_index rfl (tk rfl) rfl (tk rfl) rfl rfl (show (list.map cAtom)[k]?=some (cAtom list[k]) by rw [List.getElem?_map,List.getElem?_eq_getElem (by assumption)];rfl) rfl) rfl ?_
  have hget:list.getD k ⟨[],Hd.zero,[]⟩=list[k]:=by rw [List.getD_eq_getElem?_getD,List.getElem?_eq_getElem h];rfl
  have henc:encR c v s list k=[.agg (cHd list[k].head),.agg (cRun (runOf c s list[k].head v 10800))]:=by rw [encR,hget]
  generalize list[k]=a at henc
  have hR:=d_Run c h0 hL s hs a.head v hV
  generalize runOf c s a.head v 10800=r at henc hR
  refine wH rfl ?_;refine jA ?_
  refine AWJ.fst hJ ?_
  refine jA ?_
  refine RG.callMS rfl rfl rfl rfl rfl rfl hR rfl ?_;refine wH rfl ?_;refine jA ?_
  refine AWJ.seq (AWJ.yield hJ hy 4 k ⟨rfl,h⟩ rfl rfl rfl ?_)
  refine wH rfl ?_
  refine RG.nil ⟨rfl,rfl,⟨_,_,rfl,?_⟩,fun go=>?_⟩
  · rw [henc];rfl
  refine wH rfl ?_
  refine RG.nil ?_
  cases go
  · refine AWJ.lift hJ (AW.cond rfl (fun _=>AW.ret ?_) (fun h=>by cases h))
    exact ⟨.inr rfl,.inl rfl⟩
  · refine AWJ.lift hJ (AW.cond rfl (fun h=>by cases h) (fun _=>AW.skip ?_))
    refine AWJ.lift hJ ?_
    refine jA ?_
    exact ⟨k+1,⟨h,by omega⟩,congrArg some List.range_succ.symm,⟨fun t=>wkT_ok (l:=[(0,.raw (.func (.yield l) #[] #[])),(1,.ro [.ro (cLk c v list)]),(2,.ro (cSp s)),(11,.sl (list.map cAtom)),(12,.i .i64 (list.map cAtom).length),(13,.i .i64 (k+1:Nat))]) ⟨Rn.is rfl rfl,Rn.is rfl rfl,Rn.is rfl rfl,Rn.is rfl rfl,Rn.is rfl rfl,Rn.is (i64_next h hml) rfl,trivial⟩ t,fun id bd' hb=>by cases hb⟩⟩
end Go.Proofs.YtoaibdbehlcnfaaGreat.Sm
end
section
namespace Go.Proofs.YtoaibdbehlcnfaaGreat.Sm
open Go.RowKit
theorem goF_at {c:Cf} (hc:c.Ok):∀(f n t:Nat) (h:Hd) (pre:List Hop),At c n t->((goF c f n t h pre).fin=2/\(goF c f n t h pre).at_∈edges c.topo.ports)\/((goF c f n t h pre).fin≠2/\(goF c f n t h pre).at_=Sp.zero)
 | 0,n,t,h,pre,_=>.inr ⟨show (4:Int)≠2 from by decide,rfl⟩
 | f+1,n,t,h,pre,hat=>by
  rw [goF]
  cases hq:fnd (tabOf c n t) h with
  | none=>exact .inr ⟨show (3:Int)≠2 from by decide,rfl⟩
  | some r =>
   obtain ⟨_,hr,_⟩:=fnd_lt hq
   dsimp only
   revert hr
   generalize (tabOf c n t).getD r Rl.zero=q
   intro hr
   by_cases k4:q.act.kind=4
   ·rw [if_pos k4]
    exact goF_at hc f _ _ _ _ (hat.goto hc hr k4)
   rw [if_neg k4]
   by_cases k3:q.act.kind=3
   ·rw [if_pos k3]
    exact goF_at hc f _ _ _ _ (hat.forward hc hr k3)
   rw [if_neg k3]
   by_cases k2:q.act.kind=2
   ·rw [if_pos k2]
    refine .inl ⟨rfl,?_⟩
    obtain ⟨h1,_⟩:=hat.rule hc hr
    obtain ⟨h3,h4,h5⟩:=Rl.does_deliver (Rl.sound_does h1).2.2 k2
    obtain ⟨a,ha⟩:=Int.eq_ofNat_of_zero_le h3
    rw [ha] at h4 h5 ⊢
    have hn:n<c.topo.ports.length:=by have:=hat.sw;have:=hc.len;omega
    have e1:c.topo.ports.getD n []=c.topo.ports[n]:=by rw [List.getD_eq_getElem?_getD,List.getElem?_eq_getElem hn];rfl
    rw [e1] at h4 h5
    have hlt:a<c.topo.ports[n].length:=by omega
    rw [Int.toNat_natCast,List.getD_eq_getElem?_getD,List.getElem?_eq_getElem hlt] at h5
    exact edges_mem.2 ⟨n,_,a,_,List.getElem?_eq_getElem hn,List.getElem?_eq_getElem hlt,h5,rfl⟩
   rw [if_neg k2]
   exact .inr ⟨show (1:Int)≠2 from by decide,rfl⟩
theorem runOf_at {c:Cf} (hc:c.Ok) {s:Sp} (hs:s∈edges c.topo.ports) (h:Hd) (v:Int) (most:Nat):((runOf c s h v most).fin=2/\(runOf c s h v most).at_∈edges c.topo.ports)\/((runOf c s h v most).fin≠2/\(runOf c s h v most).at_=Sp.zero):=by
 rw [runOf]
 obtain ⟨n,r,a,p,hr,hp,hk,rfl⟩:=edges_mem.1 hs
 refine goF_at hc _ _ _ _ _ (At.start hc ?_)
 have:=(List.getElem?_eq_some_iff.1 hr).1
 simp only [Int.toNat_natCast]
 omega
def Sp.small (s:Sp):Prop:=(0<=s.sw/\s.sw<=1000000)/\0<=s.port/\s.port<=1000000
theorem edges_small {t:List (List Pt)} (ht:topoSound t=0) {s:Sp} (h:s∈edges t):s.small:=by
 obtain ⟨n,r,a,p,hr,hp,_,rfl⟩:=edges_mem.1 h
 obtain ⟨_,h2,h3,_⟩:=topoSound_ok ht
 have:=(List.getElem?_eq_some_iff.1 hr).1
 have:=(List.getElem?_eq_some_iff.1 hp).1
 have:=h3 r (List.mem_of_getElem? hr)
 exact ⟨⟨by simp,by simp only [];omega⟩,by simp,by simp only [];omega⟩
theorem small_zero:Sp.zero.small:=⟨⟨by decide,by decide⟩,by decide,by decide⟩
def spV (s:Sp):Value:=.agg #[.int .i64 s.sw,.int .i64 s.port]
def hdV (h:Hd):Value:=.agg #[.int .u64 h.hi.toNat,.int .u64 h.lo.toNat]
def spEs (l:List (Sp × Hd)):Array MapEntry:=(l.zipIdx.map fun p=>⟨spV p.1.1,hdV p.1.2,p.2⟩).toArray
theorem spEs_push (l:List (Sp × Hd)) (c:Sp × Hd):(spEs l).push ⟨spV c.1,hdV c.2,l.length⟩=spEs (l++[c]):=by
 simp [spEs,List.zipIdx_append]
def mapS (l:List (Sp × Hd)):Body:=.obj (.map (spEs l) l.length)
theorem spV_inj {a b:Sp} (h:spV a=spV b):a=b:=by
 simp only [spV,Value.agg.injEq,Array.mk.injEq,List.cons.injEq,Value.int.injEq,true_and,and_true] at h
 obtain ⟨h1,h2⟩:=h
 obtain ⟨a1,a2⟩:=a
 obtain ⟨b1,b2⟩:=b
 simp only at h1 h2
 subst h1 h2
 rfl
theorem mem_spEs {l:List (Sp × Hd)} {e:MapEntry} (h:e∈(spEs l).toList):∃x∈l,e.key=spV x.1/\e.val=hdV x.2:=by
 simp only [spEs,List.mem_map] at h
 obtain ⟨p,hp,rfl⟩:=h
 exact ⟨p.1,(List.mem_zipIdx hp).2.2 ▸ List.getElem_mem _,rfl,rfl⟩
theorem spEs_mem {l:List (Sp × Hd)} {x:Sp × Hd} (h:x∈l):∃e∈(spEs l).toList,e.key=spV x.1:=by
 obtain ⟨i,hi,rfl⟩:=List.mem_iff_getElem.1 h
 exact ⟨⟨spV l[i].1,hdV l[i].2,i⟩,by
  simp only [spEs,List.mem_map]
  exact ⟨(l[i],i),by rw [List.mem_iff_getElem?];exact ⟨i,by simp [List.getElem?_eq_getElem hi]⟩,rfl⟩,rfl⟩
theorem i64_wf {n:Int} (h:0<=n/\n<=1000000):(Lit.int .i64 n).wf=true:=by
 have h1:IntKind.i64.min = -9223372036854775808:=rfl
 have h2:IntKind.i64.max=9223372036854775807:=rfl
 simp only [Lit.wf,h1,h2,Bool.and_eq_true,decide_eq_true_eq]
 omega
theorem sp_lits {P:Program} {k u:TypeId} {f0 f1:Field} (h1:P.underlying k=some (.struct #[f0,f1])) (h3:P.underlying u=some (.int .i64)) (c1:P.cellsOf k=2) (c3:P.cellsOf u=1)
  (a0 : f0.type = u /\ f0.offset = 0 /\ f0.name ≠ "_") (a1 : f1.type = u /\ f1.offset = 1 /\ f1.name ≠ "_") (n : Nat) (s : Sp) (hs : s.small) :
  P.keyLits (n+2) k (spV s).cells.toList=some [.int .i64 s.sw,.int .i64 s.port]:=by
 unfold Program.keyLits
 rw [h1]
 simp [c1,a0,a1,c3,spV,Value.cells,Program.keyLits,h3,i64_wf hs.1,i64_wf hs.2]
theorem sp_formed {P:Program} {k:TypeId} {fs:Array Field} (h1:P.underlying k=some (.struct fs)) (c1:P.cellsOf k=2) (s:Sp):(spV s).formed P k=true:=by
 simp [spV,Value.formed,h1,c1]
theorem spk_row:(42:TypeId)<Tryz.prog.types.size:=of_decide_eq_true (by kernel_rfl)
theorem spk_law:WideMaps.KeyLaw Tryz.prog 42:=deep_law_laid (by kernel_rfl) (m:=3) (by omega) spk_row (by kernel_rfl) (by rw [Tryz.underlying42])
theorem sp_key (s:Sp) (hs:s.small):∃l,keyOf Tryz.prog 42 (spV s)=some l:=by
 have c1:Tryz.prog.cellsOf 42=2:=by kernel_rfl
 refine key_of Tryz.underlying42 (by kernel_rfl) (sp_formed Tryz.underlying42 c1 s) (ls:=[.int .i64 s.sw,.int .i64 s.port]) ?_
 have hr:=spk_row
 generalize hn:Tryz.prog.types.size=n at hr
 obtain ⟨m,rfl⟩:∃m,n=m+1:=⟨n - 1,by have:(1:Nat)<=n:=Nat.le_trans (by decide) (Nat.le_of_lt hr);omega⟩
 exact sp_lits Tryz.underlying42 (u:=3) (by kernel_rfl) c1 (by kernel_rfl) ⟨rfl,rfl,by decide⟩ ⟨rfl,rfl,by decide⟩ m s hs
theorem rel_sp {W:World} {F:Nat->Prop} {μ:Mu} {σ:Sto} {s:Sp} {v:Value} (h:Rel W F μ σ (.agg (cSp s)) v):v=spV s:=by
 obtain ⟨vs,rfl,hl,_,hr⟩:=h.agg'
 match vs,hl with
 | [v0,v1],_ =>
  rw [(hr 0 _ _ rfl rfl).i',(hr 1 _ _ rfl rfl).i']
  rfl
theorem rel_hd {W:World} {F:Nat->Prop} {μ:Mu} {σ:Sto} {h:Hd} {v:Value} (hx:Rel W F μ σ (.agg (cHd h)) v):v=hdV h:=by
 obtain ⟨vs,rfl,hl,_,hr⟩:=hx.agg'
 match vs,hl with
 | [v0,v1],_ =>
  rw [(hr 0 _ _ rfl rfl).u',(hr 1 _ _ rfl rfl).u']
  rfl
theorem hd_rel {W:World} {F:Nat->Prop} {μ:Mu} {σ:Sto} (h:Hd):Rel W F μ σ (.agg (cHd h)) (hdV h) :=
 .agg (cHd h) [.int .u64 h.hi.toNat,.int .u64 h.lo.toNat] rfl (fun j x hj=>by
  match j,hj with
  | 0,hj=>cases hj;rfl
  | 1,hj=>cases hj;rfl) (pw_cons (.pure (.u _)) (pw_cons (.pure (.u _)) pw_nil))
def SpIs (l:List (Sp × Hd)) (q:Sp) (r:Option Hd):Prop:=(r=none/\∀p∈l,p.1≠q)\/∃h,r=some h/\(q,h)∈l/\∀p∈l,p.1=q->p.2=h
theorem find_sp (W:World) (l:List (Sp × Hd)) (q:Sp) (hl:∀p∈l,p.1.small) (hq:q.small):((∀p∈l,p.1≠q)/\(Instr.findKey 42 (spV q) (spEs l).toList).run Tryz.prog W = .ok none W)\/(∃h,(q,h)∈l/\∃j,(Instr.findKey 42 (spV q) (spEs l).toList).run Tryz.prog W = .ok (some (j,hdV h)) W):=by
 obtain ⟨lx,hx⟩:=sp_key q hq
 rcases spk_law.find W hx (spEs l).toList (fun e he=>by
  obtain ⟨x,hxl,hk,_⟩:=mem_spEs he
  rw [hk]
  exact sp_key x.1 (hl x hxl)) with ⟨h1,h2⟩ | ⟨j,e,h1,h2,h3⟩
 ·refine .inl ⟨fun p hp e=>?_,h1⟩
  obtain ⟨e',he,hk⟩:=spEs_mem hp
  exact h2 e' he (e ▸ hk)
 ·obtain ⟨x,hxl,hk,hv⟩:=mem_spEs (List.mem_of_getElem? h2)
  rw [hv] at h1
  have e1:x.1=q:=spV_inj (hk.symm.trans h3)
  exact .inr ⟨x.2,e1 ▸ hxl,j,h1⟩
theorem mapS_under:Tryz.prog.underlying 203=some (.map 42 34):=by kernel_rfl
theorem hd_zero (W:World):(zeroValue 34).run Tryz.prog W = .ok (hdV Hd.zero) W:=by kernel_rfl
theorem op_lookSp {N:Nat} {o:Oper} {s:St} {x k:Operand} {id ep:Nat} {l:List (Sp × Hd)} {q:Sp} (r:Option Hd) (ho:o.op = .lookup 203 x k true) (hx:s.ev x = .ref id ep .map) (hid:s.σ id=⟨ep,some (mapS l)⟩) (hk:s.ev k = .agg (cSp q)) (hl:∀p∈l,p.1.small) (hq:q.small) (hr:SpIs l q r) :
  OpLoc Tryz.prog N o s ⟨.tup [.agg (cHd (r.getD Hd.zero)),.b r.isSome],[],[id]⟩:=by
 refine oploc_val [id] _ fun s' W F μ a h1 h2 hrs=>⟨.tuple [hdV (r.getD Hd.zero),.bool r.isSome].toArray,?_,.tup _ [_,_] rfl (pw_cons (hd_rel _) (pw_cons (.pure (.b _)) pw_nil))⟩
 have ex:=hrs.ev x
 have ek:=hrs.ev k
 rw [h1 x (by rw [ho];simp [Op.operands]),hx] at ex
 rw [h1 k (by rw [ho];simp [Op.operands]),hk] at ek
 have hid':=(h2 id (by simp)).trans hid
 obtain ⟨b,c',hm,hv⟩:=(Rel.ref' ex).2.2 _ hid'
 obtain ⟨b',c'',hm',hh⟩:=hrs.inv.body _ _ _ hid'
 obtain ⟨rfl,rfl⟩:b=b'/\c'=c'':=by rw [hm] at hm';simpa using hm'
 have hkv:=rel_sp ek
 obtain ⟨lx,hlx⟩:=sp_key q hq
 have hck:=fun em=>spk_law.check W em hlx
 rcases find_sp W l q hl hq with ⟨h3,h4⟩ | ⟨h,h3,j,h4⟩
 ·have e:r=none:=by
   rcases hr with ⟨e,_⟩ | ⟨h,_,h5,_⟩
   ·exact e
   ·exact absurd rfl (h3 _ h5)
  subst e
  simp only [execOp,ho,Instr.lookup,Sem.run_bind,run_underlying mapS_under,Result.andThen_ok,hv,RK.val,run_getMap hh,Sem.run_pure,hkv,hck,h4,hd_zero]
  rfl
 ·have e:r=some h:=by
   rcases hr with ⟨_,h5⟩ | ⟨h',e,_,h6⟩
   ·exact absurd rfl (h5 _ h3)
   ·have h7:h=h':=h6 _ h3 rfl
    rw [e,h7]
  subst e
  simp only [execOp,ho,Instr.lookup,Sem.run_bind,run_underlying mapS_under,Result.andThen_ok,hv,RK.val,run_getMap hh,Sem.run_pure,hkv,hck,h4]
  rfl
theorem op_putSp {N : Nat} {o : Oper} {s : St} {x k v : Operand} {id ep : Nat} {l : List (Sp × Hd)} {q : Sp} {h : Hd} (ho : o.op = .mapUpdate 203 x k v) (hx : s.ev x = .ref id ep .map) (hid : s.σ id = ⟨ep, some (mapS l)⟩) (hk : s.ev k = .agg (cSp q)) (hv : s.ev v = .agg (cHd h)) (hl : ∀ p ∈ l, p.1.small) (hq : q.small) (hc : ∀ p ∈ l, p.1 ≠ q) :
    OpLoc Tryz.prog N o s ⟨.tup [],[(id,⟨ep,some (mapS (l++[(q,h)]))⟩)],[]⟩:=by
  intro s' g1 g2 g3 W F μ a hr K Q hK
  have hid':s'.σ id=⟨ep,some (mapS l)⟩:=(g3 (id,⟨ep,some (mapS (l++[(q,h)]))⟩) (by simp)).trans hid
  have ex:=hr.ev x
  have ek:=hr.ev k
  have ev:=hr.ev v
  rw [g1 x (by rw [ho];simp [Op.operands]),hx] at ex
  rw [g1 k (by rw [ho];simp [Op.operands]),hk] at ek
  rw [g1 v (by rw [ho];simp [Op.operands]),hv] at ev
  obtain ⟨b,c',hm,hv⟩:=(Rel.ref' ex).2.2 _ hid'
  obtain ⟨b',c'',hm',hh⟩:=hr.inv.body _ _ _ hid'
  obtain ⟨rfl,rfl⟩:b=b'/\c'=c'':=by rw [hm] at hm';simpa using hm'
  have hkv:=rel_sp ek
  have hvv:=rel_hd ev
  obtain ⟨lx,hlx⟩:=sp_key q hq
  have hck:=fun em=>spk_law.check W em hlx
  have hf:(Instr.findKey 42 (spV q) (spEs l).toList).run Tryz.prog W = .ok none W:=by
    rcases find_sp W l q hl hq with ⟨h3,h4⟩ | ⟨h',h3,_⟩
    · exact h4
    · exact absurd rfl (hc _ h3)
  have hlt:b<W.heap.size:=(Array.getElem?_eq_some_iff.1 hh).1
  generalize hW:({ W with heap:=W.heap.setIfInBounds b (.map (spEs (l++[(q,h)])) (l++[(q,h)]).length) }:World)=W'
  have hpush:=spEs_push l (q,h)
  simp only at hpush
  have hrun:(execOp a.eval o).run Tryz.prog W = .ok .skip W':=by
    simp only [execOp,ho,Instr.mapUpdate,Sem.run_bind,run_underlying mapS_under,Result.andThen_ok,hv,RK.val,run_getMap hh,Sem.run_pure,hkv,hvv,hck,hf,MapKept.run_setObj_map _ hh,hpush]
    rw [<- hW,List.length_append,List.length_singleton]
  have hk:Kp (fun b=>(s'.σ id).body.isSome=true/\∃c,μ id=some (b,c)) W W':=by
    subst hW
    exact ⟨rfl,rfl,rfl,by simp,fun k hk hn=>by
      have:b≠k:=fun e=>hn ⟨by rw [hid'];rfl,c',e ▸ hm⟩
      simp only [Array.getElem?_setIfInBounds,if_neg this]⟩
  have hh':W'.heap[b]?=some (.map (spEs (l++[(q,h)])) (l++[(q,h)]).length):=by
    subst hW
    simp only [Array.getElem?_setIfInBounds,if_true,if_pos hlt]
  have hsz:W'.heap.size=W.heap.size:=by subst hW;simp
  obtain ⟨hs, hi⟩ := inv_turn hr.inv id (μ id) ep (mapS (l ++ [(q, h)])) hk (fun b1 c1 e => by
      rw [hm] at e
      obtain ⟨rfl,rfl⟩:b=b1/\c'=c1:=by simpa using e
      exact ⟨by rw [hsz];exact hlt,.inr ⟨by rw [hid'];rfl,c',hm⟩⟩)
    (.inr ⟨by rw [hid'],mapS l,by rw [hid'],rfl,rfl⟩) (fun hs=>⟨b,c',hm,hh'⟩)
  unfold Oper.wp
  rw [hrun]
  exact hK _ F _ _ (hr.put hs hi (.pure (.tup [] [] rfl (by simp)))) hs
end Go.Proofs.YtoaibdbehlcnfaaGreat.Sm
end
section
namespace Go.Proofs.YtoaibdbehlcnfaaGreat.Sm
open Go.RowKit
structure Pair where
 fro:Sp
 to:Sp
 head:Hd
deriving DecidableEq
def cPair (p:Pair):List AV:=[.i .i64 p.fro.sw,.i .i64 p.fro.port,.i .i64 p.to.sw,.i .i64 p.to.port,.u p.head.hi,.u p.head.lo]
def hasK (m:List (Sp × Hd)) (q:Sp):Bool:=m.any fun p=>decide (p.1=q)
def lookM (m:List (Sp × Hd)) (q:Sp):Option Hd:=(m.find? fun p=>decide (p.1=q)).map (·.2)
def firstS (c:Cf) (v:Int) (s:Sp) (m:List (Sp × Hd)) (a:Atom):List (Sp × Hd) :=
 bif decide ((runOf c s a.head v 10800).fin=2) && !hasK m (runOf c s a.head v 10800).at_ then m++[((runOf c s a.head v 10800).at_,a.head)] else m
def firstM (c:Cf) (v:Int) (s:Sp) (list:List Atom):List (Sp × Hd):=list.foldl (firstS c v s) []
def pairsM (s:Sp) (m:List (Sp × Hd)):List Sp->List Pair
 | []=>[]
 | t::l=>(match lookM m t with | some h=>[⟨s,t,h⟩] | none=>[])++pairsM s m l
def pairsOf (c:Cf) (v:Int) (list:List Atom) (s:Sp):List Pair:=pairsM s (firstM c v s list) (edges c.topo.ports)
theorem hasK_look {m:List (Sp × Hd)} {q:Sp}:hasK m q=(lookM m q).isSome:=by
 induction m with
 | nil=>rfl
 | cons p m ih =>
  rw [hasK,lookM,List.any_cons,List.find?_cons]
  cases decide (p.1=q)
  ·rw [Bool.false_or];exact ih
  ·rfl
theorem lookM_is {m:List (Sp × Hd)} (hn:(m.map (·.1)).Nodup) (q:Sp):SpIs m q (lookM m q):=by
 rw [lookM]
 cases hf:m.find? fun p=>decide (p.1=q) with
 | none=>exact .inl ⟨rfl,fun p hp e=>by
   have:=List.find?_eq_none.1 hf p hp
   simp [e] at this⟩
 | some p =>
  have h1:=List.mem_of_find?_eq_some hf
  have h2:=List.find?_some hf
  have h2:p.1=q:=by simpa using h2
  refine .inr ⟨p.2,rfl,h2 ▸ h1,fun p' hp' e=>?_⟩
  obtain ⟨i,hi,rfl⟩:=List.mem_iff_getElem.1 h1
  obtain ⟨j,hj,rfl⟩:=List.mem_iff_getElem.1 hp'
  have hi':i<(m.map (·.1)).length:=by simpa using hi
  have hj':j<(m.map (·.1)).length:=by simpa using hj
  have e2:(m.map (·.1))[i]=(m.map (·.1))[j]:=by simp [h2,e]
  have hp:=List.pairwise_iff_getElem.1 hn
  have hij:i=j:=by
   rcases Nat.lt_trichotomy i j with h | h | h
   ·exact absurd e2 (hp i j hi' hj' h)
   ·exact h
   ·exact absurd e2.symm (hp j i hj' hi' h)
  subst hij
  rfl
structure FirstOk (c:Cf) (m:List (Sp × Hd)):Prop where
 nodup:(m.map (·.1)).Nodup
 edge:∀p∈m,p.1∈edges c.topo.ports
theorem firstS_ok {c:Cf} (hc:c.Ok) {v:Int} {s:Sp} (hs:s∈edges c.topo.ports) {m:List (Sp × Hd)} (h:FirstOk c m) (a:Atom):FirstOk c (firstS c v s m a):=by
 rw [firstS]
 cases hk:decide ((runOf c s a.head v 10800).fin=2) && !hasK m (runOf c s a.head v 10800).at_
 ·exact h
 ·rw [cond_true]
  simp only [Bool.and_eq_true,decide_eq_true_eq,Bool.not_eq_true'] at hk
  refine ⟨?_,fun p hp=>?_⟩
  ·rw [List.map_append,List.nodup_append]
   refine ⟨h.nodup,by simp,fun x hx y hy e=>?_⟩
   obtain ⟨p,hp,rfl⟩:=List.mem_map.1 hx
   obtain rfl:=List.mem_singleton.1 hy
   have:=hk.2
   rw [hasK,List.any_eq_false] at this
   exact this p hp (by simpa using e)
  ·rcases List.mem_append.1 hp with hp | hp
   ·exact h.edge p hp
   ·obtain rfl:=List.mem_singleton.1 hp
    rcases runOf_at hc hs a.head v 10800 with h1 | h1
    ·exact h1.2
    ·exact absurd hk.1 h1.1
theorem firstF_ok {c:Cf} (hc:c.Ok) {v:Int} {s:Sp} (hs:s∈edges c.topo.ports):∀(l:List Atom) {m:List (Sp × Hd)},FirstOk c m->FirstOk c (l.foldl (firstS c v s) m)
 | [],m,h=>h
 | a::l,m,h=>firstF_ok hc hs l (firstS_ok hc hs h a)
theorem firstM_ok {c:Cf} (hc:c.Ok) {v:Int} {s:Sp} (hs:s∈edges c.topo.ports) (l:List Atom):FirstOk c (firstM c v s l):=firstF_ok hc hs l ⟨by simp,fun p hp=>by cases hp⟩
theorem pairsM_len (s:Sp) (m:List (Sp × Hd)):∀(l:List Sp),(pairsM s m l).length<=l.length
 | []=>Nat.le_refl _
 | t::l=>by
  have:=pairsM_len s m l
  rw [pairsM,List.length_append,List.length_cons]
  cases lookM m t <;> simp <;> omega
theorem d_rpairs (c : Cf) (h0 : c.sound = 0) (hL : LooksOk c) (s : Sp) (hs : s ∈ edges c.topo.ports) (v : Nat) (hV : v <= 255) (list : List Atom) :
    PDoes Tryz.prog 59 [.ro (cLk c v list),.agg (cSp s)] (.sl ((pairsOf c v list s).map cPair)):=by
  refine PDoes.of_bodyN Tryz.func59 rfl (by kernel_rfl) rfl rfl ?_
  have hc:=Cf.ok h0
  refine jA ?_
  refine RG.opS rfl (op_makeMap (id:=15) rfl) rfl ?_
  refine wH rfl ?_;refine jA ?_
  refine RG.callMS rfl rfl rfl rfl rfl rfl (d_runs c v list s) rfl ?_;refine wH rfl ?_;refine jA ?_
  refine AW.rangeFunc (i_runs c h0 hL s hs v hV list) rfl rfl (fun x=>rfl) rfl [3,5] [(0,.ro (cLk c v list)),(3,.own 3 0 0),(5,.own 5 0 0)] (fun pre=>[(3,⟨0,some (.box 42 (cSp s))⟩),(5,⟨0,some (.box 203 [.ref 15 0 .map])⟩),(15,⟨0,some (mapS (firstM c v s (list.take pre.length)))⟩)]) ?_ ?_ rfl ?_ (fun pre=>rfl) ?_ ?_
  · exact ⟨Rn.is rfl rfl,Rn.ownIs rfl rfl rfl,Rn.ownIs rfl rfl rfl,trivial⟩
  · exact ⟨WkB1.same rfl rfl rfl,.boxL rfl ⟨Rn.refIs rfl rfl rfl,trivial⟩ rfl,.obj rfl rfl,trivial⟩
  · intro pre id hid
    simp only [List.mem_cons,List.not_mem_nil,or_false] at hid
    rcases hid with rfl | rfl
    · exact ⟨by decide,_,rfl⟩
    · exact ⟨by decide,_,rfl⟩
  · rintro q _ k ⟨rfl,hk⟩
    have hget:list.getD k ⟨[],Hd.zero,[]⟩=list[k]:=by rw [List.getD_eq_getElem?_getD,List.getElem?_eq_getElem hk];rfl
    have henc:encR c v s list k=[.agg (cHd list[k].head),.agg (cRun (runOf c s list[k].head v 10800))]:=by rw [encR,hget]
    have hok:=firstM_ok hc (v:=(v:Int)) hs (list.take (List.range k).length)
    have hstep:firstM c v s (list.take (List.range k++[k]).length)=firstS c v s (firstM c v s (list.take (List.range k).length)) list[k]:=by
      rw [List.length_append,List.length_range,List.length_singleton,List.take_add_one,List.getElem?_eq_getElem hk,firstM,List.foldl_append]
      rfl
    have hat:=runOf_at hc hs list[k].head (v:Int) 10800
    generalize firstM c v s (list.take (List.range k++[k]).length)=m' at hstep
    generalize firstM c v s (list.take (List.range k).length)=m at hstep hok
    rw [firstS] at hstep
    rw [henc]
    clear henc hget
    generalize list[k].head=h at hstep hat
    generalize runOf c s h v 10800=r at hstep hat
    have hsm:∀p∈m,p.1.small:=fun p hp=>edges_small hc.topo (hok.edge p hp)
    have hq:r.at_.small:=by
      rcases hat with ⟨_,h1⟩ | ⟨_,h1⟩
      · exact edges_small hc.topo h1
      · rw [h1];exact small_zero
    have hlk:=lookM_is hok.nodup r.at_
    rw [hasK_look] at hstep
    refine jA ?_
    refine RG.opS rfl (op_lookSp (lookM m r.at_) rfl rfl rfl rfl hsm hq hlk) rfl ?_
    by_cases k2:r.fin=2
    · rw [decide_eq_true k2,Bool.true_and] at hstep
      cases hl:lookM m r.at_ with
      | some x =>
        rw [hl] at hstep
        obtain rfl:m'=m:=hstep
        refine wH rfl ?_
        refine jB ?_
        refine AW.text ?_
        refine RG.runO ty_ok 0 [(30,.b true)] 400 rfl jD ?_
        refine jB ?_;refine AW.condF rfl ?_;refine jA ?_
        exact ⟨.ghost rfl rfl rfl,.ghost rfl rfl rfl,WkB1.same rfl rfl rfl,.boxL rfl ⟨Rn.refIs rfl rfl rfl,trivial⟩ rfl,.obj rfl rfl,trivial⟩
      | none =>
        rw [hl] at hstep hlk
        have hnk:∀p∈m,p.1≠r.at_:=by
          rcases hlk with ⟨_,h5⟩ | ⟨x,h5,_⟩
          · exact h5
          · cases h5
        obtain rfl:m'=m++[(r.at_,h)]:=hstep
        refine wH rfl ?_
        refine jB ?_
        refine AW.text ?_
        refine RG.runO ty_ok 0 [(30,.b true)] 400 rfl jD ?_
        refine jB ?_;refine AW.condT rfl ?_;refine jA ?_
        refine RG.opS rfl (op_putSp rfl rfl rfl rfl rfl hsm hq hnk) rfl ?_
        refine wH rfl ?_;refine jA ?_
        exact ⟨.ghost rfl rfl rfl,.ghost rfl rfl rfl,WkB1.same rfl rfl rfl,.boxL rfl ⟨Rn.refIs rfl rfl rfl,trivial⟩ rfl,.obj rfl rfl,trivial⟩
    · rw [decide_eq_false k2,Bool.false_and] at hstep
      obtain rfl:m'=m:=hstep
      refine wH rfl ?_
      refine jB ?_
      refine AW.text ?_
      refine RG.runO ty_ok 0 [(30,.b false)] 400 rfl jD ?_
      refine jB ?_;refine AW.condF rfl ?_;refine jA ?_
      exact ⟨.ghost rfl rfl rfl,.ghost rfl rfl rfl,WkB1.same rfl rfl rfl,.boxL rfl ⟨Rn.refIs rfl rfl rfl,trivial⟩ rfl,.obj rfl rfl,trivial⟩
  · rintro q _ rfl
    have hfull:firstM c v s (list.take (List.range list.length).length)=firstM c v s list:=by rw [List.length_range,List.take_length]
    have hok:=firstM_ok hc (v:=(v:Int)) hs list
    rw [hfull,pairsOf]
    generalize firstM c v s list=m at hok
    have hsm:∀p∈m,p.1.small:=fun p hp=>edges_small hc.topo (hok.edge p hp)
    refine jB ?_
    refine AW.text ?_
    refine RG.opS rfl (op_nilRow 10 69 6 rfl) rfl ?_
    refine wH rfl ?_;refine jA ?_
    refine RG.callMS rfl rfl rfl rfl rfl rfl (d_Edges c.topo.ports hc.topo) rfl ?_;refine wH rfl ?_;refine jA ?_
    have hE:=edges_len hc.topo
    have hEs:∀x∈edges c.topo.ports,x.small:=fun x hx=>edges_small hc.topo hx
    generalize edges c.topo.ports=E at hE hEs
    have hml:E.length<=9223372036854775807:=by omega
    have hPl:=pairsM_len s m E
    refine AW.loopL (ι:=Nat × List Pair) (fun i=>[(3,.own 3 0 0),(5,.own 5 0 0),(10,.row 10 0 0 (i.2.map cPair).length),(44,.sl (E.map cSp)),(45,.i .i64 (E.map cSp).length),(46,.i .i64 (i.1:Nat))]) (fun i=>[(3,⟨0,some (.box 42 (cSp s))⟩),(5,⟨0,some (.box 203 [.ref 15 0 .map])⟩),(15,⟨0,some (mapS m)⟩),(10,⟨0,some (.row 69 6 (i.2.map cPair))⟩)]) (fun i=>i.1<=E.length/\i.2++pairsM s m (E.drop i.1)=pairsM s m E) (fun i=>E.length - i.1) (0,[]) ⟨Nat.zero_le _,rfl⟩ jV ⟨WkB1.same rfl rfl rfl,.boxL rfl ⟨Rn.refIs rfl rfl rfl,trivial⟩ rfl,.obj rfl rfl,.row rfl rfl,trivial⟩ fun i hi=>?_
    obtain ⟨k,out⟩:=i
    obtain ⟨hk,hf⟩:=hi
    simp only at hk hf
    refine jA ?_
    refine AW.cond rfl (fun h=>?_) (fun h=>?_)
    rotate_left
    · have h:¬k<E.length:=by simpa using h
      obtain rfl:k=E.length:=by omega
      rw [List.drop_length,pairsM,List.append_nil] at hf
      refine jA ?_
      refine jE ?_;refine jA ?_
      refine AW.ret (retQA ty_ok rfl rfl rfl ?_)
      exact rowAll (congrArg (List.map cPair) hf)
    have h:k<E.length:=by simpa using h
    rw [List.drop_eq_getElem_cons h,pairsM] at hf
    have hx:=hEs _ (List.getElem_mem h)
    refine jB ?_
    refine AW.text ?_
    refine RG.opS rfl (op_index rfl (tk rfl) rfl (tk rfl) rfl rfl (show (E.map cSp)[k]?=some (cSp E[k]) by rw [List.getElem?_map,List.getElem?_eq_getElem (by assumption)];rfl) rfl) rfl ?_
    generalize E[k]=t at hf hx
    refine wH rfl ?_;refine jA ?_
    refine RG.opS rfl (op_lookSp (lookM m t) rfl rfl rfl rfl hsm hx (lookM_is hok.nodup t)) rfl ?_
    cases hl:lookM m t with
    | none =>
      rw [hl] at hf
      refine wH rfl ?_;refine jA ?_
      refine AW.condF rfl ?_;refine jA ?_
      exact ⟨(k+1,out),⟨⟨h,hf⟩,by show E.length - (k+1)<E.length - k;omega⟩,jV,⟨WkB1.same rfl rfl rfl,.boxL rfl ⟨Rn.refIs rfl rfl rfl,trivial⟩ rfl,.obj rfl rfl,.row rfl rfl,trivial⟩⟩
    | some g =>
      rw [hl] at hf
      have hol:out.length<=36:=by
        have:=congrArg List.length hf
        rw [List.length_append] at this
        omega
      refine wH rfl ?_;refine jA ?_
      refine AW.condT rfl ?_;refine jB ?_
      refine AW.text ?_
      refine wH rfl ?_
      refine RG.opS rfl (op_app1 cPair out ⟨s,t,g⟩ (by omega) rfl rfl rfl rfl (tk rfl) rfl (tk rfl) rfl rfl ⟨_,rfl,rfl⟩ rfl rfl) rfl ?_;refine wH rfl ?_;refine jA ?_
      exact ⟨(k+1,_),⟨⟨h,by rw [<- hf];simp⟩,by show E.length - (k+1)<E.length - k;omega⟩,jV,⟨WkB1.same rfl rfl rfl,.boxL rfl ⟨Rn.refIs rfl rfl rfl,trivial⟩ rfl,.obj rfl rfl,.row rfl rfl,trivial⟩⟩
end Go.Proofs.YtoaibdbehlcnfaaGreat.Sm
end
section
namespace Go.Proofs.YtoaibdbehlcnfaaGreat.Sm
open Go.RowKit
theorem d_Clip_Pair (l:List Pair):PDoes Tryz.prog 60 [.sl (l.map cPair)] (.sl (l.map cPair)):=by
 refine PDoes.of_bodyN Tryz.func60 rfl (by kernel_rfl) rfl rfl ?_
 refine jA ?_
 refine RG.opS rfl (op_clip rfl (tk rfl) rfl (tk rfl) rfl rfl rfl) rfl ?_
 refine wH rfl ?_;refine jA ?_
 refine AW.ret (retQA ty_ok rfl rfl rfl ?_)
 rfl
theorem lookE_mal {c:Cf} {V:Int} (h:lookE c V=0):malE c V=0:=by
 rw [lookE] at h
 by_cases h1:malE c V=0
 ·exact h1
 ·rw [decide_eq_false h1,cond_false] at h
  exact h
theorem malE_nat {c:Cf} {V:Int} (h:malE c V=0):c.sound=0/\∃v:Nat,V=v/\v<=255:=by
 refine ⟨malE_sound h,?_⟩
 rw [malE,if_pos (malE_sound h)] at h
 split at h
 ·cases h
 ·exact ⟨V.toNat,by omega,by omega⟩
def pairsE (c:Cf) (v:Int) (list:List Atom):List Sp->List Pair
 | []=>[]
 | s::l=>pairsOf c v list s++pairsE c v list l
def pairsAll (c:Cf) (v:Int):List Pair:=pairsE c v (lookA c v) (edges c.topo.ports)
theorem pairsE_len {c:Cf} (hc:c.Ok) (v:Int) (list:List Atom):∀(l:List Sp),(pairsE c v list l).length<=36*l.length
 | []=>Nat.zero_le _
 | s::l=>by
  have h1:=pairsE_len hc v list l
  have h2:=pairsM_len s (firstM c v s list) (edges c.topo.ports)
  have h3:=edges_len hc.topo
  rw [pairsE,List.length_append,List.length_cons,pairsOf]
  omega
def rpairsR (c:Cf) (V:Int):AV:=bif decide (lookE c V=0) then .tup [.sl ((pairsAll c V).map cPair),.i .i64 0] else .tup [.sl [],.i .i64 (lookE c V)]
theorem d_RPairs (c:Cf) (V:Int) (hL:c.Lens):PDoes Tryz.prog 21 [.agg (cCf c),.i .i64 V] (rpairsR c V):=by
  refine PDoes.of_bodyN Tryz.func21 rfl (by kernel_rfl) rfl rfl ?_
  rw [rpairsR]
  have hl:=d_look c V hL
  rw [lookR] at hl
  by_cases he:lookE c V=0
  rotate_left
  · rw [decide_eq_false he] at hl ⊢
    refine jA ?_
    refine RG.callMS rfl rfl rfl rfl rfl rfl hl rfl ?_;refine wH rfl ?_;refine jA ?_
    refine AW.cond rfl (fun h=>?_) (fun h=>?_)
    rotate_left
    · exact absurd (by simpa using h) he
    refine jA ?_
    refine AW.ret (retQA ty_ok rfl rfl rfl ?_)
    rfl
  rw [decide_eq_true he] at hl ⊢
  obtain ⟨h0,v,rfl,hV⟩:=malE_nat (lookE_mal he)
  have hLk:=looks_any h0 hL
  have hc:=Cf.ok h0
  have hE:=edges_len hc.topo
  have hme:(edges c.topo.ports).length<=9223372036854775807:=by omega
  have hPl:=pairsE_len hc v (lookA c v) (edges c.topo.ports)
  refine jA ?_
  refine RG.callMS rfl rfl rfl rfl rfl rfl hl rfl ?_;refine wH rfl ?_;refine jA ?_
  refine AW.condF rfl ?_;refine jB ?_
  refine AW.text ?_
  refine RG.opS rfl (op_nilRow 8 69 6 rfl) rfl ?_
  refine wH rfl ?_;refine jA ?_
  refine RG.callMS rfl rfl rfl rfl rfl rfl (d_Edges c.topo.ports hc.topo) rfl ?_;refine wH rfl ?_;refine jA ?_
  rw [pairsAll]
  have hes:∀s∈edges c.topo.ports,PDoes Tryz.prog 59 [.ro (cLk c v (lookA c v)),.agg (cSp s)] (.sl ((pairsOf c v (lookA c v) s).map cPair)):=fun s hs=>d_rpairs c h0 hLk s hs v hV _
  have hpl:∀s,(pairsOf c v (lookA c v) s).length<=36:=fun s=>by
    have:=pairsM_len s (firstM c v s (lookA c v)) (edges c.topo.ports)
    rw [pairsOf]
    omega
  generalize lookA c v=list at hPl hes hpl
  generalize edges c.topo.ports=E at hE hme hPl hes
  refine AW.loopL (ι:=Nat × List Pair) (fun i=>[(6,.ro (cLk c v list)),(8,.row 8 0 0 (i.2.map cPair).length),(22,.sl (E.map cSp)),(23,.i .i64 (E.map cSp).length),(24,.i .i64 (i.1:Nat))]) (fun i=>[(8,⟨0,some (.row 69 6 (i.2.map cPair))⟩)]) (fun i=>i.1<=E.length/\i.2++pairsE c v list (E.drop i.1)=pairsE c v list E) (fun i=>E.length - i.1) (0,[]) ⟨Nat.zero_le _,rfl⟩ jV jW fun i hi=>?_
  obtain ⟨k,out⟩:=i
  obtain ⟨hk,hf⟩:=hi
  simp only at hk hf
  refine jA ?_
  refine AW.cond rfl (fun h=>?_) (fun h=>?_)
  rotate_left
  · have h:¬k<E.length:=by simpa using h
    obtain rfl:k=E.length:=by omega
    rw [List.drop_length,pairsE,List.append_nil] at hf
    subst hf
    refine jA ?_
    refine jE ?_;refine jA ?_
    refine RG.callMS rfl rfl rfl rfl (congrArg (fun x=>[x]) (rowAll rfl)) rfl (d_Clip_Pair (pairsE c v list E)) rfl ?_;refine wH rfl ?_;refine jA ?_
    refine AW.ret (retQA ty_ok rfl rfl rfl ?_)
    rfl
  have h:k<E.length:=by simpa using h
  rw [List.drop_eq_getElem_cons h,pairsE] at hf
  have hp:=hes _ (List.getElem_mem h)
  have hx:=hpl E[k]
  refine jB ?_
  refine AW.text ?_
  refine RG.opS rfl (op_index rfl (tk rfl) rfl (tk rfl) rfl rfl (show (E.map cSp)[k]?=some (cSp E[k]) by rw [List.getElem?_map,List.getElem?_eq_getElem (by assumption)];rfl) rfl) rfl ?_
  generalize E[k]=t at hf hp hx
  generalize pairsOf c v list t=ps at hf hp hx
  have hol:out.length<=1296:=by
    have:=congrArg List.length hf
    rw [List.length_append] at this
    omega
  refine wH rfl ?_;refine jA ?_
  refine RG.callMS rfl rfl rfl rfl rfl rfl hp rfl ?_
  refine wH rfl ?_
  refine RG.opS rfl (op_appL cPair out ps (by omega) (fun _=>rfl) rfl rfl rfl rfl (tk rfl) rfl (tk rfl) rfl rfl ⟨_,rfl,rfl⟩ rfl) rfl ?_;refine wH rfl ?_;refine jA ?_
  exact ⟨(k+1,_),⟨⟨h,by rw [<- hf,List.append_assoc]⟩,by show E.length - (k+1)<E.length - k;omega⟩,jV,jW⟩
def fromE (c:Cf) (V:Int) (s:Sp):Int:=bif decide (malE c V=0) then (bif decide (s∈edges c.topo.ports) then lookE c V else 7) else malE c V
def rfromR (c:Cf) (V:Int) (s:Sp):AV:=bif decide (fromE c V s=0) then .tup [.sl (((pairsOf c V (lookA c V) s).map Pair.to).map cSp),.i .i64 0] else .tup [.sl [],.i .i64 (fromE c V s)]
theorem d_RFrom (c:Cf) (V:Int) (s:Sp) (hL:c.Lens):PDoes Tryz.prog 28 [.agg (cCf c),.i .i64 V,.agg (cSp s)] (rfromR c V s):=by
  refine PDoes.of_bodyN Tryz.func28 rfl (by kernel_rfl) rfl rfl ?_
  rw [rfromR]
  have hm:=d_rsound c V
  by_cases h1:malE c V=0
  rotate_left
  · have e:fromE c V s=malE c V:=by rw [fromE,decide_eq_false h1];rfl
    rw [e,decide_eq_false h1]
    refine jA ?_
    refine RG.callS rfl rfl rfl rfl rfl hm rfl rfl ?_;refine wH rfl ?_;refine jA ?_
    refine AW.cond rfl (fun h=>?_) (fun h=>?_)
    rotate_left
    · exact absurd (by simpa using h) h1
    refine jA ?_
    refine AW.ret (retQA ty_ok rfl rfl rfl ?_)
    rfl
  obtain ⟨h0,v,rfl,hV⟩:=malE_nat h1
  rw [h1] at hm
  have hc:=Cf.ok h0
  have hE:=edges_len hc.topo
  refine jA ?_
  refine RG.callS rfl rfl rfl rfl rfl hm rfl rfl ?_;refine wH rfl ?_;refine jA ?_
  refine AW.condF rfl ?_;refine jA ?_
  refine RG.callMS rfl rfl rfl rfl rfl rfl (d_Edges c.topo.ports hc.topo) rfl ?_
  refine wH rfl ?_
  by_cases hs:s∈edges c.topo.ports
  rotate_left
  · have e:fromE c v s=7:=by rw [fromE,decide_eq_true h1,decide_eq_false hs];rfl
    rw [e]
    refine RG.callS rfl rfl rfl rfl rfl (d_Contains_Sp s _ false (decide_eq_false hs)) rfl rfl ?_;refine wH rfl ?_;refine jA ?_
    refine AW.condT rfl ?_;refine jA ?_
    refine AW.ret (retQA ty_ok rfl rfl rfl ?_)
    rfl
  have e:fromE c v s=lookE c v:=by rw [fromE,decide_eq_true h1,decide_eq_true hs];rfl
  rw [e]
  have hl:=d_look c v hL
  rw [lookR] at hl
  refine RG.callS rfl rfl rfl rfl rfl (d_Contains_Sp s _ true (decide_eq_true hs)) rfl rfl ?_;refine wH rfl ?_;refine jA ?_
  refine AW.condF rfl ?_;refine jA ?_
  by_cases he:lookE c v=0
  rotate_left
  · rw [decide_eq_false he] at hl ⊢
    refine RG.callMS rfl rfl rfl rfl rfl rfl hl rfl ?_;refine wH rfl ?_;refine jA ?_
    refine AW.cond rfl (fun h=>?_) (fun h=>?_)
    rotate_left
    · exact absurd (by simpa using h) he
    refine jA ?_
    refine AW.ret (retQA ty_ok rfl rfl rfl ?_)
    rfl
  rw [decide_eq_true he] at hl ⊢
  have hp:=d_rpairs c h0 (looks_any h0 hL) s hs v hV (lookA c v)
  have hx:(pairsOf c v (lookA c v) s).length<=36:=by
    have:=pairsM_len s (firstM c v s (lookA c v)) (edges c.topo.ports)
    rw [pairsOf]
    omega
  refine RG.callMS rfl rfl rfl rfl rfl rfl hl rfl ?_;refine wH rfl ?_;refine jA ?_
  refine AW.condF rfl ?_;refine jB ?_
  refine AW.text ?_
  refine RG.opS rfl (op_nilRow 11 42 2 rfl) rfl ?_
  refine wH rfl ?_;refine jA ?_
  refine RG.callMS rfl rfl rfl rfl rfl rfl hp rfl ?_;refine wH rfl ?_;refine jA ?_
  generalize pairsOf c v (lookA c v) s=E at hx
  have hme:E.length<=9223372036854775807:=by omega
  refine AW.loopL (ι:=Nat × List Sp) (fun i=>[(11,.row 11 0 0 (i.2.map cSp).length),(37,.sl (E.map cPair)),(38,.i .i64 (E.map cPair).length),(39,.i .i64 (i.1:Nat))]) (fun i=>[(11,⟨0,some (.row 42 2 (i.2.map cSp))⟩)]) (fun i=>i.1<=E.length/\i.2++(E.drop i.1).map Pair.to=E.map Pair.to) (fun i=>E.length - i.1) (0,[]) ⟨Nat.zero_le _,rfl⟩ jV jW fun i hi=>?_
  obtain ⟨k,out⟩:=i
  obtain ⟨hk,hf⟩:=hi
  simp only at hk hf
  refine jA ?_
  refine AW.cond rfl (fun h=>?_) (fun h=>?_)
  rotate_left
  · have h:¬k<E.length:=by simpa using h
    obtain rfl:k=E.length:=by omega
    rw [List.drop_length,List.map_nil,List.append_nil] at hf
    subst hf
    refine jA ?_
    refine jE ?_;refine jA ?_
    refine RG.callMS rfl rfl rfl rfl (congrArg (fun x=>[x]) (rowAll rfl)) rfl (d_Clip_Sp (E.map Pair.to)) rfl ?_;refine wH rfl ?_;refine jA ?_
    refine AW.ret (retQA ty_ok rfl rfl rfl ?_)
    rfl
  have h:k<E.length:=by simpa using h
  rw [List.drop_eq_getElem_cons h,List.map_cons] at hf
  have hol:out.length<=36:=by
    have:=congrArg List.length hf
    rw [List.length_append,List.length_map] at this
    omega
  refine jB ?_
  refine AW.text ?_
  refine RG.opS rfl (op_index rfl (tk rfl) rfl (tk rfl) rfl rfl (show (E.map cPair)[k]?=some (cPair E[k]) by rw [List.getElem?_map,List.getElem?_eq_getElem (by assumption)];rfl) rfl) rfl ?_
  generalize E[k]=t at hf
  refine wH rfl ?_;refine jA ?_
  refine RG.opS rfl (op_app1 cSp out t.to (by omega) rfl rfl rfl rfl (tk rfl) rfl (tk rfl) rfl rfl ⟨_,rfl,rfl⟩ rfl rfl) rfl ?_;refine wH rfl ?_;refine jA ?_
  exact ⟨(k+1,out++[t.to]),⟨⟨h,by rw [<- hf,List.append_assoc];rfl⟩,by show E.length - (k+1)<E.length - k;omega⟩,jV,jW⟩
end Go.Proofs.YtoaibdbehlcnfaaGreat.Sm
end
section
namespace Go.Proofs.YtoaibdbehlcnfaaGreat.Sm
open Go.RowKit
def numRow:Nat->List (List Rl)->List Int
 | _,[]=>[]
 | n,l::ls=>(n:Int)::numRow (n+l.length) ls
def lenT (t:List (List Rl)):Nat:=(t.map List.length).sum
def numAll:Nat->List (List (List Rl))->List (List Int)
 | _,[]=>[]
 | n,t::ts=>numRow n t::numAll (n+lenT t) ts
theorem numRow_len:∀(n:Nat) (t:List (List Rl)),(numRow n t).length=t.length
 | _,[]=>rfl
 | n,l::ls=>by rw [numRow,List.length_cons,List.length_cons,numRow_len]
theorem numAll_len:∀(n:Nat) (t:List (List (List Rl))),(numAll n t).length=t.length
 | _,[]=>rfl
 | n,l::ls=>by rw [numAll,List.length_cons,List.length_cons,numAll_len]
theorem lenT_cons (l:List Rl) (t:List (List Rl)):lenT (l::t)=l.length+lenT t:=by rw [lenT,List.map_cons,List.sum_cons];rfl
def cNum (x:List Int):List AV:=[.sl (x.map cI)]
theorem i64_sum {a b:Nat} (h:a+b<=9223372036854775807):AV.i .i64 (IntKind.i64.wrap ((a:Int)+(b:Int))) = .i .i64 ((a+b:Nat):Int):=by
 rw [show IntKind.i64.wrap ((a:Int)+(b:Int))=(a:Int)+b by rw [IntKind.wrap_i64];omega]
 rfl
theorem d_numbers (c:Cf) (hn:c.tables.length<=1000000) (hb:∀t∈c.tables,t.length<=1000000) (hs:(c.tables.map lenT).sum<=1000000000):PDoes Tryz.prog 68 [.agg (cCf c)] (.sl ((numAll 0 c.tables).map cNum)):=by
  refine PDoes.of_bodyN Tryz.func68 rfl (by kernel_rfl) rfl rfl ?_
  have hlen:(c.tables.map cTab).length=c.tables.length:=List.length_map ..
  have hal:=numAll_len 0 c.tables
  have hml:c.tables.length<=9223372036854775807:=by omega
  refine jB ?_;refine wF ?_;refine wH rfl ?_;refine jB ?_
  refine AW.text ?_
  refine RG.opS rfl (op_nilRow 3 74 1 rfl) rfl ?_
  refine wH rfl ?_;refine jA ?_
  refine AW.loopL (ι:=Nat × List (List Int) × Nat) (fun i=>[(3,.row 3 0 0 (i.2.1.map cNum).length),(4,.i .i64 (i.2.2:Nat)),(11,.sl (c.tables.map cTab)),(12,.i .i64 (c.tables.map cTab).length),(13,.i .i64 (i.1:Nat))]) (fun i=>[(3,⟨0,some (.row 74 1 (i.2.1.map cNum))⟩)]) (fun i=>i.1<=c.tables.length/\i.2.1++numAll i.2.2 (c.tables.drop i.1)=numAll 0 c.tables/\i.2.2+((c.tables.drop i.1).map lenT).sum<=1000000000) (fun i=>c.tables.length - i.1) (0,[],0) ⟨Nat.zero_le _,rfl,by rw [Nat.zero_add];exact hs⟩ jV jW fun i hi=>?_
  obtain ⟨k,out,n⟩:=i
  obtain ⟨hk,hf,hsum⟩:=hi
  simp only at hk hf hsum
  refine jA ?_
  refine AW.cond rfl (fun h=>?_) (fun h=>?_)
  rotate_left
  · have h:¬k<c.tables.length:=by simpa using h
    obtain rfl:k=c.tables.length:=by omega
    rw [List.drop_length,numAll,List.append_nil] at hf
    refine jA ?_
    refine jE ?_;refine jA ?_
    refine AW.ret (retQA ty_ok rfl rfl rfl ?_)
    exact rowAll (congrArg (List.map cNum) hf)
  have h:k<c.tables.length:=by simpa using h
  rw [List.drop_eq_getElem_cons h,numAll] at hf
  rw [List.drop_eq_getElem_cons h,List.map_cons,List.sum_cons] at hsum
  have hbt:=hb _ (List.getElem_mem h)
  refine jB ?_
  refine AW.text ?_
  refine RG.opS rfl (op_index rfl (tk rfl) rfl (tk rfl) rfl rfl (show (c.tables.map cTab)[k]?=some (cTab c.tables[k]) by rw [List.getElem?_map,List.getElem?_eq_getElem (by assumption)];rfl) rfl) rfl ?_
  generalize c.tables[k]=t at hf hsum hbt
  refine wH rfl ?_
  refine jB ?_
  refine AW.text ?_
  refine RG.opS rfl (op_nilRow 7 3 1 rfl) rfl ?_
  refine wH rfl ?_;refine jA ?_
  have hmt:t.length<=9223372036854775807:=by omega
  refine AW.loopL (ι:=Nat × List Int × Nat) (fun i=>[(3,.row 3 0 0 (out.map cNum).length),(4,.i .i64 (i.2.2:Nat)),(7,.row 7 0 0 (i.2.1.map cI).length),(11,.sl (c.tables.map cTab)),(12,.i .i64 (c.tables.map cTab).length),(13,.i .i64 (k:Nat)),(17,.sl (t.map cRls)),(18,.i .i64 (t.map cRls).length),(19,.i .i64 (i.1:Nat))]) (fun i=>[(3,⟨0,some (.row 74 1 (out.map cNum))⟩),(7,⟨0,some (.row 3 1 (i.2.1.map cI))⟩)]) (fun i=>i.1<=t.length/\i.2.1++numRow i.2.2 (t.drop i.1)=numRow n t/\i.2.2+lenT (t.drop i.1)=n+lenT t) (fun i=>t.length - i.1) (0,[],n) ⟨Nat.zero_le _,rfl,rfl⟩ jV jW fun i hi=>?_
  obtain ⟨j,own,n'⟩:=i
  obtain ⟨hj,hg,hsg⟩:=hi
  simp only at hj hg hsg
  refine jA ?_
  refine AW.cond rfl (fun h'=>?_) (fun h'=>?_)
  · have h':j<t.length:=by simpa using h'
    rw [List.drop_eq_getElem_cons h',numRow] at hg
    rw [List.drop_eq_getElem_cons h',lenT_cons] at hsg
    have hol:own.length<=1000000:=by
      have:=congrArg List.length hg
      rw [List.length_append,numRow_len] at this
      omega
    refine jB ?_
    refine AW.text ?_
    refine RG.opS rfl (op_index rfl (tk rfl) rfl (tk rfl) rfl rfl (show (t.map cRls)[j]?=some (cRls t[j]) by rw [List.getElem?_map,List.getElem?_eq_getElem (by assumption)];rfl) rfl) rfl ?_
    generalize t[j]=l at hg hsg
    refine wH rfl ?_;refine jA ?_
    refine RG.opS rfl (op_app1 cI own ((n':Nat):Int) (by omega) rfl rfl rfl rfl (tk rfl) rfl (tk rfl) rfl rfl ⟨_,rfl,rfl⟩ rfl rfl) rfl ?_;refine wH rfl ?_;refine jA ?_
    exact ⟨(j+1,own++[((n':Nat):Int)],n'+l.length),⟨⟨h',by rw [<- hg,List.append_assoc];rfl,by show n'+l.length+lenT (t.drop (j+1))=n+lenT t;omega⟩,by show t.length - (j+1)<t.length - j;omega⟩,⟨Rn.rowIs rfl rfl rfl,Rn.is ((congrArg (fun q:Nat=>AV.i .i64 (IntKind.i64.wrap ((n':Int)+(q:Int)))) (List.length_map cRl)).trans (i64_sum (by omega))) rfl,Rn.rowIs rfl rfl rfl,Rn.is rfl rfl,Rn.is rfl rfl,Rn.is rfl rfl,Rn.is rfl rfl,Rn.is rfl rfl,Rn.is (i64_next h' hmt) rfl,trivial⟩,jW⟩
  · have h':¬j<t.length:=by simpa using h'
    obtain rfl:j=t.length:=by omega
    rw [List.drop_length,numRow,List.append_nil] at hg
    rw [List.drop_length,show lenT []=0 from rfl,Nat.add_zero] at hsg
    subst hg hsg
    have hol:out.length<=1000000:=by
      have:=congrArg List.length hf
      rw [List.length_append,hal] at this
      omega
    refine jB ?_
    refine jE ?_;refine jB ?_
    refine AW.freeze [7] [(3,.row 3 0 0 (out.map cNum).length),(4,.i .i64 ((n+lenT t:Nat):Int)),(7,.sl ((numRow n t).map cI)),(11,.sl (c.tables.map cTab)),(12,.i .i64 (c.tables.map cTab).length),(13,.i .i64 (k:Nat))] [(3,⟨0,some (.row 74 1 (out.map cNum))⟩)] ⟨.rn (Rn.rowIs rfl rfl rfl),.is rfl rfl,.fzA rfl rfl (rowAll rfl),.is rfl rfl,.is rfl rfl,.is rfl rfl,trivial⟩ ⟨.old (.row rfl rfl),trivial⟩ rfl ?_
    refine jA ?_
    refine RG.opS rfl (op_app1 cNum out (numRow n t) (by omega) rfl rfl rfl rfl (tk rfl) rfl (tk rfl) rfl rfl ⟨_,rfl,rfl⟩ rfl rfl) rfl ?_;refine wH rfl ?_;refine jA ?_
    exact ⟨(k+1,out++[numRow n t],n+lenT t),⟨⟨h,by rw [<- hf,List.append_assoc];rfl,by show n+lenT t+((c.tables.drop (k+1)).map lenT).sum<=1000000000;omega⟩,by show c.tables.length - (k+1)<c.tables.length - k;omega⟩,jV,jW⟩
end Go.Proofs.YtoaibdbehlcnfaaGreat.Sm
end
section
namespace Go.Proofs.YtoaibdbehlcnfaaGreat.Sm
open Go.RowKit
open Go.Sort (swp)
def ltO (x y:Int):Bool:=decide (x<y)
def oiB (n:Nat) (d:Array Int):List (Nat × SB):=[(201,⟨0,some (.row 3 1 (d.toList.map cI))⟩)]
theorem ins_szO (d:Array Int) (n:Nat) (h:n<=d.size):(Go.Sort.insertionSort ltO d 0 n).size=d.size:=(ins_pm ltO d 0 n h).1
end Go.Proofs.YtoaibdbehlcnfaaGreat.Sm
end
section
namespace Go.Proofs.YtoaibdbehlcnfaaGreat.Sm
open Go.RowKit
section
variable {P : Program} {N : Nat} {o : Oper} {s : St}
theorem op_sliceE {t e id ep n ty l : Nat} {ti ei : TI} {x : Operand} {lo : Option Operand} {els : List (List AV)} (ho : o.op = .slice t x lo none none) (ht : TiOk P t ti) (hk : ti.k = .slice e) (he : TiOk P e ei) (hx : s.ev x = .row id ep 0 n) (hid : s.σ id = ⟨ep, some (.row ty ei.n els)⟩)
    (hlo:Bd s 0 lo l) (h2:l<n):OpLoc P N o s ⟨.row id ep l (n - l),[],[id]⟩:=by
  refine oploc_val [id] _ fun s' W F μ a g1 g2 hs=>?_
  have hid':=(g2 id (by simp)).trans hid
  have ex:=hs.ev x
  rw [g1 x (by rw [ho];simp [Op.operands]),hx] at ex
  have r1:=bd_run hlo (fun y hy=>g1 y (by rw [ho,hy];simp [Op.operands])) hs
  obtain ⟨q1,q⟩:=row_form hs.inv ex hid'
  rcases q with ⟨e,e2,e3⟩ | ⟨b,cap,hm,hv,q2,q3⟩
  · subst e2
    simp at q1
    omega
  have hrun:=sliceBounds_run (P:=P) (W:=W) (l:=l) (h:=n) (c:=cap - 0) (len:=n) (lo:=lo.map a.eval) (hi:=none)
    (by rcases r1 with ⟨e, e'⟩ | ⟨y, kd, e, e'⟩
        · exact .inl ⟨by rw [e];rfl,e'⟩
        · exact .inr ⟨kd,by rw [e,Option.map_some,e']⟩)
    (.inl ⟨rfl,rfl⟩) (by omega) (by omega) true
  have hc:¬cap - 0 - l=0:=by omega
  refine ⟨.slice (some ⟨b,l*ei.n,none⟩) (n - l) (cap - l),?_,.row id ep l (n - l) _ (by rw [hid'];exact Nat.le_refl _) rfl fun bd' m' l' hbd hL=>?_⟩
  · simp only [execOp,ho,Instr.sliceAt,Instr.slice,hv,Sem.run_bind,Sem.run_pure,Result.andThen_ok,run_underlying (ht.slice hk),Option.map_none,hrun,he.size,if_neg hc]
    have hcl:¬cap=l:=by omega
    by_cases hz:l*ei.n=0 <;> simp [Addr.add,Nat.sub_zero,hcl,hz]
  · rw [hid'] at hbd
    obtain rfl:Body.row ty ei.n els=bd':=by simpa using hbd
    obtain ⟨rfl,rfl⟩:ei.n=m'/\els.length=l':=by simpa [Body.rowL] using hL
    exact ⟨by omega,by rw [hm]⟩
theorem getE_set {α:Type} (l:List α) (k n:Nat) (z:α) (h:k+n=l.length) (i:Nat):(l.take k++List.replicate n z)[i]?=if i<k then l[i]? else if i<l.length then some z else none:=by
 rw [List.getElem?_append,List.length_take,Nat.min_eq_left (by omega)]
 by_cases h1:i<k
 ·rw [if_pos h1,if_pos h1,List.getElem?_take,if_pos h1]
 ·rw [if_neg h1,if_neg h1,List.getElem?_replicate]
  by_cases h2:i<l.length
  ·rw [if_pos h2,if_pos (by omega)]
  ·rw [if_neg h2,if_neg (by omega)]
theorem op_clearI {t e id ep k n ty : Nat} {ti : TI} {c : Call} {x : Operand} {els : List (List AV)} (ho : o.op = .call c) (hc : c.callee = .builtin .clear) (ha : c.args = #[x]) (hat : c.argTypes = #[t]) (ht : TiOk P t ti) (hk : ti.k = .slice e)
    (hz:∀W:World,(zeroValue e).run P W = .ok (.int .i64 0) W) (hx:s.ev x = .row id ep k n) (hid:s.σ id=⟨ep,some (.row ty 1 els)⟩) (hn:0<n) (hkn:k+n=els.length) :
    OpLoc P N o s ⟨.tup [],[(id,⟨ep,some (.row ty 1 (els.take k++List.replicate n [.i .i64 0]))⟩)],[]⟩:=by
  intro s' g1 g2 g3 W F μ a hr K Q hK
  have hid':s'.σ id=⟨ep,some (.row ty 1 els)⟩:=(g3 (id,⟨ep,some (.row ty 1 (els.take k++List.replicate n [.i .i64 0]))⟩) (by simp)).trans hid
  have ex:=hr.ev x
  rw [g1 x (by rw [ho];simp [Op.operands,Call.operands,hc,ha]),hx] at ex
  obtain ⟨q1,q⟩:=row_form hr.inv ex hid'
  rcases q with ⟨e1,e2,e3⟩ | ⟨b,cap,hm,hv,q2,q3⟩
  · subst e2;simp at q1;omega
  rcases hr.inv.body _ _ _ hid' with ⟨hno,_⟩ | ⟨b',cap',cur,hm',hh,p1,p2,p3,p4,p5⟩
  · rw [hm] at hno;cases hno
  obtain ⟨rfl,rfl⟩:b=b'/\cap=cap':=by rw [hm] at hm';simpa using hm'
  have hcells:(Builtin.zeroCells (Value.int .i64 0).cells n).toList=List.replicate n (Value.int .i64 0):=by
    apply List.ext_getElem?
    intro i
    simp only [Builtin.zeroCells,Value.cells]
    rw [List.getElem?_replicate]
    by_cases h:i<n
    · rw [if_pos h]
      simp [h,Nat.mod_one]
    · rw [if_neg h]
      simp [h]
  generalize hnew:(cur.toList.take k++List.replicate n (Value.int .i64 0)++cur.toList.drop (k+n))=new
  have hnl:new.length=cur.size:=by
    rw [<- hnew]
    simp only [List.length_append,List.length_take,List.length_drop,List.length_replicate,Array.length_toList]
    omega
  have hget:∀i,new[i]?=if k<=i/\i<k+n then some (Value.int .i64 0) else cur[i]?:=fun i=>by
    rw [<- hnew,List.append_assoc,List.getElem?_append,List.length_take,Array.length_toList,Nat.min_eq_left (by omega)]
    by_cases e1:i<k
    · rw [if_pos e1,if_neg (by omega),List.getElem?_take,if_pos e1,Array.getElem?_toList]
    · rw [if_neg e1,List.getElem?_append,List.length_replicate,List.getElem?_replicate]
      by_cases e2:i - k<n
      · rw [if_pos e2,if_pos e2,if_pos (by omega)]
      · rw [if_neg e2,if_neg (by omega),List.getElem?_drop,Array.getElem?_toList]
        congr 1
        omega
  have hrun:(storeCells ⟨b,k*1,none⟩ (List.replicate n (Value.int .i64 0))).run P W = .ok () (W.setRow b new.toArray):=by
    have h:=run_storeCells_at P b (k*1) ty (List.replicate n (Value.int .i64 0)) 0 cur W hh (by rw [List.length_replicate];omega) (fun v hv=>by rw [(List.mem_replicate.1 hv).2];rfl)
    rw [<- hnew]
    simpa only [Nat.mul_one,Nat.add_zero,List.length_replicate] using h
  have hkp:Kp (fun b=>(s'.σ id).body.isSome=true/\∃c,μ id=some (b,c)) W (W.setRow b new.toArray):=(Kp.refl _ W).setRow' (by exact ⟨by rw [hid'];rfl,cap,hm⟩) _
  obtain ⟨hs, hi⟩ := inv_turn hr.inv id (μ id) ep (.row ty 1 (els.take k ++ List.replicate n [.i .i64 0])) hkp (fun b1 c1 e => by
      rw [hm] at e
      obtain ⟨rfl,rfl⟩:b=b1/\cap=c1:=by simpa using e
      exact ⟨by simpa using (hr.inv.apart b ⟨id,ep,_,cap,hid',hm⟩).1,.inr ⟨by rw [hid'];rfl,cap,hm⟩⟩)
    (.inr ⟨by rw [hid'],_,by rw [hid'],by simp only [Body.sh,List.length_append,List.length_take,List.length_replicate];rw [Nat.min_eq_left (by omega),hkn],rfl⟩) (fun hs=>by
      refine .inr ⟨b,cap,new.toArray,hm,setRow_heap W b _ _ _ _ hh,by rw [List.length_append,List.length_take,List.length_replicate];omega,q3,by simpa [hnl] using p3,fun k' cs' hk'=>?_,fun k' cs' i y hk' hi'=>?_⟩
      · rw [getE_set _ _ _ _ hkn] at hk'
        split at hk'
        · exact p4 k' cs' hk'
        · split at hk'
          · obtain rfl:=Option.some.inj hk'
            rfl
          · cases hk'
      · rw [getE_set _ _ _ _ hkn] at hk'
        rw [List.getElem?_toArray,hget]
        split at hk'
        · rename_i e
          have hlt:i<1:=by have:=(List.getElem?_eq_some_iff.1 hi').1;rw [p4 k' cs' hk'] at this;exact this
          rw [if_neg (by omega)]
          obtain ⟨r1,v,r2,r3⟩:=p5 k' cs' i y hk' hi'
          exact ⟨r1,v,r2,r3.stp hr.inv hs⟩
        · split at hk'
          · obtain rfl:=Option.some.inj hk'
            match i,hi' with
            | 0,hi' =>
              obtain rfl:AV.i .i64 0=y:=by simpa using hi'
              rw [if_pos (by omega)]
              exact ⟨rfl,_,rfl,.i _ _⟩
            | i+1,hi'=>simp at hi'
          · cases hk')
  unfold Oper.wp
  have hrun':(execOp a.eval o).run P W = .ok (.value (.tuple #[])) (W.setRow b new.toArray):=by
    have hne:n≠0:=by omega
    obtain ⟨n',rfl⟩:∃n',n=n'+1:=⟨n - 1,by omega⟩
    simp only [execOp,ho,resolve,hc,ha,hat,invoke,builtin,Builtin.clear_,hv,Sem.run_bind,Sem.run_pure,Result.andThen_ok,List.map_toArray,List.map_cons,List.map_nil,List.getElem?_toArray,List.getElem?_cons_zero,run_underlying (ht.slice hk),hz,hcells,hrun]
    skip
  rw [hrun']
  exact hK _ F _ _ (hr.put hs hi (.pure (.tup [] [] rfl (by simp)))) hs
end
end Go.Proofs.YtoaibdbehlcnfaaGreat.Sm
end
