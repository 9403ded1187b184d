/- Contracts of the program's functions over data, and the plain laws that they meet (part 4). No condition. -/
import Derived.Test.YtdidjpohnopihaaGreatVqc
import Derived.WalkKit
import Derived.WalkSpells
import Derived.WalkLawsBesides
import Derived.Lib.Hide
import Derived.Deep.RegionHeld3
import Derived.Maps.AppendAt
import Derived.KernelRfl
import Derived.Lib.AppendStr
import Derived.Orders
import Derived.LoopTactic
import Derived.Laws.CopyRow
import Derived.Laws.Cells
import Derived.OrdersIn
import Derived.Laws.Externs
import Derived.TacticsIn
import Derived.RangeFuncLeaves
import Derived.RangeFuncRecord
import Derived.Great.BuildSlice
import Derived.Laws.ResultCell
import Derived.Laws.StructEq
import Derived.Laws.MakeOwn
import Derived.Lib.AppendZerosOnto
import Derived.RangeFuncSeq
import Derived.RangeFuncIn
import Derived.Deep.Slices
import Derived.Deep.Fields
import Derived.ChangeSame
import Derived.ProofKit
import Derived.OpenShut
import Derived.SizedLaws
import Derived.Test.YtdidjpohnopihaaGreatProg
import Derived.Shelf.Spec.BitsCarry
import Derived.Laws.AppendOwn
set_option linter.unusedVariables false
set_option linter.unusedSimpArgs false
set_option maxRecDepth 100000
set_option maxHeartbeats 4000000
section
namespace Go.Proofs.YtdidjpohnopihaaGreat.Sm
open Go.RowKit
theorem xk (a:UInt64)(k:Nat)(hk:k<64):decide (cj a k % 2=1)=a.toBitVec.getLsbD k:=by
 have h:(cj a k % 2).toNat=a.toNat / 2 ^ k % 2:=by
  rw [UInt64.toNat_mod,cj,UInt64.toNat_ofNat_of_lt' (Nat.lt_of_le_of_lt (Nat.div_le_self _ _) (UInt64.toNat_lt a)),kB3 (by omega)]
  rfl
 rw [BitVec.getLsbD,Nat.testBit_eq_decide_div_mod_eq]
 refine decide_eq_decide.2 ?_
 rw [<- UInt64.toNat_inj,h]
 rfl
def Is:TI:=⟨.arr 128 4,128,128,bA fun _=>false⟩
theorem aw:aB Tryz.prog 97 Is:=zP (by kernel_rfl)
theorem j7 (h:Hd):aa Tryz.prog 29 [.agg (cHd h)] (.agg (bA h.b)):=by
 refine jb Tryz.func29 ?_
 refine jA ?_
 refine RG.opS rfl (dn (id:=2) rfl aw rfl) rfl ?_
 refine zB ?_
 refine RG.opS rfl (yS rfl aw rfl (tk rfl) rfl) rfl ?_
 refine RG.opS rfl (dn (id:=3) rfl aw rfl) rfl ?_
 refine RG.opS rfl (cJ (cq _) rfl aw rfl rfl rfl rfl) rfl ?_
 refine jH ?_
 refine AW.loopL (ι:=Nat × (Nat->Bool)) (fun i=>[(1,.own 1 0 0),(2,.own 2 0 0),(3,.own 3 0 0),(4,.i .i64 (i.1:Nat))]) (fun i=>[(1,⟨0,some (.box 34 (cHd h))⟩),(2,⟨0,some (.box 97 (bA fun _=>false))⟩),(3,⟨0,some (.box 97 (bA i.2))⟩)]) (fun i=>i.1<=128/\∀j<i.1,i.2 j=h.b j) (fun i=>128-i.1) (0,fun _=>false) ⟨qR _,fun j hj=>absurd hj (uO j)⟩ jW jW fun i hi=>?_
 obtain⟨k,f⟩:=i
 obtain⟨hk,hf⟩:=hi
 simp only at hk hf
 refine jA ?_
 refine AW.cond rfl (fun h'=>?_) (fun h'=>?_)
 ·have h':k<128:=Int.ofNat_lt.1 (of_decide_eq_true h')
  have hm:(128:Nat)<=9223372036854775807:=by decide
  refine jA ?_
  refine AW.cond rfl (fun h2=>?_) (fun h2=>?_)
  ·have h2:k<64:=Int.ofNat_lt.1 (of_decide_eq_true h2)
   refine jA ?_
   refine RG.opS rfl (aN k h' rfl aw rfl (tk rfl) rfl rfl rfl rfl) rfl ?_
   refine RG.opS rfl (fg k h' rfl (tk rfl) rfl rfl rfl rfl) rfl ?_
   refine jH ?_
   refine⟨(k+1,upB f k _),⟨⟨h',fun j hj=>?_⟩,by show 128-(k+1)<128-k;omega⟩,jV,jW⟩
   show upB f k _ j=_
   rw [upB]
   by_cases e:j=k
   ·rw [if_pos e,e,sh0 k (by omega),Hd.b,if_pos h2]
    exact xk h.lo k h2
   ·rw [if_neg e];exact hf j (by show j<k;have:j<k+1:=hj;omega)
  ·have h2:¬k<64:=fun h3=>of_decide_eq_false h2 (Int.ofNat_lt.2 h3)
   refine jA ?_
   refine RG.opS rfl (aN k h' rfl aw rfl (tk rfl) rfl rfl rfl rfl) rfl ?_
   refine RG.opS rfl (fg k h' rfl (tk rfl) rfl rfl rfl rfl) rfl ?_
   refine jH ?_
   refine⟨(k+1,upB f k _),⟨⟨h',fun j hj=>?_⟩,by show 128-(k+1)<128-k;omega⟩,jV,jW⟩
   show upB f k _ j=_
   rw [upB]
   by_cases e:j=k
   ·rw [if_pos e,e,shn k 64 (by omega) (by omega),Hd.b,if_neg h2]
    exact xk h.hi (k-64) (by omega)
   ·rw [if_neg e];exact hf j (by show j<k;have:j<k+1:=hj;omega)
 ·have h':¬k<128:=fun h3=>of_decide_eq_false h' (Int.ofNat_lt.2 h3)
  obtain rfl:k=128:=by omega
  refine zE ?_
  refine RG.opS rfl (lj rfl aw rfl rfl rfl rfl) rfl ?_
  refine RG.opS rfl (cJ (cq _) rfl aw rfl rfl rfl rfl) rfl ?_
  refine jH ?_
  refine AW.ret (G2 rfl aw rfl rfl rfl rfl ?_)
  rw [Ba hf]
theorem EU (x:UInt64)(q:Bool)(j:Nat)(hj:j<64):(x*2+(bif q then 1 else 0)).toBitVec.getLsbD j=if j=0 then q else x.toBitVec.getLsbD (j-1):=by
 have h:(x*2+(bif q then 1 else 0)).toNat=(2*x.toNat+(bif q then 1 else 0)) % 2 ^ 64:=by
  cases q <;> (rw [UInt64.toNat_add,UInt64.toNat_mul];simp;omega)
 show (x*2+(bif q then 1 else 0)).toNat.testBit j=_
 rw [h,Nat.testBit_mod_two_pow,qE hj,uE]
 by_cases e:j=0
 ·rw [if_pos e,e,Nat.testBit_zero]
  cases q <;> simp <;> omega
 ·rw [if_neg e]
  obtain⟨i,rfl⟩:∃i,j=i+1:=⟨j-1,by omega⟩
  rw [Nat.testBit_succ,Nat.add_sub_cancel]
  show _=x.toNat.testBit i
  congr 1
  cases q <;> simp <;> omega
structure gU (f:Nat->Bool)(n:Nat)(h:Hd):Prop where
 lo:∀j<64,h.lo.toBitVec.getLsbD j=(decide (n+j<64) && f (n+j))
 hi:∀j<64,h.hi.toBitVec.getLsbD j=(decide (max n 64+j<128) && f (max n 64+j))
theorem gU.step_lo {f:Nat->Bool}{n:Nat}{h:Hd}(H:gU f (n+1) h)(hn:n<64):gU f n ⟨h.hi,h.lo*2+(bif f n then 1 else 0)⟩:=by
 refine⟨fun j hj=>?_,fun j hj=>?_⟩
 ·show (h.lo*2+(bif f n then 1 else 0)).toBitVec.getLsbD j=_
  rw [EU _ _ _ hj]
  by_cases e:j=0
  ·rw [if_pos e,e,Nat.add_zero,qE hn,uE]
  ·rw [if_neg e,H.lo _ (by omega),show n+1+(j-1)=n+j by omega]
 ·have:=H.hi j hj
  rw [show max (n+1) 64=max n 64 by omega] at this
  exact this
theorem gU.step_hi {f:Nat->Bool}{n:Nat}{h:Hd}(H:gU f (n+1) h)(hn:¬n<64)(hn2:n<128):gU f n ⟨h.hi*2+(bif f n then 1 else 0),h.lo⟩:=by
 refine⟨fun j hj=>?_,fun j hj=>?_⟩
 ·have:=H.lo j hj
  rw [qC (by omega),uI] at this
  rw [qC (by omega),uI]
  exact this
 ·show (h.hi*2+(bif f n then 1 else 0)).toBitVec.getLsbD j=_
  rw [EU _ _ _ hj]
  by_cases e:j=0
  ·rw [if_pos e,e,Nat.add_zero,show max n 64=n by omega,qE hn2,uE]
  ·rw [if_neg e,H.hi _ (by omega),show max (n+1) 64+(j-1)=max n 64+j by omega]
theorem gU.done {f:Nat->Bool}{h g:Hd}(H:gU f 0 h)(hg:∀i<128,g.b i=f i):h=g:=by
 refine Hd.ext_b fun i=>?_
 by_cases hi:i<128
 ·rw [hg i hi,Hd.b]
  by_cases h6:i<64
  ·rw [if_pos h6,H.lo i h6,vN,qE h6,uE]
  ·rw [if_neg h6,H.hi (i-64) (by omega),show max 0 64+(i-64)=i by omega,qE hi,uE]
 ·rw [Hd.b_hi _ _ (by omega),Hd.b_hi _ _ (by omega)]
theorem An (f:Nat->Bool)(g:Hd)(hg:∀i<128,g.b i=f i):aa Tryz.prog 74 [.agg (bA f)] (.agg (cHd g)):=by
 refine jb Tryz.func74 ?_
 refine zB ?_
 refine RG.opS rfl (zk (id:=1) (cs:=bA f) rfl rfl (BT f)) rfl ?_
 refine jH ?_
 refine AW.loopL (ι:=Nat × Hd) (fun i=>[(1,.own 1 0 0),(2,.own 2 0 0),(3,.own 3 0 0),(4,.i .i64 ((i.1:Int)-1))]) (fun i=>[(1,⟨0,some (.box 97 (bA f))⟩),(2,⟨0,some (.box 34 (cHd Hd.zero))⟩),(3,⟨0,some (.box 34 (cHd i.2))⟩)]) (fun i=>i.1<=128/\gU f i.1 i.2) (fun i=>i.1) (128,Hd.zero) ⟨qJ _,⟨fun j hj=>by rw [qC (show ¬128+j<64 by omega)];exact BitVec.getLsbD_zero,fun j hj=>by rw [qC (show ¬max 128 64+j<128 by omega)];exact BitVec.getLsbD_zero⟩⟩ jW jW fun i hi=>?_
 obtain⟨n,h⟩:=i
 obtain⟨hn,hf⟩:=hi
 simp only at hn hf
 refine jA ?_
 refine AW.cond rfl (fun h'=>?_) (fun h'=>?_)
 ·obtain⟨k,rfl⟩:∃k,n=k+1:=⟨n-1,by have:=of_decide_eq_true h';simp only [qH] at this;omega⟩
  have hk:(((k+1:Nat):Int)-1)=(k:Nat):=by omega
  have hk8:k<128:=by omega
  refine AW.only [(1,.own 1 0 0),(2,.own 2 0 0),(3,.own 3 0 0),(4,.i .i64 (k:Nat))] [(1,⟨0,some (.box 97 (bA f))⟩),(2,⟨0,some (.box 34 (cHd Hd.zero))⟩),(3,⟨0,some (.box 34 (cHd h))⟩)] ⟨Rn.ownIs rfl rfl rfl,Rn.ownIs rfl rfl rfl,Rn.ownIs rfl rfl rfl,.is (congrArg _ hk) rfl,trivial⟩ jW ?_
  refine jA ?_
  refine RG.opS rfl (aN (k) hk8 rfl aw rfl (tk rfl) rfl rfl rfl rfl) rfl ?_
  refine RG.opS rfl (kB (k) hk8 rfl (tk rfl) rfl rfl rfl) rfl ?_
  refine jB ?_
  refine AW.cond rfl (fun hq=>?_) (fun hq=>?_)
  ·refine jA ?_
   refine AW.cond rfl (fun h2=>?_) (fun h2=>?_)
   ·have h2:k<64:=Int.ofNat_lt.1 (of_decide_eq_true h2)
    refine jA ?_
    have H:=hf.step_lo h2
    rw [hq] at H
    exact⟨(k,_),⟨⟨by show k<=128;omega,H⟩,Nat.lt_succ_self k⟩,⟨Rn.ownIs rfl rfl rfl,Rn.ownIs rfl rfl rfl,Rn.ownIs rfl rfl rfl,.is (jl k (by omega)) rfl,trivial⟩,jW⟩
   ·have h2:¬k<64:=fun h3=>of_decide_eq_false h2 (Int.ofNat_lt.2 h3)
    refine jA ?_
    have H:=hf.step_hi h2 hk8
    rw [hq] at H
    exact⟨(k,_),⟨⟨by show k<=128;omega,H⟩,Nat.lt_succ_self k⟩,⟨Rn.ownIs rfl rfl rfl,Rn.ownIs rfl rfl rfl,Rn.ownIs rfl rfl rfl,.is (jl k (by omega)) rfl,trivial⟩,jW⟩
  ·refine jA ?_
   refine AW.cond rfl (fun h2=>?_) (fun h2=>?_)
   ·have h2:k<64:=Int.ofNat_lt.1 (of_decide_eq_true h2)
    refine jA ?_
    have H:=hf.step_lo h2
    rw [hq] at H
    exact⟨(k,_),⟨⟨by show k<=128;omega,H⟩,Nat.lt_succ_self k⟩,⟨Rn.ownIs rfl rfl rfl,Rn.ownIs rfl rfl rfl,Rn.ownIs rfl rfl rfl,.is (jl k (by omega)) rfl,trivial⟩,jW⟩
   ·have h2:¬k<64:=fun h3=>of_decide_eq_false h2 (Int.ofNat_lt.2 h3)
    refine jA ?_
    have H:=hf.step_hi h2 hk8
    rw [hq] at H
    exact⟨(k,_),⟨⟨by show k<=128;omega,H⟩,Nat.lt_succ_self k⟩,⟨Rn.ownIs rfl rfl rfl,Rn.ownIs rfl rfl rfl,Rn.ownIs rfl rfl rfl,.is (jl k (by omega)) rfl,trivial⟩,jW⟩
 ·obtain rfl:n = 0 := by
   have:=of_decide_eq_false h'
   simp only [qH] at this
   omega
  refine zE ?_
  refine jR ?_
  rw [hf.done hg]
  rfl
theorem ba {P:Program}{N:Nat}{o:Oper}{s:St}(k:Nat){t id ep:Nat}{ti:TI}{p:Operand}{ty:Nat}{f:Nat->Bool}{v:Bool}(hk:k<128)(hv:f k=v)(ho:o.op = .load t p)(ht:aB P t ti)(hti:ti.k.ag=false)(hp:s.ev p = .own id ep k)(hid:s.σ id=⟨ep,some (.box ty (bA f))⟩) :
  ax P N o s ⟨.b v,[],[id]⟩:=by
 rw [<- hv]
 exact kB k hk ho ht hti hp hid
theorem Hd.set_b (h:Hd)(c:Cb)(i:Nat):(h.set c).b i=bif c.care.b i then c.value.b i else h.b i:=by
 simp only [Hd.set,Hd.b_or,Hd.b_less,Hd.b_and]
 cases c.care.b i <;> cases h.b i <;> cases c.value.b i <;> rfl
theorem Gd (h:Hd)(c:Cb):aa Tryz.prog 44 [.agg (cHd h),.agg (cCb c)] (.agg (cHd (h.set c))):=by
 refine jb Tryz.func44 ?_
 refine jB ?_;refine wF ?_;refine wH rfl ?_;refine jB ?_
 refine AW.draws aJ ?_
 refine wH rfl ?_
 refine RG.callS rfl rfl rfl rfl rfl (j7 h) (gy _) rfl ?_
 refine wH rfl ?_
 refine RG.callS rfl rfl rfl rfl rfl (j7 c.value) (gy _) rfl ?_
 refine wH rfl ?_
 refine RG.callS rfl rfl rfl rfl rfl (j7 c.care) (gy _) rfl ?_
 refine RG.opS rfl (dn (id:=5) rfl aw rfl) rfl ?_
 refine RG.opS rfl (dn (id:=6) rfl aw rfl) rfl ?_
 refine RG.opS rfl (dn (id:=7) rfl aw rfl) rfl ?_
 refine RG.opS rfl (cJ (cq _) rfl aw rfl rfl rfl rfl) rfl ?_
 refine RG.opS rfl (cJ (cq _) rfl aw rfl rfl rfl rfl) rfl ?_
 refine RG.opS rfl (cJ (cq _) rfl aw rfl rfl rfl rfl) rfl ?_
 refine jH ?_
 refine AW.loopL (ι:=Nat × (Nat->Bool)) (fun i=>[(4,.own 4 0 0),(5,.own 5 0 0),(6,.own 6 0 0),(7,.own 7 0 0),(8,.i .i64 (i.1:Nat))]) (fun i=>[(4,⟨0,some (.box 34 (cHd Hd.zero))⟩),(5,⟨0,some (.box 97 (bA i.2))⟩),(6,⟨0,some (.box 97 (bA c.value.b))⟩),(7,⟨0,some (.box 97 (bA c.care.b))⟩)]) (fun i=>i.1<=128/\∀j,i.2 j=bif decide (j<i.1) && c.care.b j then c.value.b j else h.b j) (fun i=>128-i.1) (0,h.b) ⟨qR _,fun j=>by rw [qC (uO j)];rfl⟩ jW jW fun i hi=>?_
 obtain⟨k,f⟩:=i
 obtain⟨hk,hf⟩:=hi
 simp only at hk hf
 refine jA ?_
 refine AW.cond rfl (fun h'=>?_) (fun h'=>?_)
 ·have h':k<128:=Int.ofNat_lt.1 (of_decide_eq_true h')
  have hm:(128:Nat)<=9223372036854775807:=by decide
  refine jA ?_
  refine RG.opS rfl (aN (k) h' rfl aw rfl (tk rfl) rfl rfl rfl rfl) rfl ?_
  refine RG.opS rfl (kB (k) h' rfl (tk rfl) rfl rfl rfl) rfl ?_
  refine jB ?_
  refine AW.cond rfl (fun hq=>?_) (fun hq=>?_)
  ·refine jA ?_
   refine RG.opS rfl (aN (k) h' rfl aw rfl (tk rfl) rfl rfl rfl rfl) rfl ?_
   refine RG.opS rfl (kB (k) h' rfl (tk rfl) rfl rfl rfl) rfl ?_
   refine RG.opS rfl (aN (k) h' rfl aw rfl (tk rfl) rfl rfl rfl rfl) rfl ?_
   refine RG.opS rfl (fg (k) h' rfl (tk rfl) rfl rfl rfl rfl) rfl ?_
   refine jH ?_
   refine⟨(k+1,upB f k (c.value.b k)),⟨⟨h',fun j=>?_⟩,by show 128-(k+1)<128-k;omega⟩,jV,jW⟩
   show upB f k _ j=_
   rw [upB]
   by_cases e:j=k
   ·rw [if_pos e,e,qE (show k<k+1 by omega),hq];rfl
   ·rw [if_neg e,hf j]
    by_cases e2:j<k
    ·rw [qE e2,qE (show j<k+1 by omega)]
    ·rw [qC e2,qC (show ¬j<k+1 by omega)]
  ·refine jA ?_
   refine⟨(k+1,f),⟨⟨h',fun j=>?_⟩,by show 128-(k+1)<128-k;omega⟩,jV,jW⟩
   show f j=_
   rw [hf j]
   by_cases e:j=k
   ·rw [e,hq,Bool.and_false,Bool.and_false]
   ·by_cases e2:j<k
    ·rw [qE e2,qE (show j<k+1 by omega)]
    ·rw [qC e2,qC (show ¬j<k+1 by omega)]
 ·have h':¬k<128:=fun h3=>of_decide_eq_false h' (Int.ofNat_lt.2 h3)
  obtain rfl:k=128:=by omega
  refine zE ?_
  refine RG.opS rfl (lj rfl aw rfl rfl rfl rfl) rfl ?_
  refine RG.callS rfl rfl rfl (sT _) rfl (An f (h.set c) fun i hi=>by rw [hf i,Hd.set_b,qE hi,uE]) rfl rfl ?_
  refine zH ?_
  rfl
def sgn (c:Cb)(i:Nat):UInt8:=bif c.care.b i then (bif c.value.b i then 49 else 48) else 120
def fQ (c:Cb):List UInt8:=(List.range 128).map fun i=>sgn c (127-i)
theorem mV (c:Cb):(fQ c).length=128:=by simp [fQ]
theorem uw (c:Cb)(k:Nat)(hk:k<128):(fQ c)[k]?=some (sgn c (127-k)):=by
 rw [fQ,qF,List.getElem?_range hk];rfl
theorem Ic (k:Nat)(hk:k<128):IntKind.i64.wrap (Int.ofNat 127-(k:Int))=((127-k:Nat):Int):=by
 rw [kA0]
 simp only [qH]
 omega
theorem CK (g:Nat->UInt8):((yA g).drop 0).take 128=yA g:=by
 rw [uR]
 exact vL (by rw [qt];exact qJ _)
theorem rh (c:Cb)(q:Bool)(hq:c.sound=q):aa Tryz.prog 10 [.agg (cCb c)] (.tup [.s (bif q then fQ c else []),.b q]):=by
 subst hq
 refine jb Tryz.func10 ?_
 refine jB ?_;refine wF ?_;refine wH rfl ?_;refine jB ?_
 refine AW.draws aJ ?_
 refine wH rfl ?_
 refine RG.callS rfl rfl rfl rfl rfl (j7 c.value) (gy _) rfl ?_
 refine wH rfl ?_
 refine RG.callS rfl rfl rfl rfl rfl (j7 c.care) (gy _) rfl ?_
 refine RG.opS rfl (dn (id:=4) rfl aw rfl) rfl ?_
 refine RG.opS rfl (dn (id:=5) rfl aw rfl) rfl ?_
 refine RG.opS rfl (cJ (cq _) rfl aw rfl rfl rfl rfl) rfl ?_
 refine RG.opS rfl (cJ (cq _) rfl aw rfl rfl rfl rfl) rfl ?_
 refine jH ?_
 refine RG.opS rfl (AP (id:=6) rfl (tk rfl) rfl (tk rfl) rfl rfl rfl) rfl ?_
 refine jH ?_
 refine AW.loopL (ι:=Nat × (Nat->UInt8)) (fun i=>[(4,.own 4 0 0),(5,.own 5 0 0),(6,.row 6 0 0 128),(7,.i .i64 (i.1:Nat))]) (fun i=>[(4,⟨0,some (.box 97 (bA c.value.b))⟩),(5,⟨0,some (.box 97 (bA c.care.b))⟩),(6,⟨0,some (.row 5 1 (yA i.2))⟩)]) (fun i=>i.1<=128/\(∀j<i.1,(c.value.b j && !c.care.b j)=false)/\∀j<i.1,i.2 (127-j)=sgn c j) (fun i=>128-i.1) (0,fun _=>0) ⟨qR _,fun j hj=>absurd hj (uO j),fun j hj=>absurd hj (uO j)⟩ jW jW fun i hi=>?_
 obtain⟨k,g⟩:=i
 obtain⟨hk,hs,hg⟩:=hi
 simp only at hk hs hg
 refine jA ?_
 refine AW.cond rfl (fun h'=>?_) (fun h'=>?_)
 ·have h':k<128:=Int.ofNat_lt.1 (of_decide_eq_true h')
  have hm:(128:Nat)<=9223372036854775807:=by decide
  have hw:=Ic k h'
  have h7:127-k<128:=by omega
  have fin:∀v,v=sgn c k->(c.value.b k && !c.care.b k)=false->(∀j<k+1,(c.value.b j && !c.care.b j)=false)/\∀j<k+1,upY g (127-k) v (127-j)=sgn c j:=fun v hv hb=>by
   refine⟨fun j hj=>?_,fun j hj=>?_⟩
   ·by_cases e:j=k
    ·rw [e];exact hb
    ·exact hs j (by omega)
   ·rw [upY]
    by_cases e:j=k
    ·rw [if_pos (by omega),e];exact hv
    ·rw [if_neg (by omega)];exact hg j (by omega)
  cases hv:c.value.b k
  ·refine jA ?_
   refine RG.opS rfl (aN (k) h' rfl aw rfl (tk rfl) rfl rfl rfl rfl) rfl ?_;refine RG.opS rfl (ba (k) h' hv rfl (tk rfl) rfl rfl rfl) rfl ?_
   refine jH ?_;refine zF ?_
   cases hc:c.care.b k
   ·refine RG.opS rfl (aN (k) h' rfl aw rfl (tk rfl) rfl rfl rfl rfl) rfl ?_;refine RG.opS rfl (ba (k) h' hc rfl (tk rfl) rfl rfl rfl) rfl ?_
    refine jH ?_;refine zF ?_
    refine RG.opS rfl (aN (k) h' rfl aw rfl (tk rfl) rfl rfl rfl rfl) rfl ?_;refine RG.opS rfl (ba (k) h' hc rfl (tk rfl) rfl rfl rfl) rfl ?_
    refine wH rfl ?_;refine jB ?_;refine AW.condF rfl ?_
    refine zB ?_
    refine RG.runO ae 0 [(48,.i .i64 (127-k:Nat))] 400 rfl jD ?_
    refine RG.opS rfl (np (127-k) h7 rfl (tk rfl) rfl (tk rfl) rfl rfl rfl rfl) rfl ?_
    refine RG.opS rfl (lc (127-k) h7 rfl (tk rfl) rfl rfl rfl rfl) rfl ?_
    refine jH ?_
    obtain⟨F1,F2⟩:=fin _ (by rw [sgn,hc,hv];try rfl) (by rw [hc,hv];try rfl)
    exact⟨(k+1,upY g (127-k) _),⟨⟨h',F1,F2⟩,by show 128-(k+1)<128-k;omega⟩,jV,jW⟩
   ·refine RG.opS rfl (aN (k) h' rfl aw rfl (tk rfl) rfl rfl rfl rfl) rfl ?_;refine RG.opS rfl (ba (k) h' hc rfl (tk rfl) rfl rfl rfl) rfl ?_
    refine wH rfl ?_
    refine RG.opS rfl (aN (k) h' rfl aw rfl (tk rfl) rfl rfl rfl rfl) rfl ?_;refine RG.opS rfl (ba (k) h' hv rfl (tk rfl) rfl rfl rfl) rfl ?_
    refine jH ?_;refine zF ?_
    refine RG.opS rfl (aN (k) h' rfl aw rfl (tk rfl) rfl rfl rfl rfl) rfl ?_;refine RG.opS rfl (ba (k) h' hc rfl (tk rfl) rfl rfl rfl) rfl ?_
    refine wH rfl ?_
    refine RG.opS rfl (aN (k) h' rfl aw rfl (tk rfl) rfl rfl rfl rfl) rfl ?_;refine RG.opS rfl (ba (k) h' hv rfl (tk rfl) rfl rfl rfl) rfl ?_
    refine wH rfl ?_;refine jB ?_;refine AW.condT rfl ?_;refine jB ?_;refine wF ?_;refine wH rfl ?_;refine jB ?_
    refine zB ?_
    refine RG.runO ae 0 [(48,.i .i64 (127-k:Nat))] 400 rfl jD ?_
    refine RG.opS rfl (np (127-k) h7 rfl (tk rfl) rfl (tk rfl) rfl rfl rfl rfl) rfl ?_
    refine RG.opS rfl (lc (127-k) h7 rfl (tk rfl) rfl rfl rfl rfl) rfl ?_
    refine jH ?_
    obtain⟨F1,F2⟩:=fin _ (by rw [sgn,hc,hv];try rfl) (by rw [hc,hv];try rfl)
    exact⟨(k+1,upY g (127-k) _),⟨⟨h',F1,F2⟩,by show 128-(k+1)<128-k;omega⟩,jV,jW⟩
  ·cases hc:c.care.b k
   ·refine jA ?_
    refine RG.opS rfl (aN (k) h' rfl aw rfl (tk rfl) rfl rfl rfl rfl) rfl ?_;refine RG.opS rfl (ba (k) h' hv rfl (tk rfl) rfl rfl rfl) rfl ?_
    refine wH rfl ?_
    refine RG.opS rfl (aN (k) h' rfl aw rfl (tk rfl) rfl rfl rfl rfl) rfl ?_;refine RG.opS rfl (ba (k) h' hc rfl (tk rfl) rfl rfl rfl) rfl ?_
    refine jH ?_;refine zT ?_
    have hn:c.sound=false:=by
     cases hs':c.sound
     ·rfl
     ·have:=(Cb.sound_iff c).1 hs' k
      rw [hv,hc] at this
      cases this
    refine jR ?_
    rw [hn]
    rfl
   ·refine jA ?_
    refine RG.opS rfl (aN (k) h' rfl aw rfl (tk rfl) rfl rfl rfl rfl) rfl ?_;refine RG.opS rfl (ba (k) h' hv rfl (tk rfl) rfl rfl rfl) rfl ?_
    refine wH rfl ?_
    refine RG.opS rfl (aN (k) h' rfl aw rfl (tk rfl) rfl rfl rfl rfl) rfl ?_;refine RG.opS rfl (ba (k) h' hc rfl (tk rfl) rfl rfl rfl) rfl ?_
    refine jH ?_;refine zF ?_
    refine RG.opS rfl (aN (k) h' rfl aw rfl (tk rfl) rfl rfl rfl rfl) rfl ?_;refine RG.opS rfl (ba (k) h' hc rfl (tk rfl) rfl rfl rfl) rfl ?_
    refine wH rfl ?_
    refine RG.opS rfl (aN (k) h' rfl aw rfl (tk rfl) rfl rfl rfl rfl) rfl ?_;refine RG.opS rfl (ba (k) h' hv rfl (tk rfl) rfl rfl rfl) rfl ?_
    refine jH ?_;refine zT ?_
    refine RG.opS rfl (aN (k) h' rfl aw rfl (tk rfl) rfl rfl rfl rfl) rfl ?_;refine RG.opS rfl (ba (k) h' hc rfl (tk rfl) rfl rfl rfl) rfl ?_
    refine wH rfl ?_
    refine RG.opS rfl (aN (k) h' rfl aw rfl (tk rfl) rfl rfl rfl rfl) rfl ?_;refine RG.opS rfl (ba (k) h' hv rfl (tk rfl) rfl rfl rfl) rfl ?_
    refine wH rfl ?_;refine jB ?_;refine AW.condF rfl ?_
    refine zB ?_
    refine RG.runO ae 0 [(48,.i .i64 (127-k:Nat))] 400 rfl jD ?_
    refine RG.opS rfl (np (127-k) h7 rfl (tk rfl) rfl (tk rfl) rfl rfl rfl rfl) rfl ?_
    refine RG.opS rfl (lc (127-k) h7 rfl (tk rfl) rfl rfl rfl rfl) rfl ?_
    refine jH ?_
    obtain⟨F1,F2⟩:=fin _ (by rw [sgn,hc,hv];try rfl) (by rw [hc,hv];try rfl)
    exact⟨(k+1,upY g (127-k) _),⟨⟨h',F1,F2⟩,by show 128-(k+1)<128-k;omega⟩,jV,jW⟩
 ·have h':¬k<128:=fun h3=>of_decide_eq_false h' (Int.ofNat_lt.2 h3)
  obtain rfl:k=128:=by omega
  have hq:c.sound=true:=by
   rw [Cb.sound_iff]
   intro i
   by_cases hi:i<128
   ·exact hs i hi
   ·rw [Hd.b_hi _ _ (by omega)];rfl
  have hy:yA g=fP (fQ c):=by
   rw [yA,fP,fQ,List.map_map]
   refine List.map_congr_left fun i hi=>?_
   have hi:=uV.1 hi
   have:=hg (127-i) (by omega)
   rw [show 127-(127-i)=i by omega] at this
   show [AV.y (g i)]=[AV.y (sgn c (127-i))]
   rw [this]
  rw [hq]
  refine jB ?_
  refine AW.exit ?_
  refine Eq.mpr (if_pos rfl) ?_
  refine jB ?_
  refine AW.freeze [6] [(6,.sl (fP (fQ c)))] [] ⟨RnF.fzA rfl rfl (congrArg AV.sl ((CK g).trans hy)),trivial⟩ trivial rfl ?_
  refine jA ?_
  refine RG.opS rfl (Fk rfl (tk rfl) rfl (tk rfl) rfl (tk rfl) rfl rfl) rfl ?_
  refine zH ?_
  rfl
theorem Ca (c:Cb)(h:Hd)(k:Nat)(H:((h.b k && c.care.b k)=c.value.b k)=False):c.has h=false:=by
 cases hq:c.has h
 ·rfl
 ·have:=(Cb.has_iff c h).1 hq k
  rw [H] at this
  exact this.elim
theorem rr (c:Cb)(h:Hd)(hs:c.sound=true)(q:Bool)(hq:c.has h=q):aa Tryz.prog 41 [.s (fQ c),.agg (cHd h)] (.b q):=by
 subst hq
 refine jb Tryz.func41 ?_
 refine jA ?_
 refine RG.callS rfl rfl rfl rfl rfl (j7 h) (gy _) rfl ?_
 refine RG.opS rfl (dn (id:=5) rfl aw rfl) rfl ?_
 refine RG.opS rfl (cJ (cq _) rfl aw rfl rfl rfl rfl) rfl ?_
 refine jH ?_
 refine AW.loopL (ι:=Nat) (fun k=>[(0,.s (fQ c)),(5,.own 5 0 0),(6,.i .i64 (k:Nat))]) (fun _=>[(5,⟨0,some (.box 97 (bA h.b))⟩)]) (fun k=>k<=128/\∀j<k,(h.b (127-j) && c.care.b (127-j))=c.value.b (127-j)) (fun k=>128-k) 0 ⟨qR _,fun j hj=>absurd hj (uO j)⟩ jW jW fun k hk=>?_
 obtain⟨hk,hg⟩:=hk
 refine jA ?_
 refine AW.cond rfl (fun h'=>?_) (fun h'=>?_)
 ·have h':k < 128 := by
   have:=of_decide_eq_true h'
   rw [mV] at this
   omega
  have hm:(128:Nat)<=9223372036854775807:=by decide
  have hw:=Ic k h'
  have h7:127-k<128:=by omega
  have hget:=uw c k h'
  have hsk:=(Cb.sound_iff c).1 hs (127-k)
  have fin:(h.b (127-k) && c.care.b (127-k))=c.value.b (127-k)->∀j<k+1,(h.b (127-j) && c.care.b (127-j))=c.value.b (127-j):=fun H j hj=>by
   by_cases e:j=k
   ·rw [e];exact H
   ·exact hg j (by omega)
  have hno:=Ca c h (127-k)
  rw [sgn] at hget
  revert hget hsk fin hno
  cases hc:c.care.b (127-k)
  ·cases hv:c.value.b (127-k)
   ·intro hget hsk fin hno
    refine jA ?_
    refine RG.opS rfl (ff rfl (tk rfl) rfl rfl rfl hget) rfl ?_
    refine wH rfl ?_
    refine RG.opS rfl (ff rfl (tk rfl) rfl rfl rfl hget) rfl ?_
    refine jH ?_;refine zF ?_
    exact⟨k+1,⟨⟨h',fin (Bool.and_false _)⟩,by omega⟩,jV,jW⟩
   ·intro hget hsk fin hno
    cases hsk
  ·cases hv:c.value.b (127-k)
   ·intro hget hsk fin hno
    refine jA ?_
    refine RG.opS rfl (ff rfl (tk rfl) rfl rfl rfl hget) rfl ?_
    refine wH rfl ?_
    refine RG.opS rfl (ff rfl (tk rfl) rfl rfl rfl hget) rfl ?_
    refine RG.runO ae 0 [(33,.i .i64 (127-k:Nat))] 400 rfl jD ?_
    cases hb:h.b (127-k)
    ·refine RG.opS rfl (aN (127-k) h7 rfl aw rfl (tk rfl) rfl rfl rfl rfl) rfl ?_;refine RG.opS rfl (ba (127-k) h7 hb rfl (tk rfl) rfl rfl rfl) rfl ?_
     refine jH ?_;refine zF ?_
     exact⟨k+1,⟨⟨h',fin (by rw [hb];rfl)⟩,by omega⟩,jV,jW⟩
    ·refine RG.opS rfl (aN (127-k) h7 rfl aw rfl (tk rfl) rfl rfl rfl rfl) rfl ?_;refine RG.opS rfl (ba (127-k) h7 hb rfl (tk rfl) rfl rfl rfl) rfl ?_
     refine jH ?_;refine zT ?_
     refine jR ?_
     rw [hno (by rw [hb];simp)]
     rfl
   ·intro hget hsk fin hno
    refine jA ?_
    refine RG.opS rfl (ff rfl (tk rfl) rfl rfl rfl hget) rfl ?_
    refine RG.runO ae 0 [(21,.i .i64 (127-k:Nat))] 400 rfl jD ?_
    cases hb:h.b (127-k)
    ·refine RG.opS rfl (aN (127-k) h7 rfl aw rfl (tk rfl) rfl rfl rfl rfl) rfl ?_;refine RG.opS rfl (ba (127-k) h7 hb rfl (tk rfl) rfl rfl rfl) rfl ?_
     refine jH ?_;refine zT ?_
     refine jR ?_
     rw [hno (by rw [hb];simp)]
     rfl
    ·refine RG.opS rfl (aN (127-k) h7 rfl aw rfl (tk rfl) rfl rfl rfl rfl) rfl ?_;refine RG.opS rfl (ba (127-k) h7 hb rfl (tk rfl) rfl rfl rfl) rfl ?_
     refine wH rfl ?_
     refine RG.opS rfl (ff rfl (tk rfl) rfl rfl rfl hget) rfl ?_
     refine jH ?_;refine zF ?_
     exact⟨k+1,⟨⟨h',fin (by rw [hb];rfl)⟩,by omega⟩,jV,jW⟩
 ·have h':¬ k < 128 := by
   have:=of_decide_eq_false h'
   rw [mV] at this
   omega
  obtain rfl:k=128:=by omega
  have e:c.has h=true:=by
   rw [Cb.has_iff]
   intro i
   by_cases hi:i<128
   ·have:=hg (127-i) (by omega)
    rw [show 127-(127-i)=i by omega] at this
    exact this
   ·rw [Hd.b_hi _ _ (by omega),Hd.b_hi _ _ (by omega),Hd.b_hi _ _ (by omega)];rfl
  rw [e]
  refine zE ?_
  exact zS
theorem zt (t:List (List Rl))(ports:List Pt):aa Tryz.prog 67 [.sl (t.map bp),.sl (ports.map cPt)] (.i .i64 (bZ t ports)):=by
 refine jb Tryz.func67 ?_
 have hlen:(t.map bp).length=t.length:=qG ..
 refine jB ?_;refine wF ?_;refine wH rfl ?_;refine jB ?_
 refine AW.text ?_
 by_cases h1:(((t.map bp).length:Nat):Int)=0
 ·refine RG.runO ae 0 [(14,.b true)] 400 rfl jD ?_
  refine jH ?_;refine zT ?_
  refine jR ?_
  rw [bZ,if_pos (by omega)]
  rfl
 ·by_cases h2:(((t.map bp).length:Nat):Int)>3
  ·refine RG.runO ae 0 [(14,.b false),(18,.b true)] 400 rfl jD ?_
   refine jH ?_;refine zT ?_
   refine jR ?_
   rw [bZ,if_pos (by omega)]
   rfl
  ·refine RG.runO ae 0 [(14,.b false),(18,.b false)] 400 rfl jD ?_
   refine jH ?_;refine zF ?_
   refine AW.lens 20 rfl fun hm=>?_
   rw [hlen] at hm
   refine AW.loopL (ι:=Nat × Int) (fun i=>[(0,.sl (t.map bp)),(1,.sl (ports.map cPt)),(4,.i .i64 0),(5,.i .i64 i.2),(20,.sl (t.map bp)),(21,.i .i64 (t.map bp).length),(22,.i .i64 (i.1:Nat))]) (fun _=>[]) (fun i=>i.1<=t.length/\fw (t.drop i.1) i.2=fw t 0) (fun i=>t.length-i.1) (0,0) ⟨qR _,rfl⟩ jW trivial fun i hi=>?_
   obtain⟨k,n⟩:=i
   obtain⟨hk,hf⟩:=hi
   simp only at hk hf
   refine jA ?_
   refine AW.cond rfl (fun h=>?_) (fun h=>?_)
   ·have h:k<t.length:=by simpa using h
    rw [qT h,fw] at hf
    refine jA ?_
    refine RG.opS rfl (aq rfl (tk rfl) rfl (tk rfl) rfl rfl (show (t.map bp)[k]?=some (bp t[k]) by rw [qF,qA (by assumption)];rfl) rfl) rfl ?_
    refine jH ?_
    exact⟨(k+1,IntKind.i64.wrap (n+((t[k].map cRl).length:Nat))),⟨⟨h,by rw [qG];exact hf⟩,by show t.length-(k+1)<t.length-k;omega⟩,jV,trivial⟩
   have h:¬k<t.length:=by simpa using h
   obtain rfl:k=t.length:=by omega
   rw [vJ] at hf
   refine zE ?_
   refine AW.cond rfl (fun hc=>?_) (fun hc=>?_)
   ·have hc:n>96:=of_decide_eq_true hc
    refine zR ?_
    rw [bZ,if_neg (by omega),<- hf,fw,if_pos hc]
    rfl
   have hc:¬n>96:=of_decide_eq_false hc
   have e1:bZ t ports=if dv t.length ports 0 t then 0 else 2:=by rw [bZ,if_neg (by omega),<- hf,fw,if_neg hc]
   refine jA ?_
   refine AW.loopL (ι:=Nat) (fun k=>[(0,.sl (t.map bp)),(1,.sl (ports.map cPt)),(33,.sl (t.map bp)),(34,.i .i64 (t.map bp).length),(35,.i .i64 (k:Nat))]) (fun _=>[]) (fun k=>k<=t.length/\dv t.length ports k (t.drop k)=dv t.length ports 0 t) (fun k=>t.length-k) 0 ⟨qR _,rfl⟩ jW trivial fun k hk=>?_
   obtain⟨hk,hg⟩:=hk
   refine jA ?_
   refine AW.cond rfl (fun h=>?_) (fun h=>?_)
   ·have h:k<t.length:=by simpa using h
    rw [qT h,dv] at hg
    refine jA ?_
    refine RG.opS rfl (aq rfl (tk rfl) rfl (tk rfl) rfl rfl (show (t.map bp)[k]?=some (bp t[k]) by rw [qF,qA (by assumption)];rfl) rfl) rfl ?_
    refine jH ?_
    generalize hl:t[k]=l at hg
    refine AW.lens 40 rfl fun hml=>?_
    rw [qG] at hml
    refine AW.loopL (ι:=Nat) (fun j=>[(0,.sl (t.map bp)),(1,.sl (ports.map cPt)),(8,.i .i64 (k:Nat)),(33,.sl (t.map bp)),(34,.i .i64 (t.map bp).length),(35,.i .i64 (k:Nat)),(40,.sl (l.map cRl)),(41,.i .i64 (l.map cRl).length),(42,.i .i64 (j:Nat))]) (fun _=>[]) (fun j=>j<=l.length/\(bif fb k t.length ports (l.drop j) then dv t.length ports (k+1) (t.drop (k+1)) else false)=dv t.length ports 0 t) (fun j=>l.length-j) 0 ⟨qR _,hg⟩ jW trivial fun j hj=>?_
    clear hg
    obtain⟨hj,hg⟩:=hj
    refine jA ?_
    refine AW.cond rfl (fun h'=>?_) (fun h'=>?_)
    ·have h':j<l.length:=by simpa using h'
     rw [qT h',fb] at hg
     refine jA ?_
     refine RG.opS rfl (aq rfl (tk rfl) rfl (tk rfl) rfl rfl (show (l.map cRl)[j]?=some (cRl l[j]) by rw [qF,qA (by assumption)];rfl) rfl) rfl ?_
     refine jH ?_
     cases hq:l[j].sound k ports
     ·refine RG.callS rfl rfl rfl rfl rfl (tn l[j] k ports _ hq) rfl rfl ?_;refine jH ?_
      refine zT ?_
      refine jR ?_
      rw [hq] at hg
      rw [e1,<- hg]
      rfl
     ·refine RG.callS rfl rfl rfl rfl rfl (tn l[j] k ports _ hq) rfl rfl ?_;refine jH ?_
      rw [hq,uE] at hg
      refine AW.cond rfl (fun hr=>?_) (fun hr=>?_)
      ·have hr:l[j].act.table>=(((t.map bp).length:Nat):Int):=of_decide_eq_true hr
       rw [qC (by omega)] at hg
       refine zR ?_
       rw [e1,<- hg]
       rfl
      ·have hr:¬l[j].act.table>=(((t.map bp).length:Nat):Int):=of_decide_eq_false hr
       rw [qE (by omega)] at hg
       refine jA ?_
       exact⟨j+1,⟨⟨h',hg⟩,by omega⟩,jV,trivial⟩
    ·have h':¬j<l.length:=by simpa using h'
     obtain rfl:j=l.length:=by omega
     rw [vJ,fb] at hg
     refine zE ?_
     exact⟨k+1,⟨⟨h,hg⟩,by omega⟩,jV,trivial⟩
   ·have h:¬k<t.length:=by simpa using h
    obtain rfl:k=t.length:=by omega
    rw [vJ] at hg
    refine zE ?_
    refine jR ?_
    rw [e1,<- hg]
    rfl
theorem dA {α:Type}{l:List α}{n:Nat}{x d:α}(h:l[n]?=some x):l.getD n d=x:=by rw [qM,h];rfl
theorem xl (t:List (List Pt))(n a:Nat)(r:List Pt)(p:Pt)(hr:t[n]?=some r)(hp:r[a]?=some p)(q:Bool)(hq:cQ t n a p=q):aa Tryz.prog 108 [.agg (ic ⟨t⟩),.i .i64 n,.i .i64 a] (.b q):=by
 subst hq
 refine jb Tryz.func108 ?_
 have hlen:(t.map aP).length=t.length:=qG ..
 refine jA ?_
 refine RG.opS rfl (aq rfl (tk rfl) rfl (tk rfl) rfl rfl (show (t.map aP)[n]?=some (aP r) by rw [qF,hr];rfl) rfl) rfl ?_
 refine wH rfl ?_
 refine RG.opS rfl (aq rfl (tk rfl) rfl (tk rfl) rfl rfl (show (r.map cPt)[a]?=some (cPt p) by rw [qF,hp];rfl) rfl) rfl ?_
 refine jH ?_
 refine AW.cond rfl (fun h0=>?_) (fun h0=>?_)
 ·have h0:p.kind=0:=of_decide_eq_true h0
  refine jA ?_
  refine RG.opS rfl (eG rfl ae (by kernel_rfl) (by kernel_rfl) rfl rfl (wq p Pt.zero) rfl) rfl ?_
  refine zH ?_
  exact congrArg AV.b (by rw [cQ,if_pos h0])
 have h0:¬p.kind=0:=of_decide_eq_false h0
 refine jA ?_
 refine AW.cond rfl (fun h1=>?_) (fun h1=>?_)
 ·have h1:p.kind=1:=of_decide_eq_true h1
  refine zB ?_
  refine wH rfl ?_
  by_cases g1:p=⟨1,p.tenant,0,0,0⟩
  ·refine RG.opS rfl (eG rfl ae (by kernel_rfl) (by kernel_rfl) rfl rfl (wq p ⟨1,p.tenant,0,0,0⟩) (qE g1)) rfl ?_
   by_cases q1:p.tenant>=0
   ·refine RG.runO ae 0 [(34,.b true)] 400 rfl jD ?_
    refine jB ?_
    refine jR ?_
    exact congrArg AV.b (by rw [cQ,if_neg h0,if_pos h1,qE g1,uE,qE (show 0<=p.tenant from q1)];rfl)
   ·refine RG.runO ae 0 [(34,.b false)] 400 rfl jD ?_
    refine jB ?_
    refine jR ?_
    exact congrArg AV.b (by rw [cQ,if_neg h0,if_pos h1,qC (show ¬0<=p.tenant from q1),uI,Bool.and_false])
  ·refine RG.opS rfl (eG rfl ae (by kernel_rfl) (by kernel_rfl) rfl rfl (wq p ⟨1,p.tenant,0,0,0⟩) (qC g1)) rfl ?_
   refine zH ?_
   exact congrArg AV.b (by rw [cQ,if_neg h0,if_pos h1,qC g1];rfl)
 have h1:¬p.kind=1:=of_decide_eq_false h1
 refine jA ?_
 refine AW.cond rfl (fun h2=>?_) (fun h2=>?_)
 ·have h2:p.kind=2:=of_decide_eq_true h2
  have e0:cQ t n a p=fU t n a p:=by rw [cQ,if_neg h0,if_neg h1,if_pos h2]
  refine zB ?_
  by_cases g1:p.tenant=0
  ·by_cases g2:p.cost<1
   ·refine RG.runO ae 0 [(45,.b false),(49,.b true)] 400 rfl jD ?_
    refine jH ?_;refine zT ?_
    refine jR ?_
    rw [e0]
    exact congrArg AV.b (by rw [hlen] at *;simp [fU];omega)
   ·by_cases g3:p.cost>1000
    ·refine RG.runO ae 0 [(45,.b false),(49,.b false),(54,.b true)] 400 rfl jD ?_
     refine jH ?_;refine zT ?_
     refine jR ?_
     rw [e0]
     exact congrArg AV.b (by rw [hlen] at *;simp [fU];omega)
    ·by_cases g4:p.peer<0
     ·refine RG.runO ae 0 [(45,.b false),(49,.b false),(54,.b false),(59,.b true)] 400 rfl jD ?_
      refine jH ?_;refine zT ?_
      refine jR ?_
      rw [e0]
      exact congrArg AV.b (by rw [hlen] at *;simp [fU];omega)
     ·by_cases g5:p.peer>=(((t.map aP).length:Nat):Int)
      ·refine RG.runO ae 0 [(45,.b false),(49,.b false),(54,.b false),(59,.b false),(67,.b true)] 400 rfl jD ?_
       refine jH ?_;refine zT ?_
       refine jR ?_
       rw [e0]
       exact congrArg AV.b (by rw [hlen] at *;simp [fU];omega)
      ·by_cases g6:p.peer=(n:Int)
       ·refine RG.runO ae 0 [(45,.b false),(49,.b false),(54,.b false),(59,.b false),(67,.b false),(73,.b true)] 400 rfl jD ?_
        refine jH ?_;refine zT ?_
        refine jR ?_
        rw [e0]
        exact congrArg AV.b (by rw [hlen] at *;simp [fU];omega)
       ·refine RG.runO ae 0 [(45,.b false),(49,.b false),(54,.b false),(59,.b false),(67,.b false),(73,.b false)] 400 rfl jD ?_
        refine wH rfl ?_;refine jB ?_;refine AW.condF rfl ?_;refine jB ?_
        obtain⟨m,hm⟩:=Int.eq_ofNat_of_zero_le (show 0<=p.peer by omega)
        have hml:m<t.length:=by omega
        refine AW.text ?_
        refine RG.runO ae 0 [(78,.i .i64 (m:Nat))] 400 rfl jD ?_
        refine RG.opS rfl (aq rfl (tk rfl) rfl (tk rfl) rfl rfl (show (t.map aP)[m]?=some (aP t[m]) by rw [qF,qA (by assumption)];rfl) rfl) rfl ?_
        refine wH rfl ?_;refine jB ?_
        have hl2:(t[m].map cPt).length=t[m].length:=qG ..
        have e1:t.getD p.peer.toNat []=t[m]:=by rw [hm,vQ];exact dA (qA hml)
        have e2:cQ t n a p=(decide (0<=p.at_) && (decide (p.at_<t[m].length) && decide (t[m].getD p.at_.toNat Pt.zero=⟨2,0,n,a,p.cost⟩))):=by
         rw [e0,fU,e1]
         rw [hlen] at *
         rw [qE (by omega),qE (by omega),qE (by omega),qE (by omega),qE (by omega),qE (show p.peer≠n by omega)]
         simp only [uE]
        refine AW.draws aJ ?_
        by_cases q1:p.at_>=0
        ·obtain⟨b,hb⟩:=Int.eq_ofNat_of_zero_le q1
         by_cases q2:p.at_<(((t[m].map cPt).length:Nat):Int)
         ·have hbl:b<t[m].length:=by omega
          refine RG.runO ae 0 [(83,.b true),(89,.b true),(94,.i .i64 (b:Nat))] 400 rfl jD ?_
          refine RG.opS rfl (aq rfl (tk rfl) rfl (tk rfl) rfl rfl (show (t[m].map cPt)[b]?=some (cPt t[m][b]) by simp [*]) rfl) rfl ?_
          refine wH rfl ?_
          refine RG.opS rfl (eG rfl ae (by kernel_rfl) (by kernel_rfl) rfl rfl (wq t[m][b] ⟨2,0,n,a,p.cost⟩) rfl) rfl ?_
          refine zH ?_
          exact congrArg AV.b (by rw [e2,qE (show 0<=p.at_ from q1),qE (show p.at_<t[m].length by omega),hb,vQ,dA (qA hbl)];rfl)
         ·refine RG.runO ae 0 [(83,.b true),(89,.b false)] 400 rfl jD ?_
          refine zH ?_
          exact congrArg AV.b (by rw [e2,qC (show ¬p.at_<t[m].length by omega),uI,Bool.and_false])
        ·refine RG.runO ae 0 [(83,.b false)] 400 rfl jD ?_
         refine zH ?_
         exact congrArg AV.b (by rw [e2,qC (show ¬0<=p.at_ by omega),uI])
  ·refine RG.runO ae 0 [(45,.b true)] 400 rfl jD ?_
   refine jH ?_;refine zT ?_
   refine jR ?_
   rw [e0]
   exact congrArg AV.b (by rw [hlen] at *;simp [fU];omega)
 have h2:¬p.kind=2:=of_decide_eq_false h2
 refine zR ?_
 exact congrArg AV.b (by simp [cQ, *])
theorem nq (t:List (List Pt)):aa Tryz.prog 64 [.agg (ic ⟨t⟩)] (.i .i64 (aY t)):=by
 refine jb Tryz.func64 ?_
 have hlen:(t.map aP).length=t.length:=qG ..
 refine jB ?_;refine wF ?_;refine wH rfl ?_;refine jB ?_
 refine AW.text ?_
 by_cases h1:(((t.map aP).length:Nat):Int)=0
 ·refine RG.runO ae 0 [(11,.b true)] 400 rfl jD ?_
  refine jH ?_;refine zT ?_
  refine jR ?_
  rw [aY,if_pos (by omega)]
  rfl
 ·by_cases h2:(((t.map aP).length:Nat):Int)>6
  ·refine RG.runO ae 0 [(11,.b false),(16,.b true)] 400 rfl jD ?_
   refine jH ?_;refine zT ?_
   refine jR ?_
   rw [aY,if_pos (by omega)]
   rfl
  ·refine RG.runO ae 0 [(11,.b false),(16,.b false)] 400 rfl jD ?_
   refine jH ?_;refine zF ?_
   have e1:aY t=if eZ t then (if fR t 0 t then 0 else 2) else 4:=by rw [aY,if_neg (by omega)]
   refine AW.loopL (ι:=Nat) (fun k=>[(1,.own 1 0 0),(19,.sl (t.map aP)),(20,.i .i64 (t.map aP).length),(21,.i .i64 (k:Nat))]) (fun _=>[(1,⟨0,some (.box 24 (ic ⟨t⟩))⟩)]) (fun k=>k<=t.length/\eZ (t.drop k)=eZ t) (fun k=>t.length-k) 0 ⟨qR _,rfl⟩ jW jW fun k hk=>?_
   obtain⟨hk,hg⟩:=hk
   refine jA ?_
   refine AW.cond rfl (fun h=>?_) (fun h=>?_)
   ·have h:k<t.length:=by simpa using h
    have hm:t.length<=6:=by omega
    rw [qT h,eZ] at hg
    refine jA ?_
    refine RG.opS rfl (aq rfl (tk rfl) rfl (tk rfl) rfl rfl (show (t.map aP)[k]?=some (aP t[k]) by rw [qF,qA (by assumption)];rfl) rfl) rfl ?_
    refine jH ?_
    refine AW.cond rfl (fun h'=>?_) (fun h'=>?_)
    ·have h':(((t[k].map cPt).length:Nat):Int)>6:=of_decide_eq_true h'
     rw [qG] at h'
     rw [qE (by omega),cond_true] at hg
     refine zR ?_
     rw [e1,<- hg]
     rfl
    ·have h':¬(((t[k].map cPt).length:Nat):Int)>6:=of_decide_eq_false h'
     rw [qG] at h'
     rw [qC (by omega),cond_false] at hg
     refine jA ?_
     have hm:t.length<=9223372036854775807:=by omega
     exact⟨k+1,⟨⟨h,hg⟩,by omega⟩,jV,jW⟩
   have h:¬k<t.length:=by simpa using h
   obtain rfl:k=t.length:=by omega
   rw [vJ,eZ] at hg
   rw [<- hg,if_pos rfl] at e1
   refine zE ?_
   refine AW.loopL (ι:=Nat) (fun k=>[(1,.own 1 0 0),(30,.sl (t.map aP)),(31,.i .i64 (t.map aP).length),(32,.i .i64 (k:Nat))]) (fun _=>[(1,⟨0,some (.box 24 (ic ⟨t⟩))⟩)]) (fun k=>k<=t.length/\fR t k (t.drop k)=fR t 0 t) (fun k=>t.length-k) 0 ⟨qR _,rfl⟩ jW jW fun k hk=>?_
   clear hg
   obtain⟨hk,hg⟩:=hk
   refine jA ?_
   refine AW.cond rfl (fun h=>?_) (fun h=>?_)
   ·have h:k<t.length:=by simpa using h
    have hm:t.length<=9223372036854775807:=by omega
    rw [qT h,fR] at hg
    refine jA ?_
    refine RG.opS rfl (aq rfl (tk rfl) rfl (tk rfl) rfl rfl (show (t.map aP)[k]?=some (aP t[k]) by rw [qF,qA (by assumption)];rfl) rfl) rfl ?_
    refine jH ?_
    have hr:t[k]?=some t[k]:=qA h
    generalize t[k]=r at hg hr
    refine AW.lens 37 rfl fun hml=>?_
    rw [qG] at hml
    refine AW.loopL (ι:=Nat) (fun j=>[(1,.own 1 0 0),(5,.i .i64 (k:Nat)),(30,.sl (t.map aP)),(31,.i .i64 (t.map aP).length),(32,.i .i64 (k:Nat)),(37,.sl (r.map cPt)),(38,.i .i64 (r.map cPt).length),(39,.i .i64 (j:Nat))]) (fun _=>[(1,⟨0,some (.box 24 (ic ⟨t⟩))⟩)]) (fun j=>j<=r.length/\(bif kx t k j (r.drop j) then fR t (k+1) (t.drop (k+1)) else false)=fR t 0 t) (fun j=>r.length-j) 0 ⟨qR _,hg⟩ jW jW fun j hj=>?_
    clear hg
    obtain⟨hj,hg⟩:=hj
    refine jA ?_
    refine AW.cond rfl (fun h'=>?_) (fun h'=>?_)
    ·have h':j<r.length:=by simpa using h'
     rw [qT h',kx] at hg
     refine jA ?_
     cases hq:cQ t k j r[j]
     ·refine RG.callS rfl rfl rfl rfl rfl (xl t k j r r[j] hr (qA h') _ hq) rfl rfl ?_;refine jH ?_
      rw [hq] at hg
      refine zT ?_
      refine jR ?_
      rw [e1,<- hg]
      rfl
     ·refine RG.callS rfl rfl rfl rfl rfl (xl t k j r r[j] hr (qA h') _ hq) rfl rfl ?_;refine jH ?_
      rw [hq] at hg
      refine zF ?_
      exact⟨j+1,⟨⟨h',hg⟩,by omega⟩,jV,jW⟩
    ·have h':¬j<r.length:=by simpa using h'
     obtain rfl:j=r.length:=by omega
     rw [vJ,kx] at hg
     refine zE ?_
     exact⟨k+1,⟨⟨h,hg⟩,by omega⟩,jV,jW⟩
   ·have h:¬k<t.length:=by simpa using h
    obtain rfl:k=t.length:=by omega
    rw [vJ] at hg
    refine zE ?_
    refine jR ?_
    rw [e1,<- hg]
    rfl
theorem gB {α β:Type}{f:Nat->α->List β}(n:Nat)(l:List α)(out:List β):out.length<=(bJ f n l out).length:=by
 rw [iZ,qK];omega
theorem o8 {α β:Type}{f:Nat->α->List β}{m:Nat}:∀(n:Nat) (l:List α) (out:List β),(∀x∈l,∀n,(f n x).length<=m)->(bJ f n l out).length<=out.length+m*l.length
 |n,[],out,_=>by simp [bJ]
 |n,x::l,out,hf=>by
  have:=o8 (n+1) l (out++f n x) fun y hy=>hf y (qZ _ hy)
  have h2:=hf x vD n
  rw [qK] at this
  rw [bJ,qS,Nat.mul_add,Nat.mul_one]
  omega
theorem gh {t:List (List Pt)}(h:aY t=0):(aI t).length<=36:=by
 obtain⟨_,h2,h3,_⟩:=bX h
 have:=o8 (f:=eY) (m:=6) 0 t [] fun r hr n=>by
  have h4:=fC (f:=km n) (m:=1) (fun a p=>by rw [km];cases decide (p.kind=1) <;> simp) 0 r []
  have h5:=h3 r hr
  rw [eY]
  simp at h4
  omega
 rw [aI]
 simp at this
 omega
theorem i4 (t:List (List Pt))(ht:aY t=0):aa Tryz.prog 71 [.agg (ic ⟨t⟩)] (.sl ((aI t).map cSp)):=by
 refine jb Tryz.func71 ?_
 have hlen:(t.map aP).length=t.length:=qG ..
 have hE:=gh ht
 have hm:t.length<=9223372036854775807:=by have:=(bX ht).2.1;omega
 refine jB ?_;refine wF ?_;refine wH rfl ?_;refine jB ?_
 refine AW.text ?_
 refine RG.opS rfl (bT 3 40 2 rfl) rfl ?_
 refine jH ?_
 refine AW.loopL (ι:=Nat × List Sp) (fun i=>[(1,.own 1 0 0),(3,.row 3 0 0 (i.2.map cSp).length),(9,.sl (t.map aP)),(10,.i .i64 (t.map aP).length),(11,.i .i64 (i.1:Nat))]) (fun i=>[(1,⟨0,some (.box 24 (ic ⟨t⟩))⟩),(3,⟨0,some (.row 40 2 (i.2.map cSp))⟩)]) (fun i=>i.1<=t.length/\bJ eY i.1 (t.drop i.1) i.2=aI t) (fun i=>t.length-i.1) (0,[]) ⟨qR _,rfl⟩ jW jW fun i hi=>?_
 obtain⟨k,out⟩:=i
 obtain⟨hk,hf⟩:=hi
 simp only at hk hf
 refine jA ?_
 refine AW.cond rfl (fun h=>?_) (fun h=>?_)
 ·have h:k<t.length:=by simpa using h
  rw [qT h,bJ] at hf
  refine jA ?_
  refine RG.opS rfl (aq rfl (tk rfl) rfl (tk rfl) rfl rfl (show (t.map aP)[k]?=some (aP t[k]) by rw [qF,qA (by assumption)];rfl) rfl) rfl ?_
  refine jH ?_
  generalize t[k]=r at hf
  refine AW.lens 16 rfl fun hml=>?_
  rw [qG] at hml
  rw [eY,<- iZ] at hf
  refine AW.loopL (ι:=Nat × List Sp) (fun i=>[(1,.own 1 0 0),(3,.row 3 0 0 (i.2.map cSp).length),(4,.i .i64 (k:Nat)),(9,.sl (t.map aP)),(10,.i .i64 (t.map aP).length),(11,.i .i64 (k:Nat)),(16,.sl (r.map cPt)),(17,.i .i64 (r.map cPt).length),(18,.i .i64 (i.1:Nat))]) (fun i=>[(1,⟨0,some (.box 24 (ic ⟨t⟩))⟩),(3,⟨0,some (.row 40 2 (i.2.map cSp))⟩)]) (fun i=>i.1<=r.length/\bJ eY (k+1) (t.drop (k+1)) (bJ (km k) i.1 (r.drop i.1) i.2)=aI t) (fun i=>r.length-i.1) (0,out) ⟨qR _,hf⟩ jW jW fun i hi=>?_
  clear hf
  obtain⟨j,out⟩:=i
  obtain⟨hj,hf⟩:=hi
  simp only at hj hf
  refine jA ?_
  refine AW.cond rfl (fun h'=>?_) (fun h'=>?_)
  ·have h':j<r.length:=by simpa using h'
   have hol:out.length<=36:=by
    have h1:=gB (f:=eY) (k+1) (t.drop (k+1)) (bJ (km k) j (r.drop j) out)
    have h2:=gB (f:=km k) j (r.drop j) out
    rw [hf] at h1
    omega
   rw [qT h',bJ,km] at hf
   refine jA ?_
   refine RG.opS rfl (aq rfl (tk rfl) rfl (tk rfl) rfl rfl (show (r.map cPt)[j]?=some (cPt r[j]) by rw [qF,qA (by assumption)];rfl) rfl) rfl ?_
   refine jH ?_
   refine AW.cond rfl (fun hq=>?_) (fun hq=>?_)
   ·have hq:r[j].kind=1:=of_decide_eq_true hq
    rw [qE hq,cond_true] at hf
    refine zB ?_
    refine wH rfl ?_
    refine RG.opS rfl (bI cSp out ⟨k,j⟩ (by omega) rfl rfl rfl rfl (tk rfl) rfl (tk rfl) rfl rfl ⟨_,rfl,rfl⟩ rfl rfl) rfl ?_;refine jH ?_
    exact⟨(j+1,_),⟨⟨h',hf⟩,by show r.length-(j+1)<r.length-j;omega⟩,jV,jW⟩
   ·have hq:¬r[j].kind=1:=of_decide_eq_false hq
    rw [qC hq,cond_false,uA] at hf
    refine jA ?_
    exact⟨(j+1,_),⟨⟨h',hf⟩,by show r.length-(j+1)<r.length-j;omega⟩,jV,jW⟩
  ·have h':¬j<r.length:=by simpa using h'
   obtain rfl:j=r.length:=by omega
   rw [vJ (l:=r),bJ] at hf
   refine zE ?_
   exact⟨(k+1,out),⟨⟨h,hf⟩,by show t.length-(k+1)<t.length-k;omega⟩,jV,jW⟩
 ·have h:¬k<t.length:=by simpa using h
  obtain rfl:k=t.length:=by omega
  rw [vJ,bJ] at hf
  refine zE ?_
  refine jR ?_
  exact bw (congrArg (List.map cSp) hf)
theorem uv (t:List (List Pt))(s:Sp):(∃(n a:Nat) (h:n<t.length) (h':a<t[n].length),s=⟨n,a⟩/\cK t s=true/\bf t s=t[n][a])\/(s.sw<0/\cK t s=false)\/(¬s.sw<0/\s.sw>=(t.length:Nat)/\cK t s=false)\/(∃(n:Nat) (h:n<t.length),s.sw=(n:Nat)/\((s.port<0/\cK t s=false)\/(¬s.port<0/\s.port>=(t[n].length:Nat)/\cK t s=false))):=by
 obtain⟨sw,port⟩:=s
 by_cases h1:sw<0
 ·exact Or.inr (Or.inl ⟨h1,by simp only [cK];rw [qC (by omega),uI]⟩)
 obtain⟨n,rfl⟩:=Int.eq_ofNat_of_zero_le (show 0<=sw by omega)
 rcases Nat.lt_or_ge n t.length with h2|h2
 rotate_left
 ·exact Or.inr (Or.inr (Or.inl ⟨h1,by show (n:Int)>=_;omega,by simp only [cK];rw [qC (show ¬(n:Int)<t.length by omega),uI,Bool.and_false]⟩))
 have e1:t.getD n []=t[n]:=dA (qA h2)
 by_cases h3:port<0
 ·exact Or.inr (Or.inr (Or.inr ⟨n,h2,rfl,Or.inl ⟨h3,by simp only [cK];rw [qC (show ¬0<=port by omega),uI,Bool.and_false,Bool.and_false]⟩⟩))
 obtain⟨a,rfl⟩:=Int.eq_ofNat_of_zero_le (show 0<=port by omega)
 by_cases h4:a<t[n].length
 ·refine Or.inl ⟨n,a,h2,h4,rfl,?_,?_⟩
  ·simp only [cK,vQ,e1]
   rw [qE (by omega),qE (by omega),qE (by omega),qE (by omega)];rfl
  ·simp only [bf,vQ,e1]
   exact dA (qA h4)
 ·refine Or.inr (Or.inr (Or.inr ⟨n,h2,rfl,Or.inr ⟨h3,by show (a:Int)>=_;omega,?_⟩⟩))
  simp only [cK,vQ,e1]
  rw [qC (show ¬(a:Int)<t[n].length by omega),Bool.and_false,Bool.and_false,Bool.and_false]
theorem y5 (t:List (List Pt))(s:Sp):aa Tryz.prog 19 [.agg (ic ⟨t⟩),.agg (cSp s)] (.i .i64 (aZ t s)):=by
 refine jb Tryz.func19 ?_
 have hlen:(t.map aP).length=t.length:=qG ..
 refine jB ?_;refine wF ?_;refine wH rfl ?_;refine jB ?_
 refine AW.draws aJ ?_
 rcases uv t s with⟨n,a,h,h',rfl,e1,e2⟩|⟨h1,e1⟩|⟨h1,h2,e1⟩|⟨n,h,hn,⟨h1,e1⟩|⟨h1,h2,e1⟩⟩
 ·have l2:(t[n].map cPt).length=t[n].length:=qG ..
  have g1:¬((n:Nat):Int)<0:=by omega
  have g2:¬((n:Nat):Int)>=(((t.map aP).length:Nat):Int):=by omega
  have g3:¬((a:Nat):Int)<0:=by omega
  have g4:¬((a:Nat):Int)>=(((t[n].map cPt).length:Nat):Int):=by omega
  refine RG.runO ae 0 [(7,.b false),(14,.b false),(19,.b false)] 400 rfl jD ?_
  refine RG.opS rfl (aq rfl (tk rfl) rfl (tk rfl) rfl rfl (show (t.map aP)[n]?=some (aP t[n]) by rw [qF,qA (by assumption)];rfl) rfl) rfl ?_
  refine RG.runO ae 0 [(31,.b false)] 400 rfl jD ?_
  refine RG.opS rfl (aq rfl (tk rfl) rfl (tk rfl) rfl rfl (show (t.map aP)[n]?=some (aP t[n]) by rw [qF,qA (by assumption)];rfl) rfl) rfl ?_
  refine wH rfl ?_
  refine RG.opS rfl (aq rfl (tk rfl) rfl (tk rfl) rfl rfl (show (t[n].map cPt)[a]?=some (cPt t[n][a]) by rw [qF,qA (by assumption)];rfl) rfl) rfl ?_
  refine wH rfl ?_;refine jB ?_
  refine AW.cond rfl (fun hq=>?_) (fun hq=>?_)
  ·have hq:¬t[n][a].kind=1:=by simpa using hq
   refine zR ?_
   rw [aZ,e1,e2,qC hq]
   rfl
  ·have hq:t[n][a].kind=1:=by simpa using hq
   refine zD ?_
   refine wH rfl ?_
   refine RG.opS rfl (aq rfl (tk rfl) rfl (tk rfl) rfl rfl (show (t.map aP)[n]?=some (aP t[n]) by rw [qF,qA (by assumption)];rfl) rfl) rfl ?_
   refine wH rfl ?_
   refine RG.opS rfl (aq rfl (tk rfl) rfl (tk rfl) rfl rfl (show (t[n].map cPt)[a]?=some (cPt t[n][a]) by rw [qF,qA (by assumption)];rfl) rfl) rfl ?_
   refine zH ?_
   rw [aZ,e1,e2,qE hq]
   rfl
 ·refine RG.runO ae 0 [(7,.b true)] 400 rfl jD ?_
  refine jB ?_;refine zT ?_
  refine jR ?_
  rw [aZ,e1];rfl
 ·have h2:s.sw>=(((t.map aP).length:Nat):Int):=by omega
  refine RG.runO ae 0 [(7,.b false),(14,.b true)] 400 rfl jD ?_
  refine jB ?_;refine zT ?_
  refine jR ?_
  rw [aZ,e1];rfl
 ·have g1:¬s.sw<0:=by omega
  have g2:¬s.sw>=(((t.map aP).length:Nat):Int):=by omega
  refine RG.runO ae 0 [(7,.b false),(14,.b false),(19,.b true)] 400 rfl jD ?_
  refine jB ?_;refine zT ?_
  refine jR ?_
  rw [aZ,e1];rfl
 ·have g1:¬s.sw<0:=by omega
  have g2:¬s.sw>=(((t.map aP).length:Nat):Int):=by omega
  have l2:(t[n].map cPt).length=t[n].length:=qG ..
  have h2:s.port>=(((t[n].map cPt).length:Nat):Int):=by omega
  refine RG.runO ae 0 [(7,.b false),(14,.b false),(19,.b false),(27,.i .i64 (n:Nat))] 400 rfl jD ?_
  refine RG.opS rfl (aq rfl (tk rfl) rfl (tk rfl) rfl rfl (show (t.map aP)[n]?=some (aP t[n]) by rw [qF,qA (by assumption)];rfl) rfl) rfl ?_
  refine RG.runO ae 0 [(31,.b true)] 400 rfl jD ?_
  refine jB ?_;refine zT ?_
  refine jR ?_
  rw [aZ,e1];rfl
theorem bW (p:Pol)(n:Int)(q:Bool)(hq:bB p n=q):aa Tryz.prog 109 [.agg (ur p),.i .i64 n] (.b q):=by
 subst hq
 refine jb Tryz.func109 ?_
 refine jB ?_;refine wF ?_;refine wH rfl ?_;refine jB ?_
 refine AW.text ?_
 by_cases h1:n>=0
 ·refine RG.runO ae 0 [(6,.b true)] 400 rfl jD ?_
  refine zH ?_
  exact congrArg AV.b (by rw [bB,qE (show 0<=n from h1),uE])
 ·refine RG.runO ae 0 [(6,.b false)] 400 rfl jD ?_
  refine zH ?_
  exact congrArg AV.b (by rw [bB,qC (show ¬0<=n from h1),uI])
theorem f8 {t:List (List Pt)}{n a:Nat}{r:List Pt}{p:Pt}(hr:t[n]?=some r)(hp:r[a]?=some p):bf t ⟨n,a⟩=p:=by
 simp only [bf,vQ]
 rw [dA hr]
 exact dA hp
theorem xI (c:Cf)(ht:aY c.topo.ports=0)(q:Bool)(hq:dm c=q):aa Tryz.prog 65 [.agg (cCf c)] (.b q):=by
 subst hq
 refine jb Tryz.func65 ?_
 have hl1:(c.pol.peers.map cPr).length=c.pol.peers.length:=qG ..
 have hl2:(c.pol.ways.map cWy).length=c.pol.ways.length:=qG ..
 refine jB ?_;refine wF ?_;refine wH rfl ?_;refine jB ?_;refine wF ?_;refine wH rfl ?_;refine jB ?_
 refine AW.text ?_
 by_cases h1:c.pol.tenants<1
 ·refine RG.runO ae 0 [(10,.b true)] 400 rfl jD ?_
  refine jH ?_;refine zT ?_
  refine jR ?_
  exact congrArg AV.b (by simp [dm];omega)
 ·by_cases h2:c.pol.tenants>4
  ·refine RG.runO ae 0 [(10,.b false),(14,.b true)] 400 rfl jD ?_
   refine jH ?_;refine zT ?_
   refine jR ?_
   exact congrArg AV.b (by simp [dm];omega)
  ·by_cases h3:(((c.pol.peers.map cPr).length:Nat):Int)>16
   ·refine RG.runO ae 0 [(10,.b false),(14,.b false),(20,.b true)] 400 rfl jD ?_
    refine jH ?_;refine zT ?_
    refine jR ?_
    exact congrArg AV.b (by simp [dm];omega)
   ·by_cases h4:(((c.pol.ways.map cWy).length:Nat):Int)>4
    ·refine RG.runO ae 0 [(10,.b false),(14,.b false),(20,.b false),(26,.b true)] 400 rfl jD ?_
     refine jH ?_;refine zT ?_
     refine jR ?_
     exact congrArg AV.b (by simp [dm];omega)
    ·refine RG.runO ae 0 [(10,.b false),(14,.b false),(20,.b false),(26,.b false)] 400 rfl jD ?_
     have e1:dm c=gq c (aI c.topo.ports):=by
      rw [dm,qE (by omega),qE (by omega),qE (by omega),qE (by omega)]
      rfl
     rw [e1]
     refine jH ?_;refine zF ?_
     refine jm (i4 c.topo.ports ht) ?_;refine jH ?_
     have hE:=gh ht
     have hmem:∀s∈aI c.topo.ports,∃(n:Nat) (r:List Pt) (a:Nat) (p:Pt),c.topo.ports[n]?=some r/\r[a]?=some p/\p.kind=1/\s=⟨n,a⟩:=fun s hs=>dO.1 hs
     generalize aI c.topo.ports=es at hE hmem
     refine AW.loopL (ι:=Nat) (fun k=>[(1,.own 1 0 0),(3,.own 3 0 0),(30,.sl (es.map cSp)),(31,.i .i64 (es.map cSp).length),(32,.i .i64 (k:Nat))]) (fun _=>[(1,⟨0,some (.box 31 (cCf c))⟩),(3,⟨0,some (.box 28 (ur c.pol))⟩)]) (fun k=>k<=es.length/\gq c (es.drop k)=gq c es) (fun k=>es.length-k) 0 ⟨qR _,rfl⟩ jW jW fun k hk=>?_
     obtain⟨hk,hg⟩:=hk
     refine jA ?_
     refine AW.cond rfl (fun h=>?_) (fun h=>?_)
     ·have h:k<es.length:=by simpa using h
      have hm:es.length<=9223372036854775807:=by omega
      obtain⟨n,r,a,p,hr,hp,hkd,he⟩:=hmem _ (vR h)
      rw [qT h,gq,he,f8 hr hp] at hg
      refine jA ?_
      refine RG.opS rfl (aq rfl (tk rfl) rfl (tk rfl) rfl rfl (show (es.map cSp)[k]?=some (cSp ⟨n,a⟩) by rw [qF,qA h,he];rfl) rfl) rfl ?_
      refine jH ?_
      refine RG.opS rfl (aq rfl (tk rfl) rfl (tk rfl) rfl rfl (show (c.topo.ports.map aP)[n]?=some (aP r) by rw [qF,hr];rfl) rfl) rfl ?_
      refine wH rfl ?_
      refine RG.opS rfl (aq rfl (tk rfl) rfl (tk rfl) rfl rfl (show (r.map cPt)[a]?=some (cPt p) by rw [qF,hp];rfl) rfl) rfl ?_
      refine wH rfl ?_
      cases hq:bB c.pol p.tenant
      ·refine RG.callS rfl rfl rfl rfl rfl (bW c.pol p.tenant _ hq) rfl rfl ?_;refine jH ?_
       rw [hq] at hg
       refine zT ?_
       refine jR ?_
       exact congrArg AV.b hg
      ·refine RG.callS rfl rfl rfl rfl rfl (bW c.pol p.tenant _ hq) rfl rfl ?_;refine jH ?_
       rw [hq] at hg
       refine zF ?_
       exact⟨k+1,⟨⟨h,hg⟩,by omega⟩,jV,jW⟩
     ·have h:¬k<es.length:=by simpa using h
      obtain rfl:k=es.length:=by omega
      rw [vJ] at hg
      refine zE ?_
      refine jR ?_
      exact congrArg AV.b hg
theorem sG (c:Cf)(hp:c.pol.peers.length<=16)(hw:c.pol.ways.length<=4)(q:Bool)(hq:ko c=q):aa Tryz.prog 66 [.agg (cCf c)] (.b q):=by
 subst hq
 refine jb Tryz.func66 ?_
 have hlt:(c.topo.ports.map aP).length=c.topo.ports.length:=qG ..
 refine jA ?_
 refine AW.loopL (ι:=Nat) (fun k=>[(1,.own 1 0 0),(3,.own 3 0 0),(11,.sl (c.pol.peers.map cPr)),(12,.i .i64 (c.pol.peers.map cPr).length),(13,.i .i64 (k:Nat))]) (fun _=>[(1,⟨0,some (.box 31 (cCf c))⟩),(3,⟨0,some (.box 28 (ur c.pol))⟩)]) (fun k=>k<=c.pol.peers.length/\je c.pol (c.pol.peers.drop k)=je c.pol c.pol.peers) (fun k=>c.pol.peers.length-k) 0 ⟨qR _,rfl⟩ jW jW fun k hk=>?_
 obtain⟨hk,hg⟩:=hk
 refine jA ?_
 refine AW.cond rfl (fun h=>?_) (fun h=>?_)
 ·have h:k<c.pol.peers.length:=by simpa using h
  have hm:c.pol.peers.length<=9223372036854775807:=by omega
  rw [qT h,je] at hg
  refine jA ?_
  refine RG.opS rfl (aq rfl (tk rfl) rfl (tk rfl) rfl rfl (show (c.pol.peers.map cPr)[k]?=some (cPr c.pol.peers[k]) by rw [qF,qA (by assumption)];rfl) rfl) rfl ?_
  refine jH ?_
  generalize c.pol.peers[k]=x at hg
  cases h1:bB c.pol x.1
  ·refine RG.callS rfl rfl rfl rfl rfl (bW c.pol x.1 _ h1) rfl rfl ?_;refine jH ?_
   rw [h1] at hg
   refine zT ?_
   refine jR ?_
   exact congrArg AV.b (by rw [ko,<- hg];rfl)
  refine RG.callS rfl rfl rfl rfl rfl (bW c.pol x.1 _ h1) rfl rfl ?_;refine jH ?_
  cases h2:bB c.pol x.2
  ·refine RG.callS rfl rfl rfl rfl rfl (bW c.pol x.2 _ h2) rfl rfl ?_;refine jH ?_
   rw [h1,h2] at hg
   refine zT ?_
   refine jR ?_
   exact congrArg AV.b (by rw [ko,<- hg];rfl)
  refine RG.callS rfl rfl rfl rfl rfl (bW c.pol x.2 _ h2) rfl rfl ?_;refine jH ?_
  rw [h1,h2] at hg
  refine zF ?_
  exact⟨k+1,⟨⟨h,hg⟩,by omega⟩,jV,jW⟩
 have h:¬k<c.pol.peers.length:=by simpa using h
 obtain rfl:k=c.pol.peers.length:=by omega
 rw [vJ,je] at hg
 have e1:ko c=lK c.pol c.topo.ports.length c.pol.ways:=by rw [ko,<- hg];rfl
 rw [e1]
 clear hg
 refine zE ?_
 refine AW.loopL (ι:=Nat) (fun k=>[(1,.own 1 0 0),(3,.own 3 0 0),(31,.sl (c.pol.ways.map cWy)),(32,.i .i64 (c.pol.ways.map cWy).length),(33,.i .i64 (k:Nat))]) (fun _=>[(1,⟨0,some (.box 31 (cCf c))⟩),(3,⟨0,some (.box 28 (ur c.pol))⟩)]) (fun k=>k<=c.pol.ways.length/\lK c.pol c.topo.ports.length (c.pol.ways.drop k)=lK c.pol c.topo.ports.length c.pol.ways) (fun k=>c.pol.ways.length-k) 0 ⟨qR _,rfl⟩ jW jW fun k hk=>?_
 obtain⟨hk,hg⟩:=hk
 refine jA ?_
 refine AW.cond rfl (fun h=>?_) (fun h=>?_)
 ·have h:k<c.pol.ways.length:=by simpa using h
  have hm:c.pol.ways.length<=9223372036854775807:=by omega
  rw [qT h,lK] at hg
  refine jA ?_
  refine RG.opS rfl (aq rfl (tk rfl) rfl (tk rfl) rfl rfl (show (c.pol.ways.map cWy)[k]?=some (cWy c.pol.ways[k]) by rw [qF,qA (by assumption)];rfl) rfl) rfl ?_
  refine jH ?_
  generalize c.pol.ways[k]=w at hg
  cases h1:bB c.pol w.fro
  ·refine RG.callS rfl rfl rfl rfl rfl (bW c.pol w.fro _ h1) rfl rfl ?_;refine jH ?_
   rw [h1] at hg
   refine zT ?_
   refine jR ?_
   exact congrArg AV.b hg
  refine RG.callS rfl rfl rfl rfl rfl (bW c.pol w.fro _ h1) rfl rfl ?_;refine jH ?_
  cases h2:bB c.pol w.to
  ·refine RG.callS rfl rfl rfl rfl rfl (bW c.pol w.to _ h2) rfl rfl ?_;refine jH ?_
   rw [h1,h2] at hg
   refine zT ?_
   refine jR ?_
   exact congrArg AV.b hg
  refine RG.callS rfl rfl rfl rfl rfl (bW c.pol w.to _ h2) rfl rfl ?_
  rw [h1,h2,uE,uE] at hg
  by_cases g1:w.via<0
  ·refine RG.runO ae 0 [(52,.b true)] 400 rfl jD ?_
   refine jB ?_;refine zT ?_
   refine jR ?_
   refine congrArg AV.b (Eq.trans ?_ hg)
   rw [show (decide (0<=w.via) && decide (w.via<(c.topo.ports.length:Nat)))=false by simp;omega]
   rfl
  ·by_cases g2:w.via>=(((c.topo.ports.map aP).length:Nat):Int)
   ·refine RG.runO ae 0 [(52,.b false),(61,.b true)] 400 rfl jD ?_
    refine jB ?_;refine zT ?_
    refine jR ?_
    refine congrArg AV.b (Eq.trans ?_ hg)
    rw [show (decide (0<=w.via) && decide (w.via<(c.topo.ports.length:Nat)))=false by simp;omega]
    rfl
   ·refine RG.runO ae 0 [(52,.b false),(61,.b false)] 400 rfl jD ?_
    rw [qE (show 0<=w.via by omega),qE (by omega)] at hg
    refine jB ?_;refine zF ?_
    exact⟨k+1,⟨⟨h,hg⟩,by omega⟩,jV,jW⟩
 ·have h:¬k<c.pol.ways.length:=by simpa using h
  obtain rfl:k=c.pol.ways.length:=by omega
  rw [vJ] at hg
  refine zE ?_
  refine jR ?_
  exact congrArg AV.b hg
theorem iw {c:Cf}(h:dm c=true):c.pol.peers.length<=16/\c.pol.ways.length<=4:=by
 simp [dm] at h
 omega
theorem dR (c:Cf):aa Tryz.prog 32 [.agg (cCf c)] (.i .i64 c.sound):=by
 refine jb Tryz.func32 ?_
 have hlt:(c.topo.ports.map aP).length=c.topo.ports.length:=qG ..
 have hlb:(c.tables.map bY).length=c.tables.length:=qG ..
 refine jA ?_
 refine jc (nq c.topo.ports) ?_;refine jH ?_
 refine AW.cond rfl (fun h=>?_) (fun h=>?_)
 ·have h:¬aY c.topo.ports=0:=by simpa using h
  refine zR ?_
  rw [Cf.sound,if_neg h]
  rfl
 have ht:aY c.topo.ports=0:=by simpa using h
 refine jA ?_
 cases h1:dm c
 ·refine RG.callS rfl rfl rfl rfl rfl (xI c ht _ h1) rfl rfl ?_;refine jH ?_
  refine zT ?_
  refine jR ?_
  rw [Cf.sound,if_pos ht,h1]
  rfl
 refine RG.callS rfl rfl rfl rfl rfl (xI c ht _ h1) rfl rfl ?_;refine jH ?_
 refine zF ?_
 cases h2:ko c
 ·refine RG.callS rfl rfl rfl rfl rfl (sG c (iw h1).1 (iw h1).2 _ h2) rfl rfl ?_;refine jH ?_
  refine zT ?_
  refine jR ?_
  rw [Cf.sound,if_pos ht,h1,h2]
  rfl
 refine RG.callS rfl rfl rfl rfl rfl (sG c (iw h1).1 (iw h1).2 _ h2) rfl rfl ?_;refine jH ?_
 refine zF ?_
 refine AW.cond rfl (fun h3=>?_) (fun h3=>?_)
 ·have h3:¬ c.tables.length = c.topo.ports.length := by
   simp at h3
   omega
  refine zR ?_
  rw [Cf.sound,if_pos ht,h1,h2,cond_true,cond_true,if_neg h3]
  rfl
 have h3:c.tables.length=c.topo.ports.length:=by
  simp at h3
  omega
 have hle:c.tables.length<=9223372036854775807:=by
  have:=(bX ht).2.1
  omega
 have e1:c.sound=dl c.topo.ports 0 c.tables:=by rw [Cf.sound,if_pos ht,h1,h2,cond_true,cond_true,if_pos h3]
 rw [e1]
 refine jA ?_
 refine AW.loopL (ι:=Nat) (fun k=>[(1,.own 1 0 0),(31,.sl (c.tables.map bY)),(32,.i .i64 (c.tables.map bY).length),(33,.i .i64 (k:Nat))]) (fun _=>[(1,⟨0,some (.box 31 (cCf c))⟩)]) (fun k=>k<=c.tables.length/\dl c.topo.ports k (c.tables.drop k)=dl c.topo.ports 0 c.tables) (fun k=>c.tables.length-k) 0 ⟨qR _,rfl⟩ jW jW fun k hk=>?_
 obtain⟨hk,hg⟩:=hk
 refine jA ?_
 refine AW.cond rfl (fun h=>?_) (fun h=>?_)
 ·have h:k<c.tables.length:=by simpa using h
  have hr:c.topo.ports[k]?=some (c.topo.ports[k]'(by omega)):=qA (by omega)
  have hq:(c.topo.ports.map aP)[k]?=some (aP (c.topo.ports[k]'(by omega))):=by rw [qF,hr];rfl
  rw [qT h,dl,dA hr] at hg
  generalize (c.topo.ports[k]'(by omega))=r at hg hq
  refine jA ?_
  refine RG.opS rfl (aq rfl (tk rfl) rfl (tk rfl) rfl rfl (show (c.tables.map bY)[k]?=some (bY c.tables[k]) by rw [qF,qA (by assumption)];rfl) rfl) rfl ?_
  refine jH ?_
  refine jx hq ?_
  refine wH rfl ?_
  refine jc (zt c.tables[k] r) ?_;refine jH ?_
  refine AW.cond rfl (fun h'=>?_) (fun h'=>?_)
  ·have h':¬bZ c.tables[k] r=0:=by simpa using h'
   rw [if_neg h'] at hg
   refine zR ?_
   rw [<- hg]
   rfl
  ·have h':bZ c.tables[k] r=0:=by simpa using h'
   rw [if_pos h'] at hg
   refine jA ?_
   exact⟨k+1,⟨⟨h,hg⟩,by omega⟩,jV,jW⟩
 ·have h:¬k<c.tables.length:=by simpa using h
  obtain rfl:k=c.tables.length:=by omega
  rw [vJ,dl] at hg
  refine zE ?_
  refine jR ?_
  rw [<- hg]
  rfl
def stB (h:Hd)(N V i:Nat):Bool:=if i<88 then h.b i else if i<112 then N.testBit (i-88) else if i<120 then V.testBit (i-112) else false
theorem EO (M:Nat):decide (Int.tmod (M:Int) (Int.ofNat 2)=Int.ofNat 1)=decide (M % 2=1):=by
 have:Int.tmod (M:Int) (Int.ofNat 2)=((M % 2:Nat):Int):=rfl
 rw [this]
 exact decide_eq_decide.2 (by simp only [qH];omega)
theorem E5 (M:Nat)(h:M<=1000000):AV.i .i64 (IntKind.i64.wrap (Int.tdiv (M:Int) (Int.ofNat 2))) = .i .i64 ((M / 2:Nat):Int):=by
 have:Int.tdiv (M:Int) (Int.ofNat 2)=((M / 2:Nat):Int):=rfl
 rw [this,kA0]
 refine congrArg (AV.i .i64) ?_
 have h2:=Nat.div_le_self M 2
 generalize M / 2=q at h2
 omega
theorem tb (N j:Nat):decide (N / 2 ^ j % 2=1)=N.testBit j:=Nat.testBit_eq_decide_div_mod_eq.symm
theorem AY (h g:Hd)(t V:Nat)(ht:t<=1000)(hV:V<=1000)(hg:∀i<128,g.b i=stB h (t+1) V i):aa Tryz.prog 42 [.agg (cHd h),.i .i64 (t:Nat),.i .i64 (V:Nat)] (.agg (cHd g)):=by
 refine jb Tryz.func42 ?_
 have hm:(128:Nat)<=9223372036854775807:=by decide
 refine jA ?_
 refine RG.callS rfl rfl rfl rfl rfl (j7 h) (gy _) rfl ?_
 refine RG.opS rfl (dn (id:=7) rfl aw rfl) rfl ?_
 refine RG.opS rfl (cJ (cq _) rfl aw rfl rfl rfl rfl) rfl ?_
 refine jH ?_
 refine AW.loopL (ι:=Nat × (Nat->Bool)) (fun i=>[(6,.own 6 0 0),(7,.own 7 0 0),(8,.i .i64 (t+1:Nat)),(9,.i .i64 (V:Nat)),(10,.i .i64 (i.1:Nat))]) (fun i=>[(6,⟨0,some (.box 34 (cHd Hd.zero))⟩),(7,⟨0,some (.box 97 (bA i.2))⟩)]) (fun i=>(88<=i.1/\i.1<=128)/\∀j,i.2 j=if 88<=j/\j<i.1 then false else h.b j) (fun i=>128-i.1) (88,h.b) ⟨⟨qJ _,show 88<=128 by decide⟩,fun j=>by rw [if_neg (by show ¬(88<=j/\j<88);omega)]⟩ ⟨Rn.ownIs rfl rfl rfl,Rn.ownIs rfl rfl rfl,Rn.is (ay (show t<1001 by omega) (by decide)) rfl,Rn.is rfl rfl,Rn.is rfl rfl,trivial⟩ jW fun i hi=>?_
 obtain⟨k,f⟩:=i
 obtain⟨⟨h8,hk⟩,hf⟩:=hi
 simp only at h8 hk hf
 refine jA ?_
 refine AW.cond rfl (fun h'=>?_) (fun h'=>?_)
 ·have h':k<128:=Int.ofNat_lt.1 (of_decide_eq_true h')
  refine jA ?_
  refine RG.opS rfl (aN (k) h' rfl aw rfl (tk rfl) rfl rfl rfl rfl) rfl ?_
  refine RG.opS rfl (fg (k) h' rfl (tk rfl) rfl rfl rfl rfl) rfl ?_
  refine jH ?_
  refine⟨(k+1,upB f k false),⟨⟨⟨by show 88<=k+1;omega,h'⟩,fun j=>?_⟩,by show 128-(k+1)<128-k;omega⟩,jV,jW⟩
  show upB f k false j=if 88<=j/\j<k+1 then false else h.b j
  rw [upB]
  by_cases e:j=k
  ·rw [if_pos e,if_pos (by omega)]
  ·rw [if_neg e,hf j]
   by_cases e2:88<=j/\j<k
   ·rw [if_pos e2,if_pos (by omega)]
   ·rw [if_neg e2,if_neg (by omega)]
 have h':¬k<128:=fun h3=>of_decide_eq_false h' (Int.ofNat_lt.2 h3)
 obtain rfl:k=128:=by omega
 refine zE ?_
 refine AW.loopL (ι:=Nat × (Nat->Bool)) (fun i=>[(6,.own 6 0 0),(7,.own 7 0 0),(8,.i .i64 ((t+1) / 2 ^ (i.1-88):Nat)),(9,.i .i64 (V:Nat)),(11,.i .i64 (i.1:Nat))]) (fun i=>[(6,⟨0,some (.box 34 (cHd Hd.zero))⟩),(7,⟨0,some (.box 97 (bA i.2))⟩)]) (fun i=>(88<=i.1/\i.1<=112)/\∀j<128,i.2 j=if j<88 then h.b j else if j<i.1 then (t+1).testBit (j-88) else false) (fun i=>112-i.1) (88,f) ⟨⟨qJ _,show 88<=112 by decide⟩,fun j hj=>by
  show f j=if j<88 then h.b j else if j<88 then _ else false
  rw [hf j]
  by_cases e:j<88
  ·rw [if_pos e,if_neg (by omega)]
  ·rw [if_neg e,if_neg e,if_pos (by omega)]⟩ ⟨Rn.ownIs rfl rfl rfl,Rn.ownIs rfl rfl rfl,Rn.is (by show AV.i .i64 ((t+1:Nat):Int) = .i .i64 (((t+1) / 2 ^ (88-88):Nat):Int);rw [Nat.sub_self,Nat.pow_zero,Nat.div_one]) rfl,Rn.is rfl rfl,Rn.is rfl rfl,trivial⟩ jW fun i hi=>?_
 clear hf hk h8 h'
 obtain⟨k,f⟩:=i
 obtain⟨⟨h8,hk⟩,hf⟩:=hi
 simp only at h8 hk hf
 refine jA ?_
 refine AW.cond rfl (fun h'=>?_) (fun h'=>?_)
 ·have h':k<112:=Int.ofNat_lt.1 (of_decide_eq_true h')
  have hk8:k<128:=by omega
  have hq:(t+1) / 2 ^ (k-88)<=1000000:=vH (Nat.div_le_self _ _) (by omega)
  refine jA ?_
  refine RG.opS rfl (aN (k) hk8 rfl aw rfl (tk rfl) rfl rfl rfl rfl) rfl ?_
  refine RG.opS rfl (fg (k) hk8 rfl (tk rfl) rfl rfl rfl rfl) rfl ?_
  refine jH ?_
  refine⟨(k+1,upB f k _),⟨⟨⟨by show 88<=k+1;omega,h'⟩,fun j hj=>?_⟩,by show 112-(k+1)<112-k;omega⟩,⟨Rn.ownIs rfl rfl rfl,Rn.ownIs rfl rfl rfl,Rn.is ((E5 _ hq).trans ?_) rfl,Rn.is rfl rfl,Rn.is (ay (show k<112 from h') (by decide)) rfl,trivial⟩,jW⟩
  ·show upB f k _ j=if j<88 then h.b j else if j<k+1 then _ else false
   rw [upB]
   by_cases e:j=k
   ·rw [if_pos e,if_neg (by omega),if_pos (by omega),EO,tb,e]
   ·rw [if_neg e,hf j hj]
    by_cases e1:j<88
    ·rw [if_pos e1,if_pos e1]
    ·rw [if_neg e1,if_neg e1]
     by_cases e2:j<k
     ·rw [if_pos e2,if_pos (by omega)]
     ·rw [if_neg e2,if_neg (by omega)]
  ·show AV.i .i64 (((t+1) / 2 ^ (k-88) / 2:Nat):Int) = .i .i64 (((t+1) / 2 ^ (k+1-88):Nat):Int)
   rw [Nat.div_div_eq_div_mul,<- Nat.pow_succ,show (k-88).succ=k+1-88 by omega]
 have h':¬k<112:=fun h3=>of_decide_eq_false h' (Int.ofNat_lt.2 h3)
 obtain rfl:k=112:=by omega
 refine zE ?_
 refine AW.loopL (ι:=Nat × (Nat->Bool)) (fun i=>[(6,.own 6 0 0),(7,.own 7 0 0),(9,.i .i64 (V / 2 ^ (i.1-112):Nat)),(12,.i .i64 (i.1:Nat))]) (fun i=>[(6,⟨0,some (.box 34 (cHd Hd.zero))⟩),(7,⟨0,some (.box 97 (bA i.2))⟩)]) (fun i=>(112<=i.1/\i.1<=120)/\∀j<128,i.2 j=if j<88 then h.b j else if j<112 then (t+1).testBit (j-88) else if j<i.1 then V.testBit (j-112) else false) (fun i=>120-i.1) (112,f) ⟨⟨qJ _,show 112<=120 by decide⟩,fun j hj=>by
  show f j=if j<88 then h.b j else if j<112 then _ else if j<112 then _ else false
  rw [hf j hj]
  by_cases e:j<112
  ·rw [if_pos e,if_pos e]
  ·rw [if_neg e,if_neg e,if_neg e]⟩ ⟨Rn.ownIs rfl rfl rfl,Rn.ownIs rfl rfl rfl,Rn.is (by show AV.i .i64 ((V:Nat):Int) = .i .i64 ((V / 2 ^ (112-112):Nat):Int);rw [Nat.sub_self,Nat.pow_zero,Nat.div_one]) rfl,Rn.is rfl rfl,trivial⟩ jW fun i hi=>?_
 clear hf hk h8 h'
 obtain⟨k,f⟩:=i
 obtain⟨⟨h8,hk⟩,hf⟩:=hi
 simp only at h8 hk hf
 refine jA ?_
 refine AW.cond rfl (fun h'=>?_) (fun h'=>?_)
 ·have h':k<120:=Int.ofNat_lt.1 (of_decide_eq_true h')
  have hk8:k<128:=by omega
  have hq:V / 2 ^ (k-112)<=1000000:=vH (Nat.div_le_self _ _) (by omega)
  refine jA ?_
  refine RG.opS rfl (aN (k) hk8 rfl aw rfl (tk rfl) rfl rfl rfl rfl) rfl ?_
  refine RG.opS rfl (fg (k) hk8 rfl (tk rfl) rfl rfl rfl rfl) rfl ?_
  refine jH ?_
  refine⟨(k+1,upB f k _),⟨⟨⟨by show 112<=k+1;omega,h'⟩,fun j hj=>?_⟩,by show 120-(k+1)<120-k;omega⟩,⟨Rn.ownIs rfl rfl rfl,Rn.ownIs rfl rfl rfl,Rn.is ((E5 _ hq).trans ?_) rfl,Rn.is (ay (show k<120 from h') (by decide)) rfl,trivial⟩,jW⟩
  ·show upB f k _ j=if j<88 then h.b j else if j<112 then _ else if j<k+1 then _ else false
   rw [upB]
   by_cases e:j=k
   ·rw [if_pos e,if_neg (by omega),if_neg (by omega),if_pos (by omega),EO,tb,e]
   ·rw [if_neg e,hf j hj]
    by_cases e1:j<88
    ·rw [if_pos e1,if_pos e1]
    ·rw [if_neg e1,if_neg e1]
     by_cases e3:j<112
     ·rw [if_pos e3,if_pos e3]
     ·rw [if_neg e3,if_neg e3]
      by_cases e2:j<k
      ·rw [if_pos e2,if_pos (by omega)]
      ·rw [if_neg e2,if_neg (by omega)]
  ·show AV.i .i64 ((V / 2 ^ (k-112) / 2:Nat):Int) = .i .i64 ((V / 2 ^ (k+1-112):Nat):Int)
   rw [Nat.div_div_eq_div_mul,<- Nat.pow_succ,show (k-112).succ=k+1-112 by omega]
 have h':¬k<120:=fun h3=>of_decide_eq_false h' (Int.ofNat_lt.2 h3)
 obtain rfl:k=120:=by omega
 refine zE ?_
 refine RG.opS rfl (lj rfl aw rfl rfl rfl rfl) rfl ?_
 refine RG.callS rfl rfl rfl (sT _) rfl (An f g fun i hi=>by rw [hg i hi,hf i hi];rfl) rfl rfl ?_
 refine zH ?_
 rfl
def BD:Option (Nat × Int)->Int
 |none=>-1
 |some x=>(x.1:Nat)
def Ir (o:Option Nat):AV:=.tup [.i .i64 ((o.getD 0:Nat):Int),.b o.isSome]
theorem Dk (l:List Rl)(h:Hd):aa Tryz.prog 43 [.sl (l.map cRl),.agg (cHd h)] (Ir (fnd l h)):=by
 refine jb Tryz.func43 ?_
 refine jA ?_
 refine AW.loopL (ι:=Nat × Option (Nat × Int)) (fun i=>[(0,.sl (l.map cRl)),(3,.own 3 0 0),(6,.i .i64 (BD i.2)),(7,.i .i64 (i.1:Nat))]) (fun _=>[(3,⟨0,some (.box 34 (cHd h))⟩)]) (fun i=>(i.1<=l.length/\∀x,i.2=some x->∃r,l[x.1]?=some r/\r.prio=x.2)/\gV h i.1 (l.drop i.1) i.2=gV h 0 l none) (fun i=>l.length-i.1) (0,none) ⟨⟨qR _,fun x hx=>by cases hx⟩,rfl⟩ jW jW fun i hi=>?_
 obtain⟨k,b⟩:=i
 obtain⟨⟨hk,hb⟩,hf⟩:=hi
 simp only at hk hb hf
 refine jA ?_
 refine AW.lens 11 rfl fun hm=>?_
 rw [qG] at hm
 refine AW.cond rfl (fun h0'=>?_) (fun h0'=>?_)
 ·have h':k<l.length:=by simpa using h0'
  rw [qT h',gV] at hf
  have hkr:l[k]?=some l[k]:=qA h'
  have hkx:(l.map cRl)[k]?=some (cRl l[k]):=by rw [qF,hkr];rfl
  generalize l[k]=r at hf hkr hkx
  have stay:r.mat.has h=false->gV h (k+1) (l.drop (k+1)) b=gV h 0 l none:=fun e=>by
   rw [e] at hf
   exact hf
  refine jA ?_
  refine jx hkx ?_
  refine wH rfl ?_
  cases h1:r.mat.sound
  ·have e:r.mat.has h=false:=by rw [Cb.has,h1];rfl
   refine RG.callS rfl rfl rfl rfl rfl (rh r.mat _ h1) rfl rfl ?_;refine jH ?_
   refine zF ?_
   exact⟨(k+1,b),⟨⟨⟨h',hb⟩,stay e⟩,by show l.length-(k+1)<l.length-k;omega⟩,jV,jW⟩
  refine RG.callS rfl rfl rfl rfl rfl (rh r.mat _ h1) rfl rfl ?_;refine jH ?_
  cases e:r.mat.has h
  ·refine RG.callS rfl rfl rfl rfl rfl (rr r.mat h h1 _ e) rfl rfl ?_;refine jH ?_
   refine zF ?_
   exact⟨(k+1,b),⟨⟨⟨h',hb⟩,stay e⟩,by show l.length-(k+1)<l.length-k;omega⟩,jV,jW⟩
  rw [e,uE] at hf
  cases b with
  |none=>
   refine RG.callS rfl rfl rfl rfl rfl (rr r.mat h h1 _ e) rfl rfl ?_;refine jH ?_
   refine zT ?_
   exact⟨(k+1,some (k,r.prio)),⟨⟨⟨h',fun x hx=>by rw [<- qB hx];exact⟨r,hkr,rfl⟩⟩,hf⟩,by show l.length-(k+1)<l.length-k;omega⟩,jV,jW⟩
  |some x=>
   obtain⟨rx,hx1,hx2⟩:=hb x rfl
   have hxx:(l.map cRl)[x.1]?=some (cRl rx):=by rw [qF,hx1];rfl
   have hneg:¬BD (some x)<0:=by show ¬((x.1:Nat):Int)<0;omega
   refine RG.callS rfl rfl rfl rfl rfl (rr r.mat h h1 _ e) rfl rfl ?_
   refine RG.runO ae 0 [(33,.b false)] 400 rfl jD ?_
   refine jx hkx ?_
   refine wH rfl ?_
   refine jx hxx ?_
   refine wH rfl ?_;refine jB ?_
   refine AW.cond rfl (fun hq=>?_) (fun hq=>?_)
   ·have hq:rx.prio<r.prio:=of_decide_eq_true hq
    have e2:(some x).all (fun q=>decide (q.2<r.prio))=true:=by
     show decide (x.2<r.prio)=true
     rw [<- hx2];exact qE hq
    rw [e2,cond_true] at hf
    refine jA ?_
    exact⟨(k+1,some (k,r.prio)),⟨⟨⟨h',fun x hx=>by rw [<- qB hx];exact⟨r,hkr,rfl⟩⟩,hf⟩,by show l.length-(k+1)<l.length-k;omega⟩,jV,jW⟩
   ·have hq:¬rx.prio<r.prio:=of_decide_eq_false hq
    have e2:(some x).all (fun q=>decide (q.2<r.prio))=false:=by
     show decide (x.2<r.prio)=false
     rw [<- hx2];exact qC hq
    rw [e2,cond_false] at hf
    refine jA ?_
    exact⟨(k+1,some x),⟨⟨⟨h',hb⟩,hf⟩,by show l.length-(k+1)<l.length-k;omega⟩,jV,jW⟩
 ·have h':¬k<l.length:=by simpa using h0'
  obtain rfl:k=l.length:=by omega
  rw [vJ,gV] at hf
  refine zE ?_
  cases b with
  |none=>
   refine zT ?_
   refine jR ?_
   rw [fnd,<- hf]
   rfl
  |some x=>
   have hneg:¬BD (some x)<0:=by show ¬((x.1:Nat):Int)<0;omega
   refine AW.cond rfl (fun hq=>?_) (fun hq=>?_)
   ·exact absurd (of_decide_eq_true hq) hneg
   ·refine jA ?_
    refine jR ?_
    rw [fnd,<- hf]
    rfl
theorem Aj:∀i,i<128->(bO 112 8).b i=decide (112<=i/\i<120):=by decide
theorem tx:∀i,i<128->(bO 88 40).b i=decide (88<=i):=by decide
theorem G3 (v:UInt64)(k j:Nat)(hk:k<64)(hj:j<64):(ct v k).toBitVec.getLsbD j=(decide (k<=j) && v.toNat.testBit (j-k)):=by
 have h:(ct v k).toNat=(v.toNat*2 ^ k) % 2 ^ 64:=by
  rw [ct,UInt64.toNat_ofNat',kB3 (by omega)]
 show (ct v k).toNat.testBit j=_
 rw [h,Nat.testBit_mod_two_pow,qE hj,uE,Nat.mul_comm,Nat.testBit_two_pow_mul]
theorem AL (v:UInt64)(k i:Nat)(hk:64<=k)(hk2:k<128)(hi:i<128):((Hd.mk 0 v).left k).b i=(decide (k<=i) && v.toNat.testBit (i-k)):=by
 rw [Hd.left,if_pos hk,Hd.b]
 by_cases h6:i<64
 ·rw [if_pos h6,qC (by omega),uI]
  exact BitVec.getLsbD_zero
 ·rw [if_neg h6]
  show (ct v (k-64)).toBitVec.getLsbD (i-64)=_
  rw [G3 _ _ _ (by omega) (by omega),show i-64-(k-64)=i-k by omega]
  congr 1
  exact decide_eq_decide.2 (by omega)
theorem CN (c:Cf)(s:Sp)(V t:Nat)(hV:V<=255)(ht:t<=3)(he:(bf c.topo.ports s).tenant=(t:Nat))(h:Hd):∀i<128,(h.set (bl c s V)).b i=stB h (t+1) V i:=by
 intro i hi
 have v1:(bQ ((t:Int)+1)).toNat=t+1:=shI (by omega) (by omega)
 have v2:(bQ (V:Int)).toNat=V:=by
  have:=eB (V:Int)
  rw [IntKind.wrap_u64] at this
  omega
 rw [Hd.set_b]
 have hcare:(bl c s V).care.b i=decide (88<=i):=tx i hi
 have hval:(bl c s V).value.b i=(((decide (88<=i) && (t+1).testBit (i-88)) && !decide (112<=i/\i<120) || (decide (112<=i) && V.testBit (i-112))) && decide (88<=i)):=by
  show ((((Hd.zero.put 88 24 (bQ ((bf c.topo.ports s).tenant+1))).put 112 8 (bQ V))).and (bO 88 40)).b i=_
  rw [Hd.b_and,tx i hi,he,Hd.put,Hd.put,Hd.b_or,Hd.b_less,Hd.b_or,Hd.b_less,Hd.b_zero,Aj i hi,AL _ _ _ (by decide) (by decide) hi,AL _ _ _ (by decide) (by decide) hi,v1,v2,uI,Bool.false_or]
 rw [hcare,hval,stB]
 have b1:∀j,24<=j->(t+1).testBit j=false:=fun j hj=>Nat.testBit_lt_two_pow (vK (show t+1<2 ^ 24 by omega) (Nat.pow_le_pow_right (by decide) hj))
 have b2:∀j,8<=j->V.testBit j=false:=fun j hj=>Nat.testBit_lt_two_pow (vK (show V<2 ^ 8 by omega) (Nat.pow_le_pow_right (by decide) hj))
 by_cases e1:i<88
 ·rw [if_pos e1,qC (show ¬88<=i by omega)];rfl
 rw [if_neg e1,qE (show 88<=i by omega)]
 by_cases e2:i<112
 ·rw [if_pos e2,qC (show ¬(112<=i/\i<120) by omega),qC (show ¬112<=i by omega)]
  simp
 rw [if_neg e2,qE (show 112<=i by omega)]
 by_cases e3:i<120
 ·rw [if_pos e3,qE (show 112<=i/\i<120 by omega)]
  simp
 ·rw [if_neg e3,b1 _ (by omega),b2 _ (by omega)]
  simp
def Ik (fin sw port:Int)(hops:List Hop):List AV:=[.i .i64 fin,.i .i64 sw,.i .i64 port,.row 40 0 0 (hops.map dG).length]
theorem ny (fin sw port:Int)(hops:List Hop)(R:Run)(h:(⟨fin,⟨sw,port⟩,hops⟩:Run)=R):AV.agg [.i .i64 fin,.i .i64 sw,.i .i64 port,.sl (((hops.map dG).drop 0).take (hops.map dG).length)] = .agg (mw R):=by
 rw [<- h]
 exact congrArg (fun x=>AV.agg [.i .i64 fin,.i .i64 sw,.i .i64 port,x]) (bw rfl)
theorem zr (c:Cf)(hc:c.Ok)(s:Sp)(hs:s∈aI c.topo.ports)(h:Hd)(V most:Nat)(hV:V<=255)(hmost:most<=1000000):aa Tryz.prog 20 [.agg (cCf c),.agg (cSp s),.agg (cHd h),.i .i64 V,.i .i64 most] (.agg (mw (bD c s h V most))):=by
 obtain⟨n0,r0,a0,p0,hr0,hp0,hk0,rfl⟩:=dO.1 hs
 have hpa:bf c.topo.ports ⟨n0,a0⟩=p0:=f8 hr0 hp0
 have hok:=(bX hc.topo).2.2.2 n0 r0 hr0 a0 p0 hp0
 obtain⟨t0,ht0,ht3⟩:∃t:Nat,p0.tenant=(t:Nat)/\t<=3:=by
  rw [cQ] at hok
  simp [hk0] at hok
  obtain⟨t,ht⟩:=Int.eq_ofNat_of_zero_le hok.2.1
  exact⟨t,ht,by omega⟩
 have hed:aZ c.topo.ports ⟨n0,a0⟩=(t0:Nat):=by
  have:=(fo hc.topo).2 hs
  rw [aZ] at this ⊢
  cases hb:(cK c.topo.ports ⟨n0,a0⟩ && decide ((bf c.topo.ports ⟨n0,a0⟩).kind=1))
  ·rw [hb] at this;simp at this
  ·rw [cond_true,hpa,ht0]
 have hE:aa Tryz.prog 19 [.agg (ic ⟨c.topo.ports⟩),.agg (cSp ⟨n0,a0⟩)] (.i .i64 (t0:Nat)):=by
  rw [<- hed]
  exact y5 _ _
 have hS:=AY h (h.set (bl c ⟨n0,a0⟩ V)) t0 V (by omega) (by omega) (CN c ⟨n0,a0⟩ V t0 hV ht3 (by rw [hpa];exact ht0) h)
 have hat0:At c n0 0:=At.start hc (qD.1 hr0).1
 have hR:goF c most n0 0 (h.set (bl c ⟨n0,a0⟩ V)) []=bD c ⟨n0,a0⟩ h V most:=rfl
 generalize bD c ⟨n0,a0⟩ h V most=R at hR
 generalize h.set (bl c ⟨n0,a0⟩ V)=g0 at hR hS
 refine jb Tryz.func20 ?_
 refine jB ?_;refine wF ?_;refine wH rfl ?_;refine jB ?_;refine wF ?_;refine wH rfl ?_;refine jB ?_
 refine AW.nilRow 40 0 79 5 [(3,.i .i64 V),(4,.i .i64 most),(5,.own 5 0 0),(6,.own 6 0 0),(7,.own 7 0 0),(10,.own 10 0 0),(11,.own 11 0 0)] [(5,⟨0,some (.box 31 (cCf c))⟩),(6,⟨0,some (.box 40 (cSp ⟨n0,a0⟩))⟩),(7,⟨0,some (.box 34 (cHd h))⟩),(10,⟨0,some (.box 43 [.i .i64 0,.i .i64 0,.i .i64 0,.raw (.slice none 0 0)])⟩),(11,⟨0,some (.box 43 (Ik 0 0 0 []))⟩),(40,⟨0,some (.row 79 5 [])⟩)] ⟨.rn (Rn.is rfl rfl),.rn (Rn.is rfl rfl),.rn (Rn.ownIs rfl rfl rfl),.rn (Rn.ownIs rfl rfl rfl),.rn (Rn.ownIs rfl rfl rfl),.rn (Rn.ownIs rfl rfl rfl),.rn (Rn.ownIs rfl rfl rfl),trivial⟩ ⟨.old (.same rfl rfl rfl),.old (.same rfl rfl rfl),.old (.same rfl rfl rfl),.old (.same rfl rfl rfl),.boxL rfl ⟨RnN.is rfl rfl,RnN.is rfl rfl,RnN.is rfl rfl,.nil rfl,trivial⟩ rfl,.old (.row rfl rfl),trivial⟩ ?_
 refine jA ?_
 refine jc hE ?_;refine jH ?_
 refine jc hS ?_;refine jH ?_
 refine AW.loopL (ι:=Nat × Nat × Hd × List Hop) (fun i=>[(4,.i .i64 most),(5,.own 5 0 0),(7,.own 7 0 0),(10,.own 10 0 0),(11,.own 11 0 0),(12,.i .i64 (i.1:Nat)),(13,.i .i64 (i.2.1:Nat))]) (fun i=>[(5,⟨0,some (.box 31 (cCf c))⟩),(7,⟨0,some (.box 34 (cHd i.2.2.1))⟩),(10,⟨0,some (.box 43 [.i .i64 0,.i .i64 0,.i .i64 0,.raw (.slice none 0 0)])⟩),(11,⟨0,some (.box 43 (Ik 0 0 0 i.2.2.2))⟩),(40,⟨0,some (.row 79 5 (i.2.2.2.map dG))⟩)]) (fun i=>(i.2.2.2.length<=most/\At c i.1 i.2.1)/\goF c (most-i.2.2.2.length) i.1 i.2.1 i.2.2.1 i.2.2.2=R) (fun i=>most-i.2.2.2.length) (n0,0,g0,[]) ⟨⟨qR _,hat0⟩,hR⟩ jW ⟨.same rfl rfl rfl,.same rfl rfl rfl,.same rfl rfl rfl,.boxL rfl jQ rfl,.row rfl rfl,trivial⟩ fun i hi=>?_
 obtain⟨n,t,h,hops⟩:=i
 obtain⟨⟨hl,hat⟩,hf⟩:=hi
 simp only at hl hat hf
 clear hR hS hE hat0
 refine jA ?_
 refine AW.cond rfl (fun h0=>?_) (fun h0=>?_)
 rotate_left
 ·have h0:=of_decide_eq_false h0
  rw [qG] at h0
  have h0:¬((hops.length:Nat):Int)<most:=h0
  have e:most-hops.length=0:=by omega
  rw [e,goF] at hf
  refine zE ?_
  refine jR ?_
  exact ny 4 0 0 hops R hf
 have h0:=of_decide_eq_true h0
 rw [qG] at h0
 have h0:((hops.length:Nat):Int)<most:=h0
 obtain⟨f,hfu⟩:∃f,most-hops.length=f+1:=⟨most-hops.length-1,by omega⟩
 have hL:hops.length<=100000000:=by omega
 obtain⟨ts,ht1,ht2⟩:=hat.get
 have hx1:(c.tables.map bY)[n]?=some (bY ts):=by rw [qF,ht1];rfl
 have hx2:(ts.map bp)[t]?=some (bp (aX c n t)):=by rw [qF,ht2];rfl
 have hF:=Dk (aX c n t) h
 rw [hfu,goF] at hf
 refine jA ?_
 refine jx hx1 ?_
 refine wH rfl ?_
 refine jx hx2 ?_
 refine wH rfl ?_
 cases hq:fnd (aX c n t) h with
 |none=>
  rw [hq] at hf hF
  dsimp only at hf
  refine jc hF ?_;refine jH ?_
  refine zT ?_
  refine RG.opS rfl (bI dG hops ⟨n,t,-1,h⟩ hL rfl rfl rfl rfl (tk rfl) rfl (tk rfl) rfl rfl ⟨_,rfl,rfl⟩ rfl rfl) rfl ?_;refine jH ?_
  refine jR ?_
  exact ny 3 0 0 _ R hf
 |some r=>
  obtain⟨hr1,hr2,_⟩:=lI hq
  have hx3:((aX c n t).map cRl)[r]?=some (cRl ((aX c n t).getD r Rl.zero)):=by rw [qF,qA hr1,qM,qA hr1];rfl
  rw [hq] at hf hF
  dsimp only at hf
  generalize (aX c n t).getD r Rl.zero=q at hf hr2 hx3
  have hkind:=Rl.does_kind (Rl.sound_does (hat.rule hc hr2).1).2.2
  refine jc hF ?_;refine jH ?_
  refine zF ?_
  refine RG.opS rfl (bI dG hops ⟨n,t,r,h⟩ hL rfl rfl rfl rfl (tk rfl) rfl (tk rfl) rfl rfl ⟨_,rfl,rfl⟩ rfl rfl) rfl ?_;refine jH ?_
  refine jx hx1 ?_
  refine wH rfl ?_
  refine jx hx2 ?_
  refine wH rfl ?_
  refine jx hx3 ?_
  refine jH ?_
  refine jc (Gd h q.act.set) ?_;refine jH ?_
  refine AW.cond rfl (fun k1=>?_) (fun k1=>?_)
  ·have k1:q.act.kind=1:=of_decide_eq_true k1
   rw [if_neg (by omega),if_neg (by omega),if_neg (by omega)] at hf
   refine zR ?_
   exact ny 1 0 0 _ R hf
  have k1:¬q.act.kind=1:=of_decide_eq_false k1
  refine jA ?_
  refine AW.cond rfl (fun k2=>?_) (fun k2=>?_)
  ·have k2:q.act.kind=2:=of_decide_eq_true k2
   rw [if_neg (by omega),if_neg (by omega),if_pos k2] at hf
   refine zR ?_
   exact ny 2 n q.act.port _ R hf
  have k2:¬q.act.kind=2:=of_decide_eq_false k2
  refine jA ?_
  refine AW.cond rfl (fun k4=>?_) (fun k4=>?_)
  ·have k4:q.act.kind=4:=of_decide_eq_true k4
   rw [if_pos k4] at hf
   have hg:=Rl.does_goto (Rl.sound_does (hat.rule hc hr2).1).2.2 k4
   refine jA ?_
   exact⟨(n,q.act.table.toNat,h.set q.act.set,hops++[⟨n,t,r,h⟩]),⟨⟨⟨by show (hops++[_]).length<=most;rw [qK,vP];omega,hat.goto hc hr2 k4⟩,by show goF c (most-(hops++[_]).length) _ _ _ _=R;rw [qK,vP,show most-(hops.length+1)=f by omega];exact hf⟩,by show most-(hops++[_]).length<most-hops.length;rw [qK,vP];omega⟩,⟨Rn.is rfl rfl,Rn.ownIs rfl rfl rfl,Rn.ownIs rfl rfl rfl,Rn.ownIs rfl rfl rfl,Rn.ownIs rfl rfl rfl,Rn.is rfl rfl,Rn.is (congrArg (AV.i .i64) (show q.act.table=(q.act.table.toNat:Nat) by omega)) rfl,trivial⟩,⟨.same rfl rfl rfl,.same rfl rfl rfl,.same rfl rfl rfl,.boxL rfl jQ rfl,.row rfl rfl,trivial⟩⟩
  have k4:¬q.act.kind=4:=of_decide_eq_false k4
  have k3:q.act.kind=3:=by omega
  rw [if_neg k4,if_pos k3] at hf
  obtain⟨hl1,hl2,hl3⟩:=hat.link hc hr2 k3
  obtain⟨hd1,hd2,hd3⟩:=Rl.does_forward (Rl.sound_does (hat.rule hc hr2).1).2.2 k3
  obtain⟨pn,hpn⟩:=Int.eq_ofNat_of_zero_le hd1
  have hnl:n<c.topo.ports.length:=by rw [<- hc.len];exact hat.sw
  have ep:c.topo.ports.getD n []=c.topo.ports[n]:=dA (qA hnl)
  rw [ep] at hd2
  have hpl:pn<c.topo.ports[n].length:=by omega
  have epp:bf c.topo.ports ⟨n,q.act.port⟩=c.topo.ports[n][pn]:=by
   rw [hpn]
   exact f8 (qA hnl) (qA hpl)
  have hat2:=hat.forward hc hr2 k3
  rw [epp] at hf hl1 hl2 hat2
  refine zD ?_
  refine wH rfl ?_
  refine RG.opS rfl (aq rfl (tk rfl) rfl (tk rfl) rfl rfl (show (c.topo.ports.map aP)[n]?=some (aP c.topo.ports[n]) by rw [qF,qA (by assumption)];rfl) rfl) rfl ?_
  refine RG.runO ae 0 [(93,.i .i64 (pn:Nat))] 400 rfl jD ?_
  refine RG.opS rfl (aq rfl (tk rfl) rfl (tk rfl) rfl rfl (show (c.topo.ports[n].map cPt)[pn]?=some (cPt c.topo.ports[n][pn]) by rw [qF,qA hpl];rfl) rfl) rfl ?_
  refine jH ?_
  exact⟨((c.topo.ports[n][pn]).peer.toNat,0,h.set q.act.set,hops++[⟨n,t,r,h⟩]),⟨⟨⟨by show (hops++[_]).length<=most;rw [qK,vP];omega,hat2⟩,by show goF c (most-(hops++[_]).length) _ _ _ _=R;rw [qK,vP,show most-(hops.length+1)=f by omega];exact hf⟩,by show most-(hops++[_]).length<most-hops.length;rw [qK,vP];omega⟩,⟨Rn.is rfl rfl,Rn.ownIs rfl rfl rfl,Rn.ownIs rfl rfl rfl,Rn.ownIs rfl rfl rfl,Rn.ownIs rfl rfl rfl,Rn.is (congrArg (AV.i .i64) (show (c.topo.ports[n][pn]).peer=((c.topo.ports[n][pn]).peer.toNat:Nat) by omega)) rfl,Rn.is rfl rfl,trivial⟩,⟨.same rfl rfl rfl,.same rfl rfl rfl,.same rfl rfl rfl,.boxL rfl jQ rfl,.row rfl rfl,trivial⟩⟩
theorem Rn.fnRo {σ σ':Sto}{x:AV}{f:FuncId}{c:List AV}(e:x = .fn f [] c)(h:c.all AV.pu1=true):Rn σ σ' x (.fn f [] c):=by
  subst e
  exact .fn rfl rfl (fun j x x' h1=>by simp at h1) (fun j x x' h1 h2=>by
    rw [h1] at h2
    rw [<- qB h2]
    exact .pu (qV.1 h x (qN h1)))
theorem eN {P:Program}{N:Nat}{o:Oper}{s:St}{t e:Nat}{ti ei:TI}{x y z:Operand}{els:List (List AV)}{k1 k2:IntKind}(ho:o.op = .slice t x none (some y) (some z))(ht:aB P t ti)(hk:ti.k = .slice e)(he:aB P e ei)(hx:s.ev x = .sl els)(hy:s.ev y = .i k1 (els.length:Nat))(hz:s.ev z = .i k2 (els.length:Nat)) :
  ax P N o s ⟨.sl els,[],[]⟩:=by
 refine az [] _ fun s' W F μ a g1 g2 hs=>?_
 have ex:=hs.ev x
 rw [g1 x (by rw [ho];simp [Op.operands]),hx] at ex
 have ey:=hs.ev y
 rw [g1 y (by rw [ho];simp [Op.operands]),hy] at ey
 have ez:=hs.ev z
 rw [g1 z (by rw [ho];simp [Op.operands]),hz] at ez
 generalize hq:a.eval x=q at ex
 cases ex.sl' with
 |sl _ A c m b off cell hc hm hA hl hone hr hw=>
  have hb:(Instr.sliceBounds true els.length c none (some (.int k1 (els.length:Nat))) (some (.int k2 (els.length:Nat)))).run P W = .ok (0,els.length,els.length) W:=by
   have e1:(0:Int)<=((els.length:Nat):Int)/\((els.length:Nat):Int)<=(c:Int):=by omega
   have e2:(0:Int)<=((els.length:Nat):Int)/\((els.length:Nat):Int)<=((els.length:Nat):Int):=by omega
   simp only [Instr.sliceBounds,Instr.sliceBound,asIntOf,kA2,kA3,kA1,if_pos e1,if_pos e2,vQ]
  refine⟨.slice (if els.length=0 then A else A.map (·.add (0*ei.n))) els.length els.length,?_,.pure (.sl els _ els.length m b off cell (qJ _) (vH hc hm) (fun hp=>?_) hl hone hr hw)⟩
  ·simp only [execOp,ho,Instr.sliceAt,Instr.slice,hq,ey.i',ez.i',Option.map_none,Option.map_some,kA2,kA3,kA1,kA9 (ht.slice hk),hb,he.size,Nat.sub_zero]
  ·obtain⟨rfl,h2,h3⟩:=hA hp
   refine⟨?_,h2,h3⟩
   rw [if_neg (by omega),Nat.zero_mul]
   rfl
theorem ma {P : Program} {N : Nat} {o : Oper} {s : St} {t n e : Nat} {ti ei : TI} {parts : Array (Nat × Operand)} {r : List AV} (ho : o.op = .build t parts) (ht : aB P t ti) (hk : ti.k = .arr n e) (he : aB P e ei)
    (hr:kP (fun i=>some (i*ei.n,ei.n)) ti.z (parts.toList.map fun p=>(p.1,s.ev p.2))=some r) (h1:r.all AV.one=true):ax P N o s ⟨.agg r,[],[]⟩:=by
  refine az [] _ fun s' W F μ a g1 g2 hs=>?_
  have hp:=ji (s:=s) hs (parts:=parts) fun p hp=>g1 p.2 (by rw [ho];simp only [Op.operands,vI];exact⟨p,hp,rfl⟩)
  obtain⟨z,hz1,hz2⟩:=ht.zero W
  have hz:=da (W:=W) (F:=F) hz2
  obtain⟨us,k1,k2,k3⟩:=kh _ _ ti.z z.cells r hp.1 hp.2 (by rw [<- qL];exact hz.1) (fun j x v hx hv=>by
    have:=hz.2 j x v hx (by simpa using hv)
    exact⟨this.2,.pure this.1⟩) hr
  rw [qV] at h1
  refine⟨.agg us.toList.toArray,?_,.agg r us.toList (by simpa using k2) (fun j x hx=>h1 x (qN hx)) (fun j x v hx hv=>(k3 j x v hx (by simpa using hv)).2)⟩
  have e3:us.toList.toArray=us:=by simp
  simp only [execOp,ho,Instr.build,kA2,hz1,kA1,kA9 (ht.array hk),he.size,k1,kA3,e3]
def bM {α:Type}(p:α->Bool):Nat->List α->Int
 |_,[]=>-1
 |i,x::l=>bif p x then (i:Nat) else bM p (i+1) l
theorem dV {α:Type}{p:α->Bool}:∀(i:Nat) (l:List α),decide (0<=bM p i l)=l.any p
 |i,[]=>rfl
 |i,x::l=>by
  rw [bM,List.any_cons]
  cases p x
  ·rw [cond_false,dV (i+1) l];rfl
  ·rw [cond_true,Bool.true_or];exact qE (by omega)
theorem qa {α:Type}{p:α->Bool}:∀(i:Nat) (l:List α),bM p i l=match l.findIdx? p with|some k=>((i+k:Nat):Int)|none=>-1
 |i,[]=>rfl
 |i,x::l=>by
  rw [bM,List.findIdx?_cons]
  cases p x
  ·rw [cond_false,qa (i+1) l]
   simp only [Bool.false_eq_true,if_false]
   cases l.findIdx? p with
   |none=>rfl
   |some k=>show ((i+1+k:Nat):Int)=((i+(k+1):Nat):Int);omega
  ·rfl
theorem mv (F:Nat)(c0:List AV)(p:Int->Bool)(l:List (Int))(H:∀x∈l,aa Tryz.prog F [.i .i64 x,.ro c0] (.b (p x))):aa Tryz.prog 177 [.sl (l.map cI),.fn F [] [.ro c0]] (.i .i64 (bM p 0 l)):=by
 refine jb Tryz.func177 ?_
 refine jA ?_
 refine AW.lens 6 rfl fun hm=>?_
 rw [qG] at hm
 refine AW.loopL (ι:=Nat) (fun k=>[(0,.sl (l.map cI)),(1,.fn F [] [.ro c0]),(7,.i .i64 (l.map cI).length),(8,.i .i64 (k:Nat))]) (fun _=>[]) (fun k=>k<=l.length/\bM p k (l.drop k)=bM p 0 l) (fun k=>l.length-k) 0 ⟨qR _,rfl⟩ ⟨Rn.is rfl rfl,Rn.fnRo rfl rfl,Rn.is rfl rfl,Rn.is rfl rfl,trivial⟩ trivial fun k hk=>?_
 obtain⟨hk,hf⟩:=hk
 refine jA ?_
 refine AW.cond rfl (fun h0=>?_) (fun h0=>?_)
 ·have h:k<l.length:=by simpa using h0
  rw [qT h,bM] at hf
  have hH:=H l[k] (vR h)
  have hx:(l.map cI)[k]?=some (cI l[k]):=by rw [qF,qA h];rfl
  generalize l[k]=x at hf hH hx
  refine jA ?_
  refine jx hx ?_
  refine wH rfl ?_
  cases hp:p x
  ·rw [hp] at hf hH
   refine jc hH ?_;refine jH ?_
   refine zF ?_
   exact⟨k+1,⟨⟨h,hf⟩,by omega⟩,⟨Rn.is rfl rfl,Rn.fnRo rfl rfl,Rn.is rfl rfl,Rn.is (ay h hm) rfl,trivial⟩,trivial⟩
  ·rw [hp] at hf hH
   refine jc hH ?_;refine jH ?_
   refine zT ?_
   refine jR ?_
   rw [<- hf]
   rfl
 ·have h:¬k<l.length:=by simpa using h0
  obtain rfl:k=l.length:=by omega
  rw [vJ,bM] at hf
  refine zE ?_
  refine jR ?_
  rw [<- hf]
  rfl
theorem fB (F:Nat)(c0:List AV)(p:Int->Bool)(l:List (Int))(H:∀x∈l,aa Tryz.prog F [.i .i64 x,.ro c0] (.b (p x)))(q:Bool)(hq:l.any p=q):aa Tryz.prog 123 [.sl (l.map cI),.fn F [] [.ro c0]] (.b q):=by
 refine jb Tryz.func123 ?_
 refine jA ?_
 refine jc (mv F c0 p l H) ?_;refine jH ?_
 refine jR ?_
 exact congrArg AV.b ((dV 0 l).trans hq)
theorem nj (F:Nat)(c0:List AV)(c1:List AV)(p:Int × Int->Bool)(l:List (Int × Int))(H:∀x∈l,aa Tryz.prog F [.agg (cPr x),.ro c0,.ro c1] (.b (p x))):aa Tryz.prog 219 [.sl (l.map cPr),.fn F [] [.ro c0,.ro c1]] (.i .i64 (bM p 0 l)):=by
 refine jb Tryz.func219 ?_
 refine jA ?_
 refine AW.lens 6 rfl fun hm=>?_
 rw [qG] at hm
 refine AW.loopL (ι:=Nat) (fun k=>[(0,.sl (l.map cPr)),(1,.fn F [] [.ro c0,.ro c1]),(7,.i .i64 (l.map cPr).length),(8,.i .i64 (k:Nat))]) (fun _=>[]) (fun k=>k<=l.length/\bM p k (l.drop k)=bM p 0 l) (fun k=>l.length-k) 0 ⟨qR _,rfl⟩ ⟨Rn.is rfl rfl,Rn.fnRo rfl rfl,Rn.is rfl rfl,Rn.is rfl rfl,trivial⟩ trivial fun k hk=>?_
 obtain⟨hk,hf⟩:=hk
 refine jA ?_
 refine AW.cond rfl (fun h0=>?_) (fun h0=>?_)
 ·have h:k<l.length:=by simpa using h0
  rw [qT h,bM] at hf
  have hH:=H l[k] (vR h)
  have hx:(l.map cPr)[k]?=some (cPr l[k]):=by rw [qF,qA h];rfl
  generalize l[k]=x at hf hH hx
  refine jA ?_
  refine jx hx ?_
  refine wH rfl ?_
  cases hp:p x
  ·rw [hp] at hf hH
   refine jc hH ?_;refine jH ?_
   refine zF ?_
   exact⟨k+1,⟨⟨h,hf⟩,by omega⟩,⟨Rn.is rfl rfl,Rn.fnRo rfl rfl,Rn.is rfl rfl,Rn.is (ay h hm) rfl,trivial⟩,trivial⟩
  ·rw [hp] at hf hH
   refine jc hH ?_;refine jH ?_
   refine zT ?_
   refine jR ?_
   rw [<- hf]
   rfl
 ·have h:¬k<l.length:=by simpa using h0
  obtain rfl:k=l.length:=by omega
  rw [vJ,bM] at hf
  refine zE ?_
  refine jR ?_
  rw [<- hf]
  rfl
theorem ku (F:Nat)(c0:List AV)(c1:List AV)(p:Int × Int->Bool)(l:List (Int × Int))(H:∀x∈l,aa Tryz.prog F [.agg (cPr x),.ro c0,.ro c1] (.b (p x)))(q:Bool)(hq:l.any p=q):aa Tryz.prog 175 [.sl (l.map cPr),.fn F [] [.ro c0,.ro c1]] (.b q):=by
 refine jb Tryz.func175 ?_
 refine jA ?_
 refine jc (nj F c0 c1 p l H) ?_;refine jH ?_
 refine jR ?_
 exact congrArg AV.b ((dV 0 l).trans hq)
theorem mt (F:Nat)(c0:List AV)(p:Hop->Bool)(l:List (Hop))(H:∀x∈l,aa Tryz.prog F [.agg (dG x),.ro c0] (.b (p x))):aa Tryz.prog 220 [.sl (l.map dG),.fn F [] [.ro c0]] (.i .i64 (bM p 0 l)):=by
 refine jb Tryz.func220 ?_
 refine jA ?_
 refine AW.lens 6 rfl fun hm=>?_
 rw [qG] at hm
 refine AW.loopL (ι:=Nat) (fun k=>[(0,.sl (l.map dG)),(1,.fn F [] [.ro c0]),(7,.i .i64 (l.map dG).length),(8,.i .i64 (k:Nat))]) (fun _=>[]) (fun k=>k<=l.length/\bM p k (l.drop k)=bM p 0 l) (fun k=>l.length-k) 0 ⟨qR _,rfl⟩ ⟨Rn.is rfl rfl,Rn.fnRo rfl rfl,Rn.is rfl rfl,Rn.is rfl rfl,trivial⟩ trivial fun k hk=>?_
 obtain⟨hk,hf⟩:=hk
 refine jA ?_
 refine AW.cond rfl (fun h0=>?_) (fun h0=>?_)
 ·have h:k<l.length:=by simpa using h0
  rw [qT h,bM] at hf
  have hH:=H l[k] (vR h)
  have hx:(l.map dG)[k]?=some (dG l[k]):=by rw [qF,qA h];rfl
  generalize l[k]=x at hf hH hx
  refine jA ?_
  refine jx hx ?_
  refine wH rfl ?_
  cases hp:p x
  ·rw [hp] at hf hH
   refine jc hH ?_;refine jH ?_
   refine zF ?_
   exact⟨k+1,⟨⟨h,hf⟩,by omega⟩,⟨Rn.is rfl rfl,Rn.fnRo rfl rfl,Rn.is rfl rfl,Rn.is (ay h hm) rfl,trivial⟩,trivial⟩
  ·rw [hp] at hf hH
   refine jc hH ?_;refine jH ?_
   refine zT ?_
   refine jR ?_
   rw [<- hf]
   rfl
 ·have h:¬k<l.length:=by simpa using h0
  obtain rfl:k=l.length:=by omega
  rw [vJ,bM] at hf
  refine zE ?_
  refine jR ?_
  rw [<- hf]
  rfl
theorem jT (F:Nat)(c0:List AV)(p:Hop->Bool)(l:List (Hop))(H:∀x∈l,aa Tryz.prog F [.agg (dG x),.ro c0] (.b (p x)))(q:Bool)(hq:l.any p=q):aa Tryz.prog 178 [.sl (l.map dG),.fn F [] [.ro c0]] (.b q):=by
 refine jb Tryz.func178 ?_
 refine jA ?_
 refine jc (mt F c0 p l H) ?_;refine jH ?_
 refine jR ?_
 exact congrArg AV.b ((dV 0 l).trans hq)
theorem iC (F:Nat)(p:Cb->Bool)(l:List (Cb))(H:∀x∈l,aa Tryz.prog F [.agg (cCb x)] (.b (p x))):aa Tryz.prog 132 [.sl (l.map cCb),.fn F [] []] (.i .i64 (bM p 0 l)):=by
 refine jb Tryz.func132 ?_
 refine jA ?_
 refine AW.lens 6 rfl fun hm=>?_
 rw [qG] at hm
 refine AW.loopL (ι:=Nat) (fun k=>[(0,.sl (l.map cCb)),(1,.fn F [] []),(7,.i .i64 (l.map cCb).length),(8,.i .i64 (k:Nat))]) (fun _=>[]) (fun k=>k<=l.length/\bM p k (l.drop k)=bM p 0 l) (fun k=>l.length-k) 0 ⟨qR _,rfl⟩ ⟨Rn.is rfl rfl,Rn.fnRo rfl rfl,Rn.is rfl rfl,Rn.is rfl rfl,trivial⟩ trivial fun k hk=>?_
 obtain⟨hk,hf⟩:=hk
 refine jA ?_
 refine AW.cond rfl (fun h0=>?_) (fun h0=>?_)
 ·have h:k<l.length:=by simpa using h0
  rw [qT h,bM] at hf
  have hH:=H l[k] (vR h)
  have hx:(l.map cCb)[k]?=some (cCb l[k]):=by rw [qF,qA h];rfl
  generalize l[k]=x at hf hH hx
  refine jA ?_
  refine jx hx ?_
  refine wH rfl ?_
  cases hp:p x
  ·rw [hp] at hf hH
   refine jc hH ?_;refine jH ?_
   refine zF ?_
   exact⟨k+1,⟨⟨h,hf⟩,by omega⟩,⟨Rn.is rfl rfl,Rn.fnRo rfl rfl,Rn.is rfl rfl,Rn.is (ay h hm) rfl,trivial⟩,trivial⟩
  ·rw [hp] at hf hH
   refine jc hH ?_;refine jH ?_
   refine zT ?_
   refine jR ?_
   rw [<- hf]
   rfl
 ·have h:¬k<l.length:=by simpa using h0
  obtain rfl:k=l.length:=by omega
  rw [vJ,bM] at hf
  refine zE ?_
  refine jR ?_
  rw [<- hf]
  rfl
theorem fJ (F:Nat)(p:Cb->Bool)(l:List (Cb))(H:∀x∈l,aa Tryz.prog F [.agg (cCb x)] (.b (p x)))(q:Bool)(hq:l.any p=q):aa Tryz.prog 83 [.sl (l.map cCb),.fn F [] []] (.b q):=by
 refine jb Tryz.func83 ?_
 refine jA ?_
 refine jc (iC F p l H) ?_;refine jH ?_
 refine jR ?_
 exact congrArg AV.b ((dV 0 l).trans hq)
theorem vp (v:Sp)(l:List (Sp)):aa Tryz.prog 211 [.sl (l.map cSp),.agg (cSp v)] (.i .i64 (bM (fun x=>decide (v=x)) 0 l)):=by
 refine jb Tryz.func211 ?_
 refine jA ?_
 refine AW.lens 6 rfl fun hm=>?_
 rw [qG] at hm
 refine AW.loopL (ι:=Nat) (fun k=>[(0,.sl (l.map cSp)),(3,.own 3 0 0),(7,.i .i64 (l.map cSp).length),(8,.i .i64 (k:Nat))]) (fun _=>[(3,⟨0,some (.box 40 (cSp v))⟩)]) (fun k=>k<=l.length/\bM (fun x=>decide (v=x)) k (l.drop k)=bM (fun x=>decide (v=x)) 0 l) (fun k=>l.length-k) 0 ⟨qR _,rfl⟩ jW jW fun k hk=>?_
 obtain⟨hk,hf⟩:=hk
 refine jA ?_
 refine AW.cond rfl (fun h0=>?_) (fun h0=>?_)
 ·have h:k<l.length:=by simpa using h0
  rw [qT h,bM] at hf
  have hx:(l.map cSp)[k]?=some (cSp l[k]):=by rw [qF,qA h];rfl
  generalize l[k]=x at hf hx
  refine jA ?_
  refine jx hx ?_
  refine wH rfl ?_
  by_cases hp:v=x
  ·rw [qE hp] at hf
   refine RG.opS rfl (eG rfl ae (by kernel_rfl) (by kernel_rfl) rfl rfl (Bj v x) (qE hp)) rfl ?_
   refine jH ?_;refine zT ?_
   refine jR ?_
   rw [<- hf]
   rfl
  ·rw [qC hp] at hf
   refine RG.opS rfl (eG rfl ae (by kernel_rfl) (by kernel_rfl) rfl rfl (Bj v x) (qC hp)) rfl ?_
   refine jH ?_;refine zF ?_
   exact⟨k+1,⟨⟨h,hf⟩,by omega⟩,jV,jW⟩
 ·have h:¬k<l.length:=by simpa using h0
  obtain rfl:k=l.length:=by omega
  rw [vJ,bM] at hf
  refine zE ?_
  refine jR ?_
  rw [<- hf]
  rfl
theorem eM (v:Sp)(l:List (Sp))(q:Bool)(hq:decide (v∈l)=q):aa Tryz.prog 168 [.sl (l.map cSp),.agg (cSp v)] (.b q):=by
 refine jb Tryz.func168 ?_
 refine jA ?_
 refine jc (vp v l) ?_;refine jH ?_
 refine jR ?_
 refine congrArg AV.b ((dV 0 l).trans (Eq.trans ?_ hq))
 rw [Bool.eq_iff_iff]
 simp
theorem vd (v:Cb)(l:List (Cb)):aa Tryz.prog 158 [.sl (l.map cCb),.agg (cCb v)] (.i .i64 (bM (fun x=>decide (v=x)) 0 l)):=by
 refine jb Tryz.func158 ?_
 refine jA ?_
 refine AW.lens 6 rfl fun hm=>?_
 rw [qG] at hm
 refine AW.loopL (ι:=Nat) (fun k=>[(0,.sl (l.map cCb)),(3,.own 3 0 0),(7,.i .i64 (l.map cCb).length),(8,.i .i64 (k:Nat))]) (fun _=>[(3,⟨0,some (.box 36 (cCb v))⟩)]) (fun k=>k<=l.length/\bM (fun x=>decide (v=x)) k (l.drop k)=bM (fun x=>decide (v=x)) 0 l) (fun k=>l.length-k) 0 ⟨qR _,rfl⟩ jW jW fun k hk=>?_
 obtain⟨hk,hf⟩:=hk
 refine jA ?_
 refine AW.cond rfl (fun h0=>?_) (fun h0=>?_)
 ·have h:k<l.length:=by simpa using h0
  rw [qT h,bM] at hf
  have hx:(l.map cCb)[k]?=some (cCb l[k]):=by rw [qF,qA h];rfl
  generalize l[k]=x at hf hx
  refine jA ?_
  refine jx hx ?_
  refine wH rfl ?_
  by_cases hp:v=x
  ·rw [qE hp] at hf
   refine RG.opS rfl (eG rfl ae (by kernel_rfl) (by kernel_rfl) rfl rfl (oQ v x) (qE hp)) rfl ?_
   refine jH ?_;refine zT ?_
   refine jR ?_
   rw [<- hf]
   rfl
  ·rw [qC hp] at hf
   refine RG.opS rfl (eG rfl ae (by kernel_rfl) (by kernel_rfl) rfl rfl (oQ v x) (qC hp)) rfl ?_
   refine jH ?_;refine zF ?_
   exact⟨k+1,⟨⟨h,hf⟩,by omega⟩,jV,jW⟩
 ·have h:¬k<l.length:=by simpa using h0
  obtain rfl:k=l.length:=by omega
  rw [vJ,bM] at hf
  refine zE ?_
  refine jR ?_
  rw [<- hf]
  rfl
theorem oy (v:Cb)(l:List (Cb))(q:Bool)(hq:decide (v∈l)=q):aa Tryz.prog 115 [.sl (l.map cCb),.agg (cCb v)] (.b q):=by
 refine jb Tryz.func115 ?_
 refine jA ?_
 refine jc (vd v l) ?_;refine jH ?_
 refine jR ?_
 refine congrArg AV.b ((dV 0 l).trans (Eq.trans ?_ hq))
 rw [Bool.eq_iff_iff]
 simp
theorem gF (l:List (Int)):aa Tryz.prog 37 [.sl (l.map cI)] (.sl (l.map cI)):=by
 refine jb Tryz.func37 ?_
 refine jA ?_
 refine RG.opS rfl (eN rfl (tk rfl) rfl (tk rfl) rfl rfl rfl) rfl ?_
 refine zH ?_
 rfl
theorem eI (l:List (Cb)):aa Tryz.prog 39 [.sl (l.map cCb)] (.sl (l.map cCb)):=by
 refine jb Tryz.func39 ?_
 refine jA ?_
 refine RG.opS rfl (eN rfl (tk rfl) rfl (tk rfl) rfl rfl rfl) rfl ?_
 refine zH ?_
 rfl
theorem iS (l:List (aG)):aa Tryz.prog 87 [.sl (l.map av)] (.sl (l.map av)):=by
 refine jb Tryz.func87 ?_
 refine jA ?_
 refine RG.opS rfl (eN rfl (tk rfl) rfl (tk rfl) rfl rfl rfl) rfl ?_
 refine zH ?_
 rfl
theorem td (x y z:Int × Int):aa Tryz.prog 176 [.agg (cPr x),.ro (cPr y),.ro (cPr z)] (.b (decide (x=y) || decide (x=z))):=by
 refine jb Tryz.func176 ?_
 refine jB ?_;refine wF ?_;refine wH rfl ?_;refine jB ?_
 refine AW.text ?_
 refine wH rfl ?_
 by_cases h:x=y
 ·refine RG.opS rfl (eG rfl ae (by kernel_rfl) (by kernel_rfl) rfl rfl (AU x y) (qE h)) rfl ?_
  refine zH ?_
  exact congrArg AV.b (by rw [qE h];rfl)
 ·refine RG.opS rfl (eG rfl ae (by kernel_rfl) (by kernel_rfl) rfl rfl (AU x y) (qC h)) rfl ?_
  refine wH rfl ?_
  refine RG.opS rfl (eG rfl ae (by kernel_rfl) (by kernel_rfl) rfl rfl (AU x z) rfl) rfl ?_
  refine zH ?_
  exact congrArg AV.b (by rw [qC h];rfl)
theorem o5 (p:Pol)(a b:Int)(v:Bool)(hv:gz p a b=v):aa Tryz.prog 122 [.agg (ur p),.i .i64 a,.i .i64 b] (.b v):=by
 subst hv
 refine jb Tryz.func122 ?_
 refine jA ?_
 cases h1:bB p a
 ·refine RG.callS rfl rfl rfl rfl rfl (bW p a _ h1) rfl rfl ?_;refine jH ?_
  refine zT ?_
  refine jR ?_
  exact congrArg AV.b (by rw [gz,h1];rfl)
 refine RG.callS rfl rfl rfl rfl rfl (bW p a _ h1) rfl rfl ?_;refine jH ?_
 cases h2:bB p b
 ·refine RG.callS rfl rfl rfl rfl rfl (bW p b _ h2) rfl rfl ?_;refine jH ?_
  refine zT ?_
  refine jR ?_
  exact congrArg AV.b (by rw [gz,h1,h2];rfl)
 refine RG.callS rfl rfl rfl rfl rfl (bW p b _ h2) rfl rfl ?_
 refine wH rfl ?_;refine jB ?_;refine zF ?_
 refine RG.opS rfl (ma rfl (tk rfl) rfl (tk rfl) rfl rfl) rfl ?_
 refine wH rfl ?_
 refine RG.opS rfl (ma rfl (tk rfl) rfl (tk rfl) rfl rfl) rfl ?_
 refine wH rfl ?_;refine jB ?_
 have e0:gz p a b=(decide (a=b) || p.peers.any fun x=>decide (x=(a,b)) || decide (x=(b,a))):=by rw [gz,h1,h2];rfl
 refine AW.text ?_
 by_cases h:a=b
 ·refine RG.runO ae 0 [(27,.b true)] 400 rfl jD ?_
  refine jB ?_
  refine jR ?_
  exact congrArg AV.b (by rw [e0,qE h];rfl)
 ·refine RG.runO ae 0 [(27,.b false)] 400 rfl jD ?_
  refine RG.callS rfl rfl rfl rfl rfl (ku _ (cPr (a,b)) (cPr (b,a)) (fun x=>decide (x=(a,b)) || decide (x=(b,a))) p.peers (fun x _=>td x (a,b) (b,a)) _ rfl) rfl rfl ?_;refine jH ?_
  refine jR ?_
  exact congrArg AV.b (by rw [e0,qC h];rfl)
theorem GK (p:Pol)(a b:Int)(hp:p.ways.length<=4):aa Tryz.prog 124 [.agg (ur p),.i .i64 a,.i .i64 b] (.sl ((vj p a b).map cI)):=by
 refine jb Tryz.func124 ?_
 have hm:p.ways.length<=9223372036854775807:=by omega
 have hvl:(vj p a b).length<=4:=by
  have:=fC (f:=yR a b) (m:=1) (fun n w=>by rw [yR];cases (decide (w.fro=a) && decide (w.to=b)) <;> simp) 0 p.ways []
  rw [vj]
  simp at this
  omega
 refine jB ?_;refine wF ?_;refine wH rfl ?_;refine jB ?_
 refine AW.text ?_
 refine RG.opS rfl (bT 7 3 1 rfl) rfl ?_
 refine jH ?_
 refine AW.loopL (ι:=Nat × List Int) (fun i=>[(1,.i .i64 a),(2,.i .i64 b),(7,.row 7 0 0 (i.2.map cI).length),(11,.sl (p.ways.map cWy)),(12,.i .i64 (p.ways.map cWy).length),(13,.i .i64 (i.1:Nat))]) (fun i=>[(7,⟨0,some (.row 3 1 (i.2.map cI))⟩)]) (fun i=>i.1<=p.ways.length/\bJ (yR a b) i.1 (p.ways.drop i.1) i.2=vj p a b) (fun i=>p.ways.length-i.1) (0,[]) ⟨qR _,rfl⟩ jW jW fun i hi=>?_
 obtain⟨k,out⟩:=i
 obtain⟨hk,hf⟩:=hi
 simp only at hk hf
 refine jA ?_
 refine AW.cond rfl (fun h0'=>?_) (fun h0'=>?_)
 ·have h':k<p.ways.length:=by simpa using h0'
  have hol:out.length<=4:=by
   have h1:=gB (f:=yR a b) k (p.ways.drop k) out
   rw [hf] at h1
   omega
  rw [qT h',bJ,yR] at hf
  have hkx:(p.ways.map cWy)[k]?=some (cWy p.ways[k]):=by rw [qF,qA h'];rfl
  generalize p.ways[k]=w at hf hkx
  refine jA ?_
  refine jx hkx ?_
  refine wH rfl ?_;refine jB ?_
  refine AW.text ?_
  by_cases p1:w.fro=a
  ·refine RG.runO ae 0 [(20,.b true)] 400 rfl jD ?_
   refine jB ?_
   refine AW.cond rfl (fun hq=>?_) (fun hq=>?_)
   ·have hq:w.to=b:=of_decide_eq_true hq
    rw [qE p1,qE hq] at hf
    refine zB ?_
    refine wH rfl ?_
    refine RG.opS rfl (bI cI out w.via (by omega) rfl rfl rfl rfl (tk rfl) rfl (tk rfl) rfl rfl ⟨_,rfl,rfl⟩ rfl rfl) rfl ?_;refine jH ?_
    exact⟨(k+1,_),⟨⟨h',hf⟩,by show p.ways.length-(k+1)<p.ways.length-k;omega⟩,jV,jW⟩
   ·have hq:¬w.to=b:=of_decide_eq_false hq
    rw [qE p1,qC hq,Bool.and_false,cond_false,uA] at hf
    refine jA ?_
    exact⟨(k+1,out),⟨⟨h',hf⟩,by show p.ways.length-(k+1)<p.ways.length-k;omega⟩,jV,jW⟩
  ·rw [qC p1,uI,cond_false,uA] at hf
   refine RG.runO ae 0 [(20,.b false)] 400 rfl jD ?_
   refine jB ?_;refine zF ?_
   exact⟨(k+1,out),⟨⟨h',hf⟩,by show p.ways.length-(k+1)<p.ways.length-k;omega⟩,jV,jW⟩
 ·have h':¬k<p.ways.length:=by simpa using h0'
  obtain rfl:k=p.ways.length:=by omega
  rw [vJ,bJ] at hf
  refine zE ?_
  refine RG.callMS rfl rfl rfl rfl (congrArg (fun x=>[x]) (bw rfl)) rfl (gF out) rfl ?_;refine jH ?_
  refine jR ?_
  rw [<- hf]
  rfl
theorem Iu:∀n,n<256->UInt64.ofNat n &&& ~~~(vm 8).lo=0:=by decide
theorem Hc:∀n,n<8->UInt64.ofNat n &&& ~~~(vm 24).lo=0:=by decide
theorem mF (n:Nat)(h:n<=300):bQ (n:Int)=UInt64.ofNat n:=by
 apply UInt64.toNat_inj.1
 have:=eB (n:Int)
 rw [IntKind.wrap_u64] at this
 rw [UInt64.toNat_ofNat']
 omega
def dU (c:Cf)(s:Sp)(v:Int):Int:=if c.sound=0 then (if v<0\/v>255 then 4 else if s∈aI c.topo.ports then 0 else 7) else c.sound
def iJ (c:Cf)(s:Sp)(v:Int):Cb:=if dU c s v=0 then bl c s v else Cb.zero
theorem tu (c:Cf)(s:Sp)(v:Int):aa Tryz.prog 118 [.agg (cCf c),.agg (cSp s),.i .i64 v] (.tup [.agg (cCb (iJ c s v)),.i .i64 (dU c s v)]):=by
 refine jb Tryz.func118 ?_
 refine jA ?_
 refine jc (dR c) ?_;refine jH ?_
 refine AW.cond rfl (fun h0=>?_) (fun h0=>?_)
 ·have h0:¬c.sound=0:=by simpa using h0
  have e1:dU c s v=c.sound:=by rw [dU,if_neg h0]
  rw [iJ,e1,if_neg h0]
  refine zR ?_
  rfl
 have h0:c.sound=0:=by simpa using h0
 have hc:=Cf.ok h0
 have e0:dU c s v=if v<0\/v>255 then 4 else if s∈aI c.topo.ports then 0 else 7:=by rw [dU,if_pos h0]
 refine zB ?_
 by_cases h1:v<0
 ·refine RG.runO ae 0 [(21,.b true)] 400 rfl jD ?_
  refine jB ?_;refine zT ?_
  have e1:dU c s v=4:=by rw [e0,if_pos (by omega)]
  rw [iJ,e1,if_neg (by decide)]
  exact zS
 ·by_cases h2:v>255
  ·refine RG.runO ae 0 [(21,.b false),(24,.b true)] 400 rfl jD ?_
   refine jB ?_;refine zT ?_
   have e1:dU c s v=4:=by rw [e0,if_pos (by omega)]
   rw [iJ,e1,if_neg (by decide)]
   exact zS
  ·refine RG.runO ae 0 [(21,.b false),(24,.b false)] 400 rfl jD ?_
   rw [if_neg (by omega)] at e0
   refine jB ?_;refine zF ?_
   refine jm (i4 c.topo.ports hc.topo) ?_
   refine wH rfl ?_
   by_cases hs:s∈aI c.topo.ports
   rotate_left
   ·refine RG.callS rfl rfl rfl rfl rfl (eM s (aI c.topo.ports) _ (qC hs)) rfl rfl ?_;refine jH ?_
    refine zT ?_
    have e1:dU c s v=7:=by rw [e0,if_neg hs]
    rw [iJ,e1,if_neg (by decide)]
    exact zS
   have e1:dU c s v=0:=by rw [e0,if_pos hs]
   rw [iJ,e1,if_pos rfl]
   refine RG.callS rfl rfl rfl rfl rfl (eM s (aI c.topo.ports) _ (qE hs)) rfl rfl ?_;refine jH ?_
   refine zF ?_
   obtain⟨n,r,a,p,hr,hp,hk,rfl⟩:=dO.1 hs
   have hpa:bf c.topo.ports ⟨n,a⟩=p:=f8 hr hp
   have hok:=(bX hc.topo).2.2.2 n r hr a p hp
   obtain⟨t,ht,ht3⟩:∃t:Nat,p.tenant=(t:Nat)/\t<=3:=by
    rw [cQ] at hok
    simp [hk] at hok
    obtain⟨t,ht⟩:=Int.eq_ofNat_of_zero_le hok.2.1
    exact⟨t,ht,by omega⟩
   obtain⟨V,rfl⟩:=Int.eq_ofNat_of_zero_le (show 0<=v by omega)
   have hw:IntKind.i64.wrap (p.tenant+Int.ofNat 1)=((t+1:Nat):Int):=by
    rw [kA0,ht]
    simp only [qH]
    omega
   refine RG.callS rfl rfl rfl rfl rfl (BR 88 40 (by decide)) rfl rfl ?_;refine jH ?_
   refine RG.opS rfl (aq rfl (tk rfl) rfl (tk rfl) rfl rfl (show (c.topo.ports.map aP)[n]?=some (aP r) by rw [qF,hr];rfl) rfl) rfl ?_
   refine wH rfl ?_
   refine RG.opS rfl (aq rfl (tk rfl) rfl (tk rfl) rfl rfl (show (r.map cPt)[a]?=some (cPt p) by rw [qF,hp];rfl) rfl) rfl ?_
   refine RG.runO ae 0 [(53,.i .i64 (t+1:Nat))] 400 rfl jD ?_
   refine RG.callS rfl rfl rfl rfl rfl (Fa Hd.zero 88 24 (bQ ((t+1:Nat):Int)) (by decide) (by decide) (by rw [mF _ (by omega)];exact Hc _ (by omega))) rfl rfl ?_;refine jH ?_
   refine RG.callS rfl rfl rfl rfl rfl (Fa _ 112 8 (bQ (V:Int)) (by decide) (by decide) (by rw [mF _ (by omega)];exact Iu _ (by omega))) rfl rfl ?_;refine jH ?_
   refine RG.callS rfl rfl rfl rfl rfl (ul _ _) rfl rfl ?_;refine jH ?_
   refine jR ?_
   rw [bl,hpa,ht]
   rfl
theorem Dh (t:List (List Pt))(n a:Nat)(r:List Pt)(p:Pt)(ht:aY t=0)(hr:t[n]?=some r)(hp:r[a]?=some p)(hk:p.kind=2):aa Tryz.prog 174 [.agg (ic ⟨t⟩),.agg (cSp ⟨n,a⟩)] (.tup [.agg (cSp ⟨p.peer,p.at_⟩),.b true]):=by
 refine jb Tryz.func174 ?_
 have hlen:(t.map aP).length=t.length:=qG ..
 have hlr:(r.map cPt).length=r.length:=qG ..
 have hn:=(qD.1 hr).1
 have ha:=(qD.1 hp).1
 have g1:¬((n:Nat):Int)<0:=by omega
 have g2:¬((n:Nat):Int)>=(((t.map aP).length:Nat):Int):=by omega
 have g3:¬((a:Nat):Int)<0:=by omega
 have g4:¬((a:Nat):Int)>=(((r.map cPt).length:Nat):Int):=by omega
 have hS:=nq t
 rw [ht] at hS
 have hrx:(t.map aP)[n]?=some (aP r):=by rw [qF,hr];rfl
 have hpx:(r.map cPt)[a]?=some (cPt p):=by rw [qF,hp];rfl
 refine jB ?_;refine wF ?_;refine wH rfl ?_;refine jB ?_
 refine AW.draws aJ ?_
 refine wH rfl ?_
 refine jc hS ?_
 refine RG.runO ae 0 [(13,.b false),(21,.b false),(26,.b false)] 400 rfl jD ?_
 refine jx hrx ?_
 refine RG.runO ae 0 [(38,.b false)] 400 rfl jD ?_
 refine jB ?_;refine AW.condF rfl ?_;refine jB ?_
 refine AW.draws aJ ?_
 refine wH rfl ?_
 refine jx hrx ?_
 refine wH rfl ?_
 refine jx hpx ?_
 refine jH ?_
 refine AW.cond rfl (fun h=>?_) (fun h=>?_)
 ·simp [hk] at h
 refine zR ?_
 rfl
theorem tN (h:Hop)(n:Int):aa Tryz.prog 179 [.agg (dG h),.ro [.i .i64 n]] (.b (decide (h.sw=n))):=by
 refine jb Tryz.func179 ?_
 refine zR ?_
 rfl
theorem zj (r:Run)(n:Int)(q:Bool)(hq:gJ r n=q):aa Tryz.prog 126 [.agg (mw r),.i .i64 n] (.b q):=by
 refine jb Tryz.func126 ?_
 refine jA ?_
 refine RG.callS rfl rfl rfl rfl rfl (jT _ [.i .i64 n] (fun h=>decide (h.sw=n)) r.hops (fun x _=>tN x n) _ hq) rfl rfl ?_;refine jH ?_
 exact zS
theorem yc (l:List Rl)(X:List (List AV))(a b:Nat)(x y:Rl)(ha:l[a]?=some x)(hb:l[b]?=some y):aa Tryz.prog 253 [.ro [.sl (l.map cRl),.sl X],.i .i64 (a:Nat),.i .i64 (b:Nat)] (.i .i64 (orI [du y.prio x.prio,du a b])):=by
 refine jb Tryz.func253 ?_
 refine jA ?_
 refine RG.opS rfl (aq rfl (tk rfl) rfl (tk rfl) rfl rfl (show (l.map cRl)[b]?=some (cRl y) by rw [qF,hb];rfl) rfl) rfl ?_
 refine wH rfl ?_
 refine RG.opS rfl (aq rfl (tk rfl) rfl (tk rfl) rfl rfl (show (l.map cRl)[a]?=some (cRl x) by rw [qF,ha];rfl) rfl) rfl ?_
 refine wH rfl ?_
 refine jc (jk y.prio x.prio) ?_
 refine wH rfl ?_
 refine jc (jk a b) ?_
 refine wH rfl ?_
 refine jc (E9 [du y.prio x.prio,du a b]) ?_;refine jH ?_
 exact zS
theorem Rn.fnF {σ σ':Sto}{x:AV}{f:FuncId}{a:List AV}(e:x = .fn f a [])(h:a.all AV.pu1=true):Rn σ σ' x (.fn f a []):=by
 subst e
 exact .fn rfl rfl (fun j x x' h1 h2=>by
  rw [h1] at h2
  rw [<- qB h2]
  exact .pu (qV.1 h x (qN h1))) (fun j x x' h1=>by simp at h1)
def sW (l:List Rl):Prop:=∀(k:Nat) (x y:Rl),l[k]?=some x->l[k+1]?=some y->y.prio<=x.prio
def ea (k:Nat):List AV:=cI (k:Nat)
theorem zY (l:List Rl)(hf:sW l)(hl:l.length<=1000)(X:List (List AV)):aa Tryz.prog 259 [.sl ((List.range l.length).map ea),.i .i64 0,.i .i64 (l.length:Nat),.fn 253 [.ro [.sl (l.map cRl),.sl X]] []] (.tup []):=by
 refine jb Tryz.func259 ?_
 have hr:((List.range l.length).map ea).length=l.length:=by rw [qG,List.length_range]
 have hk:∀k,k<l.length->((List.range l.length).map ea)[k]?=some (ea k):=fun k h=>by rw [qF,List.getElem?_range h];rfl
 generalize (List.range l.length).map ea=els at hr hk
 refine jA ?_
 refine AW.loopL (ι:=Nat) (fun k=>[(0,.sl els),(1,.i .i64 0),(2,.i .i64 (l.length:Nat)),(3,.fn 253 [.ro [.sl (l.map cRl),.sl X]] []),(8,.i .i64 ((k+1:Nat):Int))]) (fun _=>[]) (fun k=>k<=l.length) (fun k=>l.length-k) 0 (qR _) jQ trivial fun k hkl=>?_
 refine jA ?_
 refine AW.cond rfl (fun h0=>?_) (fun h0=>?_)
 ·have h:k + 1 < l.length := by
   have:=of_decide_eq_true h0
   omega
  refine jA ?_
  refine AW.loopL (ι:=Nat) (fun _=>[(0,.sl els),(1,.i .i64 0),(2,.i .i64 (l.length:Nat)),(3,.fn 253 [.ro [.sl (l.map cRl),.sl X]] []),(8,.i .i64 ((k+1:Nat):Int)),(9,.i .i64 ((k+1:Nat):Int))]) (fun _=>[]) (fun _=>True) (fun i=>i) 0 trivial jQ trivial fun i _=>?_
  refine zD ?_
  have g1:((k+1:Nat):Int)>0:=by omega
  have g2:IntKind.i64.wrap (((k+1:Nat):Int)-Int.ofNat 1)=(k:Nat):=by
   rw [kA0]
   simp only [qH]
   omega
  refine RG.runO ae 0 [(20,.b true)] 400 rfl jD ?_
  refine jx (hk (k+1) h) ?_
  refine RG.runO ae 0 [(29,.i .i64 (k:Nat))] 400 rfl jD ?_
  refine RG.opS rfl (aq rfl (tk rfl) rfl (tk rfl) rfl rfl (hk k (by omega)) rfl) rfl ?_
  refine wH rfl ?_
  have e1:l[k+1]?=some l[k+1]:=qA h
  have e2:l[k]?=some (l[k]'(by omega)):=qA (by omega)
  have hle:=hf k _ _ e2 e1
  have hc:¬orI [du (l[k]'(by omega)).prio l[k+1].prio,du ((k+1:Nat):Int) (k:Nat)]<0:=by
   generalize (l[k]'(by omega)).prio=p at hle
   generalize l[k+1].prio=q at hle
   have c2:du ((k+1:Nat):Int) (k:Nat)=1:=by rw [du,if_neg (by omega),if_pos (by omega)]
   rw [c2]
   by_cases hpq:q<p
   ·have c1:du p q=1:=by rw [du,if_neg (by omega),if_pos hpq]
    rw [c1];decide
   ·have c1:du p q=0:=by rw [du,if_neg (by omega),if_neg hpq]
    rw [c1];decide
  refine RG.callS rfl rfl rfl rfl rfl (yc l X (k+1) k _ _ e1 e2) rfl rfl ?_
  refine wH rfl ?_;refine jB ?_
  refine AW.cond rfl (fun h1=>?_) (fun h1=>?_)
  ·exact absurd (of_decide_eq_true h1) hc
  refine zE ?_
  exact⟨k+1,⟨by omega,by omega⟩,⟨Rn.is rfl rfl,Rn.is rfl rfl,Rn.is rfl rfl,Rn.fnF rfl rfl,Rn.is (ay (show k+1<100000 by omega) (by decide)) rfl,trivial⟩,trivial⟩
 ·refine jA ?_
  refine jE ?_;refine jA ?_
  exact oJ rfl (.inl rfl)
theorem mX {P:Program}{N:Nat}{o:Oper}{s:St}{t:Nat}{ti:TI}{x i:Operand}{l:List UInt8}{b c:UInt8}(ho:o.op = .index t x i)(ht:aB P t ti)(hk:ti.k = .str)(hx:s.ev x = .s l)(hi:s.ev i = .y b)(hc:l[b.toNat]?=some c):ax P N o s ⟨.y c,[],[]⟩:=by
 refine az [] _ fun s' W F μ a h1 h2 hs=>⟨.int .u8 c.toNat,?_,.pure (.y c)⟩
 have ex:=hs.ev x
 rw [h1 x (by rw [ho];simp [Op.operands]),hx] at ex
 have ei':=hs.ev i
 rw [h1 i (by rw [ho];simp [Op.operands]),hi] at ei'
 have hb:(⟨l.toArray⟩:ByteArray)[b.toNat]?=some c:=by
  obtain⟨hlt,e⟩:=qD.1 hc
  rw [getElem?_pos (⟨l.toArray⟩:ByteArray) b.toNat (by simpa [ByteArray.size] using hlt)]
  exact congrArg some e
 have h0:(0:Int)<=(b.toNat:Int):=by omega
 simp only [execOp,ho,Instr.index,ex.s',ei'.y',asIntOf,kA2,kA3,kA1,kA9 (ht.str hk),h0,if_true,vQ,hb]
theorem CH (v:UInt64)(hv:v.toNat<256):∃r:Int,aa Tryz.prog 151 [.u v] (.i .i64 r):=by
 refine⟨?_,?_⟩
 rotate_left
 ·refine jb Tryz.func151 ?_
  refine jA ?_
  refine AW.cond rfl (fun h=>?_) (fun h=>?_)
  ·have:=UInt64.le_iff_toNat_le.1 (of_decide_eq_true h)
   exact absurd (Nat.lt_of_le_of_lt this hv) (by decide)
  clear h
  refine jA ?_
  refine AW.cond rfl (fun h=>?_) (fun h=>?_)
  ·have:=UInt64.le_iff_toNat_le.1 (of_decide_eq_true h)
   exact absurd (Nat.lt_of_le_of_lt this hv) (by decide)
  clear h
  refine jA ?_
  refine AW.cond rfl (fun h=>?_) (fun h=>?_)
  ·have:=UInt64.le_iff_toNat_le.1 (of_decide_eq_true h)
   exact absurd (Nat.lt_of_le_of_lt this hv) (by decide)
  clear h
  refine jA ?_
  refine RG.opS rfl (mX rfl (tk rfl) rfl rfl rfl (qA (vK (UInt8.toNat_lt _) (by decide)))) rfl ?_
  refine zH ?_
  rfl
theorem GW (v:UInt64)(hv:v.toNat<256):∃r:Int,aa Tryz.prog 105 [.u v] (.i .i64 r):=by
 obtain⟨r,hr⟩:=CH v hv
 refine⟨r,?_⟩
 refine jb Tryz.func105 ?_
 refine jA ?_
 refine zF ?_
 refine jc hr ?_;refine jH ?_
 exact zS
theorem Ii (l:List Rl)(hf:sW l)(hl:l.length<=12)(X:List (List AV))(lim:Int):aa Tryz.prog 256 [.sl ((List.range l.length).map ea),.i .i64 0,.i .i64 (l.length:Nat),.i .i64 lim,.fn 253 [.ro [.sl (l.map cRl),.sl X]] []] (.tup []):=by
 refine jb Tryz.func256 ?_
 have hI:=zY l hf (by omega) X
 generalize (List.range l.length).map ea=els at hI
 refine jA ?_
 refine AW.loopL (ι:=Nat) (fun _=>[(0,.sl els),(1,.i .i64 0),(2,.i .i64 (l.length:Nat)),(4,.fn 253 [.ro [.sl (l.map cRl),.sl X]] [])]) (fun _=>[]) (fun _=>True) (fun i=>i) 0 trivial jQ trivial fun i _=>?_
 refine jA ?_
 refine AW.cond rfl (fun h=>?_) (fun h=>?_)
 ·refine jA ?_
  refine jc hI ?_;refine jH ?_
  exact AW.ret (oJ rfl (.inr rfl))
 ·have h:=of_decide_eq_false h
  have hw:IntKind.i64.wrap (((l.length:Nat):Int)-0)=(l.length:Nat):=by rw [kA0];omega
  rw [hw] at h
  exact absurd (show ((l.length:Nat):Int)<=12 by omega) h
theorem um (l:List Rl)(hf:sW l)(hl:l.length<=12)(X:List (List AV)):aa Tryz.prog 252 [.sl ((List.range l.length).map ea),.fn 253 [.ro [.sl (l.map cRl),.sl X]] []] (.tup []):=by
 have hn:((List.range l.length).map ea).length=l.length:=by rw [qG,List.length_range]
 obtain⟨r,hr⟩:=GW (bQ (((List.range l.length).map ea).length:Nat)) (by rw [hn,mF _ (by omega),UInt64.toNat_ofNat'];omega)
 have hP:=Ii l hf hl X r
 generalize (List.range l.length).map ea=els at hr hP hn
 rw [<- hn] at hP
 refine jb Tryz.func252 ?_
 refine jA ?_
 refine jc hr ?_;refine jH ?_
 refine jc hP ?_;refine jH ?_
 exact oJ rfl (.inl rfl)
def tU (l:List Rl)(a b:Nat):Prop:=(l.getD b Rl.zero).prio<(l.getD a Rl.zero).prio\/((l.getD b Rl.zero).prio=(l.getD a Rl.zero).prio/\a<=b)
def j4 (l:List Rl):Prop:=∃os:List Nat,os.Perm (List.range l.length)/\os.Pairwise (tU l)/\aa Tryz.prog 244 [.sl (l.map cRl)] (.sl (os.map ea))
theorem sR {l:List Rl}(hf:sW l):∀(d a:Nat),a+d<l.length->(l.getD (a+d) Rl.zero).prio<=(l.getD a Rl.zero).prio
 |0,a,_=>Int.le_refl _
 |d+1,a,h=>by
  have ih:=sR hf d a (by omega)
  have e1:l[a+d]?=some (l[a+d]'(by omega)):=qA (by omega)
  have e2:l[a+d+1]?=some (l[a+d+1]'(by omega)):=qA (by omega)
  have:=hf (a+d) _ _ e1 e2
  rw [dA e1] at ih
  rw [show a+(d+1)=a+d+1 by omega,dA e2]
  omega
theorem t7 {l:List Rl}(hf:sW l)(hl:l.length<=12):j4 l:=by
 refine⟨List.range l.length,List.Perm.refl _,?_,?_⟩
 ·rw [List.pairwise_iff_getElem]
  intro i j hi hj hij
  rw [List.getElem_range,List.getElem_range]
  rw [List.length_range] at hj
  have:=sR hf (j-i) i (by omega)
  rw [show i+(j-i)=j by omega] at this
  by_cases e:(l.getD j Rl.zero).prio=(l.getD i Rl.zero).prio
  ·exact Or.inr ⟨e,by omega⟩
  ·exact Or.inl (by omega)
 refine jb Tryz.func244 ?_
 refine jB ?_;refine wF ?_;refine wH rfl ?_;refine jB ?_;refine wF ?_;refine wH rfl ?_;refine jB ?_
 refine AW.nilRow 40 0 3 1 [(0,.sl (l.map cRl)),(3,.own 7 0 0)] [(7,⟨0,some (.box 322 [.sl (l.map cRl),.row 40 0 0 0])⟩),(40,⟨0,some (.row 3 1 [])⟩)] ⟨.rn (Rn.is rfl rfl),.rn (Rn.ownIs rfl rfl rfl),trivial⟩ ⟨.boxL rfl ⟨RnN.is rfl rfl,.nil rfl,trivial⟩ rfl,.old (.row rfl rfl),trivial⟩ ?_
 refine jA ?_
 have hm:l.length<=9223372036854775807:=by omega
 refine AW.loopL (ι:=Nat × List Nat) (fun i=>[(3,.own 7 0 0),(8,.sl (l.map cRl)),(9,.i .i64 (l.map cRl).length),(10,.i .i64 (i.1:Nat))]) (fun i=>[(7,⟨0,some (.box 322 [.sl (l.map cRl),.row 40 0 0 (i.2.map ea).length])⟩),(40,⟨0,some (.row 3 1 (i.2.map ea))⟩)]) (fun i=>i.1<=l.length/\i.2=List.range i.1) (fun i=>l.length-i.1) (0,[]) ⟨qR _,rfl⟩ jW ⟨.boxL rfl jQ rfl,.row rfl rfl,trivial⟩ fun i hi=>?_
 obtain⟨k,out⟩:=i
 obtain⟨hk,ho⟩:=hi
 simp only at hk ho
 refine jA ?_
 refine AW.cond rfl (fun h0=>?_) (fun h0=>?_)
 ·have h:k<l.length:=by simpa using h0
  have hL:out.length<=100000000:=by rw [ho,List.length_range];omega
  refine jA ?_
  refine RG.opS rfl (bI ea out k hL rfl rfl rfl rfl (tk rfl) rfl (tk rfl) rfl rfl ⟨_,rfl,rfl⟩ rfl rfl) rfl ?_;refine jH ?_
  exact⟨(k+1,out++[k]),⟨⟨h,by show out++[k]=List.range (k+1);rw [ho,List.range_succ]⟩,by show l.length-(k+1)<l.length-k;omega⟩,jV,⟨.boxL rfl jQ rfl,.row rfl rfl,trivial⟩⟩
 ·have h:¬k<l.length:=by simpa using h0
  obtain rfl:k=l.length:=by omega
  have hS:=um l hf hl (((out.map ea).drop 0).take (out.map ea).length)
  rw [<- ho] at hS ⊢
  refine zE ?_
  refine RG.callS rfl rfl rfl rfl (congrArg (fun x=>[x,_]) (bw rfl)) hS rfl rfl ?_
  refine zH ?_
  exact bw rfl
def oD (l:List Rl)(h:Hd)(m:Nat):Prop:=m<l.length/\(l.getD m Rl.zero).mat.has h=true
def qv (L:List Rl)(h:Hd)(i:Nat):Option (Nat × Int)->Prop
 |none=>∀m<i,¬oD L h m
 |some x=>x.1<i/\oD L h x.1/\(L.getD x.1 Rl.zero).prio=x.2/\∀m<i,oD L h m->tU L x.1 m
theorem s8 (L:List Rl)(h:Hd):∀(l:List Rl) (i:Nat) (b:Option (Nat × Int)),L.drop i=l->i<=L.length->qv L h i b->qv L h L.length (gV h i l b)
 |[],i,b,hd,hi,hb=>by
  have:L.length<=i:=by rw [<- List.drop_eq_nil_iff];exact hd
  rw [gV,show L.length=i by omega]
  exact hb
 |r::l,i,b,hd,hi,hb=>by
  have hlt:i<L.length:=by
   have:=congrArg List.length hd
   rw [vW,qS] at this
   omega
  have hr:L[i]?=some r:=by
   have:(L.drop i)[0]?=some r:=by rw [hd];rfl
   rwa [uC,Nat.add_zero] at this
  have hrd:L.getD i Rl.zero=r:=dA hr
  have hd':L.drop (i+1)=l:=by rw [<- List.drop_drop,hd];rfl
  rw [gV]
  refine s8 L h l (i+1) _ hd' (by omega) ?_
  have step:∀m,m<i+1->m<i\/m=i:=fun m hm=>by omega
  cases hh:r.mat.has h
  ·have hno:¬oD L h i:=fun H=>by rw [oD,hrd,hh] at H;cases H.2
   rw [uI,cond_false]
   cases b with
   |none=>exact fun m hm H=>(step m hm).elim (fun e=>hb m e H) fun e=>hno (e ▸ H)
   |some x=>exact⟨by have:=hb.1;omega,hb.2.1,hb.2.2.1,fun m hm H=>(step m hm).elim (fun e=>hb.2.2.2 m e H) fun e=>absurd (e ▸ H) hno⟩
  ·have hyes:oD L h i:=⟨hlt,by rw [hrd];exact hh⟩
   rw [uE]
   cases b with
   |none=>
    show qv L h (i+1) (some (i,r.prio))
    exact⟨by omega,hyes,by rw [hrd],fun m hm H=>(step m hm).elim (fun e=>absurd H (hb m e)) fun e=>Or.inr ⟨by rw [e],by omega⟩⟩
   |some x=>
    obtain⟨h1,h2,h3,h4⟩:=hb
    by_cases hq:x.2<r.prio
    ·rw [show (some x).all (fun q=>decide (q.2<r.prio))=true from qE hq,cond_true]
     refine⟨by omega,hyes,by rw [hrd],fun m hm H=>(step m hm).elim (fun e=>?_) fun e=>Or.inr ⟨by rw [e],by omega⟩⟩
     have:=h4 m e H
     refine Or.inl ?_
     rw [hrd]
     rcases this with h|⟨h,_⟩ <;> omega
    ·rw [show (some x).all (fun q=>decide (q.2<r.prio))=false from qC hq,cond_false]
     refine⟨by omega,h2,h3,fun m hm H=>(step m hm).elim (fun e=>h4 m e H) fun e=>?_⟩
     subst e
     by_cases he:r.prio=x.2
     ·exact Or.inr ⟨by rw [hrd,h3];exact he,by omega⟩
     ·exact Or.inl (by rw [hrd,h3];omega)
theorem BY {l:List Rl}{h:Hd}(H:∀m,¬oD l h m):fnd l h=none:=by
 cases hf:fnd l h with
 |none=>rfl
 |some r=>
  obtain⟨h1,_,h3⟩:=lI hf
  exact absurd ⟨h1,h3⟩ (H r)
theorem BX {l:List Rl}{h:Hd}{r:Nat}(h1:oD l h r)(h2:∀m,oD l h m->tU l r m):fnd l h=some r:=by
 have H:=s8 l h l 0 none rfl (qR _) fun m hm=>absurd hm (uO m)
 rw [fnd]
 cases hf:gV h 0 l none with
 |none=>
  rw [hf] at H
  exact absurd h1 (H r h1.1)
 |some x=>
  rw [hf] at H
  obtain⟨_,k2,_,k4⟩:=H
  have b1:=h2 x.1 k2
  have b2:=k4 r h1.1 h1
  show some x.1=some r
  congr 1
  rcases b1 with b1|⟨b1,b1'⟩ <;> rcases b2 with b2|⟨b2,b2'⟩ <;> omega
theorem GH (l:List Rl)(h:Hd)(H:j4 l):aa Tryz.prog 217 [.sl (l.map cRl),.agg (cHd h)] (Ir (fnd l h)):=by
 obtain⟨os,hp,hs,hL⟩:=H
 have hlen:os.length=l.length:=by rw [hp.length_eq,List.length_range]
 have hmem:∀m,m∈os↔m<l.length:=fun m=>by rw [hp.mem_iff,uV]
 rw [List.pairwise_iff_getElem] at hs
 refine jb Tryz.func217 ?_
 refine jB ?_
 refine AW.lens 0 rfl fun hl=>?_
 rw [qG] at hl
 refine jA ?_
 refine jm hL ?_;refine jH ?_
 refine AW.loopL (ι:=Nat) (fun k=>[(0,.sl (l.map cRl)),(3,.own 3 0 0),(9,.sl (os.map ea)),(10,.i .i64 (os.map ea).length),(11,.i .i64 (k:Nat))]) (fun _=>[(3,⟨0,some (.box 34 (cHd h))⟩)]) (fun k=>k<=os.length/\∀(j:Nat) (hj:j<os.length),j<k->¬oD l h os[j]) (fun k=>os.length-k) 0 ⟨qR _,fun j hj h0=>absurd h0 (uO j)⟩ jW jW fun k hk=>?_
 obtain⟨hk,hf⟩:=hk
 refine jA ?_
 refine AW.cond rfl (fun h0=>?_) (fun h0=>?_)
 ·have hk':k<os.length:=by simpa using h0
  have hm:os.length<=9223372036854775807:=by omega
  have hol:os[k]<l.length:=(hmem _).1 (vR hk')
  have hx:(l.map cRl)[os[k]]?=some (cRl (l.getD os[k] Rl.zero)):=by rw [qF,qA hol,qM,qA hol];rfl
  refine jA ?_
  refine RG.opS rfl (aq rfl (tk rfl) rfl (tk rfl) rfl rfl (show (os.map ea)[k]?=some (ea os[k]) by rw [qF,qA (by assumption)];rfl) rfl) rfl ?_
  refine jH ?_
  refine jx hx ?_
  refine wH rfl ?_
  cases hq:(l.getD os[k] Rl.zero).mat.has h
  ·refine RG.callS rfl rfl rfl rfl rfl (E1 _ h _ hq) rfl rfl ?_;refine jH ?_
   refine zF ?_
   refine⟨k+1,⟨⟨hk',fun j hj hjk=>?_⟩,by omega⟩,jV,jW⟩
   by_cases e:j=k
   ·subst e
    intro H
    rw [H.2] at hq
    cases hq
   ·exact hf j hj (by omega)
  ·refine RG.callS rfl rfl rfl rfl rfl (E1 _ h _ hq) rfl rfl ?_;refine jH ?_
   refine zT ?_
   refine jR ?_
   have:fnd l h=some os[k]:=BX ⟨hol,hq⟩ fun m H=>by
    obtain⟨j,hj,rfl⟩:=List.getElem_of_mem ((hmem m).2 H.1)
    by_cases e:j<k
    ·exact absurd H (hf j hj e)
    ·by_cases e2:j=k
     ·subst e2;exact Or.inr ⟨rfl,qJ _⟩
     ·exact hs k j hk' hj (by omega)
   rw [this]
   rfl
 ·have hk':¬k<os.length:=by simpa using h0
  refine zE ?_
  refine jR ?_
  have:fnd l h=none:=BY fun m H=>by
   obtain⟨j,hj,rfl⟩:=List.getElem_of_mem ((hmem m).2 H.1)
   exact hf j hj (by omega) H
  rw [this]
  rfl
def B7 (l:List Rl)(h:Hd):AV:=match fnd l h with
 |none=>.tup [.i .i64 0,.agg (cHd Hd.zero),.b false]
 |some r=>.tup [.i .i64 (r:Nat),.agg (cHd (h.set (l.getD r Rl.zero).act.set)),.b true]
theorem Ih (ts:List (List Rl))(n:Nat)(l:List Rl)(h:Hd)(hn:ts[n]?=some l)(H:j4 l):aa Tryz.prog 173 [.sl (ts.map bp),.i .i64 (n:Nat),.agg (cHd h)] (B7 l h):=by
 refine jb Tryz.func173 ?_
 have hlt:(ts.map bp).length=ts.length:=qG ..
 have hnl:=(qD.1 hn).1
 have g1:¬((n:Nat):Int)<0:=by omega
 have g2:¬((n:Nat):Int)>=(((ts.map bp).length:Nat):Int):=by omega
 have hx:(ts.map bp)[n]?=some (bp l):=by rw [qF,hn];rfl
 have hF:=GH l h H
 refine jB ?_;refine wF ?_;refine wH rfl ?_;refine jB ?_
 refine AW.text ?_
 refine RG.runO ae 0 [(12,.b false),(17,.b false)] 400 rfl jD ?_
 refine jB ?_;refine zF ?_
 refine jx hx ?_
 refine wH rfl ?_
 cases hq:fnd l h with
 |none=>
  rw [hq] at hF
  refine jc hF ?_;refine jH ?_
  refine zT ?_
  refine jR ?_
  rw [B7,hq]
  rfl
 |some r=>
  obtain⟨hr1,_,_⟩:=lI hq
  have hrx:(l.map cRl)[r]?=some (cRl (l.getD r Rl.zero)):=by rw [qF,qA hr1,qM,qA hr1];rfl
  rw [hq] at hF
  refine jc hF ?_;refine jH ?_
  refine zF ?_
  refine jx hx ?_
  refine wH rfl ?_
  refine jx hrx ?_
  refine wH rfl ?_
  refine jc (Ga (l.getD r Rl.zero) h) ?_;refine jH ?_
  refine jR ?_
  rw [B7,hq]
  rfl
structure Pk where
 n:Int
 t:Int
 h:Hd
 fin:Int
 sw:Int
 port:Int
 hops:List Hop
def wkB (c:Cf)(w:Pk):List (Nat × SB):=[(0,⟨0,some (.box 211 [.sl (c.topo.ports.map aP),.i .i64 c.pol.tenants,.sl (c.pol.peers.map cPr),.sl (c.pol.ways.map cWy),.sl (c.tables.map bY),.i .i64 w.n,.i .i64 w.t,.u w.h.hi,.u w.h.lo,.i .i64 w.fin,.i .i64 w.sw,.i .i64 w.port,.row 1 0 0 (w.hops.map dG).length])⟩),(1,⟨0,some (.row 79 5 (w.hops.map dG))⟩)]
def kg (c:Cf):Prop:=∀n t,j4 (aX c n t)
def wW (c:Cf)(w:Pk):Pk :=
 match fnd (aX c w.n.toNat w.t.toNat) w.h with
 |none=>⟨w.n,w.t,w.h,3,w.sw,w.port,w.hops++[⟨w.n,w.t,-1,w.h⟩]⟩
 |some r=>
  if ((aX c w.n.toNat w.t.toNat).getD r Rl.zero).act.kind=4 then ⟨w.n,((aX c w.n.toNat w.t.toNat).getD r Rl.zero).act.table,w.h.set ((aX c w.n.toNat w.t.toNat).getD r Rl.zero).act.set,w.fin,w.sw,w.port,w.hops++[⟨w.n,w.t,(r:Nat),w.h⟩]⟩
  else if ((aX c w.n.toNat w.t.toNat).getD r Rl.zero).act.kind=3 then ⟨(bf c.topo.ports ⟨w.n,((aX c w.n.toNat w.t.toNat).getD r Rl.zero).act.port⟩).peer,0,w.h.set ((aX c w.n.toNat w.t.toNat).getD r Rl.zero).act.set,w.fin,w.sw,w.port,w.hops++[⟨w.n,w.t,(r:Nat),w.h⟩]⟩
  else if ((aX c w.n.toNat w.t.toNat).getD r Rl.zero).act.kind=2 then ⟨w.n,w.t,w.h.set ((aX c w.n.toNat w.t.toNat).getD r Rl.zero).act.set,2,w.n,((aX c w.n.toNat w.t.toNat).getD r Rl.zero).act.port,w.hops++[⟨w.n,w.t,(r:Nat),w.h⟩]⟩
  else ⟨w.n,w.t,w.h.set ((aX c w.n.toNat w.t.toNat).getD r Rl.zero).act.set,1,w.sw,w.port,w.hops++[⟨w.n,w.t,(r:Nat),w.h⟩]⟩
theorem FX (c:Cf)(hc:c.Ok)(hL:kg c)(n t:Nat)(hat:At c n t)(h:Hd)(hops:List Hop)(hl:hops.length<=100000000)(w':Pk)(hw:wW c ⟨n,t,h,0,0,0,hops⟩=w')(g:Bool)(hg:decide (w'.fin=0)=g)(q:Nat->Option (Nat × Nat)):aj Tryz.prog 120 [.own 0 0 0] (gl q [0] (wkB c ⟨n,t,h,0,0,0,hops⟩)) (.b g) (gl q [0] (wkB c w')):=by
 obtain⟨ts,ht1,ht2⟩:=hat.get
 have hx1:(c.tables.map bY)[n]?=some (bY ts):=by rw [qF,ht1];rfl
 have hx2:(ts.map bp)[t]?=some (bp (aX c n t)):=by rw [qF,ht2];rfl
 have hO:=Ih ts t (aX c n t) h ht2 (hL n t)
 rw [wW] at hw
 simp only [vQ] at hw
 refine aj.of_body Tryz.func120 rfl (by kernel_rfl) rfl rfl ?_
 refine jA ?_
 refine jx hx1 ?_
 refine wH rfl ?_
 cases hq:fnd (aX c n t) h with
 |none=>
  rw [B7,hq] at hO
  rw [hq] at hw
  dsimp only at hw
  subst hw
  subst hg
  refine jc hO ?_;refine jH ?_
  refine zT ?_
  refine RG.opS rfl (bI dG hops ⟨n,t,-1,h⟩ hl rfl rfl rfl rfl (tk rfl) rfl (tk rfl) rfl rfl ⟨_,rfl,rfl⟩ rfl rfl) rfl ?_;refine jH ?_
  refine zT ?_
  exact AW.ret (dW rfl (Rm.is rfl rfl) ⟨.ghost rfl rfl rfl,.boxL rfl jQ rfl,.row rfl rfl,trivial⟩)
 |some r=>
  obtain⟨hr1,hr2,_⟩:=lI hq
  have hrx:((aX c n t).map cRl)[r]?=some (cRl ((aX c n t).getD r Rl.zero)):=by rw [qF,qA hr1,qM,qA hr1];rfl
  rw [B7,hq] at hO
  rw [hq] at hw
  dsimp only at hw hO
  generalize (aX c n t).getD r Rl.zero=x at hw hO hr2 hrx
  have hkind:=Rl.does_kind (Rl.sound_does (hat.rule hc hr2).1).2.2
  refine jc hO ?_;refine jH ?_
  refine zF ?_
  refine RG.opS rfl (bI dG hops ⟨n,t,r,h⟩ hl rfl rfl rfl rfl (tk rfl) rfl (tk rfl) rfl rfl ⟨_,rfl,rfl⟩ rfl rfl) rfl ?_;refine jH ?_
  refine zF ?_
  refine jx hx1 ?_
  refine wH rfl ?_
  refine jx hx2 ?_
  refine wH rfl ?_
  refine jx hrx ?_
  refine jH ?_
  refine AW.cond rfl (fun k4=>?_) (fun k4=>?_)
  ·have k4:x.act.kind=4:=of_decide_eq_true k4
   rw [if_pos k4] at hw
   subst hw
   subst hg
   refine jA ?_
   exact AW.ret (dW rfl (Rm.is rfl rfl) ⟨.ghost rfl rfl rfl,.boxL rfl jQ rfl,.row rfl rfl,trivial⟩)
  have k4:¬x.act.kind=4:=of_decide_eq_false k4
  rw [if_neg k4] at hw
  refine jA ?_
  refine AW.cond rfl (fun k3=>?_) (fun k3=>?_)
  ·have k3:x.act.kind=3:=of_decide_eq_true k3
   rw [if_pos k3] at hw
   obtain⟨hl1,hl2,hl3⟩:=hat.link hc hr2 k3
   obtain⟨hd1,hd2,hd3⟩:=Rl.does_forward (Rl.sound_does (hat.rule hc hr2).1).2.2 k3
   obtain⟨pn,hpn⟩:=Int.eq_ofNat_of_zero_le hd1
   have hnl:n<c.topo.ports.length:=by rw [<- hc.len];exact hat.sw
   have ep:c.topo.ports.getD n []=c.topo.ports[n]:=dA (qA hnl)
   rw [ep] at hd2
   have hpl:pn<c.topo.ports[n].length:=by omega
   have epp:bf c.topo.ports ⟨n,x.act.port⟩=c.topo.ports[n][pn]:=by
    rw [hpn]
    exact f8 (qA hnl) (qA hpl)
   have hOt:=Dh c.topo.ports n pn _ _ hc.topo (qA hnl) (qA hpl) (by rw [<- epp];exact hl3)
   rw [epp] at hw
   rw [<- hpn] at hOt
   subst hw
   subst hg
   refine jA ?_
   refine jc hOt ?_;refine jH ?_
   exact AW.ret (dW rfl (Rm.is rfl rfl) ⟨.ghost rfl rfl rfl,.boxL rfl jQ rfl,.row rfl rfl,trivial⟩)
  have k3:¬x.act.kind=3:=of_decide_eq_false k3
  rw [if_neg k3] at hw
  refine jA ?_
  refine AW.cond rfl (fun k2=>?_) (fun k2=>?_)
  ·have k2:x.act.kind=2:=of_decide_eq_true k2
   rw [if_pos k2] at hw
   subst hw
   subst hg
   refine jA ?_
   exact AW.ret (dW rfl (Rm.is rfl rfl) ⟨.ghost rfl rfl rfl,.boxL rfl jQ rfl,.row rfl rfl,trivial⟩)
  have k2:¬x.act.kind=2:=of_decide_eq_false k2
  rw [if_neg k2] at hw
  subst hw
  subst hg
  refine jA ?_
  exact AW.ret (dW rfl (Rm.is rfl rfl) ⟨.ghost rfl rfl rfl,.boxL rfl jQ rfl,.row rfl rfl,trivial⟩)
theorem Rn.fnOwn {σ σ':Sto}{x:AV}{f:FuncId}{id ep ep' off:Nat}{bd bd':aE}(e:x = .fn f [.own id ep off] [])(h:σ id=⟨ep,some bd⟩)(h':σ' id=⟨ep',some bd'⟩):Rn σ σ' x (.fn f [.own id ep' off] []):=by
 subst e
 refine .fn rfl rfl (fun j x x' h1 h2=>?_) (fun j x x' h1=>by simp at h1)
 cases j with
 |zero=>
  obtain rfl:AV.own id ep off=x:=by simpa using h1
  obtain rfl:AV.own id ep' off=x':=by simpa using h2
  exact .own h h'
 |succ j=>simp at h1
def wkC (c:Cf)(n t:Nat)(h:Hd)(hops:List Hop):List AV:=[.sl (c.topo.ports.map aP),.i .i64 c.pol.tenants,.sl (c.pol.peers.map cPr),.sl (c.pol.ways.map cWy),.sl (c.tables.map bY),.i .i64 n,.i .i64 t,.u h.hi,.u h.lo,.i .i64 0,.i .i64 0,.i .i64 0,.row 40 0 0 (hops.map dG).length]
theorem mx (fin sw port:Int)(hops:List Hop)(R:Run)(h:(⟨fin,⟨sw,port⟩,hops⟩:Run)=R):AV.tup [.agg [.i .i64 fin,.i .i64 sw,.i .i64 port,.sl (((hops.map dG).drop 0).take (hops.map dG).length)],.i .i64 0] = .tup [.agg (mw R),.i .i64 0]:=congrArg (fun x=>AV.tup [x,.i .i64 0]) (ny fin sw port hops R h)
theorem Ia (c:Cf)(h0:c.sound=0)(hL:kg c)(s:Sp)(hs:s∈aI c.topo.ports)(h:Hd)(V:Nat)(hV:V<=255):aa Tryz.prog 72 [.agg (cCf c),.agg (cSp s),.agg (cHd h),.i .i64 V] (.tup [.agg (mw (bD c s h V 10800)),.i .i64 0]):=by
 have hc:=Cf.ok h0
 have hSt:=tu c s V
 have e0:dU c s V=0:=by rw [dU,if_pos h0,if_neg (by omega),if_pos hs]
 rw [iJ,e0,if_pos rfl] at hSt
 obtain⟨n0,r0,a0,p0,hr0,hp0,hk0,rfl⟩:=dO.1 hs
 have hat0:At c n0 0:=At.start hc (qD.1 hr0).1
 have hR:goF c 10800 n0 0 (h.set (bl c ⟨n0,a0⟩ V)) []=bD c ⟨n0,a0⟩ h V 10800:=rfl
 generalize bD c ⟨n0,a0⟩ h V 10800=R at hR
 have hS:=E8 h (bl c ⟨n0,a0⟩ V)
 generalize h.set (bl c ⟨n0,a0⟩ V)=g0 at hR hS
 refine jb Tryz.func72 ?_
 refine jA ?_
 refine jc hSt ?_;refine jH ?_
 refine AW.condF rfl ?_;refine jB ?_
 refine AW.draws aJ ?_
 refine wH rfl ?_
 refine jc hS ?_
 refine wH rfl ?_;refine jB ?_
 refine AW.nilRow 40 0 79 5 [(8,.own 8 0 0),(12,.own 33 0 0)] [(8,⟨0,some (.box 43 [.i .i64 0,.i .i64 0,.i .i64 0,.raw (.slice none 0 0)])⟩),(33,⟨0,some (.box 211 (wkC c n0 0 g0 []))⟩),(40,⟨0,some (.row 79 5 [])⟩)] ⟨.rn (Rn.ownIs rfl rfl rfl),.rn (Rn.ownIs rfl rfl rfl),trivial⟩ ⟨.old (.same rfl rfl rfl),.boxL rfl ⟨RnN.is rfl rfl,RnN.is rfl rfl,RnN.is rfl rfl,RnN.is rfl rfl,RnN.is rfl rfl,RnN.is rfl rfl,RnN.is rfl rfl,RnN.is rfl rfl,RnN.is rfl rfl,RnN.is rfl rfl,RnN.is rfl rfl,RnN.is rfl rfl,.nil rfl,trivial⟩ rfl,.old (.row rfl rfl),trivial⟩ ?_
 refine jA ?_
 refine AW.loopL (ι:=Nat × Nat × Nat × Hd × List Hop) (fun i=>[(8,.own 8 0 0),(12,.own 33 0 0),(13,.fn 120 [.own 33 0 0] []),(36,.i .i64 (i.1:Nat))]) (fun i=>[(8,⟨0,some (.box 43 [.i .i64 0,.i .i64 0,.i .i64 0,.raw (.slice none 0 0)])⟩),(33,⟨0,some (.box 211 (wkC c i.2.1 i.2.2.1 i.2.2.2.1 i.2.2.2.2))⟩),(40,⟨0,some (.row 79 5 (i.2.2.2.2.map dG))⟩)]) (fun i=>(i.1<=10800/\i.2.2.2.2.length=i.1)/\At c i.2.1 i.2.2.1/\goF c (10800-i.1) i.2.1 i.2.2.1 i.2.2.2.1 i.2.2.2.2=R) (fun i=>10800-i.1) (0,n0,0,g0,[]) ⟨⟨qR _,rfl⟩,hat0,hR⟩ ⟨Rn.ownIs rfl rfl rfl,Rn.ownIs rfl rfl rfl,Rn.fnOwn rfl rfl rfl,Rn.is rfl rfl,trivial⟩ ⟨.same rfl rfl rfl,.boxL rfl jQ rfl,.row rfl rfl,trivial⟩ fun i hi=>?_
 obtain⟨k,n,t,h,hops⟩:=i
 obtain⟨⟨hk,hlen⟩,hat,hf⟩:=hi
 simp only at hk hlen hat hf
 clear hR hS hSt hat0
 refine jA ?_
 refine AW.cond rfl (fun h1=>?_) (fun h1=>?_)
 rotate_left
 ·have h1:=of_decide_eq_false h1
  have h1:¬((k:Nat):Int)<10800:=h1
  obtain rfl:k=10800:=by omega
  rw [Nat.sub_self,goF] at hf
  refine zE ?_
  refine jR ?_
  exact mx 4 0 0 hops R hf
 have h1:=of_decide_eq_true h1
 have h1:((k:Nat):Int)<10800:=h1
 have hk':k<10800:=by omega
 have hL1:hops.length<=100000000:=by omega
 obtain⟨f,hfu⟩:∃f,10800-k=f+1:=⟨10800-k-1,by omega⟩
 have hlt:∀x:Hop,(hops++[x]).length=k+1:=fun x=>by rw [qK,vP,hlen]
 have hnx:10800-(k+1)=f:=by omega
 rw [hfu,goF] at hf
 have hw:∀w',wW c ⟨n,t,h,0,0,0,hops⟩=w'->∀g,decide (w'.fin=0)=g->∀q,aj Tryz.prog 120 [.own 0 0 0] (gl q [0] (wkB c ⟨n,t,h,0,0,0,hops⟩)) (.b g) (gl q [0] (wkB c w')):=fun w' hw g hg q=>FX c hc hL n t hat h hops hL1 w' hw g hg q
 simp only [wW,vQ] at hw
 cases hq:fnd (aX c n t) h with
 |none=>
  rw [hq] at hf hw
  dsimp only at hf hw
  refine jA ?_
  refine RG.ownN [(33,0),(40,1)] [(0,33),(1,40)] (fun q=>hw _ rfl false rfl q) rfl rfl rfl rfl rfl rfl rfl rfl rfl rfl ?_
  refine jH ?_;refine zT ?_
  refine jR ?_
  exact mx 3 0 0 _ R hf
 |some r=>
  obtain⟨hr1,hr2,_⟩:=lI hq
  rw [hq] at hf hw
  dsimp only at hf hw
  generalize (aX c n t).getD r Rl.zero=x at hw hf hr2
  by_cases k4:x.act.kind=4
  ·rw [if_pos k4] at hf hw
   have hg:=Rl.does_goto (Rl.sound_does (hat.rule hc hr2).1).2.2 k4
   refine jA ?_
   refine RG.ownN [(33,0),(40,1)] [(0,33),(1,40)] (fun q=>hw _ rfl true rfl q) rfl rfl rfl rfl rfl rfl rfl rfl rfl rfl ?_
   refine jH ?_;refine zF ?_
   exact⟨(k+1,n,x.act.table.toNat,h.set x.act.set,hops++[⟨n,t,r,h⟩]),⟨⟨⟨by show k+1<=10800;omega,hlt _⟩,hat.goto hc hr2 k4,by show goF c (10800-(k+1)) _ _ _ _=R;rw [hnx];exact hf⟩,by show 10800-(k+1)<10800-k;omega⟩,⟨Rn.ownIs rfl rfl rfl,Rn.ownIs rfl rfl rfl,Rn.fnOwn rfl rfl rfl,Rn.is (ay hk' (by decide)) rfl,trivial⟩,⟨.same rfl rfl rfl,.boxL rfl ⟨Rn.is rfl rfl,Rn.is rfl rfl,Rn.is rfl rfl,Rn.is rfl rfl,Rn.is rfl rfl,Rn.is rfl rfl,Rn.is (congrArg (AV.i .i64) (show x.act.table=(x.act.table.toNat:Nat) by omega)) rfl,Rn.is rfl rfl,Rn.is rfl rfl,Rn.is rfl rfl,Rn.is rfl rfl,Rn.is rfl rfl,Rn.rowIs rfl rfl rfl,trivial⟩ rfl,.row rfl rfl,trivial⟩⟩
  rw [if_neg k4] at hf hw
  by_cases k3:x.act.kind=3
  ·rw [if_pos k3] at hf hw
   obtain⟨hl1,hl2,hl3⟩:=hat.link hc hr2 k3
   have hat2:=hat.forward hc hr2 k3
   refine jA ?_
   refine RG.ownN [(33,0),(40,1)] [(0,33),(1,40)] (fun q=>hw _ rfl true rfl q) rfl rfl rfl rfl rfl rfl rfl rfl rfl rfl ?_
   refine jH ?_;refine zF ?_
   exact⟨(k+1,(bf c.topo.ports ⟨n,x.act.port⟩).peer.toNat,0,h.set x.act.set,hops++[⟨n,t,r,h⟩]),⟨⟨⟨by show k+1<=10800;omega,hlt _⟩,hat2,by show goF c (10800-(k+1)) _ _ _ _=R;rw [hnx];exact hf⟩,by show 10800-(k+1)<10800-k;omega⟩,⟨Rn.ownIs rfl rfl rfl,Rn.ownIs rfl rfl rfl,Rn.fnOwn rfl rfl rfl,Rn.is (ay hk' (by decide)) rfl,trivial⟩,⟨.same rfl rfl rfl,.boxL rfl ⟨Rn.is rfl rfl,Rn.is rfl rfl,Rn.is rfl rfl,Rn.is rfl rfl,Rn.is rfl rfl,Rn.is (congrArg (AV.i .i64) (show (bf c.topo.ports ⟨n,x.act.port⟩).peer=((bf c.topo.ports ⟨n,x.act.port⟩).peer.toNat:Nat) by omega)) rfl,Rn.is rfl rfl,Rn.is rfl rfl,Rn.is rfl rfl,Rn.is rfl rfl,Rn.is rfl rfl,Rn.is rfl rfl,Rn.rowIs rfl rfl rfl,trivial⟩ rfl,.row rfl rfl,trivial⟩⟩
  rw [if_neg k3] at hf hw
  by_cases k2:x.act.kind=2
  ·rw [if_pos k2] at hf hw
   refine jA ?_
   refine RG.ownN [(33,0),(40,1)] [(0,33),(1,40)] (fun q=>hw _ rfl false rfl q) rfl rfl rfl rfl rfl rfl rfl rfl rfl rfl ?_
   refine jH ?_;refine zT ?_
   refine jR ?_
   exact mx 2 n x.act.port _ R hf
  ·rw [if_neg k2] at hf hw
   refine jA ?_
   refine RG.ownN [(33,0),(40,1)] [(0,33),(1,40)] (fun q=>hw _ rfl false rfl q) rfl rfl rfl rfl rfl rfl rfl rfl rfl rfl ?_
   refine jH ?_;refine zT ?_
   refine jR ?_
   exact mx 1 0 0 _ R hf
end Go.Proofs.YtdidjpohnopihaaGreat.Sm
end
