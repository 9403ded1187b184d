/- Contracts of the program's functions over data, and the plain laws that they meet (part 4). No condition. -/
import Derived.Test.YtdidjpohnopihaaGreatVmc
import Derived.WalkKit
import Derived.WalkSpells
import Derived.WalkLawsBesides
import Derived.Lib.Hide
import Derived.Deep.RegionHeld3
import Derived.Maps.AppendAt
import Derived.KernelRfl
import Derived.Lib.AppendStr
import Derived.Orders
import Derived.LoopTactic
import Derived.Laws.CopyRow
import Derived.Laws.Cells
import Derived.OrdersIn
import Derived.Laws.Externs
import Derived.TacticsIn
import Derived.RangeFuncLeaves
import Derived.RangeFuncRecord
import Derived.Great.BuildSlice
import Derived.Laws.ResultCell
import Derived.Laws.StructEq
import Derived.Laws.MakeOwn
import Derived.Lib.AppendZerosOnto
import Derived.RangeFuncSeq
import Derived.RangeFuncIn
import Derived.Deep.Slices
import Derived.Deep.Fields
import Derived.ChangeSame
import Derived.ProofKit
import Derived.OpenShut
import Derived.SizedLaws
import Derived.Test.YtdidjpohnopihaaGreatProg
import Derived.Shelf.Spec.BitsCarry
import Derived.Laws.AppendOwn
set_option linter.unusedVariables false
set_option linter.unusedSimpArgs false
set_option maxRecDepth 100000
set_option maxHeartbeats 4000000
section
namespace Go.Proofs.YtdidjpohnopihaaGreat.Sm
open Go.RowKit
theorem shr_rem (a:UInt64) (k:Nat) (hk:k<64):decide (shr64 a k % 2=1)=a.toBitVec.getLsbD k:=by
 have h:(shr64 a k % 2).toNat=a.toNat / 2 ^ k % 2:=by
  rw [UInt64.toNat_mod,shr64,UInt64.toNat_ofNat_of_lt' (Nat.lt_of_le_of_lt (Nat.div_le_self _ _) (UInt64.toNat_lt a)),Nat.min_eq_left (by omega)]
  rfl
 rw [BitVec.getLsbD,Nat.testBit_eq_decide_div_mod_eq]
 refine decide_eq_decide.2 ?_
 rw [<- UInt64.toNat_inj,h]
 rfl
def ti158:TI:=⟨.arr 128 4,128,128,bA fun _=>false⟩
theorem ti158_ok:TiOk Tryz.prog 97 ti158:=tiB_ok (by kernel_rfl)
theorem d_Bits (h:Hd):PDoes Tryz.prog 29 [.agg (cHd h)] (.agg (bA h.b)):=by
 refine jb Tryz.func29 ?_
 refine jA ?_
 refine RG.opS rfl (op_allocB (id:=2) rfl ti158_ok rfl) rfl ?_
 refine jB ?_
 refine AW.text ?_
 refine RG.opS rfl (op_buildB rfl ti158_ok rfl (tk rfl) rfl) rfl ?_
 refine RG.opS rfl (op_allocB (id:=3) rfl ti158_ok rfl) rfl ?_
 refine RG.opS rfl (op_storeBs (bA_len _) rfl ti158_ok rfl rfl rfl rfl) rfl ?_
 refine jH ?_
 refine AW.loopL (ι:=Nat × (Nat->Bool)) (fun i=>[(1,.own 1 0 0),(2,.own 2 0 0),(3,.own 3 0 0),(4,.i .i64 (i.1:Nat))]) (fun i=>[(1,⟨0,some (.box 34 (cHd h))⟩),(2,⟨0,some (.box 97 (bA fun _=>false))⟩),(3,⟨0,some (.box 97 (bA i.2))⟩)]) (fun i=>i.1<=128/\∀j<i.1,i.2 j=h.b j) (fun i=>128 - i.1) (0,fun _=>false) ⟨qP _,fun j hj=>absurd hj (uO j)⟩ jW jW fun i hi=>?_
 obtain ⟨k,f⟩:=i
 obtain ⟨hk,hf⟩:=hi
 simp only at hk hf
 refine jA ?_
 refine AW.cond rfl (fun h'=>?_) (fun h'=>?_)
 ·have h':k<128:=Int.ofNat_lt.1 (of_decide_eq_true h')
  have hm:(128:Nat)<=9223372036854775807:=by decide
  refine jA ?_
  refine AW.cond rfl (fun h2=>?_) (fun h2=>?_)
  ·have h2:k<64:=Int.ofNat_lt.1 (of_decide_eq_true h2)
   refine jA ?_
   refine RG.opS rfl (op_addrB k h' rfl ti158_ok rfl (tk rfl) rfl rfl rfl rfl) rfl ?_
   refine RG.opS rfl (op_storeB k h' rfl (tk rfl) rfl rfl rfl rfl) rfl ?_
   refine jH ?_
   refine ⟨(k+1,upB f k _),⟨⟨h',fun j hj=>?_⟩,by show 128 - (k+1)<128 - k;omega⟩,jV,jW⟩
   show upB f k _ j=_
   rw [upB]
   by_cases e:j=k
   ·rw [if_pos e,e,sh0 k (by omega),Hd.b,if_pos h2]
    exact shr_rem h.lo k h2
   ·rw [if_neg e];exact hf j (by show j<k;have:j<k+1:=hj;omega)
  ·have h2:¬k<64:=fun h3=>of_decide_eq_false h2 (Int.ofNat_lt.2 h3)
   refine jA ?_
   refine RG.opS rfl (op_addrB k h' rfl ti158_ok rfl (tk rfl) rfl rfl rfl rfl) rfl ?_
   refine RG.opS rfl (op_storeB k h' rfl (tk rfl) rfl rfl rfl rfl) rfl ?_
   refine jH ?_
   refine ⟨(k+1,upB f k _),⟨⟨h',fun j hj=>?_⟩,by show 128 - (k+1)<128 - k;omega⟩,jV,jW⟩
   show upB f k _ j=_
   rw [upB]
   by_cases e:j=k
   ·rw [if_pos e,e,shn k 64 (by omega) (by omega),Hd.b,if_neg h2]
    exact shr_rem h.hi (k - 64) (by omega)
   ·rw [if_neg e];exact hf j (by show j<k;have:j<k+1:=hj;omega)
 ·have h':¬k<128:=fun h3=>of_decide_eq_false h' (Int.ofNat_lt.2 h3)
  obtain rfl:k=128:=by omega
  refine jA ?_
  refine jE ?_;refine jA ?_
  refine RG.opS rfl (op_loadBs rfl ti158_ok rfl rfl rfl rfl) rfl ?_
  refine RG.opS rfl (op_storeBs (bA_len _) rfl ti158_ok rfl rfl rfl rfl) rfl ?_
  refine jH ?_
  refine AW.ret (retBs rfl ti158_ok rfl rfl rfl rfl ?_)
  rw [bA_congr hf]
theorem dbl_b (x:UInt64) (q:Bool) (j:Nat) (hj:j<64):(x*2+(bif q then 1 else 0)).toBitVec.getLsbD j=if j=0 then q else x.toBitVec.getLsbD (j - 1):=by
 have h:(x*2+(bif q then 1 else 0)).toNat=(2*x.toNat+(bif q then 1 else 0)) % 2 ^ 64:=by
  cases q <;> (rw [UInt64.toNat_add,UInt64.toNat_mul];simp;omega)
 show (x*2+(bif q then 1 else 0)).toNat.testBit j=_
 rw [h,Nat.testBit_mod_two_pow,qD hj,uF]
 by_cases e:j=0
 ·rw [if_pos e,e,Nat.testBit_zero]
  cases q <;> simp <;> omega
 ·rw [if_neg e]
  obtain ⟨i,rfl⟩:∃i,j=i+1:=⟨j - 1,by omega⟩
  rw [Nat.testBit_succ,Nat.add_sub_cancel]
  show _=x.toNat.testBit i
  congr 1
  cases q <;> simp <;> omega
structure HeadAt (f:Nat->Bool) (n:Nat) (h:Hd):Prop where
 lo:∀j<64,h.lo.toBitVec.getLsbD j=(decide (n+j<64) && f (n+j))
 hi:∀j<64,h.hi.toBitVec.getLsbD j=(decide (max n 64+j<128) && f (max n 64+j))
theorem HeadAt.step_lo {f:Nat->Bool} {n:Nat} {h:Hd} (H:HeadAt f (n+1) h) (hn:n<64):HeadAt f n ⟨h.hi,h.lo*2+(bif f n then 1 else 0)⟩:=by
 refine ⟨fun j hj=>?_,fun j hj=>?_⟩
 ·show (h.lo*2+(bif f n then 1 else 0)).toBitVec.getLsbD j=_
  rw [dbl_b _ _ _ hj]
  by_cases e:j=0
  ·rw [if_pos e,e,Nat.add_zero,qD hn,uF]
  ·rw [if_neg e,H.lo _ (by omega),show n+1+(j - 1)=n+j by omega]
 ·have:=H.hi j hj
  rw [show max (n+1) 64=max n 64 by omega] at this
  exact this
theorem HeadAt.step_hi {f:Nat->Bool} {n:Nat} {h:Hd} (H:HeadAt f (n+1) h) (hn:¬n<64) (hn2:n<128):HeadAt f n ⟨h.hi*2+(bif f n then 1 else 0),h.lo⟩:=by
 refine ⟨fun j hj=>?_,fun j hj=>?_⟩
 ·have:=H.lo j hj
  rw [qF (by omega),uM] at this
  rw [qF (by omega),uM]
  exact this
 ·show (h.hi*2+(bif f n then 1 else 0)).toBitVec.getLsbD j=_
  rw [dbl_b _ _ _ hj]
  by_cases e:j=0
  ·rw [if_pos e,e,Nat.add_zero,show max n 64=n by omega,qD hn2,uF]
  ·rw [if_neg e,H.hi _ (by omega),show max (n+1) 64+(j - 1)=max n 64+j by omega]
theorem HeadAt.done {f:Nat->Bool} {h g:Hd} (H:HeadAt f 0 h) (hg:∀i<128,g.b i=f i):h=g:=by
 refine Hd.ext_b fun i=>?_
 by_cases hi:i<128
 ·rw [hg i hi,Hd.b]
  by_cases h6:i<64
  ·rw [if_pos h6,H.lo i h6,vL,qD h6,uF]
  ·rw [if_neg h6,H.hi (i - 64) (by omega),show max 0 64+(i - 64)=i by omega,qD hi,uF]
 ·rw [Hd.b_hi _ _ (by omega),Hd.b_hi _ _ (by omega)]
theorem d_Head (f:Nat->Bool) (g:Hd) (hg:∀i<128,g.b i=f i):PDoes Tryz.prog 74 [.agg (bA f)] (.agg (cHd g)):=by
 refine jb Tryz.func74 ?_
 refine jB ?_
 refine AW.text ?_
 refine RG.opS rfl (op_box (id:=1) (cs:=bA f) rfl rfl (bA_one f)) rfl ?_
 refine jH ?_
 refine AW.loopL (ι:=Nat × Hd) (fun i=>[(1,.own 1 0 0),(2,.own 2 0 0),(3,.own 3 0 0),(4,.i .i64 ((i.1:Int) - 1))]) (fun i=>[(1,⟨0,some (.box 97 (bA f))⟩),(2,⟨0,some (.box 34 (cHd Hd.zero))⟩),(3,⟨0,some (.box 34 (cHd i.2))⟩)]) (fun i=>i.1<=128/\HeadAt f i.1 i.2) (fun i=>i.1) (128,Hd.zero) ⟨qJ _,⟨fun j hj=>by rw [qF (show ¬128+j<64 by omega)];exact BitVec.getLsbD_zero,fun j hj=>by rw [qF (show ¬max 128 64+j<128 by omega)];exact BitVec.getLsbD_zero⟩⟩ jW jW fun i hi=>?_
 obtain ⟨n,h⟩:=i
 obtain ⟨hn,hf⟩:=hi
 simp only at hn hf
 refine jA ?_
 refine AW.cond rfl (fun h'=>?_) (fun h'=>?_)
 ·obtain ⟨k,rfl⟩:∃k,n=k+1:=⟨n - 1,by have:=of_decide_eq_true h';simp only [qG] at this;omega⟩
  have hk:(((k+1:Nat):Int) - 1)=(k:Nat):=by omega
  have hk8:k<128:=by omega
  refine AW.only [(1,.own 1 0 0),(2,.own 2 0 0),(3,.own 3 0 0),(4,.i .i64 (k:Nat))] [(1,⟨0,some (.box 97 (bA f))⟩),(2,⟨0,some (.box 34 (cHd Hd.zero))⟩),(3,⟨0,some (.box 34 (cHd h))⟩)] ⟨Rn.ownIs rfl rfl rfl,Rn.ownIs rfl rfl rfl,Rn.ownIs rfl rfl rfl,.is (congrArg _ hk) rfl,trivial⟩ jW ?_
  refine jA ?_
  refine RG.opS rfl (op_addrB (k) hk8 rfl ti158_ok rfl (tk rfl) rfl rfl rfl rfl) rfl ?_
  refine RG.opS rfl (op_loadB (k) hk8 rfl (tk rfl) rfl rfl rfl) rfl ?_
  refine jB ?_
  refine AW.cond rfl (fun hq=>?_) (fun hq=>?_)
  ·refine jA ?_
   refine AW.cond rfl (fun h2=>?_) (fun h2=>?_)
   ·have h2:k<64:=Int.ofNat_lt.1 (of_decide_eq_true h2)
    refine jA ?_
    have H:=hf.step_lo h2
    rw [hq] at H
    exact ⟨(k,_),⟨⟨by show k<=128;omega,H⟩,Nat.lt_succ_self k⟩,⟨Rn.ownIs rfl rfl rfl,Rn.ownIs rfl rfl rfl,Rn.ownIs rfl rfl rfl,.is (i64_dec k (by omega)) rfl,trivial⟩,jW⟩
   ·have h2:¬k<64:=fun h3=>of_decide_eq_false h2 (Int.ofNat_lt.2 h3)
    refine jA ?_
    have H:=hf.step_hi h2 hk8
    rw [hq] at H
    exact ⟨(k,_),⟨⟨by show k<=128;omega,H⟩,Nat.lt_succ_self k⟩,⟨Rn.ownIs rfl rfl rfl,Rn.ownIs rfl rfl rfl,Rn.ownIs rfl rfl rfl,.is (i64_dec k (by omega)) rfl,trivial⟩,jW⟩
  ·refine jA ?_
   refine AW.cond rfl (fun h2=>?_) (fun h2=>?_)
   ·have h2:k<64:=Int.ofNat_lt.1 (of_decide_eq_true h2)
    refine jA ?_
    have H:=hf.step_lo h2
    rw [hq] at H
    exact ⟨(k,_),⟨⟨by show k<=128;omega,H⟩,Nat.lt_succ_self k⟩,⟨Rn.ownIs rfl rfl rfl,Rn.ownIs rfl rfl rfl,Rn.ownIs rfl rfl rfl,.is (i64_dec k (by omega)) rfl,trivial⟩,jW⟩
   ·have h2:¬k<64:=fun h3=>of_decide_eq_false h2 (Int.ofNat_lt.2 h3)
    refine jA ?_
    have H:=hf.step_hi h2 hk8
    rw [hq] at H
    exact ⟨(k,_),⟨⟨by show k<=128;omega,H⟩,Nat.lt_succ_self k⟩,⟨Rn.ownIs rfl rfl rfl,Rn.ownIs rfl rfl rfl,Rn.ownIs rfl rfl rfl,.is (i64_dec k (by omega)) rfl,trivial⟩,jW⟩
 ·obtain rfl : n = 0 := by
   have:=of_decide_eq_false h'
   simp only [qG] at this
   omega
  refine jA ?_
  refine jE ?_;refine jA ?_
  refine jR ?_
  rw [hf.done hg]
  rfl
theorem op_loadBv {P:Program} {N:Nat} {o:Oper} {s:St} (k:Nat) {t id ep:Nat} {ti:TI} {p:Operand} {ty:Nat} {f:Nat->Bool} {v:Bool} (hk:k<128) (hv:f k=v) (ho:o.op = .load t p) (ht:TiOk P t ti) (hti:ti.k.ag=false) (hp:s.ev p = .own id ep k) (hid:s.σ id=⟨ep,some (.box ty (bA f))⟩) :
  OpLoc P N o s ⟨.b v,[],[id]⟩:=by
 rw [<- hv]
 exact op_loadB k hk ho ht hti hp hid
theorem Hd.set_b (h:Hd) (c:Cb) (i:Nat):(h.set c).b i=bif c.care.b i then c.value.b i else h.b i:=by
 simp only [Hd.set,Hd.b_or,Hd.b_less,Hd.b_and]
 cases c.care.b i <;> cases h.b i <;> cases c.value.b i <;> rfl
theorem d_rSet (h:Hd) (c:Cb):PDoes Tryz.prog 44 [.agg (cHd h),.agg (cCb c)] (.agg (cHd (h.set c))):=by
 refine jb Tryz.func44 ?_
 refine jB ?_;refine wF ?_;refine wH rfl ?_;refine jB ?_
 refine AW.draws mixed_ok ?_
 refine wH rfl ?_
 refine RG.callS rfl rfl rfl rfl rfl (d_Bits h) (flat_bA _) rfl ?_
 refine wH rfl ?_
 refine RG.callS rfl rfl rfl rfl rfl (d_Bits c.value) (flat_bA _) rfl ?_
 refine wH rfl ?_
 refine RG.callS rfl rfl rfl rfl rfl (d_Bits c.care) (flat_bA _) rfl ?_
 refine RG.opS rfl (op_allocB (id:=5) rfl ti158_ok rfl) rfl ?_
 refine RG.opS rfl (op_allocB (id:=6) rfl ti158_ok rfl) rfl ?_
 refine RG.opS rfl (op_allocB (id:=7) rfl ti158_ok rfl) rfl ?_
 refine RG.opS rfl (op_storeBs (bA_len _) rfl ti158_ok rfl rfl rfl rfl) rfl ?_
 refine RG.opS rfl (op_storeBs (bA_len _) rfl ti158_ok rfl rfl rfl rfl) rfl ?_
 refine RG.opS rfl (op_storeBs (bA_len _) rfl ti158_ok rfl rfl rfl rfl) rfl ?_
 refine jH ?_
 refine AW.loopL (ι:=Nat × (Nat->Bool)) (fun i=>[(4,.own 4 0 0),(5,.own 5 0 0),(6,.own 6 0 0),(7,.own 7 0 0),(8,.i .i64 (i.1:Nat))]) (fun i=>[(4,⟨0,some (.box 34 (cHd Hd.zero))⟩),(5,⟨0,some (.box 97 (bA i.2))⟩),(6,⟨0,some (.box 97 (bA c.value.b))⟩),(7,⟨0,some (.box 97 (bA c.care.b))⟩)]) (fun i=>i.1<=128/\∀j,i.2 j=bif decide (j<i.1) && c.care.b j then c.value.b j else h.b j) (fun i=>128 - i.1) (0,h.b) ⟨qP _,fun j=>by rw [qF (uO j)];rfl⟩ jW jW fun i hi=>?_
 obtain ⟨k,f⟩:=i
 obtain ⟨hk,hf⟩:=hi
 simp only at hk hf
 refine jA ?_
 refine AW.cond rfl (fun h'=>?_) (fun h'=>?_)
 ·have h':k<128:=Int.ofNat_lt.1 (of_decide_eq_true h')
  have hm:(128:Nat)<=9223372036854775807:=by decide
  refine jA ?_
  refine RG.opS rfl (op_addrB (k) h' rfl ti158_ok rfl (tk rfl) rfl rfl rfl rfl) rfl ?_
  refine RG.opS rfl (op_loadB (k) h' rfl (tk rfl) rfl rfl rfl) rfl ?_
  refine jB ?_
  refine AW.cond rfl (fun hq=>?_) (fun hq=>?_)
  ·refine jA ?_
   refine RG.opS rfl (op_addrB (k) h' rfl ti158_ok rfl (tk rfl) rfl rfl rfl rfl) rfl ?_
   refine RG.opS rfl (op_loadB (k) h' rfl (tk rfl) rfl rfl rfl) rfl ?_
   refine RG.opS rfl (op_addrB (k) h' rfl ti158_ok rfl (tk rfl) rfl rfl rfl rfl) rfl ?_
   refine RG.opS rfl (op_storeB (k) h' rfl (tk rfl) rfl rfl rfl rfl) rfl ?_
   refine jH ?_
   refine ⟨(k+1,upB f k (c.value.b k)),⟨⟨h',fun j=>?_⟩,by show 128 - (k+1)<128 - k;omega⟩,jV,jW⟩
   show upB f k _ j=_
   rw [upB]
   by_cases e:j=k
   ·rw [if_pos e,e,qD (show k<k+1 by omega),hq];rfl
   ·rw [if_neg e,hf j]
    by_cases e2:j<k
    ·rw [qD e2,qD (show j<k+1 by omega)]
    ·rw [qF e2,qF (show ¬j<k+1 by omega)]
  ·refine jA ?_
   refine ⟨(k+1,f),⟨⟨h',fun j=>?_⟩,by show 128 - (k+1)<128 - k;omega⟩,jV,jW⟩
   show f j=_
   rw [hf j]
   by_cases e:j=k
   ·rw [e,hq,Bool.and_false,Bool.and_false]
   ·by_cases e2:j<k
    ·rw [qD e2,qD (show j<k+1 by omega)]
    ·rw [qF e2,qF (show ¬j<k+1 by omega)]
 ·have h':¬k<128:=fun h3=>of_decide_eq_false h' (Int.ofNat_lt.2 h3)
  obtain rfl:k=128:=by omega
  refine jA ?_
  refine jE ?_;refine jA ?_
  refine RG.opS rfl (op_loadBs rfl ti158_ok rfl rfl rfl rfl) rfl ?_
  refine RG.callS rfl rfl rfl (callB_fz _) rfl (d_Head f (h.set c) fun i hi=>by rw [hf i,Hd.set_b,qD hi,uF]) rfl rfl ?_
  refine jH ?_
  refine jR ?_
  rfl
def sgn (c:Cb) (i:Nat):UInt8:=bif c.care.b i then (bif c.value.b i then 49 else 48) else 120
def textOf (c:Cb):List UInt8:=(List.range 128).map fun i=>sgn c (127 - i)
theorem textOf_len (c:Cb):(textOf c).length=128:=by simp [textOf]
theorem textOf_get (c:Cb) (k:Nat) (hk:k<128):(textOf c)[k]?=some (sgn c (127 - k)):=by
 rw [textOf,qE,List.getElem?_range hk];rfl
theorem w127 (k:Nat) (hk:k<128):IntKind.i64.wrap (Int.ofNat 127 - (k:Int))=((127 - k:Nat):Int):=by
 rw [IntKind.wrap_i64]
 simp only [qG]
 omega
theorem yA_take (g:Nat->UInt8):((yA g).drop 0).take 128=yA g:=by
 rw [uR]
 exact vY (by rw [yA_len];exact qJ _)
theorem d_Text (c:Cb) (q:Bool) (hq:c.sound=q):PDoes Tryz.prog 10 [.agg (cCb c)] (.tup [.s (bif q then textOf c else []),.b q]):=by
 subst hq
 refine jb Tryz.func10 ?_
 refine jB ?_;refine wF ?_;refine wH rfl ?_;refine jB ?_
 refine AW.draws mixed_ok ?_
 refine wH rfl ?_
 refine RG.callS rfl rfl rfl rfl rfl (d_Bits c.value) (flat_bA _) rfl ?_
 refine wH rfl ?_
 refine RG.callS rfl rfl rfl rfl rfl (d_Bits c.care) (flat_bA _) rfl ?_
 refine RG.opS rfl (op_allocB (id:=4) rfl ti158_ok rfl) rfl ?_
 refine RG.opS rfl (op_allocB (id:=5) rfl ti158_ok rfl) rfl ?_
 refine RG.opS rfl (op_storeBs (bA_len _) rfl ti158_ok rfl rfl rfl rfl) rfl ?_
 refine RG.opS rfl (op_storeBs (bA_len _) rfl ti158_ok rfl rfl rfl rfl) rfl ?_
 refine jH ?_
 refine RG.opS rfl (op_makeY (id:=6) rfl (tk rfl) rfl (tk rfl) rfl rfl rfl) rfl ?_
 refine jH ?_
 refine AW.loopL (ι:=Nat × (Nat->UInt8)) (fun i=>[(4,.own 4 0 0),(5,.own 5 0 0),(6,.row 6 0 0 128),(7,.i .i64 (i.1:Nat))]) (fun i=>[(4,⟨0,some (.box 97 (bA c.value.b))⟩),(5,⟨0,some (.box 97 (bA c.care.b))⟩),(6,⟨0,some (.row 5 1 (yA i.2))⟩)]) (fun i=>i.1<=128/\(∀j<i.1,(c.value.b j && !c.care.b j)=false)/\∀j<i.1,i.2 (127 - j)=sgn c j) (fun i=>128 - i.1) (0,fun _=>0) ⟨qP _,fun j hj=>absurd hj (uO j),fun j hj=>absurd hj (uO j)⟩ jW jW fun i hi=>?_
 obtain ⟨k,g⟩:=i
 obtain ⟨hk,hs,hg⟩:=hi
 simp only at hk hs hg
 refine jA ?_
 refine AW.cond rfl (fun h'=>?_) (fun h'=>?_)
 ·have h':k<128:=Int.ofNat_lt.1 (of_decide_eq_true h')
  have hm:(128:Nat)<=9223372036854775807:=by decide
  have hw:=w127 k h'
  have h7:127 - k<128:=by omega
  have fin:∀v,v=sgn c k->(c.value.b k && !c.care.b k)=false->(∀j<k+1,(c.value.b j && !c.care.b j)=false)/\∀j<k+1,upY g (127 - k) v (127 - j)=sgn c j:=fun v hv hb=>by
   refine ⟨fun j hj=>?_,fun j hj=>?_⟩
   ·by_cases e:j=k
    ·rw [e];exact hb
    ·exact hs j (by omega)
   ·rw [upY]
    by_cases e:j=k
    ·rw [if_pos (by omega),e];exact hv
    ·rw [if_neg (by omega)];exact hg j (by omega)
  cases hv:c.value.b k
  ·refine jA ?_
   refine RG.opS rfl (op_addrB (k) h' rfl ti158_ok rfl (tk rfl) rfl rfl rfl rfl) rfl ?_;refine RG.opS rfl (op_loadBv (k) h' hv rfl (tk rfl) rfl rfl rfl) rfl ?_
   refine jH ?_;refine AW.condF rfl ?_;refine jA ?_
   cases hc:c.care.b k
   ·refine RG.opS rfl (op_addrB (k) h' rfl ti158_ok rfl (tk rfl) rfl rfl rfl rfl) rfl ?_;refine RG.opS rfl (op_loadBv (k) h' hc rfl (tk rfl) rfl rfl rfl) rfl ?_
    refine jH ?_;refine AW.condF rfl ?_;refine jA ?_
    refine RG.opS rfl (op_addrB (k) h' rfl ti158_ok rfl (tk rfl) rfl rfl rfl rfl) rfl ?_;refine RG.opS rfl (op_loadBv (k) h' hc rfl (tk rfl) rfl rfl rfl) rfl ?_
    refine wH rfl ?_;refine jB ?_;refine AW.condF rfl ?_
    refine jB ?_
    refine AW.text ?_
    refine RG.runO ty_ok 0 [(48,.i .i64 (127 - k:Nat))] 400 rfl jD ?_
    refine RG.opS rfl (op_addrY (127 - k) h7 rfl (tk rfl) rfl (tk rfl) rfl rfl rfl rfl) rfl ?_
    refine RG.opS rfl (op_storeY (127 - k) h7 rfl (tk rfl) rfl rfl rfl rfl) rfl ?_
    refine jH ?_
    obtain ⟨F1,F2⟩:=fin _ (by rw [sgn,hc,hv];try rfl) (by rw [hc,hv];try rfl)
    exact ⟨(k+1,upY g (127 - k) _),⟨⟨h',F1,F2⟩,by show 128 - (k+1)<128 - k;omega⟩,jV,jW⟩
   ·refine RG.opS rfl (op_addrB (k) h' rfl ti158_ok rfl (tk rfl) rfl rfl rfl rfl) rfl ?_;refine RG.opS rfl (op_loadBv (k) h' hc rfl (tk rfl) rfl rfl rfl) rfl ?_
    refine wH rfl ?_
    refine RG.opS rfl (op_addrB (k) h' rfl ti158_ok rfl (tk rfl) rfl rfl rfl rfl) rfl ?_;refine RG.opS rfl (op_loadBv (k) h' hv rfl (tk rfl) rfl rfl rfl) rfl ?_
    refine jH ?_;refine AW.condF rfl ?_;refine jA ?_
    refine RG.opS rfl (op_addrB (k) h' rfl ti158_ok rfl (tk rfl) rfl rfl rfl rfl) rfl ?_;refine RG.opS rfl (op_loadBv (k) h' hc rfl (tk rfl) rfl rfl rfl) rfl ?_
    refine wH rfl ?_
    refine RG.opS rfl (op_addrB (k) h' rfl ti158_ok rfl (tk rfl) rfl rfl rfl rfl) rfl ?_;refine RG.opS rfl (op_loadBv (k) h' hv rfl (tk rfl) rfl rfl rfl) rfl ?_
    refine wH rfl ?_;refine jB ?_;refine AW.condT rfl ?_;refine jB ?_;refine wF ?_;refine wH rfl ?_;refine jB ?_
    refine jB ?_
    refine AW.text ?_
    refine RG.runO ty_ok 0 [(48,.i .i64 (127 - k:Nat))] 400 rfl jD ?_
    refine RG.opS rfl (op_addrY (127 - k) h7 rfl (tk rfl) rfl (tk rfl) rfl rfl rfl rfl) rfl ?_
    refine RG.opS rfl (op_storeY (127 - k) h7 rfl (tk rfl) rfl rfl rfl rfl) rfl ?_
    refine jH ?_
    obtain ⟨F1,F2⟩:=fin _ (by rw [sgn,hc,hv];try rfl) (by rw [hc,hv];try rfl)
    exact ⟨(k+1,upY g (127 - k) _),⟨⟨h',F1,F2⟩,by show 128 - (k+1)<128 - k;omega⟩,jV,jW⟩
  ·cases hc:c.care.b k
   ·refine jA ?_
    refine RG.opS rfl (op_addrB (k) h' rfl ti158_ok rfl (tk rfl) rfl rfl rfl rfl) rfl ?_;refine RG.opS rfl (op_loadBv (k) h' hv rfl (tk rfl) rfl rfl rfl) rfl ?_
    refine wH rfl ?_
    refine RG.opS rfl (op_addrB (k) h' rfl ti158_ok rfl (tk rfl) rfl rfl rfl rfl) rfl ?_;refine RG.opS rfl (op_loadBv (k) h' hc rfl (tk rfl) rfl rfl rfl) rfl ?_
    refine jH ?_;refine AW.condT rfl ?_;refine jA ?_
    have hn:c.sound=false:=by
     cases hs':c.sound
     ·rfl
     ·have:=(Cb.sound_iff c).1 hs' k
      rw [hv,hc] at this
      cases this
    refine jR ?_
    rw [hn]
    rfl
   ·refine jA ?_
    refine RG.opS rfl (op_addrB (k) h' rfl ti158_ok rfl (tk rfl) rfl rfl rfl rfl) rfl ?_;refine RG.opS rfl (op_loadBv (k) h' hv rfl (tk rfl) rfl rfl rfl) rfl ?_
    refine wH rfl ?_
    refine RG.opS rfl (op_addrB (k) h' rfl ti158_ok rfl (tk rfl) rfl rfl rfl rfl) rfl ?_;refine RG.opS rfl (op_loadBv (k) h' hc rfl (tk rfl) rfl rfl rfl) rfl ?_
    refine jH ?_;refine AW.condF rfl ?_;refine jA ?_
    refine RG.opS rfl (op_addrB (k) h' rfl ti158_ok rfl (tk rfl) rfl rfl rfl rfl) rfl ?_;refine RG.opS rfl (op_loadBv (k) h' hc rfl (tk rfl) rfl rfl rfl) rfl ?_
    refine wH rfl ?_
    refine RG.opS rfl (op_addrB (k) h' rfl ti158_ok rfl (tk rfl) rfl rfl rfl rfl) rfl ?_;refine RG.opS rfl (op_loadBv (k) h' hv rfl (tk rfl) rfl rfl rfl) rfl ?_
    refine jH ?_;refine AW.condT rfl ?_;refine jA ?_
    refine RG.opS rfl (op_addrB (k) h' rfl ti158_ok rfl (tk rfl) rfl rfl rfl rfl) rfl ?_;refine RG.opS rfl (op_loadBv (k) h' hc rfl (tk rfl) rfl rfl rfl) rfl ?_
    refine wH rfl ?_
    refine RG.opS rfl (op_addrB (k) h' rfl ti158_ok rfl (tk rfl) rfl rfl rfl rfl) rfl ?_;refine RG.opS rfl (op_loadBv (k) h' hv rfl (tk rfl) rfl rfl rfl) rfl ?_
    refine wH rfl ?_;refine jB ?_;refine AW.condF rfl ?_
    refine jB ?_
    refine AW.text ?_
    refine RG.runO ty_ok 0 [(48,.i .i64 (127 - k:Nat))] 400 rfl jD ?_
    refine RG.opS rfl (op_addrY (127 - k) h7 rfl (tk rfl) rfl (tk rfl) rfl rfl rfl rfl) rfl ?_
    refine RG.opS rfl (op_storeY (127 - k) h7 rfl (tk rfl) rfl rfl rfl rfl) rfl ?_
    refine jH ?_
    obtain ⟨F1,F2⟩:=fin _ (by rw [sgn,hc,hv];try rfl) (by rw [hc,hv];try rfl)
    exact ⟨(k+1,upY g (127 - k) _),⟨⟨h',F1,F2⟩,by show 128 - (k+1)<128 - k;omega⟩,jV,jW⟩
 ·have h':¬k<128:=fun h3=>of_decide_eq_false h' (Int.ofNat_lt.2 h3)
  obtain rfl:k=128:=by omega
  have hq:c.sound=true:=by
   rw [Cb.sound_iff]
   intro i
   by_cases hi:i<128
   ·exact hs i hi
   ·rw [Hd.b_hi _ _ (by omega)];rfl
  have hy:yA g=byteEls (textOf c):=by
   rw [yA,byteEls,textOf,List.map_map]
   refine List.map_congr_left fun i hi=>?_
   have hi:=uV.1 hi
   have:=hg (127 - i) (by omega)
   rw [show 127 - (127 - i)=i by omega] at this
   show [AV.y (g i)]=[AV.y (sgn c (127 - i))]
   rw [this]
  rw [hq]
  refine jB ?_
  refine AW.exit ?_
  refine Eq.mpr (if_pos rfl) ?_
  refine jB ?_
  refine AW.freeze [6] [(6,.sl (byteEls (textOf c)))] [] ⟨RnF.fzA rfl rfl (congrArg AV.sl ((yA_take g).trans hy)),trivial⟩ trivial rfl ?_
  refine jA ?_
  refine RG.opS rfl (op_str rfl (tk rfl) rfl (tk rfl) rfl (tk rfl) rfl rfl) rfl ?_
  refine jH ?_
  refine jR ?_
  rfl
theorem d_TSound (t:List (List Rl)) (ports:List Pt):PDoes Tryz.prog 67 [.sl (t.map cRls),.sl (ports.map cPt)] (.i .i64 (tabSound t ports)):=by
 refine jb Tryz.func67 ?_
 have hlen:(t.map cRls).length=t.length:=qH ..
 refine jB ?_;refine wF ?_;refine wH rfl ?_;refine jB ?_
 refine AW.text ?_
 by_cases h1:(((t.map cRls).length:Nat):Int)=0
 ·refine RG.runO ty_ok 0 [(14,.b true)] 400 rfl jD ?_
  refine jH ?_;refine AW.condT rfl ?_;refine jA ?_
  refine jR ?_
  rw [tabSound,if_pos (by omega)]
  rfl
 ·by_cases h2:(((t.map cRls).length:Nat):Int)>3
  ·refine RG.runO ty_ok 0 [(14,.b false),(18,.b true)] 400 rfl jD ?_
   refine jH ?_;refine AW.condT rfl ?_;refine jA ?_
   refine jR ?_
   rw [tabSound,if_pos (by omega)]
   rfl
  ·refine RG.runO ty_ok 0 [(14,.b false),(18,.b false)] 400 rfl jD ?_
   refine jH ?_;refine AW.condF rfl ?_;refine jA ?_
   refine AW.lens 20 rfl fun hm=>?_
   rw [hlen] at hm
   refine AW.loopL (ι:=Nat × Int) (fun i=>[(0,.sl (t.map cRls)),(1,.sl (ports.map cPt)),(4,.i .i64 0),(5,.i .i64 i.2),(20,.sl (t.map cRls)),(21,.i .i64 (t.map cRls).length),(22,.i .i64 (i.1:Nat))]) (fun _=>[]) (fun i=>i.1<=t.length/\countT (t.drop i.1) i.2=countT t 0) (fun i=>t.length - i.1) (0,0) ⟨qP _,rfl⟩ jW trivial fun i hi=>?_
   obtain ⟨k,n⟩:=i
   obtain ⟨hk,hf⟩:=hi
   simp only at hk hf
   refine jA ?_
   refine AW.cond rfl (fun h=>?_) (fun h=>?_)
   ·have h:k<t.length:=by simpa using h
    rw [qS h,countT] at hf
    refine jA ?_
    refine RG.opS rfl (op_index rfl (tk rfl) rfl (tk rfl) rfl rfl (show (t.map cRls)[k]?=some (cRls t[k]) by rw [qE,qA (by assumption)];rfl) rfl) rfl ?_
    refine jH ?_
    exact ⟨(k+1,IntKind.i64.wrap (n+((t[k].map cRl).length:Nat))),⟨⟨h,by rw [qH];exact hf⟩,by show t.length - (k+1)<t.length - k;omega⟩,jV,trivial⟩
   have h:¬k<t.length:=by simpa using h
   obtain rfl:k=t.length:=by omega
   rw [vE] at hf
   refine jA ?_
   refine jE ?_;refine jA ?_
   refine AW.cond rfl (fun hc=>?_) (fun hc=>?_)
   ·have hc:n>96:=of_decide_eq_true hc
    refine jA ?_
    refine jR ?_
    rw [tabSound,if_neg (by omega),<- hf,countT,if_pos hc]
    rfl
   have hc:¬n>96:=of_decide_eq_false hc
   have e1:tabSound t ports=if tablesOk t.length ports 0 t then 0 else 2:=by rw [tabSound,if_neg (by omega),<- hf,countT,if_neg hc]
   refine jA ?_
   refine AW.loopL (ι:=Nat) (fun k=>[(0,.sl (t.map cRls)),(1,.sl (ports.map cPt)),(33,.sl (t.map cRls)),(34,.i .i64 (t.map cRls).length),(35,.i .i64 (k:Nat))]) (fun _=>[]) (fun k=>k<=t.length/\tablesOk t.length ports k (t.drop k)=tablesOk t.length ports 0 t) (fun k=>t.length - k) 0 ⟨qP _,rfl⟩ jW trivial fun k hk=>?_
   obtain ⟨hk,hg⟩:=hk
   refine jA ?_
   refine AW.cond rfl (fun h=>?_) (fun h=>?_)
   ·have h:k<t.length:=by simpa using h
    rw [qS h,tablesOk] at hg
    refine jA ?_
    refine RG.opS rfl (op_index rfl (tk rfl) rfl (tk rfl) rfl rfl (show (t.map cRls)[k]?=some (cRls t[k]) by rw [qE,qA (by assumption)];rfl) rfl) rfl ?_
    refine jH ?_
    generalize hl:t[k]=l at hg
    refine AW.lens 40 rfl fun hml=>?_
    rw [qH] at hml
    refine AW.loopL (ι:=Nat) (fun j=>[(0,.sl (t.map cRls)),(1,.sl (ports.map cPt)),(8,.i .i64 (k:Nat)),(33,.sl (t.map cRls)),(34,.i .i64 (t.map cRls).length),(35,.i .i64 (k:Nat)),(40,.sl (l.map cRl)),(41,.i .i64 (l.map cRl).length),(42,.i .i64 (j:Nat))]) (fun _=>[]) (fun j=>j<=l.length/\(bif rulesOk k t.length ports (l.drop j) then tablesOk t.length ports (k+1) (t.drop (k+1)) else false)=tablesOk t.length ports 0 t) (fun j=>l.length - j) 0 ⟨qP _,hg⟩ jW trivial fun j hj=>?_
    clear hg
    obtain ⟨hj,hg⟩:=hj
    refine jA ?_
    refine AW.cond rfl (fun h'=>?_) (fun h'=>?_)
    ·have h':j<l.length:=by simpa using h'
     rw [qS h',rulesOk] at hg
     refine jA ?_
     refine RG.opS rfl (op_index rfl (tk rfl) rfl (tk rfl) rfl rfl (show (l.map cRl)[j]?=some (cRl l[j]) by rw [qE,qA (by assumption)];rfl) rfl) rfl ?_
     refine jH ?_
     cases hq:l[j].sound k ports
     ·refine RG.callS rfl rfl rfl rfl rfl (d_RSound l[j] k ports _ hq) rfl rfl ?_;refine jH ?_
      refine AW.condT rfl ?_;refine jA ?_
      refine jR ?_
      rw [hq] at hg
      rw [e1,<- hg]
      rfl
     ·refine RG.callS rfl rfl rfl rfl rfl (d_RSound l[j] k ports _ hq) rfl rfl ?_;refine jH ?_
      rw [hq,uF] at hg
      refine AW.cond rfl (fun hr=>?_) (fun hr=>?_)
      ·have hr:l[j].act.table>=(((t.map cRls).length:Nat):Int):=of_decide_eq_true hr
       rw [qF (by omega)] at hg
       refine jA ?_
       refine jR ?_
       rw [e1,<- hg]
       rfl
      ·have hr:¬l[j].act.table>=(((t.map cRls).length:Nat):Int):=of_decide_eq_false hr
       rw [qD (by omega)] at hg
       refine jA ?_
       exact ⟨j+1,⟨⟨h',hg⟩,by omega⟩,jV,trivial⟩
    ·have h':¬j<l.length:=by simpa using h'
     obtain rfl:j=l.length:=by omega
     rw [vE,rulesOk] at hg
     refine jA ?_
     refine jE ?_;refine jA ?_
     exact ⟨k+1,⟨⟨h,hg⟩,by omega⟩,jV,trivial⟩
   ·have h:¬k<t.length:=by simpa using h
    obtain rfl:k=t.length:=by omega
    rw [vE] at hg
    refine jA ?_
    refine jE ?_;refine jA ?_
    refine jR ?_
    rw [e1,<- hg]
    rfl
theorem getD_at {α:Type} {l:List α} {n:Nat} {x d:α} (h:l[n]?=some x):l.getD n d=x:=by rw [qK,h];rfl
theorem d_TPort (t:List (List Pt)) (n a:Nat) (r:List Pt) (p:Pt) (hr:t[n]?=some r) (hp:r[a]?=some p) (q:Bool) (hq:portOk t n a p=q):PDoes Tryz.prog 108 [.agg (cTopo ⟨t⟩),.i .i64 n,.i .i64 a] (.b q):=by
 subst hq
 refine jb Tryz.func108 ?_
 have hlen:(t.map cPts).length=t.length:=qH ..
 refine jA ?_
 refine RG.opS rfl (op_index rfl (tk rfl) rfl (tk rfl) rfl rfl (show (t.map cPts)[n]?=some (cPts r) by rw [qE,hr];rfl) rfl) rfl ?_
 refine wH rfl ?_
 refine RG.opS rfl (op_index rfl (tk rfl) rfl (tk rfl) rfl rfl (show (r.map cPt)[a]?=some (cPt p) by rw [qE,hp];rfl) rfl) rfl ?_
 refine jH ?_
 refine AW.cond rfl (fun h0=>?_) (fun h0=>?_)
 ·have h0:p.kind=0:=of_decide_eq_true h0
  refine jA ?_
  refine RG.opS rfl (op_eqG rfl ty_ok (by kernel_rfl) (by kernel_rfl) rfl rfl (eq_Pt p Pt.zero) rfl) rfl ?_
  refine jH ?_
  refine jR ?_
  exact congrArg AV.b (by rw [portOk,if_pos h0])
 have h0:¬p.kind=0:=of_decide_eq_false h0
 refine jA ?_
 refine AW.cond rfl (fun h1=>?_) (fun h1=>?_)
 ·have h1:p.kind=1:=of_decide_eq_true h1
  refine jB ?_
  refine AW.text ?_
  refine wH rfl ?_
  by_cases g1:p=⟨1,p.tenant,0,0,0⟩
  ·refine RG.opS rfl (op_eqG rfl ty_ok (by kernel_rfl) (by kernel_rfl) rfl rfl (eq_Pt p ⟨1,p.tenant,0,0,0⟩) (qD g1)) rfl ?_
   by_cases q1:p.tenant>=0
   ·refine RG.runO ty_ok 0 [(34,.b true)] 400 rfl jD ?_
    refine jB ?_
    refine jR ?_
    exact congrArg AV.b (by rw [portOk,if_neg h0,if_pos h1,qD g1,uF,qD (show 0<=p.tenant from q1)];rfl)
   ·refine RG.runO ty_ok 0 [(34,.b false)] 400 rfl jD ?_
    refine jB ?_
    refine jR ?_
    exact congrArg AV.b (by rw [portOk,if_neg h0,if_pos h1,qF (show ¬0<=p.tenant from q1),uM,Bool.and_false])
  ·refine RG.opS rfl (op_eqG rfl ty_ok (by kernel_rfl) (by kernel_rfl) rfl rfl (eq_Pt p ⟨1,p.tenant,0,0,0⟩) (qF g1)) rfl ?_
   refine jH ?_
   refine jR ?_
   exact congrArg AV.b (by rw [portOk,if_neg h0,if_pos h1,qF g1];rfl)
 have h1:¬p.kind=1:=of_decide_eq_false h1
 refine jA ?_
 refine AW.cond rfl (fun h2=>?_) (fun h2=>?_)
 ·have h2:p.kind=2:=of_decide_eq_true h2
  have e0:portOk t n a p=linkOk t n a p:=by rw [portOk,if_neg h0,if_neg h1,if_pos h2]
  refine jB ?_
  refine AW.text ?_
  by_cases g1:p.tenant=0
  ·by_cases g2:p.cost<1
   ·refine RG.runO ty_ok 0 [(45,.b false),(49,.b true)] 400 rfl jD ?_
    refine jH ?_;refine AW.condT rfl ?_;refine jA ?_
    refine jR ?_
    rw [e0]
    exact congrArg AV.b (by rw [hlen] at *;simp [linkOk];omega)
   ·by_cases g3:p.cost>1000
    ·refine RG.runO ty_ok 0 [(45,.b false),(49,.b false),(54,.b true)] 400 rfl jD ?_
     refine jH ?_;refine AW.condT rfl ?_;refine jA ?_
     refine jR ?_
     rw [e0]
     exact congrArg AV.b (by rw [hlen] at *;simp [linkOk];omega)
    ·by_cases g4:p.peer<0
     ·refine RG.runO ty_ok 0 [(45,.b false),(49,.b false),(54,.b false),(59,.b true)] 400 rfl jD ?_
      refine jH ?_;refine AW.condT rfl ?_;refine jA ?_
      refine jR ?_
      rw [e0]
      exact congrArg AV.b (by rw [hlen] at *;simp [linkOk];omega)
     ·by_cases g5:p.peer>=(((t.map cPts).length:Nat):Int)
      ·refine RG.runO ty_ok 0 [(45,.b false),(49,.b false),(54,.b false),(59,.b false),(67,.b true)] 400 rfl jD ?_
       refine jH ?_;refine AW.condT rfl ?_;refine jA ?_
       refine jR ?_
       rw [e0]
       exact congrArg AV.b (by rw [hlen] at *;simp [linkOk];omega)
      ·by_cases g6:p.peer=(n:Int)
       ·refine RG.runO ty_ok 0 [(45,.b false),(49,.b false),(54,.b false),(59,.b false),(67,.b false),(73,.b true)] 400 rfl jD ?_
        refine jH ?_;refine AW.condT rfl ?_;refine jA ?_
        refine jR ?_
        rw [e0]
        exact congrArg AV.b (by rw [hlen] at *;simp [linkOk];omega)
       ·refine RG.runO ty_ok 0 [(45,.b false),(49,.b false),(54,.b false),(59,.b false),(67,.b false),(73,.b false)] 400 rfl jD ?_
        refine wH rfl ?_;refine jB ?_;refine AW.condF rfl ?_;refine jB ?_
        obtain ⟨m,hm⟩:=Int.eq_ofNat_of_zero_le (show 0<=p.peer by omega)
        have hml:m<t.length:=by omega
        refine AW.text ?_
        refine RG.runO ty_ok 0 [(78,.i .i64 (m:Nat))] 400 rfl jD ?_
        refine RG.opS rfl (op_index rfl (tk rfl) rfl (tk rfl) rfl rfl (show (t.map cPts)[m]?=some (cPts t[m]) by rw [qE,qA (by assumption)];rfl) rfl) rfl ?_
        refine wH rfl ?_;refine jB ?_
        have hl2:(t[m].map cPt).length=t[m].length:=qH ..
        have e1:t.getD p.peer.toNat []=t[m]:=by rw [hm,vU];exact getD_at (qA hml)
        have e2:portOk t n a p=(decide (0<=p.at_) && (decide (p.at_<t[m].length) && decide (t[m].getD p.at_.toNat Pt.zero=⟨2,0,n,a,p.cost⟩))):=by
         rw [e0,linkOk,e1]
         rw [hlen] at *
         rw [qD (by omega),qD (by omega),qD (by omega),qD (by omega),qD (by omega),qD (show p.peer≠n by omega)]
         simp only [uF]
        refine AW.draws mixed_ok ?_
        by_cases q1:p.at_>=0
        ·obtain ⟨b,hb⟩:=Int.eq_ofNat_of_zero_le q1
         by_cases q2:p.at_<(((t[m].map cPt).length:Nat):Int)
         ·have hbl:b<t[m].length:=by omega
          refine RG.runO ty_ok 0 [(83,.b true),(89,.b true),(94,.i .i64 (b:Nat))] 400 rfl jD ?_
          refine RG.opS rfl (op_index rfl (tk rfl) rfl (tk rfl) rfl rfl (show (t[m].map cPt)[b]?=some (cPt t[m][b]) by simp [*]) rfl) rfl ?_
          refine wH rfl ?_
          refine RG.opS rfl (op_eqG rfl ty_ok (by kernel_rfl) (by kernel_rfl) rfl rfl (eq_Pt t[m][b] ⟨2,0,n,a,p.cost⟩) rfl) rfl ?_
          refine jH ?_
          refine jR ?_
          exact congrArg AV.b (by rw [e2,qD (show 0<=p.at_ from q1),qD (show p.at_<t[m].length by omega),hb,vU,getD_at (qA hbl)];rfl)
         ·refine RG.runO ty_ok 0 [(83,.b true),(89,.b false)] 400 rfl jD ?_
          refine jH ?_
          refine jR ?_
          exact congrArg AV.b (by rw [e2,qF (show ¬p.at_<t[m].length by omega),uM,Bool.and_false])
        ·refine RG.runO ty_ok 0 [(83,.b false)] 400 rfl jD ?_
         refine jH ?_
         refine jR ?_
         exact congrArg AV.b (by rw [e2,qF (show ¬0<=p.at_ by omega),uM])
  ·refine RG.runO ty_ok 0 [(45,.b true)] 400 rfl jD ?_
   refine jH ?_;refine AW.condT rfl ?_;refine jA ?_
   refine jR ?_
   rw [e0]
   exact congrArg AV.b (by rw [hlen] at *;simp [linkOk];omega)
 have h2:¬p.kind=2:=of_decide_eq_false h2
 refine jA ?_
 refine jR ?_
 exact congrArg AV.b (by simp [portOk, *])
theorem d_TopSound (t:List (List Pt)):PDoes Tryz.prog 64 [.agg (cTopo ⟨t⟩)] (.i .i64 (topoSound t)):=by
 refine jb Tryz.func64 ?_
 have hlen:(t.map cPts).length=t.length:=qH ..
 refine jB ?_;refine wF ?_;refine wH rfl ?_;refine jB ?_
 refine AW.text ?_
 by_cases h1:(((t.map cPts).length:Nat):Int)=0
 ·refine RG.runO ty_ok 0 [(11,.b true)] 400 rfl jD ?_
  refine jH ?_;refine AW.condT rfl ?_;refine jA ?_
  refine jR ?_
  rw [topoSound,if_pos (by omega)]
  rfl
 ·by_cases h2:(((t.map cPts).length:Nat):Int)>6
  ·refine RG.runO ty_ok 0 [(11,.b false),(16,.b true)] 400 rfl jD ?_
   refine jH ?_;refine AW.condT rfl ?_;refine jA ?_
   refine jR ?_
   rw [topoSound,if_pos (by omega)]
   rfl
  ·refine RG.runO ty_ok 0 [(11,.b false),(16,.b false)] 400 rfl jD ?_
   refine jH ?_;refine AW.condF rfl ?_;refine jA ?_
   have e1:topoSound t=if rowFits t then (if rowsOk t 0 t then 0 else 2) else 4:=by rw [topoSound,if_neg (by omega)]
   refine AW.loopL (ι:=Nat) (fun k=>[(1,.own 1 0 0),(19,.sl (t.map cPts)),(20,.i .i64 (t.map cPts).length),(21,.i .i64 (k:Nat))]) (fun _=>[(1,⟨0,some (.box 24 (cTopo ⟨t⟩))⟩)]) (fun k=>k<=t.length/\rowFits (t.drop k)=rowFits t) (fun k=>t.length - k) 0 ⟨qP _,rfl⟩ jW jW fun k hk=>?_
   obtain ⟨hk,hg⟩:=hk
   refine jA ?_
   refine AW.cond rfl (fun h=>?_) (fun h=>?_)
   ·have h:k<t.length:=by simpa using h
    have hm:t.length<=6:=by omega
    rw [qS h,rowFits] at hg
    refine jA ?_
    refine RG.opS rfl (op_index rfl (tk rfl) rfl (tk rfl) rfl rfl (show (t.map cPts)[k]?=some (cPts t[k]) by rw [qE,qA (by assumption)];rfl) rfl) rfl ?_
    refine jH ?_
    refine AW.cond rfl (fun h'=>?_) (fun h'=>?_)
    ·have h':(((t[k].map cPt).length:Nat):Int)>6:=of_decide_eq_true h'
     rw [qH] at h'
     rw [qD (by omega),cond_true] at hg
     refine jA ?_
     refine jR ?_
     rw [e1,<- hg]
     rfl
    ·have h':¬(((t[k].map cPt).length:Nat):Int)>6:=of_decide_eq_false h'
     rw [qH] at h'
     rw [qF (by omega),cond_false] at hg
     refine jA ?_
     have hm:t.length<=9223372036854775807:=by omega
     exact ⟨k+1,⟨⟨h,hg⟩,by omega⟩,jV,jW⟩
   have h:¬k<t.length:=by simpa using h
   obtain rfl:k=t.length:=by omega
   rw [vE,rowFits] at hg
   rw [<- hg,if_pos rfl] at e1
   refine jA ?_
   refine jE ?_;refine jA ?_
   refine AW.loopL (ι:=Nat) (fun k=>[(1,.own 1 0 0),(30,.sl (t.map cPts)),(31,.i .i64 (t.map cPts).length),(32,.i .i64 (k:Nat))]) (fun _=>[(1,⟨0,some (.box 24 (cTopo ⟨t⟩))⟩)]) (fun k=>k<=t.length/\rowsOk t k (t.drop k)=rowsOk t 0 t) (fun k=>t.length - k) 0 ⟨qP _,rfl⟩ jW jW fun k hk=>?_
   clear hg
   obtain ⟨hk,hg⟩:=hk
   refine jA ?_
   refine AW.cond rfl (fun h=>?_) (fun h=>?_)
   ·have h:k<t.length:=by simpa using h
    have hm:t.length<=9223372036854775807:=by omega
    rw [qS h,rowsOk] at hg
    refine jA ?_
    refine RG.opS rfl (op_index rfl (tk rfl) rfl (tk rfl) rfl rfl (show (t.map cPts)[k]?=some (cPts t[k]) by rw [qE,qA (by assumption)];rfl) rfl) rfl ?_
    refine jH ?_
    have hr:t[k]?=some t[k]:=qA h
    generalize t[k]=r at hg hr
    refine AW.lens 37 rfl fun hml=>?_
    rw [qH] at hml
    refine AW.loopL (ι:=Nat) (fun j=>[(1,.own 1 0 0),(5,.i .i64 (k:Nat)),(30,.sl (t.map cPts)),(31,.i .i64 (t.map cPts).length),(32,.i .i64 (k:Nat)),(37,.sl (r.map cPt)),(38,.i .i64 (r.map cPt).length),(39,.i .i64 (j:Nat))]) (fun _=>[(1,⟨0,some (.box 24 (cTopo ⟨t⟩))⟩)]) (fun j=>j<=r.length/\(bif rowOk t k j (r.drop j) then rowsOk t (k+1) (t.drop (k+1)) else false)=rowsOk t 0 t) (fun j=>r.length - j) 0 ⟨qP _,hg⟩ jW jW fun j hj=>?_
    clear hg
    obtain ⟨hj,hg⟩:=hj
    refine jA ?_
    refine AW.cond rfl (fun h'=>?_) (fun h'=>?_)
    ·have h':j<r.length:=by simpa using h'
     rw [qS h',rowOk] at hg
     refine jA ?_
     cases hq:portOk t k j r[j]
     ·refine RG.callS rfl rfl rfl rfl rfl (d_TPort t k j r r[j] hr (qA h') _ hq) rfl rfl ?_;refine jH ?_
      rw [hq] at hg
      refine AW.condT rfl ?_;refine jA ?_
      refine jR ?_
      rw [e1,<- hg]
      rfl
     ·refine RG.callS rfl rfl rfl rfl rfl (d_TPort t k j r r[j] hr (qA h') _ hq) rfl rfl ?_;refine jH ?_
      rw [hq] at hg
      refine AW.condF rfl ?_;refine jA ?_
      exact ⟨j+1,⟨⟨h',hg⟩,by omega⟩,jV,jW⟩
    ·have h':¬j<r.length:=by simpa using h'
     obtain rfl:j=r.length:=by omega
     rw [vE,rowOk] at hg
     refine jA ?_
     refine jE ?_;refine jA ?_
     exact ⟨k+1,⟨⟨h,hg⟩,by omega⟩,jV,jW⟩
   ·have h:¬k<t.length:=by simpa using h
    obtain rfl:k=t.length:=by omega
    rw [vE] at hg
    refine jA ?_
    refine jE ?_;refine jA ?_
    refine jR ?_
    rw [e1,<- hg]
    rfl
theorem accI_ge {α β:Type} {f:Nat->α->List β} (n:Nat) (l:List α) (out:List β):out.length<=(accI f n l out).length:=by
 rw [accI_eq,qT];omega
theorem accI_lenM {α β:Type} {f:Nat->α->List β} {m:Nat}:∀(n:Nat) (l:List α) (out:List β),(∀x∈l,∀n,(f n x).length<=m)->(accI f n l out).length<=out.length+m*l.length
 | n,[],out,_=>by simp [accI]
 | n,x::l,out,hf=>by
  have:=accI_lenM (n+1) l (out++f n x) fun y hy=>hf y (vG _ hy)
  have h2:=hf x vH n
  rw [qT] at this
  rw [accI,qR,Nat.mul_add,Nat.mul_one]
  omega
theorem edges_len {t:List (List Pt)} (h:topoSound t=0):(edges t).length<=36:=by
 obtain ⟨_,h2,h3,_⟩:=topoSound_ok h
 have:=accI_lenM (f:=edgeRow) (m:=6) 0 t [] fun r hr n=>by
  have h4:=accI_len (f:=edgeI n) (m:=1) (fun a p=>by rw [edgeI];cases decide (p.kind=1) <;> simp) 0 r []
  have h5:=h3 r hr
  rw [edgeRow]
  simp at h4
  omega
 rw [edges]
 simp at this
 omega
theorem d_Edges (t:List (List Pt)) (ht:topoSound t=0):PDoes Tryz.prog 71 [.agg (cTopo ⟨t⟩)] (.sl ((edges t).map cSp)):=by
 refine jb Tryz.func71 ?_
 have hlen:(t.map cPts).length=t.length:=qH ..
 have hE:=edges_len ht
 have hm:t.length<=9223372036854775807:=by have:=(topoSound_ok ht).2.1;omega
 refine jB ?_;refine wF ?_;refine wH rfl ?_;refine jB ?_
 refine AW.text ?_
 refine RG.opS rfl (op_nilRow 3 40 2 rfl) rfl ?_
 refine jH ?_
 refine AW.loopL (ι:=Nat × List Sp) (fun i=>[(1,.own 1 0 0),(3,.row 3 0 0 (i.2.map cSp).length),(9,.sl (t.map cPts)),(10,.i .i64 (t.map cPts).length),(11,.i .i64 (i.1:Nat))]) (fun i=>[(1,⟨0,some (.box 24 (cTopo ⟨t⟩))⟩),(3,⟨0,some (.row 40 2 (i.2.map cSp))⟩)]) (fun i=>i.1<=t.length/\accI edgeRow i.1 (t.drop i.1) i.2=edges t) (fun i=>t.length - i.1) (0,[]) ⟨qP _,rfl⟩ jW jW fun i hi=>?_
 obtain ⟨k,out⟩:=i
 obtain ⟨hk,hf⟩:=hi
 simp only at hk hf
 refine jA ?_
 refine AW.cond rfl (fun h=>?_) (fun h=>?_)
 ·have h:k<t.length:=by simpa using h
  rw [qS h,accI] at hf
  refine jA ?_
  refine RG.opS rfl (op_index rfl (tk rfl) rfl (tk rfl) rfl rfl (show (t.map cPts)[k]?=some (cPts t[k]) by rw [qE,qA (by assumption)];rfl) rfl) rfl ?_
  refine jH ?_
  generalize t[k]=r at hf
  refine AW.lens 16 rfl fun hml=>?_
  rw [qH] at hml
  rw [edgeRow,<- accI_eq] at hf
  refine AW.loopL (ι:=Nat × List Sp) (fun i=>[(1,.own 1 0 0),(3,.row 3 0 0 (i.2.map cSp).length),(4,.i .i64 (k:Nat)),(9,.sl (t.map cPts)),(10,.i .i64 (t.map cPts).length),(11,.i .i64 (k:Nat)),(16,.sl (r.map cPt)),(17,.i .i64 (r.map cPt).length),(18,.i .i64 (i.1:Nat))]) (fun i=>[(1,⟨0,some (.box 24 (cTopo ⟨t⟩))⟩),(3,⟨0,some (.row 40 2 (i.2.map cSp))⟩)]) (fun i=>i.1<=r.length/\accI edgeRow (k+1) (t.drop (k+1)) (accI (edgeI k) i.1 (r.drop i.1) i.2)=edges t) (fun i=>r.length - i.1) (0,out) ⟨qP _,hf⟩ jW jW fun i hi=>?_
  clear hf
  obtain ⟨j,out⟩:=i
  obtain ⟨hj,hf⟩:=hi
  simp only at hj hf
  refine jA ?_
  refine AW.cond rfl (fun h'=>?_) (fun h'=>?_)
  ·have h':j<r.length:=by simpa using h'
   have hol:out.length<=36:=by
    have h1:=accI_ge (f:=edgeRow) (k+1) (t.drop (k+1)) (accI (edgeI k) j (r.drop j) out)
    have h2:=accI_ge (f:=edgeI k) j (r.drop j) out
    rw [hf] at h1
    omega
   rw [qS h',accI,edgeI] at hf
   refine jA ?_
   refine RG.opS rfl (op_index rfl (tk rfl) rfl (tk rfl) rfl rfl (show (r.map cPt)[j]?=some (cPt r[j]) by rw [qE,qA (by assumption)];rfl) rfl) rfl ?_
   refine jH ?_
   refine AW.cond rfl (fun hq=>?_) (fun hq=>?_)
   ·have hq:r[j].kind=1:=of_decide_eq_true hq
    rw [qD hq,cond_true] at hf
    refine jB ?_
    refine AW.text ?_
    refine wH rfl ?_
    refine RG.opS rfl (op_app1 cSp out ⟨k,j⟩ (by omega) rfl rfl rfl rfl (tk rfl) rfl (tk rfl) rfl rfl ⟨_,rfl,rfl⟩ rfl rfl) rfl ?_;refine jH ?_
    exact ⟨(j+1,_),⟨⟨h',hf⟩,by show r.length - (j+1)<r.length - j;omega⟩,jV,jW⟩
   ·have hq:¬r[j].kind=1:=of_decide_eq_false hq
    rw [qF hq,cond_false,vW] at hf
    refine jA ?_
    exact ⟨(j+1,_),⟨⟨h',hf⟩,by show r.length - (j+1)<r.length - j;omega⟩,jV,jW⟩
  ·have h':¬j<r.length:=by simpa using h'
   obtain rfl:j=r.length:=by omega
   rw [vE (l:=r),accI] at hf
   refine jA ?_
   refine jE ?_;refine jA ?_
   exact ⟨(k+1,out),⟨⟨h,hf⟩,by show t.length - (k+1)<t.length - k;omega⟩,jV,jW⟩
 ·have h:¬k<t.length:=by simpa using h
  obtain rfl:k=t.length:=by omega
  rw [vE,accI] at hf
  refine jA ?_
  refine jE ?_;refine jA ?_
  refine jR ?_
  exact rowAll (congrArg (List.map cSp) hf)
theorem d_tenant (p:Pol) (n:Int) (q:Bool) (hq:tenantOk p n=q):PDoes Tryz.prog 109 [.agg (cPol p),.i .i64 n] (.b q):=by
 subst hq
 refine jb Tryz.func109 ?_
 refine jB ?_;refine wF ?_;refine wH rfl ?_;refine jB ?_
 refine AW.text ?_
 by_cases h1:n>=0
 ·refine RG.runO ty_ok 0 [(6,.b true)] 400 rfl jD ?_
  refine jH ?_
  refine jR ?_
  exact congrArg AV.b (by rw [tenantOk,qD (show 0<=n from h1),uF])
 ·refine RG.runO ty_ok 0 [(6,.b false)] 400 rfl jD ?_
  refine jH ?_
  refine jR ?_
  exact congrArg AV.b (by rw [tenantOk,qF (show ¬0<=n from h1),uM])
theorem portAt_at {t:List (List Pt)} {n a:Nat} {r:List Pt} {p:Pt} (hr:t[n]?=some r) (hp:r[a]?=some p):portAt t ⟨n,a⟩=p:=by
 simp only [portAt,vU]
 rw [getD_at hr]
 exact getD_at hp
theorem d_sizes (c:Cf) (ht:topoSound c.topo.ports=0) (q:Bool) (hq:sizesOk c=q):PDoes Tryz.prog 65 [.agg (cCf c)] (.b q):=by
 subst hq
 refine jb Tryz.func65 ?_
 have hl1:(c.pol.peers.map cPr).length=c.pol.peers.length:=qH ..
 have hl2:(c.pol.ways.map cWy).length=c.pol.ways.length:=qH ..
 refine jB ?_;refine wF ?_;refine wH rfl ?_;refine jB ?_;refine wF ?_;refine wH rfl ?_;refine jB ?_
 refine AW.text ?_
 by_cases h1:c.pol.tenants<1
 ·refine RG.runO ty_ok 0 [(10,.b true)] 400 rfl jD ?_
  refine jH ?_;refine AW.condT rfl ?_;refine jA ?_
  refine jR ?_
  exact congrArg AV.b (by simp [sizesOk];omega)
 ·by_cases h2:c.pol.tenants>4
  ·refine RG.runO ty_ok 0 [(10,.b false),(14,.b true)] 400 rfl jD ?_
   refine jH ?_;refine AW.condT rfl ?_;refine jA ?_
   refine jR ?_
   exact congrArg AV.b (by simp [sizesOk];omega)
  ·by_cases h3:(((c.pol.peers.map cPr).length:Nat):Int)>16
   ·refine RG.runO ty_ok 0 [(10,.b false),(14,.b false),(20,.b true)] 400 rfl jD ?_
    refine jH ?_;refine AW.condT rfl ?_;refine jA ?_
    refine jR ?_
    exact congrArg AV.b (by simp [sizesOk];omega)
   ·by_cases h4:(((c.pol.ways.map cWy).length:Nat):Int)>4
    ·refine RG.runO ty_ok 0 [(10,.b false),(14,.b false),(20,.b false),(26,.b true)] 400 rfl jD ?_
     refine jH ?_;refine AW.condT rfl ?_;refine jA ?_
     refine jR ?_
     exact congrArg AV.b (by simp [sizesOk];omega)
    ·refine RG.runO ty_ok 0 [(10,.b false),(14,.b false),(20,.b false),(26,.b false)] 400 rfl jD ?_
     have e1:sizesOk c=edgesFit c (edges c.topo.ports):=by
      rw [sizesOk,qD (by omega),qD (by omega),qD (by omega),qD (by omega)]
      rfl
     rw [e1]
     refine jH ?_;refine AW.condF rfl ?_;refine jA ?_
     refine jm (d_Edges c.topo.ports ht) ?_;refine jH ?_
     have hE:=edges_len ht
     have hmem:∀s∈edges c.topo.ports,∃(n:Nat) (r:List Pt) (a:Nat) (p:Pt),c.topo.ports[n]?=some r/\r[a]?=some p/\p.kind=1/\s=⟨n,a⟩:=fun s hs=>edges_mem.1 hs
     generalize edges c.topo.ports=es at hE hmem
     refine AW.loopL (ι:=Nat) (fun k=>[(1,.own 1 0 0),(3,.own 3 0 0),(30,.sl (es.map cSp)),(31,.i .i64 (es.map cSp).length),(32,.i .i64 (k:Nat))]) (fun _=>[(1,⟨0,some (.box 31 (cCf c))⟩),(3,⟨0,some (.box 28 (cPol c.pol))⟩)]) (fun k=>k<=es.length/\edgesFit c (es.drop k)=edgesFit c es) (fun k=>es.length - k) 0 ⟨qP _,rfl⟩ jW jW fun k hk=>?_
     obtain ⟨hk,hg⟩:=hk
     refine jA ?_
     refine AW.cond rfl (fun h=>?_) (fun h=>?_)
     ·have h:k<es.length:=by simpa using h
      have hm:es.length<=9223372036854775807:=by omega
      obtain ⟨n,r,a,p,hr,hp,hkd,he⟩:=hmem _ (vP h)
      rw [qS h,edgesFit,he,portAt_at hr hp] at hg
      refine jA ?_
      refine RG.opS rfl (op_index rfl (tk rfl) rfl (tk rfl) rfl rfl (show (es.map cSp)[k]?=some (cSp ⟨n,a⟩) by rw [qE,qA h,he];rfl) rfl) rfl ?_
      refine jH ?_
      refine RG.opS rfl (op_index rfl (tk rfl) rfl (tk rfl) rfl rfl (show (c.topo.ports.map cPts)[n]?=some (cPts r) by rw [qE,hr];rfl) rfl) rfl ?_
      refine wH rfl ?_
      refine RG.opS rfl (op_index rfl (tk rfl) rfl (tk rfl) rfl rfl (show (r.map cPt)[a]?=some (cPt p) by rw [qE,hp];rfl) rfl) rfl ?_
      refine wH rfl ?_
      cases hq:tenantOk c.pol p.tenant
      ·refine RG.callS rfl rfl rfl rfl rfl (d_tenant c.pol p.tenant _ hq) rfl rfl ?_;refine jH ?_
       rw [hq] at hg
       refine AW.condT rfl ?_;refine jA ?_
       refine jR ?_
       exact congrArg AV.b hg
      ·refine RG.callS rfl rfl rfl rfl rfl (d_tenant c.pol p.tenant _ hq) rfl rfl ?_;refine jH ?_
       rw [hq] at hg
       refine AW.condF rfl ?_;refine jA ?_
       exact ⟨k+1,⟨⟨h,hg⟩,by omega⟩,jV,jW⟩
     ·have h:¬k<es.length:=by simpa using h
      obtain rfl:k=es.length:=by omega
      rw [vE] at hg
      refine jA ?_
      refine jE ?_;refine jA ?_
      refine jR ?_
      exact congrArg AV.b hg
theorem d_policy (c:Cf) (hp:c.pol.peers.length<=16) (hw:c.pol.ways.length<=4) (q:Bool) (hq:polOk c=q):PDoes Tryz.prog 66 [.agg (cCf c)] (.b q):=by
 subst hq
 refine jb Tryz.func66 ?_
 have hlt:(c.topo.ports.map cPts).length=c.topo.ports.length:=qH ..
 refine jA ?_
 refine AW.loopL (ι:=Nat) (fun k=>[(1,.own 1 0 0),(3,.own 3 0 0),(11,.sl (c.pol.peers.map cPr)),(12,.i .i64 (c.pol.peers.map cPr).length),(13,.i .i64 (k:Nat))]) (fun _=>[(1,⟨0,some (.box 31 (cCf c))⟩),(3,⟨0,some (.box 28 (cPol c.pol))⟩)]) (fun k=>k<=c.pol.peers.length/\peersOk c.pol (c.pol.peers.drop k)=peersOk c.pol c.pol.peers) (fun k=>c.pol.peers.length - k) 0 ⟨qP _,rfl⟩ jW jW fun k hk=>?_
 obtain ⟨hk,hg⟩:=hk
 refine jA ?_
 refine AW.cond rfl (fun h=>?_) (fun h=>?_)
 ·have h:k<c.pol.peers.length:=by simpa using h
  have hm:c.pol.peers.length<=9223372036854775807:=by omega
  rw [qS h,peersOk] at hg
  refine jA ?_
  refine RG.opS rfl (op_index rfl (tk rfl) rfl (tk rfl) rfl rfl (show (c.pol.peers.map cPr)[k]?=some (cPr c.pol.peers[k]) by rw [qE,qA (by assumption)];rfl) rfl) rfl ?_
  refine jH ?_
  generalize c.pol.peers[k]=x at hg
  cases h1:tenantOk c.pol x.1
  ·refine RG.callS rfl rfl rfl rfl rfl (d_tenant c.pol x.1 _ h1) rfl rfl ?_;refine jH ?_
   rw [h1] at hg
   refine AW.condT rfl ?_;refine jA ?_
   refine jR ?_
   exact congrArg AV.b (by rw [polOk,<- hg];rfl)
  refine RG.callS rfl rfl rfl rfl rfl (d_tenant c.pol x.1 _ h1) rfl rfl ?_;refine jH ?_
  cases h2:tenantOk c.pol x.2
  ·refine RG.callS rfl rfl rfl rfl rfl (d_tenant c.pol x.2 _ h2) rfl rfl ?_;refine jH ?_
   rw [h1,h2] at hg
   refine AW.condT rfl ?_;refine jA ?_
   refine jR ?_
   exact congrArg AV.b (by rw [polOk,<- hg];rfl)
  refine RG.callS rfl rfl rfl rfl rfl (d_tenant c.pol x.2 _ h2) rfl rfl ?_;refine jH ?_
  rw [h1,h2] at hg
  refine AW.condF rfl ?_;refine jA ?_
  exact ⟨k+1,⟨⟨h,hg⟩,by omega⟩,jV,jW⟩
 have h:¬k<c.pol.peers.length:=by simpa using h
 obtain rfl:k=c.pol.peers.length:=by omega
 rw [vE,peersOk] at hg
 have e1:polOk c=waysOk c.pol c.topo.ports.length c.pol.ways:=by rw [polOk,<- hg];rfl
 rw [e1]
 clear hg
 refine jA ?_
 refine jE ?_;refine jA ?_
 refine AW.loopL (ι:=Nat) (fun k=>[(1,.own 1 0 0),(3,.own 3 0 0),(31,.sl (c.pol.ways.map cWy)),(32,.i .i64 (c.pol.ways.map cWy).length),(33,.i .i64 (k:Nat))]) (fun _=>[(1,⟨0,some (.box 31 (cCf c))⟩),(3,⟨0,some (.box 28 (cPol c.pol))⟩)]) (fun k=>k<=c.pol.ways.length/\waysOk c.pol c.topo.ports.length (c.pol.ways.drop k)=waysOk c.pol c.topo.ports.length c.pol.ways) (fun k=>c.pol.ways.length - k) 0 ⟨qP _,rfl⟩ jW jW fun k hk=>?_
 obtain ⟨hk,hg⟩:=hk
 refine jA ?_
 refine AW.cond rfl (fun h=>?_) (fun h=>?_)
 ·have h:k<c.pol.ways.length:=by simpa using h
  have hm:c.pol.ways.length<=9223372036854775807:=by omega
  rw [qS h,waysOk] at hg
  refine jA ?_
  refine RG.opS rfl (op_index rfl (tk rfl) rfl (tk rfl) rfl rfl (show (c.pol.ways.map cWy)[k]?=some (cWy c.pol.ways[k]) by rw [qE,qA (by assumption)];rfl) rfl) rfl ?_
  refine jH ?_
  generalize c.pol.ways[k]=w at hg
  cases h1:tenantOk c.pol w.fro
  ·refine RG.callS rfl rfl rfl rfl rfl (d_tenant c.pol w.fro _ h1) rfl rfl ?_;refine jH ?_
   rw [h1] at hg
   refine AW.condT rfl ?_;refine jA ?_
   refine jR ?_
   exact congrArg AV.b hg
  refine RG.callS rfl rfl rfl rfl rfl (d_tenant c.pol w.fro _ h1) rfl rfl ?_;refine jH ?_
  cases h2:tenantOk c.pol w.to
  ·refine RG.callS rfl rfl rfl rfl rfl (d_tenant c.pol w.to _ h2) rfl rfl ?_;refine jH ?_
   rw [h1,h2] at hg
   refine AW.condT rfl ?_;refine jA ?_
   refine jR ?_
   exact congrArg AV.b hg
  refine RG.callS rfl rfl rfl rfl rfl (d_tenant c.pol w.to _ h2) rfl rfl ?_
  rw [h1,h2,uF,uF] at hg
  by_cases g1:w.via<0
  ·refine RG.runO ty_ok 0 [(52,.b true)] 400 rfl jD ?_
   refine jB ?_;refine AW.condT rfl ?_;refine jA ?_
   refine jR ?_
   refine congrArg AV.b (Eq.trans ?_ hg)
   rw [show (decide (0<=w.via) && decide (w.via<(c.topo.ports.length:Nat)))=false by simp;omega]
   rfl
  ·by_cases g2:w.via>=(((c.topo.ports.map cPts).length:Nat):Int)
   ·refine RG.runO ty_ok 0 [(52,.b false),(61,.b true)] 400 rfl jD ?_
    refine jB ?_;refine AW.condT rfl ?_;refine jA ?_
    refine jR ?_
    refine congrArg AV.b (Eq.trans ?_ hg)
    rw [show (decide (0<=w.via) && decide (w.via<(c.topo.ports.length:Nat)))=false by simp;omega]
    rfl
   ·refine RG.runO ty_ok 0 [(52,.b false),(61,.b false)] 400 rfl jD ?_
    rw [qD (show 0<=w.via by omega),qD (by omega)] at hg
    refine jB ?_;refine AW.condF rfl ?_;refine jA ?_
    exact ⟨k+1,⟨⟨h,hg⟩,by omega⟩,jV,jW⟩
 ·have h:¬k<c.pol.ways.length:=by simpa using h
  obtain rfl:k=c.pol.ways.length:=by omega
  rw [vE] at hg
  refine jA ?_
  refine jE ?_;refine jA ?_
  refine jR ?_
  exact congrArg AV.b hg
theorem sizes_le {c:Cf} (h:sizesOk c=true):c.pol.peers.length<=16/\c.pol.ways.length<=4:=by
 simp [sizesOk] at h
 omega
theorem d_CSound (c:Cf):PDoes Tryz.prog 32 [.agg (cCf c)] (.i .i64 c.sound):=by
 refine jb Tryz.func32 ?_
 have hlt:(c.topo.ports.map cPts).length=c.topo.ports.length:=qH ..
 have hlb:(c.tables.map cTab).length=c.tables.length:=qH ..
 refine jA ?_
 refine jc (d_TopSound c.topo.ports) ?_;refine jH ?_
 refine AW.cond rfl (fun h=>?_) (fun h=>?_)
 ·have h:¬topoSound c.topo.ports=0:=by simpa using h
  refine jA ?_
  refine jR ?_
  rw [Cf.sound,if_neg h]
  rfl
 have ht:topoSound c.topo.ports=0:=by simpa using h
 refine jA ?_
 cases h1:sizesOk c
 ·refine RG.callS rfl rfl rfl rfl rfl (d_sizes c ht _ h1) rfl rfl ?_;refine jH ?_
  refine AW.condT rfl ?_;refine jA ?_
  refine jR ?_
  rw [Cf.sound,if_pos ht,h1]
  rfl
 refine RG.callS rfl rfl rfl rfl rfl (d_sizes c ht _ h1) rfl rfl ?_;refine jH ?_
 refine AW.condF rfl ?_;refine jA ?_
 cases h2:polOk c
 ·refine RG.callS rfl rfl rfl rfl rfl (d_policy c (sizes_le h1).1 (sizes_le h1).2 _ h2) rfl rfl ?_;refine jH ?_
  refine AW.condT rfl ?_;refine jA ?_
  refine jR ?_
  rw [Cf.sound,if_pos ht,h1,h2]
  rfl
 refine RG.callS rfl rfl rfl rfl rfl (d_policy c (sizes_le h1).1 (sizes_le h1).2 _ h2) rfl rfl ?_;refine jH ?_
 refine AW.condF rfl ?_;refine jA ?_
 refine AW.cond rfl (fun h3=>?_) (fun h3=>?_)
 ·have h3 : ¬ c.tables.length = c.topo.ports.length := by
   simp at h3
   omega
  refine jA ?_
  refine jR ?_
  rw [Cf.sound,if_pos ht,h1,h2,cond_true,cond_true,if_neg h3]
  rfl
 have h3:c.tables.length=c.topo.ports.length:=by
  simp at h3
  omega
 have hle:c.tables.length<=9223372036854775807:=by
  have:=(topoSound_ok ht).2.1
  omega
 have e1:c.sound=tabsSound c.topo.ports 0 c.tables:=by rw [Cf.sound,if_pos ht,h1,h2,cond_true,cond_true,if_pos h3]
 rw [e1]
 refine jA ?_
 refine AW.loopL (ι:=Nat) (fun k=>[(1,.own 1 0 0),(31,.sl (c.tables.map cTab)),(32,.i .i64 (c.tables.map cTab).length),(33,.i .i64 (k:Nat))]) (fun _=>[(1,⟨0,some (.box 31 (cCf c))⟩)]) (fun k=>k<=c.tables.length/\tabsSound c.topo.ports k (c.tables.drop k)=tabsSound c.topo.ports 0 c.tables) (fun k=>c.tables.length - k) 0 ⟨qP _,rfl⟩ jW jW fun k hk=>?_
 obtain ⟨hk,hg⟩:=hk
 refine jA ?_
 refine AW.cond rfl (fun h=>?_) (fun h=>?_)
 ·have h:k<c.tables.length:=by simpa using h
  have hr:c.topo.ports[k]?=some (c.topo.ports[k]'(by omega)):=qA (by omega)
  have hq:(c.topo.ports.map cPts)[k]?=some (cPts (c.topo.ports[k]'(by omega))):=by rw [qE,hr];rfl
  rw [qS h,tabsSound,getD_at hr] at hg
  generalize (c.topo.ports[k]'(by omega))=r at hg hq
  refine jA ?_
  refine RG.opS rfl (op_index rfl (tk rfl) rfl (tk rfl) rfl rfl (show (c.tables.map cTab)[k]?=some (cTab c.tables[k]) by rw [qE,qA (by assumption)];rfl) rfl) rfl ?_
  refine jH ?_
  refine jx hq ?_
  refine wH rfl ?_
  refine jc (d_TSound c.tables[k] r) ?_;refine jH ?_
  refine AW.cond rfl (fun h'=>?_) (fun h'=>?_)
  ·have h':¬tabSound c.tables[k] r=0:=by simpa using h'
   rw [if_neg h'] at hg
   refine jA ?_
   refine jR ?_
   rw [<- hg]
   rfl
  ·have h':tabSound c.tables[k] r=0:=by simpa using h'
   rw [if_pos h'] at hg
   refine jA ?_
   exact ⟨k+1,⟨⟨h,hg⟩,by omega⟩,jV,jW⟩
 ·have h:¬k<c.tables.length:=by simpa using h
  obtain rfl:k=c.tables.length:=by omega
  rw [vE,tabsSound] at hg
  refine jA ?_
  refine jE ?_;refine jA ?_
  refine jR ?_
  rw [<- hg]
  rfl
theorem tb (N j:Nat):decide (N / 2 ^ j % 2=1)=N.testBit j:=Nat.testBit_eq_decide_div_mod_eq.symm
def fndR (o:Option Nat):AV:=.tup [.i .i64 ((o.getD 0:Nat):Int),.b o.isSome]
theorem runRow (fin sw port:Int) (hops:List Hop) (R:Run) (h:(⟨fin,⟨sw,port⟩,hops⟩:Run)=R):AV.agg [.i .i64 fin,.i .i64 sw,.i .i64 port,.sl (((hops.map cHop).drop 0).take (hops.map cHop).length)] = .agg (cRun R):=by
 rw [<- h]
 exact congrArg (fun x=>AV.agg [.i .i64 fin,.i .i64 sw,.i .i64 port,x]) (rowAll rfl)
theorem Rn.fnRo {σ σ':Sto} {x:AV} {f:FuncId} {c:List AV} (e:x = .fn f [] c) (h:c.all AV.pu1=true):Rn σ σ' x (.fn f [] c):=by
  subst e
  exact .fn rfl rfl (fun j x x' h1=>by simp at h1) (fun j x x' h1 h2=>by
    rw [h1] at h2
    rw [<- qB h2]
    exact .pu (qW.1 h x (qQ h1)))
theorem op_clip {P:Program} {N:Nat} {o:Oper} {s:St} {t e:Nat} {ti ei:TI} {x y z:Operand} {els:List (List AV)} {k1 k2:IntKind} (ho:o.op = .slice t x none (some y) (some z)) (ht:TiOk P t ti) (hk:ti.k = .slice e) (he:TiOk P e ei) (hx:s.ev x = .sl els) (hy:s.ev y = .i k1 (els.length:Nat)) (hz:s.ev z = .i k2 (els.length:Nat)) :
  OpLoc P N o s ⟨.sl els,[],[]⟩:=by
 refine oploc_val [] _ fun s' W F μ a g1 g2 hs=>?_
 have ex:=hs.ev x
 rw [g1 x (by rw [ho];simp [Op.operands]),hx] at ex
 have ey:=hs.ev y
 rw [g1 y (by rw [ho];simp [Op.operands]),hy] at ey
 have ez:=hs.ev z
 rw [g1 z (by rw [ho];simp [Op.operands]),hz] at ez
 generalize hq:a.eval x=q at ex
 cases ex.sl' with
 | sl _ A c m b off cell hc hm hA hl hone hr hw =>
  have hb:(Instr.sliceBounds true els.length c none (some (.int k1 (els.length:Nat))) (some (.int k2 (els.length:Nat)))).run P W = .ok (0,els.length,els.length) W:=by
   have e1:(0:Int)<=((els.length:Nat):Int)/\((els.length:Nat):Int)<=(c:Int):=by omega
   have e2:(0:Int)<=((els.length:Nat):Int)/\((els.length:Nat):Int)<=((els.length:Nat):Int):=by omega
   simp only [Instr.sliceBounds,Instr.sliceBound,asIntOf,Sem.run_bind,Sem.run_pure,Result.andThen_ok,if_pos e1,if_pos e2,vU]
  refine ⟨.slice (if els.length=0 then A else A.map (·.add (0*ei.n))) els.length els.length,?_,.pure (.sl els _ els.length m b off cell (qJ _) (vJ hc hm) (fun hp=>?_) hl hone hr hw)⟩
  ·simp only [execOp,ho,Instr.sliceAt,Instr.slice,hq,ey.i',ez.i',Option.map_none,Option.map_some,Sem.run_bind,Sem.run_pure,Result.andThen_ok,run_underlying (ht.slice hk),hb,he.size,Nat.sub_zero]
  ·obtain ⟨rfl,h2,h3⟩:=hA hp
   refine ⟨?_,h2,h3⟩
   rw [if_neg (by omega),Nat.zero_mul]
   rfl
theorem op_buildArr {P : Program} {N : Nat} {o : Oper} {s : St} {t n e : Nat} {ti ei : TI} {parts : Array (Nat × Operand)} {r : List AV} (ho : o.op = .build t parts) (ht : TiOk P t ti) (hk : ti.k = .arr n e) (he : TiOk P e ei)
    (hr:fillA (fun i=>some (i*ei.n,ei.n)) ti.z (parts.toList.map fun p=>(p.1,s.ev p.2))=some r) (h1:r.all AV.one=true):OpLoc P N o s ⟨.agg r,[],[]⟩:=by
  refine oploc_val [] _ fun s' W F μ a g1 g2 hs=>?_
  have hp:=parts_rel (s:=s) hs (parts:=parts) fun p hp=>g1 p.2 (by rw [ho];simp only [Op.operands,vF];exact ⟨p,hp,rfl⟩)
  obtain ⟨z,hz1,hz2⟩:=ht.zero W
  have hz:=zsOk_rel (W:=W) (F:=F) hz2
  obtain ⟨us,k1,k2,k3⟩:=fill_ok _ _ ti.z z.cells r hp.1 hp.2 (by rw [<- qL];exact hz.1) (fun j x v hx hv=>by
    have:=hz.2 j x v hx (by simpa using hv)
    exact ⟨this.2,.pure this.1⟩) hr
  rw [qW] at h1
  refine ⟨.agg us.toList.toArray,?_,.agg r us.toList (by simpa using k2) (fun j x hx=>h1 x (qQ hx)) (fun j x v hx hv=>(k3 j x v hx (by simpa using hv)).2)⟩
  have e3:us.toList.toArray=us:=by simp
  simp only [execOp,ho,Instr.build,Sem.run_bind,hz1,Result.andThen_ok,run_underlying (ht.array hk),he.size,k1,Sem.run_pure,e3]
def idxF {α:Type} (p:α->Bool):Nat->List α->Int
 | _,[]=>-1
 | i,x::l=>bif p x then (i:Nat) else idxF p (i+1) l
theorem idxF_any {α:Type} {p:α->Bool}:∀(i:Nat) (l:List α),decide (0<=idxF p i l)=l.any p
 | i,[]=>rfl
 | i,x::l=>by
  rw [idxF,List.any_cons]
  cases p x
  ·rw [cond_false,idxF_any (i+1) l];rfl
  ·rw [cond_true,Bool.true_or];exact qD (by omega)
theorem idxF_eq {α:Type} {p:α->Bool}:∀(i:Nat) (l:List α),idxF p i l=match l.findIdx? p with | some k=>((i+k:Nat):Int) | none=>-1
 | i,[]=>rfl
 | i,x::l=>by
  rw [idxF,List.findIdx?_cons]
  cases p x
  ·rw [cond_false,idxF_eq (i+1) l]
   simp only [Bool.false_eq_true,if_false]
   cases l.findIdx? p with
   | none=>rfl
   | some k=>show ((i+1+k:Nat):Int)=((i+(k+1):Nat):Int);omega
  ·rfl
theorem d_IndexFunc_Int (F:Nat) (c0:List AV) (p:Int->Bool) (l:List (Int)) (H:∀x∈l,PDoes Tryz.prog F [.i .i64 x,.ro c0] (.b (p x))):PDoes Tryz.prog 177 [.sl (l.map cI),.fn F [] [.ro c0]] (.i .i64 (idxF p 0 l)):=by
 refine jb Tryz.func177 ?_
 refine jA ?_
 refine AW.lens 6 rfl fun hm=>?_
 rw [qH] at hm
 refine AW.loopL (ι:=Nat) (fun k=>[(0,.sl (l.map cI)),(1,.fn F [] [.ro c0]),(7,.i .i64 (l.map cI).length),(8,.i .i64 (k:Nat))]) (fun _=>[]) (fun k=>k<=l.length/\idxF p k (l.drop k)=idxF p 0 l) (fun k=>l.length - k) 0 ⟨qP _,rfl⟩ ⟨Rn.is rfl rfl,Rn.fnRo rfl rfl,Rn.is rfl rfl,Rn.is rfl rfl,trivial⟩ trivial fun k hk=>?_
 obtain ⟨hk,hf⟩:=hk
 refine jA ?_
 refine AW.cond rfl (fun h0=>?_) (fun h0=>?_)
 ·have h:k<l.length:=by simpa using h0
  rw [qS h,idxF] at hf
  have hH:=H l[k] (vP h)
  have hx:(l.map cI)[k]?=some (cI l[k]):=by rw [qE,qA h];rfl
  generalize l[k]=x at hf hH hx
  refine jA ?_
  refine jx hx ?_
  refine wH rfl ?_
  cases hp:p x
  ·rw [hp] at hf hH
   refine jc hH ?_;refine jH ?_
   refine AW.condF rfl ?_;refine jA ?_
   exact ⟨k+1,⟨⟨h,hf⟩,by omega⟩,⟨Rn.is rfl rfl,Rn.fnRo rfl rfl,Rn.is rfl rfl,Rn.is (i64_next h hm) rfl,trivial⟩,trivial⟩
  ·rw [hp] at hf hH
   refine jc hH ?_;refine jH ?_
   refine AW.condT rfl ?_;refine jA ?_
   refine jR ?_
   rw [<- hf]
   rfl
 ·have h:¬k<l.length:=by simpa using h0
  obtain rfl:k=l.length:=by omega
  rw [vE,idxF] at hf
  refine jA ?_
  refine jE ?_;refine jA ?_
  refine jR ?_
  rw [<- hf]
  rfl
theorem d_ContainsFunc_Int (F:Nat) (c0:List AV) (p:Int->Bool) (l:List (Int)) (H:∀x∈l,PDoes Tryz.prog F [.i .i64 x,.ro c0] (.b (p x))) (q:Bool) (hq:l.any p=q):PDoes Tryz.prog 123 [.sl (l.map cI),.fn F [] [.ro c0]] (.b q):=by
 refine jb Tryz.func123 ?_
 refine jA ?_
 refine jc (d_IndexFunc_Int F c0 p l H) ?_;refine jH ?_
 refine jR ?_
 exact congrArg AV.b ((idxF_any 0 l).trans hq)
theorem d_IndexFunc_Pr (F:Nat) (c0:List AV) (c1:List AV) (p:Int × Int->Bool) (l:List (Int × Int)) (H:∀x∈l,PDoes Tryz.prog F [.agg (cPr x),.ro c0,.ro c1] (.b (p x))):PDoes Tryz.prog 219 [.sl (l.map cPr),.fn F [] [.ro c0,.ro c1]] (.i .i64 (idxF p 0 l)):=by
 refine jb Tryz.func219 ?_
 refine jA ?_
 refine AW.lens 6 rfl fun hm=>?_
 rw [qH] at hm
 refine AW.loopL (ι:=Nat) (fun k=>[(0,.sl (l.map cPr)),(1,.fn F [] [.ro c0,.ro c1]),(7,.i .i64 (l.map cPr).length),(8,.i .i64 (k:Nat))]) (fun _=>[]) (fun k=>k<=l.length/\idxF p k (l.drop k)=idxF p 0 l) (fun k=>l.length - k) 0 ⟨qP _,rfl⟩ ⟨Rn.is rfl rfl,Rn.fnRo rfl rfl,Rn.is rfl rfl,Rn.is rfl rfl,trivial⟩ trivial fun k hk=>?_
 obtain ⟨hk,hf⟩:=hk
 refine jA ?_
 refine AW.cond rfl (fun h0=>?_) (fun h0=>?_)
 ·have h:k<l.length:=by simpa using h0
  rw [qS h,idxF] at hf
  have hH:=H l[k] (vP h)
  have hx:(l.map cPr)[k]?=some (cPr l[k]):=by rw [qE,qA h];rfl
  generalize l[k]=x at hf hH hx
  refine jA ?_
  refine jx hx ?_
  refine wH rfl ?_
  cases hp:p x
  ·rw [hp] at hf hH
   refine jc hH ?_;refine jH ?_
   refine AW.condF rfl ?_;refine jA ?_
   exact ⟨k+1,⟨⟨h,hf⟩,by omega⟩,⟨Rn.is rfl rfl,Rn.fnRo rfl rfl,Rn.is rfl rfl,Rn.is (i64_next h hm) rfl,trivial⟩,trivial⟩
  ·rw [hp] at hf hH
   refine jc hH ?_;refine jH ?_
   refine AW.condT rfl ?_;refine jA ?_
   refine jR ?_
   rw [<- hf]
   rfl
 ·have h:¬k<l.length:=by simpa using h0
  obtain rfl:k=l.length:=by omega
  rw [vE,idxF] at hf
  refine jA ?_
  refine jE ?_;refine jA ?_
  refine jR ?_
  rw [<- hf]
  rfl
theorem d_ContainsFunc_Pr (F:Nat) (c0:List AV) (c1:List AV) (p:Int × Int->Bool) (l:List (Int × Int)) (H:∀x∈l,PDoes Tryz.prog F [.agg (cPr x),.ro c0,.ro c1] (.b (p x))) (q:Bool) (hq:l.any p=q):PDoes Tryz.prog 175 [.sl (l.map cPr),.fn F [] [.ro c0,.ro c1]] (.b q):=by
 refine jb Tryz.func175 ?_
 refine jA ?_
 refine jc (d_IndexFunc_Pr F c0 c1 p l H) ?_;refine jH ?_
 refine jR ?_
 exact congrArg AV.b ((idxF_any 0 l).trans hq)
theorem d_IndexFunc_Hop (F:Nat) (c0:List AV) (p:Hop->Bool) (l:List (Hop)) (H:∀x∈l,PDoes Tryz.prog F [.agg (cHop x),.ro c0] (.b (p x))):PDoes Tryz.prog 220 [.sl (l.map cHop),.fn F [] [.ro c0]] (.i .i64 (idxF p 0 l)):=by
 refine jb Tryz.func220 ?_
 refine jA ?_
 refine AW.lens 6 rfl fun hm=>?_
 rw [qH] at hm
 refine AW.loopL (ι:=Nat) (fun k=>[(0,.sl (l.map cHop)),(1,.fn F [] [.ro c0]),(7,.i .i64 (l.map cHop).length),(8,.i .i64 (k:Nat))]) (fun _=>[]) (fun k=>k<=l.length/\idxF p k (l.drop k)=idxF p 0 l) (fun k=>l.length - k) 0 ⟨qP _,rfl⟩ ⟨Rn.is rfl rfl,Rn.fnRo rfl rfl,Rn.is rfl rfl,Rn.is rfl rfl,trivial⟩ trivial fun k hk=>?_
 obtain ⟨hk,hf⟩:=hk
 refine jA ?_
 refine AW.cond rfl (fun h0=>?_) (fun h0=>?_)
 ·have h:k<l.length:=by simpa using h0
  rw [qS h,idxF] at hf
  have hH:=H l[k] (vP h)
  have hx:(l.map cHop)[k]?=some (cHop l[k]):=by rw [qE,qA h];rfl
  generalize l[k]=x at hf hH hx
  refine jA ?_
  refine jx hx ?_
  refine wH rfl ?_
  cases hp:p x
  ·rw [hp] at hf hH
   refine jc hH ?_;refine jH ?_
   refine AW.condF rfl ?_;refine jA ?_
   exact ⟨k+1,⟨⟨h,hf⟩,by omega⟩,⟨Rn.is rfl rfl,Rn.fnRo rfl rfl,Rn.is rfl rfl,Rn.is (i64_next h hm) rfl,trivial⟩,trivial⟩
  ·rw [hp] at hf hH
   refine jc hH ?_;refine jH ?_
   refine AW.condT rfl ?_;refine jA ?_
   refine jR ?_
   rw [<- hf]
   rfl
 ·have h:¬k<l.length:=by simpa using h0
  obtain rfl:k=l.length:=by omega
  rw [vE,idxF] at hf
  refine jA ?_
  refine jE ?_;refine jA ?_
  refine jR ?_
  rw [<- hf]
  rfl
theorem d_ContainsFunc_Hop (F:Nat) (c0:List AV) (p:Hop->Bool) (l:List (Hop)) (H:∀x∈l,PDoes Tryz.prog F [.agg (cHop x),.ro c0] (.b (p x))) (q:Bool) (hq:l.any p=q):PDoes Tryz.prog 178 [.sl (l.map cHop),.fn F [] [.ro c0]] (.b q):=by
 refine jb Tryz.func178 ?_
 refine jA ?_
 refine jc (d_IndexFunc_Hop F c0 p l H) ?_;refine jH ?_
 refine jR ?_
 exact congrArg AV.b ((idxF_any 0 l).trans hq)
theorem d_IndexFunc_Cb (F:Nat) (p:Cb->Bool) (l:List (Cb)) (H:∀x∈l,PDoes Tryz.prog F [.agg (cCb x)] (.b (p x))):PDoes Tryz.prog 132 [.sl (l.map cCb),.fn F [] []] (.i .i64 (idxF p 0 l)):=by
 refine jb Tryz.func132 ?_
 refine jA ?_
 refine AW.lens 6 rfl fun hm=>?_
 rw [qH] at hm
 refine AW.loopL (ι:=Nat) (fun k=>[(0,.sl (l.map cCb)),(1,.fn F [] []),(7,.i .i64 (l.map cCb).length),(8,.i .i64 (k:Nat))]) (fun _=>[]) (fun k=>k<=l.length/\idxF p k (l.drop k)=idxF p 0 l) (fun k=>l.length - k) 0 ⟨qP _,rfl⟩ ⟨Rn.is rfl rfl,Rn.fnRo rfl rfl,Rn.is rfl rfl,Rn.is rfl rfl,trivial⟩ trivial fun k hk=>?_
 obtain ⟨hk,hf⟩:=hk
 refine jA ?_
 refine AW.cond rfl (fun h0=>?_) (fun h0=>?_)
 ·have h:k<l.length:=by simpa using h0
  rw [qS h,idxF] at hf
  have hH:=H l[k] (vP h)
  have hx:(l.map cCb)[k]?=some (cCb l[k]):=by rw [qE,qA h];rfl
  generalize l[k]=x at hf hH hx
  refine jA ?_
  refine jx hx ?_
  refine wH rfl ?_
  cases hp:p x
  ·rw [hp] at hf hH
   refine jc hH ?_;refine jH ?_
   refine AW.condF rfl ?_;refine jA ?_
   exact ⟨k+1,⟨⟨h,hf⟩,by omega⟩,⟨Rn.is rfl rfl,Rn.fnRo rfl rfl,Rn.is rfl rfl,Rn.is (i64_next h hm) rfl,trivial⟩,trivial⟩
  ·rw [hp] at hf hH
   refine jc hH ?_;refine jH ?_
   refine AW.condT rfl ?_;refine jA ?_
   refine jR ?_
   rw [<- hf]
   rfl
 ·have h:¬k<l.length:=by simpa using h0
  obtain rfl:k=l.length:=by omega
  rw [vE,idxF] at hf
  refine jA ?_
  refine jE ?_;refine jA ?_
  refine jR ?_
  rw [<- hf]
  rfl
theorem d_ContainsFunc_Cb (F:Nat) (p:Cb->Bool) (l:List (Cb)) (H:∀x∈l,PDoes Tryz.prog F [.agg (cCb x)] (.b (p x))) (q:Bool) (hq:l.any p=q):PDoes Tryz.prog 83 [.sl (l.map cCb),.fn F [] []] (.b q):=by
 refine jb Tryz.func83 ?_
 refine jA ?_
 refine jc (d_IndexFunc_Cb F p l H) ?_;refine jH ?_
 refine jR ?_
 exact congrArg AV.b ((idxF_any 0 l).trans hq)
theorem d_Index_Sp (v:Sp) (l:List (Sp)):PDoes Tryz.prog 211 [.sl (l.map cSp),.agg (cSp v)] (.i .i64 (idxF (fun x=>decide (v=x)) 0 l)):=by
 refine jb Tryz.func211 ?_
 refine jA ?_
 refine AW.lens 6 rfl fun hm=>?_
 rw [qH] at hm
 refine AW.loopL (ι:=Nat) (fun k=>[(0,.sl (l.map cSp)),(3,.own 3 0 0),(7,.i .i64 (l.map cSp).length),(8,.i .i64 (k:Nat))]) (fun _=>[(3,⟨0,some (.box 40 (cSp v))⟩)]) (fun k=>k<=l.length/\idxF (fun x=>decide (v=x)) k (l.drop k)=idxF (fun x=>decide (v=x)) 0 l) (fun k=>l.length - k) 0 ⟨qP _,rfl⟩ jW jW fun k hk=>?_
 obtain ⟨hk,hf⟩:=hk
 refine jA ?_
 refine AW.cond rfl (fun h0=>?_) (fun h0=>?_)
 ·have h:k<l.length:=by simpa using h0
  rw [qS h,idxF] at hf
  have hx:(l.map cSp)[k]?=some (cSp l[k]):=by rw [qE,qA h];rfl
  generalize l[k]=x at hf hx
  refine jA ?_
  refine jx hx ?_
  refine wH rfl ?_
  by_cases hp:v=x
  ·rw [qD hp] at hf
   refine RG.opS rfl (op_eqG rfl ty_ok (by kernel_rfl) (by kernel_rfl) rfl rfl (eq_Sp v x) (qD hp)) rfl ?_
   refine jH ?_;refine AW.condT rfl ?_;refine jA ?_
   refine jR ?_
   rw [<- hf]
   rfl
  ·rw [qF hp] at hf
   refine RG.opS rfl (op_eqG rfl ty_ok (by kernel_rfl) (by kernel_rfl) rfl rfl (eq_Sp v x) (qF hp)) rfl ?_
   refine jH ?_;refine AW.condF rfl ?_;refine jA ?_
   exact ⟨k+1,⟨⟨h,hf⟩,by omega⟩,jV,jW⟩
 ·have h:¬k<l.length:=by simpa using h0
  obtain rfl:k=l.length:=by omega
  rw [vE,idxF] at hf
  refine jA ?_
  refine jE ?_;refine jA ?_
  refine jR ?_
  rw [<- hf]
  rfl
theorem d_Contains_Sp (v:Sp) (l:List (Sp)) (q:Bool) (hq:decide (v∈l)=q):PDoes Tryz.prog 168 [.sl (l.map cSp),.agg (cSp v)] (.b q):=by
 refine jb Tryz.func168 ?_
 refine jA ?_
 refine jc (d_Index_Sp v l) ?_;refine jH ?_
 refine jR ?_
 refine congrArg AV.b ((idxF_any 0 l).trans (Eq.trans ?_ hq))
 rw [Bool.eq_iff_iff]
 simp
theorem d_Index_Cb (v:Cb) (l:List (Cb)):PDoes Tryz.prog 158 [.sl (l.map cCb),.agg (cCb v)] (.i .i64 (idxF (fun x=>decide (v=x)) 0 l)):=by
 refine jb Tryz.func158 ?_
 refine jA ?_
 refine AW.lens 6 rfl fun hm=>?_
 rw [qH] at hm
 refine AW.loopL (ι:=Nat) (fun k=>[(0,.sl (l.map cCb)),(3,.own 3 0 0),(7,.i .i64 (l.map cCb).length),(8,.i .i64 (k:Nat))]) (fun _=>[(3,⟨0,some (.box 36 (cCb v))⟩)]) (fun k=>k<=l.length/\idxF (fun x=>decide (v=x)) k (l.drop k)=idxF (fun x=>decide (v=x)) 0 l) (fun k=>l.length - k) 0 ⟨qP _,rfl⟩ jW jW fun k hk=>?_
 obtain ⟨hk,hf⟩:=hk
 refine jA ?_
 refine AW.cond rfl (fun h0=>?_) (fun h0=>?_)
 ·have h:k<l.length:=by simpa using h0
  rw [qS h,idxF] at hf
  have hx:(l.map cCb)[k]?=some (cCb l[k]):=by rw [qE,qA h];rfl
  generalize l[k]=x at hf hx
  refine jA ?_
  refine jx hx ?_
  refine wH rfl ?_
  by_cases hp:v=x
  ·rw [qD hp] at hf
   refine RG.opS rfl (op_eqG rfl ty_ok (by kernel_rfl) (by kernel_rfl) rfl rfl (eq_Cb v x) (qD hp)) rfl ?_
   refine jH ?_;refine AW.condT rfl ?_;refine jA ?_
   refine jR ?_
   rw [<- hf]
   rfl
  ·rw [qF hp] at hf
   refine RG.opS rfl (op_eqG rfl ty_ok (by kernel_rfl) (by kernel_rfl) rfl rfl (eq_Cb v x) (qF hp)) rfl ?_
   refine jH ?_;refine AW.condF rfl ?_;refine jA ?_
   exact ⟨k+1,⟨⟨h,hf⟩,by omega⟩,jV,jW⟩
 ·have h:¬k<l.length:=by simpa using h0
  obtain rfl:k=l.length:=by omega
  rw [vE,idxF] at hf
  refine jA ?_
  refine jE ?_;refine jA ?_
  refine jR ?_
  rw [<- hf]
  rfl
theorem d_Contains_Cb (v:Cb) (l:List (Cb)) (q:Bool) (hq:decide (v∈l)=q):PDoes Tryz.prog 115 [.sl (l.map cCb),.agg (cCb v)] (.b q):=by
 refine jb Tryz.func115 ?_
 refine jA ?_
 refine jc (d_Index_Cb v l) ?_;refine jH ?_
 refine jR ?_
 refine congrArg AV.b ((idxF_any 0 l).trans (Eq.trans ?_ hq))
 rw [Bool.eq_iff_iff]
 simp
theorem d_Clip_Int (l:List (Int)):PDoes Tryz.prog 37 [.sl (l.map cI)] (.sl (l.map cI)):=by
 refine jb Tryz.func37 ?_
 refine jA ?_
 refine RG.opS rfl (op_clip rfl (tk rfl) rfl (tk rfl) rfl rfl rfl) rfl ?_
 refine jH ?_
 refine jR ?_
 rfl
theorem d_Clip_Cb (l:List (Cb)):PDoes Tryz.prog 39 [.sl (l.map cCb)] (.sl (l.map cCb)):=by
 refine jb Tryz.func39 ?_
 refine jA ?_
 refine RG.opS rfl (op_clip rfl (tk rfl) rfl (tk rfl) rfl rfl rfl) rfl ?_
 refine jH ?_
 refine jR ?_
 rfl
theorem d_Clip_Atom (l:List (Atom)):PDoes Tryz.prog 87 [.sl (l.map cAtom)] (.sl (l.map cAtom)):=by
 refine jb Tryz.func87 ?_
 refine jA ?_
 refine RG.opS rfl (op_clip rfl (tk rfl) rfl (tk rfl) rfl rfl rfl) rfl ?_
 refine jH ?_
 refine jR ?_
 rfl
theorem d_AllowedFn (x y z:Int × Int):PDoes Tryz.prog 176 [.agg (cPr x),.ro (cPr y),.ro (cPr z)] (.b (decide (x=y) || decide (x=z))):=by
 refine jb Tryz.func176 ?_
 refine jB ?_;refine wF ?_;refine wH rfl ?_;refine jB ?_
 refine AW.text ?_
 refine wH rfl ?_
 by_cases h:x=y
 ·refine RG.opS rfl (op_eqG rfl ty_ok (by kernel_rfl) (by kernel_rfl) rfl rfl (eq_Pr x y) (qD h)) rfl ?_
  refine jH ?_
  refine jR ?_
  exact congrArg AV.b (by rw [qD h];rfl)
 ·refine RG.opS rfl (op_eqG rfl ty_ok (by kernel_rfl) (by kernel_rfl) rfl rfl (eq_Pr x y) (qF h)) rfl ?_
  refine wH rfl ?_
  refine RG.opS rfl (op_eqG rfl ty_ok (by kernel_rfl) (by kernel_rfl) rfl rfl (eq_Pr x z) rfl) rfl ?_
  refine jH ?_
  refine jR ?_
  exact congrArg AV.b (by rw [qF h];rfl)
theorem d_Allowed (p:Pol) (a b:Int) (v:Bool) (hv:allowed p a b=v):PDoes Tryz.prog 122 [.agg (cPol p),.i .i64 a,.i .i64 b] (.b v):=by
 subst hv
 refine jb Tryz.func122 ?_
 refine jA ?_
 cases h1:tenantOk p a
 ·refine RG.callS rfl rfl rfl rfl rfl (d_tenant p a _ h1) rfl rfl ?_;refine jH ?_
  refine AW.condT rfl ?_;refine jA ?_
  refine jR ?_
  exact congrArg AV.b (by rw [allowed,h1];rfl)
 refine RG.callS rfl rfl rfl rfl rfl (d_tenant p a _ h1) rfl rfl ?_;refine jH ?_
 cases h2:tenantOk p b
 ·refine RG.callS rfl rfl rfl rfl rfl (d_tenant p b _ h2) rfl rfl ?_;refine jH ?_
  refine AW.condT rfl ?_;refine jA ?_
  refine jR ?_
  exact congrArg AV.b (by rw [allowed,h1,h2];rfl)
 refine RG.callS rfl rfl rfl rfl rfl (d_tenant p b _ h2) rfl rfl ?_
 refine wH rfl ?_;refine jB ?_;refine AW.condF rfl ?_;refine jA ?_
 refine RG.opS rfl (op_buildArr rfl (tk rfl) rfl (tk rfl) rfl rfl) rfl ?_
 refine wH rfl ?_
 refine RG.opS rfl (op_buildArr rfl (tk rfl) rfl (tk rfl) rfl rfl) rfl ?_
 refine wH rfl ?_;refine jB ?_
 have e0:allowed p a b=(decide (a=b) || p.peers.any fun x=>decide (x=(a,b)) || decide (x=(b,a))):=by rw [allowed,h1,h2];rfl
 refine AW.text ?_
 by_cases h:a=b
 ·refine RG.runO ty_ok 0 [(27,.b true)] 400 rfl jD ?_
  refine jB ?_
  refine jR ?_
  exact congrArg AV.b (by rw [e0,qD h];rfl)
 ·refine RG.runO ty_ok 0 [(27,.b false)] 400 rfl jD ?_
  refine RG.callS rfl rfl rfl rfl rfl (d_ContainsFunc_Pr _ (cPr (a,b)) (cPr (b,a)) (fun x=>decide (x=(a,b)) || decide (x=(b,a))) p.peers (fun x _=>d_AllowedFn x (a,b) (b,a)) _ rfl) rfl rfl ?_;refine jH ?_
  refine jR ?_
  exact congrArg AV.b (by rw [e0,qF h];rfl)
theorem d_Vias (p:Pol) (a b:Int) (hp:p.ways.length<=4):PDoes Tryz.prog 124 [.agg (cPol p),.i .i64 a,.i .i64 b] (.sl ((vias p a b).map cI)):=by
 refine jb Tryz.func124 ?_
 have hm:p.ways.length<=9223372036854775807:=by omega
 have hvl:(vias p a b).length<=4:=by
  have:=accI_len (f:=viaI a b) (m:=1) (fun n w=>by rw [viaI];cases (decide (w.fro=a) && decide (w.to=b)) <;> simp) 0 p.ways []
  rw [vias]
  simp at this
  omega
 refine jB ?_;refine wF ?_;refine wH rfl ?_;refine jB ?_
 refine AW.text ?_
 refine RG.opS rfl (op_nilRow 7 3 1 rfl) rfl ?_
 refine jH ?_
 refine AW.loopL (ι:=Nat × List Int) (fun i=>[(1,.i .i64 a),(2,.i .i64 b),(7,.row 7 0 0 (i.2.map cI).length),(11,.sl (p.ways.map cWy)),(12,.i .i64 (p.ways.map cWy).length),(13,.i .i64 (i.1:Nat))]) (fun i=>[(7,⟨0,some (.row 3 1 (i.2.map cI))⟩)]) (fun i=>i.1<=p.ways.length/\accI (viaI a b) i.1 (p.ways.drop i.1) i.2=vias p a b) (fun i=>p.ways.length - i.1) (0,[]) ⟨qP _,rfl⟩ jW jW fun i hi=>?_
 obtain ⟨k,out⟩:=i
 obtain ⟨hk,hf⟩:=hi
 simp only at hk hf
 refine jA ?_
 refine AW.cond rfl (fun h0'=>?_) (fun h0'=>?_)
 ·have h':k<p.ways.length:=by simpa using h0'
  have hol:out.length<=4:=by
   have h1:=accI_ge (f:=viaI a b) k (p.ways.drop k) out
   rw [hf] at h1
   omega
  rw [qS h',accI,viaI] at hf
  have hkx:(p.ways.map cWy)[k]?=some (cWy p.ways[k]):=by rw [qE,qA h'];rfl
  generalize p.ways[k]=w at hf hkx
  refine jA ?_
  refine jx hkx ?_
  refine wH rfl ?_;refine jB ?_
  refine AW.text ?_
  by_cases p1:w.fro=a
  ·refine RG.runO ty_ok 0 [(20,.b true)] 400 rfl jD ?_
   refine jB ?_
   refine AW.cond rfl (fun hq=>?_) (fun hq=>?_)
   ·have hq:w.to=b:=of_decide_eq_true hq
    rw [qD p1,qD hq] at hf
    refine jB ?_
    refine AW.text ?_
    refine wH rfl ?_
    refine RG.opS rfl (op_app1 cI out w.via (by omega) rfl rfl rfl rfl (tk rfl) rfl (tk rfl) rfl rfl ⟨_,rfl,rfl⟩ rfl rfl) rfl ?_;refine jH ?_
    exact ⟨(k+1,_),⟨⟨h',hf⟩,by show p.ways.length - (k+1)<p.ways.length - k;omega⟩,jV,jW⟩
   ·have hq:¬w.to=b:=of_decide_eq_false hq
    rw [qD p1,qF hq,Bool.and_false,cond_false,vW] at hf
    refine jA ?_
    exact ⟨(k+1,out),⟨⟨h',hf⟩,by show p.ways.length - (k+1)<p.ways.length - k;omega⟩,jV,jW⟩
  ·rw [qF p1,uM,cond_false,vW] at hf
   refine RG.runO ty_ok 0 [(20,.b false)] 400 rfl jD ?_
   refine jB ?_;refine AW.condF rfl ?_;refine jA ?_
   exact ⟨(k+1,out),⟨⟨h',hf⟩,by show p.ways.length - (k+1)<p.ways.length - k;omega⟩,jV,jW⟩
 ·have h':¬k<p.ways.length:=by simpa using h0'
  obtain rfl:k=p.ways.length:=by omega
  rw [vE,accI] at hf
  refine jA ?_
  refine jE ?_;refine jA ?_
  refine RG.callMS rfl rfl rfl rfl (congrArg (fun x=>[x]) (rowAll rfl)) rfl (d_Clip_Int out) rfl ?_;refine jH ?_
  refine jR ?_
  rw [<- hf]
  rfl
theorem low8:∀n,n<256->UInt64.ofNat n &&& ~~~(lowH 8).lo=0:=by decide
theorem low24:∀n,n<8->UInt64.ofNat n &&& ~~~(lowH 24).lo=0:=by decide
theorem ofI_nat (n:Nat) (h:n<=300):ofI64 (n:Int)=UInt64.ofNat n:=by
 apply UInt64.toNat_inj.1
 have:=ofI64_nat (n:Int)
 rw [IntKind.wrap_u64] at this
 rw [UInt64.toNat_ofNat']
 omega
def stampE (c:Cf) (s:Sp) (v:Int):Int:=if c.sound=0 then (if v<0\/v>255 then 4 else if s∈edges c.topo.ports then 0 else 7) else c.sound
def stampC (c:Cf) (s:Sp) (v:Int):Cb:=if stampE c s v=0 then stampOf c s v else Cb.zero
theorem d_CStamp (c:Cf) (s:Sp) (v:Int):PDoes Tryz.prog 118 [.agg (cCf c),.agg (cSp s),.i .i64 v] (.tup [.agg (cCb (stampC c s v)),.i .i64 (stampE c s v)]):=by
 refine jb Tryz.func118 ?_
 refine jA ?_
 refine jc (d_CSound c) ?_;refine jH ?_
 refine AW.cond rfl (fun h0=>?_) (fun h0=>?_)
 ·have h0:¬c.sound=0:=by simpa using h0
  have e1:stampE c s v=c.sound:=by rw [stampE,if_neg h0]
  rw [stampC,e1,if_neg h0]
  refine jA ?_
  refine jR ?_
  rfl
 have h0:c.sound=0:=by simpa using h0
 have hc:=Cf.ok h0
 have e0:stampE c s v=if v<0\/v>255 then 4 else if s∈edges c.topo.ports then 0 else 7:=by rw [stampE,if_pos h0]
 refine jB ?_
 refine AW.text ?_
 by_cases h1:v<0
 ·refine RG.runO ty_ok 0 [(21,.b true)] 400 rfl jD ?_
  refine jB ?_;refine AW.condT rfl ?_;refine jA ?_
  have e1:stampE c s v=4:=by rw [e0,if_pos (by omega)]
  rw [stampC,e1,if_neg (by decide)]
  refine jR ?_
  rfl
 ·by_cases h2:v>255
  ·refine RG.runO ty_ok 0 [(21,.b false),(24,.b true)] 400 rfl jD ?_
   refine jB ?_;refine AW.condT rfl ?_;refine jA ?_
   have e1:stampE c s v=4:=by rw [e0,if_pos (by omega)]
   rw [stampC,e1,if_neg (by decide)]
   refine jR ?_
   rfl
  ·refine RG.runO ty_ok 0 [(21,.b false),(24,.b false)] 400 rfl jD ?_
   rw [if_neg (by omega)] at e0
   refine jB ?_;refine AW.condF rfl ?_;refine jA ?_
   refine jm (d_Edges c.topo.ports hc.topo) ?_
   refine wH rfl ?_
   by_cases hs:s∈edges c.topo.ports
   rotate_left
   ·refine RG.callS rfl rfl rfl rfl rfl (d_Contains_Sp s (edges c.topo.ports) _ (qF hs)) rfl rfl ?_;refine jH ?_
    refine AW.condT rfl ?_;refine jA ?_
    have e1:stampE c s v=7:=by rw [e0,if_neg hs]
    rw [stampC,e1,if_neg (by decide)]
    refine jR ?_
    rfl
   have e1:stampE c s v=0:=by rw [e0,if_pos hs]
   rw [stampC,e1,if_pos rfl]
   refine RG.callS rfl rfl rfl rfl rfl (d_Contains_Sp s (edges c.topo.ports) _ (qD hs)) rfl rfl ?_;refine jH ?_
   refine AW.condF rfl ?_;refine jA ?_
   obtain ⟨n,r,a,p,hr,hp,hk,rfl⟩:=edges_mem.1 hs
   have hpa:portAt c.topo.ports ⟨n,a⟩=p:=portAt_at hr hp
   have hok:=(topoSound_ok hc.topo).2.2.2 n r hr a p hp
   obtain ⟨t,ht,ht3⟩:∃t:Nat,p.tenant=(t:Nat)/\t<=3:=by
    rw [portOk] at hok
    simp [hk] at hok
    obtain ⟨t,ht⟩:=Int.eq_ofNat_of_zero_le hok.2.1
    exact ⟨t,ht,by omega⟩
   obtain ⟨V,rfl⟩:=Int.eq_ofNat_of_zero_le (show 0<=v by omega)
   have hw:IntKind.i64.wrap (p.tenant+Int.ofNat 1)=((t+1:Nat):Int):=by
    rw [IntKind.wrap_i64,ht]
    simp only [qG]
    omega
   refine RG.callS rfl rfl rfl rfl rfl (d_Mask 88 40 (by decide)) rfl rfl ?_;refine jH ?_
   refine RG.opS rfl (op_index rfl (tk rfl) rfl (tk rfl) rfl rfl (show (c.topo.ports.map cPts)[n]?=some (cPts r) by rw [qE,hr];rfl) rfl) rfl ?_
   refine wH rfl ?_
   refine RG.opS rfl (op_index rfl (tk rfl) rfl (tk rfl) rfl rfl (show (r.map cPt)[a]?=some (cPt p) by rw [qE,hp];rfl) rfl) rfl ?_
   refine RG.runO ty_ok 0 [(53,.i .i64 (t+1:Nat))] 400 rfl jD ?_
   refine RG.callS rfl rfl rfl rfl rfl (d_Put Hd.zero 88 24 (ofI64 ((t+1:Nat):Int)) (by decide) (by decide) (by rw [ofI_nat _ (by omega)];exact low24 _ (by omega))) rfl rfl ?_;refine jH ?_
   refine RG.callS rfl rfl rfl rfl rfl (d_Put _ 112 8 (ofI64 (V:Int)) (by decide) (by decide) (by rw [ofI_nat _ (by omega)];exact low8 _ (by omega))) rfl rfl ?_;refine jH ?_
   refine RG.callS rfl rfl rfl rfl rfl (d_Make _ _) rfl rfl ?_;refine jH ?_
   refine jR ?_
   rw [stampOf,hpa,ht]
   rfl
theorem d_Other (t:List (List Pt)) (n a:Nat) (r:List Pt) (p:Pt) (ht:topoSound t=0) (hr:t[n]?=some r) (hp:r[a]?=some p) (hk:p.kind=2):PDoes Tryz.prog 174 [.agg (cTopo ⟨t⟩),.agg (cSp ⟨n,a⟩)] (.tup [.agg (cSp ⟨p.peer,p.at_⟩),.b true]):=by
 refine jb Tryz.func174 ?_
 have hlen:(t.map cPts).length=t.length:=qH ..
 have hlr:(r.map cPt).length=r.length:=qH ..
 have hn:=(qC.1 hr).1
 have ha:=(qC.1 hp).1
 have g1:¬((n:Nat):Int)<0:=by omega
 have g2:¬((n:Nat):Int)>=(((t.map cPts).length:Nat):Int):=by omega
 have g3:¬((a:Nat):Int)<0:=by omega
 have g4:¬((a:Nat):Int)>=(((r.map cPt).length:Nat):Int):=by omega
 have hS:=d_TopSound t
 rw [ht] at hS
 have hrx:(t.map cPts)[n]?=some (cPts r):=by rw [qE,hr];rfl
 have hpx:(r.map cPt)[a]?=some (cPt p):=by rw [qE,hp];rfl
 refine jB ?_;refine wF ?_;refine wH rfl ?_;refine jB ?_
 refine AW.draws mixed_ok ?_
 refine wH rfl ?_
 refine jc hS ?_
 refine RG.runO ty_ok 0 [(13,.b false),(21,.b false),(26,.b false)] 400 rfl jD ?_
 refine jx hrx ?_
 refine RG.runO ty_ok 0 [(38,.b false)] 400 rfl jD ?_
 refine jB ?_;refine AW.condF rfl ?_;refine jB ?_
 refine AW.draws mixed_ok ?_
 refine wH rfl ?_
 refine jx hrx ?_
 refine wH rfl ?_
 refine jx hpx ?_
 refine jH ?_
 refine AW.cond rfl (fun h=>?_) (fun h=>?_)
 ·simp [hk] at h
 refine jA ?_
 refine jR ?_
 rfl
theorem d_PassedFn (h:Hop) (n:Int):PDoes Tryz.prog 179 [.agg (cHop h),.ro [.i .i64 n]] (.b (decide (h.sw=n))):=by
 refine jb Tryz.func179 ?_
 refine jA ?_
 refine jR ?_
 rfl
theorem d_Passed (r:Run) (n:Int) (q:Bool) (hq:passed r n=q):PDoes Tryz.prog 126 [.agg (cRun r),.i .i64 n] (.b q):=by
 refine jb Tryz.func126 ?_
 refine jA ?_
 refine RG.callS rfl rfl rfl rfl rfl (d_ContainsFunc_Hop _ [.i .i64 n] (fun h=>decide (h.sw=n)) r.hops (fun x _=>d_PassedFn x n) _ hq) rfl rfl ?_;refine jH ?_
 refine jR ?_
 rfl
theorem d_compare (l:List Rl) (X:List (List AV)) (a b:Nat) (x y:Rl) (ha:l[a]?=some x) (hb:l[b]?=some y):PDoes Tryz.prog 253 [.ro [.sl (l.map cRl),.sl X],.i .i64 (a:Nat),.i .i64 (b:Nat)] (.i .i64 (orI [cmpI y.prio x.prio,cmpI a b])):=by
 refine jb Tryz.func253 ?_
 refine jA ?_
 refine RG.opS rfl (op_index rfl (tk rfl) rfl (tk rfl) rfl rfl (show (l.map cRl)[b]?=some (cRl y) by rw [qE,hb];rfl) rfl) rfl ?_
 refine wH rfl ?_
 refine RG.opS rfl (op_index rfl (tk rfl) rfl (tk rfl) rfl rfl (show (l.map cRl)[a]?=some (cRl x) by rw [qE,ha];rfl) rfl) rfl ?_
 refine wH rfl ?_
 refine jc (d_Compare y.prio x.prio) ?_
 refine wH rfl ?_
 refine jc (d_Compare a b) ?_
 refine wH rfl ?_
 refine jc (d_Or2 [cmpI y.prio x.prio,cmpI a b]) ?_;refine jH ?_
 refine jR ?_
 rfl
theorem Rn.fnF {σ σ':Sto} {x:AV} {f:FuncId} {a:List AV} (e:x = .fn f a []) (h:a.all AV.pu1=true):Rn σ σ' x (.fn f a []):=by
 subst e
 exact .fn rfl rfl (fun j x x' h1 h2=>by
  rw [h1] at h2
  rw [<- qB h2]
  exact .pu (qW.1 h x (qQ h1))) (fun j x x' h1=>by simp at h1)
def Falls (l:List Rl):Prop:=∀(k:Nat) (x y:Rl),l[k]?=some x->l[k+1]?=some y->y.prio<=x.prio
def numN (k:Nat):List AV:=cI (k:Nat)
theorem d_insert (l:List Rl) (hf:Falls l) (hl:l.length<=1000) (X:List (List AV)):PDoes Tryz.prog 259 [.sl ((List.range l.length).map numN),.i .i64 0,.i .i64 (l.length:Nat),.fn 253 [.ro [.sl (l.map cRl),.sl X]] []] (.tup []):=by
 refine jb Tryz.func259 ?_
 have hr:((List.range l.length).map numN).length=l.length:=by rw [qH,List.length_range]
 have hk:∀k,k<l.length->((List.range l.length).map numN)[k]?=some (numN k):=fun k h=>by rw [qE,List.getElem?_range h];rfl
 generalize (List.range l.length).map numN=els at hr hk
 refine jA ?_
 refine AW.loopL (ι:=Nat) (fun k=>[(0,.sl els),(1,.i .i64 0),(2,.i .i64 (l.length:Nat)),(3,.fn 253 [.ro [.sl (l.map cRl),.sl X]] []),(8,.i .i64 ((k+1:Nat):Int))]) (fun _=>[]) (fun k=>k<=l.length) (fun k=>l.length - k) 0 (qP _) jQ trivial fun k hkl=>?_
 refine jA ?_
 refine AW.cond rfl (fun h0=>?_) (fun h0=>?_)
 ·have h : k + 1 < l.length := by
   have:=of_decide_eq_true h0
   omega
  refine jA ?_
  refine AW.loopL (ι:=Nat) (fun _=>[(0,.sl els),(1,.i .i64 0),(2,.i .i64 (l.length:Nat)),(3,.fn 253 [.ro [.sl (l.map cRl),.sl X]] []),(8,.i .i64 ((k+1:Nat):Int)),(9,.i .i64 ((k+1:Nat):Int))]) (fun _=>[]) (fun _=>True) (fun i=>i) 0 trivial jQ trivial fun i _=>?_
  refine jB ?_
  refine AW.draws mixed_ok ?_
  have g1:((k+1:Nat):Int)>0:=by omega
  have g2:IntKind.i64.wrap (((k+1:Nat):Int) - Int.ofNat 1)=(k:Nat):=by
   rw [IntKind.wrap_i64]
   simp only [qG]
   omega
  refine RG.runO ty_ok 0 [(20,.b true)] 400 rfl jD ?_
  refine jx (hk (k+1) h) ?_
  refine RG.runO ty_ok 0 [(29,.i .i64 (k:Nat))] 400 rfl jD ?_
  refine RG.opS rfl (op_index rfl (tk rfl) rfl (tk rfl) rfl rfl (hk k (by omega)) rfl) rfl ?_
  refine wH rfl ?_
  have e1:l[k+1]?=some l[k+1]:=qA h
  have e2:l[k]?=some (l[k]'(by omega)):=qA (by omega)
  have hle:=hf k _ _ e2 e1
  have hc:¬orI [cmpI (l[k]'(by omega)).prio l[k+1].prio,cmpI ((k+1:Nat):Int) (k:Nat)]<0:=by
   generalize (l[k]'(by omega)).prio=p at hle
   generalize l[k+1].prio=q at hle
   have c2:cmpI ((k+1:Nat):Int) (k:Nat)=1:=by rw [cmpI,if_neg (by omega),if_pos (by omega)]
   rw [c2]
   by_cases hpq:q<p
   ·have c1:cmpI p q=1:=by rw [cmpI,if_neg (by omega),if_pos hpq]
    rw [c1];decide
   ·have c1:cmpI p q=0:=by rw [cmpI,if_neg (by omega),if_neg hpq]
    rw [c1];decide
  refine RG.callS rfl rfl rfl rfl rfl (d_compare l X (k+1) k _ _ e1 e2) rfl rfl ?_
  refine wH rfl ?_;refine jB ?_
  refine AW.cond rfl (fun h1=>?_) (fun h1=>?_)
  ·exact absurd (of_decide_eq_true h1) hc
  refine jA ?_
  refine jE ?_;refine jA ?_
  exact ⟨k+1,⟨by omega,by omega⟩,⟨Rn.is rfl rfl,Rn.is rfl rfl,Rn.is rfl rfl,Rn.fnF rfl rfl,Rn.is (i64_next (show k+1<100000 by omega) (by decide)) rfl,trivial⟩,trivial⟩
 ·refine jA ?_
  refine jE ?_;refine jA ?_
  exact retQ0 rfl (.inl rfl)
theorem op_indexSy {P:Program} {N:Nat} {o:Oper} {s:St} {t:Nat} {ti:TI} {x i:Operand} {l:List UInt8} {b c:UInt8} (ho:o.op = .index t x i) (ht:TiOk P t ti) (hk:ti.k = .str) (hx:s.ev x = .s l) (hi:s.ev i = .y b) (hc:l[b.toNat]?=some c):OpLoc P N o s ⟨.y c,[],[]⟩:=by
 refine oploc_val [] _ fun s' W F μ a h1 h2 hs=>⟨.int .u8 c.toNat,?_,.pure (.y c)⟩
 have ex:=hs.ev x
 rw [h1 x (by rw [ho];simp [Op.operands]),hx] at ex
 have ei':=hs.ev i
 rw [h1 i (by rw [ho];simp [Op.operands]),hi] at ei'
 have hb:(⟨l.toArray⟩:ByteArray)[b.toNat]?=some c:=by
  obtain ⟨hlt,e⟩:=qC.1 hc
  rw [getElem?_pos (⟨l.toArray⟩:ByteArray) b.toNat (by simpa [ByteArray.size] using hlt)]
  exact congrArg some e
 have h0:(0:Int)<=(b.toNat:Int):=by omega
 simp only [execOp,ho,Instr.index,ex.s',ei'.y',asIntOf,Sem.run_bind,Sem.run_pure,Result.andThen_ok,run_underlying (ht.str hk),h0,if_true,vU,hb]
theorem d_Len64 (v:UInt64) (hv:v.toNat<256):∃r:Int,PDoes Tryz.prog 151 [.u v] (.i .i64 r):=by
 refine ⟨?_,?_⟩
 rotate_left
 ·refine jb Tryz.func151 ?_
  refine jA ?_
  refine AW.cond rfl (fun h=>?_) (fun h=>?_)
  ·have:=UInt64.le_iff_toNat_le.1 (of_decide_eq_true h)
   exact absurd (Nat.lt_of_le_of_lt this hv) (by decide)
  clear h
  refine jA ?_
  refine AW.cond rfl (fun h=>?_) (fun h=>?_)
  ·have:=UInt64.le_iff_toNat_le.1 (of_decide_eq_true h)
   exact absurd (Nat.lt_of_le_of_lt this hv) (by decide)
  clear h
  refine jA ?_
  refine AW.cond rfl (fun h=>?_) (fun h=>?_)
  ·have:=UInt64.le_iff_toNat_le.1 (of_decide_eq_true h)
   exact absurd (Nat.lt_of_le_of_lt this hv) (by decide)
  clear h
  refine jA ?_
  refine RG.opS rfl (op_indexSy rfl (tk rfl) rfl rfl rfl (qA (vI (UInt8.toNat_lt _) (by decide)))) rfl ?_
  refine jH ?_
  refine jR ?_
  rfl
theorem d_Len (v:UInt64) (hv:v.toNat<256):∃r:Int,PDoes Tryz.prog 105 [.u v] (.i .i64 r):=by
 obtain ⟨r,hr⟩:=d_Len64 v hv
 refine ⟨r,?_⟩
 refine jb Tryz.func105 ?_
 refine jA ?_
 refine AW.condF rfl ?_;refine jA ?_
 refine jc hr ?_;refine jH ?_
 refine jR ?_
 rfl
theorem d_pdq (l:List Rl) (hf:Falls l) (hl:l.length<=12) (X:List (List AV)) (lim:Int):PDoes Tryz.prog 256 [.sl ((List.range l.length).map numN),.i .i64 0,.i .i64 (l.length:Nat),.i .i64 lim,.fn 253 [.ro [.sl (l.map cRl),.sl X]] []] (.tup []):=by
 refine jb Tryz.func256 ?_
 have hI:=d_insert l hf (by omega) X
 generalize (List.range l.length).map numN=els at hI
 refine jA ?_
 refine AW.loopL (ι:=Nat) (fun _=>[(0,.sl els),(1,.i .i64 0),(2,.i .i64 (l.length:Nat)),(4,.fn 253 [.ro [.sl (l.map cRl),.sl X]] [])]) (fun _=>[]) (fun _=>True) (fun i=>i) 0 trivial jQ trivial fun i _=>?_
 refine jA ?_
 refine AW.cond rfl (fun h=>?_) (fun h=>?_)
 ·refine jA ?_
  refine jc hI ?_;refine jH ?_
  exact AW.ret (retQ0 rfl (.inr rfl))
 ·have h:=of_decide_eq_false h
  have hw:IntKind.i64.wrap (((l.length:Nat):Int) - 0)=(l.length:Nat):=by rw [IntKind.wrap_i64];omega
  rw [hw] at h
  exact absurd (show ((l.length:Nat):Int)<=12 by omega) h
theorem d_SortFunc (l:List Rl) (hf:Falls l) (hl:l.length<=12) (X:List (List AV)):PDoes Tryz.prog 252 [.sl ((List.range l.length).map numN),.fn 253 [.ro [.sl (l.map cRl),.sl X]] []] (.tup []):=by
 have hn:((List.range l.length).map numN).length=l.length:=by rw [qH,List.length_range]
 obtain ⟨r,hr⟩:=d_Len (ofI64 (((List.range l.length).map numN).length:Nat)) (by rw [hn,ofI_nat _ (by omega),UInt64.toNat_ofNat'];omega)
 have hP:=d_pdq l hf hl X r
 generalize (List.range l.length).map numN=els at hr hP hn
 rw [<- hn] at hP
 refine jb Tryz.func252 ?_
 refine jA ?_
 refine jc hr ?_;refine jH ?_
 refine jc hP ?_;refine jH ?_
 exact retQ0 rfl (.inl rfl)
def Better (l:List Rl) (a b:Nat):Prop:=(l.getD b Rl.zero).prio<(l.getD a Rl.zero).prio\/((l.getD b Rl.zero).prio=(l.getD a Rl.zero).prio/\a<=b)
def LookOk (l:List Rl):Prop:=∃os:List Nat,os.Perm (List.range l.length)/\os.Pairwise (Better l)/\PDoes Tryz.prog 244 [.sl (l.map cRl)] (.sl (os.map numN))
theorem falls_le {l:List Rl} (hf:Falls l):∀(d a:Nat),a+d<l.length->(l.getD (a+d) Rl.zero).prio<=(l.getD a Rl.zero).prio
 | 0,a,_=>Int.le_refl _
 | d+1,a,h=>by
  have ih:=falls_le hf d a (by omega)
  have e1:l[a+d]?=some (l[a+d]'(by omega)):=qA (by omega)
  have e2:l[a+d+1]?=some (l[a+d+1]'(by omega)):=qA (by omega)
  have:=hf (a+d) _ _ e1 e2
  rw [getD_at e1] at ih
  rw [show a+(d+1)=a+d+1 by omega,getD_at e2]
  omega
theorem look_falls {l:List Rl} (hf:Falls l) (hl:l.length<=12):LookOk l:=by
 refine ⟨List.range l.length,List.Perm.refl _,?_,?_⟩
 ·rw [List.pairwise_iff_getElem]
  intro i j hi hj hij
  rw [List.getElem_range,List.getElem_range]
  rw [List.length_range] at hj
  have:=falls_le hf (j - i) i (by omega)
  rw [show i+(j - i)=j by omega] at this
  by_cases e:(l.getD j Rl.zero).prio=(l.getD i Rl.zero).prio
  ·exact Or.inr ⟨e,by omega⟩
  ·exact Or.inl (by omega)
 refine jb Tryz.func244 ?_
 refine jB ?_;refine wF ?_;refine wH rfl ?_;refine jB ?_;refine wF ?_;refine wH rfl ?_;refine jB ?_
 refine AW.nilRow 40 0 3 1 [(0,.sl (l.map cRl)),(3,.own 7 0 0)] [(7,⟨0,some (.box 322 [.sl (l.map cRl),.row 40 0 0 0])⟩),(40,⟨0,some (.row 3 1 [])⟩)] ⟨.rn (Rn.is rfl rfl),.rn (Rn.ownIs rfl rfl rfl),trivial⟩ ⟨.boxL rfl ⟨RnN.is rfl rfl,.nil rfl,trivial⟩ rfl,.old (.row rfl rfl),trivial⟩ ?_
 refine jA ?_
 have hm:l.length<=9223372036854775807:=by omega
 refine AW.loopL (ι:=Nat × List Nat) (fun i=>[(3,.own 7 0 0),(8,.sl (l.map cRl)),(9,.i .i64 (l.map cRl).length),(10,.i .i64 (i.1:Nat))]) (fun i=>[(7,⟨0,some (.box 322 [.sl (l.map cRl),.row 40 0 0 (i.2.map numN).length])⟩),(40,⟨0,some (.row 3 1 (i.2.map numN))⟩)]) (fun i=>i.1<=l.length/\i.2=List.range i.1) (fun i=>l.length - i.1) (0,[]) ⟨qP _,rfl⟩ jW ⟨.boxL rfl jQ rfl,.row rfl rfl,trivial⟩ fun i hi=>?_
 obtain ⟨k,out⟩:=i
 obtain ⟨hk,ho⟩:=hi
 simp only at hk ho
 refine jA ?_
 refine AW.cond rfl (fun h0=>?_) (fun h0=>?_)
 ·have h:k<l.length:=by simpa using h0
  have hL:out.length<=100000000:=by rw [ho,List.length_range];omega
  refine jA ?_
  refine RG.opS rfl (op_app1 numN out k hL rfl rfl rfl rfl (tk rfl) rfl (tk rfl) rfl rfl ⟨_,rfl,rfl⟩ rfl rfl) rfl ?_;refine jH ?_
  exact ⟨(k+1,out++[k]),⟨⟨h,by show out++[k]=List.range (k+1);rw [ho,List.range_succ]⟩,by show l.length - (k+1)<l.length - k;omega⟩,jV,⟨.boxL rfl jQ rfl,.row rfl rfl,trivial⟩⟩
 ·have h:¬k<l.length:=by simpa using h0
  obtain rfl:k=l.length:=by omega
  have hS:=d_SortFunc l hf hl (((out.map numN).drop 0).take (out.map numN).length)
  rw [<- ho] at hS ⊢
  refine jA ?_
  refine jE ?_;refine jA ?_
  refine RG.callS rfl rfl rfl rfl (congrArg (fun x=>[x,_]) (rowAll rfl)) hS rfl rfl ?_
  refine jH ?_
  refine jR ?_
  exact rowAll rfl
def Hits (l:List Rl) (h:Hd) (m:Nat):Prop:=m<l.length/\(l.getD m Rl.zero).mat.has h=true
def BestInv (L:List Rl) (h:Hd) (i:Nat):Option (Nat × Int)->Prop
 | none=>∀m<i,¬Hits L h m
 | some x=>x.1<i/\Hits L h x.1/\(L.getD x.1 Rl.zero).prio=x.2/\∀m<i,Hits L h m->Better L x.1 m
theorem fndF_inv (L:List Rl) (h:Hd):∀(l:List Rl) (i:Nat) (b:Option (Nat × Int)),L.drop i=l->i<=L.length->BestInv L h i b->BestInv L h L.length (fndF h i l b)
 | [],i,b,hd,hi,hb=>by
  have:L.length<=i:=by rw [<- List.drop_eq_nil_iff];exact hd
  rw [fndF,show L.length=i by omega]
  exact hb
 | r::l,i,b,hd,hi,hb=>by
  have hlt:i<L.length:=by
   have:=congrArg List.length hd
   rw [uK,qR] at this
   omega
  have hr:L[i]?=some r:=by
   have:(L.drop i)[0]?=some r:=by rw [hd];rfl
   rwa [uD,Nat.add_zero] at this
  have hrd:L.getD i Rl.zero=r:=getD_at hr
  have hd':L.drop (i+1)=l:=by rw [<- List.drop_drop,hd];rfl
  rw [fndF]
  refine fndF_inv L h l (i+1) _ hd' (by omega) ?_
  have step:∀m,m<i+1->m<i\/m=i:=fun m hm=>by omega
  cases hh:r.mat.has h
  ·have hno:¬Hits L h i:=fun H=>by rw [Hits,hrd,hh] at H;cases H.2
   rw [uM,cond_false]
   cases b with
   | none=>exact fun m hm H=>(step m hm).elim (fun e=>hb m e H) fun e=>hno (e ▸ H)
   | some x=>exact ⟨by have:=hb.1;omega,hb.2.1,hb.2.2.1,fun m hm H=>(step m hm).elim (fun e=>hb.2.2.2 m e H) fun e=>absurd (e ▸ H) hno⟩
  ·have hyes:Hits L h i:=⟨hlt,by rw [hrd];exact hh⟩
   rw [uF]
   cases b with
   | none =>
    show BestInv L h (i+1) (some (i,r.prio))
    exact ⟨by omega,hyes,by rw [hrd],fun m hm H=>(step m hm).elim (fun e=>absurd H (hb m e)) fun e=>Or.inr ⟨by rw [e],by omega⟩⟩
   | some x =>
    obtain ⟨h1,h2,h3,h4⟩:=hb
    by_cases hq:x.2<r.prio
    ·rw [show (some x).all (fun q=>decide (q.2<r.prio))=true from qD hq,cond_true]
     refine ⟨by omega,hyes,by rw [hrd],fun m hm H=>(step m hm).elim (fun e=>?_) fun e=>Or.inr ⟨by rw [e],by omega⟩⟩
     have:=h4 m e H
     refine Or.inl ?_
     rw [hrd]
     rcases this with h | ⟨h,_⟩ <;> omega
    ·rw [show (some x).all (fun q=>decide (q.2<r.prio))=false from qF hq,cond_false]
     refine ⟨by omega,h2,h3,fun m hm H=>(step m hm).elim (fun e=>h4 m e H) fun e=>?_⟩
     subst e
     by_cases he:r.prio=x.2
     ·exact Or.inr ⟨by rw [hrd,h3];exact he,by omega⟩
     ·exact Or.inl (by rw [hrd,h3];omega)
theorem fnd_none {l:List Rl} {h:Hd} (H:∀m,¬Hits l h m):fnd l h=none:=by
 cases hf:fnd l h with
 | none=>rfl
 | some r =>
  obtain ⟨h1,_,h3⟩:=fnd_lt hf
  exact absurd ⟨h1,h3⟩ (H r)
theorem fnd_best {l:List Rl} {h:Hd} {r:Nat} (h1:Hits l h r) (h2:∀m,Hits l h m->Better l r m):fnd l h=some r:=by
 have H:=fndF_inv l h l 0 none rfl (qP _) fun m hm=>absurd hm (uO m)
 rw [fnd]
 cases hf:fndF h 0 l none with
 | none =>
  rw [hf] at H
  exact absurd h1 (H r h1.1)
 | some x =>
  rw [hf] at H
  obtain ⟨_,k2,_,k4⟩:=H
  have b1:=h2 x.1 k2
  have b2:=k4 r h1.1 h1
  show some x.1=some r
  congr 1
  rcases b1 with b1 | ⟨b1,b1'⟩ <;> rcases b2 with b2 | ⟨b2,b2'⟩ <;> omega
theorem d_Find (l:List Rl) (h:Hd) (H:LookOk l):PDoes Tryz.prog 217 [.sl (l.map cRl),.agg (cHd h)] (fndR (fnd l h)):=by
 obtain ⟨os,hp,hs,hL⟩:=H
 have hlen:os.length=l.length:=by rw [hp.length_eq,List.length_range]
 have hmem:∀m,m∈os↔m<l.length:=fun m=>by rw [hp.mem_iff,uV]
 rw [List.pairwise_iff_getElem] at hs
 refine jb Tryz.func217 ?_
 refine jB ?_
 refine AW.lens 0 rfl fun hl=>?_
 rw [qH] at hl
 refine jA ?_
 refine jm hL ?_;refine jH ?_
 refine AW.loopL (ι:=Nat) (fun k=>[(0,.sl (l.map cRl)),(3,.own 3 0 0),(9,.sl (os.map numN)),(10,.i .i64 (os.map numN).length),(11,.i .i64 (k:Nat))]) (fun _=>[(3,⟨0,some (.box 34 (cHd h))⟩)]) (fun k=>k<=os.length/\∀(j:Nat) (hj:j<os.length),j<k->¬Hits l h os[j]) (fun k=>os.length - k) 0 ⟨qP _,fun j hj h0=>absurd h0 (uO j)⟩ jW jW fun k hk=>?_
 obtain ⟨hk,hf⟩:=hk
 refine jA ?_
 refine AW.cond rfl (fun h0=>?_) (fun h0=>?_)
 ·have hk':k<os.length:=by simpa using h0
  have hm:os.length<=9223372036854775807:=by omega
  have hol:os[k]<l.length:=(hmem _).1 (vP hk')
  have hx:(l.map cRl)[os[k]]?=some (cRl (l.getD os[k] Rl.zero)):=by rw [qE,qA hol,qK,qA hol];rfl
  refine jA ?_
  refine RG.opS rfl (op_index rfl (tk rfl) rfl (tk rfl) rfl rfl (show (os.map numN)[k]?=some (numN os[k]) by rw [qE,qA (by assumption)];rfl) rfl) rfl ?_
  refine jH ?_
  refine jx hx ?_
  refine wH rfl ?_
  cases hq:(l.getD os[k] Rl.zero).mat.has h
  ·refine RG.callS rfl rfl rfl rfl rfl (d_Has _ h _ hq) rfl rfl ?_;refine jH ?_
   refine AW.condF rfl ?_;refine jA ?_
   refine ⟨k+1,⟨⟨hk',fun j hj hjk=>?_⟩,by omega⟩,jV,jW⟩
   by_cases e:j=k
   ·subst e
    intro H
    rw [H.2] at hq
    cases hq
   ·exact hf j hj (by omega)
  ·refine RG.callS rfl rfl rfl rfl rfl (d_Has _ h _ hq) rfl rfl ?_;refine jH ?_
   refine AW.condT rfl ?_;refine jA ?_
   refine jR ?_
   have:fnd l h=some os[k]:=fnd_best ⟨hol,hq⟩ fun m H=>by
    obtain ⟨j,hj,rfl⟩:=List.getElem_of_mem ((hmem m).2 H.1)
    by_cases e:j<k
    ·exact absurd H (hf j hj e)
    ·by_cases e2:j=k
     ·subst e2;exact Or.inr ⟨rfl,qJ _⟩
     ·exact hs k j hk' hj (by omega)
   rw [this]
   rfl
 ·have hk':¬k<os.length:=by simpa using h0
  refine jA ?_
  refine jE ?_;refine jA ?_
  refine jR ?_
  have:fnd l h=none:=fnd_none fun m H=>by
   obtain ⟨j,hj,rfl⟩:=List.getElem_of_mem ((hmem m).2 H.1)
   exact hf j hj (by omega) H
  rw [this]
  rfl
def oneR (l:List Rl) (h:Hd):AV:=match fnd l h with
 | none=>.tup [.i .i64 0,.agg (cHd Hd.zero),.b false]
 | some r=>.tup [.i .i64 (r:Nat),.agg (cHd (h.set (l.getD r Rl.zero).act.set)),.b true]
theorem d_One (ts:List (List Rl)) (n:Nat) (l:List Rl) (h:Hd) (hn:ts[n]?=some l) (H:LookOk l):PDoes Tryz.prog 173 [.sl (ts.map cRls),.i .i64 (n:Nat),.agg (cHd h)] (oneR l h):=by
 refine jb Tryz.func173 ?_
 have hlt:(ts.map cRls).length=ts.length:=qH ..
 have hnl:=(qC.1 hn).1
 have g1:¬((n:Nat):Int)<0:=by omega
 have g2:¬((n:Nat):Int)>=(((ts.map cRls).length:Nat):Int):=by omega
 have hx:(ts.map cRls)[n]?=some (cRls l):=by rw [qE,hn];rfl
 have hF:=d_Find l h H
 refine jB ?_;refine wF ?_;refine wH rfl ?_;refine jB ?_
 refine AW.text ?_
 refine RG.runO ty_ok 0 [(12,.b false),(17,.b false)] 400 rfl jD ?_
 refine jB ?_;refine AW.condF rfl ?_;refine jA ?_
 refine jx hx ?_
 refine wH rfl ?_
 cases hq:fnd l h with
 | none =>
  rw [hq] at hF
  refine jc hF ?_;refine jH ?_
  refine AW.condT rfl ?_;refine jA ?_
  refine jR ?_
  rw [oneR,hq]
  rfl
 | some r =>
  obtain ⟨hr1,_,_⟩:=fnd_lt hq
  have hrx:(l.map cRl)[r]?=some (cRl (l.getD r Rl.zero)):=by rw [qE,qA hr1,qK,qA hr1];rfl
  rw [hq] at hF
  refine jc hF ?_;refine jH ?_
  refine AW.condF rfl ?_;refine jA ?_
  refine jx hx ?_
  refine wH rfl ?_
  refine jx hrx ?_
  refine wH rfl ?_
  refine jc (d_RSet (l.getD r Rl.zero) h) ?_;refine jH ?_
  refine jR ?_
  rw [oneR,hq]
  rfl
structure Pk where
 n:Int
 t:Int
 h:Hd
 fin:Int
 sw:Int
 port:Int
 hops:List Hop
def wkB (c:Cf) (w:Pk):List (Nat × SB):=[(0,⟨0,some (.box 211 [.sl (c.topo.ports.map cPts),.i .i64 c.pol.tenants,.sl (c.pol.peers.map cPr),.sl (c.pol.ways.map cWy),.sl (c.tables.map cTab),.i .i64 w.n,.i .i64 w.t,.u w.h.hi,.u w.h.lo,.i .i64 w.fin,.i .i64 w.sw,.i .i64 w.port,.row 1 0 0 (w.hops.map cHop).length])⟩),(1,⟨0,some (.row 79 5 (w.hops.map cHop))⟩)]
def LooksOk (c:Cf):Prop:=∀n t,LookOk (tabOf c n t)
def stepW (c:Cf) (w:Pk):Pk :=
 match fnd (tabOf c w.n.toNat w.t.toNat) w.h with
 | none=>⟨w.n,w.t,w.h,3,w.sw,w.port,w.hops++[⟨w.n,w.t,-1,w.h⟩]⟩
 | some r =>
  if ((tabOf c w.n.toNat w.t.toNat).getD r Rl.zero).act.kind=4 then ⟨w.n,((tabOf c w.n.toNat w.t.toNat).getD r Rl.zero).act.table,w.h.set ((tabOf c w.n.toNat w.t.toNat).getD r Rl.zero).act.set,w.fin,w.sw,w.port,w.hops++[⟨w.n,w.t,(r:Nat),w.h⟩]⟩
  else if ((tabOf c w.n.toNat w.t.toNat).getD r Rl.zero).act.kind=3 then ⟨(portAt c.topo.ports ⟨w.n,((tabOf c w.n.toNat w.t.toNat).getD r Rl.zero).act.port⟩).peer,0,w.h.set ((tabOf c w.n.toNat w.t.toNat).getD r Rl.zero).act.set,w.fin,w.sw,w.port,w.hops++[⟨w.n,w.t,(r:Nat),w.h⟩]⟩
  else if ((tabOf c w.n.toNat w.t.toNat).getD r Rl.zero).act.kind=2 then ⟨w.n,w.t,w.h.set ((tabOf c w.n.toNat w.t.toNat).getD r Rl.zero).act.set,2,w.n,((tabOf c w.n.toNat w.t.toNat).getD r Rl.zero).act.port,w.hops++[⟨w.n,w.t,(r:Nat),w.h⟩]⟩
  else ⟨w.n,w.t,w.h.set ((tabOf c w.n.toNat w.t.toNat).getD r Rl.zero).act.set,1,w.sw,w.port,w.hops++[⟨w.n,w.t,(r:Nat),w.h⟩]⟩
theorem m_step (c:Cf) (hc:c.Ok) (hL:LooksOk c) (n t:Nat) (hat:At c n t) (h:Hd) (hops:List Hop) (hl:hops.length<=100000000) (w':Pk) (hw:stepW c ⟨n,t,h,0,0,0,hops⟩=w') (g:Bool) (hg:decide (w'.fin=0)=g) (q:Nat->Option (Nat × Nat)):MDoes Tryz.prog 120 [.own 0 0 0] (gl q [0] (wkB c ⟨n,t,h,0,0,0,hops⟩)) (.b g) (gl q [0] (wkB c w')):=by
 obtain ⟨ts,ht1,ht2⟩:=hat.get
 have hx1:(c.tables.map cTab)[n]?=some (cTab ts):=by rw [qE,ht1];rfl
 have hx2:(ts.map cRls)[t]?=some (cRls (tabOf c n t)):=by rw [qE,ht2];rfl
 have hO:=d_One ts t (tabOf c n t) h ht2 (hL n t)
 rw [stepW] at hw
 simp only [vU] at hw
 refine MDoes.of_body Tryz.func120 rfl (by kernel_rfl) rfl rfl ?_
 refine jA ?_
 refine jx hx1 ?_
 refine wH rfl ?_
 cases hq:fnd (tabOf c n t) h with
 | none =>
  rw [oneR,hq] at hO
  rw [hq] at hw
  dsimp only at hw
  subst hw
  subst hg
  refine jc hO ?_;refine jH ?_
  refine AW.condT rfl ?_;refine jA ?_
  refine RG.opS rfl (op_app1 cHop hops ⟨n,t,-1,h⟩ hl rfl rfl rfl rfl (tk rfl) rfl (tk rfl) rfl rfl ⟨_,rfl,rfl⟩ rfl rfl) rfl ?_;refine jH ?_
  refine AW.condT rfl ?_;refine jA ?_
  exact AW.ret (retM1 rfl (Rm.is rfl rfl) ⟨.ghost rfl rfl rfl,.boxL rfl jQ rfl,.row rfl rfl,trivial⟩)
 | some r =>
  obtain ⟨hr1,hr2,_⟩:=fnd_lt hq
  have hrx:((tabOf c n t).map cRl)[r]?=some (cRl ((tabOf c n t).getD r Rl.zero)):=by rw [qE,qA hr1,qK,qA hr1];rfl
  rw [oneR,hq] at hO
  rw [hq] at hw
  dsimp only at hw hO
  generalize (tabOf c n t).getD r Rl.zero=x at hw hO hr2 hrx
  have hkind:=Rl.does_kind (Rl.sound_does (hat.rule hc hr2).1).2.2
  refine jc hO ?_;refine jH ?_
  refine AW.condF rfl ?_;refine jA ?_
  refine RG.opS rfl (op_app1 cHop hops ⟨n,t,r,h⟩ hl rfl rfl rfl rfl (tk rfl) rfl (tk rfl) rfl rfl ⟨_,rfl,rfl⟩ rfl rfl) rfl ?_;refine jH ?_
  refine AW.condF rfl ?_;refine jA ?_
  refine jx hx1 ?_
  refine wH rfl ?_
  refine jx hx2 ?_
  refine wH rfl ?_
  refine jx hrx ?_
  refine jH ?_
  refine AW.cond rfl (fun k4=>?_) (fun k4=>?_)
  ·have k4:x.act.kind=4:=of_decide_eq_true k4
   rw [if_pos k4] at hw
   subst hw
   subst hg
   refine jA ?_
   exact AW.ret (retM1 rfl (Rm.is rfl rfl) ⟨.ghost rfl rfl rfl,.boxL rfl jQ rfl,.row rfl rfl,trivial⟩)
  have k4:¬x.act.kind=4:=of_decide_eq_false k4
  rw [if_neg k4] at hw
  refine jA ?_
  refine AW.cond rfl (fun k3=>?_) (fun k3=>?_)
  ·have k3:x.act.kind=3:=of_decide_eq_true k3
   rw [if_pos k3] at hw
   obtain ⟨hl1,hl2,hl3⟩:=hat.link hc hr2 k3
   obtain ⟨hd1,hd2,hd3⟩:=Rl.does_forward (Rl.sound_does (hat.rule hc hr2).1).2.2 k3
   obtain ⟨pn,hpn⟩:=Int.eq_ofNat_of_zero_le hd1
   have hnl:n<c.topo.ports.length:=by rw [<- hc.len];exact hat.sw
   have ep:c.topo.ports.getD n []=c.topo.ports[n]:=getD_at (qA hnl)
   rw [ep] at hd2
   have hpl:pn<c.topo.ports[n].length:=by omega
   have epp:portAt c.topo.ports ⟨n,x.act.port⟩=c.topo.ports[n][pn]:=by
    rw [hpn]
    exact portAt_at (qA hnl) (qA hpl)
   have hOt:=d_Other c.topo.ports n pn _ _ hc.topo (qA hnl) (qA hpl) (by rw [<- epp];exact hl3)
   rw [epp] at hw
   rw [<- hpn] at hOt
   subst hw
   subst hg
   refine jA ?_
   refine jc hOt ?_;refine jH ?_
   exact AW.ret (retM1 rfl (Rm.is rfl rfl) ⟨.ghost rfl rfl rfl,.boxL rfl jQ rfl,.row rfl rfl,trivial⟩)
  have k3:¬x.act.kind=3:=of_decide_eq_false k3
  rw [if_neg k3] at hw
  refine jA ?_
  refine AW.cond rfl (fun k2=>?_) (fun k2=>?_)
  ·have k2:x.act.kind=2:=of_decide_eq_true k2
   rw [if_pos k2] at hw
   subst hw
   subst hg
   refine jA ?_
   exact AW.ret (retM1 rfl (Rm.is rfl rfl) ⟨.ghost rfl rfl rfl,.boxL rfl jQ rfl,.row rfl rfl,trivial⟩)
  have k2:¬x.act.kind=2:=of_decide_eq_false k2
  rw [if_neg k2] at hw
  subst hw
  subst hg
  refine jA ?_
  exact AW.ret (retM1 rfl (Rm.is rfl rfl) ⟨.ghost rfl rfl rfl,.boxL rfl jQ rfl,.row rfl rfl,trivial⟩)
theorem Rn.fnOwn {σ σ':Sto} {x:AV} {f:FuncId} {id ep ep' off:Nat} {bd bd':Body} (e:x = .fn f [.own id ep off] []) (h:σ id=⟨ep,some bd⟩) (h':σ' id=⟨ep',some bd'⟩):Rn σ σ' x (.fn f [.own id ep' off] []):=by
 subst e
 refine .fn rfl rfl (fun j x x' h1 h2=>?_) (fun j x x' h1=>by simp at h1)
 cases j with
 | zero =>
  obtain rfl:AV.own id ep off=x:=by simpa using h1
  obtain rfl:AV.own id ep' off=x':=by simpa using h2
  exact .own h h'
 | succ j=>simp at h1
def wkC (c:Cf) (n t:Nat) (h:Hd) (hops:List Hop):List AV:=[.sl (c.topo.ports.map cPts),.i .i64 c.pol.tenants,.sl (c.pol.peers.map cPr),.sl (c.pol.ways.map cWy),.sl (c.tables.map cTab),.i .i64 n,.i .i64 t,.u h.hi,.u h.lo,.i .i64 0,.i .i64 0,.i .i64 0,.row 40 0 0 (hops.map cHop).length]
theorem runRow2 (fin sw port:Int) (hops:List Hop) (R:Run) (h:(⟨fin,⟨sw,port⟩,hops⟩:Run)=R):AV.tup [.agg [.i .i64 fin,.i .i64 sw,.i .i64 port,.sl (((hops.map cHop).drop 0).take (hops.map cHop).length)],.i .i64 0] = .tup [.agg (cRun R),.i .i64 0]:=congrArg (fun x=>AV.tup [x,.i .i64 0]) (runRow fin sw port hops R h)
theorem d_Run (c:Cf) (h0:c.sound=0) (hL:LooksOk c) (s:Sp) (hs:s∈edges c.topo.ports) (h:Hd) (V:Nat) (hV:V<=255):PDoes Tryz.prog 72 [.agg (cCf c),.agg (cSp s),.agg (cHd h),.i .i64 V] (.tup [.agg (cRun (runOf c s h V 10800)),.i .i64 0]):=by
 have hc:=Cf.ok h0
 have hSt:=d_CStamp c s V
 have e0:stampE c s V=0:=by rw [stampE,if_pos h0,if_neg (by omega),if_pos hs]
 rw [stampC,e0,if_pos rfl] at hSt
 obtain ⟨n0,r0,a0,p0,hr0,hp0,hk0,rfl⟩:=edges_mem.1 hs
 have hat0:At c n0 0:=At.start hc (qC.1 hr0).1
 have hR:goF c 10800 n0 0 (h.set (stampOf c ⟨n0,a0⟩ V)) []=runOf c ⟨n0,a0⟩ h V 10800:=rfl
 generalize runOf c ⟨n0,a0⟩ h V 10800=R at hR
 have hS:=d_Set h (stampOf c ⟨n0,a0⟩ V)
 generalize h.set (stampOf c ⟨n0,a0⟩ V)=g0 at hR hS
 refine jb Tryz.func72 ?_
 refine jA ?_
 refine jc hSt ?_;refine jH ?_
 refine AW.condF rfl ?_;refine jB ?_
 refine AW.draws mixed_ok ?_
 refine wH rfl ?_
 refine jc hS ?_
 refine wH rfl ?_;refine jB ?_
 refine AW.nilRow 40 0 79 5 [(8,.own 8 0 0),(12,.own 33 0 0)] [(8,⟨0,some (.box 43 [.i .i64 0,.i .i64 0,.i .i64 0,.raw (.slice none 0 0)])⟩),(33,⟨0,some (.box 211 (wkC c n0 0 g0 []))⟩),(40,⟨0,some (.row 79 5 [])⟩)] ⟨.rn (Rn.ownIs rfl rfl rfl),.rn (Rn.ownIs rfl rfl rfl),trivial⟩ ⟨.old (.same rfl rfl rfl),.boxL rfl ⟨RnN.is rfl rfl,RnN.is rfl rfl,RnN.is rfl rfl,RnN.is rfl rfl,RnN.is rfl rfl,RnN.is rfl rfl,RnN.is rfl rfl,RnN.is rfl rfl,RnN.is rfl rfl,RnN.is rfl rfl,RnN.is rfl rfl,RnN.is rfl rfl,.nil rfl,trivial⟩ rfl,.old (.row rfl rfl),trivial⟩ ?_
 refine jA ?_
 refine AW.loopL (ι:=Nat × Nat × Nat × Hd × List Hop) (fun i=>[(8,.own 8 0 0),(12,.own 33 0 0),(13,.fn 120 [.own 33 0 0] []),(36,.i .i64 (i.1:Nat))]) (fun i=>[(8,⟨0,some (.box 43 [.i .i64 0,.i .i64 0,.i .i64 0,.raw (.slice none 0 0)])⟩),(33,⟨0,some (.box 211 (wkC c i.2.1 i.2.2.1 i.2.2.2.1 i.2.2.2.2))⟩),(40,⟨0,some (.row 79 5 (i.2.2.2.2.map cHop))⟩)]) (fun i=>(i.1<=10800/\i.2.2.2.2.length=i.1)/\At c i.2.1 i.2.2.1/\goF c (10800 - i.1) i.2.1 i.2.2.1 i.2.2.2.1 i.2.2.2.2=R) (fun i=>10800 - i.1) (0,n0,0,g0,[]) ⟨⟨qP _,rfl⟩,hat0,hR⟩ ⟨Rn.ownIs rfl rfl rfl,Rn.ownIs rfl rfl rfl,Rn.fnOwn rfl rfl rfl,Rn.is rfl rfl,trivial⟩ ⟨.same rfl rfl rfl,.boxL rfl jQ rfl,.row rfl rfl,trivial⟩ fun i hi=>?_
 obtain ⟨k,n,t,h,hops⟩:=i
 obtain ⟨⟨hk,hlen⟩,hat,hf⟩:=hi
 simp only at hk hlen hat hf
 clear hR hS hSt hat0
 refine jA ?_
 refine AW.cond rfl (fun h1=>?_) (fun h1=>?_)
 rotate_left
 ·have h1:=of_decide_eq_false h1
  have h1:¬((k:Nat):Int)<10800:=h1
  obtain rfl:k=10800:=by omega
  rw [Nat.sub_self,goF] at hf
  refine jA ?_
  refine jE ?_;refine jA ?_
  refine jR ?_
  exact runRow2 4 0 0 hops R hf
 have h1:=of_decide_eq_true h1
 have h1:((k:Nat):Int)<10800:=h1
 have hk':k<10800:=by omega
 have hL1:hops.length<=100000000:=by omega
 obtain ⟨f,hfu⟩:∃f,10800 - k=f+1:=⟨10800 - k - 1,by omega⟩
 have hlt:∀x:Hop,(hops++[x]).length=k+1:=fun x=>by rw [qT,uC,hlen]
 have hnx:10800 - (k+1)=f:=by omega
 rw [hfu,goF] at hf
 have hw:∀w',stepW c ⟨n,t,h,0,0,0,hops⟩=w'->∀g,decide (w'.fin=0)=g->∀q,MDoes Tryz.prog 120 [.own 0 0 0] (gl q [0] (wkB c ⟨n,t,h,0,0,0,hops⟩)) (.b g) (gl q [0] (wkB c w')):=fun w' hw g hg q=>m_step c hc hL n t hat h hops hL1 w' hw g hg q
 simp only [stepW,vU] at hw
 cases hq:fnd (tabOf c n t) h with
 | none =>
  rw [hq] at hf hw
  dsimp only at hf hw
  refine jA ?_
  refine RG.ownN [(33,0),(40,1)] [(0,33),(1,40)] (fun q=>hw _ rfl false rfl q) rfl rfl rfl rfl rfl rfl rfl rfl rfl rfl ?_
  refine jH ?_;refine AW.condT rfl ?_;refine jA ?_
  refine jR ?_
  exact runRow2 3 0 0 _ R hf
 | some r =>
  obtain ⟨hr1,hr2,_⟩:=fnd_lt hq
  rw [hq] at hf hw
  dsimp only at hf hw
  generalize (tabOf c n t).getD r Rl.zero=x at hw hf hr2
  by_cases k4:x.act.kind=4
  ·rw [if_pos k4] at hf hw
   have hg:=Rl.does_goto (Rl.sound_does (hat.rule hc hr2).1).2.2 k4
   refine jA ?_
   refine RG.ownN [(33,0),(40,1)] [(0,33),(1,40)] (fun q=>hw _ rfl true rfl q) rfl rfl rfl rfl rfl rfl rfl rfl rfl rfl ?_
   refine jH ?_;refine AW.condF rfl ?_;refine jA ?_
   exact ⟨(k+1,n,x.act.table.toNat,h.set x.act.set,hops++[⟨n,t,r,h⟩]),⟨⟨⟨by show k+1<=10800;omega,hlt _⟩,hat.goto hc hr2 k4,by show goF c (10800 - (k+1)) _ _ _ _=R;rw [hnx];exact hf⟩,by show 10800 - (k+1)<10800 - k;omega⟩,⟨Rn.ownIs rfl rfl rfl,Rn.ownIs rfl rfl rfl,Rn.fnOwn rfl rfl rfl,Rn.is (i64_next hk' (by decide)) rfl,trivial⟩,⟨.same rfl rfl rfl,.boxL rfl ⟨Rn.is rfl rfl,Rn.is rfl rfl,Rn.is rfl rfl,Rn.is rfl rfl,Rn.is rfl rfl,Rn.is rfl rfl,Rn.is (congrArg (AV.i .i64) (show x.act.table=(x.act.table.toNat:Nat) by omega)) rfl,Rn.is rfl rfl,Rn.is rfl rfl,Rn.is rfl rfl,Rn.is rfl rfl,Rn.is rfl rfl,Rn.rowIs rfl rfl rfl,trivial⟩ rfl,.row rfl rfl,trivial⟩⟩
  rw [if_neg k4] at hf hw
  by_cases k3:x.act.kind=3
  ·rw [if_pos k3] at hf hw
   obtain ⟨hl1,hl2,hl3⟩:=hat.link hc hr2 k3
   have hat2:=hat.forward hc hr2 k3
   refine jA ?_
   refine RG.ownN [(33,0),(40,1)] [(0,33),(1,40)] (fun q=>hw _ rfl true rfl q) rfl rfl rfl rfl rfl rfl rfl rfl rfl rfl ?_
   refine jH ?_;refine AW.condF rfl ?_;refine jA ?_
   exact ⟨(k+1,(portAt c.topo.ports ⟨n,x.act.port⟩).peer.toNat,0,h.set x.act.set,hops++[⟨n,t,r,h⟩]),⟨⟨⟨by show k+1<=10800;omega,hlt _⟩,hat2,by show goF c (10800 - (k+1)) _ _ _ _=R;rw [hnx];exact hf⟩,by show 10800 - (k+1)<10800 - k;omega⟩,⟨Rn.ownIs rfl rfl rfl,Rn.ownIs rfl rfl rfl,Rn.fnOwn rfl rfl rfl,Rn.is (i64_next hk' (by decide)) rfl,trivial⟩,⟨.same rfl rfl rfl,.boxL rfl ⟨Rn.is rfl rfl,Rn.is rfl rfl,Rn.is rfl rfl,Rn.is rfl rfl,Rn.is rfl rfl,Rn.is (congrArg (AV.i .i64) (show (portAt c.topo.ports ⟨n,x.act.port⟩).peer=((portAt c.topo.ports ⟨n,x.act.port⟩).peer.toNat:Nat) by omega)) rfl,Rn.is rfl rfl,Rn.is rfl rfl,Rn.is rfl rfl,Rn.is rfl rfl,Rn.is rfl rfl,Rn.is rfl rfl,Rn.rowIs rfl rfl rfl,trivial⟩ rfl,.row rfl rfl,trivial⟩⟩
  rw [if_neg k3] at hf hw
  by_cases k2:x.act.kind=2
  ·rw [if_pos k2] at hf hw
   refine jA ?_
   refine RG.ownN [(33,0),(40,1)] [(0,33),(1,40)] (fun q=>hw _ rfl false rfl q) rfl rfl rfl rfl rfl rfl rfl rfl rfl rfl ?_
   refine jH ?_;refine AW.condT rfl ?_;refine jA ?_
   refine jR ?_
   exact runRow2 2 n x.act.port _ R hf
  ·rw [if_neg k2] at hf hw
   refine jA ?_
   refine RG.ownN [(33,0),(40,1)] [(0,33),(1,40)] (fun q=>hw _ rfl false rfl q) rfl rfl rfl rfl rfl rfl rfl rfl rfl rfl ?_
   refine jH ?_;refine AW.condT rfl ?_;refine jA ?_
   refine jR ?_
   exact runRow2 1 0 0 _ R hf
theorem d_Clone_Int (l:List Int) (hl:l.length<=1000000):PDoes Tryz.prog 38 [.sl (l.map cI)] (.sl (l.map cI)):=by
 cases l with
 | nil =>
  refine PDoes.raw0 fun A c=>?_
  refine jb Tryz.func38 ?_
  cases A with
  | none =>
   refine jA ?_
   refine AW.condT rfl ?_;refine jA ?_
   refine jR ?_
   rfl
  | some A =>
   refine jA ?_
   refine AW.condF rfl ?_;refine jA ?_
   refine RG.opS rfl (op_build0 (id:=5) rfl (tk rfl) rfl (tk rfl)) rfl ?_;refine jH ?_
   refine RG.opS rfl (op_append0 (id:=5) (els:=[]) rfl rfl rfl rfl (tk rfl) rfl (tk rfl) rfl (.inl ⟨_,rfl,rfl⟩) rfl (by decide) (by decide)) rfl ?_
   refine jH ?_
   refine jR ?_
   rfl
 | cons x l =>
  refine jb Tryz.func38 ?_
  refine jA ?_
  refine AW.condF rfl ?_;refine jA ?_
  refine RG.opS rfl (op_build0 (id:=5) rfl (tk rfl) rfl (tk rfl)) rfl ?_;refine jH ?_
  refine RG.opS rfl (op_appL cI ([]:List Int) (x::l) (by simp at hl ⊢;omega) (fun _=>rfl) rfl rfl rfl rfl (tk rfl) rfl (tk rfl) rfl rfl ⟨_,rfl,rfl⟩ rfl) rfl ?_;refine jH ?_
  refine jR ?_
  exact rowAll rfl
theorem d_Clone_Cb (l:List Cb) (hl:l.length<=1000000):PDoes Tryz.prog 40 [.sl (l.map cCb)] (.sl (l.map cCb)):=by
 cases l with
 | nil =>
  refine PDoes.raw0 fun A c=>?_
  refine jb Tryz.func40 ?_
  cases A with
  | none =>
   refine jA ?_
   refine AW.condT rfl ?_;refine jA ?_
   refine jR ?_
   rfl
  | some A =>
   refine jA ?_
   refine AW.condF rfl ?_;refine jA ?_
   refine RG.opS rfl (op_build0 (id:=5) rfl (tk rfl) rfl (tk rfl)) rfl ?_;refine jH ?_
   refine RG.opS rfl (op_append0 (id:=5) (els:=[]) rfl rfl rfl rfl (tk rfl) rfl (tk rfl) rfl (.inl ⟨_,rfl,rfl⟩) rfl (by decide) (by decide)) rfl ?_
   refine jH ?_
   refine jR ?_
   rfl
 | cons x l =>
  refine jb Tryz.func40 ?_
  refine jA ?_
  refine AW.condF rfl ?_;refine jA ?_
  refine RG.opS rfl (op_build0 (id:=5) rfl (tk rfl) rfl (tk rfl)) rfl ?_;refine jH ?_
  refine RG.opS rfl (op_appL cCb ([]:List Cb) (x::l) (by simp at hl ⊢;omega) (fun _=>rfl) rfl rfl rfl rfl (tk rfl) rfl (tk rfl) rfl rfl ⟨_,rfl,rfl⟩ rfl) rfl ?_;refine jH ?_
  refine jR ?_
  exact rowAll rfl
theorem op_capN {P:Program} {N:Nat} {o:Oper} {s:St} {c:Call} {x:Operand} {t e:Nat} {ti:TI} (ho:o.op = .call c) (hc:c.callee = .builtin .cap) (ha:c.args = #[x]) (hat:c.argTypes = #[t]) (ht:TiOk P t ti) (hk:ti.k = .slice e) (hx:s.ev x = .raw (.slice none 0 0)):OpLoc P N o s ⟨.i .i64 ((0:Nat):Int),[],[]⟩:=by
 refine oploc_val [] _ fun s' W F μ a h1 h2 hs=>⟨.int .i64 ((0:Nat):Int),?_,.pure (.i _ _)⟩
 have ex:=hs.ev x
 rw [h1 x (by rw [ho];simp [Op.operands,Call.operands,hc,ha]),hx] at ex
 simp only [execOp,ho,resolve,hc,ha,hat,List.map_toArray,vB,List.map_nil,Sem.run_bind,Sem.run_pure,Result.andThen_ok,invoke,builtin,Builtin.cap_,ex.raw',uG,List.getElem?_cons_zero,run_underlying (ht.slice hk),goInt]
theorem m_Grow (n:Nat) (h0:0<n) (hn:n<=1000000) (q:Nat->Option (Nat × Nat)):MDoes Tryz.prog 246 [.raw (.slice none 0 0),.i .i64 (n:Nat)] (gl q [] []) (.row 2 0 0 0) (gl q [] [(2,⟨0,some (.row 3 1 [])⟩)]):=by
 refine MDoes.of_body Tryz.func246 rfl (by kernel_rfl) rfl rfl ?_
 refine jA ?_
 refine AW.cond rfl (fun h=>?_) (fun h=>?_)
 ·exact absurd (of_decide_eq_true h) (by simp only [qG];omega)
 have hw:IntKind.i64.wrap ((n:Int) - IntKind.i64.wrap (((0:Nat):Int) - ((0:Nat):Int)))=(n:Nat):=by
  rw [IntKind.wrap_i64,IntKind.wrap_i64]
  omega
 refine jA ?_
 refine RG.opS rfl (op_capN rfl rfl rfl rfl (tk rfl) rfl rfl) rfl ?_
 refine RG.runO ty_ok 0 [(14,.i .i64 (n:Nat))] 400 rfl jD ?_
 refine jA ?_
 refine AW.cond rfl (fun h=>?_) (fun h=>?_)
 rotate_left
 ·exact absurd (show Int.ofNat 0<(n:Int) by simp only [qG];omega) (of_decide_eq_false h)
 refine jA ?_
 refine RG.opS rfl (op_capN rfl rfl rfl rfl (tk rfl) rfl rfl) rfl ?_
 refine RG.opS rfl (op_sliceN rfl (tk rfl) rfl (tk rfl) rfl .no (.at_ rfl)) rfl ?_
 refine wH rfl ?_
 refine RG.opS rfl (op_appendMake (id:=2) n h0 (by omega) rfl rfl rfl rfl (tk rfl) rfl (tk rfl) rfl (tk rfl) (by decide) (by decide) rfl rfl) rfl ?_
 refine wH rfl ?_
 refine RG.opS rfl (op_sliceR (h:=0) rfl (tk rfl) rfl (tk rfl) rfl rfl .no (.at_ rfl) (qP _)) rfl ?_
 refine wH rfl ?_;refine jB ?_
 refine AW.only [(0,.row 2 0 0 0)] [(2,⟨0,some (.row 3 1 [])⟩)] ⟨Rn.rowTIs rfl rfl rfl (qJ _),trivial⟩ ⟨.rowT (n:=0) rfl rfl,trivial⟩ ?_
 refine jA ?_
 exact AW.ret (retM1 rfl (Rm.rowIs rfl rfl rfl rfl) ⟨.row rfl rfl,trivial⟩)
def cL (l:List Int):List AV:=[.sl (l.map cI)]
theorem flat_take {α:Type} (xs:List (List α)) (k:Nat) (h:k<xs.length):(xs.take (k+1)).flatten=(xs.take k).flatten++xs[k]:=by
 rw [List.take_add_one,qA h,List.flatten_append]
 simp only [Option.toList,uJ,List.flatten_nil,vW]
theorem flat_le {α:Type} (xs:List (List α)) (k:Nat):(xs.take k).flatten.length<=xs.flatten.length:=by
 have e:=congrArg List.length (congrArg List.flatten (uU k xs))
 rw [List.flatten_append,qT] at e
 omega
theorem d_Concat (xs:List (List Int)) (h0:0<xs.flatten.length) (hn:xs.flatten.length<=1000000) (hx:xs.length<=1000000):PDoes Tryz.prog 225 [.sl (xs.map cL)] (.sl (xs.flatten.map cI)):=by
 refine jb Tryz.func225 ?_
 have hm:xs.length<=9223372036854775807:=by omega
 refine jA ?_
 refine AW.loopL (ι:=Nat × Nat) (fun i=>[(0,.sl (xs.map cL)),(3,.i .i64 (i.2:Nat)),(9,.sl (xs.map cL)),(10,.i .i64 (xs.map cL).length),(11,.i .i64 (i.1:Nat))]) (fun _=>[]) (fun i=>i.1<=xs.length/\i.2=(xs.take i.1).flatten.length) (fun i=>xs.length - i.1) (0,0) ⟨qP _,rfl⟩ jW trivial fun i hi=>?_
 obtain ⟨k,n⟩:=i
 obtain ⟨hk,hf⟩:=hi
 simp only at hk hf
 refine jA ?_
 refine AW.cond rfl (fun h0'=>?_) (fun h0'=>?_)
 ·have h:k<xs.length:=by simpa using h0'
  have h2:n+xs[k].length=(xs.take (k+1)).flatten.length:=by rw [flat_take xs k h,qT,hf]
  have h3:=flat_le xs (k+1)
  have hw:IntKind.i64.wrap ((n:Int)+((xs[k].map cI).length:Nat))=((n+xs[k].length:Nat):Int):=by
   rw [IntKind.wrap_i64,qH]
   omega
  refine jB ?_
  refine AW.text ?_
  refine RG.opS rfl (op_index rfl (tk rfl) rfl (tk rfl) rfl rfl (show (xs.map cL)[k]?=some (cL xs[k]) by rw [qE,qA (by assumption)];rfl) rfl) rfl ?_
  refine wH rfl ?_;refine jB ?_
  refine AW.text ?_
  refine RG.runO ty_ok 0 [(18,.i .i64 (n+xs[k].length:Nat))] 400 rfl jD ?_
  refine jA ?_
  refine AW.cond rfl (fun h4=>?_) (fun h4=>?_)
  ·exact absurd (of_decide_eq_true h4) (by simp only [qG];omega)
  refine jA ?_
  exact ⟨(k+1,n+xs[k].length),⟨⟨h,h2⟩,by show xs.length - (k+1)<xs.length - k;omega⟩,⟨Rn.is rfl rfl,Rn.is rfl rfl,Rn.is rfl rfl,Rn.is rfl rfl,Rn.is (i64_next h hm) rfl,trivial⟩,trivial⟩
 have h:¬k<xs.length:=by simpa using h0'
 obtain rfl:k=xs.length:=by omega
 rw [uL] at hf
 subst hf
 refine jA ?_
 refine jE ?_;refine jA ?_
 refine RG.ownNV [] [(2,6)] (fun q=>m_Grow _ h0 hn q) rfl rfl rfl rfl rfl rfl rfl rfl rfl rfl ?_
 refine jH ?_
 refine AW.loopL (ι:=Nat × List Int) (fun i=>[(6,.row 6 0 0 (i.2.map cI).length),(25,.sl (xs.map cL)),(26,.i .i64 (xs.map cL).length),(27,.i .i64 (i.1:Nat))]) (fun i=>[(6,⟨0,some (.row 3 1 (i.2.map cI))⟩)]) (fun i=>i.1<=xs.length/\i.2=(xs.take i.1).flatten) (fun i=>xs.length - i.1) (0,[]) ⟨qP _,rfl⟩ jW jW fun i hi=>?_
 obtain ⟨k,out⟩:=i
 obtain ⟨hk,hf⟩:=hi
 simp only at hk hf
 refine jA ?_
 refine AW.cond rfl (fun h0'=>?_) (fun h0'=>?_)
 ·have h:k<xs.length:=by simpa using h0'
  have h2:out++xs[k]=(xs.take (k+1)).flatten:=by rw [flat_take xs k h,hf]
  have h3:=flat_le xs (k+1)
  rw [<- h2,qT] at h3
  refine jA ?_
  refine RG.opS rfl (op_index rfl (tk rfl) rfl (tk rfl) rfl rfl (show (xs.map cL)[k]?=some (cL xs[k]) by rw [qE,qA (by assumption)];rfl) rfl) rfl ?_
  refine jH ?_
  refine RG.opS rfl (op_appL cI out xs[k] (by omega) (fun _=>rfl) rfl rfl rfl rfl (tk rfl) rfl (tk rfl) rfl rfl ⟨_,rfl,rfl⟩ rfl) rfl ?_;refine jH ?_
  exact ⟨(k+1,_),⟨⟨h,h2⟩,by show xs.length - (k+1)<xs.length - k;omega⟩,⟨Rn.rowIs rfl rfl rfl,Rn.is rfl rfl,Rn.is rfl rfl,Rn.is (i64_next h hm) rfl,trivial⟩,jW⟩
 ·have h:¬k<xs.length:=by simpa using h0'
  obtain rfl:k=xs.length:=by omega
  rw [uL] at hf
  subst hf
  refine jA ?_
  refine jE ?_;refine jA ?_
  refine jR ?_
  exact rowAll rfl
theorem d_Rising (l:List Int) (hs:l.Pairwise (· < ·)):PDoes Tryz.prog 238 [.sl (l.map cI)] (.b true):=by
 refine jb Tryz.func238 ?_
 rw [List.pairwise_iff_getElem] at hs
 refine jB ?_
 refine AW.lens 0 rfl fun hm=>?_
 rw [qH] at hm
 refine jA ?_
 refine AW.loopL (ι:=Nat) (fun k=>[(0,.sl (l.map cI)),(3,.i .i64 ((k+1:Nat):Int))]) (fun _=>[]) (fun k=>True) (fun k=>l.length - k) 0 trivial jW trivial fun k hk=>?_
 refine jA ?_
 refine AW.cond rfl (fun h0=>?_) (fun h0=>?_)
 ·have h:k+1<l.length:=by
   have:=of_decide_eq_true h0
   rw [qH] at this
   omega
  have hw:IntKind.i64.wrap (((k+1:Nat):Int) - Int.ofNat 1)=(k:Nat):=by
   rw [IntKind.wrap_i64]
   simp only [qG]
   omega
  have hlt:=hs k (k+1) (by omega) h (by omega)
  refine jB ?_
  refine AW.draws mixed_ok ?_
  refine wH rfl ?_
  refine RG.opS rfl (op_index rfl (tk rfl) rfl (tk rfl) rfl rfl (show (l.map cI)[k+1]?=some (cI l[k+1]) by rw [qE,qA (by assumption)];rfl) rfl) rfl ?_
  refine RG.runO ty_ok 0 [(16,.i .i64 (k:Nat))] 400 rfl jD ?_
  refine RG.opS rfl (op_index rfl (tk rfl) rfl (tk rfl) rfl rfl (show (l.map cI)[k]?=some (cI (l[k]'(by omega))) by rw [qE,qA (by omega)];rfl) rfl) rfl ?_
  refine wH rfl ?_;refine jB ?_
  refine AW.cond rfl (fun h1=>?_) (fun h1=>?_)
  ·exact absurd (of_decide_eq_true h1) (by omega)
  refine jA ?_
  exact ⟨k+1,⟨trivial,by omega⟩,⟨Rn.is rfl rfl,Rn.is (i64_next h hm) rfl,trivial⟩,trivial⟩
 ·refine jA ?_
  refine jE ?_;refine jA ?_
  refine jR ?_
  rfl
theorem d_MakeI (l:List Int) (hs:l.Pairwise (· < ·)) (hl:l.length<=1000000):PDoes Tryz.prog 204 [.sl (l.map cI)] (.sl (l.map cI)):=by
 refine jb Tryz.func204 ?_
 refine jA ?_
 refine jm (d_Clone_Int l hl) ?_;refine jH ?_
 refine jc (d_Rising l hs) ?_;refine jH ?_
 refine AW.condF rfl ?_;refine jA ?_
 refine jm (d_Clip_Int l) ?_;refine jH ?_
 refine jR ?_
 rfl
theorem d_Join (a b:List Int) (hs:(a++b).Pairwise (· < ·)) (hb:0<b.length) (hl:a.length+b.length<=1000000):PDoes Tryz.prog 186 [.sl (a.map cI),.sl (b.map cI)] (.sl ((a++b).map cI)):=by
 have hC:=d_Concat [a,b] (by simp;omega) (by simp;omega) (by show 2<=1000000;decide)
 rw [show [a,b].flatten=a++b by simp] at hC
 refine jb Tryz.func186 ?_
 refine jA ?_
 refine jm hC ?_;refine jH ?_
 refine RG.callMS rfl rfl rfl rfl rfl rfl (d_MakeI (a++b) hs (by rw [qT];omega)) rfl ?_;refine jH ?_
 refine jR ?_
 rfl
theorem d_pSoundFn (x:Cb):PDoes Tryz.prog 237 [.agg (cCb x)] (.b (!x.sound)):=by
 refine jb Tryz.func237 ?_
 refine jA ?_
 refine RG.callS rfl rfl rfl rfl rfl (d_Sound x _ rfl) rfl rfl ?_;refine jH ?_
 refine jR ?_
 rfl
theorem any_not (p:List Cb):(p.any fun x=>!x.sound) = !p.all Cb.sound:=by
 rw [Bool.eq_iff_iff]
 simp
theorem d_PSound (p:List Cb) (q:Bool) (hq:pileSound p=q):PDoes Tryz.prog 203 [.sl (p.map cCb)] (.b q):=by
 subst hq
 refine jb Tryz.func203 ?_
 have hl:(p.map cCb).length=p.length:=qH ..
 refine jB ?_;refine wF ?_;refine wH rfl ?_;refine jB ?_
 refine AW.text ?_
 by_cases h:(((p.map cCb).length:Nat):Int)<=200
 ·refine RG.runO ty_ok 0 [(5,.b true)] 400 rfl jD ?_
  refine RG.callS rfl rfl rfl rfl rfl (d_ContainsFunc_Cb _ (fun x=>!x.sound) p (fun x _=>d_pSoundFn x) _ (any_not p)) rfl rfl ?_;refine jH ?_
  refine jR ?_
  exact congrArg AV.b (by rw [pileSound,qD (by omega),Bool.not_not];rfl)
 ·refine RG.runO ty_ok 0 [(5,.b false)] 400 rfl jD ?_
  refine jH ?_
  refine jR ?_
  exact congrArg AV.b (by rw [pileSound,qF (by omega)];rfl)
theorem d_pair (p q:List Cb) (b:Bool) (hb:(pileSound p && pileSound q)=b):PDoes Tryz.prog 207 [.sl (p.map cCb),.sl (q.map cCb)] (.i .i64 (bif b then 0 else 2)):=by
 subst hb
 refine jb Tryz.func207 ?_
 refine jA ?_
 cases h1:pileSound p
 ·refine RG.callS rfl rfl rfl rfl rfl (d_PSound p _ h1) rfl rfl ?_;refine jH ?_
  refine AW.condT rfl ?_;refine jA ?_
  refine jR ?_
  rfl
 refine RG.callS rfl rfl rfl rfl rfl (d_PSound p _ h1) rfl rfl ?_;refine jH ?_
 cases h2:pileSound q
 ·refine RG.callS rfl rfl rfl rfl rfl (d_PSound q _ h2) rfl rfl ?_;refine jH ?_
  refine AW.condT rfl ?_;refine jA ?_
  refine jR ?_
  rfl
 refine RG.callS rfl rfl rfl rfl rfl (d_PSound q _ h2) rfl rfl ?_;refine jH ?_
 refine AW.condF rfl ?_;refine jA ?_
 refine jR ?_
 rfl
theorem d_spare (p:List Cb) (n:Nat) (x:Cb) (hx:p[n]?=some x) (v:Bool) (hv:spareF x n 0 p=v):PDoes Tryz.prog 250 [.sl (p.map cCb),.i .i64 (n:Nat)] (.b v):=by
 subst hv
 refine jb Tryz.func250 ?_
 have hxx:(p.map cCb)[n]?=some (cCb x):=by rw [qE,hx];rfl
 refine jA ?_
 refine AW.lens 7 rfl fun hm=>?_
 rw [qH] at hm
 refine AW.loopL (ι:=Nat) (fun k=>[(0,.sl (p.map cCb)),(1,.i .i64 (n:Nat)),(7,.sl (p.map cCb)),(8,.i .i64 (p.map cCb).length),(9,.i .i64 (k:Nat))]) (fun _=>[]) (fun k=>k<=p.length/\spareF x n k (p.drop k)=spareF x n 0 p) (fun k=>p.length - k) 0 ⟨qP _,rfl⟩ jW trivial fun k hk=>?_
 obtain ⟨hk,hf⟩:=hk
 refine jA ?_
 refine AW.cond rfl (fun h0=>?_) (fun h0=>?_)
 ·have h:k<p.length:=by simpa using h0
  rw [qS h,spareF] at hf
  have hkx:(p.map cCb)[k]?=some (cCb p[k]):=by rw [qE,qA h];rfl
  generalize p[k]=c at hf hkx
  (repeat first|apply wA|apply wB|apply wC|apply wE|(apply zM;·kernel_rfl)|apply wF|apply wG)
  refine wH rfl ?_
  refine jx hkx ?_
  refine wH rfl ?_;refine jB ?_
  refine AW.draws mixed_ok ?_
  by_cases h1:((k:Nat):Int)=(n:Nat)
  ·have e : (decide (k ≠ n) && x.within c && (decide (x ≠ c) || decide (k < n))) = false := by
    rw [qF (show ¬k≠n by omega)];rfl
   rw [e] at hf
   refine RG.runO ty_ok 0 [(16,.b false)] 400 rfl jD ?_
   refine jB ?_;refine AW.condF rfl ?_;refine jA ?_
   exact ⟨k+1,⟨⟨h,hf⟩,by omega⟩,jV,trivial⟩
  rw [qD (show k≠n by omega),uF] at hf
  refine RG.runO ty_ok 0 [(16,.b true)] 400 rfl jD ?_
  refine jx hxx ?_
  refine wH rfl ?_
  cases h2:x.within c
  ·rw [h2] at hf
   refine RG.callS rfl rfl rfl rfl rfl (d_Within x c _ h2) rfl rfl ?_;refine jH ?_
   refine AW.condF rfl ?_;refine jA ?_
   exact ⟨k+1,⟨⟨h,hf⟩,by omega⟩,jV,trivial⟩
  rw [h2,uF] at hf
  refine RG.callS rfl rfl rfl rfl rfl (d_Within x c _ h2) rfl rfl ?_
  refine wH rfl ?_
  refine jx hxx ?_
  refine wH rfl ?_
  by_cases h3:x=c
  ·rw [qF (show ¬x≠c from fun h=>h h3),Bool.false_or] at hf
   refine RG.opS rfl (op_neG rfl ty_ok (by kernel_rfl) (by kernel_rfl) rfl rfl (eq_Cb x c) (congrArg Bool.not (qD h3))) rfl ?_
   refine wH rfl ?_;refine jB ?_
   refine AW.cond rfl (fun h4=>?_) (fun h4=>?_)
   ·have h4:k<n:=Int.ofNat_lt.1 (of_decide_eq_true h4)
    rw [qD h4] at hf
    refine jA ?_
    refine jR ?_
    exact congrArg AV.b hf
   ·have h4:¬k<n:=fun h5=>of_decide_eq_false h4 (Int.ofNat_lt.2 h5)
    rw [qF h4] at hf
    refine jA ?_
    exact ⟨k+1,⟨⟨h,hf⟩,by omega⟩,jV,trivial⟩
  ·rw [qD (show x≠c from h3),Bool.true_or] at hf
   refine RG.opS rfl (op_neG rfl ty_ok (by kernel_rfl) (by kernel_rfl) rfl rfl (eq_Cb x c) (congrArg Bool.not (qF h3))) rfl ?_
   refine wH rfl ?_;refine jB ?_
   refine AW.condT rfl ?_;refine jA ?_
   refine jR ?_
   exact congrArg AV.b hf
 ·have h:¬k<p.length:=by simpa using h0
  obtain rfl:k=p.length:=by omega
  rw [vE,spareF] at hf
  refine jA ?_
  refine jE ?_;refine jA ?_
  refine jx hxx ?_
  refine wH rfl ?_
  refine RG.callS rfl rfl rfl rfl rfl (d_Sound x _ rfl) rfl rfl ?_;refine jH ?_
  refine jR ?_
  exact congrArg AV.b hf
theorem d_LeanP (p:List Cb) (hp:p.length<=1000000):PDoes Tryz.prog 240 [.sl (p.map cCb)] (.sl ((leanP p).map cCb)):=by
 refine jb Tryz.func240 ?_
 have hm:p.length<=9223372036854775807:=by omega
 have hle:=leanP_len p
 refine jB ?_;refine wF ?_;refine wH rfl ?_;refine jB ?_
 refine AW.text ?_
 refine RG.opS rfl (op_nilRow 3 36 4 rfl) rfl ?_
 refine jH ?_
 refine AW.loopL (ι:=Nat × List Cb) (fun i=>[(0,.sl (p.map cCb)),(3,.row 3 0 0 (i.2.map cCb).length),(6,.sl (p.map cCb)),(7,.i .i64 (p.map cCb).length),(8,.i .i64 (i.1:Nat))]) (fun i=>[(3,⟨0,some (.row 36 4 (i.2.map cCb))⟩)]) (fun i=>i.1<=p.length/\accI (leanI p) i.1 (p.drop i.1) i.2=leanP p) (fun i=>p.length - i.1) (0,[]) ⟨qP _,rfl⟩ jW jW fun i hi=>?_
 obtain ⟨k,out⟩:=i
 obtain ⟨hk,hf⟩:=hi
 simp only at hk hf
 refine jA ?_
 refine AW.cond rfl (fun h0=>?_) (fun h0=>?_)
 ·have h:k<p.length:=by simpa using h0
  have hol:out.length<=100000000:=by
   have h1:=accI_ge (f:=leanI p) k (p.drop k) out
   rw [hf] at h1
   omega
  rw [qS h,accI,leanI] at hf
  have hkp:p[k]?=some p[k]:=qA h
  have hkx:(p.map cCb)[k]?=some (cCb p[k]):=by rw [qE,hkp];rfl
  generalize p[k]=c at hf hkx hkp
  refine jA ?_
  refine jx hkx ?_
  refine jH ?_
  cases h1:spareF c k 0 p
  ·rw [h1,cond_false] at hf
   refine RG.callS rfl rfl rfl rfl rfl (d_spare p k c hkp _ h1) rfl rfl ?_;refine jH ?_
   refine AW.condT rfl ?_;refine jB ?_
   refine AW.text ?_
   refine wH rfl ?_
   refine RG.opS rfl (op_app1 cCb out c hol rfl rfl rfl rfl (tk rfl) rfl (tk rfl) rfl rfl ⟨_,rfl,rfl⟩ rfl rfl) rfl ?_;refine jH ?_
   exact ⟨(k+1,_),⟨⟨h,hf⟩,by show p.length - (k+1)<p.length - k;omega⟩,jV,jW⟩
  ·rw [h1,cond_true,vW] at hf
   refine RG.callS rfl rfl rfl rfl rfl (d_spare p k c hkp _ h1) rfl rfl ?_;refine jH ?_
   refine AW.condF rfl ?_;refine jA ?_
   exact ⟨(k+1,out),⟨⟨h,hf⟩,by show p.length - (k+1)<p.length - k;omega⟩,jV,jW⟩
 ·have h:¬k<p.length:=by simpa using h0
  obtain rfl:k=p.length:=by omega
  rw [vE,accI] at hf
  refine jA ?_
  refine jE ?_;refine jA ?_
  refine jR ?_
  exact rowAll (congrArg (List.map cCb) hf)
def pileR (r:List Cb × Int):AV:=.tup [.sl (r.1.map cCb),.i .i64 r.2]
theorem d_leanE (p:List Cb) (hp:p.length<=1000000):PDoes Tryz.prog 208 [.sl (p.map cCb)] (pileR (leanE p)):=by
 refine jb Tryz.func208 ?_
 have hl:((leanP p).map cCb).length=(leanP p).length:=qH ..
 refine jA ?_
 refine jm (d_LeanP p hp) ?_;refine jH ?_
 refine AW.cond rfl (fun h=>?_) (fun h=>?_)
 ·have h:(((leanP p).map cCb).length:Int)>200:=of_decide_eq_true h
  have e:leanE p=([],10):=by rw [leanE,qD (by omega)];rfl
  refine jA ?_
  refine jR ?_
  rw [e]
  rfl
 ·have h:¬(((leanP p).map cCb).length:Int)>200:=of_decide_eq_false h
  have e:leanE p=(leanP p,0):=by rw [leanE,qF (by omega)];rfl
  refine jA ?_
  refine jm (d_Clip_Cb (leanP p)) ?_;refine jH ?_
  refine jR ?_
  rw [e]
  rfl
theorem pileSound_len {p:List Cb} (h:pileSound p=true):p.length<=200:=by
 rw [pileSound,qN,vK] at h
 exact h.1
theorem meetRow_len (q:List Cb) (n:Nat) (x:Cb):(meetRow q n x).length<=q.length:=by
 have:=accI_len (f:=meetI x) (m:=1) (fun n y=>by rw [meetI];cases x.meets y <;> simp) 0 q []
 rw [meetRow]
 simp at this
 omega
theorem d_PMeet (p q:List Cb):PDoes Tryz.prog 184 [.sl (p.map cCb),.sl (q.map cCb)] (pileR (pileMeet p q)):=by
 refine jb Tryz.func184 ?_
 refine jA ?_
 cases hs:(pileSound p && pileSound q)
 ·refine RG.callS rfl rfl rfl rfl rfl (d_pair p q _ hs) rfl rfl ?_;refine jH ?_
  refine AW.condT rfl ?_;refine jA ?_
  refine jR ?_
  rw [pileMeet,hs]
  rfl
 refine RG.callS rfl rfl rfl rfl rfl (d_pair p q _ hs) rfl rfl ?_;refine jH ?_
 have e0:pileMeet p q=leanE (meetAll p q):=by rw [pileMeet,hs];rfl
 rw [qN] at hs
 have hp:=pileSound_len hs.1
 have hq:=pileSound_len hs.2
 have hal:(meetAll p q).length<=40000:=by
  have:=accI_len (f:=meetRow q) (m:=q.length) (fun n x=>meetRow_len q n x) 0 p []
  rw [meetAll]
  have h2:q.length*p.length<=200*200:=Nat.mul_le_mul hq hp
  simp at this
  omega
 have hmp:p.length<=9223372036854775807:=by omega
 have hmq:q.length<=9223372036854775807:=by omega
 refine AW.condF rfl ?_;refine jB ?_
 refine AW.text ?_
 refine RG.opS rfl (op_nilRow 7 36 4 rfl) rfl ?_
 refine jH ?_
 refine AW.loopL (ι:=Nat × List Cb) (fun i=>[(1,.sl (q.map cCb)),(7,.row 7 0 0 (i.2.map cCb).length),(20,.sl (p.map cCb)),(21,.i .i64 (p.map cCb).length),(22,.i .i64 (i.1:Nat))]) (fun i=>[(7,⟨0,some (.row 36 4 (i.2.map cCb))⟩)]) (fun i=>i.1<=p.length/\accI (meetRow q) i.1 (p.drop i.1) i.2=meetAll p q) (fun i=>p.length - i.1) (0,[]) ⟨qP _,rfl⟩ jW jW fun i hi=>?_
 obtain ⟨k,out⟩:=i
 obtain ⟨hk,hf⟩:=hi
 simp only at hk hf
 refine jA ?_
 refine AW.cond rfl (fun h0=>?_) (fun h0=>?_)
 ·have h:k<p.length:=by simpa using h0
  rw [qS h,accI,meetRow,<- accI_eq] at hf
  have hkx:(p.map cCb)[k]?=some (cCb p[k]):=by rw [qE,qA h];rfl
  generalize p[k]=x at hf hkx
  refine jA ?_
  refine jx hkx ?_
  refine jH ?_
  refine AW.loopL (ι:=Nat × List Cb) (fun i=>[(1,.sl (q.map cCb)),(7,.row 7 0 0 (i.2.map cCb).length),(9,.own 9 0 0),(20,.sl (p.map cCb)),(21,.i .i64 (p.map cCb).length),(22,.i .i64 (k:Nat)),(26,.sl (q.map cCb)),(27,.i .i64 (q.map cCb).length),(28,.i .i64 (i.1:Nat))]) (fun i=>[(7,⟨0,some (.row 36 4 (i.2.map cCb))⟩),(9,⟨0,some (.box 36 (cCb x))⟩)]) (fun i=>i.1<=q.length/\accI (meetRow q) (k+1) (p.drop (k+1)) (accI (meetI x) i.1 (q.drop i.1) i.2)=meetAll p q) (fun i=>q.length - i.1) (0,out) ⟨qP _,hf⟩ jW jW fun i hi=>?_
  clear hf
  obtain ⟨j,out⟩:=i
  obtain ⟨hj,hf⟩:=hi
  simp only at hj hf
  refine jA ?_
  refine AW.cond rfl (fun h1=>?_) (fun h1=>?_)
  ·have h':j<q.length:=by simpa using h1
   have hol:out.length<=100000000:=by
    have h1:=accI_ge (f:=meetRow q) (k+1) (p.drop (k+1)) (accI (meetI x) j (q.drop j) out)
    have h2:=accI_ge (f:=meetI x) j (q.drop j) out
    rw [hf] at h1
    omega
   rw [qS h',accI,meetI] at hf
   have hjx:(q.map cCb)[j]?=some (cCb q[j]):=by rw [qE,qA h'];rfl
   generalize q[j]=y at hf hjx
   refine jA ?_
   refine jx hjx ?_
   refine jH ?_
   cases hm:x.meets y
   ·rw [hm,cond_false,vW] at hf
    refine RG.callS rfl rfl rfl rfl rfl (d_Meet x y _ hm) rfl rfl ?_;refine jH ?_
    refine AW.condF rfl ?_;refine jA ?_
    exact ⟨(j+1,out),⟨⟨h',hf⟩,by show q.length - (j+1)<q.length - j;omega⟩,⟨Rn.is rfl rfl,Rn.rowIs rfl rfl rfl,Rn.ownIs rfl rfl rfl,Rn.is rfl rfl,Rn.is rfl rfl,Rn.is rfl rfl,Rn.is rfl rfl,Rn.is rfl rfl,Rn.is (i64_next h' hmq) rfl,trivial⟩,jW⟩
   ·rw [hm,cond_true] at hf
    refine RG.callS rfl rfl rfl rfl rfl (d_Meet x y _ hm) rfl rfl ?_;refine jH ?_
    refine AW.condT rfl ?_;refine jB ?_
    refine AW.text ?_
    refine wH rfl ?_
    refine RG.opS rfl (op_app1 cCb out (x.met y) hol rfl rfl rfl rfl (tk rfl) rfl (tk rfl) rfl rfl ⟨_,rfl,rfl⟩ rfl rfl) rfl ?_;refine jH ?_
    exact ⟨(j+1,_),⟨⟨h',hf⟩,by show q.length - (j+1)<q.length - j;omega⟩,⟨Rn.is rfl rfl,Rn.rowIs rfl rfl rfl,Rn.ownIs rfl rfl rfl,Rn.is rfl rfl,Rn.is rfl rfl,Rn.is rfl rfl,Rn.is rfl rfl,Rn.is rfl rfl,Rn.is (i64_next h' hmq) rfl,trivial⟩,jW⟩
  ·have h':¬j<q.length:=by simpa using h1
   obtain rfl:j=q.length:=by omega
   rw [vE (l:=q),accI] at hf
   refine jA ?_
   refine jE ?_;refine jA ?_
   exact ⟨(k+1,out),⟨⟨h,hf⟩,by show p.length - (k+1)<p.length - k;omega⟩,⟨Rn.is rfl rfl,Rn.rowIs rfl rfl rfl,Rn.is rfl rfl,Rn.is rfl rfl,Rn.is (i64_next h hmp) rfl,trivial⟩,jW⟩
 ·have h:¬k<p.length:=by simpa using h0
  obtain rfl:k=p.length:=by omega
  rw [vE,accI] at hf
  subst hf
  refine jA ?_
  refine jE ?_;refine jA ?_
  refine RG.callMS rfl rfl rfl rfl (congrArg (fun x=>[x]) (rowAll rfl)) rfl (d_leanE (meetAll p q) (by omega)) rfl ?_;refine jH ?_
  refine jR ?_
  rw [e0]
  rfl
theorem lessF_len (c:Cb) (more:Hd):∀(n:Nat) (rest:Cb) (out:List Cb),(lessF c more n rest out).length<=out.length+n
 | 0,rest,out=>qJ _
 | n+1,rest,out=>by
  rw [lessF]
  cases more.bit n
  ·have:=lessF_len c more n rest out
   rw [cond_false]
   omega
  ·have:=lessF_len c more n ⟨rest.value.or (c.value.and (maskH n 1)),rest.care.or (maskH n 1)⟩ (out++[⟨(rest.value.or (c.value.and (maskH n 1))).xor (maskH n 1),rest.care.or (maskH n 1)⟩])
   rw [qT,uC] at this
   rw [cond_true]
   omega
theorem less_len (a c:Cb):(a.less c).length<=128:=by
 rw [Cb.less]
 cases (a.sound && c.sound)
 ·exact qP _
 ·cases a.meets c
  ·show 1<=128;omega
  ·have:=lessF_len c (c.care.less a.care) 128 a []
   simpa using this
theorem lessAll_len (y:Cb) (out:List Cb):(lessAll y out).length<=128*out.length:=by
 have:=accI_len (f:=lessRow y) (m:=128) (fun n x=>less_len x y) 0 out []
 rw [lessAll]
 simpa using this
theorem d_PLess (p q:List Cb):PDoes Tryz.prog 187 [.sl (p.map cCb),.sl (q.map cCb)] (pileR (pileLess p q)):=by
 refine jb Tryz.func187 ?_
 refine jA ?_
 cases hs:(pileSound p && pileSound q)
 ·refine RG.callS rfl rfl rfl rfl rfl (d_pair p q _ hs) rfl rfl ?_;refine jH ?_
  refine AW.condT rfl ?_;refine jA ?_
  refine jR ?_
  rw [pileLess,hs]
  rfl
 refine RG.callS rfl rfl rfl rfl rfl (d_pair p q _ hs) rfl rfl ?_;refine jH ?_
 have e0:pileLess p q=lessL p q:=by rw [pileLess,hs];rfl
 rw [e0]
 rw [qN] at hs
 have hp:=pileSound_len hs.1
 have hq:=pileSound_len hs.2
 have hmq:q.length<=9223372036854775807:=by omega
 refine AW.condF rfl ?_;refine jA ?_
 refine RG.callMS rfl rfl rfl rfl rfl rfl (d_Clone_Cb p (by omega)) rfl ?_;refine jH ?_
 refine AW.loopL (ι:=Nat × List Cb) (fun i=>[(7,.sl (i.2.map cCb)),(22,.sl (q.map cCb)),(23,.i .i64 (q.map cCb).length),(24,.i .i64 (i.1:Nat))]) (fun i=>[]) (fun i=>(i.1<=q.length/\i.2.length<=200)/\lessL i.2 (q.drop i.1)=lessL p q) (fun i=>q.length - i.1) (0,p) ⟨⟨qP _,hp⟩,rfl⟩ jW trivial fun i hi=>?_
 obtain ⟨k,out⟩:=i
 obtain ⟨⟨hk,ho⟩,hf⟩:=hi
 simp only at hk ho hf
 refine jA ?_
 refine AW.cond rfl (fun h0=>?_) (fun h0=>?_)
 ·have h:k<q.length:=by simpa using h0
  rw [qS h,lessL] at hf
  have hkx:(q.map cCb)[k]?=some (cCb q[k]):=by rw [qE,qA h];rfl
  generalize q[k]=y at hf hkx
  have hmo:out.length<=9223372036854775807:=by omega
  have hal:=lessAll_len y out
  refine jB ?_
  refine AW.text ?_
  refine jx hkx ?_
  refine wH rfl ?_;refine jB ?_
  refine AW.text ?_
  refine RG.opS rfl (op_nilRow 10 36 4 rfl) rfl ?_
  refine jH ?_
  refine AW.loopL (ι:=Nat × List Cb) (fun i=>[(7,.sl (out.map cCb)),(9,.own 9 0 0),(10,.row 10 0 0 (i.2.map cCb).length),(22,.sl (q.map cCb)),(23,.i .i64 (q.map cCb).length),(24,.i .i64 (k:Nat)),(28,.sl (out.map cCb)),(29,.i .i64 (out.map cCb).length),(30,.i .i64 (i.1:Nat))]) (fun i=>[(9,⟨0,some (.box 36 (cCb y))⟩),(10,⟨0,some (.row 36 4 (i.2.map cCb))⟩)]) (fun i=>i.1<=out.length/\accI (lessRow y) i.1 (out.drop i.1) i.2=lessAll y out) (fun i=>out.length - i.1) (0,[]) ⟨qP _,rfl⟩ jW jW fun i hi=>?_
  obtain ⟨j,rest⟩:=i
  obtain ⟨hj,hg⟩:=hi
  simp only at hj hg
  refine jA ?_
  refine AW.cond rfl (fun h1=>?_) (fun h1=>?_)
  ·have h':j<out.length:=by simpa using h1
   have hjx:(out.map cCb)[j]?=some (cCb out[j]):=by rw [qE,qA h'];rfl
   rw [qS h',accI,lessRow] at hg
   generalize out[j]=x at hg hjx
   have hol:rest.length+(x.less y).length<=100000000:=by
    have h1:=accI_ge (f:=lessRow y) (j+1) (out.drop (j+1)) (rest++x.less y)
    rw [hg,qT] at h1
    omega
   refine jA ?_
   refine jx hjx ?_
   refine jH ?_
   refine jm (d_CLess x y) ?_;refine jH ?_
   refine RG.opS rfl (op_appL cCb rest (x.less y) hol (fun _=>rfl) rfl rfl rfl rfl (tk rfl) rfl (tk rfl) rfl rfl ⟨_,rfl,rfl⟩ rfl) rfl ?_;refine jH ?_
   exact ⟨(j+1,_),⟨⟨h',hg⟩,by show out.length - (j+1)<out.length - j;omega⟩,⟨Rn.is rfl rfl,Rn.ownIs rfl rfl rfl,Rn.rowIs rfl rfl rfl,Rn.is rfl rfl,Rn.is rfl rfl,Rn.is rfl rfl,Rn.is rfl rfl,Rn.is rfl rfl,Rn.is (i64_next h' hmo) rfl,trivial⟩,jW⟩
  ·have h':¬j<out.length:=by simpa using h1
   obtain rfl:j=out.length:=by omega
   rw [vE (l:=out),accI] at hg
   subst hg
   refine jA ?_
   refine jE ?_;refine jA ?_
   refine RG.callMS rfl rfl rfl rfl (congrArg (fun x=>[x]) (rowAll rfl)) rfl (d_leanE (lessAll y out) (by omega)) rfl ?_;refine jH ?_
   refine AW.cond rfl (fun h2=>?_) (fun h2=>?_)
   ·have h2:¬(leanE (lessAll y out)).2=0:=by simpa using h2
    rw [qF h2,cond_false] at hf
    refine jA ?_
    refine jR ?_
    rw [<- hf]
    rfl
   ·have h2:(leanE (lessAll y out)).2=0:=by simpa using h2
    rw [qD h2,cond_true] at hf
    refine jA ?_
    refine ⟨(k+1,(leanE (lessAll y out)).1),⟨⟨⟨h,?_⟩,hf⟩,by show q.length - (k+1)<q.length - k;omega⟩,⟨Rn.is rfl rfl,Rn.is rfl rfl,Rn.is rfl rfl,Rn.is (i64_next h hmq) rfl,trivial⟩,trivial⟩
    have:=(leanE_ok h2).2
    rw [(leanE_ok h2).1]
    exact this
 ·have h:¬k<q.length:=by simpa using h0
  obtain rfl:k=q.length:=by omega
  rw [vE,lessL] at hf
  refine jA ?_
  refine jE ?_;refine jA ?_
  refine jm (d_Clip_Cb out) ?_;refine jH ?_
  refine jR ?_
  rw [<- hf]
  rfl
def pickR:Option Cb->AV
 | none=>.tup [.agg (cHd Hd.zero),.b false]
 | some c=>.tup [.agg (cHd c.value),.b true]
theorem d_Pick (p:List Cb):PDoes Tryz.prog 224 [.sl (p.map cCb)] (pickR (pick p)):=by
 refine jb Tryz.func224 ?_
 have hI:=d_IndexFunc_Cb 59 Cb.sound p fun x _=>d_Sound x _ rfl
 have hfi:=idxF_eq (p:=Cb.sound) 0 p
 rw [pick]
 cases hq:p.findIdx? Cb.sound with
 | none =>
  have e:p.find? Cb.sound=none:=by
   rw [List.findIdx?_eq_none_iff] at hq
   rw [List.find?_eq_none]
   intro x hx
   rw [hq x hx]
   exact Bool.false_ne_true
  rw [e]
  have hv:idxF Cb.sound 0 p = -1:=by rw [hfi,hq]
  rw [hv] at hI
  refine jA ?_
  refine jc hI ?_;refine jH ?_
  refine AW.condF rfl ?_;refine jA ?_
  refine jR ?_
  rfl
 | some k =>
  obtain ⟨hk,h1,h2⟩:=List.findIdx?_eq_some_iff_getElem.1 hq
  have e:p.find? Cb.sound=some p[k]:=by
   rw [List.find?_eq_some_iff_getElem]
   exact ⟨h1,k,hk,rfl,fun j hj=>by simpa using h2 j hj⟩
  rw [e]
  have hkx:(p.map cCb)[k]?=some (cCb p[k]):=by rw [qE,qA hk];rfl
  generalize p[k]=c at hkx
  have hv:idxF Cb.sound 0 p=((k:Nat):Int):=by rw [hfi,hq];simp
  rw [hv] at hI
  refine jA ?_
  refine jc hI ?_;refine jH ?_
  refine AW.cond rfl (fun h=>?_) (fun h=>?_)
  rotate_left
  ·exact absurd (show Int.ofNat 0<=((k:Nat):Int) by simp only [qG];omega) (of_decide_eq_false h)
  refine jA ?_
  refine jx hkx ?_
  refine jH ?_
  refine jR ?_
  rfl
end Go.Proofs.YtdidjpohnopihaaGreat.Sm
end
