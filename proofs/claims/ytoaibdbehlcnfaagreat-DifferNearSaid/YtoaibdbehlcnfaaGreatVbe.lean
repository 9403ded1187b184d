/- Contracts of the program's functions over data, and the plain laws that they meet (part 5). No condition. -/
import Derived.Test.YtoaibdbehlcnfaaGreatVbd
import Derived.WalkKit
import Derived.WalkSpells
import Derived.WalkLawsBesides
import Derived.Lib.Hide
import Derived.Deep.RegionHeld3
import Derived.Maps.AppendAt
import Derived.KernelRfl
import Derived.Lib.AppendStr
import Derived.Orders
import Derived.LoopTactic
import Derived.Laws.CopyRow
import Derived.Laws.Cells
import Derived.Great.BuildSlice
import Derived.Laws.ResultCell
import Derived.Laws.StructEq
import Derived.Laws.MakeOwn
import Derived.Lib.AppendZerosOnto
import Derived.Deep.Slices
import Derived.Deep.Fields
import Derived.ChangeSame
import Derived.ProofKit
import Derived.OpenShut
import Derived.SizedLaws
import Derived.Test.YtoaibdbehlcnfaaGreatProg
import Derived.Shelf.Spec.BitsCarry
import Derived.DeepKeys4
import Derived.MapKept
set_option linter.unusedVariables false
set_option linter.unusedSimpArgs false
set_option maxRecDepth 100000
set_option maxHeartbeats 4000000
section
namespace Go.Proofs.YtoaibdbehlcnfaaGreat.Sm
open Go.RowKit
theorem d_compare (l:List Rl) (X:List (List AV)) (a b:Nat) (x y:Rl) (ha:l[a]?=some x) (hb:l[b]?=some y):PDoes Tryz.prog 300 [.ro [.sl (l.map cRl),.sl X],.i .i64 (a:Nat),.i .i64 (b:Nat)] (.i .i64 (orI [cmpI y.prio x.prio,cmpI a b])):=by
 refine PDoes.of_bodyN Tryz.func300 rfl (by kernel_rfl) rfl rfl ?_
 refine jA ?_
 refine RG.opS rfl (op_index rfl (tab_ok ty_ok rfl) rfl (tab_ok ty_ok rfl) rfl rfl (show (l.map cRl)[b]?=some (cRl y) by rw [List.getElem?_map,hb];rfl) rfl) rfl ?_
 refine wH rfl ?_
 refine RG.opS rfl (op_index rfl (tab_ok ty_ok rfl) rfl (tab_ok ty_ok rfl) rfl rfl (show (l.map cRl)[a]?=some (cRl x) by rw [List.getElem?_map,ha];rfl) rfl) rfl ?_
 refine wH rfl ?_
 refine RG.callS rfl rfl rfl rfl rfl (d_Compare y.prio x.prio) rfl rfl ?_
 refine wH rfl ?_
 refine RG.callS rfl rfl rfl rfl rfl (d_Compare a b) rfl rfl ?_
 refine wH rfl ?_
 refine RG.callS rfl rfl rfl rfl rfl (d_Or2 [cmpI y.prio x.prio,cmpI a b]) rfl rfl ?_;refine wH rfl ?_;refine jA ?_
 refine AW.ret (retQA ty_ok rfl rfl rfl ?_)
 rfl
theorem Rn.fnF {σ σ':Sto} {x:AV} {f:FuncId} {a:List AV} (e:x = .fn f a []) (h:a.all AV.pu1=true):Rn σ σ' x (.fn f a []):=by
 subst e
 exact .fn rfl rfl (fun j x x' h1 h2=>by
  rw [h1] at h2
  rw [<- Option.some.inj h2]
  exact .pu (List.all_eq_true.1 h x (List.mem_of_getElem? h1))) (fun j x x' h1=>by simp at h1)
def Falls (l:List Rl):Prop:=∀(k:Nat) (x y:Rl),l[k]?=some x->l[k+1]?=some y->y.prio<=x.prio
def numN (k:Nat):List AV:=cI (k:Nat)
theorem d_insert (l:List Rl) (hf:Falls l) (hl:l.length<=1000) (X:List (List AV)):PDoes Tryz.prog 310 [.sl ((List.range l.length).map numN),.i .i64 0,.i .i64 (l.length:Nat),.fn 300 [.ro [.sl (l.map cRl),.sl X]] []] (.tup []):=by
  refine PDoes.of_bodyN Tryz.func310 rfl (by kernel_rfl) rfl rfl ?_
  have hr:((List.range l.length).map numN).length=l.length:=by rw [List.length_map,List.length_range]
  have hk:∀k,k<l.length->((List.range l.length).map numN)[k]?=some (numN k):=fun k h=>by rw [List.getElem?_map,List.getElem?_range h];rfl
  generalize (List.range l.length).map numN=els at hr hk
  refine jA ?_
  refine AW.loopL (ι:=Nat) (fun k=>[(0,.sl els),(1,.i .i64 0),(2,.i .i64 (l.length:Nat)),(3,.fn 300 [.ro [.sl (l.map cRl),.sl X]] []),(8,.i .i64 ((k+1:Nat):Int))]) (fun _=>[]) (fun k=>k<=l.length) (fun k=>l.length - k) 0 (Nat.zero_le _) ⟨Rn.is rfl rfl,Rn.is rfl rfl,Rn.is rfl rfl,Rn.fnF rfl rfl,Rn.is rfl rfl,trivial⟩ trivial fun k hkl=>?_
  refine jA ?_
  refine AW.cond rfl (fun h0=>?_) (fun h0=>?_)
  · have h : k + 1 < l.length := by
      have:=of_decide_eq_true h0
      omega
    refine jA ?_
    refine AW.loopL (ι:=Nat) (fun _=>[(0,.sl els),(1,.i .i64 0),(2,.i .i64 (l.length:Nat)),(3,.fn 300 [.ro [.sl (l.map cRl),.sl X]] []),(8,.i .i64 ((k+1:Nat):Int)),(9,.i .i64 ((k+1:Nat):Int))]) (fun _=>[]) (fun _=>True) (fun i=>i) 0 trivial ⟨Rn.is rfl rfl,Rn.is rfl rfl,Rn.is rfl rfl,Rn.fnF rfl rfl,Rn.is rfl rfl,Rn.is rfl rfl,trivial⟩ trivial fun i _=>?_
    refine jB ?_
    refine AW.draws mixed_ok ?_
    have g1:((k+1:Nat):Int)>0:=by omega
    have g2:IntKind.i64.wrap (((k+1:Nat):Int) - Int.ofNat 1)=(k:Nat):=by
      rw [IntKind.wrap_i64]
      simp only [Int.ofNat_eq_natCast]
      omega
    refine RG.runO ty_ok 0 [(20,.b true)] 400 rfl jD ?_
    refine RG.opS rfl (op_index rfl (tab_ok ty_ok rfl) rfl (tab_ok ty_ok rfl) rfl rfl (hk (k+1) h) rfl) rfl ?_
    refine RG.runO ty_ok 0 [(29,.i .i64 (k:Nat))] 400 rfl jD ?_
    refine RG.opS rfl (op_index rfl (tab_ok ty_ok rfl) rfl (tab_ok ty_ok rfl) rfl rfl (hk k (by omega)) rfl) rfl ?_
    refine wH rfl ?_
    have e1:l[k+1]?=some l[k+1]:=List.getElem?_eq_getElem h
    have e2:l[k]?=some (l[k]'(by omega)):=List.getElem?_eq_getElem (by omega)
    have hle:=hf k _ _ e2 e1
    have hc:¬orI [cmpI (l[k]'(by omega)).prio l[k+1].prio,cmpI ((k+1:Nat):Int) (k:Nat)]<0:=by
      generalize (l[k]'(by omega)).prio=p at hle
      generalize l[k+1].prio=q at hle
      have c2:cmpI ((k+1:Nat):Int) (k:Nat)=1:=by rw [cmpI,if_neg (by omega),if_pos (by omega)]
      rw [c2]
      by_cases hpq:q<p
      · have c1:cmpI p q=1:=by rw [cmpI,if_neg (by omega),if_pos hpq]
        rw [c1];decide
      · have c1:cmpI p q=0:=by rw [cmpI,if_neg (by omega),if_neg hpq]
        rw [c1];decide
    refine RG.callS rfl rfl rfl rfl rfl (d_compare l X (k+1) k _ _ e1 e2) rfl rfl ?_
    refine wH rfl ?_;refine jB ?_
    refine AW.cond rfl (fun h1=>?_) (fun h1=>?_)
    · exact absurd (of_decide_eq_true h1) hc
    refine jA ?_
    refine AW.exit ?_;refine Eq.mpr (if_pos rfl) ?_;refine jA ?_
    exact ⟨k+1,⟨by omega,by omega⟩,⟨Rn.is rfl rfl,Rn.is rfl rfl,Rn.is rfl rfl,Rn.fnF rfl rfl,Rn.is (i64_next (show k+1<100000 by omega) (by decide)) rfl,trivial⟩,trivial⟩
  · refine jA ?_
    refine AW.exit ?_;refine Eq.mpr (if_pos rfl) ?_;refine jA ?_
    exact retQ0 rfl (.inl rfl)
theorem op_indexSy {P:Program} {N:Nat} {o:Oper} {s:St} {t:Nat} {ti:TI} {x i:Operand} {l:List UInt8} {b c:UInt8} (ho:o.op = .index t x i) (ht:TiOk P t ti) (hk:ti.k = .str) (hx:s.ev x = .s l) (hi:s.ev i = .y b) (hc:l[b.toNat]?=some c):OpLoc P N o s ⟨.y c,[],[]⟩:=by
 refine oploc_val [] _ fun s' W F μ a h1 h2 hs=>⟨.int .u8 c.toNat,?_,.pure (.y c)⟩
 have ex:=hs.ev x
 rw [h1 x (by rw [ho];simp [Op.operands]),hx] at ex
 have ei':=hs.ev i
 rw [h1 i (by rw [ho];simp [Op.operands]),hi] at ei'
 have hb:(⟨l.toArray⟩:ByteArray)[b.toNat]?=some c:=by
  obtain ⟨hlt,e⟩:=List.getElem?_eq_some_iff.1 hc
  rw [getElem?_pos (⟨l.toArray⟩:ByteArray) b.toNat (by simpa [ByteArray.size] using hlt)]
  exact congrArg some e
 have h0:(0:Int)<=(b.toNat:Int):=by omega
 simp only [execOp,ho,Instr.index,ex.s',ei'.y',asIntOf,Sem.run_bind,Sem.run_pure,Result.andThen_ok,run_underlying (ht.str hk),h0,if_true,Int.toNat_natCast,hb]
theorem d_Len64 (v:UInt64) (hv:v.toNat<256):∃r:Int,PDoes Tryz.prog 223 [.u v] (.i .i64 r):=by
  refine ⟨?_,?_⟩
  rotate_left
  · refine PDoes.of_bodyN Tryz.func223 rfl (by kernel_rfl) rfl rfl ?_
    refine jA ?_
    refine AW.cond rfl (fun h=>?_) (fun h=>?_)
    · have:=UInt64.le_iff_toNat_le.1 (of_decide_eq_true h)
      exact absurd (Nat.lt_of_le_of_lt this hv) (by decide)
    clear h
    refine jA ?_
    refine AW.cond rfl (fun h=>?_) (fun h=>?_)
    · have:=UInt64.le_iff_toNat_le.1 (of_decide_eq_true h)
      exact absurd (Nat.lt_of_le_of_lt this hv) (by decide)
    clear h
    refine jA ?_
    refine AW.cond rfl (fun h=>?_) (fun h=>?_)
    · have:=UInt64.le_iff_toNat_le.1 (of_decide_eq_true h)
      exact absurd (Nat.lt_of_le_of_lt this hv) (by decide)
    clear h
    refine jA ?_
    refine RG.opS rfl (op_indexSy rfl (tab_ok ty_ok rfl) rfl rfl rfl (List.getElem?_eq_getElem (Nat.lt_of_lt_of_le (UInt8.toNat_lt _) (by decide)))) rfl ?_
    refine wH rfl ?_;refine jA ?_
    refine AW.ret (retQA ty_ok rfl rfl rfl ?_)
    rfl
theorem d_Len (v:UInt64) (hv:v.toNat<256):∃r:Int,PDoes Tryz.prog 168 [.u v] (.i .i64 r):=by
 obtain ⟨r,hr⟩:=d_Len64 v hv
 refine ⟨r,?_⟩
 refine PDoes.of_bodyN Tryz.func168 rfl (by kernel_rfl) rfl rfl ?_
 refine jA ?_
 refine AW.condF rfl ?_;refine jA ?_
 refine RG.callS rfl rfl rfl rfl rfl hr rfl rfl ?_;refine wH rfl ?_;refine jA ?_
 refine AW.ret (retQA ty_ok rfl rfl rfl ?_)
 rfl
theorem d_pdq (l:List Rl) (hf:Falls l) (hl:l.length<=12) (X:List (List AV)) (lim:Int):PDoes Tryz.prog 306 [.sl ((List.range l.length).map numN),.i .i64 0,.i .i64 (l.length:Nat),.i .i64 lim,.fn 300 [.ro [.sl (l.map cRl),.sl X]] []] (.tup []):=by
 refine PDoes.of_bodyN Tryz.func306 rfl (by kernel_rfl) rfl rfl ?_
 have hI:=d_insert l hf (by omega) X
 generalize (List.range l.length).map numN=els at hI
 refine jA ?_
 refine AW.loopL (ι:=Nat) (fun _=>[(0,.sl els),(1,.i .i64 0),(2,.i .i64 (l.length:Nat)),(4,.fn 300 [.ro [.sl (l.map cRl),.sl X]] [])]) (fun _=>[]) (fun _=>True) (fun i=>i) 0 trivial ⟨Rn.is rfl rfl,Rn.is rfl rfl,Rn.is rfl rfl,Rn.fnF rfl rfl,trivial⟩ trivial fun i _=>?_
 refine jA ?_
 refine AW.cond rfl (fun h=>?_) (fun h=>?_)
 ·refine jA ?_
  refine RG.callS rfl rfl rfl rfl rfl hI rfl rfl ?_;refine wH rfl ?_;refine jA ?_
  exact AW.ret (retQ0 rfl (.inr rfl))
 ·have h:=of_decide_eq_false h
  have hw:IntKind.i64.wrap (((l.length:Nat):Int) - 0)=(l.length:Nat):=by rw [IntKind.wrap_i64];omega
  rw [hw] at h
  exact absurd (show ((l.length:Nat):Int)<=12 by omega) h
theorem d_SortFunc (l:List Rl) (hf:Falls l) (hl:l.length<=12) (X:List (List AV)):PDoes Tryz.prog 299 [.sl ((List.range l.length).map numN),.fn 300 [.ro [.sl (l.map cRl),.sl X]] []] (.tup []):=by
 have hn:((List.range l.length).map numN).length=l.length:=by rw [List.length_map,List.length_range]
 obtain ⟨r,hr⟩:=d_Len (ofI64 (((List.range l.length).map numN).length:Nat)) (by rw [hn,ofI_nat _ (by omega),UInt64.toNat_ofNat'];omega)
 have hP:=d_pdq l hf hl X r
 generalize (List.range l.length).map numN=els at hr hP hn
 rw [<- hn] at hP
 refine PDoes.of_bodyN Tryz.func299 rfl (by kernel_rfl) rfl rfl ?_
 refine jA ?_
 refine RG.callS rfl rfl rfl rfl rfl hr rfl rfl ?_;refine wH rfl ?_;refine jA ?_
 refine RG.callS rfl rfl rfl rfl rfl hP rfl rfl ?_;refine wH rfl ?_;refine jA ?_
 exact retQ0 rfl (.inl rfl)
def Better (l:List Rl) (a b:Nat):Prop:=(l.getD b Rl.zero).prio<(l.getD a Rl.zero).prio\/((l.getD b Rl.zero).prio=(l.getD a Rl.zero).prio/\a<=b)
def LookOk (l:List Rl):Prop:=∃os:List Nat,os.Perm (List.range l.length)/\os.Pairwise (Better l)/\PDoes Tryz.prog 285 [.sl (l.map cRl)] (.sl (os.map numN))
theorem falls_le {l:List Rl} (hf:Falls l):∀(d a:Nat),a+d<l.length->(l.getD (a+d) Rl.zero).prio<=(l.getD a Rl.zero).prio
 | 0,a,_=>Int.le_refl _
 | d+1,a,h=>by
  have ih:=falls_le hf d a (by omega)
  have e1:l[a+d]?=some (l[a+d]'(by omega)):=List.getElem?_eq_getElem (by omega)
  have e2:l[a+d+1]?=some (l[a+d+1]'(by omega)):=List.getElem?_eq_getElem (by omega)
  have:=hf (a+d) _ _ e1 e2
  rw [getD_at e1] at ih
  rw [show a+(d+1)=a+d+1 by omega,getD_at e2]
  omega
theorem look_falls {l:List Rl} (hf:Falls l) (hl:l.length<=12):LookOk l:=by
  refine ⟨List.range l.length,List.Perm.refl _,?_,?_⟩
  · rw [List.pairwise_iff_getElem]
    intro i j hi hj hij
    rw [List.getElem_range,List.getElem_range]
    rw [List.length_range] at hj
    have:=falls_le hf (j - i) i (by omega)
    rw [show i+(j - i)=j by omega] at this
    by_cases e:(l.getD j Rl.zero).prio=(l.getD i Rl.zero).prio
    · exact Or.inr ⟨e,by omega⟩
    · exact Or.inl (by omega)
  refine PDoes.of_bodyN Tryz.func285 rfl (by kernel_rfl) rfl rfl ?_
  refine jB ?_;refine wF ?_;refine wH rfl ?_;refine jB ?_;refine wF ?_;refine wH rfl ?_;refine jB ?_
  refine AW.nilRow 40 0 3 1 [(0,.sl (l.map cRl)),(3,.own 7 0 0)] [(7,⟨0,some (.box 368 [.sl (l.map cRl),.row 40 0 0 0])⟩),(40,⟨0,some (.row 3 1 [])⟩)] ⟨.rn (Rn.is rfl rfl),.rn (Rn.ownIs rfl rfl rfl),trivial⟩ ⟨.boxL rfl ⟨RnN.is rfl rfl,.nil rfl,trivial⟩ rfl,.old (.row rfl rfl),trivial⟩ ?_
  refine jA ?_
  have hm:l.length<=9223372036854775807:=by omega
  refine AW.loopL (ι:=Nat × List Nat) (fun i=>[(3,.own 7 0 0),(8,.sl (l.map cRl)),(9,.i .i64 (l.map cRl).length),(10,.i .i64 (i.1:Nat))]) (fun i=>[(7,⟨0,some (.box 368 [.sl (l.map cRl),.row 40 0 0 (i.2.map numN).length])⟩),(40,⟨0,some (.row 3 1 (i.2.map numN))⟩)]) (fun i=>i.1<=l.length/\i.2=List.range i.1) (fun i=>l.length - i.1) (0,[]) ⟨Nat.zero_le _,rfl⟩ jW ⟨.boxL rfl ⟨Rn.is rfl rfl,Rn.rowIs rfl rfl rfl,trivial⟩ rfl,.row rfl rfl,trivial⟩ fun i hi=>?_
  obtain ⟨k,out⟩:=i
  obtain ⟨hk,ho⟩:=hi
  simp only at hk ho
  refine jA ?_
  refine AW.cond rfl (fun h0=>?_) (fun h0=>?_)
  · have h:k<l.length:=by simpa using h0
    have hL:out.length<=100000000:=by rw [ho,List.length_range];omega
    refine jA ?_
    refine RG.opS rfl (op_app1 numN out k hL rfl rfl rfl rfl (tab_ok ty_ok rfl) rfl (tab_ok ty_ok rfl) rfl rfl ⟨_,rfl,rfl⟩ rfl rfl) rfl ?_;refine wH rfl ?_;refine jA ?_
    exact ⟨(k+1,out++[k]),⟨⟨h,by show out++[k]=List.range (k+1);rw [ho,List.range_succ]⟩,by show l.length - (k+1)<l.length - k;omega⟩,jV,⟨.boxL rfl ⟨Rn.is rfl rfl,Rn.rowIs rfl rfl rfl,trivial⟩ rfl,.row rfl rfl,trivial⟩⟩
  · have h:¬k<l.length:=by simpa using h0
    obtain rfl:k=l.length:=by omega
    have hS:=d_SortFunc l hf hl (((out.map numN).drop 0).take (out.map numN).length)
    rw [<- ho] at hS ⊢
    refine jA ?_
    refine AW.exit ?_;refine Eq.mpr (if_pos rfl) ?_;refine jA ?_
    refine RG.callS rfl rfl rfl rfl (congrArg (fun x=>[x,_]) (rowAll rfl)) hS rfl rfl ?_
    refine wH rfl ?_;refine jA ?_
    refine AW.ret (retQA ty_ok rfl rfl rfl ?_)
    exact rowAll rfl
end Go.Proofs.YtoaibdbehlcnfaaGreat.Sm
end
section
namespace Go.Proofs.YtoaibdbehlcnfaaGreat.Sm
open Go.RowKit
def Hits (l:List Rl) (h:Hd) (m:Nat):Prop:=m<l.length/\(l.getD m Rl.zero).mat.has h=true
def BestInv (L:List Rl) (h:Hd) (i:Nat):Option (Nat × Int)->Prop
 | none=>∀m<i,¬Hits L h m
 | some x=>x.1<i/\Hits L h x.1/\(L.getD x.1 Rl.zero).prio=x.2/\∀m<i,Hits L h m->Better L x.1 m
theorem fndF_inv (L:List Rl) (h:Hd):∀(l:List Rl) (i:Nat) (b:Option (Nat × Int)),L.drop i=l->i<=L.length->BestInv L h i b->BestInv L h L.length (fndF h i l b)
  | [],i,b,hd,hi,hb=>by
    have:L.length<=i:=by rw [<- List.drop_eq_nil_iff];exact hd
    rw [fndF,show L.length=i by omega]
    exact hb
  | r::l,i,b,hd,hi,hb=>by
    have hlt:i<L.length:=by
      have:=congrArg List.length hd
      rw [List.length_drop,List.length_cons] at this
      omega
    have hr:L[i]?=some r:=by
      have:(L.drop i)[0]?=some r:=by rw [hd];rfl
      rwa [List.getElem?_drop,Nat.add_zero] at this
    have hrd:L.getD i Rl.zero=r:=getD_at hr
    have hd':L.drop (i+1)=l:=by rw [<- List.drop_drop,hd];rfl
    rw [fndF]
    refine fndF_inv L h l (i+1) _ hd' (by omega) ?_
    have step:∀m,m<i+1->m<i\/m=i:=fun m hm=>by omega
    cases hh:r.mat.has h
    · have hno:¬Hits L h i:=fun H=>by rw [Hits,hrd,hh] at H;cases H.2
      rw [Bool.false_and,cond_false]
      cases b with
      | none=>exact fun m hm H=>(step m hm).elim (fun e=>hb m e H) fun e=>hno (e ▸ H)
      | some x=>exact ⟨by have:=hb.1;omega,hb.2.1,hb.2.2.1,fun m hm H=>(step m hm).elim (fun e=>hb.2.2.2 m e H) fun e=>absurd (e ▸ H) hno⟩
    · have hyes:Hits L h i:=⟨hlt,by rw [hrd];exact hh⟩
      rw [Bool.true_and]
      cases b with
      | none =>
        show BestInv L h (i+1) (some (i,r.prio))
        exact ⟨by omega,hyes,by rw [hrd],fun m hm H=>(step m hm).elim (fun e=>absurd H (hb m e)) fun e=>Or.inr ⟨by rw [e],by omega⟩⟩
      | some x =>
        obtain ⟨h1,h2,h3,h4⟩:=hb
        by_cases hq:x.2<r.prio
        · rw [show (some x).all (fun q=>decide (q.2<r.prio))=true from decide_eq_true hq,cond_true]
          refine ⟨by omega,hyes,by rw [hrd],fun m hm H=>(step m hm).elim (fun e=>?_) fun e=>Or.inr ⟨by rw [e],by omega⟩⟩
          have:=h4 m e H
          refine Or.inl ?_
          rw [hrd]
          rcases this with h | ⟨h,_⟩ <;> omega
        · rw [show (some x).all (fun q=>decide (q.2<r.prio))=false from decide_eq_false hq,cond_false]
          refine ⟨by omega,h2,h3,fun m hm H=>(step m hm).elim (fun e=>h4 m e H) fun e=>?_⟩
          subst e
          by_cases he:r.prio=x.2
          · exact Or.inr ⟨by rw [hrd,h3];exact he,by omega⟩
          · exact Or.inl (by rw [hrd,h3];omega)
theorem fnd_none {l:List Rl} {h:Hd} (H:∀m,¬Hits l h m):fnd l h=none:=by
 cases hf:fnd l h with
 | none=>rfl
 | some r =>
  obtain ⟨h1,_,h3⟩:=fnd_lt hf
  exact absurd ⟨h1,h3⟩ (H r)
theorem fnd_best {l:List Rl} {h:Hd} {r:Nat} (h1:Hits l h r) (h2:∀m,Hits l h m->Better l r m):fnd l h=some r:=by
 have H:=fndF_inv l h l 0 none rfl (Nat.zero_le _) fun m hm=>absurd hm (Nat.not_lt_zero m)
 rw [fnd]
 cases hf:fndF h 0 l none with
 | none =>
  rw [hf] at H
  exact absurd h1 (H r h1.1)
 | some x =>
  rw [hf] at H
  obtain ⟨_,k2,_,k4⟩:=H
  have b1:=h2 x.1 k2
  have b2:=k4 r h1.1 h1
  show some x.1=some r
  congr 1
  rcases b1 with b1 | ⟨b1,b1'⟩ <;> rcases b2 with b2 | ⟨b2,b2'⟩ <;> omega
theorem d_Find (l:List Rl) (h:Hd) (H:LookOk l):PDoes Tryz.prog 261 [.sl (l.map cRl),.agg (cHd h)] (fndR (fnd l h)):=by
  obtain ⟨os,hp,hs,hL⟩:=H
  have hlen:os.length=l.length:=by rw [hp.length_eq,List.length_range]
  have hmem:∀m,m∈os↔m<l.length:=fun m=>by rw [hp.mem_iff,List.mem_range]
  rw [List.pairwise_iff_getElem] at hs
  refine PDoes.of_bodyN Tryz.func261 rfl (by kernel_rfl) rfl rfl ?_
  refine jB ?_
  refine AW.lens 0 rfl fun hl=>?_
  rw [List.length_map] at hl
  refine jA ?_
  refine RG.callMS rfl rfl rfl rfl rfl rfl hL rfl ?_;refine wH rfl ?_;refine jA ?_
  refine AW.loopL (ι:=Nat) (fun k=>[(0,.sl (l.map cRl)),(3,.own 3 0 0),(9,.sl (os.map numN)),(10,.i .i64 (os.map numN).length),(11,.i .i64 (k:Nat))]) (fun _=>[(3,⟨0,some (.box 34 (cHd h))⟩)]) (fun k=>k<=os.length/\∀(j:Nat) (hj:j<os.length),j<k->¬Hits l h os[j]) (fun k=>os.length - k) 0 ⟨Nat.zero_le _,fun j hj h0=>absurd h0 (Nat.not_lt_zero j)⟩ jW jW fun k hk=>?_
  obtain ⟨hk,hf⟩:=hk
  refine jA ?_
  refine AW.cond rfl (fun h0=>?_) (fun h0=>?_)
  · have hk':k<os.length:=by simpa using h0
    have hm:os.length<=9223372036854775807:=by omega
    have hol:os[k]<l.length:=(hmem _).1 (List.getElem_mem hk')
    have hx:(l.map cRl)[os[k]]?=some (cRl (l.getD os[k] Rl.zero)):=by rw [List.getElem?_map,List.getElem?_eq_getElem hol,List.getD_eq_getElem?_getD,List.getElem?_eq_getElem hol];rfl
    refine jA ?_
    refine RG.opS rfl (op_index rfl (tab_ok ty_ok rfl) rfl (tab_ok ty_ok rfl) rfl rfl (show (os.map numN)[k]?=some (numN os[k]) by rw [List.getElem?_map,List.getElem?_eq_getElem (by assumption)];rfl) rfl) rfl ?_
    refine wH rfl ?_;refine jA ?_
    refine RG.opS rfl (op_index rfl (tab_ok ty_ok rfl) rfl (tab_ok ty_ok rfl) rfl rfl hx rfl) rfl ?_
    refine wH rfl ?_
    cases hq:(l.getD os[k] Rl.zero).mat.has h
    · refine RG.callS rfl rfl rfl rfl rfl (d_Has _ h _ hq) rfl rfl ?_;refine wH rfl ?_;refine jA ?_
      refine AW.condF rfl ?_;refine jA ?_
      refine ⟨k+1,⟨⟨hk',fun j hj hjk=>?_⟩,by omega⟩,jV,jW⟩
      by_cases e:j=k
      · subst e
        intro H
        rw [H.2] at hq
        cases hq
      · exact hf j hj (by omega)
    · refine RG.callS rfl rfl rfl rfl rfl (d_Has _ h _ hq) rfl rfl ?_;refine wH rfl ?_;refine jA ?_
      refine AW.condT rfl ?_;refine jA ?_
      refine AW.ret (retQA ty_ok rfl rfl rfl ?_)
      have:fnd l h=some os[k]:=fnd_best ⟨hol,hq⟩ fun m H=>by
        obtain ⟨j,hj,rfl⟩:=List.getElem_of_mem ((hmem m).2 H.1)
        by_cases e:j<k
        · exact absurd H (hf j hj e)
        · by_cases e2:j=k
          · subst e2;exact Or.inr ⟨rfl,Nat.le_refl _⟩
          · exact hs k j hk' hj (by omega)
      rw [this]
      rfl
  · have hk':¬k<os.length:=by simpa using h0
    refine jA ?_
    refine AW.exit ?_;refine Eq.mpr (if_pos rfl) ?_;refine jA ?_
    refine AW.ret (retQA ty_ok rfl rfl rfl ?_)
    have:fnd l h=none:=fnd_none fun m H=>by
      obtain ⟨j,hj,rfl⟩:=List.getElem_of_mem ((hmem m).2 H.1)
      exact hf j hj (by omega) H
    rw [this]
    rfl
def oneR (l:List Rl) (h:Hd):AV:=match fnd l h with
 | none=>.tup [.i .i64 0,.agg (cHd Hd.zero),.b false]
 | some r=>.tup [.i .i64 (r:Nat),.agg (cHd (h.set (l.getD r Rl.zero).act.set)),.b true]
theorem d_One (ts:List (List Rl)) (n:Nat) (l:List Rl) (h:Hd) (hn:ts[n]?=some l) (H:LookOk l):PDoes Tryz.prog 209 [.sl (ts.map cRls),.i .i64 (n:Nat),.agg (cHd h)] (oneR l h):=by
 refine PDoes.of_bodyN Tryz.func209 rfl (by kernel_rfl) rfl rfl ?_
 have hlt:(ts.map cRls).length=ts.length:=List.length_map ..
 have hnl:=(List.getElem?_eq_some_iff.1 hn).1
 have g1:¬((n:Nat):Int)<0:=by omega
 have g2:¬((n:Nat):Int)>=(((ts.map cRls).length:Nat):Int):=by omega
 have hx:(ts.map cRls)[n]?=some (cRls l):=by rw [List.getElem?_map,hn];rfl
 have hF:=d_Find l h H
 refine jB ?_;refine wF ?_;refine wH rfl ?_;refine jB ?_
 refine AW.text ?_
 refine RG.runO ty_ok 0 [(12,.b false),(17,.b false)] 400 rfl jD ?_
 refine jB ?_;refine AW.condF rfl ?_;refine jA ?_
 refine RG.opS rfl (op_index rfl (tab_ok ty_ok rfl) rfl (tab_ok ty_ok rfl) rfl rfl hx rfl) rfl ?_
 refine wH rfl ?_
 cases hq:fnd l h with
 | none =>
  rw [hq] at hF
  refine RG.callS rfl rfl rfl rfl rfl hF rfl rfl ?_;refine wH rfl ?_;refine jA ?_
  refine AW.condT rfl ?_;refine jA ?_
  refine AW.ret (retQA ty_ok rfl rfl rfl ?_)
  rw [oneR,hq]
  rfl
 | some r =>
  obtain ⟨hr1,_,_⟩:=fnd_lt hq
  have hrx:(l.map cRl)[r]?=some (cRl (l.getD r Rl.zero)):=by rw [List.getElem?_map,List.getElem?_eq_getElem hr1,List.getD_eq_getElem?_getD,List.getElem?_eq_getElem hr1];rfl
  rw [hq] at hF
  refine RG.callS rfl rfl rfl rfl rfl hF rfl rfl ?_;refine wH rfl ?_;refine jA ?_
  refine AW.condF rfl ?_;refine jA ?_
  refine RG.opS rfl (op_index rfl (tab_ok ty_ok rfl) rfl (tab_ok ty_ok rfl) rfl rfl hx rfl) rfl ?_
  refine wH rfl ?_
  refine RG.opS rfl (op_index rfl (tab_ok ty_ok rfl) rfl (tab_ok ty_ok rfl) rfl rfl hrx rfl) rfl ?_
  refine wH rfl ?_
  refine RG.callS rfl rfl rfl rfl rfl (d_RSet (l.getD r Rl.zero) h) rfl rfl ?_;refine wH rfl ?_;refine jA ?_
  refine AW.ret (retQA ty_ok rfl rfl rfl ?_)
  rw [oneR,hq]
  rfl
end Go.Proofs.YtoaibdbehlcnfaaGreat.Sm
end
section
namespace Go.Proofs.YtoaibdbehlcnfaaGreat.Sm
open Go.RowKit
structure Pk where
 n:Int
 t:Int
 h:Hd
 fin:Int
 sw:Int
 port:Int
 hops:List Hop
def wkB (c:Cf) (w:Pk):List (Nat × SB):=[(0,⟨0,some (.box 253 [.sl (c.topo.ports.map cPts),.i .i64 c.pol.tenants,.sl (c.pol.peers.map cPr),.sl (c.pol.ways.map cWy),.sl (c.tables.map cTab),.i .i64 w.n,.i .i64 w.t,.u w.h.hi,.u w.h.lo,.i .i64 w.fin,.i .i64 w.sw,.i .i64 w.port,.row 1 0 0 (w.hops.map cHop).length])⟩),(1,⟨0,some (.row 78 5 (w.hops.map cHop))⟩)]
def LooksOk (c:Cf):Prop:=∀n t,LookOk (tabOf c n t)
def stepW (c:Cf) (w:Pk):Pk :=
 match fnd (tabOf c w.n.toNat w.t.toNat) w.h with
 | none=>⟨w.n,w.t,w.h,3,w.sw,w.port,w.hops++[⟨w.n,w.t,-1,w.h⟩]⟩
 | some r =>
  if ((tabOf c w.n.toNat w.t.toNat).getD r Rl.zero).act.kind=4 then ⟨w.n,((tabOf c w.n.toNat w.t.toNat).getD r Rl.zero).act.table,w.h.set ((tabOf c w.n.toNat w.t.toNat).getD r Rl.zero).act.set,w.fin,w.sw,w.port,w.hops++[⟨w.n,w.t,(r:Nat),w.h⟩]⟩
  else if ((tabOf c w.n.toNat w.t.toNat).getD r Rl.zero).act.kind=3 then ⟨(portAt c.topo.ports ⟨w.n,((tabOf c w.n.toNat w.t.toNat).getD r Rl.zero).act.port⟩).peer,0,w.h.set ((tabOf c w.n.toNat w.t.toNat).getD r Rl.zero).act.set,w.fin,w.sw,w.port,w.hops++[⟨w.n,w.t,(r:Nat),w.h⟩]⟩
  else if ((tabOf c w.n.toNat w.t.toNat).getD r Rl.zero).act.kind=2 then ⟨w.n,w.t,w.h.set ((tabOf c w.n.toNat w.t.toNat).getD r Rl.zero).act.set,2,w.n,((tabOf c w.n.toNat w.t.toNat).getD r Rl.zero).act.port,w.hops++[⟨w.n,w.t,(r:Nat),w.h⟩]⟩
  else ⟨w.n,w.t,w.h.set ((tabOf c w.n.toNat w.t.toNat).getD r Rl.zero).act.set,1,w.sw,w.port,w.hops++[⟨w.n,w.t,(r:Nat),w.h⟩]⟩
theorem m_step (c:Cf) (hc:c.Ok) (hL:LooksOk c) (n t:Nat) (hat:At c n t) (h:Hd) (hops:List Hop) (hl:hops.length<=100000000) (w':Pk) (hw:stepW c ⟨n,t,h,0,0,0,hops⟩=w') (g:Bool) (hg:decide (w'.fin=0)=g) (q:Nat->Option (Nat × Nat)):MDoes Tryz.prog 160 [.own 0 0 0] (gl q [0] (wkB c ⟨n,t,h,0,0,0,hops⟩)) (.b g) (gl q [0] (wkB c w')):=by
 obtain ⟨ts,ht1,ht2⟩:=hat.get
 have hx1:(c.tables.map cTab)[n]?=some (cTab ts):=by rw [List.getElem?_map,ht1];rfl
 have hx2:(ts.map cRls)[t]?=some (cRls (tabOf c n t)):=by rw [List.getElem?_map,ht2];rfl
 have hO:=d_One ts t (tabOf c n t) h ht2 (hL n t)
 rw [stepW] at hw
 simp only [Int.toNat_natCast] at hw
 refine MDoes.of_body Tryz.func160 rfl (by kernel_rfl) rfl rfl ?_
 refine jA ?_
 refine RG.opS rfl (op_index rfl (tab_ok ty_ok rfl) rfl (tab_ok ty_ok rfl) rfl rfl hx1 rfl) rfl ?_
 refine wH rfl ?_
 cases hq:fnd (tabOf c n t) h with
 | none =>
  rw [oneR,hq] at hO
  rw [hq] at hw
  dsimp only at hw
  subst hw
  subst hg
  refine RG.callS rfl rfl rfl rfl rfl hO rfl rfl ?_;refine wH rfl ?_;refine jA ?_
  refine AW.condT rfl ?_;refine jA ?_
  refine RG.opS rfl (op_app1 cHop hops ⟨n,t,-1,h⟩ hl rfl rfl rfl rfl (tab_ok ty_ok rfl) rfl (tab_ok ty_ok rfl) rfl rfl ⟨_,rfl,rfl⟩ rfl rfl) rfl ?_;refine wH rfl ?_;refine jA ?_
  refine AW.condT rfl ?_;refine jA ?_
  exact AW.ret (retM1 rfl (Rm.is rfl rfl) ⟨.ghost rfl rfl rfl,.boxL rfl ⟨Rn.is rfl rfl,Rn.is rfl rfl,Rn.is rfl rfl,Rn.is rfl rfl,Rn.is rfl rfl,Rn.is rfl rfl,Rn.is rfl rfl,Rn.is rfl rfl,Rn.is rfl rfl,Rn.is rfl rfl,Rn.is rfl rfl,Rn.is rfl rfl,Rn.rowIs rfl rfl rfl,trivial⟩ rfl,.row rfl rfl,trivial⟩)
 | some r =>
  obtain ⟨hr1,hr2,_⟩:=fnd_lt hq
  have hrx:((tabOf c n t).map cRl)[r]?=some (cRl ((tabOf c n t).getD r Rl.zero)):=by rw [List.getElem?_map,List.getElem?_eq_getElem hr1,List.getD_eq_getElem?_getD,List.getElem?_eq_getElem hr1];rfl
  rw [oneR,hq] at hO
  rw [hq] at hw
  dsimp only at hw hO
  generalize (tabOf c n t).getD r Rl.zero=x at hw hO hr2 hrx
  have hkind:=Rl.does_kind (Rl.sound_does (hat.rule hc hr2).1).2.2
  refine RG.callS rfl rfl rfl rfl rfl hO rfl rfl ?_;refine wH rfl ?_;refine jA ?_
  refine AW.condF rfl ?_;refine jA ?_
  refine RG.opS rfl (op_app1 cHop hops ⟨n,t,r,h⟩ hl rfl rfl rfl rfl (tab_ok ty_ok rfl) rfl (tab_ok ty_ok rfl) rfl rfl ⟨_,rfl,rfl⟩ rfl rfl) rfl ?_;refine wH rfl ?_;refine jA ?_
  refine AW.condF rfl ?_;refine jA ?_
  refine RG.opS rfl (op_index rfl (tab_ok ty_ok rfl) rfl (tab_ok ty_ok rfl) rfl rfl hx1 rfl) rfl ?_
  refine wH rfl ?_
  refine RG.opS rfl (op_index rfl (tab_ok ty_ok rfl) rfl (tab_ok ty_ok rfl) rfl rfl hx2 rfl) rfl ?_
  refine wH rfl ?_
  refine RG.opS rfl (op_index rfl (tab_ok ty_ok rfl) rfl (tab_ok ty_ok rfl) rfl rfl hrx rfl) rfl ?_
  refine wH rfl ?_;refine jA ?_
  refine AW.cond rfl (fun k4=>?_) (fun k4=>?_)
  ·have k4:x.act.kind=4:=of_decide_eq_true k4
   rw [if_pos k4] at hw
   subst hw
   subst hg
   refine jA ?_
   exact AW.ret (retM1 rfl (Rm.is rfl rfl) ⟨.ghost rfl rfl rfl,.boxL rfl ⟨Rn.is rfl rfl,Rn.is rfl rfl,Rn.is rfl rfl,Rn.is rfl rfl,Rn.is rfl rfl,Rn.is rfl rfl,Rn.is rfl rfl,Rn.is rfl rfl,Rn.is rfl rfl,Rn.is rfl rfl,Rn.is rfl rfl,Rn.is rfl rfl,Rn.rowIs rfl rfl rfl,trivial⟩ rfl,.row rfl rfl,trivial⟩)
  have k4:¬x.act.kind=4:=of_decide_eq_false k4
  rw [if_neg k4] at hw
  refine jA ?_
  refine AW.cond rfl (fun k3=>?_) (fun k3=>?_)
  ·have k3:x.act.kind=3:=of_decide_eq_true k3
   rw [if_pos k3] at hw
   obtain ⟨hl1,hl2,hl3⟩:=hat.link hc hr2 k3
   obtain ⟨hd1,hd2,hd3⟩:=Rl.does_forward (Rl.sound_does (hat.rule hc hr2).1).2.2 k3
   obtain ⟨pn,hpn⟩:=Int.eq_ofNat_of_zero_le hd1
   have hnl:n<c.topo.ports.length:=by rw [<- hc.len];exact hat.sw
   have ep:c.topo.ports.getD n []=c.topo.ports[n]:=getD_at (List.getElem?_eq_getElem hnl)
   rw [ep] at hd2
   have hpl:pn<c.topo.ports[n].length:=by omega
   have epp:portAt c.topo.ports ⟨n,x.act.port⟩=c.topo.ports[n][pn]:=by
    rw [hpn]
    exact portAt_at (List.getElem?_eq_getElem hnl) (List.getElem?_eq_getElem hpl)
   have hOt:=d_Other c.topo.ports n pn _ _ hc.topo (List.getElem?_eq_getElem hnl) (List.getElem?_eq_getElem hpl) (by rw [<- epp];exact hl3)
   rw [epp] at hw
   rw [<- hpn] at hOt
   subst hw
   subst hg
   refine jA ?_
   refine RG.callS rfl rfl rfl rfl rfl hOt rfl rfl ?_;refine wH rfl ?_;refine jA ?_
   exact AW.ret (retM1 rfl (Rm.is rfl rfl) ⟨.ghost rfl rfl rfl,.boxL rfl ⟨Rn.is rfl rfl,Rn.is rfl rfl,Rn.is rfl rfl,Rn.is rfl rfl,Rn.is rfl rfl,Rn.is rfl rfl,Rn.is rfl rfl,Rn.is rfl rfl,Rn.is rfl rfl,Rn.is rfl rfl,Rn.is rfl rfl,Rn.is rfl rfl,Rn.rowIs rfl rfl rfl,trivial⟩ rfl,.row rfl rfl,trivial⟩)
  have k3:¬x.act.kind=3:=of_decide_eq_false k3
  rw [if_neg k3] at hw
  refine jA ?_
  refine AW.cond rfl (fun k2=>?_) (fun k2=>?_)
  ·have k2:x.act.kind=2:=of_decide_eq_true k2
   rw [if_pos k2] at hw
   subst hw
   subst hg
   refine jA ?_
   exact AW.ret (retM1 rfl (Rm.is rfl rfl) ⟨.ghost rfl rfl rfl,.boxL rfl ⟨Rn.is rfl rfl,Rn.is rfl rfl,Rn.is rfl rfl,Rn.is rfl rfl,Rn.is rfl rfl,Rn.is rfl rfl,Rn.is rfl rfl,Rn.is rfl rfl,Rn.is rfl rfl,Rn.is rfl rfl,Rn.is rfl rfl,Rn.is rfl rfl,Rn.rowIs rfl rfl rfl,trivial⟩ rfl,.row rfl rfl,trivial⟩)
  have k2:¬x.act.kind=2:=of_decide_eq_false k2
  rw [if_neg k2] at hw
  subst hw
  subst hg
  refine jA ?_
  exact AW.ret (retM1 rfl (Rm.is rfl rfl) ⟨.ghost rfl rfl rfl,.boxL rfl ⟨Rn.is rfl rfl,Rn.is rfl rfl,Rn.is rfl rfl,Rn.is rfl rfl,Rn.is rfl rfl,Rn.is rfl rfl,Rn.is rfl rfl,Rn.is rfl rfl,Rn.is rfl rfl,Rn.is rfl rfl,Rn.is rfl rfl,Rn.is rfl rfl,Rn.rowIs rfl rfl rfl,trivial⟩ rfl,.row rfl rfl,trivial⟩)
end Go.Proofs.YtoaibdbehlcnfaaGreat.Sm
end
section
namespace Go.Proofs.YtoaibdbehlcnfaaGreat.Sm
open Go.RowKit
theorem Rn.fnOwn {σ σ':Sto} {x:AV} {f:FuncId} {id ep ep' off:Nat} {bd bd':Body} (e:x = .fn f [.own id ep off] []) (h:σ id=⟨ep,some bd⟩) (h':σ' id=⟨ep',some bd'⟩):Rn σ σ' x (.fn f [.own id ep' off] []):=by
 subst e
 refine .fn rfl rfl (fun j x x' h1 h2=>?_) (fun j x x' h1=>by simp at h1)
 cases j with
 | zero =>
  obtain rfl:AV.own id ep off=x:=by simpa using h1
  obtain rfl:AV.own id ep' off=x':=by simpa using h2
  exact .own h h'
 | succ j=>simp at h1
def wkC (c:Cf) (n t:Nat) (h:Hd) (hops:List Hop):List AV:=[.sl (c.topo.ports.map cPts),.i .i64 c.pol.tenants,.sl (c.pol.peers.map cPr),.sl (c.pol.ways.map cWy),.sl (c.tables.map cTab),.i .i64 n,.i .i64 t,.u h.hi,.u h.lo,.i .i64 0,.i .i64 0,.i .i64 0,.row 40 0 0 (hops.map cHop).length]
theorem runRow2 (fin sw port:Int) (hops:List Hop) (R:Run) (h:(⟨fin,⟨sw,port⟩,hops⟩:Run)=R):AV.tup [.agg [.i .i64 fin,.i .i64 sw,.i .i64 port,.sl (((hops.map cHop).drop 0).take (hops.map cHop).length)],.i .i64 0] = .tup [.agg (cRun R),.i .i64 0]:=congrArg (fun x=>AV.tup [x,.i .i64 0]) (runRow fin sw port hops R h)
theorem d_Run (c:Cf) (h0:c.sound=0) (hL:LooksOk c) (s:Sp) (hs:s∈edges c.topo.ports) (h:Hd) (V:Nat) (hV:V<=255):PDoes Tryz.prog 109 [.agg (cCf c),.agg (cSp s),.agg (cHd h),.i .i64 V] (.tup [.agg (cRun (runOf c s h V 10800)),.i .i64 0]):=by
 have hc:=Cf.ok h0
 have hSt:=d_CStamp c s V
 have e0:stampE c s V=0:=by rw [stampE,if_pos h0,if_neg (by omega),if_pos hs]
 rw [stampC,e0,if_pos rfl] at hSt
 obtain ⟨n0,r0,a0,p0,hr0,hp0,hk0,rfl⟩:=edges_mem.1 hs
 have hat0:At c n0 0:=At.start hc (List.getElem?_eq_some_iff.1 hr0).1
 have hR:goF c 10800 n0 0 (h.set (stampOf c ⟨n0,a0⟩ V)) []=runOf c ⟨n0,a0⟩ h V 10800:=rfl
 generalize runOf c ⟨n0,a0⟩ h V 10800=R at hR
 have hS:=d_Set h (stampOf c ⟨n0,a0⟩ V)
 generalize h.set (stampOf c ⟨n0,a0⟩ V)=g0 at hR hS
 refine PDoes.of_bodyN Tryz.func109 rfl (by kernel_rfl) rfl rfl ?_
 refine jA ?_
 refine RG.callS rfl rfl rfl rfl rfl hSt rfl rfl ?_;refine wH rfl ?_;refine jA ?_
 refine AW.condF rfl ?_;refine jB ?_
 refine AW.draws mixed_ok ?_
 refine wH rfl ?_
 refine RG.callS rfl rfl rfl rfl rfl hS rfl rfl ?_
 refine wH rfl ?_;refine jB ?_
 refine AW.nilRow 40 0 78 5 [(8,.own 8 0 0),(12,.own 33 0 0)] [(8,⟨0,some (.box 53 [.i .i64 0,.i .i64 0,.i .i64 0,.raw (.slice none 0 0)])⟩),(33,⟨0,some (.box 253 (wkC c n0 0 g0 []))⟩),(40,⟨0,some (.row 78 5 [])⟩)] ⟨.rn (Rn.ownIs rfl rfl rfl),.rn (Rn.ownIs rfl rfl rfl),trivial⟩ ⟨.old (.same rfl rfl rfl),.boxL rfl ⟨RnN.is rfl rfl,RnN.is rfl rfl,RnN.is rfl rfl,RnN.is rfl rfl,RnN.is rfl rfl,RnN.is rfl rfl,RnN.is rfl rfl,RnN.is rfl rfl,RnN.is rfl rfl,RnN.is rfl rfl,RnN.is rfl rfl,RnN.is rfl rfl,.nil rfl,trivial⟩ rfl,.old (.row rfl rfl),trivial⟩ ?_
 refine jA ?_
 refine AW.loopL (ι:=Nat × Nat × Nat × Hd × List Hop) (fun i=>[(8,.own 8 0 0),(12,.own 33 0 0),(13,.fn 160 [.own 33 0 0] []),(36,.i .i64 (i.1:Nat))]) (fun i=>[(8,⟨0,some (.box 53 [.i .i64 0,.i .i64 0,.i .i64 0,.raw (.slice none 0 0)])⟩),(33,⟨0,some (.box 253 (wkC c i.2.1 i.2.2.1 i.2.2.2.1 i.2.2.2.2))⟩),(40,⟨0,some (.row 78 5 (i.2.2.2.2.map cHop))⟩)]) (fun i=>(i.1<=10800/\i.2.2.2.2.length=i.1)/\At c i.2.1 i.2.2.1/\goF c (10800 - i.1) i.2.1 i.2.2.1 i.2.2.2.1 i.2.2.2.2=R) (fun i=>10800 - i.1) (0,n0,0,g0,[]) ⟨⟨Nat.zero_le _,rfl⟩,hat0,hR⟩ ⟨Rn.ownIs rfl rfl rfl,Rn.ownIs rfl rfl rfl,Rn.fnOwn rfl rfl rfl,Rn.is rfl rfl,trivial⟩ ⟨.same rfl rfl rfl,.boxL rfl ⟨Rn.is rfl rfl,Rn.is rfl rfl,Rn.is rfl rfl,Rn.is rfl rfl,Rn.is rfl rfl,Rn.is rfl rfl,Rn.is rfl rfl,Rn.is rfl rfl,Rn.is rfl rfl,Rn.is rfl rfl,Rn.is rfl rfl,Rn.is rfl rfl,Rn.rowIs rfl rfl rfl,trivial⟩ rfl,.row rfl rfl,trivial⟩ fun i hi=>?_
 obtain ⟨k,n,t,h,hops⟩:=i
 obtain ⟨⟨hk,hlen⟩,hat,hf⟩:=hi
 simp only at hk hlen hat hf
 clear hR hS hSt hat0
 refine jA ?_
 refine AW.cond rfl (fun h1=>?_) (fun h1=>?_)
 rotate_left
 ·have h1:=of_decide_eq_false h1
  have h1:¬((k:Nat):Int)<10800:=h1
  obtain rfl:k=10800:=by omega
  rw [Nat.sub_self,goF] at hf
  refine jA ?_
  refine AW.exit ?_;refine Eq.mpr (if_pos rfl) ?_;refine jA ?_
  refine AW.ret (retQA ty_ok rfl rfl rfl ?_)
  exact runRow2 4 0 0 hops R hf
 have h1:=of_decide_eq_true h1
 have h1:((k:Nat):Int)<10800:=h1
 have hk':k<10800:=by omega
 have hL1:hops.length<=100000000:=by omega
 obtain ⟨f,hfu⟩:∃f,10800 - k=f+1:=⟨10800 - k - 1,by omega⟩
 have hlt:∀x:Hop,(hops++[x]).length=k+1:=fun x=>by rw [List.length_append,List.length_singleton,hlen]
 have hnx:10800 - (k+1)=f:=by omega
 rw [hfu,goF] at hf
 have hw:∀w',stepW c ⟨n,t,h,0,0,0,hops⟩=w'->∀g,decide (w'.fin=0)=g->∀q,MDoes Tryz.prog 160 [.own 0 0 0] (gl q [0] (wkB c ⟨n,t,h,0,0,0,hops⟩)) (.b g) (gl q [0] (wkB c w')):=fun w' hw g hg q=>m_step c hc hL n t hat h hops hL1 w' hw g hg q
 simp only [stepW,Int.toNat_natCast] at hw
 cases hq:fnd (tabOf c n t) h with
 | none =>
  rw [hq] at hf hw
  dsimp only at hf hw
  refine jA ?_
  refine RG.ownN [(33,0),(40,1)] [(0,33),(1,40)] (fun q=>hw _ rfl false rfl q) rfl rfl rfl rfl rfl rfl rfl rfl rfl rfl ?_
  refine wH rfl ?_;refine jA ?_;refine AW.condT rfl ?_;refine jA ?_
  refine AW.ret (retQA ty_ok rfl rfl rfl ?_)
  exact runRow2 3 0 0 _ R hf
 | some r =>
  obtain ⟨hr1,hr2,_⟩:=fnd_lt hq
  rw [hq] at hf hw
  dsimp only at hf hw
  generalize (tabOf c n t).getD r Rl.zero=x at hw hf hr2
  by_cases k4:x.act.kind=4
  ·rw [if_pos k4] at hf hw
   have hg:=Rl.does_goto (Rl.sound_does (hat.rule hc hr2).1).2.2 k4
   refine jA ?_
   refine RG.ownN [(33,0),(40,1)] [(0,33),(1,40)] (fun q=>hw _ rfl true rfl q) rfl rfl rfl rfl rfl rfl rfl rfl rfl rfl ?_
   refine wH rfl ?_;refine jA ?_;refine AW.condF rfl ?_;refine jA ?_
   exact ⟨(k+1,n,x.act.table.toNat,h.set x.act.set,hops++[⟨n,t,r,h⟩]),⟨⟨⟨by show k+1<=10800;omega,hlt _⟩,hat.goto hc hr2 k4,by show goF c (10800 - (k+1)) _ _ _ _=R;rw [hnx];exact hf⟩,by show 10800 - (k+1)<10800 - k;omega⟩,⟨Rn.ownIs rfl rfl rfl,Rn.ownIs rfl rfl rfl,Rn.fnOwn rfl rfl rfl,Rn.is (i64_next hk' (by decide)) rfl,trivial⟩,⟨.same rfl rfl rfl,.boxL rfl ⟨Rn.is rfl rfl,Rn.is rfl rfl,Rn.is rfl rfl,Rn.is rfl rfl,Rn.is rfl rfl,Rn.is rfl rfl,Rn.is (congrArg (AV.i .i64) (show x.act.table=(x.act.table.toNat:Nat) by omega)) rfl,Rn.is rfl rfl,Rn.is rfl rfl,Rn.is rfl rfl,Rn.is rfl rfl,Rn.is rfl rfl,Rn.rowIs rfl rfl rfl,trivial⟩ rfl,.row rfl rfl,trivial⟩⟩
  rw [if_neg k4] at hf hw
  by_cases k3:x.act.kind=3
  ·rw [if_pos k3] at hf hw
   obtain ⟨hl1,hl2,hl3⟩:=hat.link hc hr2 k3
   have hat2:=hat.forward hc hr2 k3
   refine jA ?_
   refine RG.ownN [(33,0),(40,1)] [(0,33),(1,40)] (fun q=>hw _ rfl true rfl q) rfl rfl rfl rfl rfl rfl rfl rfl rfl rfl ?_
   refine wH rfl ?_;refine jA ?_;refine AW.condF rfl ?_;refine jA ?_
   exact ⟨(k+1,(portAt c.topo.ports ⟨n,x.act.port⟩).peer.toNat,0,h.set x.act.set,hops++[⟨n,t,r,h⟩]),⟨⟨⟨by show k+1<=10800;omega,hlt _⟩,hat2,by show goF c (10800 - (k+1)) _ _ _ _=R;rw [hnx];exact hf⟩,by show 10800 - (k+1)<10800 - k;omega⟩,⟨Rn.ownIs rfl rfl rfl,Rn.ownIs rfl rfl rfl,Rn.fnOwn rfl rfl rfl,Rn.is (i64_next hk' (by decide)) rfl,trivial⟩,⟨.same rfl rfl rfl,.boxL rfl ⟨Rn.is rfl rfl,Rn.is rfl rfl,Rn.is rfl rfl,Rn.is rfl rfl,Rn.is rfl rfl,Rn.is (congrArg (AV.i .i64) (show (portAt c.topo.ports ⟨n,x.act.port⟩).peer=((portAt c.topo.ports ⟨n,x.act.port⟩).peer.toNat:Nat) by omega)) rfl,Rn.is rfl rfl,Rn.is rfl rfl,Rn.is rfl rfl,Rn.is rfl rfl,Rn.is rfl rfl,Rn.is rfl rfl,Rn.rowIs rfl rfl rfl,trivial⟩ rfl,.row rfl rfl,trivial⟩⟩
  rw [if_neg k3] at hf hw
  by_cases k2:x.act.kind=2
  ·rw [if_pos k2] at hf hw
   refine jA ?_
   refine RG.ownN [(33,0),(40,1)] [(0,33),(1,40)] (fun q=>hw _ rfl false rfl q) rfl rfl rfl rfl rfl rfl rfl rfl rfl rfl ?_
   refine wH rfl ?_;refine jA ?_;refine AW.condT rfl ?_;refine jA ?_
   refine AW.ret (retQA ty_ok rfl rfl rfl ?_)
   exact runRow2 2 n x.act.port _ R hf
  ·rw [if_neg k2] at hf hw
   refine jA ?_
   refine RG.ownN [(33,0),(40,1)] [(0,33),(1,40)] (fun q=>hw _ rfl false rfl q) rfl rfl rfl rfl rfl rfl rfl rfl rfl rfl ?_
   refine wH rfl ?_;refine jA ?_;refine AW.condT rfl ?_;refine jA ?_
   refine AW.ret (retQA ty_ok rfl rfl rfl ?_)
   exact runRow2 1 0 0 _ R hf
end Go.Proofs.YtoaibdbehlcnfaaGreat.Sm
end
section
namespace Go.Proofs.YtoaibdbehlcnfaaGreat.Sm
open Go.RowKit
theorem d_Clone_Int (l:List Int) (hl:l.length<=1000000):PDoes Tryz.prog 83 [.sl (l.map cI)] (.sl (l.map cI)):=by
 cases l with
 | nil =>
  refine PDoes.raw0 fun A c=>?_
  refine PDoes.of_bodyN Tryz.func83 rfl (by kernel_rfl) rfl rfl ?_
  cases A with
  | none =>
   refine jA ?_
   refine AW.condT rfl ?_;refine jA ?_
   refine AW.ret (retQA ty_ok rfl rfl rfl ?_)
   rfl
  | some A =>
   refine jA ?_
   refine AW.condF rfl ?_;refine jA ?_
   refine RG.opS rfl (op_build0 (id:=5) rfl (tab_ok ty_ok rfl) rfl (tab_ok ty_ok rfl)) rfl ?_;refine wH rfl ?_;refine jA ?_
   refine RG.opS rfl (op_append0 (id:=5) (els:=[]) rfl rfl rfl rfl (tab_ok ty_ok rfl) rfl (tab_ok ty_ok rfl) rfl (.inl ⟨_,rfl,rfl⟩) rfl (by decide) (by decide)) rfl ?_
   refine wH rfl ?_;refine jA ?_
   refine AW.ret (retQA ty_ok rfl rfl rfl ?_)
   rfl
 | cons x l =>
  refine PDoes.of_bodyN Tryz.func83 rfl (by kernel_rfl) rfl rfl ?_
  refine jA ?_
  refine AW.condF rfl ?_;refine jA ?_
  refine RG.opS rfl (op_build0 (id:=5) rfl (tab_ok ty_ok rfl) rfl (tab_ok ty_ok rfl)) rfl ?_;refine wH rfl ?_;refine jA ?_
  refine RG.opS rfl (op_appL cI ([]:List Int) (x::l) (by simp at hl ⊢;omega) (fun _=>rfl) rfl rfl rfl rfl (tab_ok ty_ok rfl) rfl (tab_ok ty_ok rfl) rfl rfl ⟨_,rfl,rfl⟩ rfl) rfl ?_;refine wH rfl ?_;refine jA ?_
  refine AW.ret (retQA ty_ok rfl rfl rfl ?_)
  exact rowAll rfl
theorem d_Clone_Cb (l:List Cb) (hl:l.length<=1000000):PDoes Tryz.prog 85 [.sl (l.map cCb)] (.sl (l.map cCb)):=by
 cases l with
 | nil =>
  refine PDoes.raw0 fun A c=>?_
  refine PDoes.of_bodyN Tryz.func85 rfl (by kernel_rfl) rfl rfl ?_
  cases A with
  | none =>
   refine jA ?_
   refine AW.condT rfl ?_;refine jA ?_
   refine AW.ret (retQA ty_ok rfl rfl rfl ?_)
   rfl
  | some A =>
   refine jA ?_
   refine AW.condF rfl ?_;refine jA ?_
   refine RG.opS rfl (op_build0 (id:=5) rfl (tab_ok ty_ok rfl) rfl (tab_ok ty_ok rfl)) rfl ?_;refine wH rfl ?_;refine jA ?_
   refine RG.opS rfl (op_append0 (id:=5) (els:=[]) rfl rfl rfl rfl (tab_ok ty_ok rfl) rfl (tab_ok ty_ok rfl) rfl (.inl ⟨_,rfl,rfl⟩) rfl (by decide) (by decide)) rfl ?_
   refine wH rfl ?_;refine jA ?_
   refine AW.ret (retQA ty_ok rfl rfl rfl ?_)
   rfl
 | cons x l =>
  refine PDoes.of_bodyN Tryz.func85 rfl (by kernel_rfl) rfl rfl ?_
  refine jA ?_
  refine AW.condF rfl ?_;refine jA ?_
  refine RG.opS rfl (op_build0 (id:=5) rfl (tab_ok ty_ok rfl) rfl (tab_ok ty_ok rfl)) rfl ?_;refine wH rfl ?_;refine jA ?_
  refine RG.opS rfl (op_appL cCb ([]:List Cb) (x::l) (by simp at hl ⊢;omega) (fun _=>rfl) rfl rfl rfl rfl (tab_ok ty_ok rfl) rfl (tab_ok ty_ok rfl) rfl rfl ⟨_,rfl,rfl⟩ rfl) rfl ?_;refine wH rfl ?_;refine jA ?_
  refine AW.ret (retQA ty_ok rfl rfl rfl ?_)
  exact rowAll rfl
theorem op_capN {P:Program} {N:Nat} {o:Oper} {s:St} {c:Call} {x:Operand} {t e:Nat} {ti:TI} (ho:o.op = .call c) (hc:c.callee = .builtin .cap) (ha:c.args = #[x]) (hat:c.argTypes = #[t]) (ht:TiOk P t ti) (hk:ti.k = .slice e) (hx:s.ev x = .raw (.slice none 0 0)):OpLoc P N o s ⟨.i .i64 ((0:Nat):Int),[],[]⟩:=by
 refine oploc_val [] _ fun s' W F μ a h1 h2 hs=>⟨.int .i64 ((0:Nat):Int),?_,.pure (.i _ _)⟩
 have ex:=hs.ev x
 rw [h1 x (by rw [ho];simp [Op.operands,Call.operands,hc,ha]),hx] at ex
 simp only [execOp,ho,resolve,hc,ha,hat,List.map_toArray,List.map_cons,List.map_nil,Sem.run_bind,Sem.run_pure,Result.andThen_ok,invoke,builtin,Builtin.cap_,ex.raw',List.getElem?_toArray,List.getElem?_cons_zero,run_underlying (ht.slice hk),goInt]
theorem m_Grow (n:Nat) (h0:0<n) (hn:n<=1000000) (q:Nat->Option (Nat × Nat)):MDoes Tryz.prog 284 [.raw (.slice none 0 0),.i .i64 (n:Nat)] (gl q [] []) (.row 2 0 0 0) (gl q [] [(2,⟨0,some (.row 3 1 [])⟩)]):=by
 refine MDoes.of_body Tryz.func284 rfl (by kernel_rfl) rfl rfl ?_
 refine jA ?_
 refine AW.cond rfl (fun h=>?_) (fun h=>?_)
 ·exact absurd (of_decide_eq_true h) (by simp only [Int.ofNat_eq_natCast];omega)
 have hw:IntKind.i64.wrap ((n:Int) - IntKind.i64.wrap (((0:Nat):Int) - ((0:Nat):Int)))=(n:Nat):=by
  rw [IntKind.wrap_i64,IntKind.wrap_i64]
  omega
 refine jA ?_
 refine RG.opS rfl (op_capN rfl rfl rfl rfl (tab_ok ty_ok rfl) rfl rfl) rfl ?_
 refine RG.runO ty_ok 0 [(14,.i .i64 (n:Nat))] 400 rfl jD ?_
 refine jA ?_
 refine AW.cond rfl (fun h=>?_) (fun h=>?_)
 rotate_left
 ·exact absurd (show Int.ofNat 0<(n:Int) by simp only [Int.ofNat_eq_natCast];omega) (of_decide_eq_false h)
 refine jA ?_
 refine RG.opS rfl (op_capN rfl rfl rfl rfl (tab_ok ty_ok rfl) rfl rfl) rfl ?_
 refine RG.opS rfl (op_sliceN rfl (tab_ok ty_ok rfl) rfl (tab_ok ty_ok rfl) rfl .no (.at_ rfl)) rfl ?_
 refine wH rfl ?_
 refine RG.opS rfl (op_appendMake (id:=2) n h0 (by omega) rfl rfl rfl rfl (tab_ok ty_ok rfl) rfl (tab_ok ty_ok rfl) rfl (tab_ok ty_ok rfl) (by decide) (by decide) rfl rfl) rfl ?_
 refine wH rfl ?_
 refine RG.opS rfl (op_sliceR (h:=0) rfl (tab_ok ty_ok rfl) rfl (tab_ok ty_ok rfl) rfl rfl .no (.at_ rfl) (Nat.zero_le _)) rfl ?_
 refine wH rfl ?_;refine jB ?_
 refine AW.only [(0,.row 2 0 0 0)] [(2,⟨0,some (.row 3 1 [])⟩)] ⟨Rn.rowTIs rfl rfl rfl (Nat.le_refl _),trivial⟩ ⟨.rowT (n:=0) rfl rfl,trivial⟩ ?_
 refine jA ?_
 exact AW.ret (retM1 rfl (Rm.rowIs rfl rfl rfl rfl) ⟨.row rfl rfl,trivial⟩)
def cL (l:List Int):List AV:=[.sl (l.map cI)]
theorem flat_take {α:Type} (xs:List (List α)) (k:Nat) (h:k<xs.length):(xs.take (k+1)).flatten=(xs.take k).flatten++xs[k]:=by
 rw [List.take_add_one,List.getElem?_eq_getElem h,List.flatten_append]
 simp only [Option.toList,List.flatten_cons,List.flatten_nil,List.append_nil]
theorem flat_le {α:Type} (xs:List (List α)) (k:Nat):(xs.take k).flatten.length<=xs.flatten.length:=by
 have e:=congrArg List.length (congrArg List.flatten (List.take_append_drop k xs))
 rw [List.flatten_append,List.length_append] at e
 omega
theorem d_Concat (xs:List (List Int)) (h0:0<xs.flatten.length) (hn:xs.flatten.length<=1000000) (hx:xs.length<=1000000):PDoes Tryz.prog 259 [.sl (xs.map cL)] (.sl (xs.flatten.map cI)):=by
  refine PDoes.of_bodyN Tryz.func259 rfl (by kernel_rfl) rfl rfl ?_
  have hm:xs.length<=9223372036854775807:=by omega
  refine jA ?_
  refine AW.loopL (ι:=Nat × Nat) (fun i=>[(0,.sl (xs.map cL)),(3,.i .i64 (i.2:Nat)),(9,.sl (xs.map cL)),(10,.i .i64 (xs.map cL).length),(11,.i .i64 (i.1:Nat))]) (fun _=>[]) (fun i=>i.1<=xs.length/\i.2=(xs.take i.1).flatten.length) (fun i=>xs.length - i.1) (0,0) ⟨Nat.zero_le _,rfl⟩ jW trivial fun i hi=>?_
  obtain ⟨k,n⟩:=i
  obtain ⟨hk,hf⟩:=hi
  simp only at hk hf
  refine jA ?_
  refine AW.cond rfl (fun h0'=>?_) (fun h0'=>?_)
  · have h:k<xs.length:=by simpa using h0'
    have h2:n+xs[k].length=(xs.take (k+1)).flatten.length:=by rw [flat_take xs k h,List.length_append,hf]
    have h3:=flat_le xs (k+1)
    have hw:IntKind.i64.wrap ((n:Int)+((xs[k].map cI).length:Nat))=((n+xs[k].length:Nat):Int):=by
      rw [IntKind.wrap_i64,List.length_map]
      omega
    refine jB ?_
    refine AW.text ?_
    refine RG.opS rfl (op_index rfl (tab_ok ty_ok rfl) rfl (tab_ok ty_ok rfl) rfl rfl (show (xs.map cL)[k]?=some (cL xs[k]) by rw [List.getElem?_map,List.getElem?_eq_getElem (by assumption)];rfl) rfl) rfl ?_
    refine wH rfl ?_;refine jB ?_
    refine AW.text ?_
    refine RG.runO ty_ok 0 [(18,.i .i64 (n+xs[k].length:Nat))] 400 rfl jD ?_
    refine jA ?_
    refine AW.cond rfl (fun h4=>?_) (fun h4=>?_)
    · exact absurd (of_decide_eq_true h4) (by simp only [Int.ofNat_eq_natCast];omega)
    refine jA ?_
    exact ⟨(k+1,n+xs[k].length),⟨⟨h,h2⟩,by show xs.length - (k+1)<xs.length - k;omega⟩,⟨Rn.is rfl rfl,Rn.is rfl rfl,Rn.is rfl rfl,Rn.is rfl rfl,Rn.is (i64_next h hm) rfl,trivial⟩,trivial⟩
  have h:¬k<xs.length:=by simpa using h0'
  obtain rfl:k=xs.length:=by omega
  rw [List.take_length] at hf
  subst hf
  refine jA ?_
  refine AW.exit ?_;refine Eq.mpr (if_pos rfl) ?_;refine jA ?_
  refine RG.ownNV [] [(2,6)] (fun q=>m_Grow _ h0 hn q) rfl rfl rfl rfl rfl rfl rfl rfl rfl rfl ?_
  refine wH rfl ?_;refine jA ?_
  refine AW.loopL (ι:=Nat × List Int) (fun i=>[(6,.row 6 0 0 (i.2.map cI).length),(25,.sl (xs.map cL)),(26,.i .i64 (xs.map cL).length),(27,.i .i64 (i.1:Nat))]) (fun i=>[(6,⟨0,some (.row 3 1 (i.2.map cI))⟩)]) (fun i=>i.1<=xs.length/\i.2=(xs.take i.1).flatten) (fun i=>xs.length - i.1) (0,[]) ⟨Nat.zero_le _,rfl⟩ jW jW fun i hi=>?_
  obtain ⟨k,out⟩:=i
  obtain ⟨hk,hf⟩:=hi
  simp only at hk hf
  refine jA ?_
  refine AW.cond rfl (fun h0'=>?_) (fun h0'=>?_)
  · have h:k<xs.length:=by simpa using h0'
    have h2:out++xs[k]=(xs.take (k+1)).flatten:=by rw [flat_take xs k h,hf]
    have h3:=flat_le xs (k+1)
    rw [<- h2,List.length_append] at h3
    refine jA ?_
    refine RG.opS rfl (op_index rfl (tab_ok ty_ok rfl) rfl (tab_ok ty_ok rfl) rfl rfl (show (xs.map cL)[k]?=some (cL xs[k]) by rw [List.getElem?_map,List.getElem?_eq_getElem (by assumption)];rfl) rfl) rfl ?_
    refine wH rfl ?_;refine jA ?_
    refine RG.opS rfl (op_appL cI out xs[k] (by omega) (fun _=>rfl) rfl rfl rfl rfl (tab_ok ty_ok rfl) rfl (tab_ok ty_ok rfl) rfl rfl ⟨_,rfl,rfl⟩ rfl) rfl ?_;refine wH rfl ?_;refine jA ?_
    exact ⟨(k+1,_),⟨⟨h,h2⟩,by show xs.length - (k+1)<xs.length - k;omega⟩,⟨Rn.rowIs rfl rfl rfl,Rn.is rfl rfl,Rn.is rfl rfl,Rn.is (i64_next h hm) rfl,trivial⟩,jW⟩
  · have h:¬k<xs.length:=by simpa using h0'
    obtain rfl:k=xs.length:=by omega
    rw [List.take_length] at hf
    subst hf
    refine jA ?_
    refine AW.exit ?_;refine Eq.mpr (if_pos rfl) ?_;refine jA ?_
    refine AW.ret (retQA ty_ok rfl rfl rfl ?_)
    exact rowAll rfl
theorem d_Rising (l:List Int) (hs:l.Pairwise (· < ·)):PDoes Tryz.prog 119 [.sl (l.map cI)] (.b true):=by
 refine PDoes.of_bodyN Tryz.func119 rfl (by kernel_rfl) rfl rfl ?_
 rw [List.pairwise_iff_getElem] at hs
 refine jB ?_
 refine AW.lens 0 rfl fun hm=>?_
 rw [List.length_map] at hm
 refine jA ?_
 refine AW.loopL (ι:=Nat) (fun k=>[(0,.sl (l.map cI)),(3,.i .i64 ((k+1:Nat):Int))]) (fun _=>[]) (fun k=>True) (fun k=>l.length - k) 0 trivial jW trivial fun k hk=>?_
 refine jA ?_
 refine AW.cond rfl (fun h0=>?_) (fun h0=>?_)
 ·have h:k+1<l.length:=by
   have:=of_decide_eq_true h0
   rw [List.length_map] at this
   omega
  have hw:IntKind.i64.wrap (((k+1:Nat):Int) - Int.ofNat 1)=(k:Nat):=by
   rw [IntKind.wrap_i64]
   simp only [Int.ofNat_eq_natCast]
   omega
  have hlt:=hs k (k+1) (by omega) h (by omega)
  refine jB ?_
  refine AW.draws mixed_ok ?_
  refine wH rfl ?_
  refine RG.opS rfl (op_index rfl (tab_ok ty_ok rfl) rfl (tab_ok ty_ok rfl) rfl rfl (show (l.map cI)[k+1]?=some (cI l[k+1]) by rw [List.getElem?_map,List.getElem?_eq_getElem (by assumption)];rfl) rfl) rfl ?_
  refine RG.runO ty_ok 0 [(16,.i .i64 (k:Nat))] 400 rfl jD ?_
  refine RG.opS rfl (op_index rfl (tab_ok ty_ok rfl) rfl (tab_ok ty_ok rfl) rfl rfl (show (l.map cI)[k]?=some (cI (l[k]'(by omega))) by rw [List.getElem?_map,List.getElem?_eq_getElem (by omega)];rfl) rfl) rfl ?_
  refine wH rfl ?_;refine jB ?_
  refine AW.cond rfl (fun h1=>?_) (fun h1=>?_)
  ·exact absurd (of_decide_eq_true h1) (by omega)
  refine jA ?_
  exact ⟨k+1,⟨trivial,by omega⟩,⟨Rn.is rfl rfl,Rn.is (i64_next h hm) rfl,trivial⟩,trivial⟩
 ·refine jA ?_
  refine AW.exit ?_;refine Eq.mpr (if_pos rfl) ?_;refine jA ?_
  refine AW.ret (retQA ty_ok rfl rfl rfl ?_)
  rfl
theorem d_MakeI (l:List Int) (hs:l.Pairwise (· < ·)) (hl:l.length<=1000000):PDoes Tryz.prog 70 [.sl (l.map cI)] (.sl (l.map cI)):=by
 refine PDoes.of_bodyN Tryz.func70 rfl (by kernel_rfl) rfl rfl ?_
 refine jA ?_
 refine RG.callMS rfl rfl rfl rfl rfl rfl (d_Clone_Int l hl) rfl ?_;refine wH rfl ?_;refine jA ?_
 refine RG.callS rfl rfl rfl rfl rfl (d_Rising l hs) rfl rfl ?_;refine wH rfl ?_;refine jA ?_
 refine AW.condF rfl ?_;refine jA ?_
 refine RG.callMS rfl rfl rfl rfl rfl rfl (d_Clip_Int l) rfl ?_;refine wH rfl ?_;refine jA ?_
 refine AW.ret (retQA ty_ok rfl rfl rfl ?_)
 rfl
theorem d_Join (a b:List Int) (hs:(a++b).Pairwise (· < ·)) (hb:0<b.length) (hl:a.length+b.length<=1000000):PDoes Tryz.prog 206 [.sl (a.map cI),.sl (b.map cI)] (.sl ((a++b).map cI)):=by
 have hC:=d_Concat [a,b] (by simp;omega) (by simp;omega) (by show 2<=1000000;decide)
 rw [show [a,b].flatten=a++b by simp] at hC
 refine PDoes.of_bodyN Tryz.func206 rfl (by kernel_rfl) rfl rfl ?_
 refine jA ?_
 refine RG.callMS rfl rfl rfl rfl rfl rfl hC rfl ?_;refine wH rfl ?_;refine jA ?_
 refine RG.callMS rfl rfl rfl rfl rfl rfl (d_MakeI (a++b) hs (by rw [List.length_append];omega)) rfl ?_;refine wH rfl ?_;refine jA ?_
 refine AW.ret (retQA ty_ok rfl rfl rfl ?_)
 rfl
end Go.Proofs.YtoaibdbehlcnfaaGreat.Sm
end
section
namespace Go.Proofs.YtoaibdbehlcnfaaGreat.Sm
open Go.RowKit
theorem d_pSoundFn (x:Cb):PDoes Tryz.prog 295 [.agg (cCb x)] (.b (!x.sound)):=by
 refine PDoes.of_bodyN Tryz.func295 rfl (by kernel_rfl) rfl rfl ?_
 refine jA ?_
 refine RG.callS rfl rfl rfl rfl rfl (d_Sound x _ rfl) rfl rfl ?_;refine wH rfl ?_;refine jA ?_
 refine AW.ret (retQA ty_ok rfl rfl rfl ?_)
 rfl
theorem any_not (p:List Cb):(p.any fun x=>!x.sound) = !p.all Cb.sound:=by
 rw [Bool.eq_iff_iff]
 simp
theorem d_PSound (p:List Cb) (q:Bool) (hq:pileSound p=q):PDoes Tryz.prog 275 [.sl (p.map cCb)] (.b q):=by
  subst hq
  refine PDoes.of_bodyN Tryz.func275 rfl (by kernel_rfl) rfl rfl ?_
  have hl:(p.map cCb).length=p.length:=List.length_map ..
  refine jB ?_;refine wF ?_;refine wH rfl ?_;refine jB ?_
  refine AW.text ?_
  by_cases h:(((p.map cCb).length:Nat):Int)<=200
  · refine RG.runO ty_ok 0 [(5,.b true)] 400 rfl jD ?_
    refine RG.callS rfl rfl rfl rfl rfl (d_ContainsFunc_Cb _ (fun x=>!x.sound) p (fun x _=>d_pSoundFn x) _ (any_not p)) rfl rfl ?_;refine wH rfl ?_;refine jA ?_
    refine AW.ret (retQA ty_ok rfl rfl rfl ?_)
    exact congrArg AV.b (by rw [pileSound,decide_eq_true (by omega),Bool.not_not];rfl)
  · refine RG.runO ty_ok 0 [(5,.b false)] 400 rfl jD ?_
    refine wH rfl ?_;refine jA ?_
    refine AW.ret (retQA ty_ok rfl rfl rfl ?_)
    exact congrArg AV.b (by rw [pileSound,decide_eq_false (by omega)];rfl)
theorem d_pair (p q:List Cb) (b:Bool) (hb:(pileSound p && pileSound q)=b):PDoes Tryz.prog 255 [.sl (p.map cCb),.sl (q.map cCb)] (.i .i64 (bif b then 0 else 2)):=by
 subst hb
 refine PDoes.of_bodyN Tryz.func255 rfl (by kernel_rfl) rfl rfl ?_
 refine jA ?_
 cases h1:pileSound p
 ·refine RG.callS rfl rfl rfl rfl rfl (d_PSound p _ h1) rfl rfl ?_;refine wH rfl ?_;refine jA ?_
  refine AW.condT rfl ?_;refine jA ?_
  refine AW.ret (retQA ty_ok rfl rfl rfl ?_)
  rfl
 refine RG.callS rfl rfl rfl rfl rfl (d_PSound p _ h1) rfl rfl ?_;refine wH rfl ?_;refine jA ?_
 cases h2:pileSound q
 ·refine RG.callS rfl rfl rfl rfl rfl (d_PSound q _ h2) rfl rfl ?_;refine wH rfl ?_;refine jA ?_
  refine AW.condT rfl ?_;refine jA ?_
  refine AW.ret (retQA ty_ok rfl rfl rfl ?_)
  rfl
 refine RG.callS rfl rfl rfl rfl rfl (d_PSound q _ h2) rfl rfl ?_;refine wH rfl ?_;refine jA ?_
 refine AW.condF rfl ?_;refine jA ?_
 refine AW.ret (retQA ty_ok rfl rfl rfl ?_)
 rfl
theorem d_spare (p:List Cb) (n:Nat) (x:Cb) (hx:p[n]?=some x) (v:Bool) (hv:spareF x n 0 p=v):PDoes Tryz.prog 298 [.sl (p.map cCb),.i .i64 (n:Nat)] (.b v):=by
  subst hv
  refine PDoes.of_bodyN Tryz.func298 rfl (by kernel_rfl) rfl rfl ?_
  have hxx:(p.map cCb)[n]?=some (cCb x):=by rw [List.getElem?_map,hx];rfl
  refine jA ?_
  refine AW.lens 7 rfl fun hm=>?_
  rw [List.length_map] at hm
  refine AW.loopL (ι:=Nat) (fun k=>[(0,.sl (p.map cCb)),(1,.i .i64 (n:Nat)),(7,.sl (p.map cCb)),(8,.i .i64 (p.map cCb).length),(9,.i .i64 (k:Nat))]) (fun _=>[]) (fun k=>k<=p.length/\spareF x n k (p.drop k)=spareF x n 0 p) (fun k=>p.length - k) 0 ⟨Nat.zero_le _,rfl⟩ jW trivial fun k hk=>?_
  obtain ⟨hk,hf⟩:=hk
  refine jA ?_
  refine AW.cond rfl (fun h0=>?_) (fun h0=>?_)
  · have h:k<p.length:=by simpa using h0
    rw [List.drop_eq_getElem_cons h,spareF] at hf
    have hkx:(p.map cCb)[k]?=some (cCb p[k]):=by rw [List.getElem?_map,List.getElem?_eq_getElem h];rfl
    generalize p[k]=c at hf hkx
    (repeat first|apply wA|apply wB|apply wC|apply wE|(apply zM;·kernel_rfl)|apply wF|apply wG)
    refine wH rfl ?_
    refine RG.opS rfl (op_index rfl (tab_ok ty_ok rfl) rfl (tab_ok ty_ok rfl) rfl rfl hkx rfl) rfl ?_
    refine wH rfl ?_;refine jB ?_
    refine AW.draws mixed_ok ?_
    by_cases h1:((k:Nat):Int)=(n:Nat)
    · have e : (decide (k ≠ n) && x.within c && (decide (x ≠ c) || decide (k < n))) = false := by
        rw [decide_eq_false (show ¬k≠n by omega)];rfl
      rw [e] at hf
      refine RG.runO ty_ok 0 [(16,.b false)] 400 rfl jD ?_
      refine jB ?_;refine AW.condF rfl ?_;refine jA ?_
      exact ⟨k+1,⟨⟨h,hf⟩,by omega⟩,jV,trivial⟩
    rw [decide_eq_true (show k≠n by omega),Bool.true_and] at hf
    refine RG.runO ty_ok 0 [(16,.b true)] 400 rfl jD ?_
    refine RG.opS rfl (op_index rfl (tab_ok ty_ok rfl) rfl (tab_ok ty_ok rfl) rfl rfl hxx rfl) rfl ?_
    refine wH rfl ?_
    cases h2:x.within c
    · rw [h2] at hf
      refine RG.callS rfl rfl rfl rfl rfl (d_Within x c _ h2) rfl rfl ?_;refine wH rfl ?_;refine jA ?_
      refine AW.condF rfl ?_;refine jA ?_
      exact ⟨k+1,⟨⟨h,hf⟩,by omega⟩,jV,trivial⟩
    rw [h2,Bool.true_and] at hf
    refine RG.callS rfl rfl rfl rfl rfl (d_Within x c _ h2) rfl rfl ?_
    refine wH rfl ?_
    refine RG.opS rfl (op_index rfl (tab_ok ty_ok rfl) rfl (tab_ok ty_ok rfl) rfl rfl hxx rfl) rfl ?_
    refine wH rfl ?_
    by_cases h3:x=c
    · rw [decide_eq_false (show ¬x≠c from fun h=>h h3),Bool.false_or] at hf
      refine RG.opS rfl (op_neG rfl ty_ok (by kernel_rfl) (by kernel_rfl) rfl rfl (eq_Cb x c) (congrArg Bool.not (decide_eq_true h3))) rfl ?_
      refine wH rfl ?_;refine jB ?_
      refine AW.cond rfl (fun h4=>?_) (fun h4=>?_)
      · have h4:k<n:=Int.ofNat_lt.1 (of_decide_eq_true h4)
        rw [decide_eq_true h4] at hf
        refine jA ?_
        refine AW.ret (retQA ty_ok rfl rfl rfl ?_)
        exact congrArg AV.b hf
      · have h4:¬k<n:=fun h5=>of_decide_eq_false h4 (Int.ofNat_lt.2 h5)
        rw [decide_eq_false h4] at hf
        refine jA ?_
        exact ⟨k+1,⟨⟨h,hf⟩,by omega⟩,jV,trivial⟩
    · rw [decide_eq_true (show x≠c from h3),Bool.true_or] at hf
      refine RG.opS rfl (op_neG rfl ty_ok (by kernel_rfl) (by kernel_rfl) rfl rfl (eq_Cb x c) (congrArg Bool.not (decide_eq_false h3))) rfl ?_
      refine wH rfl ?_;refine jB ?_
      refine AW.condT rfl ?_;refine jA ?_
      refine AW.ret (retQA ty_ok rfl rfl rfl ?_)
      exact congrArg AV.b hf
  · have h:¬k<p.length:=by simpa using h0
    obtain rfl:k=p.length:=by omega
    rw [List.drop_length,spareF] at hf
    refine jA ?_
    refine AW.exit ?_;refine Eq.mpr (if_pos rfl) ?_;refine jA ?_
    refine RG.opS rfl (op_index rfl (tab_ok ty_ok rfl) rfl (tab_ok ty_ok rfl) rfl rfl hxx rfl) rfl ?_
    refine wH rfl ?_
    refine RG.callS rfl rfl rfl rfl rfl (d_Sound x _ rfl) rfl rfl ?_;refine wH rfl ?_;refine jA ?_
    refine AW.ret (retQA ty_ok rfl rfl rfl ?_)
    exact congrArg AV.b hf
theorem d_LeanP (p:List Cb) (hp:p.length<=1000000):PDoes Tryz.prog 283 [.sl (p.map cCb)] (.sl ((leanP p).map cCb)):=by
  refine PDoes.of_bodyN Tryz.func283 rfl (by kernel_rfl) rfl rfl ?_
  have hm:p.length<=9223372036854775807:=by omega
  have hle:=leanP_len p
  refine jB ?_;refine wF ?_;refine wH rfl ?_;refine jB ?_
  refine AW.text ?_
  refine RG.opS rfl (op_nilRow 3 36 4 rfl) rfl ?_
  refine wH rfl ?_;refine jA ?_
  refine AW.loopL (ι:=Nat × List Cb) (fun i=>[(0,.sl (p.map cCb)),(3,.row 3 0 0 (i.2.map cCb).length),(6,.sl (p.map cCb)),(7,.i .i64 (p.map cCb).length),(8,.i .i64 (i.1:Nat))]) (fun i=>[(3,⟨0,some (.row 36 4 (i.2.map cCb))⟩)]) (fun i=>i.1<=p.length/\accI (leanI p) i.1 (p.drop i.1) i.2=leanP p) (fun i=>p.length - i.1) (0,[]) ⟨Nat.zero_le _,rfl⟩ jW jW fun i hi=>?_
  obtain ⟨k,out⟩:=i
  obtain ⟨hk,hf⟩:=hi
  simp only at hk hf
  refine jA ?_
  refine AW.cond rfl (fun h0=>?_) (fun h0=>?_)
  · have h:k<p.length:=by simpa using h0
    have hol:out.length<=100000000:=by
      have h1:=accI_ge (f:=leanI p) k (p.drop k) out
      rw [hf] at h1
      omega
    rw [List.drop_eq_getElem_cons h,accI,leanI] at hf
    have hkp:p[k]?=some p[k]:=List.getElem?_eq_getElem h
    have hkx:(p.map cCb)[k]?=some (cCb p[k]):=by rw [List.getElem?_map,hkp];rfl
    generalize p[k]=c at hf hkx hkp
    refine jA ?_
    refine RG.opS rfl (op_index rfl (tab_ok ty_ok rfl) rfl (tab_ok ty_ok rfl) rfl rfl hkx rfl) rfl ?_
    refine wH rfl ?_;refine jA ?_
    cases h1:spareF c k 0 p
    · rw [h1,cond_false] at hf
      refine RG.callS rfl rfl rfl rfl rfl (d_spare p k c hkp _ h1) rfl rfl ?_;refine wH rfl ?_;refine jA ?_
      refine AW.condT rfl ?_;refine jB ?_
      refine AW.text ?_
      refine wH rfl ?_
      refine RG.opS rfl (op_app1 cCb out c hol rfl rfl rfl rfl (tab_ok ty_ok rfl) rfl (tab_ok ty_ok rfl) rfl rfl ⟨_,rfl,rfl⟩ rfl rfl) rfl ?_;refine wH rfl ?_;refine jA ?_
      exact ⟨(k+1,_),⟨⟨h,hf⟩,by show p.length - (k+1)<p.length - k;omega⟩,jV,jW⟩
    · rw [h1,cond_true,List.append_nil] at hf
      refine RG.callS rfl rfl rfl rfl rfl (d_spare p k c hkp _ h1) rfl rfl ?_;refine wH rfl ?_;refine jA ?_
      refine AW.condF rfl ?_;refine jA ?_
      exact ⟨(k+1,out),⟨⟨h,hf⟩,by show p.length - (k+1)<p.length - k;omega⟩,jV,jW⟩
  · have h:¬k<p.length:=by simpa using h0
    obtain rfl:k=p.length:=by omega
    rw [List.drop_length,accI] at hf
    refine jA ?_
    refine AW.exit ?_;refine Eq.mpr (if_pos rfl) ?_;refine jA ?_
    refine AW.ret (retQA ty_ok rfl rfl rfl ?_)
    exact rowAll (congrArg (List.map cCb) hf)
def pileR (r:List Cb × Int):AV:=.tup [.sl (r.1.map cCb),.i .i64 r.2]
theorem d_leanE (p:List Cb) (hp:p.length<=1000000):PDoes Tryz.prog 257 [.sl (p.map cCb)] (pileR (leanE p)):=by
 refine PDoes.of_bodyN Tryz.func257 rfl (by kernel_rfl) rfl rfl ?_
 have hl:((leanP p).map cCb).length=(leanP p).length:=List.length_map ..
 refine jA ?_
 refine RG.callMS rfl rfl rfl rfl rfl rfl (d_LeanP p hp) rfl ?_;refine wH rfl ?_;refine jA ?_
 refine AW.cond rfl (fun h=>?_) (fun h=>?_)
 ·have h:(((leanP p).map cCb).length:Int)>200:=of_decide_eq_true h
  have e:leanE p=([],10):=by rw [leanE,decide_eq_true (by omega)];rfl
  refine jA ?_
  refine AW.ret (retQA ty_ok rfl rfl rfl ?_)
  rw [e]
  rfl
 ·have h:¬(((leanP p).map cCb).length:Int)>200:=of_decide_eq_false h
  have e:leanE p=(leanP p,0):=by rw [leanE,decide_eq_false (by omega)];rfl
  refine jA ?_
  refine RG.callMS rfl rfl rfl rfl rfl rfl (d_Clip_Cb (leanP p)) rfl ?_;refine wH rfl ?_;refine jA ?_
  refine AW.ret (retQA ty_ok rfl rfl rfl ?_)
  rw [e]
  rfl
theorem pileSound_len {p:List Cb} (h:pileSound p=true):p.length<=200:=by
 rw [pileSound,Bool.and_eq_true,decide_eq_true_eq] at h
 exact h.1
theorem meetRow_len (q:List Cb) (n:Nat) (x:Cb):(meetRow q n x).length<=q.length:=by
 have:=accI_len (f:=meetI x) (m:=1) (fun n y=>by rw [meetI];cases x.meets y <;> simp) 0 q []
 rw [meetRow]
 simp at this
 omega
theorem d_PMeet (p q:List Cb):PDoes Tryz.prog 204 [.sl (p.map cCb),.sl (q.map cCb)] (pileR (pileMeet p q)):=by
  refine PDoes.of_bodyN Tryz.func204 rfl (by kernel_rfl) rfl rfl ?_
  refine jA ?_
  cases hs:(pileSound p && pileSound q)
  · refine RG.callS rfl rfl rfl rfl rfl (d_pair p q _ hs) rfl rfl ?_;refine wH rfl ?_;refine jA ?_
    refine AW.condT rfl ?_;refine jA ?_
    refine AW.ret (retQA ty_ok rfl rfl rfl ?_)
    rw [pileMeet,hs]
    rfl
  refine RG.callS rfl rfl rfl rfl rfl (d_pair p q _ hs) rfl rfl ?_;refine wH rfl ?_;refine jA ?_
  have e0:pileMeet p q=leanE (meetAll p q):=by rw [pileMeet,hs];rfl
  rw [Bool.and_eq_true] at hs
  have hp:=pileSound_len hs.1
  have hq:=pileSound_len hs.2
  have hal:(meetAll p q).length<=40000:=by
    have:=accI_len (f:=meetRow q) (m:=q.length) (fun n x=>meetRow_len q n x) 0 p []
    rw [meetAll]
    have h2:q.length*p.length<=200*200:=Nat.mul_le_mul hq hp
    simp at this
    omega
  have hmp:p.length<=9223372036854775807:=by omega
  have hmq:q.length<=9223372036854775807:=by omega
  refine AW.condF rfl ?_;refine jB ?_
  refine AW.text ?_
  refine RG.opS rfl (op_nilRow 7 36 4 rfl) rfl ?_
  refine wH rfl ?_;refine jA ?_
  refine AW.loopL (ι:=Nat × List Cb) (fun i=>[(1,.sl (q.map cCb)),(7,.row 7 0 0 (i.2.map cCb).length),(20,.sl (p.map cCb)),(21,.i .i64 (p.map cCb).length),(22,.i .i64 (i.1:Nat))]) (fun i=>[(7,⟨0,some (.row 36 4 (i.2.map cCb))⟩)]) (fun i=>i.1<=p.length/\accI (meetRow q) i.1 (p.drop i.1) i.2=meetAll p q) (fun i=>p.length - i.1) (0,[]) ⟨Nat.zero_le _,rfl⟩ jW jW fun i hi=>?_
  obtain ⟨k,out⟩:=i
  obtain ⟨hk,hf⟩:=hi
  simp only at hk hf
  refine jA ?_
  refine AW.cond rfl (fun h0=>?_) (fun h0=>?_)
  · have h:k<p.length:=by simpa using h0
    rw [List.drop_eq_getElem_cons h,accI,meetRow,<- accI_eq] at hf
    have hkx:(p.map cCb)[k]?=some (cCb p[k]):=by rw [List.getElem?_map,List.getElem?_eq_getElem h];rfl
    generalize p[k]=x at hf hkx
    refine jA ?_
    refine RG.opS rfl (op_index rfl (tab_ok ty_ok rfl) rfl (tab_ok ty_ok rfl) rfl rfl hkx rfl) rfl ?_
    refine wH rfl ?_;refine jA ?_
    refine AW.loopL (ι:=Nat × List Cb) (fun i=>[(1,.sl (q.map cCb)),(7,.row 7 0 0 (i.2.map cCb).length),(9,.own 9 0 0),(20,.sl (p.map cCb)),(21,.i .i64 (p.map cCb).length),(22,.i .i64 (k:Nat)),(26,.sl (q.map cCb)),(27,.i .i64 (q.map cCb).length),(28,.i .i64 (i.1:Nat))]) (fun i=>[(7,⟨0,some (.row 36 4 (i.2.map cCb))⟩),(9,⟨0,some (.box 36 (cCb x))⟩)]) (fun i=>i.1<=q.length/\accI (meetRow q) (k+1) (p.drop (k+1)) (accI (meetI x) i.1 (q.drop i.1) i.2)=meetAll p q) (fun i=>q.length - i.1) (0,out) ⟨Nat.zero_le _,hf⟩ jW jW fun i hi=>?_
    clear hf
    obtain ⟨j,out⟩:=i
    obtain ⟨hj,hf⟩:=hi
    simp only at hj hf
    refine jA ?_
    refine AW.cond rfl (fun h1=>?_) (fun h1=>?_)
    · have h':j<q.length:=by simpa using h1
      have hol:out.length<=100000000:=by
        have h1:=accI_ge (f:=meetRow q) (k+1) (p.drop (k+1)) (accI (meetI x) j (q.drop j) out)
        have h2:=accI_ge (f:=meetI x) j (q.drop j) out
        rw [hf] at h1
        omega
      rw [List.drop_eq_getElem_cons h',accI,meetI] at hf
      have hjx:(q.map cCb)[j]?=some (cCb q[j]):=by rw [List.getElem?_map,List.getElem?_eq_getElem h'];rfl
      generalize q[j]=y at hf hjx
      refine jA ?_
      refine RG.opS rfl (op_index rfl (tab_ok ty_ok rfl) rfl (tab_ok ty_ok rfl) rfl rfl hjx rfl) rfl ?_
      refine wH rfl ?_;refine jA ?_
      cases hm:x.meets y
      · rw [hm,cond_false,List.append_nil] at hf
        refine RG.callS rfl rfl rfl rfl rfl (d_Meet x y _ hm) rfl rfl ?_;refine wH rfl ?_;refine jA ?_
        refine AW.condF rfl ?_;refine jA ?_
        exact ⟨(j+1,out),⟨⟨h',hf⟩,by show q.length - (j+1)<q.length - j;omega⟩,⟨Rn.is rfl rfl,Rn.rowIs rfl rfl rfl,Rn.ownIs rfl rfl rfl,Rn.is rfl rfl,Rn.is rfl rfl,Rn.is rfl rfl,Rn.is rfl rfl,Rn.is rfl rfl,Rn.is (i64_next h' hmq) rfl,trivial⟩,jW⟩
      · rw [hm,cond_true] at hf
        refine RG.callS rfl rfl rfl rfl rfl (d_Meet x y _ hm) rfl rfl ?_;refine wH rfl ?_;refine jA ?_
        refine AW.condT rfl ?_;refine jB ?_
        refine AW.text ?_
        refine wH rfl ?_
        refine RG.opS rfl (op_app1 cCb out (x.met y) hol rfl rfl rfl rfl (tab_ok ty_ok rfl) rfl (tab_ok ty_ok rfl) rfl rfl ⟨_,rfl,rfl⟩ rfl rfl) rfl ?_;refine wH rfl ?_;refine jA ?_
        exact ⟨(j+1,_),⟨⟨h',hf⟩,by show q.length - (j+1)<q.length - j;omega⟩,⟨Rn.is rfl rfl,Rn.rowIs rfl rfl rfl,Rn.ownIs rfl rfl rfl,Rn.is rfl rfl,Rn.is rfl rfl,Rn.is rfl rfl,Rn.is rfl rfl,Rn.is rfl rfl,Rn.is (i64_next h' hmq) rfl,trivial⟩,jW⟩
    · have h':¬j<q.length:=by simpa using h1
      obtain rfl:j=q.length:=by omega
      rw [List.drop_length (l:=q),accI] at hf
      refine jA ?_
      refine AW.exit ?_;refine Eq.mpr (if_pos rfl) ?_;refine jA ?_
      exact ⟨(k+1,out),⟨⟨h,hf⟩,by show p.length - (k+1)<p.length - k;omega⟩,⟨Rn.is rfl rfl,Rn.rowIs rfl rfl rfl,Rn.is rfl rfl,Rn.is rfl rfl,Rn.is (i64_next h hmp) rfl,trivial⟩,jW⟩
  · have h:¬k<p.length:=by simpa using h0
    obtain rfl:k=p.length:=by omega
    rw [List.drop_length,accI] at hf
    subst hf
    refine jA ?_
    refine AW.exit ?_;refine Eq.mpr (if_pos rfl) ?_;refine jA ?_
    refine RG.callMS rfl rfl rfl rfl (congrArg (fun x=>[x]) (rowAll rfl)) rfl (d_leanE (meetAll p q) (by omega)) rfl ?_;refine wH rfl ?_;refine jA ?_
    refine AW.ret (retQA ty_ok rfl rfl rfl ?_)
    rw [e0]
    rfl
theorem lessF_len (c:Cb) (more:Hd):∀(n:Nat) (rest:Cb) (out:List Cb),(lessF c more n rest out).length<=out.length+n
 | 0,rest,out=>Nat.le_refl _
 | n+1,rest,out=>by
  rw [lessF]
  cases more.bit n
  ·have:=lessF_len c more n rest out
   rw [cond_false]
   omega
  ·have:=lessF_len c more n ⟨rest.value.or (c.value.and (maskH n 1)),rest.care.or (maskH n 1)⟩ (out++[⟨(rest.value.or (c.value.and (maskH n 1))).xor (maskH n 1),rest.care.or (maskH n 1)⟩])
   rw [List.length_append,List.length_singleton] at this
   rw [cond_true]
   omega
theorem less_len (a c:Cb):(a.less c).length<=128:=by
 rw [Cb.less]
 cases (a.sound && c.sound)
 ·exact Nat.zero_le _
 ·cases a.meets c
  ·show 1<=128;omega
  ·have:=lessF_len c (c.care.less a.care) 128 a []
   simpa using this
theorem lessAll_len (y:Cb) (out:List Cb):(lessAll y out).length<=128*out.length:=by
 have:=accI_len (f:=lessRow y) (m:=128) (fun n x=>less_len x y) 0 out []
 rw [lessAll]
 simpa using this
theorem d_PLess (p q:List Cb):PDoes Tryz.prog 207 [.sl (p.map cCb),.sl (q.map cCb)] (pileR (pileLess p q)):=by
  refine PDoes.of_bodyN Tryz.func207 rfl (by kernel_rfl) rfl rfl ?_
  refine jA ?_
  cases hs:(pileSound p && pileSound q)
  · refine RG.callS rfl rfl rfl rfl rfl (d_pair p q _ hs) rfl rfl ?_;refine wH rfl ?_;refine jA ?_
    refine AW.condT rfl ?_;refine jA ?_
    refine AW.ret (retQA ty_ok rfl rfl rfl ?_)
    rw [pileLess,hs]
    rfl
  refine RG.callS rfl rfl rfl rfl rfl (d_pair p q _ hs) rfl rfl ?_;refine wH rfl ?_;refine jA ?_
  have e0:pileLess p q=lessL p q:=by rw [pileLess,hs];rfl
  rw [e0]
  rw [Bool.and_eq_true] at hs
  have hp:=pileSound_len hs.1
  have hq:=pileSound_len hs.2
  have hmq:q.length<=9223372036854775807:=by omega
  refine AW.condF rfl ?_;refine jA ?_
  refine RG.callMS rfl rfl rfl rfl rfl rfl (d_Clone_Cb p (by omega)) rfl ?_;refine wH rfl ?_;refine jA ?_
  refine AW.loopL (ι:=Nat × List Cb) (fun i=>[(7,.sl (i.2.map cCb)),(22,.sl (q.map cCb)),(23,.i .i64 (q.map cCb).length),(24,.i .i64 (i.1:Nat))]) (fun i=>[]) (fun i=>(i.1<=q.length/\i.2.length<=200)/\lessL i.2 (q.drop i.1)=lessL p q) (fun i=>q.length - i.1) (0,p) ⟨⟨Nat.zero_le _,hp⟩,rfl⟩ jW trivial fun i hi=>?_
  obtain ⟨k,out⟩:=i
  obtain ⟨⟨hk,ho⟩,hf⟩:=hi
  simp only at hk ho hf
  refine jA ?_
  refine AW.cond rfl (fun h0=>?_) (fun h0=>?_)
  · have h:k<q.length:=by simpa using h0
    rw [List.drop_eq_getElem_cons h,lessL] at hf
    have hkx:(q.map cCb)[k]?=some (cCb q[k]):=by rw [List.getElem?_map,List.getElem?_eq_getElem h];rfl
    generalize q[k]=y at hf hkx
    have hmo:out.length<=9223372036854775807:=by omega
    have hal:=lessAll_len y out
    refine jB ?_
    refine AW.text ?_
    refine RG.opS rfl (op_index rfl (tab_ok ty_ok rfl) rfl (tab_ok ty_ok rfl) rfl rfl hkx rfl) rfl ?_
    refine wH rfl ?_;refine jB ?_
    refine AW.text ?_
    refine RG.opS rfl (op_nilRow 10 36 4 rfl) rfl ?_
    refine wH rfl ?_;refine jA ?_
    refine AW.loopL (ι:=Nat × List Cb) (fun i=>[(7,.sl (out.map cCb)),(9,.own 9 0 0),(10,.row 10 0 0 (i.2.map cCb).length),(22,.sl (q.map cCb)),(23,.i .i64 (q.map cCb).length),(24,.i .i64 (k:Nat)),(28,.sl (out.map cCb)),(29,.i .i64 (out.map cCb).length),(30,.i .i64 (i.1:Nat))]) (fun i=>[(9,⟨0,some (.box 36 (cCb y))⟩),(10,⟨0,some (.row 36 4 (i.2.map cCb))⟩)]) (fun i=>i.1<=out.length/\accI (lessRow y) i.1 (out.drop i.1) i.2=lessAll y out) (fun i=>out.length - i.1) (0,[]) ⟨Nat.zero_le _,rfl⟩ jW jW fun i hi=>?_
    obtain ⟨j,rest⟩:=i
    obtain ⟨hj,hg⟩:=hi
    simp only at hj hg
    refine jA ?_
    refine AW.cond rfl (fun h1=>?_) (fun h1=>?_)
    · have h':j<out.length:=by simpa using h1
      have hjx:(out.map cCb)[j]?=some (cCb out[j]):=by rw [List.getElem?_map,List.getElem?_eq_getElem h'];rfl
      rw [List.drop_eq_getElem_cons h',accI,lessRow] at hg
      generalize out[j]=x at hg hjx
      have hol:rest.length+(x.less y).length<=100000000:=by
        have h1:=accI_ge (f:=lessRow y) (j+1) (out.drop (j+1)) (rest++x.less y)
        rw [hg,List.length_append] at h1
        omega
      refine jA ?_
      refine RG.opS rfl (op_index rfl (tab_ok ty_ok rfl) rfl (tab_ok ty_ok rfl) rfl rfl hjx rfl) rfl ?_
      refine wH rfl ?_;refine jA ?_
      refine RG.callMS rfl rfl rfl rfl rfl rfl (d_CLess x y) rfl ?_;refine wH rfl ?_;refine jA ?_
      refine RG.opS rfl (op_appL cCb rest (x.less y) hol (fun _=>rfl) rfl rfl rfl rfl (tab_ok ty_ok rfl) rfl (tab_ok ty_ok rfl) rfl rfl ⟨_,rfl,rfl⟩ rfl) rfl ?_;refine wH rfl ?_;refine jA ?_
      exact ⟨(j+1,_),⟨⟨h',hg⟩,by show out.length - (j+1)<out.length - j;omega⟩,⟨Rn.is rfl rfl,Rn.ownIs rfl rfl rfl,Rn.rowIs rfl rfl rfl,Rn.is rfl rfl,Rn.is rfl rfl,Rn.is rfl rfl,Rn.is rfl rfl,Rn.is rfl rfl,Rn.is (i64_next h' hmo) rfl,trivial⟩,jW⟩
    · have h':¬j<out.length:=by simpa using h1
      obtain rfl:j=out.length:=by omega
      rw [List.drop_length (l:=out),accI] at hg
      subst hg
      refine jA ?_
      refine AW.exit ?_;refine Eq.mpr (if_pos rfl) ?_;refine jA ?_
      refine RG.callMS rfl rfl rfl rfl (congrArg (fun x=>[x]) (rowAll rfl)) rfl (d_leanE (lessAll y out) (by omega)) rfl ?_;refine wH rfl ?_;refine jA ?_
      refine AW.cond rfl (fun h2=>?_) (fun h2=>?_)
      · have h2:¬(leanE (lessAll y out)).2=0:=by simpa using h2
        rw [decide_eq_false h2,cond_false] at hf
        refine jA ?_
        refine AW.ret (retQA ty_ok rfl rfl rfl ?_)
        rw [<- hf]
        rfl
      · have h2:(leanE (lessAll y out)).2=0:=by simpa using h2
        rw [decide_eq_true h2,cond_true] at hf
        refine jA ?_
        refine ⟨(k+1,(leanE (lessAll y out)).1),⟨⟨⟨h,?_⟩,hf⟩,by show q.length - (k+1)<q.length - k;omega⟩,⟨Rn.is rfl rfl,Rn.is rfl rfl,Rn.is rfl rfl,Rn.is (i64_next h hmq) rfl,trivial⟩,trivial⟩
        have:=(leanE_ok h2).2
        rw [(leanE_ok h2).1]
        exact this
  · have h:¬k<q.length:=by simpa using h0
    obtain rfl:k=q.length:=by omega
    rw [List.drop_length,lessL] at hf
    refine jA ?_
    refine AW.exit ?_;refine Eq.mpr (if_pos rfl) ?_;refine jA ?_
    refine RG.callMS rfl rfl rfl rfl rfl rfl (d_Clip_Cb out) rfl ?_;refine wH rfl ?_;refine jA ?_
    refine AW.ret (retQA ty_ok rfl rfl rfl ?_)
    rw [<- hf]
    rfl
def pickR:Option Cb->AV
 | none=>.tup [.agg (cHd Hd.zero),.b false]
 | some c=>.tup [.agg (cHd c.value),.b true]
theorem d_Pick (p:List Cb):PDoes Tryz.prog 258 [.sl (p.map cCb)] (pickR (pick p)):=by
 refine PDoes.of_bodyN Tryz.func258 rfl (by kernel_rfl) rfl rfl ?_
 have hI:=d_IndexFunc_Cb 105 Cb.sound p fun x _=>d_Sound x _ rfl
 have hfi:=idxF_eq (p:=Cb.sound) 0 p
 rw [pick]
 cases hq:p.findIdx? Cb.sound with
 | none =>
  have e:p.find? Cb.sound=none:=by
   rw [List.findIdx?_eq_none_iff] at hq
   rw [List.find?_eq_none]
   intro x hx
   rw [hq x hx]
   exact Bool.false_ne_true
  rw [e]
  have hv:idxF Cb.sound 0 p = -1:=by rw [hfi,hq]
  rw [hv] at hI
  refine jA ?_
  refine RG.callS rfl rfl rfl rfl rfl hI rfl rfl ?_;refine wH rfl ?_;refine jA ?_
  refine AW.condF rfl ?_;refine jA ?_
  refine AW.ret (retQA ty_ok rfl rfl rfl ?_)
  rfl
 | some k =>
  obtain ⟨hk,h1,h2⟩:=List.findIdx?_eq_some_iff_getElem.1 hq
  have e:p.find? Cb.sound=some p[k]:=by
   rw [List.find?_eq_some_iff_getElem]
   exact ⟨h1,k,hk,rfl,fun j hj=>by simpa using h2 j hj⟩
  rw [e]
  have hkx:(p.map cCb)[k]?=some (cCb p[k]):=by rw [List.getElem?_map,List.getElem?_eq_getElem hk];rfl
  generalize p[k]=c at hkx
  have hv:idxF Cb.sound 0 p=((k:Nat):Int):=by rw [hfi,hq];simp
  rw [hv] at hI
  refine jA ?_
  refine RG.callS rfl rfl rfl rfl rfl hI rfl rfl ?_;refine wH rfl ?_;refine jA ?_
  refine AW.cond rfl (fun h=>?_) (fun h=>?_)
  rotate_left
  ·exact absurd (show Int.ofNat 0<=((k:Nat):Int) by simp only [Int.ofNat_eq_natCast];omega) (of_decide_eq_false h)
  refine jA ?_
  refine RG.opS rfl (op_index rfl (tab_ok ty_ok rfl) rfl (tab_ok ty_ok rfl) rfl rfl hkx rfl) rfl ?_
  refine wH rfl ?_;refine jA ?_
  refine AW.ret (retQA ty_ok rfl rfl rfl ?_)
  rfl
end Go.Proofs.YtoaibdbehlcnfaaGreat.Sm
end
section
namespace Go.Proofs.YtoaibdbehlcnfaaGreat.Sm
open Go.RowKit
theorem d_SplitFn (x:Cb):PDoes Tryz.prog 104 [.agg (cCb x)] (.b (!x.sound)):=by
 refine PDoes.of_bodyN Tryz.func104 rfl (by kernel_rfl) rfl rfl ?_
 refine jA ?_
 refine RG.callS rfl rfl rfl rfl rfl (d_Sound x _ rfl) rfl rfl ?_;refine wH rfl ?_;refine jA ?_
 refine AW.ret (retQA ty_ok rfl rfl rfl ?_)
 rfl
def atomR (ids:List Int) (p:List Cb):Option Cb->AV
 | none=>.tup [.agg (cAtom ⟨ids,Hd.zero,p⟩),.b false]
 | some c=>.tup [.agg (cAtom ⟨ids,c.value,p⟩),.b true]
theorem d_atom (ids:List Int) (p:List Cb):PDoes Tryz.prog 205 [.sl (ids.map cI),.sl (p.map cCb)] (atomR ids p (pick p)):=by
 refine PDoes.of_bodyN Tryz.func205 rfl (by kernel_rfl) rfl rfl ?_
 have hP:=d_Pick p
 cases h:pick p with
 | none =>
  rw [h] at hP
  refine jA ?_
  refine RG.callS rfl rfl rfl rfl rfl hP rfl rfl ?_;refine wH rfl ?_;refine jA ?_
  refine AW.ret (retQA ty_ok rfl rfl rfl ?_)
  rfl
 | some c =>
  rw [h] at hP
  refine jA ?_
  refine RG.callS rfl rfl rfl rfl rfl hP rfl rfl ?_;refine wH rfl ?_;refine jA ?_
  refine AW.ret (retQA ty_ok rfl rfl rfl ?_)
  rfl
def atsR (r:List Atom × Int):AV:=.tup [.sl (r.1.map cAtom),.i .i64 r.2]
theorem pick_cons {x:Cb} {p:List Cb} (h:pileSound (x::p)=true):pick (x::p)=some x:=pick_sound h
theorem d_part (a:Atom) (n:Nat) (c:Cb) (hA:AtomOk n a) (hc:c.sound=true) (hn:a.ids.length<=1000):PDoes Tryz.prog 158 [.agg (cAtom a),.i .i64 (n:Nat),.sl ([c].map cCb)] (atsR (partA a n c)):=by
 refine PDoes.of_bodyN Tryz.func158 rfl (by kernel_rfl) rfl rfl ?_
 obtain ⟨m1,m2⟩:=pileMeet_ok hA.pile hc
 obtain ⟨l1,l2⟩:=pileLess_ok hA.pile hc
 have hM:=d_PMeet a.pile [c]
 have hL:=d_PLess a.pile [c]
 rw [partA]
 have hup:(a.ids++[((n:Nat):Int)]).Pairwise (· < ·):=by
  rw [List.pairwise_append]
  exact ⟨hA.up,List.pairwise_singleton _ _,fun x hx y hy=>by rw [List.mem_singleton.1 hy];exact hA.ids x hx⟩
 have hJ:=d_Join a.ids [((n:Nat):Int)] hup (by rw [List.length_singleton];decide) (by rw [List.length_singleton];omega)
 have hCl:=d_Clone_Int a.ids (by omega)
 rcases m1 with m1 | m1
 rotate_left
 ·rw [m1] at hM ⊢
  refine jB ?_
  refine AW.text ?_
  refine wH rfl ?_
  refine jB ?_
  refine AW.text ?_
  refine RG.opS rfl (op_nilRow 8 102 4 rfl) rfl ?_
  refine wH rfl ?_;refine jA ?_
  refine RG.callMS rfl rfl rfl rfl rfl rfl hM rfl ?_;refine wH rfl ?_;refine jA ?_
  refine AW.condT rfl ?_;refine jA ?_
  refine AW.ret (retQA ty_ok rfl rfl rfl ?_)
  rfl
 have m2:=(m2 m1).1
 rw [show pileMeet a.pile [c]=((pileMeet a.pile [c]).1,0) from Prod.ext rfl m1] at hM
 rw [decide_eq_true m1,cond_true]
 generalize (pileMeet a.pile [c]).1=mp at hM m2
 have hin:=d_atom (a.ids++[((n:Nat):Int)]) mp
 refine jB ?_
 refine AW.text ?_
 refine wH rfl ?_
 refine jB ?_
 refine AW.text ?_
 refine RG.opS rfl (op_nilRow 8 102 4 rfl) rfl ?_
 refine wH rfl ?_;refine jA ?_
 refine RG.callMS rfl rfl rfl rfl rfl rfl hM rfl ?_;refine wH rfl ?_;refine jA ?_
 refine AW.condF rfl ?_;refine jA ?_
 refine RG.callMS rfl rfl rfl rfl (congrArg (fun x=>[AV.sl (a.ids.map cI),x]) (rowAll (Y:=[((n:Nat):Int)].map cI) rfl)) rfl hJ rfl ?_;refine wH rfl ?_;refine jA ?_
 cases mp with
 | nil =>
  refine RG.callMS rfl rfl rfl rfl rfl rfl hin rfl ?_;refine wH rfl ?_;refine jA ?_
  refine AW.condF rfl ?_;refine jA ?_
  rcases l1 with l1 | l1
  rotate_left
  ·rw [l1] at hL ⊢
   refine RG.callMS rfl rfl rfl rfl rfl rfl hL rfl ?_;refine wH rfl ?_;refine jA ?_
   refine AW.condT rfl ?_;refine jA ?_
   refine AW.ret (retQA ty_ok rfl rfl rfl ?_)
   rfl
  have l2:=(l2 l1).1
  rw [show pileLess a.pile [c]=((pileLess a.pile [c]).1,0) from Prod.ext rfl l1] at hL
  rw [decide_eq_true l1,cond_true]
  generalize (pileLess a.pile [c]).1=lp at hL l2
  have hot:=d_atom a.ids lp
  refine RG.callMS rfl rfl rfl rfl rfl rfl hL rfl ?_;refine wH rfl ?_;refine jA ?_
  refine AW.condF rfl ?_;refine jA ?_
  refine RG.callMS rfl rfl rfl rfl rfl rfl hCl rfl ?_;refine wH rfl ?_;refine jA ?_
  cases lp with
  | nil =>
   refine RG.callMS rfl rfl rfl rfl rfl rfl hot rfl ?_;refine wH rfl ?_;refine jA ?_
   refine AW.condF rfl ?_;refine jA ?_
   refine AW.ret (retQA ty_ok rfl rfl rfl ?_)
   rfl
  | cons y lp =>
   rw [pick_cons l2] at hot
   refine RG.callMS rfl rfl rfl rfl rfl rfl hot rfl ?_;refine wH rfl ?_;refine jA ?_
   refine AW.condT rfl ?_;refine jB ?_
   refine AW.text ?_
   refine wH rfl ?_
   refine RG.opS rfl (op_app1 cAtom ([]:List Atom) (⟨a.ids,y.value,y::lp⟩:Atom) (by decide) rfl rfl rfl rfl (tab_ok ty_ok rfl) rfl (tab_ok ty_ok rfl) rfl rfl ⟨_,rfl,rfl⟩ rfl rfl) rfl ?_;refine wH rfl ?_;refine jA ?_
   refine AW.ret (retQA ty_ok rfl rfl rfl ?_)
   exact congrArg (fun x=>AV.tup [x,.i .i64 0]) (rowAll (by rw [partOut];rfl))
 | cons x mp =>
  rw [pick_cons m2] at hin
  refine RG.callMS rfl rfl rfl rfl rfl rfl hin rfl ?_;refine wH rfl ?_;refine jA ?_
  refine AW.condT rfl ?_;refine jB ?_
  refine AW.text ?_
  refine wH rfl ?_
  refine RG.opS rfl (op_app1 cAtom ([]:List Atom) (⟨a.ids++[((n:Nat):Int)],x.value,x::mp⟩:Atom) (by decide) rfl rfl rfl rfl (tab_ok ty_ok rfl) rfl (tab_ok ty_ok rfl) rfl rfl ⟨_,rfl,rfl⟩ rfl rfl) rfl ?_;refine wH rfl ?_;refine jA ?_
  rcases l1 with l1 | l1
  rotate_left
  ·rw [l1] at hL ⊢
   refine RG.callMS rfl rfl rfl rfl rfl rfl hL rfl ?_;refine wH rfl ?_;refine jA ?_
   refine AW.condT rfl ?_;refine jA ?_
   refine AW.ret (retQA ty_ok rfl rfl rfl ?_)
   rfl
  have l2:=(l2 l1).1
  rw [show pileLess a.pile [c]=((pileLess a.pile [c]).1,0) from Prod.ext rfl l1] at hL
  rw [decide_eq_true l1,cond_true]
  generalize (pileLess a.pile [c]).1=lp at hL l2
  have hot:=d_atom a.ids lp
  refine RG.callMS rfl rfl rfl rfl rfl rfl hL rfl ?_;refine wH rfl ?_;refine jA ?_
  refine AW.condF rfl ?_;refine jA ?_
  refine RG.callMS rfl rfl rfl rfl rfl rfl hCl rfl ?_;refine wH rfl ?_;refine jA ?_
  cases lp with
  | nil =>
   refine RG.callMS rfl rfl rfl rfl rfl rfl hot rfl ?_;refine wH rfl ?_;refine jA ?_
   refine AW.condF rfl ?_;refine jA ?_
   refine AW.ret (retQA ty_ok rfl rfl rfl ?_)
   exact congrArg (fun x=>AV.tup [x,.i .i64 0]) (rowAll (by rw [partOut,List.append_nil];rfl))
  | cons y lp =>
   rw [pick_cons l2] at hot
   refine RG.callMS rfl rfl rfl rfl rfl rfl hot rfl ?_;refine wH rfl ?_;refine jA ?_
   refine AW.condT rfl ?_;refine jB ?_
   refine AW.text ?_
   refine wH rfl ?_
   refine RG.opS rfl (op_app1 cAtom [(⟨a.ids++[((n:Nat):Int)],x.value,x::mp⟩:Atom)] (⟨a.ids,y.value,y::lp⟩:Atom) (show 1<=100000000 by decide) rfl rfl rfl rfl (tab_ok ty_ok rfl) rfl (tab_ok ty_ok rfl) rfl rfl ⟨_,rfl,rfl⟩ rfl rfl) rfl ?_;refine wH rfl ?_;refine jA ?_
   refine AW.ret (retQA ty_ok rfl rfl rfl ?_)
   exact congrArg (fun x=>AV.tup [x,.i .i64 0]) (rowAll (by rw [partOut];rfl))
theorem partA_len (a:Atom) (id:Int) (c:Cb):(partA a id c).1.length<=2:=by
 rw [partA]
 cases decide ((pileMeet a.pile [c]).2=0)
 ·exact Nat.zero_le _
 cases decide ((pileLess a.pile [c]).2=0)
 ·exact Nat.zero_le _
 rw [cond_true,cond_true,List.length_append]
 have h1:∀p,(partIn a id c p).length<=1:=fun p=>by cases p <;> simp [partIn]
 have h2:∀p,(partOut a p).length<=1:=fun p=>by cases p <;> simp [partOut]
 have:=h1 (pileMeet a.pile [c]).1
 have:=h2 (pileLess a.pile [c]).1
 omega
theorem d_split (l:List Atom) (n:Nat) (c:Cb) (hA:∀a∈l,AtomOk n a/\a.ids.length<=1000) (hc:c.sound=true) (hl:l.length<=600):PDoes Tryz.prog 107 [.sl (l.map cAtom),.i .i64 (n:Nat),.agg (cCb c)] (atsR (splitL n c l [])):=by
  refine PDoes.of_bodyN Tryz.func107 rfl (by kernel_rfl) rfl rfl ?_
  have hm:l.length<=9223372036854775807:=by omega
  refine jB ?_
  refine AW.text ?_
  refine wH rfl ?_
  refine jB ?_
  refine AW.text ?_
  refine RG.opS rfl (op_nilRow 8 102 4 rfl) rfl ?_
  refine wH rfl ?_;refine jA ?_
  refine AW.loopL (ι:=Nat × List Atom) (fun i=>[(1,.i .i64 (n:Nat)),(5,.own 5 0 0),(8,.row 8 0 0 (i.2.map cAtom).length),(13,.sl (l.map cAtom)),(14,.i .i64 (l.map cAtom).length),(15,.i .i64 (i.1:Nat))]) (fun i=>[(5,⟨0,some (.box 36 (cCb c))⟩),(8,⟨0,some (.row 102 4 (i.2.map cAtom))⟩)]) (fun i=>(i.1<=l.length/\i.2.length<=2*i.1)/\splitL n c (l.drop i.1) i.2=splitL n c l []) (fun i=>l.length - i.1) (0,[]) ⟨⟨Nat.zero_le _,Nat.zero_le _⟩,rfl⟩ jW jW fun i hi=>?_
  obtain ⟨k,out⟩:=i
  obtain ⟨⟨hk,ho⟩,hf⟩:=hi
  simp only at hk ho hf
  refine jA ?_
  refine AW.cond rfl (fun h0=>?_) (fun h0=>?_)
  · have h:k<l.length:=by simpa using h0
    rw [List.drop_eq_getElem_cons h,splitL] at hf
    have hkx:(l.map cAtom)[k]?=some (cAtom l[k]):=by rw [List.getElem?_map,List.getElem?_eq_getElem h];rfl
    have ha:=hA l[k] (List.getElem_mem h)
    generalize l[k]=a at hf hkx ha
    have hP:=d_part a n c ha.1 hc ha.2
    have hpl:=partA_len a n c
    refine jA ?_
    refine RG.opS rfl (op_index rfl (tab_ok ty_ok rfl) rfl (tab_ok ty_ok rfl) rfl rfl hkx rfl) rfl ?_
    refine wH rfl ?_;refine jA ?_
    refine RG.callMS rfl rfl rfl rfl (congrArg (fun x=>[AV.agg (cAtom a),AV.i .i64 (n:Nat),x]) (rowAll (Y:=[c].map cCb) rfl)) rfl hP rfl ?_;refine wH rfl ?_;refine jA ?_
    refine AW.cond rfl (fun h2=>?_) (fun h2=>?_)
    · have h2:¬(partA a n c).2=0:=by simpa using h2
      rw [decide_eq_false h2,cond_false] at hf
      refine jA ?_
      refine AW.ret (retQA ty_ok rfl rfl rfl ?_)
      rw [<- hf]
      rfl
    · have h2:(partA a n c).2=0:=by simpa using h2
      rw [decide_eq_true h2,cond_true] at hf
      refine jB ?_
      refine AW.text ?_
      refine wH rfl ?_
      refine RG.opS rfl (op_appL cAtom out (partA a n c).1 (by omega) (fun _=>rfl) rfl rfl rfl rfl (tab_ok ty_ok rfl) rfl (tab_ok ty_ok rfl) rfl rfl ⟨_,rfl,rfl⟩ rfl) rfl ?_;refine wH rfl ?_;refine jA ?_
      exact ⟨(k+1,_),⟨⟨⟨h,by rw [List.length_append];simp only;omega⟩,hf⟩,by show l.length - (k+1)<l.length - k;omega⟩,jV,jW⟩
  · have h:¬k<l.length:=by simpa using h0
    obtain rfl:k=l.length:=by omega
    rw [List.drop_length,splitL] at hf
    have hol:(out.map cAtom).length=out.length:=List.length_map ..
    refine jA ?_
    refine AW.exit ?_;refine Eq.mpr (if_pos rfl) ?_;refine jA ?_
    refine AW.cond rfl (fun h2=>?_) (fun h2=>?_)
    · have h2:((out.map cAtom).length:Int)>600:=of_decide_eq_true h2
      rw [decide_eq_true (by omega),cond_true] at hf
      refine jA ?_
      refine AW.ret (retQA ty_ok rfl rfl rfl ?_)
      rw [<- hf]
      rfl
    · have h2:¬((out.map cAtom).length:Int)>600:=of_decide_eq_false h2
      rw [decide_eq_false (by omega),cond_false] at hf
      refine jA ?_
      refine AW.ret (retQA ty_ok rfl rfl rfl ?_)
      rw [<- hf]
      exact congrArg (fun x=>AV.tup [x,.i .i64 0]) (rowAll rfl)
theorem splitL_next {cs:List Cb} {c:Cb} {out:List Atom} (hc:c.sound=true) (hP:Parts cs out) (hl:∀a∈out,a.ids.length<=cs.length) (h0:(splitL cs.length c out []).2=0):Parts (cs++[c]) (splitL cs.length c out []).1/\∀a∈(splitL cs.length c out []).1,a.ids.length<=cs.length+1:=by
 constructor
 ·have e:splitF cs.length [c] out=((splitL cs.length c out []).1,0):=by
   rw [splitF,decide_eq_true h0,cond_true,splitF]
  have:=(splitF_ok [c] cs out (fun d hd=>by rw [List.mem_singleton.1 hd];exact hc) hP).2 (by rw [e])
  rw [e] at this
  exact this
 ·obtain ⟨_,g⟩:=splitL_ok (id:=cs.length) hc out [] fun a ha=>(hP.ok a ha).pile
  obtain ⟨_,g,_⟩:=g h0
  intro x hx
  rcases g x hx with hx | ⟨a,ha,h1,hx⟩
  ·cases hx
  ·have:=hl a ha
   rcases (partA_mem h1 (hP.ok a ha).pile hc hx).2.2 with ⟨e,_⟩ | ⟨e,_⟩ <;> rw [e]
   ·rw [List.length_append,List.length_singleton];omega
   ·omega
theorem d_Split (ps:List Cb):PDoes Tryz.prog 53 [.sl (ps.map cCb)] (atsR (atomsOf ps)):=by
  refine PDoes.of_bodyN Tryz.func53 rfl (by kernel_rfl) rfl rfl ?_
  have hol:(ps.map cCb).length=ps.length:=List.length_map ..
  rw [atomsOf]
  refine jA ?_
  refine AW.cond rfl (fun h2=>?_) (fun h2=>?_)
  · have h2:((ps.map cCb).length:Int)>500:=of_decide_eq_true h2
    rw [decide_eq_true (by omega),cond_true]
    refine jA ?_
    refine AW.ret (retQA ty_ok rfl rfl rfl ?_)
    rfl
  have h2:¬((ps.map cCb).length:Int)>500:=of_decide_eq_false h2
  rw [decide_eq_false (by omega),cond_false]
  have hC:=d_ContainsFunc_Cb 104 (fun x=>!x.sound) ps (fun x _=>d_SplitFn x) _ (any_not ps)
  cases hs:ps.all Cb.sound
  · rw [hs] at hC
    refine jA ?_
    refine RG.callS rfl rfl rfl rfl rfl hC rfl rfl ?_;refine wH rfl ?_;refine jA ?_
    refine AW.condF rfl ?_;refine jA ?_
    refine AW.ret (retQA ty_ok rfl rfl rfl ?_)
    rfl
  rw [hs] at hC
  rw [cond_true]
  rw [List.all_eq_true] at hs
  have hm:ps.length<=9223372036854775807:=by omega
  refine jA ?_
  refine RG.callS rfl rfl rfl rfl rfl hC rfl rfl ?_;refine wH rfl ?_;refine jA ?_
  refine AW.condT rfl ?_;refine jA ?_
  refine RG.callS rfl rfl rfl rfl rfl d_All rfl rfl ?_;refine wH rfl ?_;refine jA ?_
  refine AW.freeze [19] [(4,.sl ([atom0].map cAtom)),(20,.sl (ps.map cCb)),(21,.i .i64 (ps.map cCb).length),(22,.i .i64 (0:Nat))] [] ⟨.fzA rfl rfl rfl,.is rfl rfl,.is rfl rfl,.is rfl rfl,trivial⟩ trivial rfl ?_
  refine AW.loopL (ι:=Nat × List Atom) (fun i=>[(4,.sl (i.2.map cAtom)),(20,.sl (ps.map cCb)),(21,.i .i64 (ps.map cCb).length),(22,.i .i64 (i.1:Nat))]) (fun i=>[]) (fun i=>(i.1<=ps.length/\Parts (ps.take i.1) i.2/\∀a∈i.2,a.ids.length<=i.1)/\splitF i.1 (ps.drop i.1) i.2=splitF 0 ps [atom0]) (fun i=>ps.length - i.1) (0,[atom0]) ⟨⟨Nat.zero_le _,parts0,fun a ha=>by rw [List.mem_singleton.1 ha];exact Nat.le_refl _⟩,rfl⟩ jW trivial fun i hi=>?_
  obtain ⟨k,out⟩:=i
  obtain ⟨⟨hk,hP,hL⟩,hf⟩:=hi
  simp only at hk hP hL hf
  refine jA ?_
  refine AW.cond rfl (fun h0=>?_) (fun h0=>?_)
  · have h:k<ps.length:=by simpa using h0
    have hlt:(ps.take k).length=k:=by rw [List.length_take];omega
    rw [List.drop_eq_getElem_cons h,splitF] at hf
    have hkx:(ps.map cCb)[k]?=some (cCb ps[k]):=by rw [List.getElem?_map,List.getElem?_eq_getElem h];rfl
    have hc:=hs ps[k] (List.getElem_mem h)
    have htk:ps.take (k+1)=ps.take k++[ps[k]]:=by rw [List.take_add_one,List.getElem?_eq_getElem h];rfl
    have hN:=splitL_next (cs:=ps.take k) (c:=ps[k]) (out:=out) hc hP (by rw [hlt];exact hL)
    rw [<- htk,hlt] at hN
    have hS:=d_split out k ps[k] (fun a ha=>⟨by have:=hP.ok a ha;rw [hlt] at this;exact this,by have:=hL a ha;omega⟩) hc hP.len
    generalize ps[k]=c at hf hkx hc hN hS
    clear htk
    refine jA ?_
    refine RG.opS rfl (op_index rfl (tab_ok ty_ok rfl) rfl (tab_ok ty_ok rfl) rfl rfl hkx rfl) rfl ?_
    refine wH rfl ?_;refine jA ?_
    refine RG.callMS rfl rfl rfl rfl rfl rfl hS rfl ?_;refine wH rfl ?_;refine jA ?_
    refine AW.cond rfl (fun h3=>?_) (fun h3=>?_)
    · have h3:¬(splitL k c out []).2=0:=by simpa using h3
      rw [decide_eq_false h3,cond_false] at hf
      refine jA ?_
      refine AW.ret (retQA ty_ok rfl rfl rfl ?_)
      rw [<- hf]
      rfl
    · have h3:(splitL k c out []).2=0:=by simpa using h3
      rw [decide_eq_true h3,cond_true] at hf
      refine jA ?_
      exact ⟨(k+1,(splitL k c out []).1),⟨⟨⟨h,(hN h3).1,(hN h3).2⟩,hf⟩,by show ps.length - (k+1)<ps.length - k;omega⟩,jV,trivial⟩
  · have h:¬k<ps.length:=by simpa using h0
    obtain rfl:k=ps.length:=by omega
    rw [List.drop_length,splitF] at hf
    refine jA ?_
    refine AW.exit ?_;refine Eq.mpr (if_pos rfl) ?_;refine jA ?_
    refine RG.callMS rfl rfl rfl rfl rfl rfl (d_Clip_Atom out) rfl ?_;refine wH rfl ?_;refine jA ?_
    refine AW.ret (retQA ty_ok rfl rfl rfl ?_)
    rw [<- hf]
    rfl
end Go.Proofs.YtoaibdbehlcnfaaGreat.Sm
end
section
namespace Go.Proofs.YtoaibdbehlcnfaaGreat.Sm
open Go.RowKit
def cubeV (c:Cb):Value:=.agg #[.int .u64 c.value.hi.toNat,.int .u64 c.value.lo.toNat,.int .u64 c.care.hi.toNat,.int .u64 c.care.lo.toNat]
def cbEs (l:List Cb):Array MapEntry:=(l.zipIdx.map fun p=>⟨cubeV p.1,.bool true,p.2⟩).toArray
theorem cbEs_push (l:List Cb) (c:Cb):(cbEs l).push ⟨cubeV c,.bool true,l.length⟩=cbEs (l++[c]):=by
 simp [cbEs,List.zipIdx_append]
def mapO (l:List Cb):Body:=.obj (.map (cbEs l) l.length)
theorem cubeV_inj {a b:Cb} (h:cubeV a=cubeV b):a=b:=by
 simp only [cubeV,Value.agg.injEq,Array.mk.injEq,List.cons.injEq,Value.int.injEq,true_and,and_true,Int.natCast_inj,UInt64.toNat_inj] at h
 obtain ⟨h1,h2,h3,h4⟩:=h
 obtain ⟨⟨a1,a2⟩,⟨a3,a4⟩⟩:=a
 obtain ⟨⟨b1,b2⟩,⟨b3,b4⟩⟩:=b
 simp only at h1 h2 h3 h4
 subst h1 h2 h3 h4
 rfl
theorem mem_cbEs {l:List Cb} {e:MapEntry} (h:e∈(cbEs l).toList):∃x∈l,e.key=cubeV x/\e.val = .bool true:=by
 simp only [cbEs,List.mem_map] at h
 obtain ⟨p,hp,rfl⟩:=h
 exact ⟨p.1,(List.mem_zipIdx hp).2.2 ▸ List.getElem_mem _,rfl,rfl⟩
theorem cbEs_mem {l:List Cb} {x:Cb} (h:x∈l):∃e∈(cbEs l).toList,e.key=cubeV x:=by
 obtain ⟨i,hi,rfl⟩:=List.mem_iff_getElem.1 h
 exact ⟨⟨cubeV l[i],.bool true,i⟩,by
  simp only [cbEs,List.mem_map]
  exact ⟨(l[i],i),by rw [List.mem_iff_getElem?];exact ⟨i,by simp [List.getElem?_eq_getElem hi]⟩,rfl⟩,rfl⟩
theorem u64_wf (x:UInt64):(Lit.int .u64 (x.toNat:Int)).wf=true:=by
 have h:=x.toNat_lt
 have h1:IntKind.u64.min=0:=rfl
 have h2:IntKind.u64.max=18446744073709551615:=rfl
 simp only [Lit.wf,h1,h2,Bool.and_eq_true,decide_eq_true_eq]
 omega
theorem key_lits {P:Program} {k h u:TypeId} {f0 f1 g0 g1:Field} (h1:P.underlying k=some (.struct #[f0,f1])) (h2:P.underlying h=some (.struct #[g0,g1])) (h3:P.underlying u=some (.int .u64)) (c1:P.cellsOf k=4) (c2:P.cellsOf h=2) (c3:P.cellsOf u=1)
  (a0 : f0.type = h /\ f0.offset = 0 /\ f0.name ≠ "_") (a1 : f1.type = h /\ f1.offset = 2 /\ f1.name ≠ "_") (b0 : g0.type = u /\ g0.offset = 0 /\ g0.name ≠ "_") (b1 : g1.type = u /\ g1.offset = 1 /\ g1.name ≠ "_") (n : Nat) (c : Cb) :
  P.keyLits (n+3) k (cubeV c).cells.toList=some [.int .u64 c.value.hi.toNat,.int .u64 c.value.lo.toNat,.int .u64 c.care.hi.toNat,.int .u64 c.care.lo.toNat]:=by
 have key:∀m x y,P.keyLits (m+2) h [.int .u64 ((x:UInt64).toNat:Int),.int .u64 ((y:UInt64).toNat:Int)]=some [.int .u64 x.toNat,.int .u64 y.toNat]:=fun m x y=>by
  unfold Program.keyLits
  rw [h2]
  simp [c2,b0,b1,c3,Program.keyLits,h3,u64_wf]
 unfold Program.keyLits
 rw [h1]
 simp [c1,a0,a1,c2,cubeV,Value.cells,key]
theorem cube_formed {P:Program} {k:TypeId} {fs:Array Field} (h1:P.underlying k=some (.struct fs)) (c1:P.cellsOf k=4) (c:Cb):(cubeV c).formed P k=true:=by
 simp [cubeV,Value.formed,h1,c1]
theorem key_of {P:Program} {k:TypeId} {fs:Array Field} (h1:P.underlying k=some (.struct fs)) (hk:P.keyType k=true) {v:Value} (hf:v.formed P k=true) {ls:List Lit} (he:P.keyLits (P.types.size+1) k v.cells.toList=some ls):∃l,keyOf P k v=some l:=by
 unfold keyOf
 rw [h1]
 simp only [hk,hf,Bool.and_self,if_true,he,Option.map_some]
 exact ⟨_,rfl⟩
theorem key_row:(36:TypeId)<Tryz.prog.types.size:=of_decide_eq_true (by kernel_rfl)
theorem key_law:WideMaps.KeyLaw Tryz.prog 36:=deep_law_laid (by kernel_rfl) (m:=3) (by omega) key_row (by kernel_rfl) (by rw [Tryz.underlying36])
theorem cube_key (c:Cb):∃l,keyOf Tryz.prog 36 (cubeV c)=some l:=by
 have c1:Tryz.prog.cellsOf 36=4:=by kernel_rfl
 refine key_of Tryz.underlying36 (by kernel_rfl) (cube_formed Tryz.underlying36 c1 c) (ls:=[.int .u64 c.value.hi.toNat,.int .u64 c.value.lo.toNat,.int .u64 c.care.hi.toNat,.int .u64 c.care.lo.toNat]) ?_
 have hr:=key_row
 generalize hn:Tryz.prog.types.size=n at hr
 obtain ⟨m,rfl⟩:∃m,n=m+2:=⟨n - 2,by have:(2:Nat)<=n:=Nat.le_trans (by decide) (Nat.le_of_lt hr);omega⟩
 exact key_lits Tryz.underlying36 Tryz.underlying34 (u:=32) (by kernel_rfl) c1 (by kernel_rfl) (by kernel_rfl) ⟨rfl,rfl,by decide⟩ ⟨rfl,rfl,by decide⟩ ⟨rfl,rfl,by decide⟩ ⟨rfl,rfl,by decide⟩ m c
theorem rel_cube {W:World} {F:Nat->Prop} {μ:Mu} {σ:Sto} {c:Cb} {v:Value} (h:Rel W F μ σ (.agg (cCb c)) v):v=cubeV c:=by
 obtain ⟨vs,rfl,hl,_,hr⟩:=h.agg'
 match vs,hl with
 | [v0,v1,v2,v3],_ =>
  rw [(hr 0 _ _ rfl rfl).u',(hr 1 _ _ rfl rfl).u',(hr 2 _ _ rfl rfl).u',(hr 3 _ _ rfl rfl).u']
  rfl
section
variable {P : Program} {N : Nat} {o : Oper} {s : St}
theorem Rel.ref' {W:World} {F:Nat->Prop} {μ:Mu} {σ:Sto} {id ep:Nat} {k:RK} {v:Value} (h:Rel W F μ σ (.ref id ep k) v):ep<=(σ id).ep/\v.oneCell'=true/\∀bd,σ id=⟨ep,some bd⟩->∃b c,μ id=some (b,c)/\v=k.val b:=by
 cases h with
 | pure h=>cases h
 | ref _ _ _ _ he h1 h=>exact ⟨he,h1,h⟩
theorem op_makeMap {t id:Nat} (ho:o.op = .makeMap t none):OpLoc P N o s ⟨.ref id ((s.σ id).ep+1) .map,[(id,⟨(s.σ id).ep+1,some (mapO [])⟩)],[]⟩:=by
 intro s' h1 h2 h3 W F μ a hr K Q hK
 have hid:s'.σ id=s.σ id:=h3 (id,⟨(s.σ id).ep+1,some (mapO [])⟩) (by simp)
 have hrun:(execOp a.eval o).run P W = .ok (.value (.map (some W.heap.size))) (W.alloc (.map #[] 0)):=by
  simp only [execOp,ho,Instr.makeMap,newObj,Option.map_none,Sem.run_bind,Sem.run_pure,Result.andThen_ok,Sem.run,World.alloc]
 have hk:Kp (fun b=>(s'.σ id).body.isSome=true/\∃c,μ id=some (b,c)) W (W.alloc (.map #[] 0)):=(Kp.refl _ W).alloc _
 have hσ:up1 s'.σ id ⟨(s.σ id).ep+1,some (mapO [])⟩ id=⟨(s.σ id).ep+1,some (mapO [])⟩:=by rw [up1_eq,if_pos rfl]
 have hμ:upm μ id (some (W.heap.size,0)) id=some (W.heap.size,0):=by rw [upm_eq,if_pos rfl]
 obtain ⟨hs,hi⟩:=inv_turn hr.inv id (some (W.heap.size,0)) ((s.σ id).ep+1) (mapO []) hk (fun b c' e=>by
   have e':W.heap.size=b:=by simp only [Option.some.injEq,Prod.mk.injEq] at e;exact e.1
   subst e'
   exact ⟨by simp,.inl (Nat.le_refl _)⟩) (.inl (by rw [hid];omega)) (fun hs=>⟨W.heap.size,0,rfl,heap_alloc_new W _⟩)
 unfold Oper.wp
 rw [hrun]
 refine hK _ F _ _ (hr.put hs hi (.ref id _ .map _ ?_ rfl fun bd h=>⟨W.heap.size,0,hμ,rfl⟩)) hs
 show _<=(up1 s'.σ id ⟨(s.σ id).ep+1,some (mapO [])⟩ id).ep
 rw [hσ]
 exact Nat.le_refl _
end
theorem find_cube (W:World) (l:List Cb) (c:Cb):(c∉l/\(Instr.findKey 36 (cubeV c) (cbEs l).toList).run Tryz.prog W = .ok none W)\/(c∈l/\∃j,(Instr.findKey 36 (cubeV c) (cbEs l).toList).run Tryz.prog W = .ok (some (j,.bool true)) W):=by
 obtain ⟨lx,hx⟩:=cube_key c
 rcases key_law.find W hx (cbEs l).toList (fun e he=>by
  obtain ⟨x,_,hk,_⟩:=mem_cbEs he
  rw [hk]
  exact cube_key x) with ⟨h1,h2⟩ | ⟨j,e,h1,h2,h3⟩
 ·refine .inl ⟨fun hc=>?_,h1⟩
  obtain ⟨e,he,hk⟩:=cbEs_mem hc
  exact h2 e he hk
 ·obtain ⟨x,hx,hk,hv⟩:=mem_cbEs (List.mem_of_getElem? h2)
  rw [hv] at h1
  have:x=c:=cubeV_inj (hk.symm.trans h3)
  exact .inr ⟨this ▸ hx,j,h1⟩
theorem run_getMap {P:Program} {W:World} {r:Nat} {es:Array MapEntry} {clock:Nat} (hb:W.heap[r]?=some (.map es clock)):(getObj r).run P W = .ok (.map es clock) W:=MapKept.run_getObj_map hb
theorem map_under:Tryz.prog.underlying 180=some (.map 36 4):=by kernel_rfl
theorem bool_zero (W:World):(zeroValue 4).run Tryz.prog W = .ok (.bool false) W:=by kernel_rfl
theorem op_lookCb {N:Nat} {o:Oper} {s:St} {x k:Operand} {id ep:Nat} {l:List Cb} {c:Cb} {r:Bool} (ho:o.op = .lookup 180 x k false) (hx:s.ev x = .ref id ep .map) (hid:s.σ id=⟨ep,some (mapO l)⟩) (hk:s.ev k = .agg (cCb c)) (hr:decide (c∈l)=r) :
  OpLoc Tryz.prog N o s ⟨.b r,[],[id]⟩:=by
 subst hr
 refine oploc_val [id] _ fun s' W F μ a h1 h2 hr=>⟨.bool (decide (c∈l)),?_,.pure (.b _)⟩
 have ex:=hr.ev x
 have ek:=hr.ev k
 rw [h1 x (by rw [ho];simp [Op.operands]),hx] at ex
 rw [h1 k (by rw [ho];simp [Op.operands]),hk] at ek
 have hid':=(h2 id (by simp)).trans hid
 obtain ⟨b,c',hm,hv⟩:=(Rel.ref' ex).2.2 _ hid'
 obtain ⟨b',c'',hm',hh⟩:=hr.inv.body _ _ _ hid'
 obtain ⟨rfl,rfl⟩:b=b'/\c'=c'':=by rw [hm] at hm';simpa using hm'
 have hkv:=rel_cube ek
 obtain ⟨lx,hlx⟩:=cube_key c
 have hck:=fun em=>key_law.check W em hlx
 rcases find_cube W l c with ⟨h3,h4⟩ | ⟨h3,j,h4⟩
 ·rw [decide_eq_false h3]
  simp only [execOp,ho,Instr.lookup,Sem.run_bind,run_underlying map_under,Result.andThen_ok,hv,RK.val,run_getMap hh,Sem.run_pure,hkv,hck,h4,bool_zero]
  rfl
 ·rw [decide_eq_true h3]
  simp only [execOp,ho,Instr.lookup,Sem.run_bind,run_underlying map_under,Result.andThen_ok,hv,RK.val,run_getMap hh,Sem.run_pure,hkv,hck,h4]
  rfl
theorem op_putCb {N : Nat} {o : Oper} {s : St} {x k v : Operand} {id ep : Nat} {l : List Cb} {c : Cb} (ho : o.op = .mapUpdate 180 x k v) (hx : s.ev x = .ref id ep .map) (hid : s.σ id = ⟨ep, some (mapO l)⟩) (hk : s.ev k = .agg (cCb c)) (hv : s.ev v = .b true) (hc : c ∉ l) :
    OpLoc Tryz.prog N o s ⟨.tup [],[(id,⟨ep,some (mapO (l++[c]))⟩)],[]⟩:=by
  intro s' g1 g2 g3 W F μ a hr K Q hK
  have hid':s'.σ id=⟨ep,some (mapO l)⟩:=(g3 (id,⟨ep,some (mapO (l++[c]))⟩) (by simp)).trans hid
  have ex:=hr.ev x
  have ek:=hr.ev k
  have ev:=hr.ev v
  rw [g1 x (by rw [ho];simp [Op.operands]),hx] at ex
  rw [g1 k (by rw [ho];simp [Op.operands]),hk] at ek
  rw [g1 v (by rw [ho];simp [Op.operands]),hv] at ev
  obtain ⟨b,c',hm,hv⟩:=(Rel.ref' ex).2.2 _ hid'
  obtain ⟨b',c'',hm',hh⟩:=hr.inv.body _ _ _ hid'
  obtain ⟨rfl,rfl⟩:b=b'/\c'=c'':=by rw [hm] at hm';simpa using hm'
  have hkv:=rel_cube ek
  have hvv:=ev.b'
  obtain ⟨lx,hlx⟩:=cube_key c
  have hck:=fun em=>key_law.check W em hlx
  have hf:(Instr.findKey 36 (cubeV c) (cbEs l).toList).run Tryz.prog W = .ok none W:=by
    rcases find_cube W l c with ⟨h3,h4⟩ | ⟨h3,_⟩
    · exact h4
    · exact absurd h3 hc
  have hlt:b<W.heap.size:=(Array.getElem?_eq_some_iff.1 hh).1
  generalize hW:({ W with heap:=W.heap.setIfInBounds b (.map (cbEs (l++[c])) (l++[c]).length) }:World)=W'
  have hrun:(execOp a.eval o).run Tryz.prog W = .ok .skip W':=by
    simp only [execOp,ho,Instr.mapUpdate,Sem.run_bind,run_underlying map_under,Result.andThen_ok,hv,RK.val,run_getMap hh,Sem.run_pure,hkv,hvv,hck,hf,MapKept.run_setObj_map _ hh,cbEs_push]
    rw [<- hW,List.length_append,List.length_singleton]
  have hk:Kp (fun b=>(s'.σ id).body.isSome=true/\∃c,μ id=some (b,c)) W W':=by
    subst hW
    exact ⟨rfl,rfl,rfl,by simp,fun k hk hn=>by
      have:b≠k:=fun e=>hn ⟨by rw [hid'];rfl,c',e ▸ hm⟩
      simp only [Array.getElem?_setIfInBounds,if_neg this]⟩
  have hh':W'.heap[b]?=some (.map (cbEs (l++[c])) (l++[c]).length):=by
    subst hW
    simp only [Array.getElem?_setIfInBounds,if_true,if_pos hlt]
  have hsz:W'.heap.size=W.heap.size:=by subst hW;simp
  obtain ⟨hs, hi⟩ := inv_turn hr.inv id (μ id) ep (mapO (l ++ [c])) hk (fun b1 c1 e => by
      rw [hm] at e
      obtain ⟨rfl,rfl⟩:b=b1/\c'=c1:=by simpa using e
      exact ⟨by rw [hsz];exact hlt,.inr ⟨by rw [hid'];rfl,c',hm⟩⟩)
    (.inr ⟨by rw [hid'],mapO l,by rw [hid'],rfl,rfl⟩) (fun hs=>⟨b,c',hm,hh'⟩)
  unfold Oper.wp
  rw [hrun]
  exact hK _ F _ _ (hr.put hs hi (.pure (.tup [] [] rfl (by simp)))) hs
end Go.Proofs.YtoaibdbehlcnfaaGreat.Sm
end
section
namespace Go.Proofs.YtoaibdbehlcnfaaGreat.Sm
open Go.RowKit
def lsB (l:List Cb):List (Nat × SB):=[(200,⟨0,some (.box 182 [.row 201 0 0 (l.map cCb).length,.ref 202 0 .map])⟩),(201,⟨0,some (.row 36 4 (l.map cCb))⟩),(202,⟨0,some (mapO l)⟩)]
theorem ls_end {s:St} {q:Nat->Option (Nat × Nat)} {l:List Cb} {e e1 e1' e2 e2' g g2 n:Nat} {els:List (List AV)} {o:Body} (h0:s.σ 200=⟨e,some (.box 182 [.row 201 e1 0 n,.ref 202 e2 .map])⟩) (h1:s.σ 201=⟨e1',some (.row 36 4 els)⟩) (h2:s.σ 202=⟨e2',some o⟩)
  (hg:s.σ 1100=⟨g,some (.ghost 200 e (q 200))⟩) (hg2:s.σ 1102=⟨g2,some (.ghost 202 e2' (q 202))⟩)
  (he:e1=e1') (he2:e2=e2') (hn:n=(l.map cCb).length) (hel:els=l.map cCb) (ho:o=mapO l):WkB s (lkB (gl q [200,202] (lsB l))) (gl q [200,202] (lsB l)):=by
 subst he he2 hn hel ho
 exact ⟨.ghost hg h0 rfl,.ghost hg2 h2 rfl,.boxL h0 ⟨Rn.rowIs rfl h1 rfl,Rn.refIs rfl h2 rfl,trivial⟩ rfl,.row h1 rfl,.obj h2 rfl,trivial⟩
theorem m_fresh (q:Nat->Option (Nat × Nat)):MDoes Tryz.prog 96 [] (gl q [] []) (.own 3 0 0) (gl q [] [(3,⟨0,some (.box 182 [.row 9 0 0 0,.ref 1 0 .map])⟩),(1,⟨0,some (mapO [])⟩),(9,⟨0,some (.row 36 4 [])⟩)]):=by
 refine MDoes.of_body Tryz.func96 rfl (by kernel_rfl) rfl rfl ?_
 refine jA ?_
 refine RG.opS rfl (op_makeMap (id:=1) rfl) rfl ?_
 refine wH rfl ?_;refine jA ?_
 refine AW.nilRow 9 0 36 4 [(0,.own 3 0 0)] [(3,⟨0,some (.box 182 [.row 9 0 0 0,.ref 1 0 .map])⟩),(1,⟨0,some (mapO [])⟩),(9,⟨0,some (.row 36 4 [])⟩)] ⟨.rn (Rn.ownIs rfl rfl rfl),trivial⟩ ⟨.boxL rfl ⟨.nil rfl,.rn (Rn.refIs rfl rfl rfl),trivial⟩ rfl,.old (.obj rfl rfl),.old (.row rfl rfl),trivial⟩ ?_
 refine AW.ret (retM1 rfl (Rm.ownIs rfl rfl rfl rfl) ⟨.boxL rfl ⟨Rn.rowIs rfl rfl rfl,Rn.refIs rfl rfl rfl,trivial⟩ rfl,.obj rfl rfl,.row rfl rfl,trivial⟩)
theorem addC_in {l:List Cb} {x:Cb} (h:x∈l):addC l x=l:=by rw [addC,decide_eq_true h];rfl
theorem addC_out {l:List Cb} {x:Cb} (h:¬x∈l):addC l x=l++[x]:=by rw [addC,decide_eq_false h];rfl
theorem m_add (l:List Cb) (x:Cb) (hl:l.length<=100000000) (q:Nat->Option (Nat × Nat)):MDoes Tryz.prog 100 [.own 200 0 0,.agg (cCb x)] (gl q [200,202] (lsB l)) (.tup []) (gl q [200,202] (lsB (addC l x))):=by
 refine MDoes.of_body Tryz.func100 rfl (by kernel_rfl) rfl rfl ?_
 by_cases h:x∈l
 ·rw [addC_in h]
  refine jA ?_
  refine RG.opS rfl (op_lookCb rfl rfl rfl rfl (decide_eq_true h)) rfl ?_
  refine wH rfl ?_;refine jA ?_
  refine AW.condF rfl ?_;refine jA ?_
  exact retM0 rfl (.inl rfl) (ls_end rfl rfl rfl rfl rfl rfl rfl rfl rfl rfl)
 ·rw [addC_out h]
  refine jA ?_
  refine RG.opS rfl (op_lookCb rfl rfl rfl rfl (decide_eq_false h)) rfl ?_
  refine wH rfl ?_;refine jA ?_
  refine AW.condT rfl ?_;refine jA ?_
  refine RG.opS rfl (op_putCb rfl rfl rfl rfl rfl h) rfl ?_
  refine wH rfl ?_;refine jA ?_
  refine RG.opS rfl (op_app1 cCb l x hl rfl rfl rfl rfl (tab_ok ty_ok rfl) rfl (tab_ok ty_ok rfl) rfl rfl ⟨_,rfl,rfl⟩ rfl rfl) rfl ?_;refine wH rfl ?_;refine jA ?_
  exact retM0 rfl (.inl rfl) (ls_end rfl rfl rfl rfl rfl rfl rfl rfl rfl rfl)
theorem m_match (l:List Cb) (r:Rl) (hl:l.length<=100000000) (q:Nat->Option (Nat × Nat)):MDoes Tryz.prog 98 [.agg [.own 200 0 0],.agg (cRl r)] (gl q [200,202] (lsB l)) (.tup []) (gl q [200,202] (lsB (addC l r.mat))):=by
 refine MDoes.of_body Tryz.func98 rfl (by kernel_rfl) rfl rfl ?_
 refine jA ?_
 refine RG.ownN [(200,200),(201,201),(202,202)] [(200,200),(201,201),(202,202)] (fun q=>m_add l r.mat hl q) rfl rfl rfl rfl rfl rfl rfl rfl rfl rfl ?_
 refine wH rfl ?_;refine jA ?_
 exact retM0 rfl (.inl rfl) (ls_end rfl rfl rfl rfl rfl rfl rfl rfl rfl rfl)
def setC (l:List Cb) (r:Rl):List Cb:=bif decide (r.act.set=Cb.zero) then l else addC l r.act.set
theorem m_set (l:List Cb) (r:Rl) (hl:l.length<=100000000) (q:Nat->Option (Nat × Nat)):MDoes Tryz.prog 150 [.agg [.own 200 0 0],.agg (cRl r)] (gl q [200,202] (lsB l)) (.tup []) (gl q [200,202] (lsB (setC l r))):=by
  refine MDoes.of_body Tryz.func150 rfl (by kernel_rfl) rfl rfl ?_
  by_cases h:r.act.set=Cb.zero
  · have e:setC l r=l:=by rw [setC,decide_eq_true h];rfl
    rw [e]
    refine jA ?_
    refine RG.opS rfl (op_neG rfl ty_ok (by kernel_rfl) (by kernel_rfl) rfl rfl (eq_Cb r.act.set Cb.zero) (congrArg Bool.not (decide_eq_true h))) rfl ?_
    refine wH rfl ?_;refine jA ?_
    refine AW.condF rfl ?_;refine jA ?_
    exact retM0 rfl (.inl rfl) (ls_end rfl rfl rfl rfl rfl rfl rfl rfl rfl rfl)
  · have e:setC l r=addC l r.act.set:=by rw [setC,decide_eq_false h];rfl
    rw [e]
    refine jA ?_
    refine RG.opS rfl (op_neG rfl ty_ok (by kernel_rfl) (by kernel_rfl) rfl rfl (eq_Cb r.act.set Cb.zero) (congrArg Bool.not (decide_eq_false h))) rfl ?_
    refine wH rfl ?_;refine jA ?_
    refine AW.condT rfl ?_;refine jA ?_
    refine RG.ownN [(200,200),(201,201),(202,202)] [(200,200),(201,201),(202,202)] (fun q=>m_add l r.act.set hl q) rfl rfl rfl rfl rfl rfl rfl rfl rfl rfl ?_
    refine wH rfl ?_;refine jA ?_
    exact retM0 rfl (.inl rfl) (ls_end rfl rfl rfl rfl rfl rfl rfl rfl rfl rfl)
theorem addC_len (l:List Cb) (x:Cb):(addC l x).length<=l.length+1:=by
 rw [addC]
 cases decide (x∈l)
 ·simp
 ·simp
theorem setC_len (l:List Cb) (r:Rl):(setC l r).length<=l.length+1:=by
 rw [setC]
 cases decide (r.act.set=Cb.zero)
 ·exact addC_len l _
 ·simp
theorem Rn.fnAgg {σ σ':Sto} {x:AV} {f:FuncId} {id ep ep' off:Nat} {bd bd':Body} (e:x = .fn f [.agg [.own id ep off]] []) (h:σ id=⟨ep,some bd⟩) (h':σ' id=⟨ep',some bd'⟩):Rn σ σ' x (.fn f [.agg [.own id ep' off]] []):=by
 subst e
 refine .fn rfl rfl (fun j x x' h1 h2=>?_) (fun j x x' h1 h2=>by cases h1)
 match j with
 | 0 =>
  cases h1;cases h2
  refine .agg rfl (fun j x h1=>?_) (fun j x x' h1 h2=>?_)
  ·match j with
   | 0=>cases h1;rfl
   | j+1=>cases h1
  ·match j with
   | 0=>cases h1;cases h2;exact .own h h'
   | j+1=>cases h1
 | j+1=>cases h1
theorem m_rules (F : Nat) (step : List Cb -> Rl -> List Cb) (hstep : ∀ l r, (step l r).length <= l.length + 1) (H : ∀ l r, l.length <= 100000000 -> ∀ q, MDoes Tryz.prog F [.agg [.own 200 0 0], .agg (cRl r)] (gl q [200, 202] (lsB l)) (.tup []) (gl q [200, 202] (lsB (step l r)))) (c : Cf) (l : List Cb) (hl : l.length + (rulesOf c).length <= 100000000) (q : Nat -> Option (Nat × Nat)) :
    MDoes Tryz.prog 97 [.agg (cCf c),.fn F [.agg [.own 200 0 0]] []] (gl q [200,202] (lsB l)) (.tup []) (gl q [200,202] (lsB ((rulesOf c).foldl step l))):=by
  refine MDoes.of_body Tryz.func97 rfl (by kernel_rfl) rfl rfl ?_
  refine jA ?_
  refine AW.lens 11 rfl fun hm1=>?_
  rw [List.length_map] at hm1
  generalize hG:(rulesOf c).foldl step l=G
  refine AW.loopL (ι:=Nat × List Cb) (fun i=>[(1,.fn F [.agg [.own 200 0 0]] []),(11,.sl (c.tables.map cTab)),(12,.i .i64 (c.tables.map cTab).length),(13,.i .i64 (i.1:Nat))]) (fun i=>gl q [200,202] (lsB i.2)) (fun i=>i.1<=c.tables.length/\i.2.length+((c.tables.drop i.1).flatten.flatten).length<=100000000/\((c.tables.drop i.1).flatten.flatten).foldl step i.2=G) (fun i=>c.tables.length - i.1) (0,l) ⟨Nat.zero_le _,hl,hG⟩ ⟨Rn.fnAgg rfl rfl rfl,Rn.is rfl rfl,Rn.is rfl rfl,Rn.is rfl rfl,trivial⟩ (ls_end rfl rfl rfl rfl rfl rfl rfl rfl rfl rfl) fun i hi=>?_
  clear hG hl
  obtain ⟨k,l⟩:=i
  obtain ⟨hk,hb,hf⟩:=hi
  simp only at hk hb hf
  refine jA ?_
  refine AW.cond rfl (fun h0=>?_) (fun h0=>?_)
  rotate_left
  · have h:¬k<c.tables.length:=by simpa using h0
    obtain rfl:k=c.tables.length:=by omega
    rw [List.drop_length] at hf
    subst hf
    refine jA ?_
    refine AW.exit ?_;refine Eq.mpr (if_pos rfl) ?_;refine jA ?_
    exact retM0 rfl (.inl rfl) (ls_end rfl rfl rfl rfl rfl rfl rfl rfl rfl rfl)
  have h:k<c.tables.length:=by simpa using h0
  rw [List.drop_eq_getElem_cons h,List.flatten_cons,List.flatten_append] at hf hb
  refine jB ?_
  refine AW.text ?_
  refine RG.opS rfl (op_index rfl (tab_ok ty_ok rfl) rfl (tab_ok ty_ok rfl) rfl rfl (show (c.tables.map cTab)[k]?=some (cTab c.tables[k]) by rw [List.getElem?_map,List.getElem?_eq_getElem (by assumption)];rfl) rfl) rfl ?_
  generalize c.tables[k]=tab at hf hb
  generalize hR:(c.tables.drop (k+1)).flatten.flatten=R at hf hb
  refine wH rfl ?_;refine jA ?_
  refine AW.lens 17 rfl fun hm2=>?_
  rw [List.length_map] at hm2
  refine AW.loopL (ι:=Nat × List Cb) (fun i=>[(1,.fn F [.agg [.own 200 0 0]] []),(11,.sl (c.tables.map cTab)),(12,.i .i64 (c.tables.map cTab).length),(13,.i .i64 (k:Nat)),(17,.sl (tab.map cRls)),(18,.i .i64 (tab.map cRls).length),(19,.i .i64 (i.1:Nat))]) (fun i=>gl q [200,202] (lsB i.2)) (fun i=>i.1<=tab.length/\i.2.length+((tab.drop i.1).flatten++R).length<=100000000/\((tab.drop i.1).flatten++R).foldl step i.2=G) (fun i=>tab.length - i.1) (0,l) ⟨Nat.zero_le _,hb,hf⟩ ⟨Rn.fnAgg rfl rfl rfl,Rn.is rfl rfl,Rn.is rfl rfl,Rn.is rfl rfl,Rn.is rfl rfl,Rn.is rfl rfl,Rn.is rfl rfl,trivial⟩ (ls_end rfl rfl rfl rfl rfl rfl rfl rfl rfl rfl) fun i hi=>?_
  clear hf hb
  obtain ⟨j,l⟩:=i
  obtain ⟨hj,hb,hf⟩:=hi
  simp only at hj hb hf
  refine jA ?_
  refine AW.cond rfl (fun h1=>?_) (fun h1=>?_)
  rotate_left
  · have h':¬j<tab.length:=by simpa using h1
    obtain rfl:j=tab.length:=by omega
    rw [List.drop_length] at hf hb
    refine jA ?_
    refine AW.exit ?_;refine Eq.mpr (if_pos rfl) ?_;refine jA ?_
    refine ⟨(k+1,l),⟨⟨h,?_,?_⟩,by show c.tables.length - (k+1)<c.tables.length - k;omega⟩,⟨Rn.fnAgg rfl rfl rfl,Rn.is rfl rfl,Rn.is rfl rfl,Rn.is (i64_next h hm1) rfl,trivial⟩,ls_end rfl rfl rfl rfl rfl rfl rfl rfl rfl rfl⟩
    · rw [hR];exact hb
    · rw [hR];exact hf
  have h':j<tab.length:=by simpa using h1
  rw [List.drop_eq_getElem_cons h',List.flatten_cons,List.append_assoc] at hf hb
  refine jB ?_
  refine AW.text ?_
  refine RG.opS rfl (op_index rfl (tab_ok ty_ok rfl) rfl (tab_ok ty_ok rfl) rfl rfl (show (tab.map cRls)[j]?=some (cRls tab[j]) by rw [List.getElem?_map,List.getElem?_eq_getElem (by assumption)];rfl) rfl) rfl ?_
  generalize tab[j]=rls at hf hb
  generalize hR2:(tab.drop (j+1)).flatten++R=R2 at hf hb
  refine wH rfl ?_;refine jA ?_
  refine AW.lens 23 rfl fun hm3=>?_
  rw [List.length_map] at hm3
  refine AW.loopL (ι:=Nat × List Cb) (fun i=>[(1,.fn F [.agg [.own 200 0 0]] []),(11,.sl (c.tables.map cTab)),(12,.i .i64 (c.tables.map cTab).length),(13,.i .i64 (k:Nat)),(17,.sl (tab.map cRls)),(18,.i .i64 (tab.map cRls).length),(19,.i .i64 (j:Nat)),(23,.sl (rls.map cRl)),(24,.i .i64 (rls.map cRl).length),(25,.i .i64 (i.1:Nat))]) (fun i=>gl q [200,202] (lsB i.2)) (fun i=>i.1<=rls.length/\i.2.length+(rls.drop i.1++R2).length<=100000000/\(rls.drop i.1++R2).foldl step i.2=G) (fun i=>rls.length - i.1) (0,l) ⟨Nat.zero_le _,hb,hf⟩ ⟨Rn.fnAgg rfl rfl rfl,Rn.is rfl rfl,Rn.is rfl rfl,Rn.is rfl rfl,Rn.is rfl rfl,Rn.is rfl rfl,Rn.is rfl rfl,Rn.is rfl rfl,Rn.is rfl rfl,Rn.is rfl rfl,trivial⟩ (ls_end rfl rfl rfl rfl rfl rfl rfl rfl rfl rfl) fun i hi=>?_
  clear hf hb
  obtain ⟨m,l⟩:=i
  obtain ⟨hmm,hb,hf⟩:=hi
  simp only at hmm hb hf
  refine jA ?_
  refine AW.cond rfl (fun h2=>?_) (fun h2=>?_)
  rotate_left
  · have h'':¬m<rls.length:=by simpa using h2
    obtain rfl:m=rls.length:=by omega
    rw [List.drop_length] at hf hb
    refine jA ?_
    refine AW.exit ?_;refine Eq.mpr (if_pos rfl) ?_;refine jA ?_
    refine ⟨(j+1,l),⟨⟨h',?_,?_⟩,by show tab.length - (j+1)<tab.length - j;omega⟩,⟨Rn.fnAgg rfl rfl rfl,Rn.is rfl rfl,Rn.is rfl rfl,Rn.is rfl rfl,Rn.is rfl rfl,Rn.is rfl rfl,Rn.is (i64_next h' hm2) rfl,trivial⟩,ls_end rfl rfl rfl rfl rfl rfl rfl rfl rfl rfl⟩
    · rw [hR2];exact hb
    · rw [hR2];exact hf
  have h'':m<rls.length:=by simpa using h2
  rw [List.drop_eq_getElem_cons h''] at hf hb
  refine jB ?_
  refine AW.text ?_
  refine RG.opS rfl (op_index rfl (tab_ok ty_ok rfl) rfl (tab_ok ty_ok rfl) rfl rfl (show (rls.map cRl)[m]?=some (cRl rls[m]) by rw [List.getElem?_map,List.getElem?_eq_getElem (by assumption)];rfl) rfl) rfl ?_
  generalize rls[m]=r at hf hb
  have hs:=hstep l r
  rw [List.cons_append,List.length_cons] at hb
  rw [List.cons_append,List.foldl_cons] at hf
  refine wH rfl ?_;refine jA ?_
  refine RG.ownN [(200,200),(201,201),(202,202)] [(200,200),(201,201),(202,202)] (fun q=>H l r (by omega) q) rfl rfl rfl rfl rfl rfl rfl rfl rfl rfl ?_
  refine wH rfl ?_;refine jA ?_
  exact ⟨(m+1,step l r),⟨⟨h'',by show (step l r).length+(rls.drop (m+1)++R2).length<=100000000;omega,hf⟩,by show rls.length - (m+1)<rls.length - m;omega⟩,⟨Rn.fnAgg rfl rfl rfl,Rn.is rfl rfl,Rn.is rfl rfl,Rn.is rfl rfl,Rn.is rfl rfl,Rn.is rfl rfl,Rn.is rfl rfl,Rn.is rfl rfl,Rn.is rfl rfl,Rn.is (i64_next h'' hm3) rfl,trivial⟩,ls_end rfl rfl rfl rfl rfl rfl rfl rfl rfl rfl⟩
end Go.Proofs.YtoaibdbehlcnfaaGreat.Sm
end
section
namespace Go.Proofs.YtoaibdbehlcnfaaGreat.Sm
open Go.RowKit
theorem op_indexR0 {P:Program} {N:Nat} {o:Oper} {s:St} (k:Nat) {α:Type} (cF:α->List AV) (l:List α) {t e id ep n:Nat} {ti ei:TI} {x i:Operand} {kd:IntKind} (hlt:k<n) (ho:o.op = .indexAddr t x i) (ht:TiOk P t ti) (hk:ti.k = .slice e) (he:TiOk P e ei) (hx:s.ev x = .row id ep 0 n) (hid:s.σ id=⟨ep,some (.row e ei.n (l.map cF))⟩) (hi:s.ev i = .i kd (k:Int)) :
  OpLoc P N o s ⟨.el id ep k 0,[],[id]⟩:=by
 have h:=op_indexR (N:=N) ho ht hk he hx hid hi hlt rfl
 rw [Nat.zero_add] at h
 exact h
theorem op_loadRow {P:Program} {N:Nat} {o:Oper} {s:St} (k:Nat) {α:Type} (cF:α->List AV) (l:List α) (c:α) (hk:l[k]?=some c) {t ty m id ep:Nat} {ti:TI} {p:Operand} (ho:o.op = .load t p) (ht:TiOk P t ti) (hp:s.ev p = .el id ep k 0) (hid:s.σ id=⟨ep,some (.row ty m (l.map cF))⟩) (hr:ldA ti (cF c)=some (.agg (cF c))) :
  OpLoc P N o s ⟨.agg (cF c),[],[id]⟩:=by
 refine op_load ho ht (cs:=(cF c).drop 0) (by rw [hp];exact .el hid (by rw [List.getElem?_map,hk];rfl)) ?_
 rw [List.drop_zero]
 exact hr
theorem op_storeRow {P:Program} {N:Nat} {o:Oper} {s:St} (k:Nat) {α:Type} (cF:α->List AV) (l:List α) (c:α) (hk:k<l.length) {t ty m id ep:Nat} {ti:TI} {p x:Operand} (ho:o.op = .store t p x) (ht:TiOk P t ti) (hp:s.ev p = .el id ep k 0) (hid:s.σ id=⟨ep,some (.row ty m (l.map cF))⟩) (hx:s.ev x = .agg (cF c))
  (h1:(cF c).all AV.one=true) (h2:(cF c).all AV.pu1=true) (hn:∀y,(cF y).length=ti.n):OpLoc P N o s ⟨.tup [],[(id,⟨ep,some (.row ty m ((l.set k c).map cF))⟩)],[]⟩:=by
 have hkk:(l.map cF)[k]?=some (cF l[k]):=by rw [List.getElem?_map,List.getElem?_eq_getElem hk];rfl
 have h:=op_storeE (N:=N) ho ht hp hid hkk (by rw [hx];rfl) h1 h2 (hn c) (by rw [hn];omega)
 have e:ovw (cF l[k]) 0 (cF c)=cF c:=by
  apply List.ext_getElem?
  intro i
  rw [ovw_get _ _ _ _ (by rw [hn,hn];omega),hn]
  by_cases h:i<ti.n
  ·rw [if_pos (by omega),Nat.sub_zero]
  ·rw [if_neg (by omega),List.getElem?_eq_none (by rw [hn];omega),List.getElem?_eq_none (by rw [hn];omega)]
 rw [e] at h
 rw [List.map_set]
 exact h
def wideI (a b:Cb):Int:=IntKind.i64.wrap (a.care.ones - b.care.ones)
theorem d_wide (a b:Cb):PDoes Tryz.prog 102 [.agg (cCb a),.agg (cCb b)] (.i .i64 (wideI a b)):=by
 refine PDoes.of_bodyN Tryz.func102 rfl (by kernel_rfl) rfl rfl ?_
 refine jA ?_
 refine RG.callS rfl rfl rfl rfl rfl (d_Ones a.care) rfl rfl ?_
 refine wH rfl ?_
 refine RG.callS rfl rfl rfl rfl rfl (d_Ones b.care) rfl rfl ?_
 refine wH rfl ?_;refine jA ?_
 refine AW.ret (retQA ty_ok rfl rfl rfl ?_)
 rfl
def swapC (m:List Cb) (j:Nat):List Cb:=(m.set (j+1) (m.getD j Cb.zero)).set j (m.getD (j+1) Cb.zero)
def insIn (m:List Cb):Nat->List Cb
 | 0=>m
 | j+1=>bif decide (wideI (m.getD (j+1) Cb.zero) (m.getD j Cb.zero)<0) then insIn (swapC m j) j else m
def insOut:Nat->Nat->List Cb->List Cb
 | 0,_,m=>m
 | f+1,i,m=>insOut f (i+1) (insIn m i)
def insS (m:List Cb):List Cb:=insOut (m.length - 1) 1 m
theorem swapC_len (m:List Cb) (j:Nat):(swapC m j).length=m.length:=by simp [swapC]
theorem insIn_len:∀(j:Nat) (m:List Cb),(insIn m j).length=m.length
 | 0,m=>rfl
 | j+1,m=>by
  rw [insIn]
  cases decide (wideI (m.getD (j+1) Cb.zero) (m.getD j Cb.zero)<0)
  ·rfl
  ·rw [cond_true,insIn_len j,swapC_len]
theorem getD_eq {m:List Cb} {j:Nat} (h:j<m.length):m.getD j Cb.zero=m[j]:=by
 rw [List.getD_eq_getElem?_getD,List.getElem?_eq_getElem h];rfl
theorem swapC_perm (m:List Cb) (j:Nat) (h:j+1<m.length):(swapC m j).Perm m:=by
 rw [swapC,getD_eq h,getD_eq (by omega)]
 exact List.set_set_perm h (by omega)
theorem insIn_perm:∀(j:Nat) (m:List Cb),j<m.length->(insIn m j).Perm m
 | 0,m,_=>List.Perm.refl m
 | j+1,m,h=>by
  rw [insIn]
  cases decide (wideI (m.getD (j+1) Cb.zero) (m.getD j Cb.zero)<0)
  ·exact List.Perm.refl m
  ·exact (insIn_perm j _ (by rw [swapC_len];omega)).trans (swapC_perm m j h)
theorem insOut_perm:∀(f i:Nat) (m:List Cb),i+f<=m.length->(insOut f i m).Perm m
 | 0,_,m,_=>List.Perm.refl m
 | f+1,i,m,h=>by
  rw [insOut]
  exact (insOut_perm f (i+1) _ (by rw [insIn_len];omega)).trans (insIn_perm i m (by omega))
theorem insS_perm (m:List Cb):(insS m).Perm m:=by
 cases m with
 | nil=>exact List.Perm.refl _
 | cons x m=>exact insOut_perm _ 1 _ (by simp;omega)
def srB (m0:List Cb) (n:Nat) (l:List Cb):List (Nat × SB):=[(200,⟨0,some (.box 182 [.row 201 0 0 n,.ref 202 0 .map])⟩),(201,⟨0,some (.row 36 4 (l.map cCb))⟩),(202,⟨0,some (mapO m0)⟩)]
theorem sr_end {s:St} {q:Nat->Option (Nat × Nat)} {m0 l:List Cb} {e e1 e1' e2 e2' g g2 n:Nat} {els:List (List AV)} {o:Body} (h0:s.σ 200=⟨e,some (.box 182 [.row 201 e1 0 n,.ref 202 e2 .map])⟩) (h1:s.σ 201=⟨e1',some (.row 36 4 els)⟩) (h2:s.σ 202=⟨e2',some o⟩)
  (hg:s.σ 1100=⟨g,some (.ghost 200 e (q 200))⟩) (hg2:s.σ 1102=⟨g2,some (.ghost 202 e2' (q 202))⟩)
  (he:e1=e1') (he2:e2=e2') (hel:els=l.map cCb) (ho:o=mapO m0):WkB s (lkB (gl q [200,202] (srB m0 n l))) (gl q [200,202] (srB m0 n l)):=by
 subst he he2 hel ho
 exact ⟨.ghost hg h0 rfl,.ghost hg2 h2 rfl,.boxL h0 ⟨Rn.rowIs rfl h1 rfl,Rn.refIs rfl h2 rfl,trivial⟩ rfl,.row h1 rfl,.obj h2 rfl,trivial⟩
theorem m_insert (m0 l:List Cb) (n:Nat) (hn:n=(l.map cCb).length) (hl:n<=100000000) (q:Nat->Option (Nat × Nat)):MDoes Tryz.prog 201 [.row 201 0 0 n,.i .i64 0,.i .i64 (n:Nat),.fn 102 [] []] (gl q [200,202] (srB m0 n l)) (.tup []) (gl q [200,202] (srB m0 n (insS l))):=by
 refine MDoes.of_body Tryz.func201 rfl (by kernel_rfl) rfl rfl ?_
 generalize hG:insS l=G
 have hn':n=l.length:=by rw [hn,List.length_map]
 refine jA ?_
 refine AW.loopL (ι:=Nat × List Cb) (fun i=>[(0,.row 201 0 0 n),(1,.i .i64 0),(2,.i .i64 (n:Nat)),(3,.fn 102 [] []),(8,.i .i64 ((i.1+1:Nat):Int))]) (fun i=>gl q [200,202] (srB m0 n i.2)) (fun i=>i.2.length=n/\insOut (n - (i.1+1)) (i.1+1) i.2=G) (fun i=>n - i.1) (0,l) ⟨hn'.symm,by rw [<- hG,insS,hn']⟩ ⟨Rn.rowIs rfl rfl rfl,Rn.is rfl rfl,Rn.is rfl rfl,Rn.fnF rfl rfl,Rn.is rfl rfl,trivial⟩ (sr_end rfl rfl rfl rfl rfl rfl rfl rfl rfl) fun i hi=>?_
 obtain ⟨k,m⟩:=i
 obtain ⟨hm,hf⟩:=hi
 simp only at hm hf
 refine jA ?_
 refine AW.cond rfl (fun h0=>?_) (fun h0=>?_)
 rotate_left
 ·have h:¬k+1<n:=by
   have:=of_decide_eq_false h0
   omega
  rw [show n - (k+1)=0 by omega,insOut] at hf
  subst hf
  refine jA ?_
  refine AW.exit ?_;refine Eq.mpr (if_pos rfl) ?_;refine jA ?_
  exact retM0 rfl (.inl rfl) (sr_end rfl rfl rfl rfl rfl rfl rfl rfl rfl)
 have h:k+1<n:=by
  have:=of_decide_eq_true h0
  omega
 rw [show n - (k+1)=n - (k+1+1)+1 by omega,insOut] at hf
 refine jA ?_
 refine AW.loopL (ι:=Nat × List Cb) (fun i=>[(0,.row 201 0 0 n),(1,.i .i64 0),(2,.i .i64 (n:Nat)),(3,.fn 102 [] []),(8,.i .i64 ((k+1:Nat):Int)),(9,.i .i64 (i.1:Nat))]) (fun i=>gl q [200,202] (srB m0 n i.2)) (fun i=>(i.1<=k+1/\i.2.length=n)/\insOut (n - (k+1+1)) (k+1+1) (insIn i.2 i.1)=G) (fun i=>i.1) (k+1,m) ⟨⟨Nat.le_refl _,hm⟩,hf⟩ ⟨Rn.rowIs rfl rfl rfl,Rn.is rfl rfl,Rn.is rfl rfl,Rn.fnF rfl rfl,Rn.is rfl rfl,Rn.is rfl rfl,trivial⟩ (sr_end rfl rfl rfl rfl rfl rfl rfl rfl rfl) fun i hi=>?_
 clear hf hm
 obtain ⟨j,m⟩:=i
 obtain ⟨⟨hj,hm⟩,hf⟩:=hi
 simp only at hj hm hf
 refine jB ?_
 cases j with
 | zero =>
  rw [insIn] at hf
  have g1:¬(((0:Nat):Int)>0):=by omega
  refine AW.draws mixed_ok ?_
  refine RG.runO ty_ok 0 [(20,.b false)] 400 rfl jD ?_
  refine jB ?_
  refine AW.condF rfl ?_;refine jA ?_
  refine AW.exit ?_;refine Eq.mpr (if_pos rfl) ?_;refine jA ?_
  exact ⟨(k+1,m),⟨⟨hm,hf⟩,by show n - (k+1)<n - k;omega⟩,⟨Rn.rowIs rfl rfl rfl,Rn.is rfl rfl,Rn.is rfl rfl,Rn.fnF rfl rfl,Rn.is (i64_next (show k+1<100000000 by omega) (by decide)) rfl,trivial⟩,sr_end rfl rfl rfl rfl rfl rfl rfl rfl rfl⟩
 | succ j =>
  rw [insIn] at hf
  have g1:((j+1:Nat):Int)>0:=by omega
  have g2:IntKind.i64.wrap (((j+1:Nat):Int) - Int.ofNat 1)=(j:Nat):=by
   rw [IntKind.wrap_i64]
   simp only [Int.ofNat_eq_natCast]
   omega
  have e1:m[j+1]?=some (m.getD (j+1) Cb.zero):=by rw [getD_eq (by omega)];exact List.getElem?_eq_getElem _
  have e2:m[j]?=some (m.getD j Cb.zero):=by rw [getD_eq (by omega)];exact List.getElem?_eq_getElem _
  have hsw:swapC m j=(m.set (j+1) (m.getD j Cb.zero)).set j (m.getD (j+1) Cb.zero):=rfl
  generalize m.getD (j+1) Cb.zero=a at hf e1 hsw
  generalize m.getD j Cb.zero=b at hf e2 hsw
  refine AW.draws mixed_ok ?_
  refine RG.runO ty_ok 0 [(20,.b true)] 400 rfl jD ?_
  refine RG.opS rfl (op_indexR0 (j+1) cCb (m) (by omega) rfl (tab_ok ty_ok rfl) rfl (tab_ok ty_ok rfl) rfl rfl rfl) rfl ?_
  refine RG.opS rfl (op_loadRow (j+1) cCb (m) a e1 rfl (tab_ok ty_ok rfl) rfl rfl rfl) rfl ?_
  refine RG.runO ty_ok 0 [(29,.i .i64 (j:Nat))] 400 rfl jD ?_
  refine RG.opS rfl (op_indexR0 (j) cCb (m) (by omega) rfl (tab_ok ty_ok rfl) rfl (tab_ok ty_ok rfl) rfl rfl rfl) rfl ?_
  refine RG.opS rfl (op_loadRow (j) cCb (m) b e2 rfl (tab_ok ty_ok rfl) rfl rfl rfl) rfl ?_
  refine wH rfl ?_
  refine RG.callS rfl rfl rfl rfl rfl (d_wide a b) rfl rfl ?_
  refine wH rfl ?_;refine jB ?_
  refine AW.cond rfl (fun h1=>?_) (fun h1=>?_)
  ·have h1:wideI a b<0:=of_decide_eq_true h1
   rw [decide_eq_true h1,cond_true,hsw] at hf
   refine jB ?_
   refine AW.draws mixed_ok ?_
   refine RG.runO ty_ok 0 [(41,.i .i64 (j:Nat)),(44,.i .i64 (j:Nat))] 400 rfl jD ?_
   refine RG.opS rfl (op_indexR0 (j) cCb (m) (by omega) rfl (tab_ok ty_ok rfl) rfl (tab_ok ty_ok rfl) rfl rfl rfl) rfl ?_
   refine RG.opS rfl (op_loadRow (j) cCb (m) b e2 rfl (tab_ok ty_ok rfl) rfl rfl rfl) rfl ?_
   refine wH rfl ?_
   refine RG.opS rfl (op_indexR0 (j+1) cCb (m) (by omega) rfl (tab_ok ty_ok rfl) rfl (tab_ok ty_ok rfl) rfl rfl rfl) rfl ?_
   refine RG.opS rfl (op_loadRow (j+1) cCb (m) a e1 rfl (tab_ok ty_ok rfl) rfl rfl rfl) rfl ?_
   refine RG.opS rfl (op_indexR0 (j+1) cCb (m) (by omega) rfl (tab_ok ty_ok rfl) rfl (tab_ok ty_ok rfl) rfl rfl rfl) rfl ?_
   refine RG.opS rfl (op_storeRow (j+1) cCb (m) b (by omega) rfl (tab_ok ty_ok rfl) rfl rfl rfl rfl rfl (fun _=>rfl)) rfl ?_
   refine RG.opS rfl (op_indexR0 (j) cCb (m.set (j+1) b) (by omega) rfl (tab_ok ty_ok rfl) rfl (tab_ok ty_ok rfl) rfl rfl rfl) rfl ?_
   refine RG.opS rfl (op_storeRow (j) cCb (m.set (j+1) b) a (by rw [List.length_set];omega) rfl (tab_ok ty_ok rfl) rfl rfl rfl rfl rfl (fun _=>rfl)) rfl ?_
   refine wH rfl ?_;refine jB ?_
   refine AW.text ?_
   refine RG.runO ty_ok 0 [(36,.i .i64 (j:Nat))] 400 rfl jD ?_
   refine jB ?_
   exact ⟨(j,(m.set (j+1) b).set j a),⟨⟨⟨by show j<=k+1;omega,by rw [List.length_set,List.length_set];exact hm⟩,hf⟩,by show j<j+1;omega⟩,⟨Rn.rowIs rfl rfl rfl,Rn.is rfl rfl,Rn.is rfl rfl,Rn.fnF rfl rfl,Rn.is rfl rfl,Rn.is rfl rfl,trivial⟩,sr_end rfl rfl rfl rfl rfl rfl rfl rfl rfl⟩
  ·have h1:¬wideI a b<0:=of_decide_eq_false h1
   rw [decide_eq_false h1,cond_false] at hf
   refine jA ?_
   refine AW.exit ?_;refine Eq.mpr (if_pos rfl) ?_;refine jA ?_
   exact ⟨(k+1,m),⟨⟨hm,hf⟩,by show n - (k+1)<n - k;omega⟩,⟨Rn.rowIs rfl rfl rfl,Rn.is rfl rfl,Rn.is rfl rfl,Rn.fnF rfl rfl,Rn.is (i64_next (show k+1<100000000 by omega) (by decide)) rfl,trivial⟩,sr_end rfl rfl rfl rfl rfl rfl rfl rfl rfl⟩
theorem m_stable (m0 l:List Cb) (n:Nat) (hn:n=(l.map cCb).length) (hl:n<20) (q:Nat->Option (Nat × Nat)):MDoes Tryz.prog 155 [.row 201 0 0 n,.i .i64 (n:Nat),.fn 102 [] []] (gl q [200,202] (srB m0 n l)) (.tup []) (gl q [200,202] (srB m0 n (insS l))):=by
 refine MDoes.of_body Tryz.func155 rfl (by kernel_rfl) rfl rfl ?_
 refine jA ?_
 refine AW.loopL (ι:=Nat) (fun _=>[(0,.row 201 0 0 n),(1,.i .i64 (n:Nat)),(2,.fn 102 [] []),(6,.i .i64 20),(7,.i .i64 0),(8,.i .i64 20)]) (fun _=>gl q [200,202] (srB m0 n l)) (fun _=>True) (fun _=>0) 0 trivial ⟨Rn.rowIs rfl rfl rfl,Rn.is rfl rfl,Rn.fnF rfl rfl,Rn.is rfl rfl,Rn.is rfl rfl,Rn.is rfl rfl,trivial⟩ (sr_end rfl rfl rfl rfl rfl rfl rfl rfl rfl) fun _ _=>?_
 refine jA ?_
 refine AW.cond rfl (fun h0=>?_) (fun h0=>?_)
 ·exact absurd (of_decide_eq_true h0) (by omega)
 refine jA ?_
 refine AW.exit ?_;refine Eq.mpr (if_pos rfl) ?_;refine jA ?_
 refine RG.ownN [(200,200),(201,201),(202,202)] [(200,200),(201,201),(202,202)] (fun q=>m_insert m0 l n hn (by omega) q) rfl rfl rfl rfl rfl rfl rfl rfl rfl rfl ?_
 refine wH rfl ?_;refine jA ?_
 refine AW.loopL (ι:=Nat) (fun _=>[(1,.i .i64 (n:Nat)),(6,.i .i64 20)]) (fun _=>gl q [200,202] (srB m0 n (insS l))) (fun _=>True) (fun _=>0) 0 trivial ⟨Rn.is rfl rfl,Rn.is rfl rfl,trivial⟩ (sr_end rfl rfl rfl rfl rfl rfl rfl rfl rfl) fun _ _=>?_
 refine jA ?_
 refine AW.cond rfl (fun h1=>?_) (fun h1=>?_)
 ·exact absurd (of_decide_eq_true h1) (by omega)
 refine jA ?_
 refine AW.exit ?_;refine Eq.mpr (if_pos rfl) ?_;refine jA ?_
 exact retM0 rfl (.inl rfl) (sr_end rfl rfl rfl rfl rfl rfl rfl rfl rfl)
def MSort (l l':List Cb):Prop:=∀(m0:List Cb) (n:Nat),n=(l.map cCb).length->∀q,MDoes Tryz.prog 101 [.row 201 0 0 n,.fn 102 [] []] (gl q [200,202] (srB m0 n l)) (.tup []) (gl q [200,202] (srB m0 n l'))
theorem sort_few (l:List Cb) (hl:l.length<20):MSort l (insS l):=by
 intro m0 n hn q
 have hS:=m_stable m0 l n hn (by rw [hn,List.length_map];exact hl)
 refine MDoes.of_body Tryz.func101 rfl (by kernel_rfl) rfl rfl ?_
 refine jA ?_
 refine RG.ownN [(200,200),(201,201),(202,202)] [(200,200),(201,201),(202,202)] hS rfl rfl rfl rfl rfl rfl rfl rfl rfl rfl ?_
 refine wH rfl ?_;refine jA ?_
 exact retM0 rfl (.inl rfl) (sr_end rfl rfl rfl rfl rfl rfl rfl rfl rfl)
end Go.Proofs.YtoaibdbehlcnfaaGreat.Sm
end
section
namespace Go.Proofs.YtoaibdbehlcnfaaGreat.Sm
open Go.RowKit
def Cf.Small (c:Cf):Prop:=∀t∈c.tables,t.flatten.length<=1000000000000000
theorem countT_len:∀(t:List (List Rl)) (n:Nat),n+t.flatten.length<=4000000000000000->countT t n=((n+t.flatten.length:Nat):Int)
 | [],n,_=>by simp [countT]
 | l::t,n,h=>by
  rw [List.flatten_cons,List.length_append] at h ⊢
  have e:IntKind.i64.wrap ((n:Int)+(l.length:Nat))=((n+l.length:Nat):Int):=by
   rw [IntKind.wrap_i64]
   omega
  rw [countT,e,countT_len t _ (by omega)]
  congr 1
  omega
theorem flat_bound {α:Type} {m:Nat}:∀(l:List (List α)),(∀x∈l,x.length<=m)->l.flatten.length<=m*l.length
 | [],_=>by simp
 | x::l,h=>by
  have h1:=h x List.mem_cons_self
  have h2:=flat_bound l fun y hy=>h y (List.mem_cons_of_mem _ hy)
  rw [List.flatten_cons,List.length_append,List.length_cons,Nat.mul_add,Nat.mul_one]
  omega
theorem rulesOf_len {c:Cf} (h:c.Ok) (hS:c.Small):(rulesOf c).length<=576:=by
 have h0:=topoSound_ok h.topo
 have hl:=h.len
 have h1:∀x∈c.tables.map List.flatten,x.length<=96:=fun x hx=>by
  obtain ⟨t,ht,rfl⟩:=List.mem_map.1 hx
  obtain ⟨n,hn⟩:=List.mem_iff_getElem?.1 ht
  have:=(tabSound_ok (h.tabs n t hn))
  have h3:=hS t ht
  have h2:=countT_len t 0 (by omega)
  have h4:((0:Nat):Int)=0:=rfl
  rw [h4] at h2
  omega
 have h2:=flat_bound _ h1
 have h3:(rulesOf c).length=(c.tables.map List.flatten).flatten.length:=by
  rw [rulesOf,List.flatten_flatten]
 rw [h3]
 rw [List.length_map] at h2
 omega
theorem setsR_eq:∀(rs:List Rl) (l:List Cb),rs.foldl setC l=setsR l rs
 | [],l=>rfl
 | r::rs,l=>by rw [List.foldl_cons,setsR_eq,setsR];rfl
theorem addAll_len:∀(xs l:List Cb),(addAll l xs).length<=l.length+xs.length
 | [],l=>Nat.le_refl _
 | x::xs,l=>by
  rw [addAll]
  have:=addAll_len xs (addC l x)
  have:=addC_len l x
  rw [List.length_cons]
  omega
theorem setsR_len:∀(rs:List Rl) (l:List Cb),(setsR l rs).length<=l.length+rs.length
 | [],l=>Nat.le_refl _
 | r::rs,l=>by
  have h1:=setsR_len rs (setC l r)
  have h2:=setC_len l r
  rw [List.length_cons]
  show (setsR (setC l r) rs).length<=_
  omega
def ls7B (c:Cf) (l:List Cb):List (Nat × SB):=(2,⟨0,some (.box 31 (cCf c))⟩)::(7,⟨0,some (.box 177 [.own 200 0 0])⟩)::lsB l
theorem ls_end7 {s:St} {c:Cf} {l:List Cb} {e e9 e8 e8' e1 e1' e2 e2' n:Nat} {els:List (List AV)} {o:Body} (h9:s.σ 2=⟨e9,some (.box 31 (cCf c))⟩) (h8:s.σ 7=⟨e8,some (.box 177 [.own 200 e8' 0])⟩) (h0:s.σ 200=⟨e,some (.box 182 [.row 201 e1 0 n,.ref 202 e2 .map])⟩) (h1:s.σ 201=⟨e1',some (.row 36 4 els)⟩) (h2:s.σ 202=⟨e2',some o⟩)
  (h8e:e8'=e) (he:e1=e1') (he2:e2=e2') (hn:n=(l.map cCb).length) (hel:els=l.map cCb) (ho:o=mapO l):WkB s (lkB (ls7B c l)) (ls7B c l):=by
 subst h8e he he2 hn hel ho
 exact ⟨WkB1.same h9 rfl rfl,.boxL h8 ⟨Rn.ownIs rfl h0 rfl,trivial⟩ rfl,.boxL h0 ⟨Rn.rowIs rfl h1 rfl,Rn.refIs rfl h2 rfl,trivial⟩ rfl,.row h1 rfl,.obj h2 rfl,trivial⟩
theorem d_Sets (c:Cf) (h0:c.sound=0) (hS:c.Small) (V:Nat) (hV:V<=255):PDoes Tryz.prog 95 [.agg (cCf c),.i .i64 (V:Nat)] (.tup [.sl ((setsOf c V).map cCb),.i .i64 0]):=by
  have hc:=Cf.ok h0
  have hE:=edges_len hc.topo
  have hR:=rulesOf_len hc hS
  refine PDoes.of_bodyN Tryz.func95 rfl (by kernel_rfl) rfl rfl ?_
  have hm:(edges c.topo.ports).length<=9223372036854775807:=by omega
  have hCS:=d_CSound c
  rw [h0] at hCS
  refine jA ?_
  refine RG.callS rfl rfl rfl rfl rfl hCS rfl rfl ?_;refine wH rfl ?_;refine jA ?_
  refine AW.condF rfl ?_;refine jB ?_
  refine AW.text ?_
  have g1:¬((V:Nat):Int)<0:=by omega
  have g2:¬((V:Nat):Int)>255:=by omega
  refine RG.runO ty_ok 0 [(18,.b false),(21,.b false)] 400 rfl jD ?_
  refine jB ?_
  refine AW.condF rfl ?_;refine jA ?_
  refine RG.ownN [] [(3,200),(1,202),(9,201)] m_fresh rfl rfl rfl rfl rfl rfl rfl rfl rfl rfl ?_
  refine wH rfl ?_;refine jA ?_
  refine RG.callMS rfl rfl rfl rfl rfl rfl (d_Edges c.topo.ports hc.topo) rfl ?_;refine wH rfl ?_;refine jA ?_
  generalize hA:addAll [] ((edges c.topo.ports).map fun s=>stampOf c s V)=A
  have hG:setsR A (rulesOf c)=setsOf c V:=by rw [setsOf,hA]
  have hAl:A.length<=36:=by
    rw [<- hA]
    have:=addAll_len ((edges c.topo.ports).map fun s=>stampOf c s V) []
    rw [List.length_map] at this
    simp at this
    omega
  have hst:∀s∈edges c.topo.ports,PDoes Tryz.prog 149 [.agg (cCf c),.agg (cSp s),.i .i64 (V:Nat)] (.tup [.agg (cCb (stampOf c s V)),.i .i64 0]):=fun s hs=>by
    have h:=d_CStamp c s V
    have e:stampE c s V=0:=by rw [stampE,if_pos h0,if_neg (by omega),if_pos hs]
    rw [stampC,if_pos e,e] at h
    exact h
  refine AW.loopL (ι:=Nat × List Cb) (fun i=>[(1,.i .i64 (V:Nat)),(2,.own 2 0 0),(7,.own 7 0 0),(27,.sl ((edges c.topo.ports).map cSp)),(28,.i .i64 ((edges c.topo.ports).map cSp).length),(29,.i .i64 (i.1:Nat))]) (fun i=>ls7B c i.2) (fun i=>(i.1<=(edges c.topo.ports).length/\i.2.length<=i.1)/\addAll i.2 (((edges c.topo.ports).drop i.1).map fun s=>stampOf c s V)=A) (fun i=>(edges c.topo.ports).length - i.1) (0,[]) ⟨⟨Nat.zero_le _,Nat.zero_le _⟩,hA⟩ ⟨Rn.is rfl rfl,Rn.ownIs rfl rfl rfl,Rn.ownIs rfl rfl rfl,Rn.is rfl rfl,Rn.is rfl rfl,Rn.is rfl rfl,trivial⟩ (ls_end7 rfl rfl rfl rfl rfl rfl rfl rfl rfl rfl rfl) fun i hi=>?_
  clear hA
  obtain ⟨k,l⟩:=i
  obtain ⟨⟨hk,hl⟩,hf⟩:=hi
  simp only at hk hl hf
  refine jA ?_
  refine AW.cond rfl (fun h1=>?_) (fun h1=>?_)
  rotate_left
  · have h:¬k<(edges c.topo.ports).length:=by simpa using h1
    obtain rfl:k=(edges c.topo.ports).length:=by omega
    rw [List.drop_length] at hf
    obtain rfl:l=A:=hf
    have hsl:=setsR_len (rulesOf c) l
    refine jA ?_
    refine AW.exit ?_;refine Eq.mpr (if_pos rfl) ?_;refine jA ?_
    refine RG.ownN [(200,200),(201,201),(202,202)] [(200,200),(201,201),(202,202)] (fun q=>m_rules 150 setC setC_len m_set c l (by omega) q) rfl rfl rfl rfl rfl rfl rfl rfl rfl rfl ?_
    rw [setsR_eq,hG]
    refine wH rfl ?_;refine jA ?_
    refine RG.callMS rfl rfl rfl rfl (congrArg (fun x=>[x]) (rowAll rfl)) rfl (d_Clip_Cb (setsOf c V)) rfl ?_;refine wH rfl ?_;refine jA ?_
    refine AW.ret (retQA ty_ok rfl rfl rfl ?_)
    rfl
  have h:k<(edges c.topo.ports).length:=by simpa using h1
  rw [List.drop_eq_getElem_cons h,List.map_cons,addAll] at hf
  have hs:=hst _ (List.getElem_mem h)
  refine jB ?_
  refine AW.text ?_
  refine RG.opS rfl (op_index rfl (tab_ok ty_ok rfl) rfl (tab_ok ty_ok rfl) rfl rfl (show ((edges c.topo.ports).map cSp)[k]?=some (cSp (edges c.topo.ports)[k]) by rw [List.getElem?_map,List.getElem?_eq_getElem (by assumption)];rfl) rfl) rfl ?_
  generalize (edges c.topo.ports)[k]=s at hf hs
  refine wH rfl ?_;refine jA ?_
  refine RG.callMS rfl rfl rfl rfl rfl rfl hs rfl ?_;refine wH rfl ?_;refine jA ?_
  refine AW.condF rfl ?_;refine jA ?_
  refine RG.ownN [(200,200),(201,201),(202,202)] [(200,200),(201,201),(202,202)] (fun q=>m_add l (stampOf c s V) (by omega) q) rfl rfl rfl rfl rfl rfl rfl rfl rfl rfl ?_
  refine wH rfl ?_;refine jA ?_
  have hal:=addC_len l (stampOf c s V)
  exact ⟨(k+1,addC l (stampOf c s V)),⟨⟨⟨h,by show (addC l (stampOf c s V)).length<=k+1;omega⟩,hf⟩,by show (edges c.topo.ports).length - (k+1)<(edges c.topo.ports).length - k;omega⟩,⟨Rn.is rfl rfl,Rn.ownIs rfl rfl rfl,Rn.ownIs rfl rfl rfl,Rn.is rfl rfl,Rn.is rfl rfl,Rn.is (i64_next h hm) rfl,trivial⟩,(ls_end7 rfl rfl rfl rfl rfl rfl rfl rfl rfl rfl rfl)⟩
end Go.Proofs.YtoaibdbehlcnfaaGreat.Sm
end
section
namespace Go.Proofs.YtoaibdbehlcnfaaGreat.Sm
open Go.RowKit
def matC (l:List Cb) (r:Rl):List Cb:=addC l r.mat
theorem matC_eq:∀(rs:List Rl) (l:List Cb),rs.foldl matC l=addAll l (rs.map Rl.mat)
 | [],l=>rfl
 | r::rs,l=>by rw [List.foldl_cons,matC_eq,List.map_cons,addAll];rfl
theorem addC_get {l:List Cb} {x p:Cb} {n:Nat} (h:l[n]?=some p):(addC l x)[n]?=some p:=by
 obtain ⟨m,hm⟩:=addC_pre (l:=l) (x:=x)
 rw [hm,List.getElem?_append_left (List.getElem?_eq_some_iff.1 h).1]
 exact h
def ls8B (l:List Cb):List (Nat × SB):=(8,⟨0,some (.box 177 [.own 200 0 0])⟩)::lsB l
theorem ls_end8 {s:St} {l:List Cb} {e e8 e8' e1 e1' e2 e2' n:Nat} {els:List (List AV)} {o:Body} (h8:s.σ 8=⟨e8,some (.box 177 [.own 200 e8' 0])⟩) (h0:s.σ 200=⟨e,some (.box 182 [.row 201 e1 0 n,.ref 202 e2 .map])⟩) (h1:s.σ 201=⟨e1',some (.row 36 4 els)⟩) (h2:s.σ 202=⟨e2',some o⟩)
  (h8e:e8'=e) (he:e1=e1') (he2:e2=e2') (hn:n=(l.map cCb).length) (hel:els=l.map cCb) (ho:o=mapO l):WkB s (lkB (ls8B l)) (ls8B l):=by
 subst h8e he he2 hn hel ho
 exact ⟨.boxL h8 ⟨Rn.ownIs rfl h0 rfl,trivial⟩ rfl,.boxL h0 ⟨Rn.rowIs rfl h1 rfl,Rn.refIs rfl h2 rfl,trivial⟩ rfl,.row h1 rfl,.obj h2 rfl,trivial⟩
def ofR (a:List Cb) (l':List Cb):AV:=bif decide (a.length>500) then .tup [.sl [],.i .i64 10] else .tup [.sl (l'.map cCb),.i .i64 0]
theorem d_Of (c:Cf) (h0:c.sound=0) (hS:c.Small) (V:Nat) (hV:V<=255) (l':List Cb) (hP:l'.Perm (askedOf c V)) (hM:(askedOf c V).length<=500->MSort (askedOf c V) l'):PDoes Tryz.prog 52 [.agg (cCf c),.i .i64 (V:Nat)] (ofR (askedOf c V) l'):=by
  have hc:=Cf.ok h0
  have hE:=edges_len hc.topo
  have hR:=rulesOf_len hc hS
  have hsl:(setsOf c V).length<=700:=by
    rw [setsOf]
    have h1:=setsR_len (rulesOf c) (addAll [] ((edges c.topo.ports).map fun s=>stampOf c s V))
    have h2:=addAll_len ((edges c.topo.ports).map fun s=>stampOf c s V) []
    rw [List.length_map,List.length_nil] at h2
    omega
  have hal:=addAll_len ((rulesOf c).map Rl.mat) []
  rw [List.length_map,List.length_nil] at hal
  have hms:=d_Sets c h0 hS V hV
  rw [askedOf] at hP hM ⊢
  refine PDoes.of_bodyN Tryz.func52 rfl (by kernel_rfl) rfl rfl ?_
  generalize setsOf c V=sets at hP hM hsl hms ⊢
  have hm:sets.length<=9223372036854775807:=by omega
  generalize hA:closeF sets 501 0 (addAll [] ((rulesOf c).map Rl.mat))=A at hP hM ⊢
  refine jA ?_
  refine RG.callMS rfl rfl rfl rfl rfl rfl hms rfl ?_;refine wH rfl ?_;refine jA ?_
  refine AW.condF rfl ?_;refine jA ?_
  refine RG.ownN [] [(3,200),(1,202),(9,201)] m_fresh rfl rfl rfl rfl rfl rfl rfl rfl rfl rfl ?_
  refine wH rfl ?_;refine jA ?_
  refine RG.ownN [(200,200),(201,201),(202,202)] [(200,200),(201,201),(202,202)] (fun q=>m_rules 98 matC (fun l r=>addC_len l r.mat) m_match c [] (by simp;omega) q) rfl rfl rfl rfl rfl rfl rfl rfl rfl rfl ?_
  rw [matC_eq]
  generalize addAll [] ((rulesOf c).map Rl.mat)=all at hA hal
  refine wH rfl ?_;refine jA ?_
  refine AW.loopL (ι:=Nat × List Cb) (fun i=>[(6,.sl (sets.map cCb)),(8,.own 8 0 0),(9,.i .i64 (i.1:Nat))]) (fun i=>ls8B i.2) (fun i=>(i.1<=501/\i.2.length<=2000)/\closeF sets (501 - i.1) i.1 i.2=A) (fun i=>501 - i.1) (0,all) ⟨⟨Nat.zero_le _,by show all.length<=2000;omega⟩,hA⟩ ⟨Rn.is rfl rfl,Rn.ownIs rfl rfl rfl,Rn.is rfl rfl,trivial⟩ (ls_end8 rfl rfl rfl rfl rfl rfl rfl rfl rfl rfl) fun i hi=>?_
  clear hA hal all
  obtain ⟨n,all⟩:=i
  obtain ⟨⟨hn,hl⟩,hf⟩:=hi
  simp only at hn hl hf
  have hlm:(all.map cCb).length=all.length:=List.length_map ..
  refine jB ?_
  refine AW.text ?_
  by_cases g1:((n:Nat):Int)<((all.map cCb).length:Nat)
  · by_cases g2:(((all.map cCb).length:Nat):Int)<=500
    · refine RG.runO ty_ok 0 [(36,.b true),(44,.b true)] 400 rfl jD ?_
      have hn5:n<500:=by omega
      have e1:all[n]?=some (all.getD n Cb.zero):=by rw [getD_eq (by omega)];exact List.getElem?_eq_getElem _
      rw [show 501 - n=(501 - (n+1))+1 by omega,closeF,decide_eq_true (show n<all.length by omega),decide_eq_true (show all.length<=500 by omega),Bool.and_self,cond_true] at hf
      have hl5:all.length<=500:=by omega
      generalize all.getD n Cb.zero=p at hf e1
      refine jB ?_
      refine AW.condT rfl ?_;refine jA ?_
      refine AW.loopL (ι:=Nat × List Cb) (fun i=>[(6,.sl (sets.map cCb)),(8,.own 8 0 0),(9,.i .i64 (n:Nat)),(48,.sl (sets.map cCb)),(49,.i .i64 (sets.map cCb).length),(50,.i .i64 (i.1:Nat))]) (fun i=>ls8B i.2) (fun i=>(i.1<=sets.length/\i.2.length<=500+i.1/\i.2[n]?=some p)/\closeF sets (501 - (n+1)) (n+1) (closeRow p (sets.drop i.1) i.2)=A) (fun i=>sets.length - i.1) (0,all) ⟨⟨Nat.zero_le _,hl5,e1⟩,hf⟩ ⟨Rn.is rfl rfl,Rn.ownIs rfl rfl rfl,Rn.is rfl rfl,Rn.is rfl rfl,Rn.is rfl rfl,Rn.is rfl rfl,trivial⟩ (ls_end8 rfl rfl rfl rfl rfl rfl rfl rfl rfl rfl) fun i hi=>?_
      clear hf e1 hl5
      obtain ⟨k,out⟩:=i
      obtain ⟨⟨hk,hl2,e1⟩,hf⟩:=hi
      simp only at hk hl2 e1 hf
      have hno:=(List.getElem?_eq_some_iff.1 e1).1
      refine jA ?_
      refine AW.cond rfl (fun h3=>?_) (fun h3=>?_)
      rotate_left
      · have h:¬k<sets.length:=by simpa using h3
        obtain rfl:k=sets.length:=by omega
        rw [List.drop_length,closeRow] at hf
        refine jA ?_
        refine AW.exit ?_;refine Eq.mpr (if_pos rfl) ?_;refine jA ?_
        exact ⟨(n+1,out),⟨⟨⟨by show n+1<=501;omega,by show out.length<=2000;omega⟩,hf⟩,by show 501 - (n+1)<501 - n;omega⟩,⟨Rn.is rfl rfl,Rn.ownIs rfl rfl rfl,Rn.is (i64_next (show n<1000 by omega) (by decide)) rfl,trivial⟩,ls_end8 rfl rfl rfl rfl rfl rfl rfl rfl rfl rfl⟩
      have h:k<sets.length:=by simpa using h3
      rw [List.drop_eq_getElem_cons h,closeRow] at hf
      refine jB ?_
      refine AW.text ?_
      refine RG.opS rfl (op_index rfl (tab_ok ty_ok rfl) rfl (tab_ok ty_ok rfl) rfl rfl (show (sets.map cCb)[k]?=some (cCb sets[k]) by rw [List.getElem?_map,List.getElem?_eq_getElem (by assumption)];rfl) rfl) rfl ?_
      generalize sets[k]=s at hf
      refine wH rfl ?_;refine jA ?_
      refine RG.opS rfl (op_indexR0 (n) cCb (out) (by rw [List.length_map];exact hno) rfl (tab_ok ty_ok rfl) rfl (tab_ok ty_ok rfl) rfl rfl rfl) rfl ?_
      refine RG.opS rfl (op_loadRow (n) cCb (out) p e1 rfl (tab_ok ty_ok rfl) rfl rfl rfl) rfl ?_
      refine wH rfl ?_
      cases hh:p.hits s
      · rw [hh,cond_false] at hf
        refine RG.callS rfl rfl rfl rfl rfl (d_Before p s _ hh) rfl rfl ?_;refine wH rfl ?_;refine jA ?_
        refine AW.condF rfl ?_;refine jA ?_
        exact ⟨(k+1,out),⟨⟨⟨h,by show out.length<=500+(k+1);omega,e1⟩,hf⟩,by show sets.length - (k+1)<sets.length - k;omega⟩,⟨Rn.is rfl rfl,Rn.ownIs rfl rfl rfl,Rn.is rfl rfl,Rn.is rfl rfl,Rn.is rfl rfl,Rn.is (i64_next h hm) rfl,trivial⟩,ls_end8 rfl rfl rfl rfl rfl rfl rfl rfl rfl rfl⟩
      · rw [hh,cond_true] at hf
        have ha:=addC_len out (p.before s)
        refine RG.callS rfl rfl rfl rfl rfl (d_Before p s _ hh) rfl rfl ?_;refine wH rfl ?_;refine jA ?_
        refine AW.condT rfl ?_;refine jA ?_
        refine RG.ownN [(200,200),(201,201),(202,202)] [(200,200),(201,201),(202,202)] (fun q=>m_add out (p.before s) (by omega) q) rfl rfl rfl rfl rfl rfl rfl rfl rfl rfl ?_
        refine wH rfl ?_;refine jA ?_
        exact ⟨(k+1,addC out (p.before s)),⟨⟨⟨h,by show (addC out (p.before s)).length<=500+(k+1);omega,addC_get e1⟩,hf⟩,by show sets.length - (k+1)<sets.length - k;omega⟩,⟨Rn.is rfl rfl,Rn.ownIs rfl rfl rfl,Rn.is rfl rfl,Rn.is rfl rfl,Rn.is rfl rfl,Rn.is (i64_next h hm) rfl,trivial⟩,ls_end8 rfl rfl rfl rfl rfl rfl rfl rfl rfl rfl⟩
    · refine RG.runO ty_ok 0 [(36,.b true),(44,.b false)] 400 rfl jD ?_
      have e:all=A:=by
        by_cases hz:501 - n=0
        · rw [hz,closeF] at hf;exact hf
        · rw [show 501 - n=(501 - n - 1)+1 by omega,closeF] at hf
          have:(decide (n<all.length) && decide (all.length<=500))=false:=by
            rw [Bool.and_eq_false_iff]
            simp only [decide_eq_false_iff_not]
            omega
          rw [this] at hf
          exact hf
      subst e
      clear hf
      refine jB ?_
      refine AW.condF rfl ?_;refine jA ?_
      refine AW.exit ?_;refine Eq.mpr (if_pos rfl) ?_;refine jA ?_
      refine AW.cond rfl (fun h3=>?_) (fun h3=>?_)
      · have h3:(((all.map cCb).length:Nat):Int)>500:=of_decide_eq_true h3
        have e:ofR all l' = .tup [.sl [],.i .i64 10]:=by rw [ofR,decide_eq_true (by omega)];rfl
        rw [e]
        refine jA ?_
        refine AW.ret (retQA ty_ok rfl rfl rfl ?_)
        rfl
      · have h3:¬(((all.map cCb).length:Nat):Int)>500:=of_decide_eq_false h3
        have hl':=hP.length_eq
        have e:ofR all l' = .tup [.sl (l'.map cCb),.i .i64 0]:=by rw [ofR,decide_eq_false (by omega)];rfl
        rw [e]
        refine jA ?_
        refine RG.ownN [(200,200),(201,201),(202,202)] [(200,200),(201,201),(202,202)] (fun q=>hM (by omega) all _ rfl q) rfl rfl rfl rfl rfl rfl rfl rfl rfl rfl ?_
        refine wH rfl ?_;refine jA ?_
        refine RG.callMS rfl rfl rfl rfl (congrArg (fun x=>[x]) (show AV.sl (List.take (all.map cCb).length (List.drop 0 (l'.map cCb))) = .sl (l'.map cCb) by rw [List.drop_zero,List.take_of_length_le (by rw [List.length_map,List.length_map];omega)])) rfl (d_Clip_Cb l') rfl ?_;refine wH rfl ?_;refine jA ?_
        refine AW.ret (retQA ty_ok rfl rfl rfl ?_)
        rfl
  · refine RG.runO ty_ok 0 [(36,.b false)] 400 rfl jD ?_
    have e:all=A:=by
      by_cases hz:501 - n=0
      · rw [hz,closeF] at hf;exact hf
      · rw [show 501 - n=(501 - n - 1)+1 by omega,closeF] at hf
        have:(decide (n<all.length) && decide (all.length<=500))=false:=by
          rw [Bool.and_eq_false_iff]
          simp only [decide_eq_false_iff_not]
          omega
        rw [this] at hf
        exact hf
    subst e
    clear hf
    refine jB ?_
    refine AW.condF rfl ?_;refine jA ?_
    refine AW.exit ?_;refine Eq.mpr (if_pos rfl) ?_;refine jA ?_
    refine AW.cond rfl (fun h3=>?_) (fun h3=>?_)
    · have h3:(((all.map cCb).length:Nat):Int)>500:=of_decide_eq_true h3
      have e:ofR all l' = .tup [.sl [],.i .i64 10]:=by rw [ofR,decide_eq_true (by omega)];rfl
      rw [e]
      refine jA ?_
      refine AW.ret (retQA ty_ok rfl rfl rfl ?_)
      rfl
    · have h3:¬(((all.map cCb).length:Nat):Int)>500:=of_decide_eq_false h3
      have hl':=hP.length_eq
      have e:ofR all l' = .tup [.sl (l'.map cCb),.i .i64 0]:=by rw [ofR,decide_eq_false (by omega)];rfl
      rw [e]
      refine jA ?_
      refine RG.ownN [(200,200),(201,201),(202,202)] [(200,200),(201,201),(202,202)] (fun q=>hM (by omega) all _ rfl q) rfl rfl rfl rfl rfl rfl rfl rfl rfl rfl ?_
      refine wH rfl ?_;refine jA ?_
      refine RG.callMS rfl rfl rfl rfl (congrArg (fun x=>[x]) (show AV.sl (List.take (all.map cCb).length (List.drop 0 (l'.map cCb))) = .sl (l'.map cCb) by rw [List.drop_zero,List.take_of_length_le (by rw [List.length_map,List.length_map];omega)])) rfl (d_Clip_Cb l') rfl ?_;refine wH rfl ?_;refine jA ?_
      refine AW.ret (retQA ty_ok rfl rfl rfl ?_)
      rfl
end Go.Proofs.YtoaibdbehlcnfaaGreat.Sm
end
section
namespace Go.Proofs.YtoaibdbehlcnfaaGreat.Sm
open Go.RowKit
def Run.zero:Run:=⟨0,⟨0,0⟩,[]⟩
end Go.Proofs.YtoaibdbehlcnfaaGreat.Sm
end
section
namespace Go.Proofs.YtoaibdbehlcnfaaGreat.Sm
open Go.RowKit
section
variable {P : Program} {N : Nat} {o : Oper} {s : St}
theorem op_buildRef {t e len id : Nat} {ti ei : TI} {parts : Array (Nat × Operand)} {xs cs : List AV} (ho : o.op = .buildSlice t len parts) (ht : TiOk P t ti) (hk : ti.k = .slice e) (he : TiOk P e ei) (h1 : ei.n = 1) (hlen : 0 < len) (hbig : Nat.ble len 1000000 = true)
    (hx:parts.toList.map (fun p=>s.ev p.2)=xs) (hf:fillA (fun i=>some (i*ei.n,ei.n)) (List.replicate len ei.z).flatten ((parts.toList.map (·.1)).zip xs)=some cs) (hl:cs.length=len) (hone:cs.all AV.one=true) :
    OpLoc P N o s ⟨.ref id ((s.σ id).ep+1) (.sl 0 len len),[(id,⟨(s.σ id).ep+1,some (.box e cs)⟩)],[]⟩:=by
  subst hx
  have hbig:=Nat.le_of_ble_eq_true hbig
  refine oploc_new [] fun s' W F μ a g1 g2 hid hs=>?_
  obtain ⟨inf,d,z,q1,q2,q3,q4,q5,q6,q7⟩:=he.h
  have hp:=parts_rel (s:=s) hs (parts:=parts) fun p hp=>g1 p.2 (by rw [ho];simp only [Op.operands,List.mem_map];exact ⟨p,hp,rfl⟩)
  have hzr:=zsOk_rel (W:=W) (F:=F) q7
  have hzn:=he.zl
  have hzl:ei.z.length=z.cells.size:=by rw [<- Array.length_toList];exact hzr.1.symm
  have hzip:(parts.toList.map (·.1)).zip (parts.toList.map fun p=>s.ev p.2)=parts.toList.map fun p=>(p.1,s.ev p.2):=by
    rw [List.zip_map']
  rw [hzip] at hf
  obtain ⟨us,k1,k2,k3⟩:=fill_ok (W:=W) (F:=F) (μ:=μ) (σ:=s'.σ) (parts.toList.map fun p=>(p.1,s.ev p.2)) (parts.map fun (p:Nat × Operand)=>(p.1,a.eval p.2)).toList (List.replicate len ei.z).flatten
    ((Array.range (len*ei.n)).map (z.cells[· % z.cells.size]!)) cs hp.1 hp.2 (by rw [flat_len (m:=ei.n) (by intro cs hcs;rw [(List.mem_replicate.1 hcs).2];exact hzn)];simp) (fun j x v hx hv=>by
      have hj:j<len*ei.n:=by
        have:=(List.getElem?_eq_some_iff.1 hx).1
        rw [flat_len (m:=ei.n) (by intro cs hcs;rw [(List.mem_replicate.1 hcs).2];exact hzn)] at this
        simpa using this
      rw [rep_flat _ _ _ (by rw [hzn];exact hj),hzn] at hx
      rw [Array.getElem?_map] at hv
      have:(Array.range (len*ei.n))[j]?=some j:=by simp [hj]
      rw [this] at hv
      have hlt:j % ei.n<z.cells.size:=by rw [<- hzl,hzn];exact Nat.mod_lt _ (by omega)
      have hv':z.cells.toList[j % ei.n]?=some v:=by
        rw [Array.getElem?_toList,Array.getElem?_eq_getElem hlt]
        simp only [Option.map_some,<- hzl,hzn] at hv
        rw [getElem!_pos z.cells _ hlt] at hv
        exact hv
      have:=hzr.2 _ x v hx hv'
      exact ⟨this.2,.pure this.1⟩) hf
  have hpos:¬len*ei.n=0:=by rw [h1];omega
  refine ⟨.slice (some ⟨W.heap.size,0,none⟩) len len,us.toList,e,len,?_,fun μ' σ' hst hσ hμ=>⟨⟨W.heap.size,len,us.toList,rfl,heap_alloc_new W _,by simp [k2],fun j x v hx hv=>?_⟩,.ref id _ (.sl 0 len len) _ (by rw [hσ];exact Nat.le_refl _) rfl fun bd hbd=>⟨W.heap.size,len,hμ,rfl⟩⟩⟩
  · have e3:us.toList.toArray=us:=by simp
    have hrun:=run_buildSlice (P:=P) W t e len (parts.map fun (p:Nat × Operand)=>(p.1,a.eval p.2)) us inf z (ht.slice hk) q1 q6 (by rw [q3,h1];omega) (by rw [q3];exact hpos) (by rw [q3];exact k1)
    simp only [execOp,ho,Sem.run_bind,hrun,Result.andThen_ok,Sem.run_pure,e3]
  · obtain ⟨r1,r2⟩:=k3 j x v hx (by simpa using hv)
    exact ⟨r1,r2.stp hs.inv hst⟩
theorem op_indexRef (k:Nat) {t e id ep n cap ty:Nat} {ti ei:TI} {x i:Operand} {kd:IntKind} {cs:List AV} (ho:o.op = .indexAddr t x i) (ht:TiOk P t ti) (hk:ti.k = .slice e) (he:TiOk P e ei) (h1:ei.n=1) (hx:s.ev x = .ref id ep (.sl 0 n cap)) (hid:s.σ id=⟨ep,some (.box ty cs)⟩) (hi:s.ev i = .i kd (k:Int)) (hlt:k<n) :
  OpLoc P N o s ⟨.own id ep k,[],[id]⟩:=by
 refine oploc_val [id] _ fun s' W F μ a g1 g2 hs=>?_
 have hid':=(g2 id (by simp)).trans hid
 have ex:=hs.ev x
 rw [g1 x (by rw [ho];simp [Op.operands]),hx] at ex
 have ei':=hs.ev i
 rw [g1 i (by rw [ho];simp [Op.operands]),hi] at ei'
 obtain ⟨b,c,hm,hv⟩:=(Rel.ref' ex).2.2 _ hid'
 have hcond:(0:Int)<=(k:Int)/\(k:Int)<(n:Int):=by omega
 refine ⟨.pointer (some ⟨b,k,none⟩),?_,.own id ep k _ (by rw [hid'];exact Nat.le_refl _) rfl fun bd hbd=>⟨b,c,hm,rfl⟩⟩
 have h0:(0:Nat)+k*ei.n=k:=by rw [h1];omega
 simp only [execOp,ho,Instr.indexAt,hv,RK.val,ei'.i',asIntOf,Sem.run_bind,Sem.run_pure,Result.andThen_ok,run_underlying (ht.slice hk),if_pos hcond,he.size,Int.toNat_natCast,ca_ptr (W:=W),h0]
end
end Go.Proofs.YtoaibdbehlcnfaaGreat.Sm
end
section
namespace Go.Proofs.YtoaibdbehlcnfaaGreat.Sm
open Go.RowKit
theorem rowAllM {X:List (List AV)} {n:Nat} (h:X.length=n):AV.sl ((X.drop 0).take n) = .sl X:=by
 rw [List.drop_zero,<- h,List.take_length]
section
variable {P : Program} {N : Nat} {o : Oper} {s : St}
theorem op_build0N {t e id:Nat} {ti ei:TI} (ho:o.op = .buildSlice t 0 #[]) (ht:TiOk P t ti) (hk:ti.k = .slice e) (he:TiOk P e ei) (h1:ei.n=1):OpLoc P N o s ⟨.row id ((s.σ id).ep+1) 0 0,[(id,⟨(s.σ id).ep+1,some (.nest e [])⟩)],[]⟩:=by
 obtain ⟨inf,d,z,q1,_⟩:=he.h
 refine oploc_new [] fun s' W F μ a g1 g2 g3 hs=>?_
 refine ⟨.slice (some ⟨W.heap.size,0,none⟩) 0 0,[],e,0,?_,fun μ' σ' hst hσ hμ=>⟨.inr ⟨W.heap.size,0,#[],rfl,heap_alloc_new W _,Nat.le_refl _,by decide,by simp,fun k x hk=>by simp at hk⟩,.row id _ 0 0 _ (by rw [hσ];exact Nat.le_refl _) rfl fun bd' m' l' hbd hL=>?_⟩⟩
 ·have hrun:=run_buildSlice0 (P:=P) W t e inf (ht.slice hk) q1
  simp only [execOp,ho,List.map_toArray,List.map_nil,Sem.run_bind,hrun,Result.andThen_ok,Sem.run_pure]
 ·rw [hσ] at hbd
  obtain rfl:Body.nest e []=bd':=by simpa using hbd
  exact ⟨Nat.zero_le _,by rw [hμ];simp⟩
theorem op_apB {α:Type} (cF:α->List AV) (l:List α) {S:Nat} (hb:l.length*S<=140737488355328) {c:Call} {xo yo:Operand} {t e id:Nat} {ti ei:TI} (hS:ei.sz=S) (hS1:Nat.ble 1 S=true) (hcf:∀x,(cF x).length=ei.n) (ho:o.op = .call c) (hc:c.callee = .builtin .append) (ha:c.args = #[xo,yo]) (hat:c.argTypes = #[t,t]) (ht:TiOk P t ti) (hk:ti.k = .slice e) (he:TiOk P e ei) (h0:(ei.n == 0)=false)
  (hx:∃ep,s.ev xo = .row id ep 0 0/\s.σ id=⟨ep,some (.row e ei.n [])⟩) (hy:s.ev yo = .sl (l.map cF)) :
  OpLoc P N o s ⟨.row id ((s.σ id).ep+1) 0 (l.map cF).length,[(id,⟨(s.σ id).ep+1,some (.row e ei.n (l.map cF))⟩)],[]⟩:=by
 have h1:=Nat.le_of_ble_eq_true hS1
 have h2:l.length*1<=l.length*S:=Nat.mul_le_mul_left _ h1
 refine op_appendS (els:=[]) (els2:=l.map cF) ho hc ha hat ht hk he h0 (.inl hx) hy (fun cs h=>by
  obtain ⟨x,_,rfl⟩:=List.mem_map.1 h
  exact hcf x) ?_ ?_ (List.nil_append _) rfl
 ·rw [List.length_map,List.length_nil,Nat.zero_add,hS];exact hb
 ·rw [List.length_map,List.length_nil];omega
theorem op_ap1B {els r:List (List AV)} {cs:List AV} {S:Nat} (hr:els++[cs]=r) (hb:(els.length+1)*S<=140737488355328) {c:Call} {xo yo:Operand} {t e id id2 ep2:Nat} {cs0:List AV} {ti ei:TI} (hcs:cs0=cs) (hS:ei.sz=S) (hS1:Nat.ble 1 S=true) (ho:o.op = .call c) (hc:c.callee = .builtin .append) (ha:c.args = #[xo,yo]) (hat:c.argTypes = #[t,t]) (ht:TiOk P t ti) (hk:ti.k = .slice e) (he:TiOk P e ei) (h0:(ei.n == 0)=false)
  (hx:∃ep,s.ev xo = .row id ep 0 els.length/\s.σ id=⟨ep,some (.row e ei.n els)⟩) (hy:s.ev yo = .row id2 ep2 0 1) (hid2:s.σ id2=⟨ep2,some (.row e ei.n [cs0])⟩) :
  OpLoc P N o s ⟨.row id ((s.σ id).ep+1) 0 r.length,[(id,⟨(s.σ id).ep+1,some (.row e ei.n r)⟩)],[id2]⟩:=by
 subst hcs
 have h1:=Nat.le_of_ble_eq_true hS1
 have h2:(els.length+1)*1<=(els.length+1)*S:=Nat.mul_le_mul_left _ h1
 refine op_appendR (els:=els) (els2:=[cs0]) ho hc ha hat ht hk he h0 (.inl hx) hy hid2 ?_ ?_ hr rfl
 ·rw [hS];exact hb
 ·simp only [List.length_singleton];omega
end
theorem Rt.at {N:Nat} {s:St} {ι:Type} {st:ι->St} {J:ι->Prop} (i:ι) (hJ:J i) (h:Rt N s (fun _:Unit=>st i) (fun _=>True)):Rt N s st J:=fun W F μ a hr=>by
 obtain ⟨F',μ',_,_,h1,h2⟩:=h W F μ a hr
 exact ⟨F',μ',i,hJ,h1,h2⟩
theorem AW.retold {P:Program} {N:Nat} {c:Code} {Q:Exit->St->Prop} {s s':St} (h:Rt N s (fun _:Unit=>s') (fun _=>True)) (h':AW P N c Q s'):AW P N c Q s:=AW.retell _ _ h fun _ _=>h'
section
variable {e1 e2 e3 m : Nat} {U : List (List Rws)} {P : List Rws}
theorem gF_all {σ σ':Sto} (hU:Fits U) (hσ:∀k,σ (k+1000)=gF e1 e2 e3 m U P k) (hσ':∀k,σ' (k+1000)=gF e1 e2 e3 m U P k) {k:Nat} {bd:Body} (hb:(gF e1 e2 e3 m U P k).body=some bd):RnB σ σ' bd bd:=by
 by_cases hk:k=0
 ·subst hk
  obtain rfl:=Option.some.inj (show some (Body.nest e1 (tE U))=some bd from hb)
  refine .nest rfl (tE_one U) fun j x x' hj hj'=>?_
  obtain rfl:=Option.some.inj (hj.symm.trans hj')
  rw [tE_get] at hj
  obtain ⟨tb,h2,rfl⟩:=Option.map_eq_some_iff.1 hj
  have e:gF e1 e2 e3 m U P (rwI j)=⟨1,some (.nest e2 (gE j tb))⟩:=by rw [gF,famF_r];exact gRow_some h2
  exact .rowN (by rw [hσ,e]) (by rw [hσ',e]) rfl
 ·exact gF_RnB hU (fun k _=>hσ k) (fun k _=>hσ' k) hk hb
theorem Rt.grid {N:Nat} {s:St} {T:List (Nat × AV)} {B:List (Nat × SB)} (hU:Fits U) (hF:∀k,s.σ (k+1000)=gF e1 e2 e3 m U P k) (hT:WkT s (lkF B (gF e1 e2 e3 m U P)) T) (hB:WkB s (lkF B (gF e1 e2 e3 m U P)) B):Rt N s (fun _:Unit=>⟨lkT T,lkF B (gF e1 e2 e3 m U P)⟩) (fun _=>True) :=
 Rt.wkU (WkF.to hT hB fun k bd' hb=>⟨bd',by rw [hF];exact hb,gF_all hU hF (fun k=>lkF_hi _ _ k) hb⟩)
theorem Rt.grid0 {N:Nat} {s:St} {T:List (Nat × AV)} {B:List (Nat × SB)} {eT:Nat} (h0:s.σ 1000=⟨eT,some (.nest e1 [])⟩) (hT:WkT s (lkF B (gF e1 e2 e3 m [] [])) T) (hB:WkB s (lkF B (gF e1 e2 e3 m [] [])) B):Rt N s (fun _:Unit=>⟨lkT T,lkF B (gF e1 e2 e3 m [] [])⟩) (fun _=>True) :=
 Rt.wkU (WkF.to hT hB fun k bd' hb=>by
  rcases fam_ids k with rfl | ⟨n,rfl⟩ | ⟨n,k,hk2,rfl⟩
  ·obtain rfl:=Option.some.inj (show some (Body.nest e1 (tE []))=some bd' from hb)
   exact ⟨.nest e1 [],by rw [h0],.nest (tE_len []) (tE_one []) fun j x x' hj=>by simp at hj⟩
  ·rw [gF,famF_r] at hb
   obtain ⟨tb,h1,_⟩:=gRow_body hb
   simp at h1
  ·rw [gF,famF_s _ hk2] at hb
   obtain ⟨tb,l,h1,h2,_⟩:=gCell_body hb
   cases n with
   | zero =>
    obtain rfl:[]=tb:=by simpa using h1
    simp at h2
   | succ n=>simp at h1)
end
theorem retGA {P:Program} {T:TT} (hT:tabB P T=true) {fn:Func} {s:St} {g:Sto} {rs:List ResultVar} {xs:List AV} {r:AV} (hrs:fn.results.toList=rs) (h:optL (rs.map (resA T s))=some xs) (hx:Rn s.σ g (resV xs) r) (hB:∀id bd',(g id).body=some bd'->∃bd,(s.σ id).body=some bd/\RnB s.σ g bd bd'):retG P fn r g .ret s :=
 ⟨.inr rfl,resV xs,resL_ok hT hrs h,hx,hB⟩
theorem Rn.rowNIs {σ σ':Sto} {x:AV} {id ep ep' off n t t':Nat} {els els':List AV} (e:x = .row id ep off n) (h:σ id=⟨ep,some (.nest t els)⟩) (h':σ' id=⟨ep',some (.nest t' els')⟩) (hl:els'.length=els.length):Rn σ σ' x (.row id ep' off n):=e ▸ .rowN h h' hl
theorem Rn.aggL {σ σ':Sto} {z:AV} {xs ys:List AV} (e:z = .agg xs) (h:RnL σ σ' xs ys) (h1:ys.all AV.one=true):Rn σ σ' z (.agg ys):=by
 subst e
 obtain ⟨g1,g2⟩:=rnL_ok h
 exact .agg g1 (fun j y hy=>List.all_eq_true.1 h1 y (List.mem_of_getElem? hy)) g2
theorem gF_back {e1 e2 e3 m:Nat} {U:List (List Rws)} {σ:Sto} (hU:Fits U) (hF:∀k,σ (k+1000)=gF e1 e2 e3 m U [] k):∀id bd',(lkF [] (gF e1 e2 e3 m U []) id).body=some bd'->∃bd,(σ id).body=some bd/\RnB σ (lkF [] (gF e1 e2 e3 m U [])) bd bd':=fun id bd' hb=>by
  by_cases h:id<1000
  · rw [lkF_lo _ _ h] at hb;cases hb
  · obtain ⟨k,rfl⟩:∃k,id=k+1000:=⟨id - 1000,by omega⟩
    rw [lkF_hi] at hb
    exact ⟨bd',by rw [hF];exact hb,gF_all hU hF (fun k=>lkF_hi _ _ k) hb⟩
end Go.Proofs.YtoaibdbehlcnfaaGreat.Sm
end
section
namespace Go.Proofs.YtoaibdbehlcnfaaGreat.Sm
open Go.RowKit Go.WideShapes Go.ChangeShapes Go.Deep
section
variable {H : Type} {P : Program}
theorem weights_all {e:TypeId}:∀{ds:List (DataW H)} {d:DataW H},d∈ds->∀n∈d.weights P e,n∈DataW.weightsAll P e ds
 | d0::ds,d,hd,n,hn=>by
  simp only [DataW.weightsAll,List.mem_append]
  rcases List.mem_cons.1 hd with rfl | hd
  ·exact .inl hn
  ·exact .inr (weights_all hd n hn)
end
def RdZ {α:Type} (P:Program) (t:TypeId) (R:Rep α) (Q:α->Prop):Prop :=
 ∀(H:Type) (enc:TypeId × Value->H) (w:World) (base:Nat) (spare:Nat->Bool) (held:Bool) (fuel:Nat) (cs:List Value) (x:DataW H × List MemPlace),
  DataW.trod enc P w base spare held fuel t cs=some x->(∀k∈x.1.weights P t,k<=reachBytes)->∃a:α,R.rel w (fun b=>b<w.heap.size) a cs/\Q a
theorem RdZ.of {α:Type} {P:Program} {t:TypeId} {R:Rep α} (h:Readable P t R):RdZ P t R (fun _=>True):=fun H enc w base spare held fuel cs x hx _=>by
 obtain ⟨a,ha⟩:=h H enc w base spare held fuel cs x hx
 exact ⟨a,ha,trivial⟩
theorem all2_and {α:Type} {r:α->List Value->Prop} {Q:α->Prop}:∀{xs:List α} {cs:List Value},All2 (fun a c=>r a c/\Q a) xs cs->All2 r xs cs/\∀a∈xs,Q a
 | [],cs,h=>⟨h,fun a ha=>by cases ha⟩
 | x::xs,cs,⟨c1,c2,h1,h2,h3⟩=>by
  obtain ⟨g1,g2⟩:=all2_and h3
  refine ⟨⟨c1,c2,h1,h2.1,g1⟩,fun a ha=>?_⟩
  rcases List.mem_cons.1 ha with rfl | ha
  ·exact h2.2
  ·exact g2 a ha
theorem RdZ.slice {α:Type} {P:Program} {t e:TypeId} {R:Rep α} {Q:α->Prop} (hR:RdZ P e R Q) (ht:P.underlying t=some (.slice e)) (hn:P.cellsOf e=R.n) (h0:0<R.n) (hb:0<P.bytesOf e):RdZ P t R.slice (fun l=>l.length<=reachBytes/\∀a∈l,Q a):=by
  intro H enc w base spare held fuel cs x hx hz
  rcases open_slice ht hx with ⟨rfl,_⟩ | ⟨a,len,cap,m,n,D,Pl,rfl,_,hlc,hcm,hm,rfl,hel⟩
  · exact ⟨[],⟨_,rfl,SliceAt.nil _ _ _⟩,Nat.zero_le _,fun a ha=>by cases ha⟩
  · have hlm:len<=m:=by rw [hm];split <;> omega
    simp only [DataW.weights,ht] at hz
    have hlen:len<=reachBytes:=by
      have h1:=hz _ List.mem_cons_self
      rw [List.length_map,List.length_range] at h1
      have h2:len*1<=(len+(List.map (fun j=>D (len+j)) (List.range (m - len))).length)*P.bytesOf e:=Nat.mul_le_mul (Nat.le_add_right _ _) hb
      omega
    have hzi:∀i,i<len->∀k∈(D i).weights P e,k<=reachBytes:=fun i hi k hk=>by
      refine hz k (List.mem_cons_of_mem _ (List.mem_append_left _ ?_))
      exact weights_all (List.mem_map_of_mem (List.mem_range.2 hi)) k hk
    by_cases hp:0<len
    · have hspot : a = ⟨a.block, a.off, none⟩ /\ a.block < w.heap.size := by
        obtain ⟨cs',hc,_⟩:=hel 0 (by omega)
        obtain ⟨_,hl,hat⟩:=World.cells?_some hc
        have h1:=hat 0 (by rw [hn];exact h0)
        have e:(a.add (0*P.cellsOf e)).add 0=a:=by simp [Addr.add]
        rw [e,List.getElem?_eq_getElem (by rw [hl,hn];exact h0)] at h1
        refine ⟨?_,World.block_lt_of_cell? w a h1⟩
        unfold World.cell? at h1
        split at h1
        · split at h1
          · cases h1
          · rename_i hs
            obtain ⟨ab,ao,asp⟩:=a
            cases asp with
            | none=>rfl
            | some k=>simp at hs
        · cases h1
      obtain ⟨xs,cells,h1,h2,h3⟩:=all2_collect (r:=fun a c=>R.rel w (fun b=>b<w.heap.size) a c/\Q a) (n:=R.n) (fun _ _ h=>R.len h.1) w a.block a.off len fun i hi=>by
        obtain ⟨cs',hc,ht'⟩:=hel i (by omega)
        obtain ⟨y,hy,hq⟩:=hR H enc w base spare held n cs' _ ht' (hzi i hi)
        obtain ⟨_,hl,hat⟩:=World.cells?_some hc
        refine ⟨y,cs',⟨hy,hq⟩,fun j u hu=>?_⟩
        have hj:j<P.cellsOf e:=by have:=(List.getElem?_eq_some_iff.1 hu).1;omega
        have:=hat j hj
        rw [hu,hn,hspot.1] at this
        rw [show ((⟨a.block,a.off,none⟩:Addr).add (i*R.n)).add j=⟨a.block,a.off+(i*R.n+j),none⟩ by
          unfold Addr.add
          by_cases h1:i*R.n=0 <;> by_cases h2:j=0 <;> simp [h1,h2,Nat.add_assoc]] at this
        exact this
      obtain ⟨g1,g2⟩:=all2_and h2
      exact ⟨xs,⟨_,rfl,some a,cap,by rw [h1],by omega,hcm,fun _=>⟨a.block,a.off,by rw [<- hspot.1],hspot.2,hspot.2,cells,g1,h3⟩⟩,by rw [h1];exact hlen,g2⟩
    · obtain rfl:len=0:=by omega
      exact ⟨[],⟨_,rfl,some a,cap,rfl,Nat.zero_le _,hcm,fun h=>absurd h (Nat.lt_irrefl _)⟩,Nat.zero_le _,fun a ha=>by cases ha⟩
structure RdA {α:Type} (P:Program) (t:TypeId) (n:Nat) (enc:α->List AV) (Q:α->Prop):Prop where
 len:∀a,(enc a).length=n
 one:∀a,∀y∈enc a,y.one=true
 read:∀(H:Type) (e:TypeId × Value->H) (w:World) (base:Nat) (spare:Nat->Bool) (held:Bool) (fuel:Nat) (cs:List Value) (x:DataW H × List MemPlace),
  DataW.trod e P w base spare held fuel t cs=some x->(∀k∈x.1.weights P t,k<=reachBytes)->∃a:α,PWs w (fun b=>b<w.heap.size) (enc a) cs/\Q a
section
variable {P : Program} {t : TypeId}
theorem RdA.of {α:Type} {n:Nat} {enc:α->List AV} (h:ReadA P t n enc):RdA P t n enc (fun _=>True):=⟨h.len,h.one,fun H e w base spare held fuel cs x hx _=>by
 obtain ⟨a,ha⟩:=h.read H e w base spare held fuel cs x hx
 exact ⟨a,ha,trivial⟩⟩
theorem RdA.slice {α:Type} {e:TypeId} {n:Nat} {enc:α->List AV} {Q:α->Prop} (h:RdA P e n enc Q) (ht:P.underlying t=some (.slice e)) (hn:P.cellsOf e=n) (h0:0<n) (hb:0<P.bytesOf e):RdA P t 1 (fun l:List α=>[.sl (l.map enc)]) (fun l=>l.length<=reachBytes/\∀a∈l,Q a):=by
 have E:=(avR_enc h.len h.one).slice h0
 refine ⟨E.len,E.one,fun H e w base spare held fuel cs x hx hz=>?_⟩
 have hR:RdZ P _ (avR n enc h.len h.one) Q:=fun H e w base spare held fuel cs x hx hz=>h.read H e w base spare held fuel cs x hx hz
 obtain ⟨a,ha,hq⟩:=hR.slice ht hn h0 hb H e w base spare held fuel cs x hx hz
 exact ⟨a,⟨by rw [(avR n enc h.len h.one).slice.len ha,E.len],fun j y hj=>E.one a y (List.mem_of_getElem? hj),fun j y v hj hv=>E.to ha j y v hj hv⟩,hq⟩
theorem RdA.part {α:Type} {ty n off:Nat} {enc:α->List AV} {Q:α->Prop} (h:RdA P ty n enc Q) {H:Type} {e:TypeId × Value->H} {w:World} {base:Nat} {spare:Nat->Bool} {held:Bool} {cs:List Value} {m:Nat}
  (hp:∃y,DataW.trod e P w base spare held m ty ((cs.drop off).take n)=some y/\∀k∈y.1.weights P ty,k<=reachBytes):∃a:α,PWs w (fun b=>b<w.heap.size) (enc a) ((cs.drop off).take n)/\Q a:=by
 obtain ⟨y,hy,hz⟩:=hp
 exact h.read H e w base spare held m _ y hy hz
theorem struct_partZ {fs:Array Field} (ht:P.underlying t=some (.struct fs)) {H:Type} {enc:TypeId × Value->H} {w:World} {base:Nat} {spare:Nat->Bool} {held:Bool} {fuel:Nat} {cs:List Value} {x:DataW H × List MemPlace}
  (hx:DataW.trod enc P w base spare held fuel t cs=some x) (hz:∀k∈x.1.weights P t,k<=reachBytes):∃m,cs.length=P.cellsOf t/\∀(j ty off n:Nat),(fs[j]?).map (fun f=>(f.type,f.offset))=some (ty,off)->P.cellsOf ty=n ->
   ∃y,DataW.trod enc P w base spare held m ty ((cs.drop off).take n)=some y/\∀k∈y.1.weights P ty,k<=reachBytes:=by
 obtain ⟨xs,n,_,rfl,hl,hxs,hf⟩:=DataW.trod_struct ht hx
 simp only [DataW.weights,ht] at hz
 refine ⟨n,hl,fun j ty off k hj hk=>?_⟩
 cases hfj:fs[j]? with
 | none=>rw [hfj] at hj;cases hj
 | some f =>
  rw [hfj] at hj
  simp only [Option.map_some,Option.some.injEq,Prod.mk.injEq] at hj
  have h:=hf j f hfj
  rw [hj.1,hj.2,hk] at h
  have hlt:j<xs.length:=by rw [hxs];exact (Array.getElem?_eq_some_iff.1 hfj).1
  refine ⟨xs[j],by rw [h,List.getElem?_eq_getElem hlt],fun n' hn'=>hz n' ?_⟩
  refine DataW.weights_mem_each (j:=j) (t:=ty) (d:=xs[j].1) ?_ ?_ n' hn'
  ·rw [List.getElem?_map,Array.getElem?_toList,hfj,Option.map_some,hj.1]
  ·rw [List.getElem?_map,List.getElem?_eq_getElem hlt];rfl
variable {H : Type} {e : TypeId × Value -> H} {W : World} {base b0 : Nat} {spare : Nat -> Bool} {held : Bool} {v : Value} {d : DataW H} {p : List MemPlace}
theorem RdA.arg_struct {α:Type} {n:Nat} {enc:α->List AV} {Q:α->Prop} (h:RdA P t n enc Q) {fs:Array Field} (ht:P.underlying t=some (.struct fs)) {ts:List TypeId} {ds:List (DataW H)} (hsz:(DataW.weightsEach P ts ds).all (·<=reachBytes)=true) (j:Nat) (hj:ts[j]?=some t) (hdj:ds[j]?=some d) (ho:Value.okWide P W .any b0 t v) (hd:DataW.Trod e P W base spare held t v d p) :
  ∃a:α,PRel W (fun b=>b<W.heap.size) (.agg (enc a)) v/\Q a:=by
 obtain ⟨cs,rfl,hs⟩:=okWide_struct ht ho
 obtain ⟨fuel,hf⟩:=hd
 obtain ⟨a,ha,hq⟩:=h.read H e W base spare held fuel _ _ hf fun k hk=>by
  have:=List.all_eq_true.1 hsz _ (DataW.weights_mem_each hj hdj k hk)
  simpa using this
 have hc:(Value.cells (.agg cs)).toList=cs.toList:=by simp [Value.cells]
 rw [hc] at ha
 refine ⟨a,?_,hq⟩
 have:=PRel.agg (W:=W) (F:=fun b=>b<W.heap.size) (enc a) cs.toList ha.len ha.one ha.rel
 simpa using this
end
def Cf.Lens (c:Cf):Prop:=∀t∈c.tables,∀l∈t,l.length<=reachBytes
end Go.Proofs.YtoaibdbehlcnfaaGreat.Sm
end
section
namespace Go.Proofs.YtoaibdbehlcnfaaGreat.Sm
open Go.RowKit
structure Cf.Fit (c:Cf):Prop where
 ports:c.topo.ports.length*24<=reachBytes
 pts:∀r∈c.topo.ports,r.length*40<=reachBytes
 peers:c.pol.peers.length*16<=reachBytes
 ways:c.pol.ways.length*24<=reachBytes
 tabs:c.tables.length*24<=reachBytes
 rows:∀t∈c.tables,t.length*24<=reachBytes
 rules:∀t∈c.tables,∀l∈t,l.length*96<=reachBytes
theorem reach_eq:reachBytes=140737488351232:=by decide
def zCf:List AV:=[.sl [],.i .i64 0,.sl [],.sl [],.sl []]
def cellsT (T:List (List (List Rl))):List (List Rws):=T.map fun t=>t.map fun l=>l.map cRl
theorem d_Copy (c:Cf) (hf:c.Fit):GDoes Tryz.prog 16 [.agg (cCf c)] (.agg [.sl (c.topo.ports.map cPts),.i .i64 c.pol.tenants,.sl (c.pol.peers.map cPr),.sl (c.pol.ways.map cWy),.row 1000 1 0 c.tables.length]) (lkF [] (gF 47 48 40 12 (cellsT c.tables) [])):=by
  refine GDoes.of_body Tryz.func16 rfl (by kernel_rfl) rfl rfl ?_
  have hp:=hf.peers
  have hw:=hf.ways
  rw [reach_eq] at hp hw
  refine jB ?_
  refine wF ?_;refine wH rfl ?_;refine jB ?_
  refine wF ?_;refine wH rfl ?_;refine jB ?_
  refine AW.text ?_
  refine RG.opS rfl (op_build0 (id:=13) rfl (tab_ok ty_ok rfl) rfl (tab_ok ty_ok rfl)) rfl ?_;refine wH rfl ?_;refine jA ?_
  refine RG.opS rfl (op_apB cPr c.pol.peers (S:=16) (by omega) rfl rfl (fun _=>rfl) rfl rfl rfl rfl (tab_ok ty_ok rfl) rfl (tab_ok ty_ok rfl) rfl ⟨_,rfl,rfl⟩ rfl) rfl ?_
  refine wH rfl ?_;refine jA ?_
  refine RG.opS rfl (op_build0 (id:=20) rfl (tab_ok ty_ok rfl) rfl (tab_ok ty_ok rfl)) rfl ?_;refine wH rfl ?_;refine jA ?_
  refine RG.opS rfl (op_apB cWy c.pol.ways (S:=24) (by omega) rfl rfl (fun _=>rfl) rfl rfl rfl rfl (tab_ok ty_ok rfl) rfl (tab_ok ty_ok rfl) rfl ⟨_,rfl,rfl⟩ rfl) rfl ?_
  refine wH rfl ?_;refine jA ?_
  refine AW.freeze [13,20] [(1,.own 1 0 0),(2,.own 2 0 0),(3,.own 3 0 0),(4,.i .i64 (0:Nat))] [(1,⟨0,some (.box 31 (cCf c))⟩),(2,⟨0,some (.box 31 zCf)⟩),(3,⟨0,some (.box 31 [.raw (.slice none 0 0),.i .i64 c.pol.tenants,.sl (c.pol.peers.map cPr),.sl (c.pol.ways.map cWy),.raw (.slice none 0 0)])⟩)] ⟨.rn (rO rfl rfl rfl),.rn (rO rfl rfl rfl),.rn (rO rfl rfl rfl),.is rfl rfl,trivial⟩ ⟨.boxL rfl ⟨.is rfl rfl,.is rfl rfl,.is rfl rfl,.is rfl rfl,.is rfl rfl,trivial⟩ rfl,.boxL rfl ⟨.fzA rfl rfl rfl,.is rfl rfl,.fzA rfl rfl rfl,.fzA rfl rfl rfl,.fzA rfl rfl rfl,trivial⟩ rfl,.boxL rfl ⟨.is rfl rfl,.is rfl rfl,.fzA rfl rfl (rowAllM rfl),.fzA rfl rfl (rowAllM rfl),.is rfl rfl,trivial⟩ rfl,trivial⟩ rfl ?_
  refine AW.nilRow 40 0 115 1 [(1,.own 1 0 0),(2,.own 2 0 0),(3,.own 3 0 0),(4,.i .i64 (0:Nat))] [(1,⟨0,some (.box 31 (cCf c))⟩),(2,⟨0,some (.box 31 zCf)⟩),(3,⟨0,some (.box 31 [.row 40 0 0 0,.i .i64 c.pol.tenants,.sl (c.pol.peers.map cPr),.sl (c.pol.ways.map cWy),.raw (.slice none 0 0)])⟩),(40,⟨0,some (.row 115 1 [])⟩)] ⟨.rn (rO rfl rfl rfl),.rn (rO rfl rfl rfl),.rn (rO rfl rfl rfl),.is rfl rfl,trivial⟩ ⟨.old (bS rfl rfl rfl),.old (bS rfl rfl rfl),.boxL rfl ⟨.nil rfl,.is rfl rfl,.is rfl rfl,.is rfl rfl,.is rfl rfl,trivial⟩ rfl,.old (bR rfl rfl),trivial⟩ ?_
  refine AW.loopL (ι:=Nat) (fun i=>[(1,.own 1 0 0),(2,.own 2 0 0),(3,.own 3 0 0),(4,.i .i64 (i:Nat))]) (fun i=>[(1,⟨0,some (.box 31 (cCf c))⟩),(2,⟨0,some (.box 31 zCf)⟩),(3,⟨0,some (.box 31 [.row 40 0 0 ((c.topo.ports.take i).map cPts).length,.i .i64 c.pol.tenants,.sl (c.pol.peers.map cPr),.sl (c.pol.ways.map cWy),.raw (.slice none 0 0)])⟩),(40,⟨0,some (.row 115 1 ((c.topo.ports.take i).map cPts))⟩)]) (fun i=>i<=c.topo.ports.length) (fun i=>c.topo.ports.length - i) 0 (Nat.zero_le _) jW ⟨bS rfl rfl rfl,bS rfl rfl rfl,.boxL rfl ⟨rR rfl rfl rfl,rI rfl rfl,rI rfl rfl,rI rfl rfl,rI rfl rfl,trivial⟩ rfl,bR rfl rfl,trivial⟩ fun i hi=>?_
  have hpl:=hf.ports
  rw [reach_eq] at hpl
  refine jA ?_
  refine AW.cond rfl (fun h1=>?_) (fun h1=>?_)
  · have k:i<c.topo.ports.length:=by simpa using h1
    have hr:=hf.pts c.topo.ports[i] (List.getElem_mem k)
    rw [reach_eq] at hr
    have htk:(c.topo.ports.take i).map cPts++[cPts c.topo.ports[i]]=(c.topo.ports.take (i+1)).map cPts:=by
      rw [List.take_add_one,List.getElem?_eq_getElem k,List.map_append];rfl
    have hln:((c.topo.ports.take i).map cPts).length=i:=by rw [List.length_map,List.length_take];omega
    generalize hX:(c.topo.ports.take i).map cPts=X at htk hln
    refine jB ?_
    refine AW.draws mixed_ok ?_
    refine wH rfl ?_
    refine RG.opS rfl (op_build0 (id:=38) rfl (tab_ok ty_ok rfl) rfl (tab_ok ty_ok rfl)) rfl ?_
    refine wH rfl ?_
    refine RG.opS rfl (op_index rfl (tab_ok ty_ok rfl) rfl (tab_ok ty_ok rfl) rfl rfl (show (c.topo.ports.map cPts)[i]?=some (cPts c.topo.ports[i]) by rw [List.getElem?_map,List.getElem?_eq_getElem (by assumption)];rfl) rfl) rfl ?_
    refine wH rfl ?_
    refine RG.opS rfl (op_apB cPt c.topo.ports[i] (S:=40) (by omega) rfl rfl (fun _=>rfl) rfl rfl rfl rfl (tab_ok ty_ok rfl) rfl (tab_ok ty_ok rfl) rfl ⟨_,rfl,rfl⟩ rfl) rfl ?_
    refine wH rfl ?_
    refine RG.opS rfl (op_ap1B (S:=24) htk (by rw [hln];omega) (congrArg (fun x=>[x]) (rowAllM rfl)) rfl rfl rfl rfl rfl rfl (tab_ok ty_ok rfl) rfl (tab_ok ty_ok rfl) rfl ⟨_,rfl,rfl⟩ rfl rfl) rfl ?_
    refine wH rfl ?_;refine jA ?_
    subst hX
    exact ⟨i+1,⟨k,by omega⟩,⟨rO rfl rfl rfl,rO rfl rfl rfl,rO rfl rfl rfl,rI (i64_next k (by omega)) rfl,trivial⟩,⟨bS rfl rfl rfl,bS rfl rfl rfl,.boxL rfl ⟨rR rfl rfl rfl,rI rfl rfl,rI rfl rfl,rI rfl rfl,rI rfl rfl,trivial⟩ rfl,bR rfl rfl,trivial⟩⟩
  · have k:¬i<c.topo.ports.length:=by simpa using h1
    obtain rfl:i=c.topo.ports.length:=by omega
    refine jB ?_
    refine AW.exit ?_;refine Eq.mpr (if_pos rfl) ?_;refine jB ?_
    refine wF ?_;refine wH rfl ?_;refine jB ?_
    refine AW.freeze [40] [(1,.own 1 0 0),(2,.own 2 0 0),(3,.own 3 0 0),(5,.i .i64 (0:Nat))] [(1,⟨0,some (.box 31 (cCf c))⟩),(2,⟨0,some (.box 31 zCf)⟩),(3,⟨0,some (.box 31 [.sl (c.topo.ports.map cPts),.i .i64 c.pol.tenants,.sl (c.pol.peers.map cPr),.sl (c.pol.ways.map cWy),.raw (.slice none 0 0)])⟩)] ⟨.rn (rO rfl rfl rfl),.rn (rO rfl rfl rfl),.rn (rO rfl rfl rfl),.is rfl rfl,trivial⟩ ⟨.old (bS rfl rfl rfl),.old (bS rfl rfl rfl),.boxL rfl ⟨.fzA rfl rfl ((rowAllM rfl).trans (by rw [List.take_length])),.is rfl rfl,.is rfl rfl,.is rfl rfl,.is rfl rfl,trivial⟩ rfl,trivial⟩ rfl ?_
    refine AW.nilNest 1000 0 47 [(1,.own 1 0 0),(2,.own 2 0 0),(3,.own 3 0 0),(5,.i .i64 (0:Nat))] [(1,⟨0,some (.box 31 (cCf c))⟩),(2,⟨0,some (.box 31 zCf)⟩),(3,⟨0,some (.box 31 [.sl (c.topo.ports.map cPts),.i .i64 c.pol.tenants,.sl (c.pol.peers.map cPr),.sl (c.pol.ways.map cWy),.row 1000 0 0 0])⟩),(1000,⟨0,some (.nest 47 [])⟩)] ⟨.rn (rO rfl rfl rfl),.rn (rO rfl rfl rfl),.rn (rO rfl rfl rfl),.is rfl rfl,trivial⟩ ⟨.old (bS rfl rfl rfl),.old (bS rfl rfl rfl),.boxL rfl ⟨.is rfl rfl,.is rfl rfl,.is rfl rfl,.is rfl rfl,.nil rfl,trivial⟩ rfl,.old (.nest rfl rfl (by simp) (by simp)),trivial⟩ ?_
    have htl:=hf.tabs
    rw [reach_eq] at htl
    refine AW.loopR (ι:=Nat) (fun i=>⟨lkT [(1,.own 1 0 0),(2,.own 2 0 0),(3,.own 3 0 0),(5,.i .i64 (i:Nat))],lkF [(1,⟨0,some (.box 31 (cCf c))⟩),(2,⟨0,some (.box 31 zCf)⟩),(3,⟨0,some (.box 31 [.sl (c.topo.ports.map cPts),.i .i64 c.pol.tenants,.sl (c.pol.peers.map cPr),.sl (c.pol.ways.map cWy),.row 1000 1 0 (tE (cellsT (c.tables.take i))).length])⟩)] (gF 47 48 40 12 (cellsT (c.tables.take i)) [])⟩) (fun i=>i<=c.tables.length) (fun i=>c.tables.length - i)
      (Rt.at 0 (Nat.zero_le _) (Rt.grid0 rfl jW ⟨bS rfl rfl rfl,bS rfl rfl rfl,.boxL rfl ⟨rI rfl rfl,rI rfl rfl,rI rfl rfl,rI rfl rfl,.rowNIs rfl rfl rfl rfl,trivial⟩ rfl,trivial⟩)) fun i hi=>?_
    have hU:Fits (cellsT (c.tables.take i)):=fun tb htb=>by
      obtain ⟨t,ht,rfl⟩:=List.mem_map.1 htb
      have h1:=hf.rows t (List.mem_of_mem_take ht)
      rw [reach_eq] at h1
      rw [List.length_map,gM_eq]
      omega
    have hUl:(cellsT (c.tables.take i)).length=i:=by rw [cellsT,List.length_map,List.length_take];omega
    have hUs:∀k:i<c.tables.length,cellsT (c.tables.take i)++[c.tables[i].map fun l=>l.map cRl]=cellsT (c.tables.take (i+1)):=fun k=>by
      rw [List.take_add_one,List.getElem?_eq_getElem k,cellsT,cellsT,List.map_append];rfl
    generalize hUe:cellsT (c.tables.take i)=U at hU hUl hUs
    refine jB ?_
    refine wF ?_;refine wH rfl ?_;refine jB ?_
    refine AW.cond rfl (fun h2=>?_) (fun h2=>?_)
    · have ki:i<c.tables.length:=by simpa using h2
      have hrow:=hf.rows c.tables[i] (List.getElem_mem ki)
      rw [reach_eq] at hrow
      refine jB ?_
      refine AW.text ?_
      refine RG.opS rfl (op_build0N (id:=57) rfl (tab_ok ty_ok rfl) rfl (tab_ok ty_ok rfl) rfl) rfl ?_
      refine wH rfl ?_
      refine jB ?_
      refine wF ?_;refine wH rfl ?_;refine jB ?_
      have hPl:∀k,k<=c.tables[i].length->((c.tables[i].take k).map fun l=>l.map cRl).length=k:=fun k h=>by rw [List.length_map,List.length_take];omega
      have hPs:∀k (h:k<c.tables[i].length),((c.tables[i].take k).map fun l=>l.map cRl)++[c.tables[i][k].map cRl]=(c.tables[i].take (k+1)).map fun l=>l.map cRl:=fun k h=>by
        rw [List.take_add_one,List.getElem?_eq_getElem h,List.map_append];rfl
      refine AW.loopR (ι:=Nat) (fun k=>⟨lkT [(1,.own 1 0 0),(2,.own 2 0 0),(3,.own 3 0 0),(5,.i .i64 (i:Nat)),(6,.row 57 1 0 (gE U.length ((c.tables[i].take k).map fun l=>l.map cRl)).length),(7,.i .i64 (k:Nat))],lkF ((57,⟨1,some (.nest 48 (gE U.length ((c.tables[i].take k).map fun l=>l.map cRl)))⟩)::[(1,⟨0,some (.box 31 (cCf c))⟩),(2,⟨0,some (.box 31 zCf)⟩),(3,⟨0,some (.box 31 [.sl (c.topo.ports.map cPts),.i .i64 c.pol.tenants,.sl (c.pol.peers.map cPr),.sl (c.pol.ways.map cWy),.row 1000 1 0 (tE U).length])⟩)]) (gF 47 48 40 12 U ((c.tables[i].take k).map fun l=>l.map cRl))⟩) (fun k=>k<=c.tables[i].length) (fun k=>c.tables[i].length - k)
        (Rt.at 0 (Nat.zero_le _) (Rt.grid (P:=[]) hU (fun k=>rfl) ⟨rO rfl rfl rfl,rO rfl rfl rfl,rO rfl rfl rfl,rI rfl rfl,.rowNIs rfl rfl rfl rfl,rI rfl rfl,trivial⟩ ⟨.nest rfl rfl (by simp [gE]) (by simp [gE]),bS rfl rfl rfl,bS rfl rfl rfl,.boxL rfl ⟨rI rfl rfl,rI rfl rfl,rI rfl rfl,rI rfl rfl,.rowNIs rfl rfl rfl rfl,trivial⟩ rfl,trivial⟩)) fun k hk=>?_
      have hpl:=hPl k hk
      generalize hPe:((c.tables[i].take k).map fun l=>l.map cRl)=Pk at hpl
      refine jB ?_
      refine AW.text ?_
      refine wH rfl ?_
      refine RG.opS rfl (op_index rfl (tab_ok ty_ok rfl) rfl (tab_ok ty_ok rfl) rfl rfl (show (c.tables.map cTab)[i]?=some (cTab c.tables[i]) by rw [List.getElem?_map,List.getElem?_eq_getElem (by assumption)];rfl) rfl) rfl ?_
      refine wH rfl ?_;refine jA ?_
      refine AW.cond rfl (fun h3=>?_) (fun h3=>?_)
      · have k3:k<c.tables[i].length:=by simpa using h3
        have hru:=hf.rules c.tables[i] (List.getElem_mem ki) c.tables[i][k] (List.getElem_mem k3)
        rw [reach_eq] at hru
        have hps:=hPs k k3
        rw [hPe] at hps
        refine jB ?_
        refine AW.text ?_
        refine wH rfl ?_
        refine RG.opS rfl (op_build0 (id:=69) rfl (tab_ok ty_ok rfl) rfl (tab_ok ty_ok rfl)) rfl ?_
        refine wH rfl ?_
        refine RG.opS rfl (op_index rfl (tab_ok ty_ok rfl) rfl (tab_ok ty_ok rfl) rfl rfl (show (c.tables.map cTab)[i]?=some (cTab c.tables[i]) by rw [List.getElem?_map,List.getElem?_eq_getElem (by assumption)];rfl) rfl) rfl ?_
        refine wH rfl ?_
        refine RG.opS rfl (op_index rfl (tab_ok ty_ok rfl) rfl (tab_ok ty_ok rfl) rfl rfl (show (c.tables[i].map cRls)[k]?=some (cRls c.tables[i][k]) by rw [List.getElem?_map,List.getElem?_eq_getElem (by assumption)];rfl) rfl) rfl ?_
        refine wH rfl ?_
        refine RG.opS rfl (op_apB cRl c.tables[i][k] (S:=96) (by omega) rfl rfl (fun _=>rfl) rfl rfl rfl rfl (tab_ok ty_ok rfl) rfl (tab_ok ty_ok rfl) rfl ⟨_,rfl,rfl⟩ rfl) rfl ?_
        refine RG.opS rfl (op_buildRef (id:=79) rfl (tab_ok ty_ok rfl) rfl (tab_ok ty_ok rfl) rfl (by decide) rfl rfl rfl rfl rfl) rfl ?_
        refine RG.opS rfl (op_appN (ti:=⟨_,_,_,_⟩) rfl rfl rfl rfl (tab_ok ty_ok rfl) rfl (tab_ok ty_ok rfl) rfl ⟨_,rfl,rfl⟩ rfl rfl (show _*24<=_ by rw [gE_len,hpl];omega) (by rw [gE_len,hpl];omega)) rfl ?_
        refine wH rfl ?_;refine jA ?_
        refine Rt.at (k+1) ⟨k3,by omega⟩ ?_
        rw [<- hps]
        refine Rt.push2 (i:=69) (L:=57) rfl rfl (by decide) hU (by rw [hpl,gM_eq];omega) rfl rfl (fun k=>rfl) ⟨rO rfl rfl rfl,rO rfl rfl rfl,rO rfl rfl rfl,rI rfl rfl,.rowNIs (congrArg (AV.row 57 _ 0) (show (gE U.length Pk).length+1=(gE U.length (Pk++[c.tables[i][k].map cRl])).length by rw [gE_len,gE_len,List.length_append];rfl)) rfl rfl (by simp),rI (i64_next k3 (by omega)) rfl,trivial⟩ ⟨bS rfl rfl rfl,bS rfl rfl rfl,.boxL rfl ⟨rI rfl rfl,rI rfl rfl,rI rfl rfl,rI rfl rfl,.rowNIs rfl rfl rfl rfl,trivial⟩ rfl,trivial⟩ rfl rfl rfl rfl
        skip
      · have k3:¬k<c.tables[i].length:=by simpa using h3
        have kk:k=c.tables[i].length:=by omega
        rw [kk,List.take_length] at hPe
        clear hPl hPs h3 k3 hk
        refine jB ?_
        refine AW.exit ?_;refine Eq.mpr (if_pos rfl) ?_;refine jB ?_
        refine AW.text ?_
        refine wH rfl ?_
        refine RG.opS rfl (op_buildRef (id:=84) rfl (tab_ok ty_ok rfl) rfl (tab_ok ty_ok rfl) rfl (by decide) rfl rfl rfl rfl rfl) rfl ?_
        refine RG.opS rfl (op_appN rfl rfl rfl rfl (tab_ok ty_ok rfl) rfl (tab_ok ty_ok rfl) rfl ⟨_,rfl,rfl⟩ rfl rfl (show _*24<=_ by rw [tE_len,hUl];omega) (by rw [tE_len,hUl];omega)) rfl ?_
        refine wH rfl ?_;refine jA ?_
        refine Rt.at (i+1) ⟨ki,by omega⟩ ?_
        have hUs:=hUs ki
        rw [hPe] at hUs
        have hR:=fun {N':Nat} {s:St} {T B} {ei eT:Nat}=>@Rt.push1 47 48 40 12 U Pk N' s T B 57 ei eT rfl hU (by rw [hpl,gM_eq];omega)
        rw [hUs] at hR
        refine hR rfl rfl ?_ ⟨rO rfl rfl rfl,rO rfl rfl rfl,rO rfl rfl rfl,rI (i64_next ki (by omega)) rfl,trivial⟩ ⟨bS rfl rfl rfl,bS rfl rfl rfl,.boxL rfl ⟨rI rfl rfl,rI rfl rfl,rI rfl rfl,rI rfl rfl,.rowNIs (congrArg (AV.row 1000 _ 0) (show (tE U).length+1=(tE (cellsT (c.tables.take (i+1)))).length by rw [<- hUs,tE_len,tE_len,List.length_append];rfl)) rfl rfl (by simp),trivial⟩ rfl,trivial⟩ rfl rfl rfl
        intro k hk
        cases k with
        | zero=>exact absurd rfl hk
        | succ k=>rfl
    · have ki:¬i<c.tables.length:=by simpa using h2
      obtain rfl:i=c.tables.length:=by omega
      rw [List.take_length] at hUe
      subst hUe
      refine jB ?_
      refine AW.exit ?_;refine Eq.mpr (if_pos rfl) ?_;refine jB ?_
      refine wF ?_;refine wH rfl ?_;refine jB ?_
      refine AW.ret (retGA ty_ok rfl rfl ?_ (gF_back hU fun k=>rfl))
      exact Rn.aggL rfl ⟨rI rfl rfl,rI rfl rfl,rI rfl rfl,rI rfl rfl,.rowNIs (congrArg (AV.row 1000 _ 0) (show (tE (cellsT c.tables)).length=c.tables.length by rw [tE_len,hUl])) rfl rfl rfl,trivial⟩ rfl
end Go.Proofs.YtoaibdbehlcnfaaGreat.Sm
end
section
namespace Go.Proofs.YtoaibdbehlcnfaaGreat.Sm
open Go.RowKit
section
variable {N : Nat} {T : List (Nat × AV)} {B : List (Nat × SB)} {f f' : Nat -> SB} {els : List AV} {e1 n L len : Nat} {bd : Body}
theorem set_get {els:List AV} {n k:Nat} {y x:AV} (h:(els.set n y)[k]?=some x):(k=n/\x=y)\/(k≠n/\els[k]?=some x):=by
 rw [List.getElem?_set] at h
 by_cases e:n=k
 ·subst e
  rw [if_pos rfl] at h
  split at h
  ·exact .inl ⟨rfl,(Option.some.inj h).symm⟩
  ·cases h
 ·rw [if_neg e] at h
  exact .inr ⟨fun h=>e h.symm,h⟩
theorem Rt.focus (hL0 : Nat.blt L 1000 = true) (h0 : f 0 = ⟨1, some (.nest e1 els)⟩) (hn : els[n]? = some (.row (rwI n + 1000) 1 0 len)) (hr : f (rwI n) = ⟨1, some bd⟩) (h0' : f' 0 = ⟨1, some (.nest e1 (els.set n (.row L 1 0 len)))⟩) (hr' : (f' (rwI n)).body = none) (hs : ∀ j, j ≠ 0 -> j ≠ rwI n -> f' j = f j)
    (hTk:(T.all fun q=>q.2.kn lo)=true) (hBk:(B.all fun q=>bodyKn lo q.2)=true) (hLB:lkB B L=⟨0,none⟩) (hk:∀j bd,(f' j).body=some bd->bd.kn (fun k=>!Nat.beq k (rwI n+1000))=true) (hbd:bd.kn (fun k=>!Nat.beq k (rwI n+1000))=true) :
    Rt N ⟨lkT T,lkF B f⟩ (fun _:Unit=>⟨lkT T,lkF ((L,⟨1,some bd⟩)::B) f'⟩) (fun _=>True):=by
  have hL0:=ble_lo hL0
  have hnl:n<els.length:=(List.getElem?_eq_some_iff.1 hn).1
  have hp:=rwI_pos n
  refine Rt.move (i := rwI n + 1000) (j := L) (L := 1000) (e := 1) (ej := 0) (eL := 1) (tL := e1) (bd := bd) (els := els) (els2 := els.set n (.row L 1 0 len)) (by omega) (by omega) (by omega) ?_ ?_ ?_ ?_ ?_ ?_ ?_ ?_ ?_ (lkT_kn (by
      refine List.all_eq_true.2 fun q hq=>AV.kn_mono (fun k h=>lo_r h) (List.all_eq_true.1 hTk q hq))) ?_
  · rw [lkF_hi,hr]
  · rw [lkF_lo _ _ hL0,hLB]
  · exact (lkF_hi _ _ 0).trans h0
  · simp
  · intro k x x2 hx hx2
    rcases set_get hx2 with ⟨rfl,rfl⟩ | ⟨_,hx2⟩
    · exact .inr ⟨0,len,Option.some.inj (hx.symm.trans hn),rfl⟩
    · exact .inl (Option.some.inj (hx2.symm.trans hx))
  · exact (lkF_hi _ _ 0).trans h0'
  · rw [lkF_lo _ _ hL0,lkB_eq]
  · rw [lkF_hi,hr']
  · intro k h1 h2 h3
    exact lkF_cases (fun _=>by rw [lkB_ne h2]) fun j hj=>hs j (fun e=>h3 (by rw [hj,e])) fun e=>h1 (by rw [hj,e])
  · intro k b hb
    by_cases hk':k<1000
    · rw [lkF_lo _ _ hk'] at hb
      by_cases e:k=L
      · subst e
        rw [lkB_eq] at hb
        obtain rfl:=Option.some.inj hb
        exact hbd
      · rw [lkB_ne e] at hb
        exact Body.kn_mono (fun k h=>lo_r h) (lkB_kn hBk hb)
    · obtain ⟨j,rfl⟩:∃j,k=j+1000:=⟨k - 1000,by omega⟩
      rw [lkF_hi] at hb
      exact hk j b hb
theorem Rt.focusC {C k e2 : Nat} (hL0 : Nat.blt L 1000 = true) (hC0 : Nat.blt C 1000 = true) (hLC : L ≠ C) (hn : els[k]? = some (.row (clI n k + 1000) 1 0 len)) (hr : f (clI n k) = ⟨1, some bd⟩) (hr' : (f' (clI n k)).body = none) (hs : ∀ j, j ≠ clI n k -> f' j = f j)
    (hTk:(T.all fun q=>q.2.kn lo)=true) (hBk:(B.all fun q=>bodyKn lo q.2)=true) (hLB:lkB B C=⟨0,none⟩) (hk:∀j bd,(f' j).body=some bd->bd.kn (fun i=>!Nat.beq i (clI n k+1000))=true) (hbd:bd.kn (fun i=>!Nat.beq i (clI n k+1000))=true) (hel:∀(j:Nat) (x:AV),(els.set k (.row C 1 0 len))[j]?=some x->x.kn (fun i=>!Nat.beq i (clI n k+1000))=true) :
    Rt N ⟨lkT T,lkF ((L,⟨1,some (.nest e2 els)⟩)::B) f⟩ (fun _:Unit=>⟨lkT T,lkF ((L,⟨1,some (.nest e2 (els.set k (.row C 1 0 len)))⟩)::(C,⟨1,some bd⟩)::B) f'⟩) (fun _=>True):=by
  have hL0:=ble_lo hL0
  have hC0:=ble_lo hC0
  have hnl:k<els.length:=(List.getElem?_eq_some_iff.1 hn).1
  have hp:=clI_pos n k
  refine Rt.move (i := clI n k + 1000) (j := C) (L := L) (e := 1) (ej := 0) (eL := 1) (tL := e2) (bd := bd) (els := els) (els2 := els.set k (.row C 1 0 len)) (by omega) (by omega) hLC ?_ ?_ ?_ ?_ ?_ ?_ ?_ ?_ ?_ (lkT_kn (by
      refine List.all_eq_true.2 fun q hq=>AV.kn_mono (fun i h=>lo_s h) (List.all_eq_true.1 hTk q hq))) ?_
  · rw [lkF_hi,hr]
  · rw [lkF_lo _ _ hC0,lkB_ne (Ne.symm hLC),hLB]
  · rw [lkF_lo _ _ hL0,lkB_eq]
  · simp
  · intro j x x2 hx hx2
    rcases set_get hx2 with ⟨rfl,rfl⟩ | ⟨_,hx2⟩
    · exact .inr ⟨0,len,Option.some.inj (hx.symm.trans hn),rfl⟩
    · exact .inl (Option.some.inj (hx2.symm.trans hx))
  · rw [lkF_lo _ _ hL0,lkB_eq]
  · rw [lkF_lo _ _ hC0,lkB_ne (Ne.symm hLC),lkB_eq]
  · rw [lkF_hi,hr']
  · intro i h1 h2 h3
    exact lkF_cases (fun _=>by rw [lkB_ne h3,lkB_ne h2,lkB_ne h3]) fun j hj=>hs j fun e=>h1 (by rw [hj,e])
  · intro i b hb
    by_cases hk':i<1000
    · rw [lkF_lo _ _ hk'] at hb
      by_cases e:i=L
      · subst e
        rw [lkB_eq] at hb
        obtain rfl:=Option.some.inj hb
        refine List.all_eq_true.2 fun x hx=>?_
        obtain ⟨j,hj⟩:=List.getElem?_of_mem hx
        exact hel j x hj
      · rw [lkB_ne e] at hb
        by_cases e':i=C
        · subst e'
          rw [lkB_eq] at hb
          obtain rfl:=Option.some.inj hb
          exact hbd
        · rw [lkB_ne e'] at hb
          exact Body.kn_mono (fun k h=>lo_s h) (lkB_kn hBk hb)
    · obtain ⟨j,rfl⟩:∃j,i=j+1000:=⟨i - 1000,by omega⟩
      rw [lkF_hi] at hb
      exact hk j b hb
end
inductive RnBG (l:List Nat) (σ σ':Sto):Body->Body->Prop where
 | rn {b b':Body} (h:RnB σ σ' b b'):RnBG l σ σ' b b'
 | box {t:TypeId} {cs cs':List AV} (hl:cs'.length=cs.length) (h1:∀(j:Nat) (x:AV),cs'[j]?=some x->x.one=true) (h:∀(j:Nat) (x x':AV),cs[j]?=some x->cs'[j]?=some x'->RnF l σ σ' x x'):RnBG l σ σ' (.box t cs) (.box t cs')
 | nest {t:TypeId} {cs cs':List AV} (hl:cs'.length=cs.length) (h1:∀(j:Nat) (x:AV),cs'[j]?=some x->x.one=true) (h:∀(j:Nat) (x x':AV),cs[j]?=some x->cs'[j]?=some x'->RnF l σ σ' x x'):RnBG l σ σ' (.nest t cs) (.nest t cs')
theorem RnBG.rel {W:World} {F:Nat->Prop} {μ:Mu} {l:List Nat} {σ σ':Sto} (hi:Inv W F μ σ) {bd bd':Body} (hR:RnBG l σ σ' bd bd') {p:Option (Nat × Nat)} (hB:BodyRel W F μ σ p bd):BodyRel W (fun b=>F b\/Beh μ σ l b) μ σ' p bd':=by
  have up:∀{σ:Sto} {bd:Body},BodyRel W F μ σ p bd->BodyRel W (fun b=>F b\/Beh μ σ' l b\/Beh μ σ l b) μ σ p bd->True:=fun _ _=>trivial
  cases hR with
  | rn hR =>
    have h:=hR.rel hB
    cases bd' with
    | box t cs =>
      obtain ⟨b,c,vs,h1,h2,h3,h4⟩:=h
      exact ⟨b,c,vs,h1,h2,h3,fun j x v hj hv=>⟨(h4 j x v hj hv).1,(h4 j x v hj hv).2.toF fun b hb=>.inl hb⟩⟩
    | row t m els =>
      rcases h with h | ⟨b,cap,cur,h1,h2,h3,h4,h5,h6,h7⟩
      · exact .inl h
      · exact .inr ⟨b,cap,cur,h1,h2,h3,h4,h5,h6,fun k cs j x hk hj=>by obtain ⟨q1,v,q2,q3⟩:=h7 k cs j x hk hj;exact ⟨q1,v,q2,q3.to fun b hb=>.inl hb⟩⟩
    | ghost id ep q=>exact h
    | obj o=>exact h
    | nest t els =>
      rcases h with h | ⟨b,cap,cur,h1,h2,h3,h4,h5,h6⟩
      · exact .inl h
      · exact .inr ⟨b,cap,cur,h1,h2,h3,h4,h5,fun k x hk=>by obtain ⟨q1,v,q2,q3⟩:=h6 k x hk;exact ⟨q1,v,q2,q3.toF fun b hb=>.inl hb⟩⟩
  | @box t cs cs' hl h1 hrn =>
    obtain ⟨b,c,vs,hm,hw,hlv,hv⟩:=hB
    refine ⟨b,c,vs,hm,hw,by rw [hlv,hl],fun j x' v hj hvj=>⟨h1 j x' hj,?_⟩⟩
    obtain ⟨x,hxj⟩:∃x,cs[j]?=some x:=⟨_,List.getElem?_eq_getElem (by rw [<- hl];exact (List.getElem?_eq_some_iff.1 hj).1)⟩
    exact (hrn j x x' hxj hj).rel hi (hv j x v hxj hvj).2
  | @nest t els els' hl h1 hrn =>
    rcases hB with ⟨hn,rfl⟩ | ⟨b,cap,cur,hp,hh,q1,q2,q3,q4⟩
    · exact .inl ⟨hn,List.length_eq_zero_iff.1 hl⟩
    · refine .inr ⟨b,cap,cur,hp,hh,by omega,q2,q3,fun k x' hk=>⟨h1 k x' hk,?_⟩⟩
      obtain ⟨x,hx⟩:∃x,els[k]?=some x:=⟨_,List.getElem?_eq_getElem (by rw [<- hl];exact (List.getElem?_eq_some_iff.1 hk).1)⟩
      obtain ⟨_,v,hv,hr'⟩:=q4 k x hx
      exact ⟨v,hv,(hrn k x x' hx hk).rel hi hr'⟩
theorem freeze_inv {W : World} {F : Nat -> Prop} {μ : Mu} {σ σ' : Sto} (hi : Inv W F μ σ) {l : List Nat} (hB : ∀ id bd', (σ' id).body = some bd' -> ∃ bd, (σ id).body = some bd /\ RnBG l σ σ' bd bd') (hd : ∀ i ∈ l, (σ' i).body = none) :
    Inv W (fun b=>F b\/Beh μ σ l b) μ σ'/\Stq W F μ σ W (fun b=>F b\/Beh μ σ l b) μ σ':=by
  have own:∀x,Own μ σ' x->Own μ σ x/\¬Beh μ σ l x:=fun x ⟨id,ep,bd,c,h1,h2⟩=>by
    obtain ⟨bd0,h3,_⟩:=hB id bd (by rw [h1])
    refine ⟨⟨id,(σ id).ep,bd0,c,by rw [<- h3],h2⟩,fun ⟨id',g1,ep',bd',c',g2,g3⟩=>?_⟩
    have:=hi.inj id id' x c c' (by rw [h3];rfl) (by rw [g2];rfl) h2 g3
    subst this
    have:=hd _ g1
    rw [h1] at this
    cases this
  refine ⟨⟨fun id ep bd hb=>?_,fun x hx=>⟨(hi.apart x (own x hx).1).1,fun hF=>hF.elim (hi.apart x (own x hx).1).2 (own x hx).2⟩,fun id id' x c c' h1 h2=>?_,fun x hx=>hx.elim (hi.old x) fun ⟨id,_,ep,bd,c,h1,h2⟩=>(hi.apart x ⟨id,ep,bd,c,h1,h2⟩).1⟩,
    Kp.refl _ _,fun _ h=>.inl h,fun x hx=>hx.imp (fun h=>h) fun ⟨id,_,ep,bd,c,h1,h2⟩=>.inl ⟨id,ep,bd,c,h1,h2⟩,fun x hx=>.inl (own x hx).1⟩
  · obtain ⟨bd0,h3,hR⟩:=hB id bd (by rw [hb])
    exact hR.rel hi (hi.body id (σ id).ep bd0 (by rw [<- h3]))
  · have g : ∀ id, (σ' id).body.isSome = true -> (σ id).body.isSome = true := fun id hb => by
      obtain ⟨bd',e⟩:=Option.isSome_iff_exists.1 hb
      obtain ⟨bd,e',_⟩:=hB id bd' e
      rw [e'];rfl
    exact hi.inj id id' x c c' (g id h1) (g id' h2)
theorem Rt.freeze {N:Nat} {s s':St} (l:List Nat) (ht:∀t,RnF l s.σ s'.σ (s.ts t) (s'.ts t)) (hB:∀id bd',(s'.σ id).body=some bd'->∃bd,(s.σ id).body=some bd/\RnBG l s.σ s'.σ bd bd') (hd:∀i∈l,(s'.σ i).body=none):Rt N s (fun _:Unit=>s') (fun _=>True):=by
 intro W F μ a hr
 obtain ⟨h1,h2⟩:=freeze_inv hr.inv hB hd
 exact ⟨_,μ,(),trivial,⟨fun t=>(ht t).rel hr.inv (hr.ts t),hr.defers,hr.n,h1⟩,h2⟩
theorem grid_ids {f : Nat -> SB} {r : AV} (M : Nat) (hM : ∀ k, (f k).body.isSome = true -> k < M) (hpos : ∀ k, (f k).body.isSome = true -> 0 < (f k).ep) (hno : ∀ k, (f k).body = none -> f k = ⟨0, none⟩) (hself : ∀ σ2 : Sto, (∀ k, (f k).body.isSome = true -> σ2 (k + 1000) = f k) -> Rn (lkF [] f) σ2 r r /\ ∀ k bd, (f k).body = some bd -> RnB (lkF [] f) σ2 bd bd) :
    ∃ids,GIds (lkF [] f) r ids:=by
  have hm:∀id,id∈(List.range (M+1000)).filter (fun id=>(lkF [] f id).body.isSome)↔(lkF [] f id).body.isSome=true:=fun id=>by
    rw [List.mem_filter,List.mem_range]
    refine ⟨fun h=>h.2,fun h=>⟨?_,h⟩⟩
    by_cases hid:id<1000
    · omega
    · obtain ⟨k,rfl⟩:∃k,id=k+1000:=⟨id - 1000,by omega⟩
      rw [lkF_hi] at h
      have:=hM k h
      omega
  have hhi:∀id,(lkF [] f id).body.isSome=true->∃k,id=k+1000/\(f k).body.isSome=true:=fun id h=>by
    by_cases hid:id<1000
    · rw [lkF_lo _ _ hid] at h;cases h
    · obtain ⟨k,rfl⟩:∃k,id=k+1000:=⟨id - 1000,by omega⟩
      rw [lkF_hi] at h
      exact ⟨k,rfl,h⟩
  refine ⟨_,hm,fun id h=>?_,fun id h=>?_,fun id h=>?_,fun σ2 h=>?_⟩
  · obtain ⟨k,rfl,_⟩:=hhi id ((hm id).1 h)
    omega
  · obtain ⟨k,rfl,h1⟩:=hhi id ((hm id).1 h)
    rw [lkF_hi];exact hpos k h1
  · have h1 : (lkF [] f id).body = none := by
      cases hq:(lkF [] f id).body with
      | none=>rfl
      | some bd=>exact absurd ((hm id).2 (by rw [hq];rfl)) h
    by_cases hid:id<1000
    · rw [lkF_lo _ _ hid];rfl
    · obtain ⟨k,rfl⟩:∃k,id=k+1000:=⟨id - 1000,by omega⟩
      rw [lkF_hi] at h1 ⊢
      exact hno k h1
  · obtain ⟨h1,h2⟩:=hself σ2 fun k hk=>by rw [h (k+1000) ((hm _).2 (by rw [lkF_hi];exact hk)),lkF_hi]
    refine ⟨h1,fun id bd hb=>?_⟩
    obtain ⟨k,rfl,_⟩:=hhi id (by rw [hb];rfl)
    rw [lkF_hi] at hb
    exact h2 k bd hb
theorem FzL.mk {σ:Sto} {ys:List AV}:∀{xs:List AV},ys.length=xs.length->(∀(j:Nat) (x y:AV),xs[j]?=some x->ys[j]?=some y->∃l,Fz σ x y l/\∀i∈l,1000<=i)->∃l,FzL σ xs ys l/\∀i∈l,1000<=i:=by
 induction ys with
 | nil =>
  intro xs hl _
  obtain rfl:xs=[]:=List.length_eq_zero_iff.1 hl.symm
  exact ⟨[],.nil,fun i h=>by cases h⟩
 | cons y ys ih =>
  intro xs hl h
  cases xs with
  | nil=>cases hl
  | cons x xs =>
   obtain ⟨l1,g1,g2⟩:=h 0 x y rfl rfl
   obtain ⟨l2,g3,g4⟩:=ih (xs:=xs) (by simpa using hl) fun j a b ha hb=>h (j+1) a b (by simpa using ha) (by simpa using hb)
   refine ⟨l1++l2,.cons g1 g3,fun i hi=>?_⟩
   rcases List.mem_append.1 hi with h | h
   ·exact g2 i h
   ·exact g4 i h
end Go.Proofs.YtoaibdbehlcnfaaGreat.Sm
end
section
namespace Go.Proofs.YtoaibdbehlcnfaaGreat.Sm
open Go.RowKit
inductive WkB1G (l:List Nat) (s:St) (σ':Sto) (id:Nat):SB->Prop where
 | old {sb:SB} (h:WkB1F l s σ' id sb):WkB1G l s σ' id sb
 | nest {t:TypeId} {cs cs':List AV} {ep ep':Nat} (h:s.σ id=⟨ep,some (.nest t cs)⟩) (hl:cs'.length=cs.length) (h1:∀(j:Nat) (x:AV),cs'[j]?=some x->x.one=true) (hc:∀(j:Nat) (x x':AV),cs[j]?=some x->cs'[j]?=some x'->RnF l s.σ σ' x x'):WkB1G l s σ' id ⟨ep',some (.nest t cs')⟩
def WkBG (l:List Nat) (s:St) (σ':Sto):List (Nat × SB)->Prop
 | []=>True
 | p::b=>WkB1G l s σ' p.1 p.2/\WkBG l s σ' b
theorem RnBF.toG {l:List Nat} {σ σ':Sto} {b b':Body} (h:RnBF l σ σ' b b'):RnBG l σ σ' b b':=by
 cases h with
 | rn h=>exact .rn h
 | box hl h1 h=>exact .box hl h1 h
theorem wkBG_ok {l:List Nat} {s:St} {σ':Sto}:∀{b:List (Nat × SB)},WkBG l s σ' b->∀id bd',(lkB b id).body=some bd'->∃bd,(s.σ id).body=some bd/\RnBG l s.σ σ' bd bd'
 | [],_,id,bd',h=>by cases h
 | p::b,h,id,bd',hb=>by
  replace hb:(cond (Nat.beq id p.1) p.2 (lkB b id)).body=some bd':=hb
  cases hq:Nat.beq id p.1
  ·rw [hq] at hb
   exact wkBG_ok h.2 id bd' hb
  ·rw [hq] at hb
   replace hb:p.2.body=some bd':=hb
   rw [Nat.eq_of_beq_eq_true hq]
   have h1:=h.1
   obtain ⟨pid,psb⟩:=p
   cases h1 with
   | old h =>
    have:(lkB [(pid,psb)] pid).body=some bd':=by
     show (cond (Nat.beq pid pid) psb _).body=_
     rw [beq_t,cond_true];exact hb
    obtain ⟨bd,e1,e2⟩:=wkBF_ok (s:=s) (σ':=σ') (b:=[(pid,psb)]) ⟨h,trivial⟩ pid bd' this
    exact ⟨bd,e1,e2.toG⟩
   | nest h hl h1 hc =>
    obtain rfl:=Option.some.inj hb
    exact ⟨_,by rw [h],.nest hl h1 hc⟩
theorem Rt.freezeF {N : Nat} {s : St} {T : List (Nat × AV)} {b : List (Nat × SB)} {f : Nat -> SB} (l : List Nat) (ht : WkTF l s (lkF b f) T) (hB : WkBG l s (lkF b f) b) (hf : ∀ k bd', (f k).body = some bd' -> ∃ bd, (s.σ (k + 1000)).body = some bd /\ RnBG l s.σ (lkF b f) bd bd') (hd : ∀ i ∈ l, (lkF b f i).body = none) :
    Rt N s (fun _:Unit=>⟨lkT T,lkF b f⟩) (fun _=>True):=by
  refine Rt.freeze l (wkTF_ok ht) (fun id bd' h=>?_) hd
  by_cases hid:id<1000
  · rw [show (⟨lkT T,lkF b f⟩:St).σ id=lkB b id from lkF_lo _ _ hid] at h
    exact wkBG_ok hB id bd' h
  · obtain ⟨k,rfl⟩:∃k,id=k+1000:=⟨id - 1000,by omega⟩
    rw [show (⟨lkT T,lkF b f⟩:St).σ (k+1000)=f k from lkF_hi b f k] at h
    exact hf k bd' h
section
variable (e1 e2 : Nat)
end
section
variable {e1 e2 : Nat} {X : List (List AV)}
def mix {α β:Type} (f g:α->β) (T:List α) (n:Nat):List β:=(T.take n).map f++(T.drop n).map g
end
end Go.Proofs.YtoaibdbehlcnfaaGreat.Sm
end
