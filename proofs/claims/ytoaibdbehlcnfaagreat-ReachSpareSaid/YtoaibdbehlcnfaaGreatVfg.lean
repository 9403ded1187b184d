/- Contracts of the program's functions over data, and the plain laws that they meet (part 7). No condition. -/
import Derived.Test.YtoaibdbehlcnfaaGreatVff
import Derived.WalkKit
import Derived.WalkSpells
import Derived.WalkLawsBesides
import Derived.Lib.Hide
import Derived.Deep.RegionHeld3
import Derived.Maps.AppendAt
import Derived.KernelRfl
import Derived.Lib.AppendStr
import Derived.Orders
import Derived.LoopTactic
import Derived.Laws.CopyRow
import Derived.Laws.Cells
import Derived.OrdersIn
import Derived.Laws.Externs
import Derived.TacticsIn
import Derived.RangeFuncLeaves
import Derived.RangeFuncRecord
import Derived.Great.BuildSlice
import Derived.Laws.ResultCell
import Derived.Laws.StructEq
import Derived.Laws.MakeOwn
import Derived.Deep.Slices
import Derived.Deep.Fields
import Derived.ChangeSame
import Derived.ProofKit
import Derived.OpenShut
import Derived.SizedLaws
import Derived.Test.YtoaibdbehlcnfaaGreatProg
import Derived.Shelf.Spec.BitsCarry
import Derived.Lib.AppendZerosOnto
import Derived.DeepKeys4
import Derived.MapKept
import Derived.Sort.AssemblyPlain
import Derived.Sort.LotD4
import Derived.Sort.Walk13a
import Derived.RangeFuncSeq
import Derived.RangeFuncIn
import Derived.Shelf.Sort.Plain
import Derived.Sort.OwnSortedInts
import Derived.Sort.LotA
set_option linter.unusedVariables false
set_option linter.unusedSimpArgs false
set_option maxRecDepth 100000
set_option maxHeartbeats 4000000
section
namespace Go.Proofs.YtoaibdbehlcnfaaGreat.Sm
open Go.RowKit
section
variable {P : Program} {N : Nat} {o : Oper} {s : St}
theorem op_ixO {t e k id ep off n ty m:Nat} {z:Int} {ti ei:TI} {x i:Operand} {kd:IntKind} {els:List (List AV)} (ho:o.op = .indexAddr t x i) (ht:TiOk P t ti) (hk:ti.k = .slice e) (he:TiOk P e ei) (hx:s.ev x = .row id ep off n) (hid:s.σ id=⟨ep,some (.row ty m els)⟩) (hi:s.ev i = .i kd z) (hz:z=(k:Int)) (hlt:k<n)
  (hn:m=ei.n):OpLoc P N o s ⟨.el id ep (off+k) 0,[],[id]⟩:=op_indexR ho ht hk he hx hid (hz ▸ hi) hlt hn
end
def cmpct:List Int->List Int
 | []=>[]
 | [x]=>[x]
 | x::y::l=>if x=y then cmpct (y::l) else x::cmpct (y::l)
theorem cmpct_step {L:List Int} {j:Nat} (h:j+1<L.length):cmpct (L.drop j)=if L[j]=L[j+1] then cmpct (L.drop (j+1)) else L[j]::cmpct (L.drop (j+1)):=by
 rw [List.drop_eq_getElem_cons (show j<L.length by omega),List.drop_eq_getElem_cons h,cmpct]
theorem cmpct_last {L:List Int} {j:Nat} (h:j+1=L.length):cmpct (L.drop j)=[L[j]]:=by
 rw [List.drop_eq_getElem_cons (show j<L.length by omega),List.drop_eq_nil_of_le (by omega),cmpct]
theorem cmpct_len:∀(L:List Int),(cmpct L).length<=L.length
 | []=>Nat.le_refl _
 | [x]=>Nat.le_refl _
 | x::y::l=>by
  have:=cmpct_len (y::l)
  rw [cmpct]
  split
  ·rw [List.length_cons];omega
  ·rw [List.length_cons,List.length_cons];omega
def ciB (L:List Int):List (Nat × SB):=[(201,⟨0,some (.row 3 1 (L.map cI))⟩)]
theorem ci_end {L:List Int} {s:St} {q:Nat->Option (Nat × Nat)} {e1 g1:Nat} {els:List (List AV)} (h1:s.σ 201=⟨e1,some (.row 3 1 els)⟩)
  (hg1:s.σ 1101=⟨g1,some (.ghost 201 e1 (q 201))⟩) (hel:els=L.map cI):WkB s (lkB (gl q [201] (ciB L))) (gl q [201] (ciB L)):=by
 subst hel
 exact ⟨.ghost hg1 h1 rfl,.row h1 rfl,trivial⟩
def zerosI (n:Nat):List Int:=List.replicate n 0
def cmpZ (L:List Int):List Int:=cmpct L++zerosI (L.length - (cmpct L).length)
theorem o_Compact (d:Array Int) (n:Nat) (hn:d.size=n) (hl:n<=1000000000) (q:Nat->Option (Nat × Nat)):MDoes Tryz.prog 121 [.row 201 0 0 n] (gl q [201] (ciB d.toList)) (.row 201 0 0 (cmpct d.toList).length) (gl q [201] (ciB (cmpZ d.toList))):=by
 refine MDoes.of_body Tryz.func121 rfl (by kernel_rfl) rfl rfl ?_
 have hL:d.toList.length=n:=by rw [Array.length_toList];exact hn
 refine jA ?_
 refine AW.cond rfl (fun h=>?_) (fun h=>?_)
 ·have h:n<2:=by
   have:=of_decide_eq_true h
   simp only [Int.ofNat_eq_natCast] at this
   omega
  have hc:cmpct d.toList=d.toList:=by
   match hd:d.toList,hL with
   | [],_=>rfl
   | [x],_=>rfl
   | x::y::l,hL=>simp at hL;omega
  rw [cmpZ,hc,Nat.sub_self,zerosI,List.replicate_zero,List.append_nil,hL]
  refine jA ?_
  exact AW.ret (retM1 rfl (Rm.rowIs rfl rfl rfl rfl) (ci_end rfl rfl rfl))
 have h2:2<=n:=by
  have:=of_decide_eq_false h
  simp only [Int.ofNat_eq_natCast] at this
  omega
 clear h
 refine jA ?_
 refine AW.loopL (ι:=Nat) (fun k=>[(0,.row 201 0 0 n),(3,.i .i64 (k:Nat))]) (fun _=>gl q [201] (ciB d.toList)) (fun k=>1<=k/\k<=n/\cmpct d.toList=d.toList.take (k - 1)++cmpct (d.toList.drop (k - 1))) (fun k=>n - k) 1 ⟨Nat.le_refl _,by omega,by simp⟩ ⟨Rn.rowIs rfl rfl rfl,Rn.is rfl rfl,trivial⟩ (ci_end rfl rfl rfl) fun k hk=>?_
 obtain ⟨hk1,hk2,hf⟩:=hk
 refine jA ?_
 refine AW.cond rfl (fun h=>?_) (fun h=>?_)
 rotate_left
 ·have h:¬k<n:=by
   have:=of_decide_eq_false h
   omega
  obtain rfl:k=n:=by omega
  have hdr:d.toList.drop (k - 1)=[d.toList[k - 1]]:=by rw [List.drop_eq_getElem_cons (show k - 1<d.toList.length by omega),List.drop_eq_nil_of_le (by omega)]
  have hc:cmpct d.toList=d.toList:=by
   rw [hf,cmpct_last (by omega),<- hdr,List.take_append_drop]
  have e1:(cmpct d.toList).length=k:=by rw [hc,hL]
  have e2:cmpZ d.toList=d.toList:=by rw [cmpZ,hc,Nat.sub_self,zerosI,List.replicate_zero,List.append_nil]
  refine jA ?_
  refine jE ?_;refine jA ?_
  rw [e1,e2]
  exact AW.ret (retM1 rfl (Rm.rowIs rfl rfl rfl rfl) (ci_end rfl rfl rfl))
 have h:k<n:=by
  have:=of_decide_eq_true h
  omega
 obtain ⟨k,rfl⟩:∃k',k=k'+1:=⟨k - 1,by omega⟩
 simp only [Nat.add_sub_cancel] at hf
 have w1:IntKind.i64.wrap (((k+1:Nat):Int) - Int.ofNat 1)=((k:Nat):Int):=by simp only [IntKind.wrap_i64,Int.ofNat_eq_natCast];omega
 refine jB ?_
 refine AW.draws mixed_ok ?_
 refine wH rfl ?_;refine RG.opS rfl (op_ixW (k+1) cI ((d).toList) (by omega) rfl (tk rfl) rfl (tk rfl) rfl rfl rfl jX) rfl ?_;refine RG.opS rfl (op_ldW (k+1) cI (d) (by omega) rfl (tk rfl) rfl rfl rfl) rfl ?_
 refine wH rfl ?_;refine RG.opS rfl (op_ixW (k) cI ((d).toList) (by omega) rfl (tk rfl) rfl (tk rfl) rfl rfl rfl jX) rfl ?_;refine RG.opS rfl (op_ldW (k) cI (d) (by omega) rfl (tk rfl) rfl rfl rfl) rfl ?_
 refine wH rfl ?_
 refine jB ?_
 have g1:d.toList[k+1]'(by omega)=d[k+1]!:=by rw [getElem!_pos d (k+1) (by omega)];simp
 have g0:d.toList[k]'(by omega)=d[k]!:=by rw [getElem!_pos d k (by omega)];simp
 have hstep:=cmpct_step (L:=d.toList) (j:=k) (by omega)
 refine AW.cond rfl (fun h3=>?_) (fun h3=>?_)
 rotate_left
 ·have h3:¬d[k+1]! = d[k]!:=by
   have:=of_decide_eq_false h3
   simpa using this
  rw [if_neg (by rw [g0,g1];exact fun e=>h3 e.symm)] at hstep
  refine jA ?_
  refine ⟨k+1+1,⟨⟨by omega,by omega,?_⟩,by omega⟩,⟨Rn.rowIs rfl rfl rfl,Rn.is (i64_next h (by omega)) rfl,trivial⟩,ci_end rfl rfl rfl⟩
  rw [hf,hstep,Nat.add_sub_cancel,List.take_add_one,List.getElem?_eq_getElem (by omega)]
  simp
 have h3:d[k+1]! = d[k]!:=by
  have:=of_decide_eq_true h3
  simpa using this
 rw [if_pos (by rw [g0,g1];exact h3.symm)] at hstep
 rw [hstep] at hf
 refine jB ?_
 refine AW.text ?_
 refine wH rfl ?_
 refine RG.opS rfl (op_sliceE (l:=k+1) rfl (tk rfl) rfl (tk rfl) rfl rfl (.at_ rfl) h) rfl ?_
 refine wH rfl ?_;refine jA ?_
 refine AW.loopL (ι:=Nat × Nat × Array Int) (fun x=>[(0,.row 201 0 0 n),(3,.i .i64 (x.1:Nat)),(4,.row 201 0 (k+1) (n - (k+1))),(5,.i .i64 (x.2.1:Nat))]) (fun x=>gl q [201] (ciB x.2.2.toList)) (fun x=>(x.2.2.size=n/\1<=x.1/\1<=x.2.1/\x.1<=k+x.2.1/\k+1+x.2.1<=n)/\x.2.2.toList.drop (k+x.2.1)=d.toList.drop (k+x.2.1)/\x.2.2[x.1 - 1]! = d[k+x.2.1]!/\cmpct d.toList=x.2.2.toList.take (x.1 - 1)++cmpct (d.toList.drop (k+x.2.1))) (fun x=>n - x.2.1) (k+1,1,d) ⟨⟨hn,by show 1<=k+1;omega,Nat.le_refl _,Nat.le_refl _,by show k+1+1<=n;omega⟩,rfl,by rw [Nat.add_sub_cancel];exact h3.symm,by rw [Nat.add_sub_cancel];exact hf⟩ ⟨Rn.rowIs rfl rfl rfl,Rn.is rfl rfl,Rn.rowIs rfl rfl rfl,Rn.is rfl rfl,trivial⟩ (ci_end rfl rfl rfl) fun x hx=>?_
 clear hf hstep
 obtain ⟨k',i2,m⟩:=x
 obtain ⟨⟨hm,hk',hi2,hki,hin⟩,hdr,hlast,hf⟩:=hx
 simp only at hm hk' hi2 hki hin hdr hlast hf
 have hmL:m.toList.length=n:=by rw [Array.length_toList];exact hm
 refine jA ?_
 refine AW.cond rfl (fun h4=>?_) (fun h4=>?_)
 rotate_left
 ·have h4:¬i2<n - (k+1):=by
   have:=of_decide_eq_false h4
   simp only at this
   omega
  have hj:k+i2+1=n:=by omega
  obtain ⟨p,rfl⟩:∃p,k'=p+1:=⟨k' - 1,by omega⟩
  simp only [Nat.add_sub_cancel] at hlast hf
  have hpm:m.toList[p]'(by omega)=m[p]!:=by rw [getElem!_pos m p (by omega)];simp
  have hdj:d.toList[k+i2]'(by omega)=d[k+i2]!:=by rw [getElem!_pos d (k+i2) (by omega)];simp
  have hc:cmpct d.toList=m.toList.take (p+1):=by
   rw [hf,cmpct_last (by omega),hdj,<- hlast,<- hpm,List.take_add_one,List.getElem?_eq_getElem (by omega)]
   rfl
  have e1:(cmpct d.toList).length=p+1:=by rw [hc,List.length_take,hmL];omega
  have e2:cmpZ d.toList=m.toList.take (p+1)++List.replicate (n - (p+1)) 0:=by rw [cmpZ,e1,hc,hL,zerosI]
  refine jB ?_
  refine jE ?_;refine jB ?_
  refine AW.text ?_
  refine wH rfl ?_
  refine RG.opS rfl (op_sliceE (l:=p+1) rfl (tk rfl) rfl (tk rfl) rfl rfl (.at_ rfl) (by omega)) rfl ?_
  refine RG.opS rfl (op_clearI rfl rfl rfl rfl (tk rfl) rfl (fun W=>by kernel_rfl) rfl rfl (by omega) (by rw [List.length_map,hmL];omega)) rfl ?_
  refine jB ?_
  refine AW.text ?_
  refine wH rfl ?_
  refine RG.opS rfl (op_sliceR (h:=p+1) rfl (tk rfl) rfl (tk rfl) rfl rfl .no (.at_ rfl) (by omega)) rfl ?_
  refine wH rfl ?_;refine jA ?_
  rw [e1,e2,show ciB (m.toList.take (p+1)++List.replicate (n - (p+1)) 0)=[(201,⟨0,some (.row 3 1 ((m.toList.map cI).take (p+1)++List.replicate (n - (p+1)) [.i .i64 0]))⟩)] from by rw [ciB,List.map_append,List.map_take,List.map_replicate];rfl]
  exact AW.ret (retM1 rfl (Rm.rowIs rfl rfl rfl rfl) ⟨.ghost rfl rfl rfl,.row rfl rfl,trivial⟩)
 have h4:i2<n - (k+1):=by
  have:=of_decide_eq_true h4
  simp only at this
  omega
 have w2:IntKind.i64.wrap (((i2:Nat):Int) - Int.ofNat 1)=((i2 - 1:Nat):Int):=by simp only [IntKind.wrap_i64,Int.ofNat_eq_natCast];omega
 have hj1:k+1+i2<m.size:=by omega
 have hj0:k+1+(i2 - 1)<m.size:=by omega
 have a1:m[k+1+i2]! = d[k+1+i2]!:=by
  rw [getElem!_pos m _ hj1,getElem!_pos d _ (by omega)]
  have e:=congrArg (fun l=>l[1]?) hdr
  simp only [List.getElem?_drop,Array.getElem?_toList] at e
  rw [show k+i2+1=k+1+i2 by omega,Array.getElem?_eq_getElem hj1,Array.getElem?_eq_getElem (by omega)] at e
  exact Option.some.inj e
 have a0:m[k+1+(i2 - 1)]! = d[k+i2]!:=by
  rw [show k+1+(i2 - 1)=k+i2 by omega,getElem!_pos m (k+i2) (by omega),getElem!_pos d (k+i2) (by omega)]
  have e:=congrArg (fun l=>l[0]?) hdr
  simp only [List.getElem?_drop,Array.getElem?_toList,Nat.add_zero] at e
  rw [Array.getElem?_eq_getElem (by omega),Array.getElem?_eq_getElem (by omega)] at e
  exact Option.some.inj e
 have d1:d.toList[k+i2+1]'(by omega)=d[k+1+i2]!:=by rw [getElem!_pos d (k+1+i2) (by omega)];simp [show k+i2+1=k+1+i2 by omega]
 have d0:d.toList[k+i2]'(by omega)=d[k+i2]!:=by rw [getElem!_pos d (k+i2) (by omega)];simp
 have hstep:=cmpct_step (L:=d.toList) (j:=k+i2) (by omega)
 have hdr2:m.toList.drop (k+(i2+1))=d.toList.drop (k+(i2+1)):=by
  have e:=congrArg (List.drop 1) hdr
  rw [List.drop_drop,List.drop_drop] at e
  exact e
 refine jB ?_
 refine AW.draws mixed_ok ?_
 refine wH rfl ?_
 refine RG.opS rfl (op_ixO (k:=i2) rfl (tk rfl) rfl (tk rfl) rfl rfl rfl rfl h4 rfl) rfl ?_
 refine RG.opS rfl (op_ldW (k+1+i2) cI m hj1 rfl (tk rfl) rfl rfl rfl) rfl ?_
 refine wH rfl ?_
 refine RG.opS rfl (op_ixO (k:=i2 - 1) rfl (tk rfl) rfl (tk rfl) rfl rfl rfl w2 (by omega) rfl) rfl ?_
 refine RG.opS rfl (op_ldW (k+1+(i2 - 1)) cI m hj0 rfl (tk rfl) rfl rfl rfl) rfl ?_
 refine wH rfl ?_
 refine jB ?_
 refine AW.cond rfl (fun h5=>?_) (fun h5=>?_)
 ·have h5:¬d[k+1+i2]! = d[k+i2]!:=by
   rw [a1,a0] at h5
   simpa using h5
  rw [if_neg (by rw [d0,d1];exact fun e=>h5 e.symm)] at hstep
  refine jB ?_
  refine AW.text ?_
  refine wH rfl ?_
  refine RG.opS rfl (op_ixO (k:=i2) rfl (tk rfl) rfl (tk rfl) rfl rfl rfl rfl h4 rfl) rfl ?_
  refine RG.opS rfl (op_ldW (k+1+i2) cI m hj1 rfl (tk rfl) rfl rfl rfl) rfl ?_
  refine wH rfl ?_
  refine RG.opS rfl (op_ixW (k') cI (m.toList) (by omega) rfl (tk rfl) rfl (tk rfl) rfl rfl rfl jX) rfl ?_
  refine RG.opS rfl (op_stW (k') cI (m.toList) (m[k+1+i2]!) (by simp only [List.length_set,Array.length_toList];omega) rfl (tk rfl) rfl rfl rfl rfl rfl (fun _=>rfl)) rfl ?_
  refine jA ?_
  obtain ⟨p,rfl⟩:∃p,k'=p+1:=⟨k' - 1,by omega⟩
  simp only [Nat.add_sub_cancel] at hlast hf
  have hset:(m.set! (p+1) m[k+1+i2]!).toList=m.toList.set (p+1) m[k+1+i2]!:=by simp
  have hpm:m.toList[p]'(by omega)=m[p]!:=by rw [getElem!_pos m p (by omega)];simp
  refine ⟨(p+1+1,i2+1,m.set! (p+1) m[k+1+i2]!),⟨⟨⟨by simp [hm],by show 1<=p+1+1;omega,by show 1<=i2+1;omega,by show p+1+1<=k+(i2+1);omega,by show k+1+(i2+1)<=n;omega⟩,?_,?_,?_⟩,by show n - (i2+1)<n - i2;omega⟩,⟨Rn.rowTIs rfl rfl rfl (by simp [hm]),Rn.is (i64_next (show p+1<n by omega) (by omega)) rfl,Rn.rowTIs rfl rfl rfl (by simp [hm];omega),Rn.is (i64_next (show i2<n by omega) (by omega)) rfl,trivial⟩,ci_end rfl rfl (by rw [hset])⟩
  ·show (m.set! (p+1) m[k+1+i2]!).toList.drop (k+(i2+1))=d.toList.drop (k+(i2+1))
   rw [hset,List.drop_set_of_lt (by omega)]
   exact hdr2
  ·simp only [Nat.add_sub_cancel]
   rw [a1,show k+(i2+1)=k+1+i2 by omega]
   simp [show p+1<m.size by omega]
  ·simp only [Nat.add_sub_cancel]
   rw [hf,hstep,hset,List.take_set_of_le (by omega),List.take_add_one,List.getElem?_eq_getElem (by omega),hpm,hlast,<- d0,List.append_assoc]
   rfl
 ·have h5:d[k+1+i2]! = d[k+i2]!:=by
   rw [a1,a0] at h5
   simpa using h5
  rw [if_pos (by rw [d0,d1];exact h5.symm)] at hstep
  refine jA ?_
  refine ⟨(k',i2+1,m),⟨⟨⟨hm,hk',by show 1<=i2+1;omega,by show k'<=k+(i2+1);omega,by show k+1+(i2+1)<=n;omega⟩,hdr2,?_,?_⟩,by show n - (i2+1)<n - i2;omega⟩,⟨Rn.rowIs rfl rfl rfl,Rn.is rfl rfl,Rn.rowIs rfl rfl rfl,Rn.is (i64_next (show i2<n by omega) (by omega)) rfl,trivial⟩,ci_end rfl rfl rfl⟩
  ·show m[k' - 1]! = d[k+(i2+1)]!
   rw [hlast,<- h5,show k+(i2+1)=k+1+i2 by omega]
  ·show _=m.toList.take (k' - 1)++cmpct (d.toList.drop (k+(i2+1)))
   rw [hf,hstep]
   rfl
end Go.Proofs.YtoaibdbehlcnfaaGreat.Sm
end
section
namespace Go.Proofs.YtoaibdbehlcnfaaGreat.Sm
open Go.RowKit
section
variable {P : Program} {N : Nat} {o : Oper} {s : St}
theorem op_clipR {t e id ep n ty m:Nat} {ti ei:TI} {x y z:Operand} {els:List (List AV)} {k1 k2:IntKind} (ho:o.op = .slice t x none (some y) (some z)) (ht:TiOk P t ti) (hk:ti.k = .slice e) (he:TiOk P e ei) (hx:s.ev x = .row id ep 0 n) (hid:s.σ id=⟨ep,some (.row ty m els)⟩) (h0:0<n) (hy:s.ev y = .i k1 (n:Nat)) (hz:s.ev z = .i k2 (n:Nat)) :
  OpLoc P N o s ⟨.ref id ep (.sl 0 n n),[],[id]⟩:=by
 refine oploc_val [id] _ fun s' W F μ a g1 g2 hs=>?_
 have hid':=(g2 id (by simp)).trans hid
 have ex:=hs.ev x
 rw [g1 x (by rw [ho];simp [Op.operands]),hx] at ex
 have ey:=hs.ev y
 rw [g1 y (by rw [ho];simp [Op.operands]),hy] at ey
 have ez:=hs.ev z
 rw [g1 z (by rw [ho];simp [Op.operands]),hz] at ez
 obtain ⟨q1,q⟩:=row_form hs.inv ex hid'
 rcases q with ⟨e1,e2,e3⟩ | ⟨b,cap,hm,hv,q2,q3⟩
 ·subst e2
  simp at q1
  omega
 have hb:(Instr.sliceBounds true n (cap - 0) none (some (.int k1 (n:Nat))) (some (.int k2 (n:Nat)))).run P W = .ok (0,n,n) W:=by
  have e1:(0:Int)<=(n:Int)/\(n:Int)<=((cap - 0:Nat):Int):=by omega
  have e2:(0:Int)<=(n:Int)/\(n:Int)<=(n:Int):=by omega
  simp only [Instr.sliceBounds,Instr.sliceBound,asIntOf,Sem.run_bind,Sem.run_pure,Result.andThen_ok,if_pos e1,if_pos e2,Int.toNat_natCast]
 simp only [Nat.sub_zero] at hv hb
 refine ⟨.slice (some ⟨b,0,none⟩) n n,?_,.ref id ep (.sl 0 n n) _ (by rw [hid'];exact Nat.le_refl _) rfl fun bd' _=>⟨b,cap,hm,rfl⟩⟩
 simp only [execOp,ho,Instr.sliceAt,Instr.slice,hv,ey.i',ez.i',Option.map_none,Option.map_some,Sem.run_bind,Sem.run_pure,Result.andThen_ok,run_underlying (ht.slice hk),hb,he.size,Nat.sub_zero]
 have hn:¬n=0:=by omega
 simp [hn,Addr.add]
theorem append_runC {t ty e : Nat} {ti ei : TI} (ht : TiOk P t ti) (hk : ti.k = .slice e) (he : TiOk P e ei) (h0 : 0 < ei.n) {W : World} {F : Nat -> Prop} {y : Value} {g cap : Nat} {els els2 : List (List AV)} {cells : List Value} (hown : W.ownsRow 0 e ei.n (.slice (some ⟨g, 0, none⟩) els.length cap) els.length cells) (hc : RowC W F ei.n els cells) (hy : Src W F ei.n els2 y) (hpos : 0 < els2.length)
    (hb:(els.length+els2.length)*ei.sz<=140737488355328) (h63:els.length+els2.length<=9223372036854775807) :
    ∃v' W' cells',(Builtin.append_ #[t,t] ty #[.slice (some ⟨g,0,none⟩) els.length els.length,y]).run P W = .ok v' W'/\W'.ownsRow 0 e ei.n v' (els++els2).length cells'/\(∃news,cells'=cells++news/\RowC W F ei.n els2 news)/\W.grownBy W' none/\v'.ownBlock=some W.heap.size:=by
  obtain ⟨A,c,news,rfl,hn,hA⟩:=hy
  obtain ⟨inf,d,z,q1,q2,q3,q4,q5,q6,q7⟩:=he.h
  have hzl:z.cells.size=ei.n:=by rw [<- he.zl,<- Array.length_toList];exact (zsOk_rel (W:=W) (F:=F) q7).1
  rcases hA with ⟨ad,rfl,hcell⟩ | hnil
  rotate_left
  · rw [hnil] at hpos;simp at hpos
  have holds:=hown.cells (g:=g) rfl
  have hcl:cells.length=els.length*inf.size:=by rw [hown.1,q3]
  have hnl:news.length=els2.length*inf.size:=by rw [hn.n,q3]
  have hr:=run_append_grow (P:=P) W t ty e inf z (ht.slice hk) q1 q6 ⟨g,0,none⟩ els.length els.length cells hcl holds ad els2.length c news hnl hcell (by omega) (by omega) (by
    have:=Nat.mul_le_mul_right inf.bytes (show Builtin.nextslicecap (els.length+els2.length) els.length<=2*(els.length+els2.length) from nextslicecap_le (by omega))
    rw [q4] at this ⊢
    rw [Nat.mul_assoc] at this
    omega)
  have hge:=grownCap_ge W (els.length+els2.length) els.length e
  have hcm:grownCap W (els.length+els2.length) els.length e<=maxLen:=grownCap_le_maxLen W _ _ e (by unfold maxLen;omega)
  have hlen:(cells++news).length=(els.length+els2.length)*ei.n:=by rw [List.length_append,hcl,hnl,q3,Nat.add_mul]
  refine ⟨_,_,cells++news,hr,⟨by rw [hlen,List.length_append],.inr ⟨W.heap.size,_,_,by rw [List.length_append],Nat.zero_le _,heap_alloc_new W.drew _,by rw [List.length_append];exact hge,hcm,?_,?_⟩⟩,⟨news,rfl,hn⟩,⟨rfl,rfl,rfl,by simp,fun k hk _=>(Below.heap_alloc W.drew _ k hk)⟩,rfl⟩
  · simp only [Array.size_append,List.size_toArray,size_zeroCells,hzl,hcl,hnl,q3,<- Nat.add_mul]
    congr 1
    omega
  · simp only [Array.toList_append,List.append_assoc]
    rw [<- List.append_assoc,List.length_append,<- hlen]
    exact List.take_left
theorem op_appendC {c : Call} {x y : Operand} {t e id ep id2 ep2 n : Nat} {ti ei : TI} {els els2 : List (List AV)} (ho : o.op = .call c) (hc : c.callee = .builtin .append) (ha : c.args = #[x, y]) (hat : c.argTypes = #[t, t]) (ht : TiOk P t ti) (hk : ti.k = .slice e) (he : TiOk P e ei) (h0 : (ei.n == 0) = false)
    (hx:s.ev x = .ref id ep (.sl 0 n n)) (hid0:s.σ id=⟨ep,some (.row e ei.n els)⟩) (hne:els.length=n) (hn0:0<n)
    (hy:s.ev y = .row id2 ep2 0 els2.length) (hid2:s.σ id2=⟨ep2,some (.row e ei.n els2)⟩) (hpos:0<els2.length)
    (hb:(els.length+els2.length)*ei.sz<=140737488355328) (h63:els.length+els2.length<=9223372036854775807) {r:List (List AV)} (hr:els++els2=r) {m:Nat} (hm:r.length=m) :
    OpLoc P N o s ⟨.row id (ep+1) 0 m,[(id,⟨ep+1,some (.row e ei.n r)⟩)],[id2]⟩:=by
  subst hr hm hne
  intro s' g1 g2 g3 W F μ a hrs K Q hK
  have hid:s'.σ id=s.σ id:=g3 (id,⟨ep+1,some (.row e ei.n (els++els2))⟩) (by simp)
  have h0' : 0 < ei.n := by have : ¬ ei.n = 0 := by simpa using h0
                            omega
  have opers:o.op.operands.toList=[x,y]:=by rw [ho];simp [Op.operands,Call.operands,hc,ha]
  have ex:=hrs.ev x
  rw [g1 x (by rw [opers];simp),hx] at ex
  have ey:=hrs.ev y
  rw [g1 y (by rw [opers];simp),hy] at ey
  have hsrc:=src_row hrs.inv ((g2 id2 (by simp)).trans hid2) ey
  obtain ⟨b,cap,hmu,hv⟩:=(Rel.ref' ex).2.2 _ (hid.trans hid0)
  have hrow:Rel W F μ s'.σ (.row id ep 0 els.length) (.slice (some ⟨b,0,none⟩) els.length (cap - 0)):=by
    refine .row id ep 0 els.length _ (by rw [hid,hid0];exact Nat.le_refl _) rfl fun bd' m' l' hbd hL=>?_
    rw [hid,hid0] at hbd
    obtain rfl:Body.row e ei.n els=bd':=by simpa using hbd
    obtain ⟨rfl,rfl⟩:ei.n=m'/\els.length=l':=by simpa [Body.rowL] using hL
    exact ⟨by omega,by rw [hmu,Nat.zero_mul]⟩
  obtain ⟨cells,h1,h2,h3⟩:=row_owns hrs.inv (hid.trans hid0) hrow
  obtain ⟨v',W',cells',hrun,ho',⟨news,rfl,hnews⟩,hg,hatb⟩:=append_runC (P:=P) (ty:=o.type) ht hk he h0' h1 h2 hsrc hpos hb h63
  have hk':Kp (fun b=>(s'.σ id).body.isSome=true/\∃c,μ id=some (b,c)) W W':=(Kp.refl _ W).grown hg fun k hk=>(by cases hk)
  have hp : ∃ p' : Option (Nat × Nat), (∀ b c, p' = some (b, c) -> b < W'.heap.size /\ (W.heap.size <= b \/ ((s'.σ id).body.isSome = true /\ ∃ c', μ id = some (b, c')))) /\
      (∀F μ' σ',RowC W' F ei.n (els++els2) (cells++news)->BodyRel W' F μ' σ' p' (.row e ei.n (els++els2)))/\RowV p' ei.n 0 (els++els2).length (els++els2).length v'/\v'.oneCell'=true:=by
    rcases ho'.2 with ⟨rfl,hz⟩ | ⟨g,cap,cur,rfl,_,hh,r1,r2,r3,r4⟩
    · have e0:=List.eq_nil_of_length_eq_zero hz
      exact ⟨none,fun b c h=>(by cases h),fun F μ' σ' _=>.inl ⟨rfl,e0⟩,⟨by omega,rfl⟩,rfl⟩
    · refine ⟨some (g,cap),fun b c h=>?_,fun F μ' σ' hc=>hc.body hh r1 r2 r3 r4,⟨by omega,by simp⟩,rfl⟩
      obtain ⟨rfl,rfl⟩:g=b/\cap=c:=by simpa using h
      refine ⟨(Array.getElem?_eq_some_iff.1 hh).1,.inl ?_⟩
      have:W.heap.size=g:=by simp [Value.ownBlock] at hatb;exact hatb.symm
      omega
  obtain ⟨p',p1,p2,p3,p4⟩:=hp
  obtain ⟨hs,hi⟩:=inv_turn hrs.inv id p' (ep+1) (.row e ei.n (els++els2)) hk' p1 (.inl (by rw [hid,hid0];exact Nat.lt_succ_self _)) (fun hs=>p2 _ _ _ ((h2.append hnews).stp hrs.inv hs))
  unfold Oper.wp
  have hrun':(execOp a.eval o).run P W = .ok (.value v') W':=by
    simp only [execOp,ho,resolve,hc,ha,hat,List.map_toArray,List.map_cons,List.map_nil,Sem.run_bind,Sem.run_pure,Result.andThen_ok,invoke,builtin,hv,RK.val,hrun]
  rw [hrun']
  refine hK W' F (upm μ id p') _ (hrs.put hs hi (.row id _ 0 _ _ ?_ p4 fun bd' m' l' hbd hL=>?_)) hs
  · rw [up1_eq,if_pos rfl]
    exact Nat.le_refl _
  · rw [up1_eq,if_pos rfl] at hbd
    obtain rfl:Body.row e ei.n (els++els2)=bd':=by simpa using hbd
    obtain ⟨rfl,rfl⟩:ei.n=m'/\(els++els2).length=l':=by simpa only [Body.rowL,Option.some.injEq,Prod.mk.injEq] using hL
    rw [upm_eq,if_pos rfl]
    exact p3
end
end Go.Proofs.YtoaibdbehlcnfaaGreat.Sm
end
section
namespace Go.Proofs.YtoaibdbehlcnfaaGreat.Sm
open Go.RowKit
theorem o_Clone (x:Int) (l:List Int) (hl:(x::l).length<=1000000) (q:Nat->Option (Nat × Nat)):MDoes Tryz.prog 83 [.sl ((x::l).map cI)] (gl q [] []) (.row 5 0 0 (x::l).length) (gl q [] [(5,⟨0,some (.row 3 1 ((x::l).map cI))⟩)]):=by
 refine MDoes.of_body Tryz.func83 rfl (by kernel_rfl) rfl rfl ?_
 have hlen:((x::l).map cI).length=(x::l).length:=List.length_map ..
 refine jA ?_
 refine AW.condF rfl ?_;refine jA ?_
 refine RG.opS rfl (op_build0 (id:=5) rfl (tk rfl) rfl (tk rfl)) rfl ?_;refine wH rfl ?_;refine jA ?_
 refine RG.opS rfl (op_appL cI ([]:List Int) (x::l) (by simp at hl ⊢;omega) (fun _=>rfl) rfl rfl rfl rfl (tk rfl) rfl (tk rfl) rfl rfl ⟨_,rfl,rfl⟩ rfl) rfl ?_;refine wH rfl ?_;refine jA ?_
 rw [<- hlen]
 exact AW.ret (retM1 rfl (Rm.rowIs rfl rfl rfl rfl) ⟨.row rfl rfl,trivial⟩)
def risB:List Int->Bool
 | x::y::l=>decide (x<y) && risB (y::l)
 | _=>true
theorem risB_drop {L:List Int} {j:Nat} (h:j+1<L.length):risB (L.drop j)=(decide (L[j]<L[j+1]) && risB (L.drop (j+1))):=by
 rw [List.drop_eq_getElem_cons (show j<L.length by omega),List.drop_eq_getElem_cons h,risB]
theorem risB_end {L:List Int} {j:Nat} (h:L.length<=j+1):risB (L.drop j)=true:=by
 match hd:L.drop j with
 | []=>rfl
 | [x]=>rfl
 | x::y::l =>
  have:=congrArg List.length hd
  rw [List.length_drop] at this
  simp at this
  omega
theorem d_IdSound (l:List Int) (b:Bool) (hb:risB l=b):PDoes Tryz.prog 119 [.sl (l.map cI)] (.b b):=by
  refine PDoes.of_bodyN Tryz.func119 rfl (by kernel_rfl) rfl rfl ?_
  refine jB ?_
  refine AW.lens 0 rfl fun hm=>?_
  rw [List.length_map] at hm
  refine jA ?_
  refine AW.loopL (ι:=Nat) (fun k=>[(0,.sl (l.map cI)),(3,.i .i64 ((k+1:Nat):Int))]) (fun _=>[]) (fun k=>risB (l.drop k)=b) (fun k=>l.length - k) 0 (by rw [List.drop_zero];exact hb) jW trivial fun k hk=>?_
  refine jA ?_
  refine AW.cond rfl (fun h0=>?_) (fun h0=>?_)
  · have h : k + 1 < l.length := by
      have:=of_decide_eq_true h0
      rw [List.length_map] at this
      omega
    have hw:IntKind.i64.wrap (((k+1:Nat):Int) - Int.ofNat 1)=(k:Nat):=by
      rw [IntKind.wrap_i64]
      simp only [Int.ofNat_eq_natCast]
      omega
    rw [risB_drop h] at hk
    refine jB ?_
    refine AW.draws mixed_ok ?_
    refine wH rfl ?_
    refine RG.opS rfl (op_index rfl (tk rfl) rfl (tk rfl) rfl rfl (show (l.map cI)[k+1]?=some (cI l[k+1]) by rw [List.getElem?_map,List.getElem?_eq_getElem (by assumption)];rfl) rfl) rfl ?_
    refine RG.runO ty_ok 0 [(16,.i .i64 (k:Nat))] 400 rfl jD ?_
    refine RG.opS rfl (op_index rfl (tk rfl) rfl (tk rfl) rfl rfl (show (l.map cI)[k]?=some (cI (l[k]'(by omega))) by rw [List.getElem?_map,List.getElem?_eq_getElem (by omega)];rfl) rfl) rfl ?_
    refine wH rfl ?_;refine jB ?_
    refine AW.cond rfl (fun h1=>?_) (fun h1=>?_)
    · have h1 : ¬ l[k]'(by omega) < l[k + 1] := by
        have:=of_decide_eq_true h1
        omega
      rw [decide_eq_false h1,Bool.false_and] at hk
      refine jA ?_
      refine AW.ret (retQA ty_ok rfl rfl rfl ?_)
      rw [<- hk]
      rfl
    have h1:l[k]'(by omega)<l[k+1]:=by
      have:=of_decide_eq_false h1
      omega
    rw [decide_eq_true h1,Bool.true_and] at hk
    refine jA ?_
    exact ⟨k+1,⟨hk,by omega⟩,⟨Rn.is rfl rfl,Rn.is (i64_next h hm) rfl,trivial⟩,trivial⟩
  · have h : l.length <= k + 1 := by
      have:=of_decide_eq_false h0
      rw [List.length_map] at this
      omega
    rw [risB_end h] at hk
    refine jA ?_
    refine jE ?_;refine jA ?_
    refine AW.ret (retQA ty_ok rfl rfl rfl ?_)
    rw [<- hk]
    rfl
theorem o_Clip (L:List Int) (n:Nat) (h0:0<n) (q:Nat->Option (Nat × Nat)):MDoes Tryz.prog 82 [.row 201 0 0 n] (gl q [201] (ciB L)) (.ref 201 0 (.sl 0 n n)) (gl q [201] (ciB L)):=by
 refine MDoes.of_body Tryz.func82 rfl (by kernel_rfl) rfl rfl ?_
 refine jA ?_
 refine RG.opS rfl (op_clipR rfl (tk rfl) rfl (tk rfl) rfl rfl h0 rfl rfl) rfl ?_
 refine wH rfl ?_;refine jA ?_
 exact AW.ret (retM1 rfl (Rm.refIs rfl rfl rfl rfl) (ci_end rfl rfl rfl))
def insL (l:List Int):List Int:=(Go.Sort.insertionSort ltO l.toArray 0 l.length).toList
def mkL (l:List Int):List Int:=bif risB l then l else cmpct (insL l)
end Go.Proofs.YtoaibdbehlcnfaaGreat.Sm
end
section
namespace Go.Proofs
open Go.Shelf
def Tryz.lays189_ren:Go.Shelf.Ren:=⟨fun | 189=>120 | 125=>168 | 257=>167 | 128=>222 | 129=>223 | 294=>213 | 295=>214 | 296=>215 | 297=>216 | 298=>217 | 299=>218 | 216=>219 | 300=>220 | 301=>221 | 328=>263 | 329=>264 | 330=>265 | 331=>266 | 332=>267 | 215=>268 | 343=>286 | n=>n,fun | 28=>74 | 3=>3 | 46=>216 | 0=>0 | 51=>313 | 53=>32 | 4=>4 | 183=>306 | 182=>305 | 131=>133 | 5=>5 | 9=>9 | 218=>338 | 222=>342 | 228=>354 | 229=>355 | n=>n,fun | n=>n⟩
theorem Tryz.lays189:Go.Proofs.Lays.n189 Tryz.prog Tryz.lays189_ren:={
 mixed:=by kernel_rfl
 f125:=Tryz.func168.trans (congrArg some (by kernel_rfl))
 f128:=Tryz.func222.trans (congrArg some (by kernel_rfl))
 f129:=Tryz.func223.trans (congrArg some (by kernel_rfl))
 f189:=Tryz.func120.trans (congrArg some (by kernel_rfl))
 f215:=Tryz.func268.trans (congrArg some (by kernel_rfl))
 f216:=Tryz.func219.trans (congrArg some (by kernel_rfl))
 f257:=Tryz.func167.trans (congrArg some (by kernel_rfl))
 f294:=Tryz.func213.trans (congrArg some (by kernel_rfl))
 f295:=Tryz.func214.trans (congrArg some (by kernel_rfl))
 f296:=Tryz.func215.trans (congrArg some (by kernel_rfl))
 f297:=Tryz.func216.trans (congrArg some (by kernel_rfl))
 f298:=Tryz.func217.trans (congrArg some (by kernel_rfl))
 f299:=Tryz.func218.trans (congrArg some (by kernel_rfl))
 f300:=Tryz.func220.trans (congrArg some (by kernel_rfl))
 f301:=Tryz.func221.trans (congrArg some (by kernel_rfl))
 f328:=Tryz.func263.trans (congrArg some (by kernel_rfl))
 f329:=Tryz.func264.trans (congrArg some (by kernel_rfl))
 f330:=Tryz.func265.trans (congrArg some (by kernel_rfl))
 f331:=Tryz.func266.trans (congrArg some (by kernel_rfl))
 f332:=Tryz.func267.trans (congrArg some (by kernel_rfl))
 f343:=Tryz.func286.trans (congrArg some (by kernel_rfl))
 t0:=Tryz.underlying0
 a0:=Tryz.isAgg0
 z0:=Tryz.sizeOf0
 v0:=Tryz.zeroValue0
 t3:=Tryz.underlying3
 a3:=Tryz.isAgg3
 z3:=Tryz.sizeOf3
 v3:=Tryz.zeroValue3
 t4:=Tryz.underlying4
 a4:=Tryz.isAgg4
 z4:=Tryz.sizeOf4
 v4:=Tryz.zeroValue4
 t5:=Tryz.underlying5
 a5:=Tryz.isAgg5
 z5:=Tryz.sizeOf5
 v5:=Tryz.zeroValue5
 t9:=Tryz.underlying9
 a9:=Tryz.isAgg9
 z9:=Tryz.sizeOf9
 v9:=Tryz.zeroValue9
 t28:=Tryz.underlying74
 a28:=Tryz.isAgg74
 z28:=Tryz.sizeOf74
 v28:=Tryz.zeroValue74
 t46:=Tryz.underlying216
 a46:=Tryz.isAgg216
 z46:=Tryz.sizeOf216
 v46:=Tryz.zeroValue216
 t51:=Tryz.underlying313
 a51:=Tryz.isAgg313
 z51:=Tryz.sizeOf313
 v51:=Tryz.zeroValue313
 t53:=Tryz.underlying32
 a53:=Tryz.isAgg32
 z53:=Tryz.sizeOf32
 v53:=Tryz.zeroValue32
 t131:=Tryz.underlying133
 a131:=Tryz.isAgg133
 z131:=Tryz.sizeOf133
 v131:=Tryz.zeroValue133
 t182:=Tryz.underlying305
 a182:=Tryz.isAgg305
 z182:=Tryz.sizeOf305
 v182:=Tryz.zeroValue305
 t183:=Tryz.underlying306
 a183:=Tryz.isAgg306
 z183:=Tryz.sizeOf306
 v183:=Tryz.zeroValue306
 t218:=Tryz.underlying338
 a218:=Tryz.isAgg338
 z218:=Tryz.sizeOf338
 v218:=Tryz.zeroValue338
 t222:=Tryz.underlying342
 a222:=Tryz.isAgg342
 z222:=Tryz.sizeOf342
 v222:=Tryz.zeroValue342
 t228:=Tryz.underlying354
 a228:=Tryz.isAgg354
 z228:=Tryz.sizeOf354
 v228:=Tryz.zeroValue354
 t229:=Tryz.underlying355
 a229:=Tryz.isAgg355
 z229:=Tryz.sizeOf355
 v229:=Tryz.zeroValue355 }
end Go.Proofs
namespace Go.Proofs.YtoaibdbehlcnfaaGreat.Sm
open Go.RowKit
theorem swo_ltO:Go.Sort.SWO ltO where
 irrefl x:=decide_eq_false (by omega)
 trans x y z h1 h2:=decide_eq_true (by have:=of_decide_eq_true h1;have:=of_decide_eq_true h2;omega)
 ntrans x y z h1 h2:=decide_eq_false (by have:=of_decide_eq_false h1;have:=of_decide_eq_false h2;omega)
theorem ins_merge (d:Array Int):(Go.Sort.insertionSort ltO d 0 d.size).toList=d.toList.mergeSort fun x y=>decide (x<=y):=by
 obtain ⟨h1,h2⟩:=Go.Sort.insertionSort_holds (lt:=ltO) swo_ltO d 0 d.size (Nat.zero_le _) (Nat.le_refl _)
 have h:=Go.Sort.sorted_unique_holds (lt:=ltO) swo_ltO (fun x y g1 g2=>by have:=of_decide_eq_false g1;have:=of_decide_eq_false g2;omega) d _ h1 h2
 rw [h]
 congr 1
 funext x y
 rw [ltO,Bool.eq_iff_iff]
 simp
theorem oi_row {q:Nat->Option (Nat × Nat)} {n:Nat} {d:Array Int}:lkB (gl q [201] (oiB n d)) 201=⟨0,some (.row 3 1 (d.toList.map cI))⟩:=rfl
theorem o_SortX (d:Array Int) (n:Nat) (hn:d.size=n) (h0:0<n) (hl:n<=1000000000) (q:Nat->Option (Nat × Nat)):MDoes Tryz.prog 120 [.row 201 0 0 n] (gl q [201] (oiB n d)) (.tup []) (gl q [201] (oiB n (Go.Sort.insertionSort ltO d 0 n))):=by
  refine ⟨⟨_,_,Tryz.func120,rfl,by kernel_rfl⟩,fun W F μ vs hvl hv hi=>?_⟩
  subst hn
  match vs,hvl,hv with
  | [v],_,hv =>
  have hr:=hv 0 _ _ rfl rfl
  have hid:=oi_row (q:=q) (n:=d.size) (d:=d)
  obtain ⟨q1,hq⟩:=row_form hi hr hid
  rcases hq with ⟨_,e2,_⟩ | ⟨b,cap,hm,rfl,q2,q3⟩
  · have:=congrArg List.length e2
    simp at this
    rw [this] at h0
    simp at h0
  rw [List.length_map,Array.length_toList] at q1 q2
  rw [Nat.sub_zero,Nat.zero_mul]
  have hb:=hi.body 201 0 _ hid
  rw [hm] at hb
  rcases hb with ⟨hb,_⟩ | ⟨b',cap',cur,hb,hh,g1,g2,g3,g4,g5⟩
  · cases hb
  obtain ⟨rfl,rfl⟩:b=b'/\cap=cap':=by simpa using hb
  have hsz:d.size<=cur.size:=by rw [g3];omega
  have ht:cur.toList.take d.toList.length=d.toList.map (Value.int .i64):=by
    apply List.ext_getElem?
    intro k
    rw [Array.length_toList]
    by_cases hk:k<d.size
    · have hk':k<d.toList.length:=by rw [Array.length_toList];exact hk
      obtain ⟨_,v,e1,e2⟩:=g5 k (cI d.toList[k]) 0 (.i .i64 d.toList[k]) (by rw [List.getElem?_map,List.getElem?_eq_getElem hk'];rfl) rfl
      cases e2
      rw [List.getElem?_take_of_lt hk,Array.getElem?_toList,List.getElem?_map,List.getElem?_eq_getElem hk']
      rw [Nat.mul_one,Nat.add_zero] at e1
      exact e1
    · rw [List.getElem?_take_eq_none (by omega),List.getElem?_eq_none (by rw [List.length_map,Array.length_toList];omega)]
  have hlt:b<W.heap.size:=(Array.getElem?_eq_some_iff.1 hh).1
  have hS:=Any.slices_Sort_int Tryz.lays189 b 0 cap d.toList W (holds_of_blockI hh ht) hlt (by rw [Array.length_toList];omega)
  rw [Array.length_toList] at hS
  refine Calls.mono hS ?_
  rintro e W' ⟨rfl,k,os,rfl⟩
  rw [<- ins_merge d]
  generalize hd':Go.Sort.insertionSort ltO d 0 d.size=d'
  have hz:d'.size=d.size:=by rw [<- hd'];exact ins_szO d d.size (Nat.le_refl _)
  have hsame:d'.toList.toArray=d':=by simp
  rw [hsame]
  have hgrow:=grownBy_sortedI (w:=W) (g:=b) (n:=k) (os:=os) d'
  have hheap:=heap_sortedI (w:=W) (g:=b) (n:=k) (os:=os) d' hh
  generalize Go.Sort.grow (Go.Sort.putRow (Value.int .i64) (Go.Sort.ahead W k) b 0 d') os=W' at hgrow hheap
  have hkp:Kp (fun x=>(lkB (gl q [201] (oiB d.size d)) 201).body.isSome=true/\∃c,μ 201=some (x,c)) W W':=(Kp.refl _ W).grown hgrow fun x hx=>(by cases hx;exact .inl ⟨rfl,cap,hm⟩)
  have hupm:upm μ 201 (some (b,cap))=μ:=by
    funext j
    rw [upm_eq]
    split
    · rename_i e;rw [e,hm]
    · rfl
  have hup:up1 (lkB (gl q [201] (oiB d.size d))) 201 ⟨0,some (.row 3 1 (d'.toList.map cI))⟩=lkB (gl q [201] (oiB d.size d')):=by
    funext j
    rw [up1_eq]
    split
    · rename_i e;rw [e];rfl
    · rename_i e
      show cond (Nat.beq j 1101) _ (cond (Nat.beq j 201) _ _)=cond (Nat.beq j 1101) _ (cond (Nat.beq j 201) _ _)
      rw [show Nat.beq j 201=false from beq_f e]
      rfl
  have hcur:(Go.Sort.putCells (Value.int .i64) 0 d' cur).size=cap*1:=by simp [Go.Sort.putCells,g3]
  have htk:=take_putCellsI cur d'.toList (by rw [Array.length_toList,hz];exact hsz)
  rw [hsame,Array.length_toList,hz] at htk
  obtain ⟨hs,hi'⟩:=inv_turn hi 201 (some (b,cap)) 0 (.row 3 1 (d'.toList.map cI)) hkp (fun x c h=>by
    obtain ⟨rfl,rfl⟩:b=x/\cap=c:=by simpa using h
    exact ⟨(Array.getElem?_eq_some_iff.1 hheap).1,.inr ⟨rfl,_,hm⟩⟩) (.inr ⟨rfl,_,rfl,by simp [Body.sh,hz],hm.symm⟩) fun _=>by
    refine .inr ⟨b,cap,_,rfl,hheap,by rw [List.length_map,Array.length_toList,hz];exact q2,g2,hcur,fun k' cs hc=>?_,fun k' cs j x hc hx=>?_⟩
    · rw [List.getElem?_map] at hc
      obtain ⟨z,_,rfl⟩:=Option.map_eq_some_iff.1 hc
      rfl
    · rw [List.getElem?_map] at hc
      obtain ⟨z,hz',rfl⟩:=Option.map_eq_some_iff.1 hc
      match j,hx with
      | 0,hx =>
        obtain rfl:AV.i .i64 z=x:=by simpa [cI] using hx
        refine ⟨rfl,.int .i64 z,?_,by constructor⟩
        have hk':k'<d.size:=by
          have:=(List.getElem?_eq_some_iff.1 hz').1
          rw [Array.length_toList,hz] at this
          exact this
        have:=congrArg (fun l=>l[k']?) htk
        simp only [List.getElem?_take_of_lt hk',Array.getElem?_toList,List.getElem?_map] at this
        rw [Nat.mul_one,Nat.add_zero,this]
        rw [Array.getElem?_toList] at hz'
        rw [hz']
        rfl
      | j+1,hx=>simp [cI] at hx
  rw [hupm,hup] at hs hi'
  exact ⟨.tuple #[],F,μ,rfl,hi',hs.q,.pure (.tup [] [] rfl fun j x v h=>by simp at h)⟩
end Go.Proofs.YtoaibdbehlcnfaaGreat.Sm
end
section
namespace Go.Proofs.YtoaibdbehlcnfaaGreat.Sm
open Go.RowKit
theorem o_MakeX (x:Int) (l:List Int) (hl:(x::l).length<=1000000) (hp:0<(mkL (x::l)).length) (q:Nat->Option (Nat × Nat)):MDoes Tryz.prog 70 [.sl ((x::l).map cI)] (gl q [] []) (.ref 5 0 (.sl 0 (mkL (x::l)).length (mkL (x::l)).length)) (gl q [] [(5,⟨0,some (.row 3 1 ((mkL (x::l)).map cI))⟩)]):=by
  have hC:=o_Clone x l (by omega)
  have hS:=fun b hb=>d_IdSound (x::l) b hb
  generalize hL:x::l=L at *
  refine MDoes.of_body Tryz.func70 rfl (by kernel_rfl) rfl rfl ?_
  refine jA ?_
  refine RG.ownN [] [(5,5)] (fun q=>hC q) rfl rfl rfl rfl rfl rfl rfl rfl rfl rfl ?_
  refine wH rfl ?_;refine jA ?_
  have hlm:(L.map cI).length=L.length:=List.length_map ..
  cases hr:risB L
  rotate_left
  · have e1:mkL L=L:=by rw [mkL,hr];rfl
    rw [e1] at hp ⊢
    have hK:=o_Clip L L.length hp
    refine RG.callS rfl rfl rfl rfl (congrArg (fun x=>[x]) (rowAllN hlm.symm)) (hS true hr) rfl rfl ?_
    refine wH rfl ?_;refine jA ?_
    refine AW.condF rfl ?_;refine jA ?_
    refine RG.ownN [(5,201)] [(201,5)] (fun q=>hK q) rfl rfl rfl rfl rfl rfl rfl rfl rfl rfl ?_
    refine wH rfl ?_;refine jA ?_
    exact AW.ret (retM1 rfl (Rm.refIs rfl rfl rfl rfl) ⟨.row rfl rfl,trivial⟩)
  · have e1:mkL L=cmpct (insL L):=by rw [mkL,hr];rfl
    rw [e1] at hp ⊢
    have hcut:((cmpZ (insL L)).map cI).take (cmpct (insL L)).length=(cmpct (insL L)).map cI:=by rw [<- List.map_take,cmpZ,List.take_left]
    have hsz:=ins_szO L.toArray L.length (by simp)
    have hpos:0<L.length:=by rw [<- hL];exact Nat.succ_pos _
    have hO:=fun q=>o_SortX L.toArray L.length (by simp) hpos (by omega) q
    have hP:=fun q=>o_Compact (Go.Sort.insertionSort ltO L.toArray 0 L.length) L.length (by rw [hsz];simp) (by omega) q
    have hK:=o_Clip (cmpZ (insL L)) (cmpct (insL L)).length hp
    have hz1:((insL L).map cI).length=(L.map cI).length:=by
      rw [List.length_map,List.length_map,insL,Array.length_toList,hsz]
      simp
    have hz2:((cmpZ (insL L)).map cI).length=((insL L).map cI).length:=by
      have:=cmpct_len (insL L)
      rw [List.length_map,List.length_map,cmpZ,List.length_append,zerosI,List.length_replicate]
      omega
    refine RG.callS rfl rfl rfl rfl (congrArg (fun x=>[x]) (rowAllN hlm.symm)) (hS false hr) rfl rfl ?_
    refine wH rfl ?_;refine jA ?_
    refine AW.condT rfl ?_;refine jA ?_
    refine RG.ownK [(5,201)] [(201,5)] 5 201 hz1 (fun q=>hO q) rfl rfl rfl rfl rfl rfl rfl rfl rfl rfl rfl rfl rfl ?_
    refine wH rfl ?_;refine jA ?_
    refine RG.ownK [(5,201)] [(201,5)] 5 201 hz2 (fun q=>hP q) rfl rfl rfl rfl rfl rfl rfl rfl rfl rfl rfl rfl rfl ?_
    refine wH rfl ?_;refine jA ?_
    refine RG.ownN [(5,201)] [(201,5)] (fun q=>hK q) rfl rfl rfl rfl rfl rfl rfl rfl rfl rfl ?_
    refine wH rfl ?_;refine jA ?_
    rw [<- hcut]
    exact AW.ret (retM1 rfl (Rm.refIs rfl rfl rfl rfl) ⟨.rowT rfl rfl,trivial⟩)
theorem RG.ownQ0 {P:Program} {N:Nat} {ops:Array Oper} {rest:List Oper} {s:St} {K:St->List Eff->Prop} {o:Oper} {c:Call} {f:FuncId} {xs zs zs':List AV} {r r':AV} {π π':List (Nat × Nat)} {ks:List Nat} {B0 B0' B1 up0:List (Nat × SB)} {d:Option Nat}
  (h:∀q,MDoes P f zs (gl q ks B0) r (gl q ks B1)) (hg:gd ops s o=some true) (ho:o.op = .call c) (ha:argsA s c=some (f,xs))
  (hz:optL (xs.map (rmA π s.σ (fun _=>0)))=some zs') (hz':zs'=zs) (hb:rmS π s.σ (fun _=>0) π=some B0') (hb':B0'=B0)
  (hu:rmS π' (lkB B1) (ep2 s.σ π π' ks B1) π'=some up0) (hr':rmA π' (lkB B1) (ep2 s.σ π π' ks B1) r=some r') (hk:okO s.σ π π' B0=true) (hd:o.dst=d)
  (hr:RG P N ops rest ⟨putS N s.ts d r',ups s.σ (up0++gone s.σ π' π)⟩ fun s' Es=>K s' (⟨r',up0++gone s.σ π' π,[]⟩::Es)):RG P N ops (o::rest) s K:=by
 subst hz' hb' hd
 unfold argsA at ha
 split at ha
 case h_2=>cases ha
 rename_i fop hc
 split at ha
 case h_2=>cases ha
 rename_i f' first caps hf
 simp only [Option.some.injEq,Prod.mk.injEq] at ha
 obtain ⟨rfl,rfl⟩:=ha
 simp only [okO,Bool.and_eq_true] at hk
 obtain ⟨⟨⟨⟨⟨⟨k1,k2⟩,k3⟩,k4⟩,k5⟩,k6⟩,k7⟩:=hk
 have n1:=nodupB_ok k1
 have n3:=nodupB_ok k3
 obtain ⟨u1,u2⟩:=rmS_ok hu
 obtain ⟨b1,b2⟩:=rmS_ok hb
 have hkeys:((up0++gone s.σ π' π).map (·.1)).Nodup:=by rw [List.map_append,u1];exact nodupB_ok k7
 have hat:∀q∈up0++gone s.σ π' π,ups s.σ (up0++gone s.σ π' π) q.1=q.2:=fun q hq=>ups_at hkeys hq
 have hS0:RmS π s.σ (lkB B0') (fun _=>0):=rmS_RmS hb (fun q hq=>lkB_in (by rw [b1];exact n1) hq) n1
 have hS1:RmS π' (lkB B1) (ups s.σ (up0++gone s.σ π' π)) (ep2 s.σ π π' ks B1):=rmS_RmS hu (fun q hq=>hat q (List.mem_append_left _ hq)) n3
 obtain ⟨z1,z2⟩:=optL_ok hz
 have body2:∀id∈(up0++gone s.σ π' π).map (·.1),∀bd2,(ups s.σ (up0++gone s.σ π' π) id).body=some bd2->∃p∈π',p.2=id/\ups s.σ (up0++gone s.σ π' π) id=⟨ep2 s.σ π π' ks B1 id,some bd2⟩/\∃bd,(lkB B1 p.1).body=some bd/\rmB π' (lkB B1) (ep2 s.σ π π' ks B1) bd=some bd2:=fun id hid bd2 hb2=>by
  obtain ⟨q,hq,rfl⟩:=List.mem_map.1 hid
  rw [hat q hq] at hb2 ⊢
  rcases List.mem_append.1 hq with h1 | h1
  ·obtain ⟨p,hp,e1,bd,bd',e2,e3,e4⟩:=u2 q h1
   rw [e4] at hb2
   obtain rfl:=Option.some.inj hb2
   exact ⟨p,hp,e1,by rw [e4,e1],bd,e2,e3⟩
  ·rw [(gone_in h1).1] at hb2
   cases hb2
 refine RG.opB hg (fn_bd (h fun _=>none).fn ho hc hf) (oploc_callO (π:=π) (π':=π') (ks:=ks) ho hc hf h z1 (fun j x z hx hz=>rmA_ok hS0 (z2 j x z hx hz)) n1 (nodupB_ok k2) (fun p hp=>Nat.le_of_ble_eq_true (List.all_eq_true.1 k5 p hp)) (fun k bd' hbd=>?_) (fun p hp=>?_) n3
  (fun p hp q hq e=>?_) (fun p hp=>Nat.le_of_ble_eq_true (List.all_eq_true.1 k6 p hp)) (fun p hp=>?_) (fun id hid bd2 hb2=>?_) (fun id hid=>?_) (fun id hid he bd2 hb2=>?_) (rmA_ok hS1 hr')) hr
 ·obtain ⟨q,hq,e1,e2⟩:=lkB_some hbd
  obtain ⟨p,hp,e3,bd,bd1,e4,e5,e6⟩:=b2 q hq
  rw [<- e2,e6] at hbd
  obtain rfl:=Option.some.inj hbd
  exact ⟨p,hp,e3.trans e1,bd,e4,rmB_ok hS0 e5⟩
 ·rw [List.map_append,List.mem_append,u1]
  exact (gone_all hp).symm
 ·have:∀(l:List (Nat × Nat)),(l.map (·.1)).Nodup->p∈l->q∈l->p=q:=by
   intro l
   induction l with
   | nil=>intro _ h;cases h
   | cons a l ih =>
    intro hl h5 h6
    rw [List.map_cons,List.nodup_cons] at hl
    rcases List.mem_cons.1 h5 with g5 | g5 <;> rcases List.mem_cons.1 h6 with g6 | g6
    ·rw [g5,g6]
    ·exact (hl.1 (by rw [<- g5,e];exact List.mem_map_of_mem (f:=(·.1)) g6)).elim
    ·exact (hl.1 (by rw [<- g6,<- e];exact List.mem_map_of_mem (f:=(·.1)) g5)).elim
    ·exact ih hl.2 g5 g6
  exact this π' (nodupB_ok k4) hp hq
 ·rw [List.map_append,List.mem_append,u1]
  exact .inl (List.mem_map_of_mem (f:=(·.2)) hp)
 ·obtain ⟨p,hp,e1,_,bd,e2,e3⟩:=body2 id hid bd2 hb2
  exact ⟨p,hp,e1,bd,e2,rmB_ok hS1 e3⟩
 ·obtain ⟨q,hq,rfl⟩:=List.mem_map.1 hid
  rw [hat q hq]
  rcases List.mem_append.1 hq with h1 | h1
  ·obtain ⟨p,hp,e1,bd,bd',e2,e3,e4⟩:=u2 q h1
   rw [e4,e1]
   unfold ep2
   cases kept s.σ π π' ks B1 q.1
   ·exact Nat.le_succ _
   ·exact Nat.le_refl _
  ·rw [(gone_in h1).1];exact Nat.le_refl _
 ·obtain ⟨p,hp,e1,e0,bd,e2,e3⟩:=body2 id hid bd2 hb2
  rw [e0] at he
  have hkp:kept s.σ π π' ks B1 id=true:=by
   replace he:ep2 s.σ π π' ks B1 id=(s.σ id).ep:=he
   unfold ep2 at he
   cases hk:kept s.σ π π' ks B1 id
   ·rw [hk,cond_false] at he;omega
   ·rfl
  obtain ⟨k,hk,m1,m2,bd0,bd1,g1,g2,g3⟩:=kept_ok hkp
  have hbd:rmB π' (lkB B1) (ep2 s.σ π π' ks B1) bd1=some bd2:=by
   have:p=(k,id):=by
    have:∀(l:List (Nat × Nat)),(l.map (·.2)).Nodup->p∈l->(k,id)∈l->p=(k,id):=by
     intro l
     induction l with
     | nil=>intro _ h;cases h
     | cons a l ih =>
      intro hl h5 h6
      rw [List.map_cons,List.nodup_cons] at hl
      rcases List.mem_cons.1 h5 with g5 | g5 <;> rcases List.mem_cons.1 h6 with g6 | g6
      ·rw [g5,g6]
      ·exact (hl.1 (by rw [<- g5,e1];exact List.mem_map_of_mem (f:=(·.2)) g6)).elim
      ·exact (hl.1 (by rw [<- g6];show id∈_;rw [<- e1];exact List.mem_map_of_mem (f:=(·.2)) g5)).elim
      ·exact ih hl.2 g5 g6
    exact this π' n3 hp m2
   rw [this] at e2
   have:bd=bd1:=Option.some.inj (e2.symm.trans (by show (lkB B1 k).body=_;rw [g1]))
   rw [<- this];exact e3
  refine ⟨k,hk,m1,m2,⟨bd1,g1⟩,bd0,g2,?_⟩
  rw [<- g3]
  have hR:=rmB_ok hS1 hbd
  cases hR with
  | box hl _ _=>show (true,_,_,0)=(true,_,_,0);rw [hl]
  | row=>rfl
  | obj=>rfl
theorem RG.ownQ {P:Program} {N:Nat} {ops:Array Oper} {rest:List Oper} {ts:Nat->AV} {σ:Sto} {K:St->List Eff->Prop} {o:Oper} {c:Call} {f:FuncId} {xs zs zs':List AV} {r r':AV} (π π':List (Nat × Nat)) {ks:List Nat} {B0 B0' B1 up:List (Nat × SB)} {d:Option Nat}
  (h:∀q,MDoes P f zs (gl q ks B0) r (gl q ks B1)) (hg:gd ops ⟨ts,σ⟩ o=some true) (ho:o.op = .call c) (ha:argsA ⟨ts,σ⟩ c=some (f,xs))
  (hz:optL (xs.map (rmA π σ (fun _=>0)))=some zs') (hz':zs'=zs) (hb:rmS π σ (fun _=>0) π=some B0') (hb':B0'=B0)
  (hu:ownR σ π π' ks B1 r=some (r',up)) (hk:okO σ π π' B0=true) (hd:o.dst=d)
  (hr:RG P N ops rest ⟨putS N ts d r',ups σ up⟩ fun s' Es=>K s' (⟨r',up,[]⟩::Es)):RG P N ops (o::rest) ⟨ts,σ⟩ K:=by
 unfold ownR at hu
 split at hu
 ·rename_i up0 r1 e1 e2
  simp only [forceV_eq,forceUN_eq,Option.some.injEq,Prod.mk.injEq] at hu
  obtain ⟨rfl,rfl⟩:=hu
  exact RG.ownQ0 h hg ho ha hz hz' hb hb' e1 e2 hk hd hr
 ·cases hu
theorem m_CloneNil (q:Nat->Option (Nat × Nat)):MDoes Tryz.prog 83 [.raw (.slice none 0 0)] (gl q [] []) (.raw (.slice none 0 0)) (gl q [] []):=by
 refine MDoes.of_body Tryz.func83 rfl (by kernel_rfl) rfl rfl ?_
 refine jA ?_
 refine AW.condT rfl ?_;refine jA ?_
 exact AW.ret (retM1 rfl (Rm.is rfl rfl) trivial)
theorem rel_rawIs {W:World} {F:Nat->Prop} {μ:Mu} {σ:Sto} {u v:Value} (h:Rel W F μ σ (.raw u) v):v=u:=by
 cases h with
 | pure h=>cases h;rfl
theorem op_clipNil {P:Program} {N:Nat} {o:Oper} {s:St} {t e:Nat} {ti ei:TI} {x y z:Operand} {k1 k2:IntKind} (ho:o.op = .slice t x none (some y) (some z)) (ht:TiOk P t ti) (hk:ti.k = .slice e) (he:TiOk P e ei) (hx:s.ev x = .raw (.slice none 0 0)) (hy:s.ev y = .i k1 (0:Nat)) (hz:s.ev z = .i k2 (0:Nat)) :
  OpLoc P N o s ⟨.raw (.slice none 0 0),[],[]⟩:=by
 refine oploc_val [] _ fun s' W F μ a g1 g2 hs=>?_
 have ex:=hs.ev x
 rw [g1 x (by rw [ho];simp [Op.operands]),hx] at ex
 have ey:=hs.ev y
 rw [g1 y (by rw [ho];simp [Op.operands]),hy] at ey
 have ez:=hs.ev z
 rw [g1 z (by rw [ho];simp [Op.operands]),hz] at ez
 have hv:a.eval x = .slice none 0 0:=rel_rawIs ex
 have hb:(Instr.sliceBounds true 0 0 none (some (.int k1 (0:Nat))) (some (.int k2 (0:Nat)))).run P W = .ok (0,0,0) W:=rfl
 refine ⟨.slice none 0 0,?_,.pure (.raw _)⟩
 simp only [execOp,ho,Instr.sliceAt,Instr.slice,hv,ey.i',ez.i',Option.map_none,Option.map_some,Sem.run_bind,Sem.run_pure,Result.andThen_ok,run_underlying (ht.slice hk),hb,he.size,Nat.sub_zero]
 simp
theorem m_ClipNil (q:Nat->Option (Nat × Nat)):MDoes Tryz.prog 82 [.raw (.slice none 0 0)] (gl q [] []) (.raw (.slice none 0 0)) (gl q [] []):=by
 refine MDoes.of_body Tryz.func82 rfl (by kernel_rfl) rfl rfl ?_
 refine jA ?_
 refine RG.opS rfl (op_clipNil rfl (tk rfl) rfl (tk rfl) rfl rfl rfl) rfl ?_
 refine wH rfl ?_;refine jA ?_
 exact AW.ret (retM1 rfl (Rm.is rfl rfl) trivial)
theorem m_MakeNil (q:Nat->Option (Nat × Nat)):MDoes Tryz.prog 70 [.raw (.slice none 0 0)] (gl q [] []) (.raw (.slice none 0 0)) (gl q [] []):=by
 refine MDoes.of_body Tryz.func70 rfl (by kernel_rfl) rfl rfl ?_
 refine jA ?_
 refine RG.ownQ [] [] m_CloneNil rfl rfl rfl rfl rfl rfl rfl rfl rfl rfl ?_
 refine wH rfl ?_;refine jA ?_
 refine RG.callS rfl rfl rfl rfl rfl (d_IdSound [] true rfl) rfl rfl ?_
 refine wH rfl ?_;refine jA ?_
 refine AW.condF rfl ?_;refine jA ?_
 refine RG.ownQ [] [] m_ClipNil rfl rfl rfl rfl rfl rfl rfl rfl rfl rfl ?_
 refine wH rfl ?_;refine jA ?_
 exact AW.ret (retM1 rfl (Rm.is rfl rfl) trivial)
theorem insL_eq (L:List Int):insL L=L.mergeSort fun x y=>decide (x<=y):=by
 have h:=ins_merge L.toArray
 rw [List.size_toArray] at h
 exact h
theorem risB_up:∀{l:List Int},risB l=true->l.Pairwise (· < ·)
 | [],_=>List.Pairwise.nil
 | [x],_=>by simp
 | x::y::l,h=>by
  rw [risB,Bool.and_eq_true] at h
  have h2:=risB_up h.2
  refine List.pairwise_cons.2 ⟨fun z hz=>?_,h2⟩
  have h1:=of_decide_eq_true h.1
  rcases List.mem_cons.1 hz with rfl | hz
  ·exact h1
  ·have:=(List.pairwise_cons.1 h2).1 z hz
   omega
theorem cmpct_mem {z:Int}:∀{L:List Int},z∈cmpct L↔z∈L
 | []=>by rw [cmpct]
 | [x]=>by rw [cmpct]
 | x::y::l=>by
  rw [cmpct]
  by_cases e:x=y
  ·rw [if_pos e,cmpct_mem (L:=y::l),e]
   simp
  ·rw [if_neg e,List.mem_cons,cmpct_mem (L:=y::l),List.mem_cons]
   simp
theorem cmpct_up:∀{L:List Int},L.Pairwise (·<=·)->(cmpct L).Pairwise (· < ·)
 | [],_=>by rw [cmpct];exact List.Pairwise.nil
 | [x],_=>by rw [cmpct];simp
 | x::y::l,h=>by
  obtain ⟨h1,h2⟩:=List.pairwise_cons.1 h
  have ih:=cmpct_up h2
  rw [cmpct]
  by_cases e:x=y
  ·rw [if_pos e];exact ih
  ·rw [if_neg e]
   refine List.pairwise_cons.2 ⟨fun z hz=>?_,ih⟩
   have hz:=cmpct_mem.1 hz
   have hy:=h1 y List.mem_cons_self
   rcases List.mem_cons.1 hz with rfl | hz
   ·omega
   ·have:=(List.pairwise_cons.1 h2).1 z hz
    omega
theorem mkL_mem {z:Int} {L:List Int}:z∈mkL L↔z∈L:=by
 rw [mkL]
 cases risB L
 ·rw [cond_false,cmpct_mem,insL_eq]
  exact List.mem_mergeSort
 ·rfl
theorem mkL_up (L:List Int):(mkL L).Pairwise (· < ·):=by
 rw [mkL]
 cases h:risB L
 ·rw [cond_false]
  refine cmpct_up ?_
  rw [insL_eq]
  have:=List.pairwise_mergeSort (le:=fun x y:Int=>decide (x<=y)) (fun a b c h1 h2=>by simp at h1 h2 ⊢;omega) (fun a b=>by simp;omega) L
  exact this.imp fun h=>by simpa using h
 ·rw [cond_true];exact risB_up h
theorem mkL_pos {L:List Int} (h:L≠[]):0<(mkL L).length:=by
 cases L with
 | nil=>exact absurd rfl h
 | cons x l=>exact List.length_pos_of_mem (mkL_mem.2 (List.mem_cons_self (a:=x) (l:=l)))
theorem up_len {N:Nat}:∀{L:List Int} {a:Nat},L.Pairwise (· < ·)->(∀x∈L,(a:Int)<=x/\x<(N:Int))->L.length+a<=N\/L=[]
 | [],_,_,_=>.inr rfl
 | x::l,a,hp,hb=>by
  obtain ⟨h1,h2⟩:=List.pairwise_cons.1 hp
  obtain ⟨b1,b2⟩:=hb x List.mem_cons_self
  obtain ⟨m,rfl⟩:∃m:Nat,x=m:=⟨x.toNat,by omega⟩
  rcases up_len (N:=N) (a:=m+1) h2 (fun y hy=>⟨by have:=h1 y hy;omega,(hb y (List.mem_cons_of_mem _ hy)).2⟩) with h | h
  ·refine .inl ?_
   rw [List.length_cons]
   omega
  ·subst h
   refine .inl ?_
   simp only [List.length_cons,List.length_nil]
   omega
end Go.Proofs.YtoaibdbehlcnfaaGreat.Sm
end
section
namespace Go.Proofs.YtoaibdbehlcnfaaGreat.Sm
open Go.RowKit
def hopN (A:List (List Int)) (h:Hop):List Int:=bif decide (0<=h.rule) then [(A.getD h.sw.toNat []).getD h.table.toNat 0+h.rule] else []
def hopsN (A:List (List Int)):List Hop->List Int
 | []=>[]
 | h::l=>hopN A h++hopsN A l
def usedR (A:List (List Int)) (c:Cf) (v:Int) (s:Sp) (out:List Int) (a:Atom):List Int:=mkL (out++hopsN A (runOf c s a.head v 10800).hops)
def usedF (A:List (List Int)) (c:Cf) (v:Int) (s:Sp) (list:List Atom) (out:List Int):List Int:=list.foldl (usedR A c v s) out
def usedG (A:List (List Int)) (c:Cf) (v:Int) (list:List Atom):List Sp->List Int->List Int
 | [],out=>out
 | s::ss,out=>usedG A c v list ss (usedF A c v s list out)
def usedAll (c:Cf) (v:Int):List Int:=usedG (numAll 0 c.tables) c v (lookA c v) (edges c.topo.ports) []
def HopOk (c:Cf) (h:Hop):Prop:=∃n t:Nat,h.sw=n/\h.table=t/\At c n t/\-1<=h.rule/\h.rule<((tabOf c n t).length:Nat)
theorem hops_app {c:Cf} {n t:Nat} {r:Int} {h:Hd} {pre:List Hop} (hp:∀x∈pre,HopOk c x) (hat:At c n t) (h1:-1<=r) (h2:r<((tabOf c n t).length:Nat)):∀x∈pre++[(⟨n,t,r,h⟩:Hop)],HopOk c x:=by
 intro x hx
 rcases List.mem_append.1 hx with hx | hx
 ·exact hp x hx
 ·rw [List.mem_singleton.1 hx]
  exact ⟨n,t,rfl,rfl,hat,h1,h2⟩
theorem goF_hops {c:Cf} (hc:c.Ok):∀(f n t:Nat) (h:Hd) (pre:List Hop),At c n t->(∀x∈pre,HopOk c x)->∀x∈(goF c f n t h pre).hops,HopOk c x
 | 0,n,t,h,pre,_,hp=>hp
 | f+1,n,t,h,pre,hat,hp=>by
  rw [goF]
  cases hq:fnd (tabOf c n t) h with
  | none=>exact hops_app hp hat (by omega) (by omega)
  | some r =>
   obtain ⟨hlt,hr,_⟩:=fnd_lt hq
   have ha:=hops_app (h:=h) hp hat (show -1<=(r:Int) by omega) (Int.ofNat_lt.2 hlt)
   dsimp only
   revert hr
   generalize (tabOf c n t).getD r Rl.zero=q
   intro hr
   by_cases k4:q.act.kind=4
   ·rw [if_pos k4]
    exact goF_hops hc f _ _ _ _ (hat.goto hc hr k4) ha
   rw [if_neg k4]
   by_cases k3:q.act.kind=3
   ·rw [if_pos k3]
    exact goF_hops hc f _ _ _ _ (hat.forward hc hr k3) ha
   rw [if_neg k3]
   by_cases k2:q.act.kind=2
   ·rw [if_pos k2]
    exact ha
   rw [if_neg k2]
   exact ha
theorem runOf_hops {c:Cf} (hc:c.Ok) {s:Sp} (hs:s∈edges c.topo.ports) (h:Hd) (v:Int) (most:Nat):∀x∈(runOf c s h v most).hops,HopOk c x:=by
 rw [runOf]
 obtain ⟨n,r,a,p,hr,hp,hk,rfl⟩:=edges_mem.1 hs
 refine goF_hops hc _ _ _ _ _ (At.start hc ?_) fun x hx=>by cases hx
 have:=(List.getElem?_eq_some_iff.1 hr).1
 simp only [Int.toNat_natCast]
 omega
theorem numRow_at:∀(t:List (List Rl)) (m k:Nat),k<t.length->∃a:Nat,(numRow m t)[k]?=some (a:Int)/\m<=a/\a+(t.getD k []).length<=m+lenT t
 | [],m,k,h=>absurd h (Nat.not_lt_zero k)
 | l::t,m,0,h=>⟨m,by rw [numRow];rfl,Nat.le_refl _,by rw [lenT_cons];show m+l.length<=_;omega⟩
 | l::t,m,k+1,h=>by
  obtain ⟨a,h1,h2,h3⟩:=numRow_at t (m+l.length) k (by simpa using h)
  refine ⟨a,by rw [numRow,List.getElem?_cons_succ];exact h1,by omega,?_⟩
  rw [lenT_cons,List.getD_cons_succ]
  omega
theorem numAll_at:∀(ts:List (List (List Rl))) (m n:Nat),n<ts.length->∃b:Nat,(numAll m ts)[n]?=some (numRow b (ts.getD n []))/\m<=b/\b+lenT (ts.getD n [])<=m+(ts.map lenT).sum
 | [],m,n,h=>absurd h (Nat.not_lt_zero n)
 | t::ts,m,0,h=>⟨m,by rw [numAll];rfl,Nat.le_refl _,by rw [List.map_cons,List.sum_cons];show m+lenT t<=_;omega⟩
 | t::ts,m,n+1,h=>by
  obtain ⟨b,h1,h2,h3⟩:=numAll_at ts (m+lenT t) n (by simpa using h)
  refine ⟨b,by rw [numAll,List.getElem?_cons_succ];exact h1,by omega,?_⟩
  rw [List.map_cons,List.sum_cons,List.getD_cons_succ]
  omega
def HopA (A:List (List Int)) (h:Hop):Prop:=∃n t a:Nat,∃row,h.sw=n/\h.table=t/\A[n]?=some row/\row[t]?=some (a:Int)/\-1<=h.rule/\(a:Int)+h.rule<=1000000000
theorem HopOk.A {c:Cf} {h:Hop} (hB:(c.tables.map lenT).sum<=1000000000) (hh:HopOk c h):HopA (numAll 0 c.tables) h:=by
 obtain ⟨n,t,h1,h2,hat,h3,h4⟩:=hh
 obtain ⟨b,g1,_,g2⟩:=numAll_at c.tables 0 n hat.sw
 obtain ⟨a,g3,_,g4⟩:=numRow_at (c.tables.getD n []) b t hat.tab
 refine ⟨n,t,a,_,h1,h2,g1,g3,h3,?_⟩
 rw [tabOf] at h4
 omega
theorem HopA.num {A:List (List Int)} {h:Hop} {n t a:Nat} {row:List Int} (h1:h.sw=n) (h2:h.table=t) (g1:A[n]?=some row) (g2:row[t]?=some (a:Int)) (h0:0<=h.rule) (h3:(a:Int)+h.rule<=1000000000):hopN A h=[IntKind.i64.wrap ((a:Int)+h.rule)]:=by
 rw [hopN,decide_eq_true h0,cond_true,h1,h2,Int.toNat_natCast,Int.toNat_natCast,List.getD_eq_getElem?_getD,List.getD_eq_getElem?_getD,g1,Option.getD_some,g2,Option.getD_some]
 congr 1
 rw [IntKind.wrap_i64]
 omega
theorem hopN_len (A:List (List Int)) (h:Hop):(hopN A h).length<=1:=by
 rw [hopN]
 cases decide (0<=h.rule) <;> simp
def outV:Bool->List Int->AV
 | false,out=>.row 40 0 0 (out.map cI).length
 | true,out=>.ref 40 0 (.sl 0 out.length out.length)
def oB (fl:Bool) (out:List Int):List (Nat × SB):=[(9,⟨0,some (.box 74 [outV fl out])⟩),(40,⟨0,some (.row 3 1 (out.map cI))⟩)]
theorem Rn.outV {σ σ':Sto} {t m:Nat} {els:List (List AV)} {fl:Bool} {out:List Int} (h:σ 40=⟨0,some (.row t m els)⟩) (h':σ' 40=⟨0,some (.row t m els)⟩):Rn σ σ' (outV fl out) (outV fl out):=by
 cases fl
 ·exact Rn.rowIs rfl h h'
 ·exact Rn.refIs rfl h h'
theorem outV_one {fl:Bool} {out:List Int}:(outV fl out).one=true:=by
 cases fl <;> rfl
theorem outV_all {fl:Bool} {out:List Int}:[outV fl out].all AV.one=true:=by
 rw [List.all_cons,outV_one];rfl
theorem outV_fz {σ:Sto} {t m ep:Nat} {fl:Bool} {out:List Int} (h:σ 40=⟨ep,some (.row t m (out.map cI))⟩) (hep:ep=0):Fz σ (outV fl out) (.sl (out.map cI)) [40]:=by
 subst hep
 cases fl
 ·exact .row h (by rw [List.drop_zero,List.take_length])
 ·exact .rowref h (List.length_map ..)
theorem op_appC1 {α:Type} (cF:α->List AV) (l:List α) (x:α) (hL:l.length<=100000000) (h0l:0<l.length) {P:Program} {N:Nat} {o:Oper} {s:St} {c:Call} {xo yo:Operand} {t e id ep id2 ep2:Nat} {ti ei:TI} (ho:o.op = .call c) (hc:c.callee = .builtin .append) (ha:c.args = #[xo,yo]) (hat:c.argTypes = #[t,t]) (ht:TiOk P t ti) (hk:ti.k = .slice e) (he:TiOk P e ei) (h0:(ei.n == 0)=false) (hsz:Nat.ble ei.sz 1000=true)
  (hx:s.ev xo = .ref id ep (.sl 0 l.length l.length)) (hid0:s.σ id=⟨ep,some (.row e ei.n (l.map cF))⟩) (hy:s.ev yo = .row id2 ep2 0 1) (hid2:s.σ id2=⟨ep2,some (.row e ei.n [cF x])⟩) :
  OpLoc P N o s ⟨.row id (ep+1) 0 ((l++[x]).map cF).length,[(id,⟨ep+1,some (.row e ei.n ((l++[x]).map cF))⟩)],[id2]⟩:=by
 have h2:=Nat.le_of_ble_eq_true hsz
 refine op_appendC (els:=l.map cF) (els2:=[cF x]) ho hc ha hat ht hk he h0 hx hid0 (List.length_map ..) h0l hy hid2 (by simp) ?_ ?_ (by simp) rfl
 ·rw [List.length_map]
  show (l.length+1)*ei.sz<=_
  exact Nat.le_trans (Nat.mul_le_mul (show l.length+1<=100000001 by omega) h2) (by decide)
 ·rw [List.length_map]
  show l.length+1<=_
  omega
theorem d_RUsed0 (c:Cf) (V:Int) (hL:c.Lens) (he:lookE c V≠0):PDoes Tryz.prog 29 [.agg (cCf c),.i .i64 V] (.tup [.sl [],.i .i64 (lookE c V)]):=by
 refine PDoes.of_bodyN Tryz.func29 rfl (by kernel_rfl) rfl rfl ?_
 have hl:=d_look c V hL
 rw [lookR,decide_eq_false he] at hl
 refine jA ?_
 refine RG.callMS rfl rfl rfl rfl rfl rfl hl rfl ?_;refine wH rfl ?_;refine jA ?_
 refine AW.cond rfl (fun h=>?_) (fun h=>?_)
 rotate_left
 ·exact absurd (by simpa using h) he
 refine jA ?_
 refine AW.ret (retQA ty_ok rfl rfl rfl ?_)
 rfl
def MakeOk (L:List Int):Prop:=∀q,MDoes Tryz.prog 70 [.sl (L.map cI)] (gl q [] []) (.ref 5 0 (.sl 0 (mkL L).length (mkL L).length)) (gl q [] [(5,⟨0,some (.row 3 1 ((mkL L).map cI))⟩)])
end Go.Proofs.YtoaibdbehlcnfaaGreat.Sm
end
section
namespace Go.Proofs.YtoaibdbehlcnfaaGreat.Sm
open Go.RowKit
theorem makeOk_any {L:List Int} (h:L≠[]) (hl:L.length<=1000000):MakeOk L:=by
 cases L with
 | nil=>exact absurd rfl h
 | cons x l=>exact fun q=>o_MakeX x l hl (mkL_pos h) q
theorem lenT_flat (t:List (List Rl)):lenT t=t.flatten.length:=by rw [lenT,List.length_flatten]
theorem lenT_le {c:Cf} (h0:c.sound=0) (hL:c.Lens):∀t∈c.tables,lenT t<=96:=by
 intro t ht
 obtain ⟨n,hn⟩:=List.mem_iff_getElem?.1 ht
 have h3:=tabSound_ok ((Cf.ok h0).tabs n t hn)
 have h4:=Cf.small h0 hL t ht
 have h5:=countT_len t 0 (by omega)
 have h7:((0:Nat):Int)=0:=rfl
 rw [h7] at h5
 rw [lenT_flat]
 omega
theorem sum_le {l:List Nat} {m:Nat} (h:∀x∈l,x<=m):l.sum<=m*l.length:=by
 induction l with
 | nil=>exact Nat.zero_le _
 | cons x l ih =>
  have h1:=h x List.mem_cons_self
  have h2:=ih fun y hy=>h y (List.mem_cons_of_mem _ hy)
  rw [List.sum_cons,List.length_cons,Nat.mul_add]
  omega
theorem tables_sum {c:Cf} (h0:c.sound=0) (hL:c.Lens):(c.tables.map lenT).sum<=576:=by
 have hc:=Cf.ok h0
 have h1:=sum_le (l:=c.tables.map lenT) (m:=96) fun x hx=>by
  obtain ⟨t,ht,rfl⟩:=List.mem_map.1 hx
  exact lenT_le h0 hL t ht
 have h2:=topoSound_ok hc.topo
 have h3:=hc.len
 rw [List.length_map] at h1
 omega
structure UsedOk (N:Nat) (out:List Int):Prop where
 up:out.Pairwise (· < ·)
 lt:∀x∈out,0<=x/\x<(N:Int)
theorem UsedOk.len {N:Nat} {out:List Int} (h:UsedOk N out):out.length<=N:=by
 rcases up_len (N:=N) (a:=0) h.up (fun x hx=>h.lt x hx) with g | g
 ·omega
 ·rw [g];exact Nat.zero_le _
theorem hopN_in {c:Cf} {h:Hop} (hh:HopOk c h):∀x∈hopN (numAll 0 c.tables) h,0<=x/\x<((c.tables.map lenT).sum:Nat):=by
 obtain ⟨n,t,h1,h2,hat,h3,h4⟩:=hh
 obtain ⟨b,g1,_,g2⟩:=numAll_at c.tables 0 n hat.sw
 obtain ⟨a,g3,_,g4⟩:=numRow_at (c.tables.getD n []) b t hat.tab
 intro x hx
 rw [hopN] at hx
 by_cases h0:0<=h.rule
 ·rw [decide_eq_true h0,cond_true,h1,h2,Int.toNat_natCast,Int.toNat_natCast,List.getD_eq_getElem?_getD,List.getD_eq_getElem?_getD,g1,Option.getD_some,g3,Option.getD_some] at hx
  rw [List.mem_singleton.1 hx]
  rw [tabOf] at h4
  omega
 ·rw [decide_eq_false h0] at hx;cases hx
theorem hopsN_mem {A:List (List Int)} {x:Int}:∀{l:List Hop},x∈hopsN A l↔∃h∈l,x∈hopN A h
 | []=>by rw [hopsN];simp
 | h::l=>by
  rw [hopsN,List.mem_append,hopsN_mem (l:=l)]
  simp
theorem hopsN_len (A:List (List Int)):∀(l:List Hop),(hopsN A l).length<=l.length
 | []=>Nat.zero_le _
 | h::l=>by
  have:=hopN_len A h
  have:=hopsN_len A l
  rw [hopsN,List.length_append,List.length_cons]
  omega
theorem usedR_ok {c:Cf} (hc:c.Ok) {v:Int} {s:Sp} (hs:s∈edges c.topo.ports) {out:List Int} (h:UsedOk (c.tables.map lenT).sum out) (a:Atom):UsedOk (c.tables.map lenT).sum (usedR (numAll 0 c.tables) c v s out a):=by
 refine ⟨mkL_up _,fun x hx=>?_⟩
 rw [usedR,mkL_mem,List.mem_append] at hx
 rcases hx with hx | hx
 ·exact h.lt x hx
 ·obtain ⟨y,hy,hx⟩:=hopsN_mem.1 hx
  exact hopN_in (runOf_hops hc hs a.head v 10800 y hy) x hx
theorem usedF_ok {c:Cf} (hc:c.Ok) {v:Int} {s:Sp} (hs:s∈edges c.topo.ports):∀(l:List Atom) {out:List Int},UsedOk (c.tables.map lenT).sum out->UsedOk (c.tables.map lenT).sum (usedF (numAll 0 c.tables) c v s l out)
 | [],out,h=>h
 | a::l,out,h=>by
  rw [usedF,List.foldl_cons]
  exact usedF_ok hc hs l (usedR_ok hc hs h a)
theorem usedG_ok {c:Cf} (hc:c.Ok) {v:Int} {list:List Atom}:∀(ss:List Sp) {out:List Int},(∀s∈ss,s∈edges c.topo.ports)->UsedOk (c.tables.map lenT).sum out->UsedOk (c.tables.map lenT).sum (usedG (numAll 0 c.tables) c v list ss out)
 | [],out,_,h=>h
 | s::ss,out,hs,h=>by
  rw [usedG]
  exact usedG_ok hc ss (fun x hx=>hs x (List.mem_cons_of_mem _ hx)) (usedF_ok hc (hs s List.mem_cons_self) list h)
theorem usedAll_ok {c:Cf} (hc:c.Ok) (v:Int):UsedOk (c.tables.map lenT).sum (usedAll c v):=usedG_ok hc _ (fun _ h=>h) ⟨List.Pairwise.nil,fun x hx=>by cases hx⟩
def outW:List Int->AV
 | []=>.raw (.slice none 0 0)
 | x::l=>.ref 40 0 (.sl 0 (x::l).length (x::l).length)
def oW (out:List Int):List (Nat × SB):=[(9,⟨0,some (.box 74 [outW out])⟩),(40,⟨0,some (.row 3 1 (out.map cI))⟩)]
theorem outW_one {out:List Int}:(outW out).one=true:=by
 cases out <;> rfl
theorem outW_all {out:List Int}:[outW out].all AV.one=true:=by
 rw [List.all_cons,outW_one];rfl
theorem oW_nof (out:List Int):(oW out).all nofSB=true:=by
 have h2:nofSB (40,⟨0,some (.row 3 1 (out.map cI))⟩)=true:=by
  simp only [nofSB,Body.nof]
  rw [Bool.and_eq_true]
  refine ⟨rfl,List.all_eq_true.2 fun cs hcs=>?_⟩
  obtain ⟨x,_,rfl⟩:=List.mem_map.1 hcs
  rfl
 have h1:nofSB (9,⟨0,some (.box 74 [outW out])⟩)=true:=by
  cases out <;> rfl
 rw [oW,List.all_cons,List.all_cons,h1,h2]
 rfl
theorem Rn.outW {σ σ':Sto} {t m:Nat} {els:List (List AV)} {out:List Int} (h:σ 40=⟨0,some (.row t m els)⟩) (h':σ' 40=⟨0,some (.row t m els)⟩):Rn σ σ' (outW out) (outW out):=by
 cases out
 ·exact Rn.is rfl rfl
 ·exact Rn.refIs rfl h h'
theorem d_RUsedX (c : Cf) (V : Int) (hL : c.Lens) (he : lookE c V = 0) :
    PDoes Tryz.prog 29 [.agg (cCf c),.i .i64 V] (.tup [.sl ((usedAll c V).map cI),.i .i64 0]):=by
  refine PDoes.of_bodyN Tryz.func29 rfl (by kernel_rfl) rfl rfl ?_
  have hl:=d_look c V hL
  rw [lookR,decide_eq_true he] at hl
  obtain ⟨h0,v,rfl,hV⟩:=malE_nat (lookE_mal he)
  have hLk:=looks_any h0 hL
  have hc:=Cf.ok h0
  have hE:=edges_len hc.topo
  have hme:(edges c.topo.ports).length<=9223372036854775807:=by omega
  have htp:=topoSound_ok hc.topo
  have hB:(c.tables.map lenT).sum<=1000000000:=by
    have:=tables_sum h0 hL
    omega
  have hN:=d_numbers c (by rw [hc.len];omega) (fun t ht=>by
    obtain ⟨n,hn⟩:=List.mem_iff_getElem?.1 ht
    have:=(tabSound_ok (hc.tabs n t hn)).2.1
    omega) hB
  refine jA ?_
  refine RG.callMS rfl rfl rfl rfl rfl rfl hl rfl ?_;refine wH rfl ?_;refine jA ?_
  refine AW.condF rfl ?_;refine jA ?_
  refine RG.callMS rfl rfl rfl rfl rfl rfl hN rfl ?_;refine wH rfl ?_;refine jA ?_
  refine RG.callMS rfl rfl rfl rfl rfl rfl (d_Edges c.topo.ports hc.topo) rfl ?_;refine wH rfl ?_;refine jA ?_
  refine AW.nilRow 40 0 3 1 [(2,.own 2 0 0),(6,.ro (cLk c v (lookA c v))),(8,.own 8 0 0),(9,.own 9 0 0),(29,.sl ((edges c.topo.ports).map cSp)),(30,.i .i64 ((edges c.topo.ports).map cSp).length),(31,.i .i64 (0:Nat))] [(2,⟨0,some (.box 31 (cCf c))⟩),(8,⟨0,some (.box 138 [.sl ((numAll 0 c.tables).map cNum)])⟩),(9,⟨0,some (.box 74 [.raw (.slice none 0 0)])⟩),(40,⟨0,some (.row 3 1 [])⟩)] ⟨.rn (Rn.ownIs rfl rfl rfl),.rn (Rn.is rfl rfl),.rn (Rn.ownIs rfl rfl rfl),.rn (Rn.ownIs rfl rfl rfl),.rn (Rn.is rfl rfl),.rn (Rn.is rfl rfl),.rn (Rn.is rfl rfl),trivial⟩ ⟨.old (WkB1.same rfl rfl rfl),.old (WkB1.same rfl rfl rfl),.old (WkB1.same rfl rfl rfl),.old (.row rfl rfl),trivial⟩ ?_
  refine AW.freeze [2,8] [(6,.ro (cLk c v (lookA c v))),(8,.ro [.sl ((numAll 0 c.tables).map cNum)]),(9,.own 9 0 0),(29,.sl ((edges c.topo.ports).map cSp)),(30,.i .i64 ((edges c.topo.ports).map cSp).length),(31,.i .i64 (0:Nat))] (oW []) ⟨.rn (Rn.is rfl rfl),.fzA rfl rfl rfl,.rn (Rn.ownIs rfl rfl rfl),.rn (Rn.is rfl rfl),.rn (Rn.is rfl rfl),.rn (Rn.is rfl rfl),trivial⟩ ⟨.old (WkB1.same rfl rfl rfl),.old (.row rfl rfl),trivial⟩ rfl ?_
  rw [usedAll]
  have hA:∀s∈edges c.topo.ports,∀g:Hd,∀x∈(runOf c s g v 10800).hops,HopA (numAll 0 c.tables) x:=fun s hs g x hx=>(runOf_hops hc hs g v 10800 x hx).A hB
  have hR:∀s∈edges c.topo.ports,∀a out,UsedOk (c.tables.map lenT).sum out->UsedOk (c.tables.map lenT).sum (usedR (numAll 0 c.tables) c v s out a):=fun s hs a out h=>usedR_ok hc hs h a
  have hN5:=tables_sum h0 hL
  have hG0:UsedOk (c.tables.map lenT).sum []:=⟨List.Pairwise.nil,fun x hx=>by cases hx⟩
  generalize hNN:(c.tables.map lenT).sum=NN at hR hN5 hG0
  clear hN hB hNN
  generalize numAll 0 c.tables=A at hA hR
  generalize lookA c v=list
  generalize hEE:edges c.topo.ports=E at hE hme hR
  refine AW.loopL (ι:=Nat × List Int) (fun i=>[(6,.ro (cLk c v list)),(8,.ro [.sl (A.map cNum)]),(9,.own 9 0 0),(29,.sl (E.map cSp)),(30,.i .i64 (E.map cSp).length),(31,.i .i64 (i.1:Nat))]) (fun i=>oW i.2) (fun i=>i.1<=E.length/\UsedOk NN i.2/\usedG A c v list (E.drop i.1) i.2=usedG A c v list E []) (fun i=>E.length - i.1) (0,[]) ⟨Nat.zero_le _,hG0,rfl⟩ jV ⟨WkB1.same rfl rfl rfl,.row rfl rfl,trivial⟩ fun i hi=>?_
  obtain ⟨k,out⟩:=i
  obtain ⟨hk,hg,hf⟩:=hi
  simp only at hk hg hf
  refine jA ?_
  refine AW.cond rfl (fun h=>?_) (fun h=>?_)
  rotate_left
  · have h:¬k<E.length:=by simpa using h
    obtain rfl:k=E.length:=by omega
    rw [List.drop_length,usedG] at hf
    rw [<- hf]
    cases out with
    | nil =>
      refine jA ?_
      refine jE ?_;refine jA ?_
      refine AW.ret (retQA ty_ok rfl rfl rfl ?_)
      rfl
    | cons x0 l0 =>
      generalize hout:x0::l0=out
      refine jA ?_
      refine jE ?_
      refine AW.freeze [40] [(9,.own 9 0 0)] [(9,⟨0,some (.box 74 [.sl (out.map cI)])⟩)] ⟨.rn (Rn.ownIs rfl rfl rfl),trivial⟩ ⟨.boxL rfl ⟨.fz (by rw [<- hout];exact Fz.rowref rfl (List.length_map ..)) (by simp),trivial⟩ rfl,trivial⟩ rfl ?_
      refine jA ?_
      refine AW.ret (retQA ty_ok rfl rfl rfl ?_)
      rfl
  have h:k<E.length:=by simpa using h
  rw [List.drop_eq_getElem_cons h,usedG] at hf
  have hs:=List.getElem_mem h
  have hAk:=hA E[k] (by rw [hEE];exact hs)
  have hRk:=hR E[k] hs
  have hI:=i_runs c h0 hLk E[k] (by rw [hEE];exact hs) v hV list
  have hms:=fun (g:Hd)=>goF_most (c:=c) 10800 E[k].sw.toNat 0 (g.set (stampOf c E[k] v)) []
  have hmr:∀g:Hd,(runOf c E[k] g v 10800).hops.length<=10800:=fun g=>by
    have:=hms g
    simp only [List.length_nil,Nat.zero_add] at this
    exact this
  clear hms
  refine jA ?_
  refine RG.opS rfl (op_index rfl (tk rfl) rfl (tk rfl) rfl rfl (show (E.map cSp)[k]?=some (cSp E[k]) by rw [List.getElem?_map,List.getElem?_eq_getElem (by assumption)];rfl) rfl) rfl ?_
  generalize E[k]=s at hf hAk hRk hI hmr
  have hUF:∀j,j<=list.length->UsedOk NN (usedF A c v s (list.take j) out):=fun j hj=>by
    have:∀(l:List Atom) (o:List Int),UsedOk NN o->UsedOk NN (usedF A c v s l o):=by
      intro l
      induction l with
      | nil=>exact fun o h=>h
      | cons a l ih =>
        intro o h
        rw [usedF,List.foldl_cons]
        exact ih _ (hRk a o h)
    exact this _ _ hg
  refine wH rfl ?_;refine jA ?_
  refine RG.callMS rfl rfl rfl rfl rfl rfl (d_runs c v list s) rfl ?_;refine wH rfl ?_;refine jA ?_
  refine AW.rangeFunc hI rfl rfl (fun _=>rfl) rfl [9] [(6,.ro (cLk c v list)),(8,.ro [.sl (A.map cNum)]),(9,.own 9 0 0),(29,.sl (E.map cSp)),(30,.i .i64 (E.map cSp).length),(31,.i .i64 (k:Nat))] (fun pre=>oW (usedF A c v s (list.take pre.length) out)) jV ?_ rfl (fun pre id hid=>?_) (fun pre=>oW_nof _) ?_ ?_
  · exact ⟨.boxL rfl ⟨Rn.outW rfl rfl,trivial⟩ outW_all,.row rfl rfl,trivial⟩
  · obtain rfl:=List.mem_singleton.1 hid
    exact ⟨by decide,_,rfl⟩
  · rintro q _ j ⟨rfl,hj⟩
    have hget:list.getD j ⟨[],Hd.zero,[]⟩=list[j]:=by rw [List.getD_eq_getElem?_getD,List.getElem?_eq_getElem hj];rfl
    have henc:encR c v s list j=[.agg (cHd list[j].head),.agg (cRun (runOf c s list[j].head v 10800))]:=by rw [encR,hget]
    have hstep:usedF A c v s (list.take (List.range j++[j]).length) out=usedR A c v s (usedF A c v s (list.take (List.range j).length) out) list[j]:=by
      rw [List.length_append,List.length_range,List.length_singleton,List.take_add_one,List.getElem?_eq_getElem hj,usedF,List.foldl_append]
      rfl
    have hol:=(hUF (List.range j).length (by rw [List.length_range];omega)).len
    rw [hstep,henc,usedR]
    have hAj:=hAk list[j].head
    have hHl:=hmr list[j].head
    clear hstep henc hget hUF
    generalize usedF A c v s (list.take (List.range j).length) out=o at hol
    generalize list[j].head=hd at hAj hHl
    generalize runOf c s hd v 10800=r at hAj hHl
    cases o with
    | cons x0 l0 =>
      refine jA ?_
      generalize r.hops=H at hAj hHl
      have hlen:((x0::l0)++hopsN A H).length<=1000000:=by
        have:=hopsN_len A H
        rw [List.length_append]
        omega
      have hne:(x0::l0)++hopsN A H≠[]:=by simp
      refine AW.lens 41 rfl fun hmH=>?_
      rw [List.length_map] at hmH
      generalize hO:x0::l0=o at hlen hne
      refine AW.loopL (ι:=Nat × Bool × List Int) (fun i=>[(8,.ro [.sl (A.map cNum)]),(9,.own 9 0 0),(41,.sl (H.map cHop)),(42,.i .i64 (H.map cHop).length),(43,.i .i64 (i.1:Nat))]) (fun i=>gl q [9] (oB i.2.1 i.2.2)) (fun i=>i.1<=H.length/\(i.2.1=true->0<i.2.2.length)/\i.2.2++hopsN A (H.drop i.1)=o++hopsN A H) (fun i=>H.length - i.1) (0,true,o) ⟨Nat.zero_le _,fun _=>(by rw [<- hO];exact Nat.succ_pos _),rfl⟩ jV ⟨.ghost rfl rfl rfl,.boxL rfl ⟨(by rw [<- hO];exact Rn.refIs rfl rfl rfl),trivial⟩ rfl,.row rfl rfl,trivial⟩ fun i hi=>?_
      obtain ⟨m,g,u⟩:=i
      obtain ⟨hm,hg1,hfu⟩:=hi
      simp only at hm hg1 hfu
      have hul:u.length<=1000000:=by
        have:=congrArg List.length hfu
        rw [List.length_append] at this
        omega
      have lH:(H.map cHop).length=H.length:=List.length_map ..
      refine jA ?_
      refine AW.cond rfl (fun h1=>?_) (fun h1=>?_)
      rotate_left
      · have h':¬m<H.length:=by simpa using h1
        obtain rfl:m=H.length:=by omega
        rw [List.drop_length,hopsN,List.append_nil] at hfu
        rw [<- hfu] at hne
        have hM:=makeOk_any hne hul
        obtain ⟨y0,l0,hmk⟩:=List.exists_cons_of_length_pos (mkL_pos hne)
        rw [<- hfu]
        rw [MakeOk] at hM
        rw [hmk] at hM ⊢
        refine jB ?_
        refine jE ?_
        refine AW.freeze [40] [(9,.own 9 0 0)] (gl q [9] [(9,⟨0,some (.box 74 [.sl (u.map cI)])⟩)]) ⟨.rn (Rn.ownIs rfl rfl rfl),trivial⟩ ⟨.old (.ghost rfl rfl rfl),.boxL rfl ⟨.fz (outV_fz rfl rfl) (by simp),trivial⟩ rfl,trivial⟩ rfl ?_
        refine jA ?_
        refine RG.ownN [] [(5,40)] hM rfl rfl rfl rfl rfl rfl rfl rfl rfl rfl ?_
        refine wH rfl ?_;refine jA ?_
        exact ⟨.ghost rfl rfl rfl,.boxL rfl ⟨Rn.refIs rfl rfl rfl,trivial⟩ rfl,.row rfl rfl,trivial⟩
      have hm':m<H.length:=by simpa using h1
      have hx:=hAj _ (List.getElem_mem hm')
      rw [List.drop_eq_getElem_cons hm',hopsN] at hfu
      have hgH:(H.map cHop)[m]?=some (cHop H[m]):=by rw [List.getElem?_map,List.getElem?_eq_getElem hm'];rfl
      generalize H[m]=x at hx hfu hgH
      obtain ⟨n,t,a,row,x1,x2,y1,y2,y0,y3⟩:=hx
      refine jB ?_
      skip;(with_reducible first|apply wF|apply wG)
      refine wH rfl ?_
      refine RG.opS rfl (op_index rfl (tk rfl) rfl (tk rfl) rfl rfl hgH rfl) rfl ?_
      refine wH rfl ?_;refine jA ?_
      refine AW.cond rfl (fun h2=>?_) (fun h2=>?_)
      rotate_left
      · have h2:¬0<=x.rule:=by simpa using h2
        rw [hopN,decide_eq_false h2,cond_false,List.nil_append] at hfu
        refine jA ?_
        exact ⟨(m+1,g,u),⟨⟨hm',hg1,hfu⟩,by show H.length - (m+1)<H.length - m;omega⟩,jV,⟨.ghost rfl rfl rfl,.boxL rfl ⟨Rn.outV rfl rfl,trivial⟩ outV_all,.row rfl rfl,trivial⟩⟩
      have h2:0<=x.rule:=by simpa using h2
      rw [HopA.num x1 x2 y1 y2 h2 y3] at hfu
      have hgA:(A.map cNum)[n]?=some (cNum row):=by rw [List.getElem?_map,y1];rfl
      have hgr:(row.map cI)[t]?=some (cI a):=by rw [List.getElem?_map,y2];rfl
      obtain ⟨sw,tb,rl,hdr⟩:=x
      simp only at x1 x2 hfu
      subst x1 x2
      have hfu':(u++[IntKind.i64.wrap ((a:Int)+rl)])++hopsN A (H.drop (m+1))=o++hopsN A H:=by rw [<- hfu,List.append_assoc]
      cases g
      · refine jB ?_
        skip;(with_reducible first|apply wF|apply wG)
        refine wH rfl ?_
        refine RG.opS rfl (op_index rfl (tk rfl) rfl (tk rfl) rfl rfl hgA rfl) rfl ?_
        refine wH rfl ?_
        refine RG.opS rfl (op_index rfl (tk rfl) rfl (tk rfl) rfl rfl hgr rfl) rfl ?_
        refine wH rfl ?_
        refine RG.opS rfl (op_app1 cI u (IntKind.i64.wrap ((a:Int)+rl)) (by omega) rfl rfl rfl rfl (tk rfl) rfl (tk rfl) rfl rfl ⟨_,rfl,rfl⟩ rfl rfl) rfl ?_;refine wH rfl ?_;refine jA ?_
        exact ⟨(m+1,false,_),⟨⟨hm',fun h=>(by cases h),hfu'⟩,by show H.length - (m+1)<H.length - m;omega⟩,jV,⟨.ghost rfl rfl rfl,.boxL rfl ⟨Rn.rowIs rfl rfl rfl,trivial⟩ rfl,.row rfl rfl,trivial⟩⟩
      · have hu0:=hg1 rfl
        refine jB ?_
        skip;(with_reducible first|apply wF|apply wG)
        refine wH rfl ?_
        refine RG.opS rfl (op_index rfl (tk rfl) rfl (tk rfl) rfl rfl hgA rfl) rfl ?_
        refine wH rfl ?_
        refine RG.opS rfl (op_index rfl (tk rfl) rfl (tk rfl) rfl rfl hgr rfl) rfl ?_
        refine wH rfl ?_
        refine RG.opS rfl (op_appC1 cI u (IntKind.i64.wrap ((a:Int)+rl)) (by omega) hu0 rfl rfl rfl rfl (tk rfl) rfl (tk rfl) rfl rfl rfl rfl rfl rfl) rfl ?_
        refine wH rfl ?_;refine jA ?_
        exact ⟨(m+1,false,_),⟨⟨hm',fun h=>(by cases h),hfu'⟩,by show H.length - (m+1)<H.length - m;omega⟩,jV,⟨.ghost rfl rfl rfl,.boxL rfl ⟨Rn.rowIs rfl rfl rfl,trivial⟩ rfl,.row rfl rfl,trivial⟩⟩
    | nil =>
      by_cases hne:[]++hopsN A r.hops=[]
      · rw [hne]
        rw [List.nil_append] at hne
        refine jA ?_
        generalize r.hops=H at hAj hHl hne
        refine AW.lens 41 rfl fun hmH=>?_
        rw [List.length_map] at hmH
        refine AW.loopL (ι:=Nat) (fun i=>[(9,.own 9 0 0),(41,.sl (H.map cHop)),(42,.i .i64 (H.map cHop).length),(43,.i .i64 (i:Nat))]) (fun i=>gl q [9] (oW [])) (fun i=>i<=H.length/\hopsN A (H.drop i)=[]) (fun i=>H.length - i) 0 ⟨Nat.zero_le _,hne⟩ jV ⟨.ghost rfl rfl rfl,WkB1.same rfl rfl rfl,.row rfl rfl,trivial⟩ fun m hm=>?_
        obtain ⟨hm,hfu⟩:=hm
        have lH:(H.map cHop).length=H.length:=List.length_map ..
        refine jA ?_
        refine AW.cond rfl (fun h1=>?_) (fun h1=>?_)
        rotate_left
        · have h':¬m<H.length:=by simpa using h1
          obtain rfl:m=H.length:=by omega
          refine jA ?_
          refine jE ?_;refine jA ?_
          refine RG.ownQ [] [] m_MakeNil rfl rfl rfl rfl rfl rfl rfl rfl rfl rfl ?_
          refine wH rfl ?_;refine jA ?_
          exact ⟨.ghost rfl rfl rfl,.boxL rfl ⟨Rn.is rfl rfl,trivial⟩ rfl,.row rfl rfl,trivial⟩
        have hm':m<H.length:=by simpa using h1
        rw [List.drop_eq_getElem_cons hm',hopsN,List.append_eq_nil_iff] at hfu
        have hgH:(H.map cHop)[m]?=some (cHop H[m]):=by rw [List.getElem?_map,List.getElem?_eq_getElem hm'];rfl
        generalize H[m]=x at hfu hgH
        have hr:¬0<=x.rule:=fun h0=>by
          have:=hfu.1
          rw [hopN,decide_eq_true h0] at this
          cases this
        refine jB ?_
        skip;(with_reducible first|apply wF|apply wG)
        refine wH rfl ?_
        refine RG.opS rfl (op_index rfl (tk rfl) rfl (tk rfl) rfl rfl hgH rfl) rfl ?_
        refine wH rfl ?_;refine jA ?_
        refine AW.cond rfl (fun h2=>?_) (fun h2=>?_)
        · exact absurd (by simpa using h2) hr
        refine jA ?_
        exact ⟨m+1,⟨⟨hm',hfu.2⟩,by show H.length - (m+1)<H.length - m;omega⟩,jV,⟨.ghost rfl rfl rfl,WkB1.same rfl rfl rfl,.row rfl rfl,trivial⟩⟩
      · refine jA ?_
        generalize r.hops=H at hAj hHl hne
        have hlen:([]++hopsN A H).length<=1000000:=by
          have:=hopsN_len A H
          rw [List.nil_append]
          omega
        refine AW.lens 41 rfl fun hmH=>?_
        rw [List.length_map] at hmH
        refine AW.nilRow 40 1 3 1 [(8,.ro [.sl (A.map cNum)]),(9,.own 9 0 0),(41,.sl (H.map cHop)),(42,.i .i64 (H.map cHop).length),(43,.i .i64 (0:Nat))] (gl q [9] [(9,⟨0,some (.box 74 [.row 40 1 0 0])⟩),(40,⟨1,some (.row 3 1 [])⟩)]) ⟨.rn (Rn.is rfl rfl),.rn (Rn.ownIs rfl rfl rfl),.rn (Rn.is rfl rfl),.rn (Rn.is rfl rfl),.rn (Rn.is rfl rfl),trivial⟩ ⟨.old (.ghost rfl rfl rfl),.boxL rfl ⟨.nil rfl,trivial⟩ rfl,.old (.row rfl rfl),trivial⟩ ?_
        refine AW.loopL (ι:=Nat × Bool × List Int) (fun i=>[(8,.ro [.sl (A.map cNum)]),(9,.own 9 0 0),(41,.sl (H.map cHop)),(42,.i .i64 (H.map cHop).length),(43,.i .i64 (i.1:Nat))]) (fun i=>gl q [9] (oB i.2.1 i.2.2)) (fun i=>i.1<=H.length/\(i.2.1=true->0<i.2.2.length)/\i.2.2++hopsN A (H.drop i.1)=([]:List Int)++hopsN A H) (fun i=>H.length - i.1) (0,false,[]) ⟨Nat.zero_le _,fun h=>(by cases h),rfl⟩ jV ⟨.ghost rfl rfl rfl,.boxL rfl ⟨Rn.rowIs rfl rfl rfl,trivial⟩ rfl,.row rfl rfl,trivial⟩ fun i hi=>?_
        obtain ⟨m,g,u⟩:=i
        obtain ⟨hm,hg1,hfu⟩:=hi
        simp only at hm hg1 hfu
        have hul:u.length<=1000000:=by
          have:=congrArg List.length hfu
          rw [List.length_append] at this
          omega
        have lH:(H.map cHop).length=H.length:=List.length_map ..
        refine jA ?_
        refine AW.cond rfl (fun h1=>?_) (fun h1=>?_)
        rotate_left
        · have h':¬m<H.length:=by simpa using h1
          obtain rfl:m=H.length:=by omega
          rw [List.drop_length,hopsN,List.append_nil] at hfu
          rw [<- hfu] at hne
          have hM:=makeOk_any hne hul
          obtain ⟨y0,l0,hmk⟩:=List.exists_cons_of_length_pos (mkL_pos hne)
          rw [<- hfu]
          rw [MakeOk] at hM
          rw [hmk] at hM ⊢
          refine jB ?_
          refine jE ?_
          refine AW.freeze [40] [(9,.own 9 0 0)] (gl q [9] [(9,⟨0,some (.box 74 [.sl (u.map cI)])⟩)]) ⟨.rn (Rn.ownIs rfl rfl rfl),trivial⟩ ⟨.old (.ghost rfl rfl rfl),.boxL rfl ⟨.fz (outV_fz rfl rfl) (by simp),trivial⟩ rfl,trivial⟩ rfl ?_
          refine jA ?_
          refine RG.ownN [] [(5,40)] hM rfl rfl rfl rfl rfl rfl rfl rfl rfl rfl ?_
          refine wH rfl ?_;refine jA ?_
          exact ⟨.ghost rfl rfl rfl,.boxL rfl ⟨Rn.refIs rfl rfl rfl,trivial⟩ rfl,.row rfl rfl,trivial⟩
        have hm':m<H.length:=by simpa using h1
        have hx:=hAj _ (List.getElem_mem hm')
        rw [List.drop_eq_getElem_cons hm',hopsN] at hfu
        have hgH:(H.map cHop)[m]?=some (cHop H[m]):=by rw [List.getElem?_map,List.getElem?_eq_getElem hm'];rfl
        generalize H[m]=x at hx hfu hgH
        obtain ⟨n,t,a,row,x1,x2,y1,y2,y0,y3⟩:=hx
        refine jB ?_
        skip;(with_reducible first|apply wF|apply wG)
        refine wH rfl ?_
        refine RG.opS rfl (op_index rfl (tk rfl) rfl (tk rfl) rfl rfl hgH rfl) rfl ?_
        refine wH rfl ?_;refine jA ?_
        refine AW.cond rfl (fun h2=>?_) (fun h2=>?_)
        rotate_left
        · have h2:¬0<=x.rule:=by simpa using h2
          rw [hopN,decide_eq_false h2,cond_false,List.nil_append] at hfu
          refine jA ?_
          exact ⟨(m+1,g,u),⟨⟨hm',hg1,hfu⟩,by show H.length - (m+1)<H.length - m;omega⟩,jV,⟨.ghost rfl rfl rfl,.boxL rfl ⟨Rn.outV rfl rfl,trivial⟩ outV_all,.row rfl rfl,trivial⟩⟩
        have h2:0<=x.rule:=by simpa using h2
        rw [HopA.num x1 x2 y1 y2 h2 y3] at hfu
        have hgA:(A.map cNum)[n]?=some (cNum row):=by rw [List.getElem?_map,y1];rfl
        have hgr:(row.map cI)[t]?=some (cI a):=by rw [List.getElem?_map,y2];rfl
        obtain ⟨sw,tb,rl,hdr⟩:=x
        simp only at x1 x2 hfu
        subst x1 x2
        have hfu':(u++[IntKind.i64.wrap ((a:Int)+rl)])++hopsN A (H.drop (m+1))=([]:List Int)++hopsN A H:=by rw [<- hfu,List.append_assoc]
        cases g
        · refine jB ?_
          skip;(with_reducible first|apply wF|apply wG)
          refine wH rfl ?_
          refine RG.opS rfl (op_index rfl (tk rfl) rfl (tk rfl) rfl rfl hgA rfl) rfl ?_
          refine wH rfl ?_
          refine RG.opS rfl (op_index rfl (tk rfl) rfl (tk rfl) rfl rfl hgr rfl) rfl ?_
          refine wH rfl ?_
          refine RG.opS rfl (op_app1 cI u (IntKind.i64.wrap ((a:Int)+rl)) (by omega) rfl rfl rfl rfl (tk rfl) rfl (tk rfl) rfl rfl ⟨_,rfl,rfl⟩ rfl rfl) rfl ?_;refine wH rfl ?_;refine jA ?_
          exact ⟨(m+1,false,_),⟨⟨hm',fun h=>(by cases h),hfu'⟩,by show H.length - (m+1)<H.length - m;omega⟩,jV,⟨.ghost rfl rfl rfl,.boxL rfl ⟨Rn.rowIs rfl rfl rfl,trivial⟩ rfl,.row rfl rfl,trivial⟩⟩
        · have hu0:=hg1 rfl
          refine jB ?_
          skip;(with_reducible first|apply wF|apply wG)
          refine wH rfl ?_
          refine RG.opS rfl (op_index rfl (tk rfl) rfl (tk rfl) rfl rfl hgA rfl) rfl ?_
          refine wH rfl ?_
          refine RG.opS rfl (op_index rfl (tk rfl) rfl (tk rfl) rfl rfl hgr rfl) rfl ?_
          refine wH rfl ?_
          refine RG.opS rfl (op_appC1 cI u (IntKind.i64.wrap ((a:Int)+rl)) (by omega) hu0 rfl rfl rfl rfl (tk rfl) rfl (tk rfl) rfl rfl rfl rfl rfl rfl) rfl ?_
          refine wH rfl ?_;refine jA ?_
          exact ⟨(m+1,false,_),⟨⟨hm',fun h=>(by cases h),hfu'⟩,by show H.length - (m+1)<H.length - m;omega⟩,jV,⟨.ghost rfl rfl rfl,.boxL rfl ⟨Rn.rowIs rfl rfl rfl,trivial⟩ rfl,.row rfl rfl,trivial⟩⟩
  · rintro q _ rfl
    have hgo:=hUF list.length (Nat.le_refl _)
    rw [List.take_length] at hgo
    have e:usedF A c v s (list.take (List.range list.length).length) out=usedF A c v s list out:=by rw [List.length_range,List.take_length]
    rw [e]
    generalize usedF A c v s list out=o at hgo hf
    refine jA ?_
    exact ⟨(k+1,o),⟨⟨h,hgo,hf⟩,by show E.length - (k+1)<E.length - k;omega⟩,jV,⟨.boxL rfl ⟨Rn.outW rfl rfl,trivial⟩ outW_all,.row rfl rfl,trivial⟩⟩
end Go.Proofs.YtoaibdbehlcnfaaGreat.Sm
end
section
namespace Go.Proofs.YtoaibdbehlcnfaaGreat.Sm
open Go.RowKit
theorem lookE_cases {c:Cf} {v:Nat} (hv:v<=255) (h0:c.sound=0) (h:lookE c v≠0):lookE c v=10\/lookE c v=11:=by
 have hc:=Cf.ok h0
 obtain ⟨hsnd,hask⟩:=askedOf_ok hc (v:Int)
 have hp:=sortG_perm (askedOf c (v:Int))
 rw [lookE,decide_eq_true (malE_zero h0 hv),cond_true] at h ⊢
 by_cases h1:(askedOf c (v:Int)).length>500
 ·rw [decide_eq_true h1,cond_true]
  exact .inl rfl
 rw [decide_eq_false h1,cond_false] at h ⊢
 obtain ⟨g1,_⟩:=atomsOf_ok (ps:=sortG (askedOf c (v:Int))) (fun x hx=>hsnd x (hp.mem_iff.1 hx)) (by rw [hp.length_eq];omega)
 rcases g1 with g | g | g
 ·exact absurd g h
 ·rw [g];exact .inl rfl
 ·rw [g];exact .inr rfl
theorem look_alike {c:Cf} {v:Nat} (h:lookE c v=0) {s:Sp} (hs:s∈edges c.topo.ports) (g:Hd):∃a∈lookA c v,(runOf c s g v 10800).Alike (runOf c s a.head v 10800):=by
 have h0:=malE_sound (lookE_mal h)
 have hc:=Cf.ok h0
 obtain ⟨hsnd,hask⟩:=askedOf_ok hc (v:Int)
 have hp:=sortG_perm (askedOf c (v:Int))
 rw [lookE,decide_eq_true (lookE_mal h),cond_true] at h
 rw [lookA]
 by_cases h1:(askedOf c (v:Int)).length>500
 ·rw [decide_eq_true h1,cond_true] at h
  cases h
 rw [decide_eq_false h1,cond_false] at h
 have hA:=hask (by omega)
 obtain ⟨_,g2⟩:=atomsOf_ok (ps:=sortG (askedOf c (v:Int))) (fun x hx=>hsnd x (hp.mem_iff.1 hx)) (by rw [hp.length_eq];omega)
 have hP:=g2 h
 obtain ⟨a,ha,hh⟩:=hP.all g
 have hlike:Like (askedOf c (v:Int)) g a.head:=fun p hpp=>hP.like a ha g a.head hh (hP.head a ha) p (hp.mem_iff.2 hpp)
 exact ⟨a,ha,runOf_alike hc hA hs hlike 10800⟩
end Go.Proofs.YtoaibdbehlcnfaaGreat.Sm
end
section
namespace Go.Proofs.YtoaibdbehlcnfaaGreat.Sm
open Go.RowKit
theorem rpairsR_ok {c:Cf} {V:Int} (h:lookE c V=0):rpairsR c V = .tup [.sl ((pairsAll c V).map cPair),.i .i64 0]:=by rw [rpairsR,decide_eq_true h];rfl
theorem rfromR_ok {c:Cf} {V:Int} {s:Sp} (h:fromE c V s=0):rfromR c V s = .tup [.sl (((pairsOf c V (lookA c V) s).map Pair.to).map cSp),.i .i64 0]:=by rw [rfromR,h];rfl
end Go.Proofs.YtoaibdbehlcnfaaGreat.Sm
end
section
namespace Go.Proofs.YtoaibdbehlcnfaaGreat.Sm
open Go.RowKit
theorem m_line30 (q:Nat->Option (Nat × Nat)):MDoes Tryz.prog 61 [] (gl q [] []) lnV (gl q [] lnB):=by
 refine MDoes.of_body Tryz.func61 rfl (by kernel_rfl) rfl rfl ?_
 refine jB ?_
 refine wF ?_;refine wH rfl ?_;refine jB ?_
 refine wF ?_;refine wH rfl ?_;refine jB ?_
 refine wF ?_;refine wH rfl ?_;refine jB ?_
 refine wF ?_;refine wH rfl ?_;refine jB ?_
 refine wF ?_;refine wH rfl ?_;refine jB ?_
 refine AW.text ?_
 refine RG.runG ty_ok 0 5 rfl ?_
 refine RG.opS rfl (op_buildRef (id:=301) rfl (tk rfl) rfl (tk rfl) rfl (by decide) rfl rfl rfl rfl rfl) rfl ?_
 refine RG.runG ty_ok 0 5 rfl ?_
 refine RG.opS rfl (op_buildRef (id:=302) rfl (tk rfl) rfl (tk rfl) rfl (by decide) rfl rfl rfl rfl rfl) rfl ?_
 refine RG.opS rfl (op_buildRef (id:=300) rfl (tk rfl) rfl (tk rfl) rfl (by decide) rfl rfl rfl rfl rfl) rfl ?_
 refine wH rfl ?_;refine jA ?_
 refine AW.ret (retMA ty_ok rfl rfl (Rm.aggL rfl ⟨⟨Rm.rowIs rfl rfl rfl rfl,rfl⟩,⟨Rm.is rfl rfl,rfl⟩,⟨.nil,rfl⟩,⟨.nil,rfl⟩,⟨Rm.refIs rfl rfl rfl rfl,rfl⟩,trivial⟩) ⟨.boxL rfl ⟨Rn.refIs rfl rfl rfl,Rn.refIs rfl rfl rfl,trivial⟩ rfl,.boxL rfl ⟨Rn.rowIs rfl rfl rfl,trivial⟩ rfl,.boxL rfl ⟨Rn.rowIs rfl rfl rfl,trivial⟩ rfl,.row rfl rfl,.row rfl rfl,.row rfl rfl,trivial⟩)
theorem lens_line:lineC.Lens:=by
 intro t ht l hl
 simp only [lineC,List.mem_cons,List.not_mem_nil,or_false] at ht
 rcases ht with rfl | rfl
 ·simp only [List.mem_cons,List.not_mem_nil,or_false] at hl
  subst hl
  exact Nat.le_of_ble_eq_true (by kernel_rfl)
 ·simp only [List.mem_cons,List.not_mem_nil,or_false] at hl
  subst hl
  exact Nat.le_of_ble_eq_true (by kernel_rfl)
theorem lookE_line:lookE lineC 0=0:=by kernel_rfl
theorem pairs_line:pairsAll lineC 0=[⟨⟨0,0⟩,⟨1,1⟩,⟨0,1⟩⟩,⟨⟨1,1⟩,⟨1,1⟩,⟨0,1⟩⟩]:=by kernel_rfl
theorem from_line:fromE lineC 0 ⟨0,0⟩=0:=by kernel_rfl
theorem to_line:(pairsOf lineC 0 (lookA lineC 0) ⟨0,0⟩).map Pair.to=[⟨1,1⟩]:=by kernel_rfl
theorem used_line:usedAll lineC 0=[0,1,2,3]:=by kernel_rfl
theorem d_Used_line:PDoes Tryz.prog 29 [.agg (cCf lineC),.i .i64 0] (.tup [.sl (([0,1,2,3]:List Int).map cI),.i .i64 0]):=by
 rw [<- used_line]
 exact d_RUsedX lineC 0 lens_line lookE_line
theorem d_awake30:PDoes Tryz.prog 23 [] (.b true):=by
 refine PDoes.of_bodyN Tryz.func23 rfl (by kernel_rfl) rfl rfl ?_
 have hP:=d_RPairs lineC 0 lens_line
 rw [rpairsR_ok lookE_line,pairs_line] at hP
 have hF:=d_RFrom lineC 0 ⟨0,0⟩ lens_line
 rw [rfromR_ok from_line,to_line] at hF
 have hU:=d_Used_line
 refine jA ?_
 refine RG.ownN [] [(300,310),(301,311),(302,312),(24,324),(30,330),(12,313)] m_line30 rfl rfl rfl rfl rfl rfl rfl rfl rfl rfl ?_
 refine wH rfl ?_;refine jB ?_
 refine AW.freeze [310,311,312,324,330,313] [(1,.own 1 0 0)] [(1,⟨0,some (.box 31 (cCf lineC))⟩)] ⟨.rn (Rn.ownIs rfl rfl rfl),trivial⟩ ⟨.boxL rfl ⟨.fzA rfl rfl rfl,RnF.is rfl rfl,RnF.is rfl rfl,RnF.is rfl rfl,.fzA rfl rfl rfl,trivial⟩ rfl,trivial⟩ rfl ?_
 refine jA ?_
 refine RG.callMS rfl rfl rfl rfl rfl rfl hP rfl ?_;refine wH rfl ?_;refine jA ?_
 refine RG.callMS rfl rfl rfl rfl rfl rfl hF rfl ?_;refine wH rfl ?_;refine jA ?_
 refine RG.callMS rfl rfl rfl rfl rfl rfl hU rfl ?_;refine wH rfl ?_;refine jA ?_
 have hg:(([⟨⟨0,0⟩,⟨1,1⟩,⟨0,1⟩⟩,⟨⟨1,1⟩,⟨1,1⟩,⟨0,1⟩⟩]:List Pair).map cPair)[0]?=some (cPair ⟨⟨0,0⟩,⟨1,1⟩,⟨0,1⟩⟩):=rfl
 refine RG.opS rfl (op_index rfl (tk rfl) rfl (tk rfl) rfl rfl hg rfl) rfl ?_
 refine wH rfl ?_
 refine RG.opS rfl (op_eqG rfl ty_ok (by kernel_rfl) (by kernel_rfl) rfl rfl (eq_Sp ⟨1,1⟩ ⟨1,1⟩) (decide_eq_true rfl)) rfl ?_
 refine wH rfl ?_
 refine RG.opS rfl (op_index rfl (tk rfl) rfl (tk rfl) rfl rfl hg rfl) rfl ?_
 refine wH rfl ?_;refine jA ?_
 refine AW.ret (retQA ty_ok rfl rfl rfl ?_)
 rfl
end Go.Proofs.YtoaibdbehlcnfaaGreat.Sm
end
section
namespace Go.Proofs.YtoaibdbehlcnfaaGreat.Sm
open Go.RowKit
theorem goF_pref {c:Cf}:∀(f f' n t:Nat) (h:Hd) (pre:List Hop),f<=f'->∃m,(goF c f' n t h pre).hops=(goF c f n t h pre).hops++m
 | 0,f',n,t,h,pre,_=>by
  obtain ⟨m,hm⟩:=goF_pre (c:=c) f' n t h pre
  exact ⟨m,by rw [hm,goF]⟩
 | f+1,f',n,t,h,pre,hf=>by
  obtain ⟨g,rfl⟩:∃g,f'=g+1:=⟨f' - 1,by omega⟩
  rw [goF,goF]
  split
  ·exact ⟨[],by rw [List.append_nil]⟩
  ·split
   ·exact goF_pref f g _ _ _ _ (by omega)
   split
   ·exact goF_pref f g _ _ _ _ (by omega)
   split
   ·exact ⟨[],by rw [List.append_nil]⟩
   ·exact ⟨[],by rw [List.append_nil]⟩
theorem hopN_key {A:List (List Int)} {x y:Hop} (h:hopKey x=hopKey y):hopN A x=hopN A y:=by
 have h1:x.sw=y.sw:=congrArg (·.1) h
 have h2:x.table=y.table:=congrArg (·.2.1) h
 have h3:x.rule=y.rule:=congrArg (·.2.2) h
 rw [hopN,hopN,h1,h2,h3]
theorem usedR_keep {A:List (List Int)} {c:Cf} {v:Int} {s:Sp} {out:List Int} {a:Atom} {x:Int} (h:x∈out):x∈usedR A c v s out a:=by
 rw [usedR,mkL_mem]
 exact List.mem_append_left _ h
theorem usedF_keep {A:List (List Int)} {c:Cf} {v:Int} {s:Sp} {x:Int}:∀(l:List Atom) {out:List Int},x∈out->x∈usedF A c v s l out
 | [],out,h=>h
 | a::l,out,h=>by
  rw [usedF,List.foldl_cons]
  exact usedF_keep l (usedR_keep h)
theorem usedF_has {A:List (List Int)} {c:Cf} {v:Int} {s:Sp} {x:Int} {a:Atom} (hx:x∈hopsN A (runOf c s a.head v 10800).hops):∀(l:List Atom) {out:List Int},a∈l->x∈usedF A c v s l out
 | [],out,h=>by cases h
 | b::l,out,h=>by
  rw [usedF,List.foldl_cons]
  rcases List.mem_cons.1 h with rfl | h
  ·refine usedF_keep l ?_
   rw [usedR,mkL_mem]
   exact List.mem_append_right _ hx
  ·exact usedF_has hx l h
theorem usedG_keep {A:List (List Int)} {c:Cf} {v:Int} {list:List Atom} {x:Int}:∀(ss:List Sp) {out:List Int},x∈out->x∈usedG A c v list ss out
 | [],out,h=>h
 | s::ss,out,h=>by
  rw [usedG]
  exact usedG_keep ss (usedF_keep list h)
theorem usedG_has {A:List (List Int)} {c:Cf} {v:Int} {list:List Atom} {s:Sp} {x:Int} {a:Atom} (ha:a∈list) (hx:x∈hopsN A (runOf c s a.head v 10800).hops):∀(ss:List Sp) {out:List Int},s∈ss->x∈usedG A c v list ss out
 | [],out,h=>by cases h
 | r::ss,out,h=>by
  rw [usedG]
  rcases List.mem_cons.1 h with rfl | h
  ·exact usedG_keep ss (usedF_has hx list ha)
  ·exact usedG_has ha hx ss h
theorem used_has {c:Cf} {v:Nat} (he:lookE c v=0) {s:Sp} (hs:s∈edges c.topo.ports) (h:Hd) {most:Nat} (hm:most<=10800):∀x∈(runOf c s h v most).hops,∀y∈hopN (numAll 0 c.tables) x,y∈usedAll c v:=by
 intro x hx y hy
 obtain ⟨a,ha,hl⟩:=look_alike he hs h
 obtain ⟨m,hp⟩:=goF_pref (c:=c) most 10800 s.sw.toNat 0 (h.set (stampOf c s v)) [] hm
 have hx':x∈(runOf c s h v 10800).hops:=by
  show x∈(goF c 10800 s.sw.toNat 0 (h.set (stampOf c s v)) []).hops
  rw [hp]
  exact List.mem_append_left _ hx
 have hk:hopKey x∈(runOf c s a.head v 10800).hops.map hopKey:=by
  rw [<- hl.hops]
  exact List.mem_map_of_mem hx'
 obtain ⟨z,hz,e⟩:=List.mem_map.1 hk
 rw [<- hopN_key e] at hy
 exact usedG_has ha (hopsN_mem.2 ⟨z,hz,hy⟩) _ hs
def idN (c:Cf) (n t:Nat):Nat:=((c.tables.take n).map lenT).sum+(((c.tables.getD n []).take t).map List.length).sum
theorem numRow_is:∀(t:List (List Rl)) (m k:Nat),k<t.length->(numRow m t)[k]?=some ((m+((t.take k).map List.length).sum:Nat):Int)
 | [],m,k,h=>absurd h (Nat.not_lt_zero k)
 | l::t,m,0,h=>by rw [numRow];rfl
 | l::t,m,k+1,h=>by
  rw [numRow,List.getElem?_cons_succ,numRow_is t (m+l.length) k (by simpa using h),List.take_succ_cons,List.map_cons,List.sum_cons,Nat.add_assoc]
theorem numAll_is:∀(ts:List (List (List Rl))) (m n:Nat),n<ts.length->(numAll m ts)[n]?=some (numRow (m+((ts.take n).map lenT).sum) (ts.getD n []))
 | [],m,n,h=>absurd h (Nat.not_lt_zero n)
 | t::ts,m,0,h=>by rw [numAll];rfl
 | t::ts,m,n+1,h=>by
  rw [numAll,List.getElem?_cons_succ,numAll_is ts (m+lenT t) n (by simpa using h),List.take_succ_cons,List.map_cons,List.sum_cons,Nat.add_assoc]
  rfl
theorem hopN_is {c:Cf} {h:Hop} {n t ru:Nat} (h1:h.sw=n) (h2:h.table=t) (h3:h.rule=ru) (hat:At c n t):hopN (numAll 0 c.tables) h=[((ru+idN c n t:Nat):Int)]:=by
 have g1:=numAll_is c.tables 0 n hat.sw
 have g2:=numRow_is (c.tables.getD n []) (0+((c.tables.take n).map lenT).sum) t hat.tab
 rw [hopN,h3,decide_eq_true (by omega),cond_true,h1,h2,Int.toNat_natCast,Int.toNat_natCast,List.getD_eq_getElem?_getD,List.getD_eq_getElem?_getD,g1,Option.getD_some,g2,Option.getD_some,idN]
 congr 1
 omega
theorem take_sum {l:List Nat} (k:Nat):(l.take k).sum<=l.sum:=by
 have h:=List.take_append_drop k l
 have:=congrArg List.sum h
 rw [List.sum_append] at this
 omega
end Go.Proofs.YtoaibdbehlcnfaaGreat.Sm
end
section
namespace Go.Proofs.YtoaibdbehlcnfaaGreat.Sm
open Go.RowKit
end Go.Proofs.YtoaibdbehlcnfaaGreat.Sm
end
section
namespace Go.Proofs.YtoaibdbehlcnfaaGreat.Sm
open Go.RowKit
def spR (u:List Int) (id:Nat) (r:Rl):Rl:=bif u.any (fun z=>decide (z=(id:Int))) then r else ⟨r.prio,r.mat,⟨1,0,0,Cb.zero⟩⟩
def spL (u:List Int):Nat->List Rl->List Rl
 | _,[]=>[]
 | id,r::l=>spR u id r::spL u (id+1) l
def spT (u:List Int):Nat->List (List Rl)->List (List Rl)
 | _,[]=>[]
 | id,l::t=>spL u id l::spT u (id+l.length) t
def spA (u:List Int):Nat->List (List (List Rl))->List (List (List Rl))
 | _,[]=>[]
 | id,t::ts=>spT u id t::spA u (id+lenT t) ts
def spC (c:Cf) (u:List Int):Cf:=⟨c.topo,c.pol,spA u 0 c.tables⟩
theorem spL_get (u:List Int):∀(l:List Rl) (id k:Nat),(spL u id l)[k]?=(l[k]?).map (spR u (id+k))
 | [],id,k=>by rw [spL];simp
 | r::l,id,0=>by rw [spL];rfl
 | r::l,id,k+1=>by
  rw [spL,List.getElem?_cons_succ,List.getElem?_cons_succ,spL_get u l (id+1) k,show id+1+k=id+(k+1) by omega]
theorem spL_len (u:List Int):∀(l:List Rl) (id:Nat),(spL u id l).length=l.length
 | [],_=>rfl
 | r::l,id=>by rw [spL,List.length_cons,List.length_cons,spL_len u l]
theorem spT_get (u:List Int):∀(t:List (List Rl)) (id k:Nat),(spT u id t)[k]?=(t[k]?).map (spL u (id+((t.take k).map List.length).sum))
 | [],id,k=>by rw [spT];simp
 | l::t,id,0=>by rw [spT];rfl
 | l::t,id,k+1=>by
  rw [spT,List.getElem?_cons_succ,List.getElem?_cons_succ,spT_get u t (id+l.length) k,List.take_succ_cons,List.map_cons,List.sum_cons,Nat.add_assoc]
theorem spT_len (u:List Int):∀(l:List (List Rl)) (id:Nat),(spT u id l).length=l.length
 | [],_=>rfl
 | r::l,id=>by rw [spT,List.length_cons,List.length_cons,spT_len u l]
theorem spA_get (u:List Int):∀(t:List (List (List Rl))) (id k:Nat),(spA u id t)[k]?=(t[k]?).map (spT u (id+((t.take k).map lenT).sum))
 | [],id,k=>by rw [spA];simp
 | l::t,id,0=>by rw [spA];rfl
 | l::t,id,k+1=>by
  rw [spA,List.getElem?_cons_succ,List.getElem?_cons_succ,spA_get u t (id+lenT l) k,List.take_succ_cons,List.map_cons,List.sum_cons,Nat.add_assoc]
theorem spA_len (u:List Int):∀(l:List (List (List Rl))) (id:Nat),(spA u id l).length=l.length
 | [],_=>rfl
 | r::l,id=>by rw [spA,List.length_cons,List.length_cons,spA_len u l]
theorem spR_mat (u:List Int) (id:Nat) (r:Rl):(spR u id r).mat=r.mat/\(spR u id r).prio=r.prio:=by
 rw [spR]
 cases u.any (fun z=>decide (z=(id:Int)))
 ·exact ⟨rfl,rfl⟩
 ·exact ⟨rfl,rfl⟩
theorem fndF_sp (u:List Int) (h:Hd):∀(l:List Rl) (id i:Nat) (b:Option (Nat × Int)),fndF h i (spL u id l) b=fndF h i l b
 | [],_,_,_=>rfl
 | r::l,id,i,b=>by
  obtain ⟨h1,h2⟩:=spR_mat u id r
  rw [spL,fndF,fndF,h1,h2]
  exact fndF_sp u h l (id+1) (i+1) _
theorem fnd_sp (u:List Int) (h:Hd) (l:List Rl) (id:Nat):fnd (spL u id l) h=fnd l h:=by rw [fnd,fnd,fndF_sp]
theorem tabOf_sp {c:Cf} (u:List Int) {n t:Nat} (hat:At c n t):tabOf (spC c u) n t=spL u (idN c n t) (tabOf c n t):=by
 have hsw:=hat.sw
 have h1:c.tables[n]?=some c.tables[n]:=List.getElem?_eq_getElem hsw
 have e1:c.tables.getD n []=c.tables[n]:=by rw [List.getD_eq_getElem?_getD,h1];rfl
 have ht:t<c.tables[n].length:=by have:=hat.tab;rw [e1] at this;exact this
 have h2:c.tables[n][t]?=some c.tables[n][t]:=List.getElem?_eq_getElem ht
 have g1:(spC c u).tables.getD n []=spT u (0+((c.tables.take n).map lenT).sum) c.tables[n]:=by
  show (spA u 0 c.tables).getD n []=_
  rw [List.getD_eq_getElem?_getD,spA_get,h1];rfl
 rw [tabOf,tabOf,g1,e1,List.getD_eq_getElem?_getD,spT_get,h2,List.getD_eq_getElem?_getD,h2,idN,e1,Nat.zero_add]
 rfl
theorem spL_getD {u:List Int} {l:List Rl} {id r:Nat} (hr:r<l.length):(spL u id l).getD r Rl.zero=spR u (id+r) (l.getD r Rl.zero):=by
 rw [List.getD_eq_getElem?_getD,List.getD_eq_getElem?_getD,spL_get,List.getElem?_eq_getElem hr]
 rfl
theorem spR_keep {u:List Int} {id:Nat} {r:Rl} (h:(id:Int)∈u):spR u id r=r:=by
 rw [spR,List.any_eq_true.2 ⟨_,h,decide_eq_true rfl⟩]
 rfl
theorem goF_spare {c:Cf} (hc:c.Ok) {u:List Int}:∀(f n t:Nat) (h:Hd) (pre:List Hop),At c n t->(∀x∈(goF c f n t h pre).hops,∀y∈hopN (numAll 0 c.tables) x,y∈u)->goF (spC c u) f n t h pre=goF c f n t h pre
 | 0,n,t,h,pre,_,_=>rfl
 | f+1,n,t,h,pre,hat,hu=>by
  obtain ⟨m,hm⟩:=goF_one (c:=c) (f:=f) (n:=n) (t:=t) (h:=h) (pre:=pre)
  have hme:(⟨n,t,ruleOf c n t h,h⟩:Hop)∈(goF c (f+1) n t h pre).hops:=by rw [hm];simp
  have hmu:=hu _ hme
  rw [ruleOf] at hmu
  rw [goF] at hu
  rw [goF,goF,tabOf_sp u hat,fnd_sp]
  cases hq:fnd (tabOf c n t) h with
  | none=>rfl
  | some r =>
   rw [hq] at hu hmu
   obtain ⟨hlt,hr,_⟩:=fnd_lt hq
   have hid:((r+idN c n t:Nat):Int)∈u:=hmu _ (by
    rw [hopN_is (h:=⟨n,t,(r:Nat),h⟩) rfl rfl rfl hat]
    exact List.mem_singleton.2 rfl)
   dsimp only at hu ⊢
   rw [spL_getD hlt,Nat.add_comm,spR_keep hid]
   revert hr hu
   generalize (tabOf c n t).getD r Rl.zero=q
   intro hu hr
   by_cases k4:q.act.kind=4
   ·rw [if_pos k4] at hu ⊢
    rw [if_pos k4]
    exact goF_spare hc f _ _ _ _ (hat.goto hc hr k4) hu
   rw [if_neg k4] at hu ⊢
   rw [if_neg k4]
   by_cases k3:q.act.kind=3
   ·rw [if_pos k3] at hu ⊢
    rw [if_pos k3]
    exact goF_spare hc f _ _ _ _ (hat.forward hc hr k3) hu
   rw [if_neg k3]
   rw [if_neg k3]
theorem runOf_spare {c:Cf} {v:Nat} (he:lookE c v=0) {s:Sp} (hs:s∈edges c.topo.ports) (h:Hd) {most:Nat} (hm:most<=10800):runOf (spC c (usedAll c v)) s h v most=runOf c s h v most:=by
 have hc:=Cf.ok (malE_sound (lookE_mal he))
 have hu:=used_has he hs h hm
 rw [runOf] at hu ⊢
 rw [runOf]
 obtain ⟨n,r,a,p,hr,hp,hk,rfl⟩:=edges_mem.1 hs
 refine goF_spare hc _ _ _ _ _ (At.start hc ?_) hu
 have:=(List.getElem?_eq_some_iff.1 hr).1
 simp only [Int.toNat_natCast]
 omega
theorem spR_sound {u:List Int} {id:Nat} {r:Rl} {n:Nat} {m:Nat} {ports:List Pt} (h:(r.sound n ports && decide (r.act.table<(m:Nat)))=true) (hm:1<=m):((spR u id r).sound n ports && decide ((spR u id r).act.table<(m:Nat)))=true:=by
 rw [spR]
 cases u.any (fun z=>decide (z=(id:Int)))
 ·rw [cond_false]
  rw [Bool.and_eq_true,Rl.sound] at h ⊢
  simp only [Bool.and_eq_true] at h ⊢
  obtain ⟨⟨⟨⟨⟨h1,h2⟩,h3⟩,h4⟩,h5⟩,h6⟩:=h
  refine ⟨⟨⟨⟨⟨h1,h2⟩,h3⟩,by decide⟩,rfl⟩,decide_eq_true (by show (0:Int)<m;omega)⟩
 ·exact h
theorem rulesOk_sp {u:List Int} {n m:Nat} {ports:List Pt} (hm:1<=m):∀(l:List Rl) (id:Nat),rulesOk n m ports l=true->rulesOk n m ports (spL u id l)=true
 | [],_,_=>rfl
 | r::l,id,h=>by
  rw [rulesOk] at h
  cases hb:r.sound n ports && decide (r.act.table<(m:Nat))
  ·rw [hb] at h;cases h
  ·rw [hb,cond_true] at h
   rw [spL,rulesOk,spR_sound hb hm,cond_true]
   exact rulesOk_sp hm l (id+1) h
theorem tablesOk_sp {u:List Int} {m:Nat} {ports:List Pt} (hm:1<=m):∀(t:List (List Rl)) (id n:Nat),tablesOk m ports n t=true->tablesOk m ports n (spT u id t)=true
 | [],_,_,_=>rfl
 | l::t,id,n,h=>by
  rw [tablesOk] at h
  cases hb:rulesOk n m ports l
  ·rw [hb] at h;cases h
  ·rw [hb,cond_true] at h
   rw [spT,tablesOk,rulesOk_sp hm l id hb,cond_true]
   exact tablesOk_sp hm t (id+l.length) (n+1) h
theorem countT_sp (u:List Int):∀(t:List (List Rl)) (id:Nat) (m:Int),countT (spT u id t) m=countT t m
 | [],_,_=>rfl
 | l::t,id,m=>by
  rw [spT,countT,countT,spL_len]
  exact countT_sp u t _ _
theorem tabSound_sp {u:List Int} {t:List (List Rl)} {ports:List Pt} {id:Nat} (h:tabSound t ports=0):tabSound (spT u id t) ports=0:=by
 have hm:=(tabSound_ok h).1
 rw [tabSound] at h ⊢
 rw [spT_len,countT_sp]
 split at h
 ·cases h
 split at h
 ·cases h
 split at h
 ·rename_i h1 h2 h3
  rw [if_neg h1,if_neg h2,if_pos (tablesOk_sp hm t id 0 h3)]
 ·cases h
theorem edgesFit_sp {c:Cf} {u:List Int}:∀(l:List Sp),edgesFit (spC c u) l=edgesFit c l
 | []=>rfl
 | s::l=>by
  rw [edgesFit,edgesFit,edgesFit_sp l]
  rfl
theorem spC_ok {c:Cf} (hc:c.Ok) (u:List Int):(spC c u).Ok where
 topo:=hc.topo
 sizes:=by
  have h:=hc.sizes
  rw [sizesOk] at h ⊢
  rw [show (edges (spC c u).topo.ports)=edges c.topo.ports from rfl,edgesFit_sp]
  exact h
 pol:=hc.pol
 len:=(spA_len u c.tables 0).trans hc.len
 tabs:=fun n t h=>by
  have h:(spA u 0 c.tables)[n]?=some t:=h
  rw [spA_get] at h
  obtain ⟨t0,h0,rfl⟩:=Option.map_eq_some_iff.1 h
  exact tabSound_sp (hc.tabs n t0 h0)
def mixL {α:Type} (A B:List α) (n:Nat):List α:=A.take n++B.drop n
theorem mixL_zero {α:Type} (A B:List α):mixL A B 0=B:=by simp [mixL]
theorem mixL_end {α:Type} {A B:List α} (h:A.length=B.length):mixL A B B.length=A:=by
 rw [mixL,List.drop_length,List.append_nil,<- h,List.take_length]
theorem mixL_len {α:Type} {A B:List α} (h:A.length=B.length) {n:Nat} (hn:n<=B.length):(mixL A B n).length=B.length:=by
 rw [mixL,List.length_append,List.length_take,List.length_drop]
 omega
theorem mixL_get {α:Type} {A B:List α} (h:A.length=B.length) {n:Nat} (hn:n<B.length):(mixL A B n)[n]?=B[n]?:=by
 have hl:(A.take n).length=n:=by rw [List.length_take];omega
 rw [mixL,List.getElem?_append_right (by omega),hl,Nat.sub_self,List.getElem?_drop,Nat.add_zero]
theorem mixL_set {α:Type} {A B:List α} (h:A.length=B.length) {n:Nat} (hn:n<B.length) {x:α} (hx:A[n]?=some x):(mixL A B n).set n x=mixL A B (n+1):=by
 have hl:(A.take n).length=n:=by rw [List.length_take];omega
 rw [mixL,mixL,List.set_append_right _ _ (by omega),hl,Nat.sub_self,List.drop_eq_getElem_cons hn,List.set_cons_zero,List.take_add_one,hx,List.append_assoc]
 rfl
structure UpAt (u:List Int) (at_ id:Nat):Prop where
 le:at_<=u.length
 lo:∀z∈u.take at_,z<(id:Int)
 hi:∀z∈u.drop at_,(id:Int)<=z
theorem UpAt.hit {u:List Int} {at_ id:Nat} (hp:u.Pairwise (· < ·)) (h:UpAt u at_ id) {hlt:at_<u.length} (e:u[at_]=(id:Int)):UpAt u (at_+1) (id+1)/\u.any (fun z=>decide (z=(id:Int)))=true:=by
  have hd:=List.drop_eq_getElem_cons hlt
  refine ⟨⟨hlt,fun z hz=>?_,fun z hz=>?_⟩,List.any_eq_true.2 ⟨_,List.getElem_mem hlt,decide_eq_true e⟩⟩
  · rw [List.take_add_one,List.getElem?_eq_getElem hlt] at hz
    rcases List.mem_append.1 hz with hz | hz
    · have:=h.lo z hz;omega
    · have:z=u[at_]:=by simpa using hz
      omega
  · have hp':=hp.drop (i:=at_)
    rw [hd] at hp'
    have:=(List.pairwise_cons.1 hp').1 z hz
    omega
theorem UpAt.miss {u:List Int} {at_ id:Nat} (hp:u.Pairwise (· < ·)) (h:UpAt u at_ id) (e:∀hlt:at_<u.length,u[at_]≠(id:Int)):UpAt u at_ (id+1)/\u.any (fun z=>decide (z=(id:Int)))=false:=by
  have hge:∀z∈u.drop at_,(id:Int)+1<=z:=fun z hz=>by
    by_cases hlt:at_<u.length
    · have hd:=List.drop_eq_getElem_cons hlt
      have hp':=hp.drop (i:=at_)
      have h1:=h.hi u[at_] (by rw [hd];exact List.mem_cons_self)
      have h2:=e hlt
      rw [hd] at hp' hz
      rcases List.mem_cons.1 hz with rfl | hz
      · omega
      · have:=(List.pairwise_cons.1 hp').1 z hz
        omega
    · rw [List.drop_eq_nil_of_le (by omega)] at hz
      cases hz
  refine ⟨⟨h.le,fun z hz=>by have:=h.lo z hz;omega,fun z hz=>by have:=hge z hz;omega⟩,?_⟩
  rw [List.any_eq_false]
  intro z hz e'
  have e':=of_decide_eq_true e'
  rw [<- List.take_append_drop at_ u] at hz
  rcases List.mem_append.1 hz with hz | hz
  · have:=h.lo z hz;omega
  · have:=hge z hz;omega
end Go.Proofs.YtoaibdbehlcnfaaGreat.Sm
end
section
namespace Go.Proofs.YtoaibdbehlcnfaaGreat.Sm
open Go.RowKit
section
variable {P : Program} {N : Nat} {o : Oper} {s : St}
end
def AV.kn (p:Nat->Bool):AV->Bool
 | .own id _ _=>p id
 | .el id _ _ _=>p id
 | .row id _ _ _=>p id
 | .ref id _ _=>p id
 | .any=>true
 | x=>x.pu1
def Body.kn (p:Nat->Bool):Body->Bool
 | .box _ cs=>cs.all (AV.kn p)
 | .nest _ els=>els.all (AV.kn p)
 | .ghost _ _ _=>false
 | _=>true
theorem Rel.kn {W:World} {F:Nat->Prop} {μ:Mu} {σ σ':Sto} {p:Nat->Bool} {x:AV} (hk:x.kn p=true) (h:∀id,p id=true->σ' id=σ id) {v:Value} (hx:Rel W F μ σ x v):Rel W F μ σ' x v:=by
 cases hx with
 | pure h=>exact .pure h
 | own id ep off v he h1 hv=>rw [<- h id hk] at he;exact .own id ep off v he h1 fun bd hb=>hv bd (by rw [<- h id hk];exact hb)
 | el id ep k j v he h1 hv=>rw [<- h id hk] at he;exact .el id ep k j v he h1 fun bd m len hb hL=>hv bd m len (by rw [<- h id hk];exact hb) hL
 | row id ep off n v he h1 hv=>rw [<- h id hk] at he;exact .row id ep off n v he h1 fun bd m len hb hL=>hv bd m len (by rw [<- h id hk];exact hb) hL
 | ref id ep k v he h1 hv=>rw [<- h id hk] at he;exact .ref id ep k v he h1 fun bd hb=>hv bd (by rw [<- h id hk];exact hb)
 | agg cs vs hl h1 hr=>cases hk
 | tup cs vs hl hr=>cases hk
 | fn f first caps fs cs hf hc hr hr'=>cases hk
 | any v=>exact .any v
theorem BodyRel.kn {W:World} {F:Nat->Prop} {μ:Mu} {σ σ':Sto} {p:Nat->Bool} {bd:Body} (hk:bd.kn p=true) (h:∀id,p id=true->σ' id=σ id) {q:Option (Nat × Nat)} (hb:BodyRel W F μ σ q bd):BodyRel W F μ σ' q bd:=by
 cases bd with
 | box t cs =>
  obtain ⟨b,c,vs,h1,h2,h3,h4⟩:=hb
  exact ⟨b,c,vs,h1,h2,h3,fun j x v hj hv=>⟨(h4 j x v hj hv).1,(h4 j x v hj hv).2.kn (List.all_eq_true.1 hk x (List.mem_of_getElem? hj)) h⟩⟩
 | row t m els=>exact hb
 | obj o=>exact hb
 | ghost id ep q=>cases hk
 | nest t els =>
  rcases hb with h0 | ⟨b,cap,cur,h1,h2,h3,h4,h5,h6⟩
  ·exact .inl h0
  ·exact .inr ⟨b,cap,cur,h1,h2,h3,h4,h5,fun k x hx=>by obtain ⟨q1,v,q2,q3⟩:=h6 k x hx;exact ⟨q1,v,q2,q3.kn (List.all_eq_true.1 hk x (List.mem_of_getElem? hx)) h⟩⟩
theorem Rt.move {N:Nat} {ts:Nat->AV} {σ σ':Sto} {i j L e ej eL tL:Nat} {bd:Body} {els els2:List AV} (hij:i≠j) (hiL:L≠i) (hjL:L≠j) (hi:σ i=⟨e,some bd⟩) (hj:σ j=⟨ej,none⟩)
  (hL:σ L=⟨eL,some (.nest tL els)⟩) (hl:els2.length=els.length) (he:∀(k:Nat) (x x2:AV),els[k]?=some x->els2[k]?=some x2->x2=x\/∃off n,x = .row i e off n/\x2 = .row j (ej+1) off n)
  (g1:σ' L=⟨eL,some (.nest tL els2)⟩) (g2:σ' j=⟨ej+1,some bd⟩) (g3:(σ' i).body=none) (g4:∀k,k≠i->k≠j->k≠L->σ' k=σ k)
  (hT:∀t,(ts t).kn (fun k=>!Nat.beq k i)=true) (hB:∀k bd,(σ' k).body=some bd->bd.kn (fun k=>!Nat.beq k i)=true):Rt N ⟨ts,σ⟩ (fun _:Unit=>⟨ts,σ'⟩) (fun _=>True):=by
 intro W F μ a hr
 have ej0:(σ j).ep=ej:=by rw [hj]
 obtain ⟨hr1,hs1⟩:=move_rs hr hij hiL hjL hi (show (σ j).body=none by rw [hj]) hL hl (fun k x x2 q1 q2=>by rw [ej0];exact he k x x2 q1 q2)
 generalize hm:upm μ j (μ i)=μ2 at hr1 hs1
 have m1:=@mvS_L σ i j L e eL tL bd els2
 have m2:=@mvS_j σ i j L e eL tL bd els2 hjL
 have m3:=@mvS_i σ i j L e eL tL bd els2 hiL hij
 have m4:∀k,k≠i->k≠j->k≠L->mvS σ i j L e eL tL bd els2 k=σ k:=fun k h1 h2 h3=>mvS_o h1 h2 h3
 replace hr1:RS N W F μ2 ⟨ts,mvS σ i j L e eL tL bd els2⟩ a:=hr1
 replace hs1:Stq W F μ σ W F μ2 (mvS σ i j L e eL tL bd els2):=hs1
 generalize mvS σ i j L e eL tL bd els2=σ2 at hr1 hs1 m1 m2 m3 m4
 have eq:∀k,(!Nat.beq k i)=true->σ' k=σ2 k:=fun k hk=>by
  have hki:k≠i:=fun h=>by subst h;rw [beq_t] at hk;cases hk
  by_cases e1:k=j
  ·subst e1;rw [g2,m2,ej0]
  by_cases e2:k=L
  ·subst e2;rw [g1,m1]
  ·rw [g4 k hki e1 e2,m4 k hki e1 e2]
 have alive:∀k bd,(σ' k).body=some bd->σ' k=σ2 k/\k≠i:=fun k bd hb=>by
  have hki:k≠i:=fun h=>by subst h;rw [g3] at hb;cases hb
  exact ⟨eq k (by rw [beq_f hki];rfl),hki⟩
 have own:∀b,Own μ2 σ' b->Own μ2 σ2 b:=fun b ⟨id,ep,bd',c,h1,h2⟩=>⟨id,ep,bd',c,by rw [<- (alive id bd' (by rw [h1])).1];exact h1,h2⟩
 have hs3:Stq W F μ2 σ2 W F μ2 σ':=⟨Kp.refl _ _,fun _ h=>h,fun _ h=>.inl h,fun b hb=>.inl (own b hb)⟩
 refine ⟨F,μ2,(),trivial,⟨fun t=>(hr1.ts t).kn (hT t) eq,hr1.defers.go hs3,hr1.n,⟨fun id ep bd' hb=>?_,fun b hb=>hr1.inv.apart b (own b hb),fun id id' b c c' h1 h2 h3 h4=>?_,hr1.inv.old⟩⟩,hs1.trans ⟨Kp.refl _ _,fun _ h=>h,fun _ h=>.inl h,fun b hb=>.inl (own b hb)⟩⟩
 ·replace hb:σ' id=⟨ep,some bd'⟩:=hb
  have hal:=alive id bd' (by rw [hb])
  have hb2:σ2 id=⟨ep,some bd'⟩:=by rw [<- hal.1];exact hb
  exact (hr1.inv.body id ep bd' hb2).kn (hB id bd' (by rw [hb])) eq
 ·obtain ⟨bd1,e1⟩:=Option.isSome_iff_exists.1 h1
  obtain ⟨bd2,e2⟩:=Option.isSome_iff_exists.1 h2
  replace e1:(σ' id).body=some bd1:=e1
  replace e2:(σ' id').body=some bd2:=e2
  have a1:=(alive id bd1 e1).1
  have a2:=(alive id' bd2 e2).1
  exact hr1.inv.inj id id' b c c' (by show (σ2 id).body.isSome=true;rw [<- a1,e1];rfl) (by show (σ2 id').body.isSome=true;rw [<- a2,e2];rfl) h3 h4
theorem gM_ex:∃n:Nat,n=140737488355328:=⟨_,rfl⟩
noncomputable def gM:Nat:=gM_ex.choose
theorem gM_eq:gM=140737488355328:=gM_ex.choose_spec
theorem gM_pos:0<gM:=by rw [gM_eq];decide
noncomputable def rwI (n:Nat):Nat:=n*gM+1
noncomputable def clI (n k:Nat):Nat:=n*gM+(k+2)
noncomputable def famF (top:SB) (row:Nat->SB) (cell:Nat->Nat->SB):Nat->SB
 | 0=>top
 | j+1=>if j % gM=0 then row (j / gM) else cell (j / gM) (j % gM - 1)
section
variable {top top' : SB} {row row' : Nat -> SB} {cell cell' : Nat -> Nat -> SB}
theorem famF_r (n:Nat):famF top row cell (rwI n)=row n:=by
 rw [rwI,famF,Nat.mul_mod_left,if_pos rfl,Nat.mul_div_cancel _ gM_pos]
theorem famF_s (n:Nat) {k:Nat} (hk:k+1<gM):famF top row cell (clI n k)=cell n k:=by
 rw [clI,show n*gM+(k+2)=(n*gM+(k+1))+1 from rfl,famF,Nat.mul_add_mod_self_right,Nat.mod_eq_of_lt hk,if_neg (Nat.succ_ne_zero k),Nat.add_comm (n*gM),Nat.add_mul_div_right _ _ gM_pos,Nat.div_eq_of_lt hk,Nat.zero_add]
 rfl
theorem fam_ids (j:Nat):j=0\/(∃n,j=rwI n)\/∃n k,k+1<gM/\j=clI n k:=by
 cases j with
 | zero=>exact .inl rfl
 | succ j =>
  have h0:=Nat.div_add_mod j gM
  have h1:=Nat.mod_lt j gM_pos
  have h2:=Nat.mul_comm gM (j / gM)
  by_cases h:j % gM=0
  ·exact .inr (.inl ⟨j / gM,by unfold rwI;omega⟩)
  ·exact .inr (.inr ⟨j / gM,j % gM - 1,by omega,by unfold clI;omega⟩)
theorem rwI_inj {n m:Nat} (h:rwI n=rwI m):n=m:=by
 unfold rwI at h
 exact Nat.eq_of_mul_eq_mul_right gM_pos (Nat.succ.inj h)
theorem clI_inj {n m k l:Nat} (hk:k+1<gM) (hl:l+1<gM) (h:clI n k=clI m l):n=m/\k=l:=by
 unfold clI at h
 have h:n*gM+(k+1)=m*gM+(l+1):=Nat.succ.inj h
 have e1:(n*gM+(k+1)) % gM=k+1:=by rw [Nat.mul_add_mod_self_right,Nat.mod_eq_of_lt hk]
 have e2:(m*gM+(l+1)) % gM=l+1:=by rw [Nat.mul_add_mod_self_right,Nat.mod_eq_of_lt hl]
 rw [h,e2] at e1
 have e3:k=l:=by omega
 subst e3
 exact ⟨Nat.eq_of_mul_eq_mul_right gM_pos (Nat.add_right_cancel h),rfl⟩
theorem rwI_clI {n m k:Nat} (hk:k+1<gM) (h:rwI n=clI m k):False:=by
 unfold rwI clI at h
 have h:n*gM=m*gM+(k+1):=Nat.succ.inj h
 have e1:(m*gM+(k+1)) % gM=k+1:=by rw [Nat.mul_add_mod_self_right,Nat.mod_eq_of_lt hk]
 rw [<- h,Nat.mul_mod_left] at e1
 omega
theorem rwI_pos (n:Nat):rwI n≠0:=Nat.succ_ne_zero _
theorem clI_pos (n k:Nat):clI n k≠0:=Nat.succ_ne_zero _
theorem famF_cell {n i:Nat} (h1:top'=top) (h2:∀m,row' m=row m) (h3:∀m k,k+1<gM->(m≠n\/k≠i)->cell' m k=cell m k) {j:Nat} (hj:j≠clI n i):famF top' row' cell' j=famF top row cell j:=by
 rcases fam_ids j with rfl | ⟨m,rfl⟩ | ⟨m,k,hk,rfl⟩
 ·exact h1
 ·rw [famF_r,famF_r];exact h2 m
 ·rw [famF_s _ hk,famF_s _ hk]
  exact h3 m k hk (by
   by_cases e:m=n
   ·exact .inr fun e'=>hj (by rw [e,e'])
   ·exact .inl e)
end
end Go.Proofs.YtoaibdbehlcnfaaGreat.Sm
end
section
namespace Go.Proofs.YtoaibdbehlcnfaaGreat.Sm
open Go.RowKit
theorem Rt.wkU {N:Nat} {s s':St} (h:Wk s s'):Rt N s (fun _:Unit=>s') (fun _=>True):=Rt.wk (st:=fun _:Unit=>s') () trivial h
abbrev Rws:=List (List AV)
noncomputable def gE (n:Nat) (tb:List Rws):List AV:=tb.mapIdx fun k l=>AV.row (clI n k+1000) 1 0 l.length
noncomputable def tE (U:List (List Rws)):List AV:=U.mapIdx fun n tb=>AV.row (rwI n+1000) 1 0 tb.length
theorem gE_get (n:Nat) (tb:List Rws) (k:Nat):(gE n tb)[k]?=(tb[k]?).map fun l=>AV.row (clI n k+1000) 1 0 l.length:=by rw [gE,List.getElem?_mapIdx]
theorem tE_get (U:List (List Rws)) (n:Nat):(tE U)[n]?=(U[n]?).map fun tb=>AV.row (rwI n+1000) 1 0 tb.length:=by rw [tE,List.getElem?_mapIdx]
theorem gE_len (n:Nat) (tb:List Rws):(gE n tb).length=tb.length:=by rw [gE,List.length_mapIdx]
theorem tE_len (U:List (List Rws)):(tE U).length=U.length:=by rw [tE,List.length_mapIdx]
theorem gE_snoc (n:Nat) (tb:List Rws) (l:Rws):gE n (tb++[l])=gE n tb++[AV.row (clI n tb.length+1000) 1 0 l.length]:=by rw [gE,gE,List.mapIdx_concat]
theorem tE_snoc (U:List (List Rws)) (tb:List Rws):tE (U++[tb])=tE U++[AV.row (rwI U.length+1000) 1 0 tb.length]:=by rw [tE,tE,List.mapIdx_concat]
theorem gE_one (n:Nat) (tb:List Rws):∀(j:Nat) (x:AV),(gE n tb)[j]?=some x->x.one=true:=fun j x h=>by
 rw [gE_get] at h
 obtain ⟨l,_,rfl⟩:=Option.map_eq_some_iff.1 h
 rfl
theorem tE_one (U:List (List Rws)):∀(j:Nat) (x:AV),(tE U)[j]?=some x->x.one=true:=fun j x h=>by
 rw [tE_get] at h
 obtain ⟨l,_,rfl⟩:=Option.map_eq_some_iff.1 h
 rfl
section
variable (e1 e2 e3 m : Nat)
noncomputable def gTop (U:List (List Rws)):SB:=⟨1,some (.nest e1 (tE U))⟩
noncomputable def gRow (U:List (List Rws)) (n:Nat):SB:=match U[n]? with | some tb=>⟨1,some (.nest e2 (gE n tb))⟩ | none=>⟨0,none⟩
noncomputable def gCell (U:List (List Rws)) (n k:Nat):SB:=match (U[n]?).bind fun tb=>tb[k]? with | some l=>⟨1,some (.row e3 m l)⟩ | none=>⟨0,none⟩
noncomputable def gF (U:List (List Rws)) (P:List Rws):Nat->SB:=famF (gTop e1 U) (gRow e2 U) (gCell e3 m (U++[P]))
end
section
variable {e1 e2 e3 m : Nat} {U : List (List Rws)} {P : List Rws}
theorem gRow_some {n:Nat} {tb:List Rws} (h:U[n]?=some tb):gRow e2 U n=⟨1,some (.nest e2 (gE n tb))⟩:=by rw [gRow,h]
theorem gRow_none {n:Nat} (h:U[n]?=none):gRow e2 U n=⟨0,none⟩:=by rw [gRow,h]
theorem gCell_some {n k:Nat} {tb:List Rws} {l:Rws} (h:U[n]?=some tb) (h':tb[k]?=some l):gCell e3 m U n k=⟨1,some (.row e3 m l)⟩:=by rw [gCell,h,Option.bind_some,h']
theorem gRow_body {n:Nat} {bd:Body} (h:(gRow e2 U n).body=some bd):∃tb,U[n]?=some tb/\bd = .nest e2 (gE n tb):=by
 cases hq:U[n]? with
 | none=>rw [gRow_none hq] at h;cases h
 | some tb=>rw [gRow_some hq] at h;exact ⟨tb,rfl,(Option.some.inj h).symm⟩
theorem gCell_body {n k:Nat} {bd:Body} (h:(gCell e3 m U n k).body=some bd):∃tb l,U[n]?=some tb/\tb[k]?=some l/\bd = .row e3 m l:=by
 cases hq:(U[n]?).bind fun tb=>tb[k]? with
 | none=>rw [gCell,hq] at h;cases h
 | some l =>
  obtain ⟨tb,h1,h2⟩:=Option.bind_eq_some_iff.1 hq
  rw [gCell,hq] at h
  exact ⟨tb,l,h1,h2,(Option.some.inj h).symm⟩
theorem gCell_pre {n k:Nat} {tb:List Rws} {l:Rws} (h:U[n]?=some tb) (h':tb[k]?=some l):gCell e3 m (U++[P]) n k=⟨1,some (.row e3 m l)⟩ :=
 gCell_some (by rw [List.getElem?_append_left (List.getElem?_eq_some_iff.1 h).1];exact h) h'
theorem gCell_nil (n k:Nat):gCell e3 m (U++[[]]) n k=gCell e3 m U n k:=by
  rw [gCell,gCell]
  congr 1
  by_cases h:n<U.length
  · rw [List.getElem?_append_left h]
  · rw [List.getElem?_append_right (by omega),List.getElem?_eq_none (show U.length<=n by omega)]
    cases hq:n - U.length with
    | zero=>rfl
    | succ j=>rfl
def Fits (U:List (List Rws)):Prop:=∀tb∈U,tb.length+1<gM
theorem Fits.get (h:Fits U) {n:Nat} {tb:List Rws} (hn:U[n]?=some tb) {k:Nat} {l:Rws} (hk:tb[k]?=some l):k+1<gM:=by
 have h1:=h tb (List.mem_of_getElem? hn)
 have h2:=(List.getElem?_eq_some_iff.1 hk).1
 omega
theorem gF_RnB {σ σ':Sto} (hU:Fits U) (hσ:∀k,k≠0->σ (k+1000)=gF e1 e2 e3 m U P k) (hσ':∀k,k≠0->σ' (k+1000)=gF e1 e2 e3 m U P k) {k:Nat} {bd:Body} (hk:k≠0) (hb:(gF e1 e2 e3 m U P k).body=some bd):RnB σ σ' bd bd:=by
 rcases fam_ids k with rfl | ⟨n,rfl⟩ | ⟨n,k,hk2,rfl⟩
 ·exact absurd rfl hk
 ·rw [gF,famF_r] at hb
  obtain ⟨tb,h1,rfl⟩:=gRow_body hb
  refine .nest rfl (gE_one n tb) fun j x x' hj hj'=>?_
  obtain rfl:=Option.some.inj (hj.symm.trans hj')
  rw [gE_get] at hj
  obtain ⟨l,h2,rfl⟩:=Option.map_eq_some_iff.1 hj
  have h3:=hU.get h1 h2
  have e:gF e1 e2 e3 m U P (clI n j)=⟨1,some (.row e3 m l)⟩:=by rw [gF,famF_s _ h3];exact gCell_pre h1 h2
  exact .row (by rw [hσ _ (clI_pos _ _),e]) (by rw [hσ' _ (clI_pos _ _),e])
 ·rw [gF,famF_s _ hk2] at hb
  obtain ⟨tb,l,_,_,rfl⟩:=gCell_body hb
  exact .row _ _ _
theorem AV.kn_mono {p q:Nat->Bool} (h:∀k,p k=true->q k=true) {x:AV} (hx:x.kn p=true):x.kn q=true:=by
 cases x with
 | own id _ _=>exact h _ hx
 | el id _ _ _=>exact h _ hx
 | row id _ _ _=>exact h _ hx
 | ref id _ _=>exact h _ hx
 | _=>exact hx
theorem Body.kn_mono {p q:Nat->Bool} (h:∀k,p k=true->q k=true) {b:Body} (hb:b.kn p=true):b.kn q=true:=by
 cases b with
 | box t cs=>exact List.all_eq_true.2 fun x hx=>AV.kn_mono h (List.all_eq_true.1 hb x hx)
 | nest t els=>exact List.all_eq_true.2 fun x hx=>AV.kn_mono h (List.all_eq_true.1 hb x hx)
 | _=>exact hb
theorem lkT_kn {p:Nat->Bool} {T:List (Nat × AV)} (h:(T.all fun q=>q.2.kn p)=true) (t:Nat):(lkT T t).kn p=true:=by
 induction T with
 | nil=>rfl
 | cons q T ih =>
  rw [List.all_cons,Bool.and_eq_true] at h
  show (cond (Nat.beq t q.1) q.2 (lkT T t)).kn p=true
  cases Nat.beq t q.1
  ·exact ih h.2
  ·exact h.1
def bodyKn (p:Nat->Bool) (sb:SB):Bool:=match sb.body with | some bd=>bd.kn p | none=>true
theorem lkB_kn {p:Nat->Bool} {B:List (Nat × SB)} (h:(B.all fun q=>bodyKn p q.2)=true) {id:Nat} {bd:Body} (hb:(lkB B id).body=some bd):bd.kn p=true:=by
 induction B with
 | nil=>cases hb
 | cons q B ih =>
  rw [List.all_cons,Bool.and_eq_true] at h
  replace hb:(cond (Nat.beq id q.1) q.2 (lkB B id)).body=some bd:=hb
  cases hq:Nat.beq id q.1
  ·rw [hq] at hb;exact ih h.2 hb
  ·rw [hq] at hb
   have h1:=h.1
   rw [bodyKn,show q.2.body=some bd from hb] at h1
   exact h1
def lo (k:Nat):Bool:=Nat.ble k 1000
theorem lo_r {n k:Nat} (h:lo k=true):(!Nat.beq k (rwI n+1000))=true:=by
 have h1:=Nat.le_of_ble_eq_true h
 have h2:0<rwI n:=Nat.pos_of_ne_zero (rwI_pos n)
 rw [beq_f (by omega)];rfl
theorem lo_s {n i k:Nat} (h:lo k=true):(!Nat.beq k (clI n i+1000))=true:=by
 have h1:=Nat.le_of_ble_eq_true h
 have h2:0<clI n i:=Nat.pos_of_ne_zero (clI_pos n i)
 rw [beq_f (by omega)];rfl
theorem gF_kn {p:Nat->Bool} (hU:Fits U) (hp:∀n k,k+1<gM->p (clI n k+1000)=true) {k:Nat} {bd:Body} (hk:k≠0) (hb:(gF e1 e2 e3 m U P k).body=some bd):bd.kn p=true:=by
 rcases fam_ids k with rfl | ⟨n,rfl⟩ | ⟨n,k,hk2,rfl⟩
 ·exact absurd rfl hk
 ·rw [gF,famF_r] at hb
  obtain ⟨tb,h1,rfl⟩:=gRow_body hb
  refine List.all_eq_true.2 fun x hx=>?_
  obtain ⟨j,hj⟩:=List.getElem?_of_mem hx
  rw [gE_get] at hj
  obtain ⟨l,h2,rfl⟩:=Option.map_eq_some_iff.1 hj
  exact hp n j (hU.get h1 h2)
 ·rw [gF,famF_s _ hk2] at hb
  obtain ⟨tb,l,_,_,rfl⟩:=gCell_body hb
  rfl
theorem lkF_cases {B B':List (Nat × SB)} {f f':Nat->SB} {k:Nat} (h1:k<1000->lkB B' k=lkB B k) (h2:∀j,k=j+1000->f' j=f j):lkF B' f' k=lkF B f k:=by
  by_cases h:k<1000
  · rw [lkF_lo _ _ h,lkF_lo _ _ h];exact h1 h
  · obtain ⟨j,rfl⟩:∃j,k=j+1000:=⟨k - 1000,by omega⟩
    rw [lkF_hi,lkF_hi];exact h2 j rfl
theorem lkB_ne {p:Nat × SB} {B:List (Nat × SB)} {k:Nat} (h:k≠p.1):lkB (p::B) k=lkB B k:=by
 show cond (Nat.beq k p.1) _ _=_
 rw [beq_f h];rfl
theorem lkB_eq {i:Nat} {sb:SB} {B:List (Nat × SB)}:lkB ((i,sb)::B) i=sb:=by
 show cond (Nat.beq i i) _ _=_
 rw [beq_t];rfl
theorem ble_lo {i:Nat} (h:Nat.blt i 1000=true):i<1000:=Nat.le_of_ble_eq_true h
theorem Rt.push2 {N : Nat} {s : St} {T : List (Nat × AV)} {B : List (Nat × SB)} {l : Rws} {i L eL ei : Nat} (hi0 : Nat.blt i 1000 = true) (hL0 : Nat.blt L 1000 = true) (hiL : i ≠ L) (hU : Fits U) (hP : P.length + 1 < gM)
    (hL:s.σ L=⟨eL,some (.nest e2 (gE U.length P++[.row i ei 0 l.length]))⟩) (hi:s.σ i=⟨ei,some (.row e3 m l)⟩) (hF:∀k,s.σ (k+1000)=gF e1 e2 e3 m U P k)
    (hT:WkT s (lkF ((L,⟨1,some (.nest e2 (gE U.length P++[.row i 1 0 l.length]))⟩)::(i,⟨1,some (.row e3 m l)⟩)::B) (gF e1 e2 e3 m U P)) T)
    (hB:WkB s (lkF ((L,⟨1,some (.nest e2 (gE U.length P++[.row i 1 0 l.length]))⟩)::(i,⟨1,some (.row e3 m l)⟩)::B) (gF e1 e2 e3 m U P)) B)
    (hTk:(T.all fun q=>q.2.kn fun k=>!Nat.beq k i)=true) (hBk:(B.all fun q=>bodyKn (fun k=>!Nat.beq k i) q.2)=true) (hLB:lkB B L=⟨0,none⟩) (hiB:lkB B i=⟨0,none⟩) :
    Rt N s (fun _:Unit=>⟨lkT T,lkF ((L,⟨1,some (.nest e2 (gE U.length (P++[l])))⟩)::B) (gF e1 e2 e3 m U (P++[l]))⟩) (fun _=>True):=by
  have hi0:=ble_lo hi0
  have hL0:=ble_lo hL0
  have hUP:(U++[P])[U.length]?=some P:=by simp
  have hUPl:(U++[P++[l]])[U.length]?=some (P++[l]):=by simp
  have hj0:gF e1 e2 e3 m U P (clI U.length P.length)=⟨0,none⟩:=by
    rw [gF,famF_s _ hP,gCell,hUP,Option.bind_some,List.getElem?_eq_none (Nat.le_refl _)]
  have hj1:gF e1 e2 e3 m U (P++[l]) (clI U.length P.length)=⟨1,some (.row e3 m l)⟩:=by
    rw [gF,famF_s _ hP];exact gCell_some hUPl (by simp)
  have hsame:∀j,j≠clI U.length P.length->gF e1 e2 e3 m U (P++[l]) j=gF e1 e2 e3 m U P j:=fun j hj=>by
    refine famF_cell (n:=U.length) (i:=P.length) rfl (fun _=>rfl) (fun n k hk h=>?_) hj
    rw [gCell,gCell]
    congr 1
    by_cases h1:n<U.length
    · rw [List.getElem?_append_left h1,List.getElem?_append_left h1]
    by_cases h2:n=U.length
    · subst h2
      rw [hUP,hUPl,Option.bind_some,Option.bind_some]
      have hne:k≠P.length:=h.resolve_left (fun h=>h rfl)
      by_cases h3:k<P.length
      · rw [List.getElem?_append_left h3]
      · rw [List.getElem?_eq_none (by simp;omega),List.getElem?_eq_none (by omega)]
    · rw [List.getElem?_eq_none (by simp;omega),List.getElem?_eq_none (by simp;omega)]
  refine Rt.trans (Rt.wkU (WkF.to (l:=T) (b:=(L,⟨1,some (.nest e2 (gE U.length P++[.row i 1 0 l.length]))⟩)::(i,⟨1,some (.row e3 m l)⟩)::B) (f:=gF e1 e2 e3 m U P) hT ⟨?_,.row hi rfl,hB⟩ fun k bd' hb=>?_)) fun _ _=>?_
  · refine .nest hL (by simp) (fun j x hj=>?_) fun j x x' hj hj'=>?_
    · rw [List.getElem?_append] at hj
      split at hj
      · exact gE_one _ _ j x hj
      · obtain rfl:=List.mem_singleton.1 (List.mem_of_getElem? hj)
        rfl
    · rw [List.getElem?_append] at hj hj'
      split at hj
      · rename_i hlt
        rw [if_pos hlt] at hj'
        obtain rfl:=Option.some.inj (hj.symm.trans hj')
        rw [gE_get] at hj
        obtain ⟨l',h2,rfl⟩:=Option.map_eq_some_iff.1 hj
        have hlt2:=(List.getElem?_eq_some_iff.1 h2).1
        have e:gF e1 e2 e3 m U P (clI U.length j)=⟨1,some (.row e3 m l')⟩:=by
          rw [gF,famF_s _ (by omega)];exact gCell_some hUP h2
        exact .row (by rw [hF,e]) (by rw [lkF_hi,e])
      · rename_i hlt
        rw [if_neg hlt] at hj'
        obtain rfl:=List.mem_singleton.1 (List.mem_of_getElem? hj)
        obtain rfl:=List.mem_singleton.1 (List.mem_of_getElem? hj')
        exact .row hi (by rw [lkF_lo _ _ hi0,lkB_ne hiL,lkB_eq])
  · refine ⟨bd',by rw [hF];exact hb,?_⟩
    by_cases hk:k=0
    · subst hk
      obtain rfl:=Option.some.inj (show some (Body.nest e1 (tE U))=some bd' from hb)
      refine .nest rfl (tE_one U) fun j x x' hj hj'=>?_
      obtain rfl:=Option.some.inj (hj.symm.trans hj')
      rw [tE_get] at hj
      obtain ⟨tb,h2,rfl⟩:=Option.map_eq_some_iff.1 hj
      have e:gF e1 e2 e3 m U P (rwI j)=⟨1,some (.nest e2 (gE j tb))⟩:=by rw [gF,famF_r];exact gRow_some h2
      exact .rowN (by rw [hF,e]) (by rw [lkF_hi,e]) rfl
    · exact gF_RnB hU (fun k _=>hF k) (fun k _=>lkF_hi _ _ k) hk hb
  · have hsj:i≠clI U.length P.length+1000:=by omega
    have hLj:L≠clI U.length P.length+1000:=by omega
    refine Rt.move (i:=i) (j:=clI U.length P.length+1000) (L:=L) (e:=1) (ej:=0) (eL:=1) (tL:=e2) (bd:=.row e3 m l) (els:=gE U.length P++[.row i 1 0 l.length]) (els2:=gE U.length (P++[l])) hsj (Ne.symm hiL) hLj ?_ ?_ ?_ ?_ ?_ ?_ ?_ ?_ ?_ (lkT_kn hTk) ?_
    · rw [lkF_lo _ _ hi0,lkB_ne hiL,lkB_eq]
    · rw [lkF_hi,hj0]
    · rw [lkF_lo _ _ hL0,lkB_eq]
    · rw [gE_snoc];simp
    · intro k x x2 hk hk'
      rw [gE_snoc,List.getElem?_append] at hk'
      rw [List.getElem?_append] at hk
      split at hk
      · rename_i hlt
        rw [if_pos hlt] at hk'
        exact .inl (Option.some.inj (hk'.symm.trans hk))
      · rename_i hlt
        rw [if_neg hlt] at hk'
        exact .inr ⟨0,l.length,List.mem_singleton.1 (List.mem_of_getElem? hk),List.mem_singleton.1 (List.mem_of_getElem? hk')⟩
    · rw [lkF_lo _ _ hL0,lkB_eq]
    · rw [lkF_hi,hj1]
    · rw [lkF_lo _ _ hi0,lkB_ne hiL,hiB]
    · intro k h1 h2 h3
      refine lkF_cases (fun _=>by rw [lkB_ne h3,lkB_ne h3,lkB_ne h1]) fun j hj=>hsame j fun e=>h2 (by rw [hj,e])
    · intro k bd hb
      by_cases hk:k<1000
      · rw [lkF_lo _ _ hk] at hb
        by_cases hkL:k=L
        · subst hkL
          rw [lkB_eq] at hb
          obtain rfl:=Option.some.inj hb
          refine List.all_eq_true.2 fun x hx=>?_
          obtain ⟨j,hj⟩:=List.getElem?_of_mem hx
          rw [gE_get] at hj
          obtain ⟨l',h2,rfl⟩:=Option.map_eq_some_iff.1 hj
          show (!Nat.beq (clI U.length j+1000) i)=true
          rw [beq_f (by omega)];rfl
        · rw [lkB_ne hkL] at hb
          exact lkB_kn hBk hb
      · obtain ⟨j,rfl⟩:∃j,k=j+1000:=⟨k - 1000,by omega⟩
        rw [lkF_hi] at hb
        by_cases hj:j=0
        · subst hj
          obtain rfl:=Option.some.inj (show some (Body.nest e1 (tE U))=some bd from hb)
          refine List.all_eq_true.2 fun x hx=>?_
          obtain ⟨j,hj⟩:=List.getElem?_of_mem hx
          rw [tE_get] at hj
          obtain ⟨tb,h2,rfl⟩:=Option.map_eq_some_iff.1 hj
          show (!Nat.beq (rwI j+1000) i)=true
          rw [beq_f (by omega)];rfl
        · exact gF_kn hU (fun n k _=>by rw [beq_f (by omega)];rfl) hj hb
theorem Rt.push1 {N : Nat} {s : St} {T : List (Nat × AV)} {B : List (Nat × SB)} {i ei eT : Nat} (hi0 : Nat.blt i 1000 = true) (hU : Fits U) (hP : P.length + 1 < gM)
    (hL:s.σ 1000=⟨eT,some (.nest e1 (tE U++[.row i ei 0 (gE U.length P).length]))⟩) (hi:s.σ i=⟨ei,some (.nest e2 (gE U.length P))⟩) (hF:∀k,k≠0->s.σ (k+1000)=gF e1 e2 e3 m U P k)
    (hT:WkT s (lkF ((i,⟨1,some (.nest e2 (gE U.length P))⟩)::B) (famF ⟨1,some (.nest e1 (tE U++[.row i 1 0 P.length]))⟩ (gRow e2 U) (gCell e3 m (U++[P])))) T)
    (hB:WkB s (lkF ((i,⟨1,some (.nest e2 (gE U.length P))⟩)::B) (famF ⟨1,some (.nest e1 (tE U++[.row i 1 0 P.length]))⟩ (gRow e2 U) (gCell e3 m (U++[P])))) B)
    (hTk:(T.all fun q=>q.2.kn fun k=>!Nat.beq k i)=true) (hBk:(B.all fun q=>bodyKn (fun k=>!Nat.beq k i) q.2)=true) (hiB:lkB B i=⟨0,none⟩) :
    Rt N s (fun _:Unit=>⟨lkT T,lkF B (gF e1 e2 e3 m (U++[P]) [])⟩) (fun _=>True):=by
  have hi0:=ble_lo hi0
  rw [gE_len] at hL
  have hUP:(U++[P])[U.length]?=some P:=by simp
  have hmid:∀k,k≠0->famF ⟨1,some (.nest e1 (tE U++[.row i 1 0 P.length]))⟩ (gRow e2 U) (gCell e3 m (U++[P])) k=gF e1 e2 e3 m U P k:=fun k hk=>by
    cases k with
    | zero=>exact absurd rfl hk
    | succ k=>rfl
  have hj0:gF e1 e2 e3 m U P (rwI U.length)=⟨0,none⟩:=by
    rw [gF,famF_r];exact gRow_none (List.getElem?_eq_none (Nat.le_refl _))
  have hj1:gF e1 e2 e3 m (U++[P]) [] (rwI U.length)=⟨1,some (.nest e2 (gE U.length P))⟩:=by
    rw [gF,famF_r];exact gRow_some hUP
  have hsame:∀j,j≠0->j≠rwI U.length->gF e1 e2 e3 m (U++[P]) [] j=gF e1 e2 e3 m U P j:=fun j h0 hj=>by
    rcases fam_ids j with rfl | ⟨n,rfl⟩ | ⟨n,k,hk,rfl⟩
    · exact absurd rfl h0
    · rw [gF,gF,famF_r,famF_r]
      have hn:n≠U.length:=fun e=>hj (by rw [e])
      rw [gRow,gRow]
      by_cases h1:n<U.length
      · rw [List.getElem?_append_left h1]
      · rw [List.getElem?_eq_none (by simp;omega),List.getElem?_eq_none (show U.length<=n by omega)]
    · rw [gF,gF,famF_s _ hk,famF_s _ hk,gCell_nil]
  refine Rt.trans (Rt.wkU (WkF.to (l:=T) (b:=(i,⟨1,some (.nest e2 (gE U.length P))⟩)::B) (f:=famF ⟨1,some (.nest e1 (tE U++[.row i 1 0 P.length]))⟩ (gRow e2 U) (gCell e3 m (U++[P]))) hT ⟨?_,hB⟩ fun k bd' hb=>?_)) fun _ _=>?_
  · refine .nest hi rfl (gE_one _ _) fun j x x' hj hj'=>?_
    obtain rfl:=Option.some.inj (hj.symm.trans hj')
    rw [gE_get] at hj
    obtain ⟨l',h2,rfl⟩:=Option.map_eq_some_iff.1 hj
    have hlt2:=(List.getElem?_eq_some_iff.1 h2).1
    have e:gF e1 e2 e3 m U P (clI U.length j)=⟨1,some (.row e3 m l')⟩:=by
      rw [gF,famF_s _ (by omega)];exact gCell_some hUP h2
    exact .row (by rw [hF _ (clI_pos _ _),e]) (by rw [lkF_hi,hmid _ (clI_pos _ _),e])
  · by_cases hk:k=0
    · subst hk
      obtain rfl:=Option.some.inj (show some (Body.nest e1 (tE U++[.row i 1 0 P.length]))=some bd' from hb)
      refine ⟨_,by rw [hL],.nest (by simp) (fun j x hj=>?_) fun j x x' hj hj'=>?_⟩
      · rw [List.getElem?_append] at hj
        split at hj
        · exact tE_one _ j x hj
        · obtain rfl:=List.mem_singleton.1 (List.mem_of_getElem? hj)
          rfl
      · rw [List.getElem?_append] at hj hj'
        split at hj
        · rename_i hlt
          rw [if_pos hlt] at hj'
          obtain rfl:=Option.some.inj (hj.symm.trans hj')
          rw [tE_get] at hj
          obtain ⟨tb,h2,rfl⟩:=Option.map_eq_some_iff.1 hj
          have e:gF e1 e2 e3 m U P (rwI j)=⟨1,some (.nest e2 (gE j tb))⟩:=by rw [gF,famF_r];exact gRow_some h2
          exact .rowN (by rw [hF _ (rwI_pos _),e]) (by rw [lkF_hi,hmid _ (rwI_pos _),e]) rfl
        · rename_i hlt
          rw [if_neg hlt] at hj'
          obtain rfl:=List.mem_singleton.1 (List.mem_of_getElem? hj)
          obtain rfl:=List.mem_singleton.1 (List.mem_of_getElem? hj')
          exact .rowN hi (by rw [lkF_lo _ _ hi0,lkB_eq]) rfl
    · rw [hmid k hk] at hb
      exact ⟨bd',by rw [hF k hk];exact hb,gF_RnB hU hF (fun k hk=>by rw [lkF_hi,hmid k hk]) hk hb⟩
  · refine Rt.move (i:=i) (j:=rwI U.length+1000) (L:=1000) (e:=1) (ej:=0) (eL:=1) (tL:=e1) (bd:=.nest e2 (gE U.length P)) (els:=tE U++[.row i 1 0 P.length]) (els2:=tE (U++[P])) (by omega) (by omega) (by have:=rwI_pos U.length;omega) ?_ ?_ ?_ ?_ ?_ ?_ ?_ ?_ ?_ (lkT_kn hTk) ?_
    · rw [lkF_lo _ _ hi0,lkB_eq]
    · rw [lkF_hi,hmid _ (rwI_pos _),hj0]
    · exact (lkF_hi _ _ 0).trans rfl
    · rw [tE_snoc];simp
    · intro k x x2 hk hk'
      rw [tE_snoc,List.getElem?_append] at hk'
      rw [List.getElem?_append] at hk
      split at hk
      · rename_i hlt
        rw [if_pos hlt] at hk'
        exact .inl (Option.some.inj (hk'.symm.trans hk))
      · rename_i hlt
        rw [if_neg hlt] at hk'
        exact .inr ⟨0,P.length,List.mem_singleton.1 (List.mem_of_getElem? hk),List.mem_singleton.1 (List.mem_of_getElem? hk')⟩
    · exact (lkF_hi _ _ 0).trans rfl
    · rw [lkF_hi,hj1]
    · rw [lkF_lo _ _ hi0,hiB]
    · intro k h1 h2 h3
      refine lkF_cases (fun _=>by rw [lkB_ne h1]) fun j hj=>?_
      have hj0:j≠0:=fun e=>h3 (by rw [hj,e])
      rw [hmid j hj0]
      exact hsame j hj0 fun e=>h2 (by rw [hj,e])
    · intro k bd hb
      by_cases hk:k<1000
      · rw [lkF_lo _ _ hk] at hb
        exact lkB_kn hBk hb
      · obtain ⟨j,rfl⟩:∃j,k=j+1000:=⟨k - 1000,by omega⟩
        rw [lkF_hi] at hb
        by_cases hj:j=0
        · subst hj
          obtain rfl:=Option.some.inj (show some (Body.nest e1 (tE (U++[P])))=some bd from hb)
          refine List.all_eq_true.2 fun x hx=>?_
          obtain ⟨j,hj⟩:=List.getElem?_of_mem hx
          rw [tE_get] at hj
          obtain ⟨tb,h2,rfl⟩:=Option.map_eq_some_iff.1 hj
          show (!Nat.beq (rwI j+1000) i)=true
          rw [beq_f (by omega)];rfl
        · have hU' : Fits (U ++ [P]) := fun tb htb => by
            rcases List.mem_append.1 htb with h | h
            · exact hU tb h
            · obtain rfl:=List.mem_singleton.1 h
              exact hP
          exact gF_kn hU' (fun n k _=>by rw [beq_f (by omega)];rfl) hj hb
end
end Go.Proofs.YtoaibdbehlcnfaaGreat.Sm
end
section
namespace Go.Proofs.YtoaibdbehlcnfaaGreat.Sm
open Go.RowKit
theorem rowAllM {X:List (List AV)} {n:Nat} (h:X.length=n):AV.sl ((X.drop 0).take n) = .sl X:=by
 rw [List.drop_zero,<- h,List.take_length]
section
variable {P : Program} {N : Nat} {o : Oper} {s : St}
theorem op_build0N {t e id:Nat} {ti ei:TI} (ho:o.op = .buildSlice t 0 #[]) (ht:TiOk P t ti) (hk:ti.k = .slice e) (he:TiOk P e ei) (h1:ei.n=1):OpLoc P N o s ⟨.row id ((s.σ id).ep+1) 0 0,[(id,⟨(s.σ id).ep+1,some (.nest e [])⟩)],[]⟩:=by
 obtain ⟨inf,d,z,q1,_⟩:=he.h
 refine oploc_new [] fun s' W F μ a g1 g2 g3 hs=>?_
 refine ⟨.slice (some ⟨W.heap.size,0,none⟩) 0 0,[],e,0,?_,fun μ' σ' hst hσ hμ=>⟨.inr ⟨W.heap.size,0,#[],rfl,heap_alloc_new W _,Nat.le_refl _,by decide,by simp,fun k x hk=>by simp at hk⟩,.row id _ 0 0 _ (by rw [hσ];exact Nat.le_refl _) rfl fun bd' m' l' hbd hL=>?_⟩⟩
 ·have hrun:=run_buildSlice0 (P:=P) W t e inf (ht.slice hk) q1
  simp only [execOp,ho,List.map_toArray,List.map_nil,Sem.run_bind,hrun,Result.andThen_ok,Sem.run_pure]
 ·rw [hσ] at hbd
  obtain rfl:Body.nest e []=bd':=by simpa using hbd
  exact ⟨Nat.zero_le _,by rw [hμ];simp⟩
theorem op_apB {α:Type} (cF:α->List AV) (l:List α) {S:Nat} (hb:l.length*S<=140737488355328) {c:Call} {xo yo:Operand} {t e id:Nat} {ti ei:TI} (hS:ei.sz=S) (hS1:Nat.ble 1 S=true) (hcf:∀x,(cF x).length=ei.n) (ho:o.op = .call c) (hc:c.callee = .builtin .append) (ha:c.args = #[xo,yo]) (hat:c.argTypes = #[t,t]) (ht:TiOk P t ti) (hk:ti.k = .slice e) (he:TiOk P e ei) (h0:(ei.n == 0)=false)
  (hx:∃ep,s.ev xo = .row id ep 0 0/\s.σ id=⟨ep,some (.row e ei.n [])⟩) (hy:s.ev yo = .sl (l.map cF)) :
  OpLoc P N o s ⟨.row id ((s.σ id).ep+1) 0 (l.map cF).length,[(id,⟨(s.σ id).ep+1,some (.row e ei.n (l.map cF))⟩)],[]⟩:=by
 have h1:=Nat.le_of_ble_eq_true hS1
 have h2:l.length*1<=l.length*S:=Nat.mul_le_mul_left _ h1
 refine op_appendS (els:=[]) (els2:=l.map cF) ho hc ha hat ht hk he h0 (.inl hx) hy (fun cs h=>by
  obtain ⟨x,_,rfl⟩:=List.mem_map.1 h
  exact hcf x) ?_ ?_ (List.nil_append _) rfl
 ·rw [List.length_map,List.length_nil,Nat.zero_add,hS];exact hb
 ·rw [List.length_map,List.length_nil];omega
theorem op_ap1B {els r:List (List AV)} {cs:List AV} {S:Nat} (hr:els++[cs]=r) (hb:(els.length+1)*S<=140737488355328) {c:Call} {xo yo:Operand} {t e id id2 ep2:Nat} {cs0:List AV} {ti ei:TI} (hcs:cs0=cs) (hS:ei.sz=S) (hS1:Nat.ble 1 S=true) (ho:o.op = .call c) (hc:c.callee = .builtin .append) (ha:c.args = #[xo,yo]) (hat:c.argTypes = #[t,t]) (ht:TiOk P t ti) (hk:ti.k = .slice e) (he:TiOk P e ei) (h0:(ei.n == 0)=false)
  (hx:∃ep,s.ev xo = .row id ep 0 els.length/\s.σ id=⟨ep,some (.row e ei.n els)⟩) (hy:s.ev yo = .row id2 ep2 0 1) (hid2:s.σ id2=⟨ep2,some (.row e ei.n [cs0])⟩) :
  OpLoc P N o s ⟨.row id ((s.σ id).ep+1) 0 r.length,[(id,⟨(s.σ id).ep+1,some (.row e ei.n r)⟩)],[id2]⟩:=by
 subst hcs
 have h1:=Nat.le_of_ble_eq_true hS1
 have h2:(els.length+1)*1<=(els.length+1)*S:=Nat.mul_le_mul_left _ h1
 refine op_appendR (els:=els) (els2:=[cs0]) ho hc ha hat ht hk he h0 (.inl hx) hy hid2 ?_ ?_ hr rfl
 ·rw [hS];exact hb
 ·simp only [List.length_singleton];omega
end
theorem Rt.at {N:Nat} {s:St} {ι:Type} {st:ι->St} {J:ι->Prop} (i:ι) (hJ:J i) (h:Rt N s (fun _:Unit=>st i) (fun _=>True)):Rt N s st J:=fun W F μ a hr=>by
 obtain ⟨F',μ',_,_,h1,h2⟩:=h W F μ a hr
 exact ⟨F',μ',i,hJ,h1,h2⟩
theorem AW.retold {P:Program} {N:Nat} {c:Code} {Q:Exit->St->Prop} {s s':St} (h:Rt N s (fun _:Unit=>s') (fun _=>True)) (h':AW P N c Q s'):AW P N c Q s:=AW.retell _ _ h fun _ _=>h'
section
variable {e1 e2 e3 m : Nat} {U : List (List Rws)} {P : List Rws}
theorem gF_all {σ σ':Sto} (hU:Fits U) (hσ:∀k,σ (k+1000)=gF e1 e2 e3 m U P k) (hσ':∀k,σ' (k+1000)=gF e1 e2 e3 m U P k) {k:Nat} {bd:Body} (hb:(gF e1 e2 e3 m U P k).body=some bd):RnB σ σ' bd bd:=by
 by_cases hk:k=0
 ·subst hk
  obtain rfl:=Option.some.inj (show some (Body.nest e1 (tE U))=some bd from hb)
  refine .nest rfl (tE_one U) fun j x x' hj hj'=>?_
  obtain rfl:=Option.some.inj (hj.symm.trans hj')
  rw [tE_get] at hj
  obtain ⟨tb,h2,rfl⟩:=Option.map_eq_some_iff.1 hj
  have e:gF e1 e2 e3 m U P (rwI j)=⟨1,some (.nest e2 (gE j tb))⟩:=by rw [gF,famF_r];exact gRow_some h2
  exact .rowN (by rw [hσ,e]) (by rw [hσ',e]) rfl
 ·exact gF_RnB hU (fun k _=>hσ k) (fun k _=>hσ' k) hk hb
theorem Rt.grid {N:Nat} {s:St} {T:List (Nat × AV)} {B:List (Nat × SB)} (hU:Fits U) (hF:∀k,s.σ (k+1000)=gF e1 e2 e3 m U P k) (hT:WkT s (lkF B (gF e1 e2 e3 m U P)) T) (hB:WkB s (lkF B (gF e1 e2 e3 m U P)) B):Rt N s (fun _:Unit=>⟨lkT T,lkF B (gF e1 e2 e3 m U P)⟩) (fun _=>True) :=
 Rt.wkU (WkF.to hT hB fun k bd' hb=>⟨bd',by rw [hF];exact hb,gF_all hU hF (fun k=>lkF_hi _ _ k) hb⟩)
theorem Rt.grid0 {N:Nat} {s:St} {T:List (Nat × AV)} {B:List (Nat × SB)} {eT:Nat} (h0:s.σ 1000=⟨eT,some (.nest e1 [])⟩) (hT:WkT s (lkF B (gF e1 e2 e3 m [] [])) T) (hB:WkB s (lkF B (gF e1 e2 e3 m [] [])) B):Rt N s (fun _:Unit=>⟨lkT T,lkF B (gF e1 e2 e3 m [] [])⟩) (fun _=>True) :=
 Rt.wkU (WkF.to hT hB fun k bd' hb=>by
  rcases fam_ids k with rfl | ⟨n,rfl⟩ | ⟨n,k,hk2,rfl⟩
  ·obtain rfl:=Option.some.inj (show some (Body.nest e1 (tE []))=some bd' from hb)
   exact ⟨.nest e1 [],by rw [h0],.nest (tE_len []) (tE_one []) fun j x x' hj=>by simp at hj⟩
  ·rw [gF,famF_r] at hb
   obtain ⟨tb,h1,_⟩:=gRow_body hb
   simp at h1
  ·rw [gF,famF_s _ hk2] at hb
   obtain ⟨tb,l,h1,h2,_⟩:=gCell_body hb
   cases n with
   | zero =>
    obtain rfl:[]=tb:=by simpa using h1
    simp at h2
   | succ n=>simp at h1)
end
theorem retGA {P:Program} {T:TT} (hT:tabB P T=true) {fn:Func} {s:St} {g:Sto} {rs:List ResultVar} {xs:List AV} {r:AV} (hrs:fn.results.toList=rs) (h:optL (rs.map (resA T s))=some xs) (hx:Rn s.σ g (resV xs) r) (hB:∀id bd',(g id).body=some bd'->∃bd,(s.σ id).body=some bd/\RnB s.σ g bd bd'):retG P fn r g .ret s :=
 ⟨.inr rfl,resV xs,resL_ok hT hrs h,hx,hB⟩
theorem Rn.rowNIs {σ σ':Sto} {x:AV} {id ep ep' off n t t':Nat} {els els':List AV} (e:x = .row id ep off n) (h:σ id=⟨ep,some (.nest t els)⟩) (h':σ' id=⟨ep',some (.nest t' els')⟩) (hl:els'.length=els.length):Rn σ σ' x (.row id ep' off n):=e ▸ .rowN h h' hl
theorem Rn.aggL {σ σ':Sto} {z:AV} {xs ys:List AV} (e:z = .agg xs) (h:RnL σ σ' xs ys) (h1:ys.all AV.one=true):Rn σ σ' z (.agg ys):=by
 subst e
 obtain ⟨g1,g2⟩:=rnL_ok h
 exact .agg g1 (fun j y hy=>List.all_eq_true.1 h1 y (List.mem_of_getElem? hy)) g2
theorem gF_back {e1 e2 e3 m:Nat} {U:List (List Rws)} {σ:Sto} (hU:Fits U) (hF:∀k,σ (k+1000)=gF e1 e2 e3 m U [] k):∀id bd',(lkF [] (gF e1 e2 e3 m U []) id).body=some bd'->∃bd,(σ id).body=some bd/\RnB σ (lkF [] (gF e1 e2 e3 m U [])) bd bd':=fun id bd' hb=>by
  by_cases h:id<1000
  · rw [lkF_lo _ _ h] at hb;cases hb
  · obtain ⟨k,rfl⟩:∃k,id=k+1000:=⟨id - 1000,by omega⟩
    rw [lkF_hi] at hb
    exact ⟨bd',by rw [hF];exact hb,gF_all hU hF (fun k=>lkF_hi _ _ k) hb⟩
end Go.Proofs.YtoaibdbehlcnfaaGreat.Sm
end
section
namespace Go.Proofs.YtoaibdbehlcnfaaGreat.Sm
open Go.RowKit
section
variable {N : Nat} {T : List (Nat × AV)} {B : List (Nat × SB)} {f f' : Nat -> SB} {els : List AV} {e1 n L len : Nat} {bd : Body}
theorem set_get {els:List AV} {n k:Nat} {y x:AV} (h:(els.set n y)[k]?=some x):(k=n/\x=y)\/(k≠n/\els[k]?=some x):=by
 rw [List.getElem?_set] at h
 by_cases e:n=k
 ·subst e
  rw [if_pos rfl] at h
  split at h
  ·exact .inl ⟨rfl,(Option.some.inj h).symm⟩
  ·cases h
 ·rw [if_neg e] at h
  exact .inr ⟨fun h=>e h.symm,h⟩
theorem Rt.focus (hL0 : Nat.blt L 1000 = true) (h0 : f 0 = ⟨1, some (.nest e1 els)⟩) (hn : els[n]? = some (.row (rwI n + 1000) 1 0 len)) (hr : f (rwI n) = ⟨1, some bd⟩) (h0' : f' 0 = ⟨1, some (.nest e1 (els.set n (.row L 1 0 len)))⟩) (hr' : (f' (rwI n)).body = none) (hs : ∀ j, j ≠ 0 -> j ≠ rwI n -> f' j = f j)
    (hTk:(T.all fun q=>q.2.kn lo)=true) (hBk:(B.all fun q=>bodyKn lo q.2)=true) (hLB:lkB B L=⟨0,none⟩) (hk:∀j bd,(f' j).body=some bd->bd.kn (fun k=>!Nat.beq k (rwI n+1000))=true) (hbd:bd.kn (fun k=>!Nat.beq k (rwI n+1000))=true) :
    Rt N ⟨lkT T,lkF B f⟩ (fun _:Unit=>⟨lkT T,lkF ((L,⟨1,some bd⟩)::B) f'⟩) (fun _=>True):=by
  have hL0:=ble_lo hL0
  have hnl:n<els.length:=(List.getElem?_eq_some_iff.1 hn).1
  have hp:=rwI_pos n
  refine Rt.move (i := rwI n + 1000) (j := L) (L := 1000) (e := 1) (ej := 0) (eL := 1) (tL := e1) (bd := bd) (els := els) (els2 := els.set n (.row L 1 0 len)) (by omega) (by omega) (by omega) ?_ ?_ ?_ ?_ ?_ ?_ ?_ ?_ ?_ (lkT_kn (by
      refine List.all_eq_true.2 fun q hq=>AV.kn_mono (fun k h=>lo_r h) (List.all_eq_true.1 hTk q hq))) ?_
  · rw [lkF_hi,hr]
  · rw [lkF_lo _ _ hL0,hLB]
  · exact (lkF_hi _ _ 0).trans h0
  · simp
  · intro k x x2 hx hx2
    rcases set_get hx2 with ⟨rfl,rfl⟩ | ⟨_,hx2⟩
    · exact .inr ⟨0,len,Option.some.inj (hx.symm.trans hn),rfl⟩
    · exact .inl (Option.some.inj (hx2.symm.trans hx))
  · exact (lkF_hi _ _ 0).trans h0'
  · rw [lkF_lo _ _ hL0,lkB_eq]
  · rw [lkF_hi,hr']
  · intro k h1 h2 h3
    exact lkF_cases (fun _=>by rw [lkB_ne h2]) fun j hj=>hs j (fun e=>h3 (by rw [hj,e])) fun e=>h1 (by rw [hj,e])
  · intro k b hb
    by_cases hk':k<1000
    · rw [lkF_lo _ _ hk'] at hb
      by_cases e:k=L
      · subst e
        rw [lkB_eq] at hb
        obtain rfl:=Option.some.inj hb
        exact hbd
      · rw [lkB_ne e] at hb
        exact Body.kn_mono (fun k h=>lo_r h) (lkB_kn hBk hb)
    · obtain ⟨j,rfl⟩:∃j,k=j+1000:=⟨k - 1000,by omega⟩
      rw [lkF_hi] at hb
      exact hk j b hb
theorem Rt.unfocus (hL0 : Nat.blt L 1000 = true) (h0 : f 0 = ⟨1, some (.nest e1 els)⟩) (hn : els[n]? = some (.row L 1 0 len)) (hr : f (rwI n) = ⟨0, none⟩) (h0' : f' 0 = ⟨1, some (.nest e1 (els.set n (.row (rwI n + 1000) 1 0 len)))⟩) (hr' : f' (rwI n) = ⟨1, some bd⟩) (hs : ∀ j, j ≠ 0 -> j ≠ rwI n -> f' j = f j)
    (hTk:(T.all fun q=>q.2.kn fun k=>!Nat.beq k L)=true) (hBk:(B.all fun q=>bodyKn (fun k=>!Nat.beq k L) q.2)=true) (hLB:lkB B L=⟨0,none⟩) (hk:∀j bd,(f' j).body=some bd->bd.kn (fun k=>!Nat.beq k L)=true) :
    Rt N ⟨lkT T,lkF ((L,⟨1,some bd⟩)::B) f⟩ (fun _:Unit=>⟨lkT T,lkF B f'⟩) (fun _=>True):=by
  have hL0:=ble_lo hL0
  have hnl:n<els.length:=(List.getElem?_eq_some_iff.1 hn).1
  have hp:=rwI_pos n
  refine Rt.move (i:=L) (j:=rwI n+1000) (L:=1000) (e:=1) (ej:=0) (eL:=1) (tL:=e1) (bd:=bd) (els:=els) (els2:=els.set n (.row (rwI n+1000) 1 0 len)) (by omega) (by omega) (by omega) ?_ ?_ ?_ ?_ ?_ ?_ ?_ ?_ ?_ (lkT_kn hTk) ?_
  · rw [lkF_lo _ _ hL0,lkB_eq]
  · rw [lkF_hi,hr]
  · exact (lkF_hi _ _ 0).trans h0
  · simp
  · intro k x x2 hx hx2
    rcases set_get hx2 with ⟨rfl,rfl⟩ | ⟨_,hx2⟩
    · exact .inr ⟨0,len,Option.some.inj (hx.symm.trans hn),rfl⟩
    · exact .inl (Option.some.inj (hx2.symm.trans hx))
  · exact (lkF_hi _ _ 0).trans h0'
  · rw [lkF_hi,hr']
  · rw [lkF_lo _ _ hL0,hLB]
  · intro k h1 h2 h3
    exact lkF_cases (fun _=>by rw [lkB_ne h1]) fun j hj=>hs j (fun e=>h3 (by rw [hj,e])) fun e=>h2 (by rw [hj,e])
  · intro k b hb
    by_cases hk':k<1000
    · rw [lkF_lo _ _ hk'] at hb
      exact lkB_kn hBk hb
    · obtain ⟨j,rfl⟩:∃j,k=j+1000:=⟨k - 1000,by omega⟩
      rw [lkF_hi] at hb
      exact hk j b hb
theorem Rt.focusC {C k e2 : Nat} (hL0 : Nat.blt L 1000 = true) (hC0 : Nat.blt C 1000 = true) (hLC : L ≠ C) (hn : els[k]? = some (.row (clI n k + 1000) 1 0 len)) (hr : f (clI n k) = ⟨1, some bd⟩) (hr' : (f' (clI n k)).body = none) (hs : ∀ j, j ≠ clI n k -> f' j = f j)
    (hTk:(T.all fun q=>q.2.kn lo)=true) (hBk:(B.all fun q=>bodyKn lo q.2)=true) (hLB:lkB B C=⟨0,none⟩) (hk:∀j bd,(f' j).body=some bd->bd.kn (fun i=>!Nat.beq i (clI n k+1000))=true) (hbd:bd.kn (fun i=>!Nat.beq i (clI n k+1000))=true) (hel:∀(j:Nat) (x:AV),(els.set k (.row C 1 0 len))[j]?=some x->x.kn (fun i=>!Nat.beq i (clI n k+1000))=true) :
    Rt N ⟨lkT T,lkF ((L,⟨1,some (.nest e2 els)⟩)::B) f⟩ (fun _:Unit=>⟨lkT T,lkF ((L,⟨1,some (.nest e2 (els.set k (.row C 1 0 len)))⟩)::(C,⟨1,some bd⟩)::B) f'⟩) (fun _=>True):=by
  have hL0:=ble_lo hL0
  have hC0:=ble_lo hC0
  have hnl:k<els.length:=(List.getElem?_eq_some_iff.1 hn).1
  have hp:=clI_pos n k
  refine Rt.move (i := clI n k + 1000) (j := C) (L := L) (e := 1) (ej := 0) (eL := 1) (tL := e2) (bd := bd) (els := els) (els2 := els.set k (.row C 1 0 len)) (by omega) (by omega) hLC ?_ ?_ ?_ ?_ ?_ ?_ ?_ ?_ ?_ (lkT_kn (by
      refine List.all_eq_true.2 fun q hq=>AV.kn_mono (fun i h=>lo_s h) (List.all_eq_true.1 hTk q hq))) ?_
  · rw [lkF_hi,hr]
  · rw [lkF_lo _ _ hC0,lkB_ne (Ne.symm hLC),hLB]
  · rw [lkF_lo _ _ hL0,lkB_eq]
  · simp
  · intro j x x2 hx hx2
    rcases set_get hx2 with ⟨rfl,rfl⟩ | ⟨_,hx2⟩
    · exact .inr ⟨0,len,Option.some.inj (hx.symm.trans hn),rfl⟩
    · exact .inl (Option.some.inj (hx2.symm.trans hx))
  · rw [lkF_lo _ _ hL0,lkB_eq]
  · rw [lkF_lo _ _ hC0,lkB_ne (Ne.symm hLC),lkB_eq]
  · rw [lkF_hi,hr']
  · intro i h1 h2 h3
    exact lkF_cases (fun _=>by rw [lkB_ne h3,lkB_ne h2,lkB_ne h3]) fun j hj=>hs j fun e=>h1 (by rw [hj,e])
  · intro i b hb
    by_cases hk':i<1000
    · rw [lkF_lo _ _ hk'] at hb
      by_cases e:i=L
      · subst e
        rw [lkB_eq] at hb
        obtain rfl:=Option.some.inj hb
        refine List.all_eq_true.2 fun x hx=>?_
        obtain ⟨j,hj⟩:=List.getElem?_of_mem hx
        exact hel j x hj
      · rw [lkB_ne e] at hb
        by_cases e':i=C
        · subst e'
          rw [lkB_eq] at hb
          obtain rfl:=Option.some.inj hb
          exact hbd
        · rw [lkB_ne e'] at hb
          exact Body.kn_mono (fun k h=>lo_s h) (lkB_kn hBk hb)
    · obtain ⟨j,rfl⟩:∃j,i=j+1000:=⟨i - 1000,by omega⟩
      rw [lkF_hi] at hb
      exact hk j b hb
theorem Rt.unfocusC {C k e2 : Nat} (hL0 : Nat.blt L 1000 = true) (hC0 : Nat.blt C 1000 = true) (hLC : L ≠ C) (hn : els[k]? = some (.row C 1 0 len)) (hr : f (clI n k) = ⟨0, none⟩) (hr' : f' (clI n k) = ⟨1, some bd⟩) (hs : ∀ j, j ≠ clI n k -> f' j = f j)
    (hTk:(T.all fun q=>q.2.kn fun i=>!Nat.beq i C)=true) (hBk:(B.all fun q=>bodyKn (fun i=>!Nat.beq i C) q.2)=true) (hLB:lkB B C=⟨0,none⟩) (hk:∀j bd,(f' j).body=some bd->bd.kn (fun i=>!Nat.beq i C)=true) (hel:∀(j:Nat) (x:AV),(els.set k (.row (clI n k+1000) 1 0 len))[j]?=some x->x.kn (fun i=>!Nat.beq i C)=true) :
    Rt N ⟨lkT T,lkF ((L,⟨1,some (.nest e2 els)⟩)::(C,⟨1,some bd⟩)::B) f⟩ (fun _:Unit=>⟨lkT T,lkF ((L,⟨1,some (.nest e2 (els.set k (.row (clI n k+1000) 1 0 len)))⟩)::B) f'⟩) (fun _=>True):=by
  have hL0:=ble_lo hL0
  have hC0:=ble_lo hC0
  have hnl:k<els.length:=(List.getElem?_eq_some_iff.1 hn).1
  have hp:=clI_pos n k
  refine Rt.move (i:=C) (j:=clI n k+1000) (L:=L) (e:=1) (ej:=0) (eL:=1) (tL:=e2) (bd:=bd) (els:=els) (els2:=els.set k (.row (clI n k+1000) 1 0 len)) (by omega) hLC (by omega) ?_ ?_ ?_ ?_ ?_ ?_ ?_ ?_ ?_ (lkT_kn hTk) ?_
  · rw [lkF_lo _ _ hC0,lkB_ne (Ne.symm hLC),lkB_eq]
  · rw [lkF_hi,hr]
  · rw [lkF_lo _ _ hL0,lkB_eq]
  · simp
  · intro j x x2 hx hx2
    rcases set_get hx2 with ⟨rfl,rfl⟩ | ⟨_,hx2⟩
    · exact .inr ⟨0,len,Option.some.inj (hx.symm.trans hn),rfl⟩
    · exact .inl (Option.some.inj (hx2.symm.trans hx))
  · rw [lkF_lo _ _ hL0,lkB_eq]
  · rw [lkF_hi,hr']
  · rw [lkF_lo _ _ hC0,lkB_ne (Ne.symm hLC),hLB]
  · intro i h1 h2 h3
    exact lkF_cases (fun _=>by rw [lkB_ne h3,lkB_ne h3,lkB_ne h1]) fun j hj=>hs j fun e=>h2 (by rw [hj,e])
  · intro i b hb
    by_cases hk':i<1000
    · rw [lkF_lo _ _ hk'] at hb
      by_cases e:i=L
      · subst e
        rw [lkB_eq] at hb
        obtain rfl:=Option.some.inj hb
        refine List.all_eq_true.2 fun x hx=>?_
        obtain ⟨j,hj⟩:=List.getElem?_of_mem hx
        exact hel j x hj
      · rw [lkB_ne e] at hb
        exact lkB_kn hBk hb
    · obtain ⟨j,rfl⟩:∃j,i=j+1000:=⟨i - 1000,by omega⟩
      rw [lkF_hi] at hb
      exact hk j b hb
end
inductive RnBG (l:List Nat) (σ σ':Sto):Body->Body->Prop where
 | rn {b b':Body} (h:RnB σ σ' b b'):RnBG l σ σ' b b'
 | box {t:TypeId} {cs cs':List AV} (hl:cs'.length=cs.length) (h1:∀(j:Nat) (x:AV),cs'[j]?=some x->x.one=true) (h:∀(j:Nat) (x x':AV),cs[j]?=some x->cs'[j]?=some x'->RnF l σ σ' x x'):RnBG l σ σ' (.box t cs) (.box t cs')
 | nest {t:TypeId} {cs cs':List AV} (hl:cs'.length=cs.length) (h1:∀(j:Nat) (x:AV),cs'[j]?=some x->x.one=true) (h:∀(j:Nat) (x x':AV),cs[j]?=some x->cs'[j]?=some x'->RnF l σ σ' x x'):RnBG l σ σ' (.nest t cs) (.nest t cs')
theorem RnBG.rel {W:World} {F:Nat->Prop} {μ:Mu} {l:List Nat} {σ σ':Sto} (hi:Inv W F μ σ) {bd bd':Body} (hR:RnBG l σ σ' bd bd') {p:Option (Nat × Nat)} (hB:BodyRel W F μ σ p bd):BodyRel W (fun b=>F b\/Beh μ σ l b) μ σ' p bd':=by
  have up:∀{σ:Sto} {bd:Body},BodyRel W F μ σ p bd->BodyRel W (fun b=>F b\/Beh μ σ' l b\/Beh μ σ l b) μ σ p bd->True:=fun _ _=>trivial
  cases hR with
  | rn hR =>
    have h:=hR.rel hB
    cases bd' with
    | box t cs =>
      obtain ⟨b,c,vs,h1,h2,h3,h4⟩:=h
      exact ⟨b,c,vs,h1,h2,h3,fun j x v hj hv=>⟨(h4 j x v hj hv).1,(h4 j x v hj hv).2.toF fun b hb=>.inl hb⟩⟩
    | row t m els =>
      rcases h with h | ⟨b,cap,cur,h1,h2,h3,h4,h5,h6,h7⟩
      · exact .inl h
      · exact .inr ⟨b,cap,cur,h1,h2,h3,h4,h5,h6,fun k cs j x hk hj=>by obtain ⟨q1,v,q2,q3⟩:=h7 k cs j x hk hj;exact ⟨q1,v,q2,q3.to fun b hb=>.inl hb⟩⟩
    | ghost id ep q=>exact h
    | obj o=>exact h
    | nest t els =>
      rcases h with h | ⟨b,cap,cur,h1,h2,h3,h4,h5,h6⟩
      · exact .inl h
      · exact .inr ⟨b,cap,cur,h1,h2,h3,h4,h5,fun k x hk=>by obtain ⟨q1,v,q2,q3⟩:=h6 k x hk;exact ⟨q1,v,q2,q3.toF fun b hb=>.inl hb⟩⟩
  | @box t cs cs' hl h1 hrn =>
    obtain ⟨b,c,vs,hm,hw,hlv,hv⟩:=hB
    refine ⟨b,c,vs,hm,hw,by rw [hlv,hl],fun j x' v hj hvj=>⟨h1 j x' hj,?_⟩⟩
    obtain ⟨x,hxj⟩:∃x,cs[j]?=some x:=⟨_,List.getElem?_eq_getElem (by rw [<- hl];exact (List.getElem?_eq_some_iff.1 hj).1)⟩
    exact (hrn j x x' hxj hj).rel hi (hv j x v hxj hvj).2
  | @nest t els els' hl h1 hrn =>
    rcases hB with ⟨hn,rfl⟩ | ⟨b,cap,cur,hp,hh,q1,q2,q3,q4⟩
    · exact .inl ⟨hn,List.length_eq_zero_iff.1 hl⟩
    · refine .inr ⟨b,cap,cur,hp,hh,by omega,q2,q3,fun k x' hk=>⟨h1 k x' hk,?_⟩⟩
      obtain ⟨x,hx⟩:∃x,els[k]?=some x:=⟨_,List.getElem?_eq_getElem (by rw [<- hl];exact (List.getElem?_eq_some_iff.1 hk).1)⟩
      obtain ⟨_,v,hv,hr'⟩:=q4 k x hx
      exact ⟨v,hv,(hrn k x x' hx hk).rel hi hr'⟩
theorem freeze_inv {W : World} {F : Nat -> Prop} {μ : Mu} {σ σ' : Sto} (hi : Inv W F μ σ) {l : List Nat} (hB : ∀ id bd', (σ' id).body = some bd' -> ∃ bd, (σ id).body = some bd /\ RnBG l σ σ' bd bd') (hd : ∀ i ∈ l, (σ' i).body = none) :
    Inv W (fun b=>F b\/Beh μ σ l b) μ σ'/\Stq W F μ σ W (fun b=>F b\/Beh μ σ l b) μ σ':=by
  have own:∀x,Own μ σ' x->Own μ σ x/\¬Beh μ σ l x:=fun x ⟨id,ep,bd,c,h1,h2⟩=>by
    obtain ⟨bd0,h3,_⟩:=hB id bd (by rw [h1])
    refine ⟨⟨id,(σ id).ep,bd0,c,by rw [<- h3],h2⟩,fun ⟨id',g1,ep',bd',c',g2,g3⟩=>?_⟩
    have:=hi.inj id id' x c c' (by rw [h3];rfl) (by rw [g2];rfl) h2 g3
    subst this
    have:=hd _ g1
    rw [h1] at this
    cases this
  refine ⟨⟨fun id ep bd hb=>?_,fun x hx=>⟨(hi.apart x (own x hx).1).1,fun hF=>hF.elim (hi.apart x (own x hx).1).2 (own x hx).2⟩,fun id id' x c c' h1 h2=>?_,fun x hx=>hx.elim (hi.old x) fun ⟨id,_,ep,bd,c,h1,h2⟩=>(hi.apart x ⟨id,ep,bd,c,h1,h2⟩).1⟩,
    Kp.refl _ _,fun _ h=>.inl h,fun x hx=>hx.imp (fun h=>h) fun ⟨id,_,ep,bd,c,h1,h2⟩=>.inl ⟨id,ep,bd,c,h1,h2⟩,fun x hx=>.inl (own x hx).1⟩
  · obtain ⟨bd0,h3,hR⟩:=hB id bd (by rw [hb])
    exact hR.rel hi (hi.body id (σ id).ep bd0 (by rw [<- h3]))
  · have g : ∀ id, (σ' id).body.isSome = true -> (σ id).body.isSome = true := fun id hb => by
      obtain ⟨bd',e⟩:=Option.isSome_iff_exists.1 hb
      obtain ⟨bd,e',_⟩:=hB id bd' e
      rw [e'];rfl
    exact hi.inj id id' x c c' (g id h1) (g id' h2)
theorem Rt.freeze {N:Nat} {s s':St} (l:List Nat) (ht:∀t,RnF l s.σ s'.σ (s.ts t) (s'.ts t)) (hB:∀id bd',(s'.σ id).body=some bd'->∃bd,(s.σ id).body=some bd/\RnBG l s.σ s'.σ bd bd') (hd:∀i∈l,(s'.σ i).body=none):Rt N s (fun _:Unit=>s') (fun _=>True):=by
 intro W F μ a hr
 obtain ⟨h1,h2⟩:=freeze_inv hr.inv hB hd
 exact ⟨_,μ,(),trivial,⟨fun t=>(ht t).rel hr.inv (hr.ts t),hr.defers.go h2,hr.n,h1⟩,h2⟩
theorem grid_ids {f : Nat -> SB} {r : AV} (M : Nat) (hM : ∀ k, (f k).body.isSome = true -> k < M) (hpos : ∀ k, (f k).body.isSome = true -> 0 < (f k).ep) (hno : ∀ k, (f k).body = none -> f k = ⟨0, none⟩) (hself : ∀ σ2 : Sto, (∀ k, (f k).body.isSome = true -> σ2 (k + 1000) = f k) -> Rn (lkF [] f) σ2 r r /\ ∀ k bd, (f k).body = some bd -> RnB (lkF [] f) σ2 bd bd) :
    ∃ids,GIds (lkF [] f) r ids:=by
  have hm:∀id,id∈(List.range (M+1000)).filter (fun id=>(lkF [] f id).body.isSome)↔(lkF [] f id).body.isSome=true:=fun id=>by
    rw [List.mem_filter,List.mem_range]
    refine ⟨fun h=>h.2,fun h=>⟨?_,h⟩⟩
    by_cases hid:id<1000
    · omega
    · obtain ⟨k,rfl⟩:∃k,id=k+1000:=⟨id - 1000,by omega⟩
      rw [lkF_hi] at h
      have:=hM k h
      omega
  have hhi:∀id,(lkF [] f id).body.isSome=true->∃k,id=k+1000/\(f k).body.isSome=true:=fun id h=>by
    by_cases hid:id<1000
    · rw [lkF_lo _ _ hid] at h;cases h
    · obtain ⟨k,rfl⟩:∃k,id=k+1000:=⟨id - 1000,by omega⟩
      rw [lkF_hi] at h
      exact ⟨k,rfl,h⟩
  refine ⟨_,hm,fun id h=>?_,fun id h=>?_,fun id h=>?_,fun σ2 h=>?_⟩
  · obtain ⟨k,rfl,_⟩:=hhi id ((hm id).1 h)
    omega
  · obtain ⟨k,rfl,h1⟩:=hhi id ((hm id).1 h)
    rw [lkF_hi];exact hpos k h1
  · have h1 : (lkF [] f id).body = none := by
      cases hq:(lkF [] f id).body with
      | none=>rfl
      | some bd=>exact absurd ((hm id).2 (by rw [hq];rfl)) h
    by_cases hid:id<1000
    · rw [lkF_lo _ _ hid];rfl
    · obtain ⟨k,rfl⟩:∃k,id=k+1000:=⟨id - 1000,by omega⟩
      rw [lkF_hi] at h1 ⊢
      exact hno k h1
  · obtain ⟨h1,h2⟩:=hself σ2 fun k hk=>by rw [h (k+1000) ((hm _).2 (by rw [lkF_hi];exact hk)),lkF_hi]
    refine ⟨h1,fun id bd hb=>?_⟩
    obtain ⟨k,rfl,_⟩:=hhi id (by rw [hb];rfl)
    rw [lkF_hi] at hb
    exact h2 k bd hb
theorem FzL.mk {σ:Sto} {ys:List AV}:∀{xs:List AV},ys.length=xs.length->(∀(j:Nat) (x y:AV),xs[j]?=some x->ys[j]?=some y->∃l,Fz σ x y l/\∀i∈l,1000<=i)->∃l,FzL σ xs ys l/\∀i∈l,1000<=i:=by
 induction ys with
 | nil =>
  intro xs hl _
  obtain rfl:xs=[]:=List.length_eq_zero_iff.1 hl.symm
  exact ⟨[],.nil,fun i h=>by cases h⟩
 | cons y ys ih =>
  intro xs hl h
  cases xs with
  | nil=>cases hl
  | cons x xs =>
   obtain ⟨l1,g1,g2⟩:=h 0 x y rfl rfl
   obtain ⟨l2,g3,g4⟩:=ih (xs:=xs) (by simpa using hl) fun j a b ha hb=>h (j+1) a b (by simpa using ha) (by simpa using hb)
   refine ⟨l1++l2,.cons g1 g3,fun i hi=>?_⟩
   rcases List.mem_append.1 hi with h | h
   ·exact g2 i h
   ·exact g4 i h
end Go.Proofs.YtoaibdbehlcnfaaGreat.Sm
end
section
namespace Go.Proofs.YtoaibdbehlcnfaaGreat.Sm
open Go.RowKit
inductive WkB1G (l:List Nat) (s:St) (σ':Sto) (id:Nat):SB->Prop where
 | old {sb:SB} (h:WkB1F l s σ' id sb):WkB1G l s σ' id sb
 | nest {t:TypeId} {cs cs':List AV} {ep ep':Nat} (h:s.σ id=⟨ep,some (.nest t cs)⟩) (hl:cs'.length=cs.length) (h1:∀(j:Nat) (x:AV),cs'[j]?=some x->x.one=true) (hc:∀(j:Nat) (x x':AV),cs[j]?=some x->cs'[j]?=some x'->RnF l s.σ σ' x x'):WkB1G l s σ' id ⟨ep',some (.nest t cs')⟩
def WkBG (l:List Nat) (s:St) (σ':Sto):List (Nat × SB)->Prop
 | []=>True
 | p::b=>WkB1G l s σ' p.1 p.2/\WkBG l s σ' b
theorem RnBF.toG {l:List Nat} {σ σ':Sto} {b b':Body} (h:RnBF l σ σ' b b'):RnBG l σ σ' b b':=by
 cases h with
 | rn h=>exact .rn h
 | box hl h1 h=>exact .box hl h1 h
theorem wkBG_ok {l:List Nat} {s:St} {σ':Sto}:∀{b:List (Nat × SB)},WkBG l s σ' b->∀id bd',(lkB b id).body=some bd'->∃bd,(s.σ id).body=some bd/\RnBG l s.σ σ' bd bd'
 | [],_,id,bd',h=>by cases h
 | p::b,h,id,bd',hb=>by
  replace hb:(cond (Nat.beq id p.1) p.2 (lkB b id)).body=some bd':=hb
  cases hq:Nat.beq id p.1
  ·rw [hq] at hb
   exact wkBG_ok h.2 id bd' hb
  ·rw [hq] at hb
   replace hb:p.2.body=some bd':=hb
   rw [Nat.eq_of_beq_eq_true hq]
   have h1:=h.1
   obtain ⟨pid,psb⟩:=p
   cases h1 with
   | old h =>
    have:(lkB [(pid,psb)] pid).body=some bd':=by
     show (cond (Nat.beq pid pid) psb _).body=_
     rw [beq_t,cond_true];exact hb
    obtain ⟨bd,e1,e2⟩:=wkBF_ok (s:=s) (σ':=σ') (b:=[(pid,psb)]) ⟨h,trivial⟩ pid bd' this
    exact ⟨bd,e1,e2.toG⟩
   | nest h hl h1 hc =>
    obtain rfl:=Option.some.inj hb
    exact ⟨_,by rw [h],.nest hl h1 hc⟩
theorem Rt.freezeF {N : Nat} {s : St} {T : List (Nat × AV)} {b : List (Nat × SB)} {f : Nat -> SB} (l : List Nat) (ht : WkTF l s (lkF b f) T) (hB : WkBG l s (lkF b f) b) (hf : ∀ k bd', (f k).body = some bd' -> ∃ bd, (s.σ (k + 1000)).body = some bd /\ RnBG l s.σ (lkF b f) bd bd') (hd : ∀ i ∈ l, (lkF b f i).body = none) :
    Rt N s (fun _:Unit=>⟨lkT T,lkF b f⟩) (fun _=>True):=by
  refine Rt.freeze l (wkTF_ok ht) (fun id bd' h=>?_) hd
  by_cases hid:id<1000
  · rw [show (⟨lkT T,lkF b f⟩:St).σ id=lkB b id from lkF_lo _ _ hid] at h
    exact wkBG_ok hB id bd' h
  · obtain ⟨k,rfl⟩:∃k,id=k+1000:=⟨id - 1000,by omega⟩
    rw [show (⟨lkT T,lkF b f⟩:St).σ (k+1000)=f k from lkF_hi b f k] at h
    exact hf k bd' h
section
variable (e1 e2 : Nat)
end
section
variable {e1 e2 : Nat} {X : List (List AV)}
def mix {α β:Type} (f g:α->β) (T:List α) (n:Nat):List β:=(T.take n).map f++(T.drop n).map g
end
end Go.Proofs.YtoaibdbehlcnfaaGreat.Sm
end
section
namespace Go.Proofs.YtoaibdbehlcnfaaGreat.Sm
open Go.RowKit
theorem FzL.mkP {σ:Sto} {p:Nat->Prop} {ys:List AV}:∀{xs:List AV},ys.length=xs.length->(∀(j:Nat) (x y:AV),xs[j]?=some x->ys[j]?=some y->∃l,Fz σ x y l/\∀i∈l,p i)->∃l,FzL σ xs ys l/\∀i∈l,p i:=by
 induction ys with
 | nil =>
  intro xs hl _
  obtain rfl:xs=[]:=List.length_eq_zero_iff.1 hl.symm
  exact ⟨[],.nil,fun i h=>by cases h⟩
 | cons y ys ih =>
  intro xs hl h
  cases xs with
  | nil=>cases hl
  | cons x xs =>
   obtain ⟨l1,g1,g2⟩:=h 0 x y rfl rfl
   obtain ⟨l2,g3,g4⟩:=ih (xs:=xs) (by simpa using hl) fun j a b ha hb=>h (j+1) a b (by simpa using ha) (by simpa using hb)
   refine ⟨l1++l2,.cons g1 g3,fun i hi=>?_⟩
   rcases List.mem_append.1 hi with h | h
   ·exact g2 i h
   ·exact g4 i h
section
variable (e1 e2 e3 m : Nat)
noncomputable def gF1 (U:List (List Rws)) (n L len:Nat):Nat->SB:=famF ⟨1,some (.nest e1 ((tE U).set n (.row L 1 0 len)))⟩ (fun j=>if j=n then ⟨0,none⟩ else gRow e2 U j) (gCell e3 m U)
noncomputable def gF2 (U:List (List Rws)) (n k L len:Nat):Nat->SB:=famF ⟨1,some (.nest e1 ((tE U).set n (.row L 1 0 len)))⟩ (fun j=>if j=n then ⟨0,none⟩ else gRow e2 U j) (fun j i=>if j=n/\i=k then ⟨0,none⟩ else gCell e3 m U j i)
end
section
variable {e1 e2 e3 m : Nat} {U : List (List Rws)}
theorem gE_kn {p:Nat->Bool} {n:Nat} {tb:List Rws} (hp:∀k,k<tb.length->p (clI n k+1000)=true) {t:TypeId}:(Body.nest t (gE n tb)).kn p=true :=
 List.all_eq_true.2 fun x hx=>by
  obtain ⟨j,hj⟩:=List.getElem?_of_mem hx
  rw [gE_get] at hj
  obtain ⟨l,h2,rfl⟩:=Option.map_eq_some_iff.1 hj
  exact hp j (List.getElem?_eq_some_iff.1 h2).1
theorem nb_rc {n i k:Nat} (hk:k+1<gM):(!Nat.beq (clI i k+1000) (rwI n+1000))=true:=by
 rw [beq_f fun e=>rwI_clI hk (Nat.add_right_cancel e).symm];rfl
theorem Rt.focusG {N:Nat} {T:List (Nat × AV)} {B:List (Nat × SB)} {n L:Nat} {tb:List Rws} (hL0:Nat.blt L 1000=true) (hU:Fits U) (hn:U[n]?=some tb) (hTk:(T.all fun q=>q.2.kn lo)=true) (hBk:(B.all fun q=>bodyKn lo q.2)=true) (hLB:lkB B L=⟨0,none⟩) :
  Rt N ⟨lkT T,lkF B (gF e1 e2 e3 m U [])⟩ (fun _:Unit=>⟨lkT T,lkF ((L,⟨1,some (.nest e2 (gE n tb))⟩)::B) (gF1 e1 e2 e3 m U n L tb.length)⟩) (fun _=>True):=by
 have hL:=ble_lo hL0
 refine Rt.focus (e1:=e1) (els:=tE U) (n:=n) (len:=tb.length) hL0 rfl (by rw [tE_get,hn];rfl) (by rw [gF,famF_r];exact gRow_some hn) rfl (by rw [gF1,famF_r,if_pos rfl]) (fun j h0 hj=>?_) hTk hBk hLB (fun j bd hb=>?_) (gE_kn fun k hk=>nb_rc (by have:=hU tb (List.mem_of_getElem? hn);omega))
 ·rcases fam_ids j with rfl | ⟨i,rfl⟩ | ⟨i,k,hk2,rfl⟩
  ·exact absurd rfl h0
  ·rw [gF1,gF,famF_r,famF_r,if_neg fun e=>hj (by rw [e])]
  ·rw [gF1,gF,famF_s _ hk2,famF_s _ hk2,gCell_nil]
 ·rcases fam_ids j with rfl | ⟨i,rfl⟩ | ⟨i,k,hk2,rfl⟩
  ·obtain rfl:=Option.some.inj (show some (Body.nest e1 ((tE U).set n (.row L 1 0 tb.length)))=some bd from hb)
   refine List.all_eq_true.2 fun x hx=>?_
   obtain ⟨i,hi⟩:=List.getElem?_of_mem hx
   rcases set_get hi with ⟨rfl,rfl⟩ | ⟨hne,hi⟩
   ·show (!Nat.beq L (rwI i+1000))=true
    rw [beq_f (by omega)];rfl
   ·rw [tE_get] at hi
    obtain ⟨r',_,rfl⟩:=Option.map_eq_some_iff.1 hi
    show (!Nat.beq (rwI i+1000) (rwI n+1000))=true
    rw [beq_f fun e=>hne (rwI_inj (Nat.add_right_cancel e))];rfl
  ·rw [gF1,famF_r] at hb
   by_cases e:i=n
   ·rw [if_pos e] at hb;cases hb
   ·rw [if_neg e] at hb
    obtain ⟨r',h1,rfl⟩:=gRow_body hb
    exact gE_kn fun k hk=>nb_rc (by have:=hU r' (List.mem_of_getElem? h1);omega)
  ·rw [gF1,famF_s _ hk2] at hb
   obtain ⟨_,_,_,_,rfl⟩:=gCell_body hb
   rfl
theorem Rt.focusG2 {N:Nat} {T:List (Nat × AV)} {B:List (Nat × SB)} {n L C k:Nat} {tb:List Rws} {l:Rws} (hL0:Nat.blt L 1000=true) (hC0:Nat.blt C 1000=true) (hLC:L≠C) (hU:Fits U) (hn:U[n]?=some tb) (hk:tb[k]?=some l) (hTk:(T.all fun q=>q.2.kn lo)=true) (hBk:(B.all fun q=>bodyKn lo q.2)=true) (hLB:lkB B C=⟨0,none⟩) :
  Rt N ⟨lkT T,lkF ((L,⟨1,some (.nest e2 (gE n tb))⟩)::B) (gF1 e1 e2 e3 m U n L tb.length)⟩ (fun _:Unit=>⟨lkT T,lkF ((L,⟨1,some (.nest e2 ((gE n tb).set k (.row C 1 0 l.length)))⟩)::(C,⟨1,some (.row e3 m l)⟩)::B) (gF2 e1 e2 e3 m U n k L tb.length)⟩) (fun _=>True):=by
 have hL:=ble_lo hL0
 have hC:=ble_lo hC0
 have hkM:=hU.get hn hk
 refine Rt.focusC (els:=gE n tb) (n:=n) (k:=k) (len:=l.length) (bd:=.row e3 m l) hL0 hC0 hLC (by rw [gE_get,hk];rfl) (by rw [gF1,famF_s _ hkM];exact gCell_some hn hk) (by rw [gF2,famF_s _ hkM,if_pos ⟨rfl,rfl⟩]) (fun j hj=>?_) hTk hBk hLB (fun j bd hb=>?_) rfl (fun j x hx=>?_)
 ·rcases fam_ids j with rfl | ⟨i,rfl⟩ | ⟨i,q,hk2,rfl⟩
  ·rfl
  ·rw [gF1,gF2,famF_r,famF_r]
  ·rw [gF1,gF2,famF_s _ hk2,famF_s _ hk2,if_neg fun ⟨h1,h2⟩=>hj (by rw [h1,h2])]
 ·rcases fam_ids j with rfl | ⟨i,rfl⟩ | ⟨i,q,hk2,rfl⟩
  ·obtain rfl:=Option.some.inj (show some (Body.nest e1 ((tE U).set n (.row L 1 0 tb.length)))=some bd from hb)
   refine List.all_eq_true.2 fun x hx=>?_
   obtain ⟨i,hi⟩:=List.getElem?_of_mem hx
   rcases set_get hi with ⟨rfl,rfl⟩ | ⟨hne,hi⟩
   ·show (!Nat.beq L (clI i k+1000))=true
    rw [beq_f (by omega)];rfl
   ·rw [tE_get] at hi
    obtain ⟨r',_,rfl⟩:=Option.map_eq_some_iff.1 hi
    show (!Nat.beq (rwI i+1000) (clI n k+1000))=true
    rw [beq_f fun e=>rwI_clI hkM (Nat.add_right_cancel e)];rfl
  ·rw [gF2,famF_r] at hb
   by_cases e:i=n
   ·rw [if_pos e] at hb;cases hb
   ·rw [if_neg e] at hb
    obtain ⟨r',h1,rfl⟩:=gRow_body hb
    refine gE_kn fun q hq=>?_
    rw [beq_f fun e'=>e (clI_inj (by have:=hU r' (List.mem_of_getElem? h1);omega) hkM (Nat.add_right_cancel e')).1];rfl
  ·rw [gF2,famF_s _ hk2] at hb
   by_cases e:i=n/\q=k
   ·rw [if_pos e] at hb;cases hb
   ·rw [if_neg e] at hb
    obtain ⟨_,_,_,_,rfl⟩:=gCell_body hb
    rfl
 ·rcases set_get hx with ⟨rfl,rfl⟩ | ⟨hne,hx⟩
  ·show (!Nat.beq C (clI n j+1000))=true
   rw [beq_f (by omega)];rfl
  ·rw [gE_get] at hx
   obtain ⟨l',h2,rfl⟩:=Option.map_eq_some_iff.1 hx
   show (!Nat.beq (clI n j+1000) (clI n k+1000))=true
   rw [beq_f fun e'=>hne (clI_inj (hU.get hn h2) hkM (Nat.add_right_cancel e')).2];rfl
theorem gF2_self {σ σ':Sto} {n k L len:Nat} {t t':Nat} {r r':List AV} (hU:Fits U) (hσ:∀i,σ (i+1000)=gF2 e1 e2 e3 m U n k L len i) (hσ':∀i,σ' (i+1000)=gF2 e1 e2 e3 m U n k L len i) (hL:σ L=⟨1,some (.nest t r)⟩) (hL':σ' L=⟨1,some (.nest t' r')⟩) (hl:r'.length=r.length) {i:Nat} {bd:Body} (hb:(gF2 e1 e2 e3 m U n k L len i).body=some bd):RnB σ σ' bd bd:=by
 rcases fam_ids i with rfl | ⟨j,rfl⟩ | ⟨j,q,hk2,rfl⟩
 ·obtain rfl:=Option.some.inj (show some (Body.nest e1 ((tE U).set n (.row L 1 0 len)))=some bd from hb)
  refine .nest rfl (fun j x hj=>?_) fun j x x' hj hj'=>?_
  ·rcases set_get hj with ⟨_,rfl⟩ | ⟨_,hj⟩
   ·rfl
   ·exact tE_one U j x hj
  ·obtain rfl:=Option.some.inj (hj.symm.trans hj')
   rcases set_get hj with ⟨_,rfl⟩ | ⟨hne,hj⟩
   ·exact .rowN hL hL' hl
   ·rw [tE_get] at hj
    obtain ⟨r,h2,rfl⟩:=Option.map_eq_some_iff.1 hj
    have e:gF2 e1 e2 e3 m U n k L len (rwI j)=⟨1,some (.nest e2 (gE j r))⟩:=by rw [gF2,famF_r,if_neg hne];exact gRow_some h2
    exact .rowN (by rw [hσ,e]) (by rw [hσ',e]) rfl
 ·rw [gF2,famF_r] at hb
  by_cases e:j=n
  ·rw [if_pos e] at hb;cases hb
  ·rw [if_neg e] at hb
   obtain ⟨tb,h1,rfl⟩:=gRow_body hb
   refine .nest rfl (gE_one j tb) fun q x x' hj hj'=>?_
   obtain rfl:=Option.some.inj (hj.symm.trans hj')
   rw [gE_get] at hj
   obtain ⟨l,h2,rfl⟩:=Option.map_eq_some_iff.1 hj
   have e':gF2 e1 e2 e3 m U n k L len (clI j q)=⟨1,some (.row e3 m l)⟩:=by rw [gF2,famF_s _ (hU.get h1 h2),if_neg fun h=>e h.1];exact gCell_some h1 h2
   exact .row (by rw [hσ,e']) (by rw [hσ',e'])
 ·rw [gF2,famF_s _ hk2] at hb
  by_cases e:j=n/\q=k
  ·rw [if_pos e] at hb;cases hb
  ·rw [if_neg e] at hb
   obtain ⟨tb,l,_,_,rfl⟩:=gCell_body hb
   exact .row _ _ _
theorem Rt.gridh {N:Nat} {s:St} {T:List (Nat × AV)} {B:List (Nat × SB)} {n k L len:Nat} {r r':List AV} (l:List Nat) (hl0:(l.all fun i=>Nat.blt i 1000)=true) (hL0:Nat.blt L 1000=true) (hU:Fits U) (hF:∀i,s.σ (i+1000)=gF2 e1 e2 e3 m U n k L len i) (hL:s.σ L=⟨1,some (.nest e2 r)⟩) (hlen:r'.length=r.length) (h1:∀x∈r',x.one=true)
  (hr:∀(j:Nat) (x x':AV),r[j]?=some x->r'[j]?=some x'->RnF l s.σ (lkF ((L,⟨1,some (.nest e2 r')⟩)::B) (gF2 e1 e2 e3 m U n k L len)) x x')
  (hT:WkTF l s (lkF ((L,⟨1,some (.nest e2 r')⟩)::B) (gF2 e1 e2 e3 m U n k L len)) T) (hB:WkBG l s (lkF ((L,⟨1,some (.nest e2 r')⟩)::B) (gF2 e1 e2 e3 m U n k L len)) B) (hd:(l.all fun i=>(lkB ((L,⟨1,some (.nest e2 r')⟩)::B) i).body.isNone)=true) :
  Rt N s (fun _:Unit=>⟨lkT T,lkF ((L,⟨1,some (.nest e2 r')⟩)::B) (gF2 e1 e2 e3 m U n k L len)⟩) (fun _=>True):=by
 refine Rt.freezeF l hT ⟨.nest hL hlen (fun j x hj=>h1 x (List.mem_of_getElem? hj)) hr,hB⟩ (fun i bd' hb=>⟨bd',by rw [hF];exact hb,.rn (gF2_self (t':=e2) (r':=r') hU hF (fun i=>lkF_hi _ _ i) hL ?_ hlen hb)⟩) fun i hi=>?_
 ·rw [lkF_lo _ _ (ble_lo hL0)];exact lkB_eq
 ·rw [lkF_lo _ _ (ble_lo (List.all_eq_true.1 hl0 i hi))]
  simpa using List.all_eq_true.1 hd i hi
theorem gE_rnF {σ σ':Sto} {n k L len:Nat} {tb:List Rws} {l:List Nat} {x x':AV} (hU:Fits U) (hσ:∀i,σ (i+1000)=gF2 e1 e2 e3 m U n k L len i) (hσ':∀i,σ' (i+1000)=gF2 e1 e2 e3 m U n k L len i) (hn:U[n]?=some tb) (h0:RnF l σ σ' x x'):∀(j:Nat) (a b:AV),((gE n tb).set k x)[j]?=some a->((gE n tb).set k x')[j]?=some b->RnF l σ σ' a b:=fun j a b ha hb=>by
 rcases set_get ha with ⟨rfl,rfl⟩ | ⟨hne,ha⟩
 ·rcases set_get hb with ⟨_,rfl⟩ | ⟨hne,_⟩
  ·exact h0
  ·exact absurd rfl hne
 ·rcases set_get hb with ⟨e,_⟩ | ⟨_,hb⟩
  ·exact absurd e hne
  ·obtain rfl:=Option.some.inj (ha.symm.trans hb)
   rw [gE_get] at ha
   obtain ⟨l',h2,rfl⟩:=Option.map_eq_some_iff.1 ha
   have e':gF2 e1 e2 e3 m U n k L len (clI n j)=⟨1,some (.row e3 m l')⟩:=by rw [gF2,famF_s _ (hU.get hn h2),if_neg fun h=>hne h.2];exact gCell_some hn h2
   exact .rn (.row (by rw [hσ,e']) (by rw [hσ',e']))
theorem gE_set_one {n k:Nat} {tb:List Rws} {x:AV} (h:x.one=true):∀y∈(gE n tb).set k x,y.one=true:=fun y hy=>by
 obtain ⟨j,hj⟩:=List.getElem?_of_mem hy
 rcases set_get hj with ⟨_,rfl⟩ | ⟨_,hj⟩
 ·exact h
 ·exact gE_one n tb j y hj
theorem lkB_big {b:List (Nat × SB)} (hb0:(b.all fun p=>Nat.blt p.1 1000)=true) {i:Nat} (hi:1000<=i):lkB b i=⟨0,none⟩:=by
 induction b with
 | nil=>rfl
 | cons p b ih =>
  rw [List.all_cons,Bool.and_eq_true] at hb0
  have:=ble_lo hb0.1
  rw [lkB_ne (by omega)]
  exact ih hb0.2
theorem Rt.freezeA {N:Nat} {s:St} {T:List (Nat × AV)} {b:List (Nat × SB)} (l:List Nat) (ht:WkTF l s (lkB b) T) (hB:WkBG l s (lkB b) b) (hd:∀i∈l,(lkB b i).body=none):Rt N s (fun _:Unit=>stL T b) (fun _=>True) :=
 Rt.freeze l (wkTF_ok ht) (fun id bd' h=>wkBG_ok hB id bd' h) hd
theorem gE_fz {σ:Sto} {p:Nat->Prop} {n k L len:Nat} {tb:List Rws} {x y:AV} {l0:List Nat} (hU:Fits U) (hp:∀i,1000<=i->p i) (hσ:∀i,σ (i+1000)=gF2 e1 e2 e3 m U n k L len i) (hn:U[n]?=some tb) (h0:Fz σ x y l0) (hp0:∀i∈l0,p i):∃l,FzL σ ((gE n tb).set k x) ((tb.map AV.sl).set k y) l/\∀i∈l,p i:=by
 refine FzL.mkP (by rw [List.length_set,List.length_set,List.length_map,gE_len]) fun j a b ha hb=>?_
 rcases set_get ha with ⟨rfl,rfl⟩ | ⟨hne,ha⟩
 ·rcases set_get hb with ⟨_,rfl⟩ | ⟨hne,_⟩
  ·exact ⟨l0,h0,hp0⟩
  ·exact absurd rfl hne
 ·rcases set_get hb with ⟨e,_⟩ | ⟨_,hb⟩
  ·exact absurd e hne
  ·rw [gE_get] at ha
   obtain ⟨l,h2,rfl⟩:=Option.map_eq_some_iff.1 ha
   rw [List.getElem?_map,h2] at hb
   obtain rfl:=Option.some.inj hb
   have e':gF2 e1 e2 e3 m U n k L len (clI n j)=⟨1,some (.row e3 m l)⟩:=by rw [gF2,famF_s _ (hU.get hn h2),if_neg fun h=>hne h.2];exact gCell_some hn h2
   refine ⟨_,.row (by rw [hσ,e']) (by rw [List.drop_zero,List.take_length]),fun i hi=>hp i ?_⟩
   obtain rfl:=List.mem_singleton.1 hi
   omega
theorem gF2_fz {σ : Sto} {p : Nat -> Prop} {n k L len : Nat} {R : AV} {l0 : List Nat} (hU : Fits U) (hp : ∀ i, 1000 <= i -> p i) (hσ : ∀ i, σ (i + 1000) = gF2 e1 e2 e3 m U n k L len i) (h0 : Fz σ (.row L 1 0 len) R l0) (hp0 : ∀ i ∈ l0, p i) :
    ∃l,Fz σ (.row 1000 1 0 (tE U).length) (.sl (((U.map fun tb=>AV.sl ((tb.map AV.sl).map fun x=>[x])).set n R).map fun y=>[y])) l/\∀i∈l,p i:=by
  obtain ⟨l,g1,g2⟩:=FzL.mkP (σ:=σ) (p:=p) (xs:=(tE U).set n (.row L 1 0 len)) (ys:=(U.map fun tb=>AV.sl ((tb.map AV.sl).map fun x=>[x])).set n R) (by rw [List.length_set,List.length_set,List.length_map,tE_len]) fun j a b ha hb=>by
    rcases set_get ha with ⟨rfl,rfl⟩ | ⟨hne,ha⟩
    · rcases set_get hb with ⟨_,rfl⟩ | ⟨hne,_⟩
      · exact ⟨l0,h0,hp0⟩
      · exact absurd rfl hne
    · rcases set_get hb with ⟨e,_⟩ | ⟨_,hb⟩
      · exact absurd e hne
      · rw [tE_get] at ha
        obtain ⟨tb,h2,rfl⟩:=Option.map_eq_some_iff.1 ha
        rw [List.getElem?_map,h2] at hb
        obtain rfl:=Option.some.inj hb
        have e':gF2 e1 e2 e3 m U n k L len (rwI j)=⟨1,some (.nest e2 (gE j tb))⟩:=by rw [gF2,famF_r,if_neg hne];exact gRow_some h2
        obtain ⟨l,q1,q2⟩:=FzL.mkP (σ:=σ) (p:=p) (xs:=gE j tb) (ys:=tb.map AV.sl) (by rw [List.length_map,gE_len]) fun i a b ha hb=>by
          rw [gE_get] at ha
          obtain ⟨l,h3,rfl⟩:=Option.map_eq_some_iff.1 ha
          rw [List.getElem?_map,h3] at hb
          obtain rfl:=Option.some.inj hb
          have e':gF2 e1 e2 e3 m U n k L len (clI j i)=⟨1,some (.row e3 m l)⟩:=by rw [gF2,famF_s _ (hU.get h2 h3),if_neg fun h=>hne h.1];exact gCell_some h2 h3
          refine ⟨_,.row (by rw [hσ,e']) (by rw [List.drop_zero,List.take_length]),fun i hi=>hp i ?_⟩
          obtain rfl:=List.mem_singleton.1 hi
          omega
        have q3:=Fz.nest (show σ (rwI j+1000)=⟨1,some (.nest e2 (gE j tb))⟩ by rw [hσ,e']) q1
        rw [gE_len] at q3
        refine ⟨_,q3,fun i hi=>?_⟩
        rcases List.mem_cons.1 hi with rfl | hi
        · exact hp _ (by omega)
        · exact q2 i hi
  have h2:=Fz.nest (show σ 1000=⟨1,some (.nest e1 ((tE U).set n (.row L 1 0 len)))⟩ from (hσ 0).trans rfl) g1
  rw [List.length_set] at h2
  refine ⟨_,h2,fun i hi=>?_⟩
  rcases List.mem_cons.1 hi with rfl | hi
  · exact hp _ (Nat.le_refl _)
  · exact g2 i hi
theorem gF_ids (hU:Fits U) {xs:List AV} (hxs:(xs.all fun x=>x.pu1 && x.one)=true) {n:Nat}:∃ids,GIds (lkF [] (gF e1 e2 e3 m U [])) (.agg (xs++[.row 1000 1 0 n])) ids:=by
  have cs:∀i,(gF e1 e2 e3 m U [] i=⟨0,none⟩)\/(∃bd,gF e1 e2 e3 m U [] i=⟨1,some bd⟩/\i<U.length*gM+2):=fun i=>by
    rcases fam_ids i with rfl | ⟨j,rfl⟩ | ⟨j,q,hk2,rfl⟩
    · exact .inr ⟨_,rfl,by omega⟩
    · rw [gF,famF_r]
      cases hq:U[j]? with
      | none=>exact .inl (gRow_none hq)
      | some tb =>
        have h3:j<U.length:=(List.getElem?_eq_some_iff.1 hq).1
        have h4:=Nat.mul_le_mul_right gM (show j+1<=U.length from h3)
        rw [Nat.add_mul,Nat.one_mul] at h4
        have:=gM_pos
        exact .inr ⟨_,gRow_some hq,by unfold rwI;omega⟩
    · rw [gF,famF_s _ hk2,gCell_nil,gCell]
      cases hq:(U[j]?).bind fun tb=>tb[q]? with
      | none=>exact .inl rfl
      | some l =>
        obtain ⟨tb,h1,h2⟩:=Option.bind_eq_some_iff.1 hq
        have h3:j<U.length:=(List.getElem?_eq_some_iff.1 h1).1
        have h4:=Nat.mul_le_mul_right gM (show j+1<=U.length from h3)
        rw [Nat.add_mul,Nat.one_mul] at h4
        exact .inr ⟨_,rfl,by unfold clI;omega⟩
  refine grid_ids (U.length*gM+2) (fun i hi=>?_) (fun i hi=>?_) (fun i hi=>?_) fun σ2 h2=>⟨?_,fun i bd hb=>?_⟩
  · rcases cs i with h | ⟨bd,h,h'⟩
    · rw [h] at hi;cases hi
    · exact h'
  · rcases cs i with h | ⟨bd,h,h'⟩
    · rw [h] at hi;cases hi
    · rw [h];exact Nat.one_pos
  · rcases cs i with h | ⟨bd,h,h'⟩
    · exact h
    · rw [h] at hi;cases hi
  · refine .agg rfl (fun j x hj=>?_) fun j x x' hj hj'=>?_
    · rw [List.getElem?_append] at hj
      split at hj
      · have:=List.all_eq_true.1 hxs x (List.mem_of_getElem? hj)
        rw [Bool.and_eq_true] at this
        exact this.2
      · obtain rfl:=List.mem_singleton.1 (List.mem_of_getElem? hj)
        rfl
    · obtain rfl:=Option.some.inj (hj.symm.trans hj')
      rw [List.getElem?_append] at hj
      split at hj
      · have:=List.all_eq_true.1 hxs x (List.mem_of_getElem? hj)
        rw [Bool.and_eq_true] at this
        exact .pu this.1
      · obtain rfl:=List.mem_singleton.1 (List.mem_of_getElem? hj)
        exact .rowN (lkF_hi _ _ 0) (h2 0 rfl) rfl
  · have al:∀i bd,gF e1 e2 e3 m U [] i=⟨1,some bd⟩->σ2 (i+1000)=⟨1,some bd⟩:=fun i bd h=>by rw [h2 i (by rw [h];rfl),h]
    rcases fam_ids i with rfl | ⟨j,rfl⟩ | ⟨j,q,hk2,rfl⟩
    · obtain rfl:=Option.some.inj (show some (Body.nest e1 (tE U))=some bd from hb)
      refine .nest rfl (tE_one U) fun j x x' hj hj'=>?_
      obtain rfl:=Option.some.inj (hj.symm.trans hj')
      rw [tE_get] at hj
      obtain ⟨tb,h3,rfl⟩:=Option.map_eq_some_iff.1 hj
      have e:gF e1 e2 e3 m U [] (rwI j)=⟨1,some (.nest e2 (gE j tb))⟩:=by rw [gF,famF_r];exact gRow_some h3
      exact .rowN (by rw [lkF_hi,e]) (al _ _ e) rfl
    · rw [gF,famF_r] at hb
      obtain ⟨tb,h1,rfl⟩:=gRow_body hb
      refine .nest rfl (gE_one j tb) fun q x x' hj hj'=>?_
      obtain rfl:=Option.some.inj (hj.symm.trans hj')
      rw [gE_get] at hj
      obtain ⟨l,h3,rfl⟩:=Option.map_eq_some_iff.1 hj
      have e:gF e1 e2 e3 m U [] (clI j q)=⟨1,some (.row e3 m l)⟩:=by rw [gF,famF_s _ (hU.get h1 h3)];exact gCell_pre h1 h3
      exact .row (by rw [lkF_hi,e]) (al _ _ e)
    · rw [gF,famF_s _ hk2] at hb
      obtain ⟨tb,l,_,_,rfl⟩:=gCell_body hb
      exact .row _ _ _
end
end Go.Proofs.YtoaibdbehlcnfaaGreat.Sm
end
section
namespace Go.Proofs.YtoaibdbehlcnfaaGreat.Sm
open Go.RowKit
section
variable {e1 e2 e3 m : Nat} {U : List (List Rws)}
theorem set_at {α:Type} {l:List α} {n:Nat} {x y:α} (h:l[n]?=some x):(l.set n y)[n]?=some y:=by
 rw [List.getElem?_set,if_pos rfl,if_pos (List.getElem?_eq_some_iff.1 h).1]
theorem tE_set {n:Nat} {tb tb':List Rws} (hn:U[n]?=some tb) (hl:tb'.length=tb.length):tE (U.set n tb')=tE U:=by
 apply List.ext_getElem?
 intro i
 rw [tE_get,tE_get]
 by_cases e:i=n
 ·rw [e,set_at hn,hn,Option.map_some,Option.map_some,hl]
 ·rw [List.getElem?_set_ne (Ne.symm e)]
theorem fits_set (hU:Fits U) {n:Nat} {tb tb':List Rws} (hn:U[n]?=some tb) (hl:tb'.length=tb.length):Fits (U.set n tb'):=fun t ht=>by
 rcases List.mem_or_eq_of_mem_set ht with h | rfl
 ·exact hU t h
 ·rw [hl];exact hU tb (List.mem_of_getElem? hn)
theorem kn_row {L C:Nat} (hC:C<1000) (i:Nat) (h:L≠C):(AV.row L 1 0 i).kn (fun j=>!Nat.beq j C)=true:=by
 show (!Nat.beq L C)=true
 rw [beq_f h];rfl
theorem Rt.unfocusG2 {N : Nat} {T : List (Nat × AV)} {B : List (Nat × SB)} {n L C k : Nat} {tb : List Rws} {l l' : Rws} (hL0 : Nat.blt L 1000 = true) (hC0 : Nat.blt C 1000 = true) (hLC : L ≠ C) (hU : Fits U) (hn : U[n]? = some tb) (hk : tb[k]? = some l) (hll : l'.length = l.length) (hTk : (T.all fun q => q.2.kn fun i => !Nat.beq i C) = true) (hBk : (B.all fun q => bodyKn (fun i => !Nat.beq i C) q.2) = true) (hLB : lkB B C = ⟨0, none⟩) :
    Rt N ⟨lkT T,lkF ((L,⟨1,some (.nest e2 ((gE n tb).set k (.row C 1 0 l.length)))⟩)::(C,⟨1,some (.row e3 m l')⟩)::B) (gF2 e1 e2 e3 m U n k L tb.length)⟩ (fun _:Unit=>⟨lkT T,lkF ((L,⟨1,some (.nest e2 (gE n tb))⟩)::B) (gF1 e1 e2 e3 m (U.set n (tb.set k l')) n L tb.length)⟩) (fun _=>True):=by
  have hL:=ble_lo hL0
  have hC:=ble_lo hC0
  have hkM:=hU.get hn hk
  have hsl:(tb.set k l').length=tb.length:=List.length_set ..
  have hU':=fits_set hU hn hsl
  have hn':=set_at hn (y:=tb.set k l')
  have hk':=set_at hk (y:=l')
  have hge:(gE n tb)[k]?=some (.row (clI n k+1000) 1 0 l.length):=by rw [gE_get,hk];rfl
  have hback:((gE n tb).set k (.row C 1 0 l.length)).set k (.row (clI n k+1000) 1 0 l.length)=gE n tb:=by
    rw [List.set_set]
    apply List.ext_getElem?
    intro i
    by_cases e:i=k
    · rw [e,set_at hge,hge]
    · rw [List.getElem?_set_ne (Ne.symm e)]
  rw [show (gE n tb)=((gE n tb).set k (.row C 1 0 l.length)).set k (.row (clI n k+1000) 1 0 l.length) from hback.symm]
  rw [hback]
  have key:=Rt.unfocusC (N:=N) (T:=T) (B:=B) (e2:=e2) (f:=gF2 e1 e2 e3 m U n k L tb.length) (f':=gF1 e1 e2 e3 m (U.set n (tb.set k l')) n L tb.length) (els:=(gE n tb).set k (.row C 1 0 l.length)) (n:=n) (k:=k) (len:=l.length) (bd:=.row e3 m l') hL0 hC0 hLC (set_at hge) (by rw [gF2,famF_s _ hkM,if_pos ⟨rfl,rfl⟩]) (by rw [gF1,famF_s _ hkM];exact gCell_some hn' hk') (fun j hj=>?_) hTk hBk hLB (fun j bd hb=>?_) (fun j x hx=>?_)
  · rw [hback] at key
    exact key
  · rcases fam_ids j with rfl | ⟨i,rfl⟩ | ⟨i,q,hk2,rfl⟩
    · show (⟨1,some (Body.nest e1 ((tE (U.set n (tb.set k l'))).set n (.row L 1 0 tb.length)))⟩:SB)=⟨1,some (Body.nest e1 ((tE U).set n (.row L 1 0 tb.length)))⟩
      rw [tE_set hn hsl]
    · rw [gF1,gF2,famF_r,famF_r]
      by_cases e:i=n
      · rw [if_pos e,if_pos e]
      · rw [if_neg e,if_neg e,gRow,gRow,List.getElem?_set_ne (Ne.symm e)]
    · rw [gF1,gF2,famF_s _ hk2,famF_s _ hk2,if_neg fun ⟨h1,h2⟩=>hj (by rw [h1,h2]),gCell,gCell]
      by_cases e:i=n
      · subst e
        have hq:q≠k:=fun h=>hj (by rw [h])
        rw [hn',hn,Option.bind_some,Option.bind_some,List.getElem?_set_ne (Ne.symm hq)]
      · rw [List.getElem?_set_ne (Ne.symm e)]
  · rcases fam_ids j with rfl | ⟨i,rfl⟩ | ⟨i,q,hk2,rfl⟩
    · obtain rfl:=Option.some.inj (show some (Body.nest e1 ((tE (U.set n (tb.set k l'))).set n (.row L 1 0 tb.length)))=some bd from hb)
      refine List.all_eq_true.2 fun x hx=>?_
      obtain ⟨i,hi⟩:=List.getElem?_of_mem hx
      rcases set_get hi with ⟨rfl,rfl⟩ | ⟨hne,hi⟩
      · exact kn_row hC _ hLC
      · rw [tE_get] at hi
        obtain ⟨r',_,rfl⟩:=Option.map_eq_some_iff.1 hi
        exact kn_row hC _ (by omega)
    · rw [gF1,famF_r] at hb
      by_cases e:i=n
      · rw [if_pos e] at hb;cases hb
      · rw [if_neg e] at hb
        obtain ⟨r',h1,rfl⟩:=gRow_body hb
        exact gE_kn fun q hq=>by rw [beq_f (by omega)];rfl
    · rw [gF1,famF_s _ hk2] at hb
      obtain ⟨_,_,_,_,rfl⟩:=gCell_body hb
      rfl
  · rw [hback,gE_get] at hx
    obtain ⟨r',_,rfl⟩:=Option.map_eq_some_iff.1 hx
    exact kn_row hC _ (by omega)
theorem Rt.unfocusG {N:Nat} {T:List (Nat × AV)} {B:List (Nat × SB)} {n L:Nat} {tb:List Rws} (hL0:Nat.blt L 1000=true) (hU:Fits U) (hn:U[n]?=some tb) (hTk:(T.all fun q=>q.2.kn fun k=>!Nat.beq k L)=true) (hBk:(B.all fun q=>bodyKn (fun k=>!Nat.beq k L) q.2)=true) (hLB:lkB B L=⟨0,none⟩) :
  Rt N ⟨lkT T,lkF ((L,⟨1,some (.nest e2 (gE n tb))⟩)::B) (gF1 e1 e2 e3 m U n L tb.length)⟩ (fun _:Unit=>⟨lkT T,lkF B (gF e1 e2 e3 m U [])⟩) (fun _=>True):=by
 have hL:=ble_lo hL0
 have hte:(tE U)[n]?=some (.row (rwI n+1000) 1 0 tb.length):=by rw [tE_get,hn];rfl
 have hback:((tE U).set n (.row L 1 0 tb.length)).set n (.row (rwI n+1000) 1 0 tb.length)=tE U:=by
  rw [List.set_set]
  apply List.ext_getElem?
  intro i
  by_cases e:i=n
  ·rw [e,set_at hte,hte]
  ·rw [List.getElem?_set_ne (Ne.symm e)]
 refine Rt.unfocus (e1:=e1) (els:=(tE U).set n (.row L 1 0 tb.length)) (n:=n) (len:=tb.length) hL0 rfl (set_at hte) (by rw [gF1,famF_r,if_pos rfl]) (by rw [hback];rfl) (by rw [gF,famF_r];exact gRow_some hn) (fun j h0 hj=>?_) hTk hBk hLB (fun j bd hb=>?_)
 ·rcases fam_ids j with rfl | ⟨i,rfl⟩ | ⟨i,k,hk2,rfl⟩
  ·exact absurd rfl h0
  ·rw [gF1,gF,famF_r,famF_r,if_neg fun e=>hj (by rw [e])]
  ·rw [gF1,gF,famF_s _ hk2,famF_s _ hk2,gCell_nil]
 ·rcases fam_ids j with rfl | ⟨i,rfl⟩ | ⟨i,k,hk2,rfl⟩
  ·obtain rfl:=Option.some.inj (show some (Body.nest e1 (tE U))=some bd from hb)
   refine List.all_eq_true.2 fun x hx=>?_
   obtain ⟨i,hi⟩:=List.getElem?_of_mem hx
   rw [tE_get] at hi
   obtain ⟨r',_,rfl⟩:=Option.map_eq_some_iff.1 hi
   exact kn_row hL _ (by omega)
  ·rw [gF,famF_r] at hb
   obtain ⟨r',h1,rfl⟩:=gRow_body hb
   exact gE_kn fun q hq=>by rw [beq_f (by omega)];rfl
  ·rw [gF,famF_s _ hk2,gCell_nil] at hb
   obtain ⟨_,_,_,_,rfl⟩:=gCell_body hb
   rfl
theorem gF1_two {n L len:Nat} {tb:List Rws} (hn:U[n]?=some tb):gF1 e1 e2 e3 m U n L len=gF2 e1 e2 e3 m U n tb.length L len:=by
 funext j
 rcases fam_ids j with rfl | ⟨i,rfl⟩ | ⟨i,q,hk2,rfl⟩
 ·rfl
 ·rw [gF1,gF2,famF_r,famF_r]
 ·rw [gF1,gF2,famF_s _ hk2,famF_s _ hk2]
  by_cases e:i=n/\q=tb.length
  ·rw [if_pos e,e.1,e.2,gCell,hn,Option.bind_some,List.getElem?_eq_none (Nat.le_refl _)]
  ·rw [if_neg e]
end
end Go.Proofs.YtoaibdbehlcnfaaGreat.Sm
end
section
namespace Go.Proofs.YtoaibdbehlcnfaaGreat.Sm
open Go.RowKit
structure Cf.Fit (c:Cf):Prop where
 ports:c.topo.ports.length*24<=reachBytes
 pts:∀r∈c.topo.ports,r.length*40<=reachBytes
 peers:c.pol.peers.length*16<=reachBytes
 ways:c.pol.ways.length*24<=reachBytes
 tabs:c.tables.length*24<=reachBytes
 rows:∀t∈c.tables,t.length*24<=reachBytes
 rules:∀t∈c.tables,∀l∈t,l.length*96<=reachBytes
theorem reach_eq:reachBytes=140737488351232:=by decide
def zCf:List AV:=[.sl [],.i .i64 0,.sl [],.sl [],.sl []]
def cellsT (T:List (List (List Rl))):List (List Rws):=T.map fun t=>t.map fun l=>l.map cRl
theorem d_Copy (c:Cf) (hf:c.Fit):GDoes Tryz.prog 16 [.agg (cCf c)] (.agg [.sl (c.topo.ports.map cPts),.i .i64 c.pol.tenants,.sl (c.pol.peers.map cPr),.sl (c.pol.ways.map cWy),.row 1000 1 0 c.tables.length]) (lkF [] (gF 47 48 40 12 (cellsT c.tables) [])):=by
  refine GDoes.of_body Tryz.func16 rfl (by kernel_rfl) rfl rfl ?_
  have hp:=hf.peers
  have hw:=hf.ways
  rw [reach_eq] at hp hw
  refine jB ?_
  refine wF ?_;refine wH rfl ?_;refine jB ?_
  refine wF ?_;refine wH rfl ?_;refine jB ?_
  refine AW.text ?_
  refine RG.opS rfl (op_build0 (id:=13) rfl (tk rfl) rfl (tk rfl)) rfl ?_;refine wH rfl ?_;refine jA ?_
  refine RG.opS rfl (op_apB cPr c.pol.peers (S:=16) (by omega) rfl rfl (fun _=>rfl) rfl rfl rfl rfl (tk rfl) rfl (tk rfl) rfl ⟨_,rfl,rfl⟩ rfl) rfl ?_
  refine wH rfl ?_;refine jA ?_
  refine RG.opS rfl (op_build0 (id:=20) rfl (tk rfl) rfl (tk rfl)) rfl ?_;refine wH rfl ?_;refine jA ?_
  refine RG.opS rfl (op_apB cWy c.pol.ways (S:=24) (by omega) rfl rfl (fun _=>rfl) rfl rfl rfl rfl (tk rfl) rfl (tk rfl) rfl ⟨_,rfl,rfl⟩ rfl) rfl ?_
  refine wH rfl ?_;refine jA ?_
  refine AW.freeze [13,20] [(1,.own 1 0 0),(2,.own 2 0 0),(3,.own 3 0 0),(4,.i .i64 (0:Nat))] [(1,⟨0,some (.box 31 (cCf c))⟩),(2,⟨0,some (.box 31 zCf)⟩),(3,⟨0,some (.box 31 [.raw (.slice none 0 0),.i .i64 c.pol.tenants,.sl (c.pol.peers.map cPr),.sl (c.pol.ways.map cWy),.raw (.slice none 0 0)])⟩)] ⟨.rn (rO rfl rfl rfl),.rn (rO rfl rfl rfl),.rn (rO rfl rfl rfl),.is rfl rfl,trivial⟩ ⟨.boxL rfl ⟨.is rfl rfl,.is rfl rfl,.is rfl rfl,.is rfl rfl,.is rfl rfl,trivial⟩ rfl,.boxL rfl ⟨.fzA rfl rfl rfl,.is rfl rfl,.fzA rfl rfl rfl,.fzA rfl rfl rfl,.fzA rfl rfl rfl,trivial⟩ rfl,.boxL rfl ⟨.is rfl rfl,.is rfl rfl,.fzA rfl rfl (rowAllM rfl),.fzA rfl rfl (rowAllM rfl),.is rfl rfl,trivial⟩ rfl,trivial⟩ rfl ?_
  refine AW.nilRow 40 0 115 1 [(1,.own 1 0 0),(2,.own 2 0 0),(3,.own 3 0 0),(4,.i .i64 (0:Nat))] [(1,⟨0,some (.box 31 (cCf c))⟩),(2,⟨0,some (.box 31 zCf)⟩),(3,⟨0,some (.box 31 [.row 40 0 0 0,.i .i64 c.pol.tenants,.sl (c.pol.peers.map cPr),.sl (c.pol.ways.map cWy),.raw (.slice none 0 0)])⟩),(40,⟨0,some (.row 115 1 [])⟩)] ⟨.rn (rO rfl rfl rfl),.rn (rO rfl rfl rfl),.rn (rO rfl rfl rfl),.is rfl rfl,trivial⟩ ⟨.old (bS rfl rfl rfl),.old (bS rfl rfl rfl),.boxL rfl ⟨.nil rfl,.is rfl rfl,.is rfl rfl,.is rfl rfl,.is rfl rfl,trivial⟩ rfl,.old (bR rfl rfl),trivial⟩ ?_
  refine AW.loopL (ι:=Nat) (fun i=>[(1,.own 1 0 0),(2,.own 2 0 0),(3,.own 3 0 0),(4,.i .i64 (i:Nat))]) (fun i=>[(1,⟨0,some (.box 31 (cCf c))⟩),(2,⟨0,some (.box 31 zCf)⟩),(3,⟨0,some (.box 31 [.row 40 0 0 ((c.topo.ports.take i).map cPts).length,.i .i64 c.pol.tenants,.sl (c.pol.peers.map cPr),.sl (c.pol.ways.map cWy),.raw (.slice none 0 0)])⟩),(40,⟨0,some (.row 115 1 ((c.topo.ports.take i).map cPts))⟩)]) (fun i=>i<=c.topo.ports.length) (fun i=>c.topo.ports.length - i) 0 (Nat.zero_le _) jW ⟨bS rfl rfl rfl,bS rfl rfl rfl,.boxL rfl ⟨rR rfl rfl rfl,rI rfl rfl,rI rfl rfl,rI rfl rfl,rI rfl rfl,trivial⟩ rfl,bR rfl rfl,trivial⟩ fun i hi=>?_
  have hpl:=hf.ports
  rw [reach_eq] at hpl
  refine jA ?_
  refine AW.cond rfl (fun h1=>?_) (fun h1=>?_)
  · have k:i<c.topo.ports.length:=by simpa using h1
    have hr:=hf.pts c.topo.ports[i] (List.getElem_mem k)
    rw [reach_eq] at hr
    have htk:(c.topo.ports.take i).map cPts++[cPts c.topo.ports[i]]=(c.topo.ports.take (i+1)).map cPts:=by
      rw [List.take_add_one,List.getElem?_eq_getElem k,List.map_append];rfl
    have hln:((c.topo.ports.take i).map cPts).length=i:=by rw [List.length_map,List.length_take];omega
    generalize hX:(c.topo.ports.take i).map cPts=X at htk hln
    refine jB ?_
    refine AW.draws mixed_ok ?_
    refine wH rfl ?_
    refine RG.opS rfl (op_build0 (id:=38) rfl (tk rfl) rfl (tk rfl)) rfl ?_
    refine wH rfl ?_
    refine RG.opS rfl (op_index rfl (tk rfl) rfl (tk rfl) rfl rfl (show (c.topo.ports.map cPts)[i]?=some (cPts c.topo.ports[i]) by rw [List.getElem?_map,List.getElem?_eq_getElem (by assumption)];rfl) rfl) rfl ?_
    refine wH rfl ?_
    refine RG.opS rfl (op_apB cPt c.topo.ports[i] (S:=40) (by omega) rfl rfl (fun _=>rfl) rfl rfl rfl rfl (tk rfl) rfl (tk rfl) rfl ⟨_,rfl,rfl⟩ rfl) rfl ?_
    refine wH rfl ?_
    refine RG.opS rfl (op_ap1B (S:=24) htk (by rw [hln];omega) (congrArg (fun x=>[x]) (rowAllM rfl)) rfl rfl rfl rfl rfl rfl (tk rfl) rfl (tk rfl) rfl ⟨_,rfl,rfl⟩ rfl rfl) rfl ?_
    refine wH rfl ?_;refine jA ?_
    subst hX
    exact ⟨i+1,⟨k,by omega⟩,⟨rO rfl rfl rfl,rO rfl rfl rfl,rO rfl rfl rfl,rI (i64_next k (by omega)) rfl,trivial⟩,⟨bS rfl rfl rfl,bS rfl rfl rfl,.boxL rfl ⟨rR rfl rfl rfl,rI rfl rfl,rI rfl rfl,rI rfl rfl,rI rfl rfl,trivial⟩ rfl,bR rfl rfl,trivial⟩⟩
  · have k:¬i<c.topo.ports.length:=by simpa using h1
    obtain rfl:i=c.topo.ports.length:=by omega
    refine jB ?_
    refine jE ?_;refine jB ?_
    refine wF ?_;refine wH rfl ?_;refine jB ?_
    refine AW.freeze [40] [(1,.own 1 0 0),(2,.own 2 0 0),(3,.own 3 0 0),(5,.i .i64 (0:Nat))] [(1,⟨0,some (.box 31 (cCf c))⟩),(2,⟨0,some (.box 31 zCf)⟩),(3,⟨0,some (.box 31 [.sl (c.topo.ports.map cPts),.i .i64 c.pol.tenants,.sl (c.pol.peers.map cPr),.sl (c.pol.ways.map cWy),.raw (.slice none 0 0)])⟩)] ⟨.rn (rO rfl rfl rfl),.rn (rO rfl rfl rfl),.rn (rO rfl rfl rfl),.is rfl rfl,trivial⟩ ⟨.old (bS rfl rfl rfl),.old (bS rfl rfl rfl),.boxL rfl ⟨.fzA rfl rfl ((rowAllM rfl).trans (by rw [List.take_length])),.is rfl rfl,.is rfl rfl,.is rfl rfl,.is rfl rfl,trivial⟩ rfl,trivial⟩ rfl ?_
    refine AW.nilNest 1000 0 47 [(1,.own 1 0 0),(2,.own 2 0 0),(3,.own 3 0 0),(5,.i .i64 (0:Nat))] [(1,⟨0,some (.box 31 (cCf c))⟩),(2,⟨0,some (.box 31 zCf)⟩),(3,⟨0,some (.box 31 [.sl (c.topo.ports.map cPts),.i .i64 c.pol.tenants,.sl (c.pol.peers.map cPr),.sl (c.pol.ways.map cWy),.row 1000 0 0 0])⟩),(1000,⟨0,some (.nest 47 [])⟩)] ⟨.rn (rO rfl rfl rfl),.rn (rO rfl rfl rfl),.rn (rO rfl rfl rfl),.is rfl rfl,trivial⟩ ⟨.old (bS rfl rfl rfl),.old (bS rfl rfl rfl),.boxL rfl ⟨.is rfl rfl,.is rfl rfl,.is rfl rfl,.is rfl rfl,.nil rfl,trivial⟩ rfl,.old (.nest rfl rfl (by simp) (by simp)),trivial⟩ ?_
    have htl:=hf.tabs
    rw [reach_eq] at htl
    refine AW.loopR (ι:=Nat) (fun i=>⟨lkT [(1,.own 1 0 0),(2,.own 2 0 0),(3,.own 3 0 0),(5,.i .i64 (i:Nat))],lkF [(1,⟨0,some (.box 31 (cCf c))⟩),(2,⟨0,some (.box 31 zCf)⟩),(3,⟨0,some (.box 31 [.sl (c.topo.ports.map cPts),.i .i64 c.pol.tenants,.sl (c.pol.peers.map cPr),.sl (c.pol.ways.map cWy),.row 1000 1 0 (tE (cellsT (c.tables.take i))).length])⟩)] (gF 47 48 40 12 (cellsT (c.tables.take i)) [])⟩) (fun i=>i<=c.tables.length) (fun i=>c.tables.length - i)
      (Rt.at 0 (Nat.zero_le _) (Rt.grid0 rfl jW ⟨bS rfl rfl rfl,bS rfl rfl rfl,.boxL rfl ⟨rI rfl rfl,rI rfl rfl,rI rfl rfl,rI rfl rfl,.rowNIs rfl rfl rfl rfl,trivial⟩ rfl,trivial⟩)) fun i hi=>?_
    have hU:Fits (cellsT (c.tables.take i)):=fun tb htb=>by
      obtain ⟨t,ht,rfl⟩:=List.mem_map.1 htb
      have h1:=hf.rows t (List.mem_of_mem_take ht)
      rw [reach_eq] at h1
      rw [List.length_map,gM_eq]
      omega
    have hUl:(cellsT (c.tables.take i)).length=i:=by rw [cellsT,List.length_map,List.length_take];omega
    have hUs:∀k:i<c.tables.length,cellsT (c.tables.take i)++[c.tables[i].map fun l=>l.map cRl]=cellsT (c.tables.take (i+1)):=fun k=>by
      rw [List.take_add_one,List.getElem?_eq_getElem k,cellsT,cellsT,List.map_append];rfl
    generalize hUe:cellsT (c.tables.take i)=U at hU hUl hUs
    refine jB ?_
    refine wF ?_;refine wH rfl ?_;refine jB ?_
    refine AW.cond rfl (fun h2=>?_) (fun h2=>?_)
    · have ki:i<c.tables.length:=by simpa using h2
      have hrow:=hf.rows c.tables[i] (List.getElem_mem ki)
      rw [reach_eq] at hrow
      refine jB ?_
      refine AW.text ?_
      refine RG.opS rfl (op_build0N (id:=57) rfl (tk rfl) rfl (tk rfl) rfl) rfl ?_
      refine wH rfl ?_
      refine jB ?_
      refine wF ?_;refine wH rfl ?_;refine jB ?_
      have hPl:∀k,k<=c.tables[i].length->((c.tables[i].take k).map fun l=>l.map cRl).length=k:=fun k h=>by rw [List.length_map,List.length_take];omega
      have hPs:∀k (h:k<c.tables[i].length),((c.tables[i].take k).map fun l=>l.map cRl)++[c.tables[i][k].map cRl]=(c.tables[i].take (k+1)).map fun l=>l.map cRl:=fun k h=>by
        rw [List.take_add_one,List.getElem?_eq_getElem h,List.map_append];rfl
      refine AW.loopR (ι:=Nat) (fun k=>⟨lkT [(1,.own 1 0 0),(2,.own 2 0 0),(3,.own 3 0 0),(5,.i .i64 (i:Nat)),(6,.row 57 1 0 (gE U.length ((c.tables[i].take k).map fun l=>l.map cRl)).length),(7,.i .i64 (k:Nat))],lkF ((57,⟨1,some (.nest 48 (gE U.length ((c.tables[i].take k).map fun l=>l.map cRl)))⟩)::[(1,⟨0,some (.box 31 (cCf c))⟩),(2,⟨0,some (.box 31 zCf)⟩),(3,⟨0,some (.box 31 [.sl (c.topo.ports.map cPts),.i .i64 c.pol.tenants,.sl (c.pol.peers.map cPr),.sl (c.pol.ways.map cWy),.row 1000 1 0 (tE U).length])⟩)]) (gF 47 48 40 12 U ((c.tables[i].take k).map fun l=>l.map cRl))⟩) (fun k=>k<=c.tables[i].length) (fun k=>c.tables[i].length - k)
        (Rt.at 0 (Nat.zero_le _) (Rt.grid (P:=[]) hU (fun k=>rfl) ⟨rO rfl rfl rfl,rO rfl rfl rfl,rO rfl rfl rfl,rI rfl rfl,.rowNIs rfl rfl rfl rfl,rI rfl rfl,trivial⟩ ⟨.nest rfl rfl (by simp [gE]) (by simp [gE]),bS rfl rfl rfl,bS rfl rfl rfl,.boxL rfl ⟨rI rfl rfl,rI rfl rfl,rI rfl rfl,rI rfl rfl,.rowNIs rfl rfl rfl rfl,trivial⟩ rfl,trivial⟩)) fun k hk=>?_
      have hpl:=hPl k hk
      generalize hPe:((c.tables[i].take k).map fun l=>l.map cRl)=Pk at hpl
      refine jB ?_
      refine AW.text ?_
      refine wH rfl ?_
      refine RG.opS rfl (op_index rfl (tk rfl) rfl (tk rfl) rfl rfl (show (c.tables.map cTab)[i]?=some (cTab c.tables[i]) by rw [List.getElem?_map,List.getElem?_eq_getElem (by assumption)];rfl) rfl) rfl ?_
      refine wH rfl ?_;refine jA ?_
      refine AW.cond rfl (fun h3=>?_) (fun h3=>?_)
      · have k3:k<c.tables[i].length:=by simpa using h3
        have hru:=hf.rules c.tables[i] (List.getElem_mem ki) c.tables[i][k] (List.getElem_mem k3)
        rw [reach_eq] at hru
        have hps:=hPs k k3
        rw [hPe] at hps
        refine jB ?_
        refine AW.text ?_
        refine wH rfl ?_
        refine RG.opS rfl (op_build0 (id:=69) rfl (tk rfl) rfl (tk rfl)) rfl ?_
        refine wH rfl ?_
        refine RG.opS rfl (op_index rfl (tk rfl) rfl (tk rfl) rfl rfl (show (c.tables.map cTab)[i]?=some (cTab c.tables[i]) by rw [List.getElem?_map,List.getElem?_eq_getElem (by assumption)];rfl) rfl) rfl ?_
        refine wH rfl ?_
        refine RG.opS rfl (op_index rfl (tk rfl) rfl (tk rfl) rfl rfl (show (c.tables[i].map cRls)[k]?=some (cRls c.tables[i][k]) by rw [List.getElem?_map,List.getElem?_eq_getElem (by assumption)];rfl) rfl) rfl ?_
        refine wH rfl ?_
        refine RG.opS rfl (op_apB cRl c.tables[i][k] (S:=96) (by omega) rfl rfl (fun _=>rfl) rfl rfl rfl rfl (tk rfl) rfl (tk rfl) rfl ⟨_,rfl,rfl⟩ rfl) rfl ?_
        refine RG.opS rfl (op_buildRef (id:=79) rfl (tk rfl) rfl (tk rfl) rfl (by decide) rfl rfl rfl rfl rfl) rfl ?_
        refine RG.opS rfl (op_appN (ti:=⟨_,_,_,_⟩) rfl rfl rfl rfl (tk rfl) rfl (tk rfl) rfl ⟨_,rfl,rfl⟩ rfl rfl (show _*24<=_ by rw [gE_len,hpl];omega) (by rw [gE_len,hpl];omega)) rfl ?_
        refine wH rfl ?_;refine jA ?_
        refine Rt.at (k+1) ⟨k3,by omega⟩ ?_
        rw [<- hps]
        refine Rt.push2 (i:=69) (L:=57) rfl rfl (by decide) hU (by rw [hpl,gM_eq];omega) rfl rfl (fun k=>rfl) ⟨rO rfl rfl rfl,rO rfl rfl rfl,rO rfl rfl rfl,rI rfl rfl,.rowNIs (congrArg (AV.row 57 _ 0) (show (gE U.length Pk).length+1=(gE U.length (Pk++[c.tables[i][k].map cRl])).length by rw [gE_len,gE_len,List.length_append];rfl)) rfl rfl (by simp),rI (i64_next k3 (by omega)) rfl,trivial⟩ ⟨bS rfl rfl rfl,bS rfl rfl rfl,.boxL rfl ⟨rI rfl rfl,rI rfl rfl,rI rfl rfl,rI rfl rfl,.rowNIs rfl rfl rfl rfl,trivial⟩ rfl,trivial⟩ rfl rfl rfl rfl
        skip
      · have k3:¬k<c.tables[i].length:=by simpa using h3
        have kk:k=c.tables[i].length:=by omega
        rw [kk,List.take_length] at hPe
        clear hPl hPs h3 k3 hk
        refine jB ?_
        refine jE ?_;refine jB ?_
        refine AW.text ?_
        refine wH rfl ?_
        refine RG.opS rfl (op_buildRef (id:=84) rfl (tk rfl) rfl (tk rfl) rfl (by decide) rfl rfl rfl rfl rfl) rfl ?_
        refine RG.opS rfl (op_appN rfl rfl rfl rfl (tk rfl) rfl (tk rfl) rfl ⟨_,rfl,rfl⟩ rfl rfl (show _*24<=_ by rw [tE_len,hUl];omega) (by rw [tE_len,hUl];omega)) rfl ?_
        refine wH rfl ?_;refine jA ?_
        refine Rt.at (i+1) ⟨ki,by omega⟩ ?_
        have hUs:=hUs ki
        rw [hPe] at hUs
        have hR:=fun {N':Nat} {s:St} {T B} {ei eT:Nat}=>@Rt.push1 47 48 40 12 U Pk N' s T B 57 ei eT rfl hU (by rw [hpl,gM_eq];omega)
        rw [hUs] at hR
        refine hR rfl rfl ?_ ⟨rO rfl rfl rfl,rO rfl rfl rfl,rO rfl rfl rfl,rI (i64_next ki (by omega)) rfl,trivial⟩ ⟨bS rfl rfl rfl,bS rfl rfl rfl,.boxL rfl ⟨rI rfl rfl,rI rfl rfl,rI rfl rfl,rI rfl rfl,.rowNIs (congrArg (AV.row 1000 _ 0) (show (tE U).length+1=(tE (cellsT (c.tables.take (i+1)))).length by rw [<- hUs,tE_len,tE_len,List.length_append];rfl)) rfl rfl (by simp),trivial⟩ rfl,trivial⟩ rfl rfl rfl
        intro k hk
        cases k with
        | zero=>exact absurd rfl hk
        | succ k=>rfl
    · have ki:¬i<c.tables.length:=by simpa using h2
      obtain rfl:i=c.tables.length:=by omega
      rw [List.take_length] at hUe
      subst hUe
      refine jB ?_
      refine jE ?_;refine jB ?_
      refine wF ?_;refine wH rfl ?_;refine jB ?_
      refine AW.ret (retGA ty_ok rfl rfl ?_ (gF_back hU fun k=>rfl))
      exact Rn.aggL rfl ⟨rI rfl rfl,rI rfl rfl,rI rfl rfl,rI rfl rfl,.rowNIs (congrArg (AV.row 1000 _ 0) (show (tE (cellsT c.tables)).length=c.tables.length by rw [tE_len,hUl])) rfl rfl rfl,trivial⟩ rfl
end Go.Proofs.YtoaibdbehlcnfaaGreat.Sm
end
section
namespace Go.Proofs.YtoaibdbehlcnfaaGreat.Sm
open Go.RowKit
end Go.Proofs.YtoaibdbehlcnfaaGreat.Sm
end
section
namespace Go.Proofs.YtoaibdbehlcnfaaGreat.Sm
open Go.RowKit
theorem u8_wrap (v:UInt8):IntKind.i64.wrap ((v.toNat:Nat):Int)=((v.toNat:Nat):Int):=by
 have:=v.toNat_lt
 rw [IntKind.wrap_i64];omega
end Go.Proofs.YtoaibdbehlcnfaaGreat.Sm
end
section
namespace Go.Proofs.YtoaibdbehlcnfaaGreat.Sm
open Go.RowKit
def cellsR (t:List (List Rl)):List Rws:=t.map fun l=>l.map cRl
theorem cellsT_get {T:List (List (List Rl))} {n:Nat} {t:List (List Rl)} (h:T[n]?=some t):(cellsT T)[n]?=some (cellsR t):=by rw [cellsT,List.getElem?_map,h];rfl
theorem cellsT_set (T:List (List (List Rl))) (n:Nat) (t:List (List Rl)):(cellsT T).set n (cellsR t)=cellsT (T.set n t):=by rw [cellsT,cellsT,List.map_set];rfl
theorem cellsR_get {t:List (List Rl)} {i:Nat} {l:List Rl} (h:t[i]?=some l):(cellsR t)[i]?=some (l.map cRl):=by rw [cellsR,List.getElem?_map,h];rfl
theorem cellsR_set (t:List (List Rl)) (i:Nat) (l:List Rl):(cellsR t).set i (l.map cRl)=cellsR (t.set i l):=by rw [cellsR,cellsR,List.map_set]
theorem set_same {α:Type} {l:List α} {n:Nat} {x:α} (h:l[n]?=some x):l.set n x=l:=by
 apply List.ext_getElem?
 intro i
 by_cases e:i=n
 ·rw [e,set_at h,h]
 ·rw [List.getElem?_set_ne (Ne.symm e)]
theorem mix_rows {u:List Int} {T:List (List (List Rl))} {id n:Nat} (h3:∀t∈T,t.length<=3):∀t∈mixL (spA u id T) T n,t.length<=3:=by
 intro t ht
 rcases List.mem_append.1 ht with h | h
 ·obtain ⟨k,hk⟩:=List.getElem?_of_mem (List.mem_of_mem_take h)
  rw [spA_get] at hk
  obtain ⟨t0,h0,rfl⟩:=Option.map_eq_some_iff.1 hk
  rw [spT_len]
  exact h3 t0 (List.mem_of_getElem? h0)
 ·exact h3 t (List.mem_of_mem_drop h)
theorem fits3 {T:List (List (List Rl))} (h3:∀t∈T,t.length<=3):Fits (cellsT T):=fun tb htb=>by
 obtain ⟨t,ht,rfl⟩:=List.mem_map.1 htb
 have:=h3 t ht
 rw [List.length_map,gM_eq]
 omega
theorem gE_mix {u:List Int} {n id i:Nat} {t:List (List Rl)} (hi:i<=t.length):gE n (cellsR (mixL (spT u id t) t i))=gE n (cellsR t):=by
  have hl:=mixL_len (spT_len u t id) hi
  apply List.ext_getElem?
  intro j
  rw [gE_get,gE_get,cellsR,cellsR,List.getElem?_map,List.getElem?_map]
  by_cases hj:j<t.length
  · rw [List.getElem?_eq_getElem hj]
    by_cases h1:j<i
    · have e : (mixL (spT u id t) t i)[j]? = (spT u id t)[j]? := by
        rw [mixL,List.getElem?_append_left (by rw [List.length_take,spT_len];omega),List.getElem?_take_of_lt h1]
      rw [e,spT_get,List.getElem?_eq_getElem hj]
      simp [spL_len]
    · have hlt:((spT u id t).take i).length=i:=by rw [List.length_take,spT_len];omega
      rw [mixL,List.getElem?_append_right (by omega),hlt,List.getElem?_drop,show i+(j - i)=j by omega,List.getElem?_eq_getElem hj]
  · rw [List.getElem?_eq_none (by omega),List.getElem?_eq_none (show t.length<=j by omega)]
theorem Rt.gridr {e1 e2 e3 m:Nat} {U:List (List Rws)} {N:Nat} {s:St} {T:List (Nat × AV)} {B:List (Nat × SB)} {n L len:Nat} {tb:List Rws} {X:List AV} (hL0:Nat.blt L 1000=true) (hU:Fits U) (hn:U[n]?=some tb) (hX:gE n tb=X) (hF:∀i,s.σ (i+1000)=gF1 e1 e2 e3 m U n L len i) (hL:s.σ L=⟨1,some (.nest e2 X)⟩)
  (hT:WkTF [] s (lkF ((L,⟨1,some (.nest e2 X)⟩)::B) (gF1 e1 e2 e3 m U n L len)) T) (hB:WkBG [] s (lkF ((L,⟨1,some (.nest e2 X)⟩)::B) (gF1 e1 e2 e3 m U n L len)) B) :
  Rt N s (fun _:Unit=>⟨lkT T,lkF ((L,⟨1,some (.nest e2 X)⟩)::B) (gF1 e1 e2 e3 m U n L len)⟩) (fun _=>True):=by
 subst hX
 rw [gF1_two hn] at hF hT hB ⊢
 have hset:∀x:AV,(gE n tb).set tb.length x=gE n tb:=fun x=>List.set_eq_of_length_le (by rw [gE_len];exact Nat.le_refl _)
 refine Rt.gridh [] rfl hL0 hU hF hL rfl (fun x hx=>?_) (fun j x x' hj hj'=>?_) hT hB rfl
 ·obtain ⟨j,hj⟩:=List.getElem?_of_mem hx
  exact gE_one n tb j x hj
 ·exact gE_rnF (x:=.sl []) (x':=.sl []) hU hF (fun i=>lkF_hi _ _ i) hn (.is rfl rfl) j x x' (by rw [hset];exact hj) (by rw [hset];exact hj')
theorem Rt.gridl {e1 e2 e3 m:Nat} {U:List (List Rws)} {N:Nat} {s:St} {T:List (Nat × AV)} {B:List (Nat × SB)} {n i L C len ln:Nat} {tb:List Rws} {X:List AV} {R:Rws} (hL0:Nat.blt L 1000=true) (hU:Fits U) (hn:U[n]?=some tb) (hX:gE n tb=X) (hF:∀k,s.σ (k+1000)=gF2 e1 e2 e3 m U n i L len k) (hL:s.σ L=⟨1,some (.nest e2 (X.set i (.row C 1 0 ln)))⟩) (hC:s.σ C=⟨1,some (.row e3 m R)⟩)
  (hC':lkF ((L,⟨1,some (.nest e2 (X.set i (.row C 1 0 ln)))⟩)::B) (gF2 e1 e2 e3 m U n i L len) C=⟨1,some (.row e3 m R)⟩)
  (hT:WkTF [] s (lkF ((L,⟨1,some (.nest e2 (X.set i (.row C 1 0 ln)))⟩)::B) (gF2 e1 e2 e3 m U n i L len)) T) (hB:WkBG [] s (lkF ((L,⟨1,some (.nest e2 (X.set i (.row C 1 0 ln)))⟩)::B) (gF2 e1 e2 e3 m U n i L len)) B) :
  Rt N s (fun _:Unit=>⟨lkT T,lkF ((L,⟨1,some (.nest e2 (X.set i (.row C 1 0 ln)))⟩)::B) (gF2 e1 e2 e3 m U n i L len)⟩) (fun _=>True):=by
 subst hX
 exact Rt.gridh [] rfl hL0 hU hF hL rfl (gE_set_one rfl) (gE_rnF hU hF (fun k=>lkF_hi _ _ k) hn (.rn (Rn.rowIs rfl hC hC'))) hT hB rfl
theorem op_storeR {α:Type} (cF:α->List AV) (K K':List α) {P:Program} {N:Nat} {o:Oper} {s:St} {t ty m id ep k j:Nat} {ti:TI} {p x:Operand} {cs ns:List AV} (hr:(K.map cF).set k (ovw cs j ns)=K'.map cF) (ho:o.op = .store t p x) (ht:TiOk P t ti) (hp:s.ev p = .el id ep k j) (hid:s.σ id=⟨ep,some (.row ty m (K.map cF))⟩) (hk:(K.map cF)[k]?=some cs) (hx:(s.ev x).cells=ns)
  (h1:ns.all AV.one=true) (h2:ns.all AV.pu1=true) (hn:ns.length=ti.n) (hfit:j+ti.n<=cs.length):OpLoc P N o s ⟨.tup [],[(id,⟨ep,some (.row ty m (K'.map cF))⟩)],[]⟩:=by
 have h:=op_storeE (N:=N) ho ht hp hid hk hx h1 h2 hn hfit
 rw [hr] at h
 exact h
theorem ReachSpare_d (c:Cf) (v:UInt8) (s:Sp) (h:Hd) (hL:c.Lens) (hf:c.Fit):PDoes Tryz.prog 8 [.agg (cCf c),.y v,.agg (cSp s),.agg (cHd h)] (.b true):=by
  refine PDoes.of_bodyN Tryz.func8 rfl (by kernel_rfl) rfl rfl ?_
  have hAw:=d_awake30
  have hv:v.toNat<=255:=by have:=v.toNat_lt;omega
  have hw:IntKind.i64.wrap ((v.toNat:Nat):Int)=((v.toNat:Nat):Int):=by rw [IntKind.wrap_i64];omega
  by_cases he:lookE c ((v.toNat:Nat):Int)=0
  rotate_left
  · have hP:=d_RUsed0 c (IntKind.i64.wrap ((v.toNat:Nat):Int)) hL (by rw [hw];exact he)
    rw [show lookE c (IntKind.i64.wrap ((v.toNat:Nat):Int))=lookE c ((v.toNat:Nat):Int) by rw [hw]] at hP
    generalize lookE c ((v.toNat:Nat):Int)=m at he hP
    refine jB ?_;refine wF ?_;refine wH rfl ?_;refine jB ?_
    skip;(with_reducible first|apply wF|apply wG)
    refine wH rfl ?_
    refine RG.callMS rfl rfl rfl rfl rfl rfl hP rfl ?_;refine wH rfl ?_;refine jA ?_
    refine RG.callS rfl rfl rfl rfl rfl hAw rfl rfl ?_
    refine RG.runO ty_ok 0 [(30,.b true)] 400 rfl jD ?_
    refine jB ?_;refine AW.condT rfl ?_;refine jA ?_
    refine RG.callS rfl rfl rfl rfl rfl hAw rfl rfl ?_;refine wH rfl ?_;refine jA ?_
    refine AW.ret (retQA ty_ok rfl rfl rfl ?_)
    rfl
  have hz:=malE_sound (lookE_mal he)
  have hc:=Cf.ok hz
  have hP:PDoes Tryz.prog 29 [.agg (cCf c),.i .i64 (IntKind.i64.wrap ((v.toNat:Nat):Int))] (.tup [.sl ((usedAll c ((v.toNat:Nat):Int)).map cI),.i .i64 0]):=by
    rw [hw];exact d_RUsedX c _ hL he
  have hok:=usedAll_ok hc ((v.toNat:Nat):Int)
  have hN5:=tables_sum hz hL
  have hEg:=d_Edge c.topo.ports s
  by_cases hs:s∈edges c.topo.ports
  rotate_left
  · rw [edgeOf_neg hc.topo hs] at hEg
    refine jB ?_;refine wF ?_;refine wH rfl ?_;refine jB ?_
    skip;(with_reducible first|apply wF|apply wG)
    refine wH rfl ?_
    refine RG.callMS rfl rfl rfl rfl rfl rfl hP rfl ?_;refine wH rfl ?_;refine jA ?_
    refine RG.callS rfl rfl rfl rfl rfl hAw rfl rfl ?_
    refine wH rfl ?_
    refine RG.callS rfl rfl rfl rfl rfl hEg rfl rfl ?_;refine wH rfl ?_;refine jA ?_
    refine AW.condT rfl ?_;refine jA ?_
    refine RG.callS rfl rfl rfl rfl rfl hAw rfl rfl ?_;refine wH rfl ?_;refine jA ?_
    refine AW.ret (retQA ty_ok rfl rfl rfl ?_)
    rfl
  have hge:=(edgeOf_iff hc.topo).2 hs
  generalize edgeOf c.topo.ports s=ed at hEg hge
  have hng:¬ed<0:=by omega
  have hrun:=runOf_spare he hs h (most:=300) (by decide)
  have hok2:=spC_ok hc (usedAll c ((v.toNat:Nat):Int))
  have hul:=hok.len
  generalize hue:usedAll c ((v.toNat:Nat):Int)=u at hP hok hrun hok2 hul
  clear hue
  have h3:∀t∈c.tables,t.length<=3:=fun t ht=>by
    obtain ⟨n,hn⟩:=List.mem_iff_getElem?.1 ht
    exact (tabSound_ok (hc.tabs n t hn)).2.1
  have h96:=lenT_le hz hL
  have htl:c.tables.length<=6/\1<=c.tables.length:=by
    have:=topoSound_ok hc.topo
    have:=hc.len
    omega
  obtain ⟨ids,hids⟩:=gF_ids (e1:=47) (e2:=48) (e3:=40) (m:=12) (fits3 h3) (xs:=[.sl (c.topo.ports.map cPts),.i .i64 c.pol.tenants,.sl (c.pol.peers.map cPr),.sl (c.pol.ways.map cWy)]) (n:=c.tables.length) rfl
  have hcp:=d_Copy c hf
  have hUl:∀n,n<=c.tables.length->(tE (cellsT (mixL (spA u 0 c.tables) c.tables n))).length=c.tables.length:=fun n hn=>by rw [tE_len,cellsT,List.length_map,mixL_len (spA_len u c.tables 0) hn]
  have hcz:cellsT c.tables=cellsT (mixL (spA u 0 c.tables) c.tables 0):=by rw [mixL_zero]
  rw [hcz] at hcp hids
  refine jB ?_;refine wF ?_;refine wH rfl ?_;refine jB ?_
  skip;(with_reducible first|apply wF|apply wG)
  refine wH rfl ?_
  refine RG.callMS rfl rfl rfl rfl rfl rfl hP rfl ?_;refine wH rfl ?_;refine jA ?_
  refine RG.callS rfl rfl rfl rfl rfl hAw rfl rfl ?_
  refine wH rfl ?_
  refine RG.callS rfl rfl rfl rfl rfl hEg rfl rfl ?_
  refine RG.runO ty_ok 0 [(37,.b false)] 400 rfl jD ?_
  refine jB ?_;refine AW.condF rfl ?_
  refine AW.freeze [4,6,7] [(1,.y v),(4,.ro (cCf c)),(6,.ro (cSp s)),(7,.ro (cHd h)),(9,.sl (u.map cI))] [] ⟨.rn (Rn.is rfl rfl),.fzA rfl rfl rfl,.fzA rfl rfl rfl,.fzA rfl rfl rfl,.rn (Rn.is rfl rfl),trivial⟩ trivial rfl ?_
  refine jB ?_
  skip;(with_reducible first|apply wF|apply wG)
  refine wH rfl ?_
  refine RG.callG rfl rfl rfl rfl rfl hcp hids (fun id h=>by obtain ⟨k,rfl⟩:∃k,id=k+1000:=⟨id - 1000,by omega⟩;rfl) rfl ?_
  refine wH rfl ?_;refine jA ?_
  have hmT:c.tables.length<=9223372036854775807:=by omega
  have lU:(u.map cI).length=u.length:=List.length_map ..
  have hmU:u.length<=9223372036854775807:=by omega
  refine AW.loopR (ι:=Nat × Nat) (fun i=>⟨lkT [(1,.y v),(4,.ro (cCf c)),(6,.ro (cSp s)),(7,.ro (cHd h)),(9,.sl (u.map cI)),(11,.own 11 0 0),(12,.i .i64 ((((c.tables.take i.1).map lenT).sum:Nat):Int)),(13,.i .i64 ((i.2:Nat):Int)),(14,.i .i64 ((i.1:Nat):Int))],lkF [(11,⟨0,some (.box 31 [.sl (c.topo.ports.map cPts),.i .i64 c.pol.tenants,.sl (c.pol.peers.map cPr),.sl (c.pol.ways.map cWy),.row 1000 1 0 c.tables.length])⟩)] (gF 47 48 40 12 (cellsT (mixL (spA u 0 c.tables) c.tables i.1)) [])⟩) (fun i=>i.1<=c.tables.length/\UpAt u i.2 ((c.tables.take i.1).map lenT).sum) (fun i=>c.tables.length - i.1)
    (Rt.at (0,0) ⟨Nat.zero_le _,⟨Nat.zero_le _,fun z hz=>by simp at hz,fun z hz=>(hok.lt z (by simpa using hz)).1⟩⟩ (Rt.grid (fits3 (mix_rows h3)) (fun k=>rfl) ⟨rI rfl rfl,rI rfl rfl,rI rfl rfl,rI rfl rfl,rI rfl rfl,rO rfl rfl rfl,rI rfl rfl,rI rfl rfl,rI rfl rfl,trivial⟩ ⟨.boxL rfl ⟨rI rfl rfl,rI rfl rfl,rI rfl rfl,rI rfl rfl,.rowNIs rfl rfl rfl rfl,trivial⟩ rfl,trivial⟩)) fun i hi=>?_
  obtain ⟨n,at_⟩:=i
  obtain ⟨hn,hup⟩:=hi
  simp only at hn hup
  have hXl:=hUl n hn
  refine jB ?_
  skip;(with_reducible first|apply wF|apply wG)
  refine wH rfl ?_
  refine RG.opS rfl (op_lenE rfl rfl rfl rfl (tk rfl) rfl rfl rfl) rfl ?_
  refine wH rfl ?_;refine jA ?_
  refine AW.cond rfl (fun h1=>?_) (fun h1=>?_)
  · have hn' : n < c.tables.length := by
      have:=of_decide_eq_true h1
      omega
    have hsum1:((c.tables.take (n+1)).map lenT).sum=((c.tables.take n).map lenT).sum+lenT c.tables[n]:=by
      rw [List.take_add_one,List.getElem?_eq_getElem hn',List.map_append,List.sum_append]
      simp
    have hsum2:((c.tables.take (n+1)).map lenT).sum<=576:=by
      rw [List.map_take]
      exact Nat.le_trans (take_sum _) hN5
    have hWn:(mixL (spA u 0 c.tables) c.tables n)[n]?=some c.tables[n]:=by rw [mixL_get (spA_len u c.tables 0) hn'];exact List.getElem?_eq_getElem hn'
    have hWs:(mixL (spA u 0 c.tables) c.tables n).set n (spT u ((c.tables.take n).map lenT).sum c.tables[n])=mixL (spA u 0 c.tables) c.tables (n+1):=mixL_set (spA_len u c.tables 0) hn' (by rw [spA_get,List.getElem?_eq_getElem hn',Nat.zero_add];rfl)
    have hW3:=mix_rows (u:=u) (id:=0) (n:=n) h3
    have ht3:=h3 _ (List.getElem_mem hn')
    generalize c.tables[n]=t at hsum1 hWn hWs ht3
    generalize mixL (spA u 0 c.tables) c.tables n=W at hWn hWs hW3 hXl
    generalize hidn:((c.tables.take n).map lenT).sum=idn at hup hsum1 hWs
    clear hidn
    have hU:=fits3 hW3
    have hUn:=cellsT_get hWn
    have htE:∀i,i<=t.length->tE ((cellsT W).set n (cellsR (mixL (spT u idn t) t i)))=tE (cellsT W):=fun i hi=>tE_set hUn (by rw [cellsR,cellsR,List.length_map,List.length_map,mixL_len (spT_len u t idn) hi])
    have hnl:n<(tE (cellsT W)).length:=by rw [hXl];exact hn'
    have hel0:((tE (cellsT W)).set n (.row 5 1 0 (cellsR t).length))[n]?=some (.row 5 1 0 (cellsR t).length):=by rw [List.getElem?_set,if_pos rfl,if_pos hnl]
    have lR:(cellsR t).length=t.length:=List.length_map ..
    refine jB ?_
    refine wF ?_;refine wH rfl ?_;refine jB ?_
    refine AW.loopR (ι:=Nat × Nat) (fun i=>⟨lkT [(1,.y v),(4,.ro (cCf c)),(6,.ro (cSp s)),(7,.ro (cHd h)),(9,.sl (u.map cI)),(11,.own 11 0 0),(12,.i .i64 (((idn+((t.take i.1).map List.length).sum):Nat):Int)),(13,.i .i64 ((i.2:Nat):Int)),(14,.i .i64 ((n:Nat):Int)),(15,.i .i64 ((i.1:Nat):Int))],lkF ((5,⟨1,some (.nest 48 (gE n (cellsR t)))⟩)::[(11,⟨0,some (.box 31 [.sl (c.topo.ports.map cPts),.i .i64 c.pol.tenants,.sl (c.pol.peers.map cPr),.sl (c.pol.ways.map cWy),.row 1000 1 0 c.tables.length])⟩)]) (gF1 47 48 40 12 ((cellsT W).set n (cellsR (mixL (spT u idn t) t i.1))) n 5 (cellsR t).length)⟩) (fun i=>i.1<=t.length/\UpAt u i.2 (idn+((t.take i.1).map List.length).sum)) (fun i=>t.length - i.1)
      (Rt.at (0,at_) ⟨Nat.zero_le _,hup⟩ (by
        show Rt _ _ (fun _:Unit=>⟨_,lkF _ (gF1 _ _ _ _ ((cellsT W).set n (cellsR (mixL (spT u idn t) t 0))) n 5 (cellsR t).length)⟩) _
        rw [mixL_zero,set_same hUn]
        exact Rt.trans (Rt.grid (T:=[(1,.y v),(4,.ro (cCf c)),(6,.ro (cSp s)),(7,.ro (cHd h)),(9,.sl (u.map cI)),(11,.own 11 0 0),(12,.i .i64 ((idn:Nat):Int)),(13,.i .i64 ((at_:Nat):Int)),(14,.i .i64 ((n:Nat):Int)),(15,.i .i64 (((0:Nat):Nat):Int))]) (B:=[(11,⟨0,some (.box 31 [.sl (c.topo.ports.map cPts),.i .i64 c.pol.tenants,.sl (c.pol.peers.map cPr),.sl (c.pol.ways.map cWy),.row 1000 1 0 c.tables.length])⟩)]) hU (fun k=>rfl) ⟨rI rfl rfl,rI rfl rfl,rI rfl rfl,rI rfl rfl,rI rfl rfl,rO rfl rfl rfl,rI rfl rfl,rI rfl rfl,rI rfl rfl,rI rfl rfl,trivial⟩ ⟨.boxL rfl ⟨rI rfl rfl,rI rfl rfl,rI rfl rfl,rI rfl rfl,.rowNIs rfl rfl rfl rfl,trivial⟩ rfl,trivial⟩) fun _ _=>Rt.focusG (L:=5) rfl hU hUn rfl rfl rfl)) fun i hi=>?_
    obtain ⟨i,at1⟩:=i
    obtain ⟨hi,hup1⟩:=hi
    simp only at hi hup1
    have hel:((tE ((cellsT W).set n (cellsR (mixL (spT u idn t) t i)))).set n (.row 5 1 0 (cellsR t).length))[n]?=some (.row 5 1 0 (cellsR t).length):=by rw [htE i hi];exact hel0
    have hUi:=fits_set hU hUn (tb':=cellsR (mixL (spT u idn t) t i)) (by rw [cellsR,cellsR,List.length_map,List.length_map,mixL_len (spT_len u t idn) hi])
    have hUin:=set_at hUn (y:=cellsR (mixL (spT u idn t) t i))
    have hgm:=gE_mix (n:=n) (u:=u) (id:=idn) hi
    have lM:(cellsR (mixL (spT u idn t) t i)).length=(cellsR t).length:=by rw [cellsR,cellsR,List.length_map,List.length_map,mixL_len (spT_len u t idn) hi]
    refine jB ?_
    skip;(with_reducible first|apply wF|apply wG)
    refine wH rfl ?_
    refine RG.opS rfl (op_ixE (k:=n) rfl (tk rfl) rfl (tk rfl) rfl rfl rfl hn' rfl) rfl ?_
    refine RG.opS rfl (op_ldE rfl (tk rfl) rfl rfl rfl hel) rfl ?_
    refine RG.opS rfl (op_lenE rfl rfl rfl rfl (tk rfl) rfl rfl rfl) rfl ?_
    refine wH rfl ?_;refine jA ?_
    refine AW.cond rfl (fun h2=>?_) (fun h2=>?_)
    · have hi' : i < t.length := by
        have:=of_decide_eq_true h2
        rw [lR] at this
        omega
      have hil:i<(cellsR t).length:=by rw [lR];exact hi'
      have hs1:((t.take (i+1)).map List.length).sum=((t.take i).map List.length).sum+t[i].length:=by
        rw [List.take_add_one,List.getElem?_eq_getElem hi',List.map_append,List.sum_append]
        simp
      have hs2:((t.take (i+1)).map List.length).sum<=lenT t:=by
        rw [List.map_take]
        exact take_sum _
      have hTi:(mixL (spT u idn t) t i)[i]?=some t[i]:=by rw [mixL_get (spT_len u t idn) hi'];exact List.getElem?_eq_getElem hi'
      have hTs:(mixL (spT u idn t) t i).set i (spL u (idn+((t.take i).map List.length).sum) t[i])=mixL (spT u idn t) t (i+1):=mixL_set (spT_len u t idn) hi' (by rw [spT_get,List.getElem?_eq_getElem hi'];rfl)
      generalize t[i]=l at hs1 hTi hTs
      generalize hM:mixL (spT u idn t) t i=M at hTi hTs hUi hUin hgm lM hel
      generalize hid1:idn+((t.take i).map List.length).sum=id1 at hup1 hTs
      have hMi:=cellsR_get hTi
      have ll:(l.map cRl).length=l.length:=List.length_map ..
      have hml:l.length<=9223372036854775807:=by omega
      have hgi:(gE n (cellsR t))[i]?=some (.row (clI n i+1000) 1 0 (l.map cRl).length):=by rw [<- hgm,gE_get,hMi];rfl
      have helb:((gE n (cellsR t)).set i (.row 6 1 0 (l.map cRl).length))[i]?=some (.row 6 1 0 (l.map cRl).length):=set_at hgi
      refine jB ?_
      refine wF ?_;refine wH rfl ?_;refine jB ?_
      refine AW.loopR (ι:=Nat × Nat) (fun k=>⟨lkT [(1,.y v),(4,.ro (cCf c)),(6,.ro (cSp s)),(7,.ro (cHd h)),(9,.sl (u.map cI)),(11,.own 11 0 0),(12,.i .i64 (((id1+k.1):Nat):Int)),(13,.i .i64 ((k.2:Nat):Int)),(14,.i .i64 ((n:Nat):Int)),(15,.i .i64 ((i:Nat):Int)),(16,.i .i64 ((k.1:Nat):Int))],lkF ((5,⟨1,some (.nest 48 ((gE n (cellsR t)).set i (.row 6 1 0 (l.map cRl).length)))⟩)::(6,⟨1,some (.row 40 12 ((mixL (spL u id1 l) l k.1).map cRl))⟩)::[(11,⟨0,some (.box 31 [.sl (c.topo.ports.map cPts),.i .i64 c.pol.tenants,.sl (c.pol.peers.map cPr),.sl (c.pol.ways.map cWy),.row 1000 1 0 c.tables.length])⟩)]) (gF2 47 48 40 12 ((cellsT W).set n (cellsR M)) n i 5 (cellsR t).length)⟩) (fun k=>k.1<=l.length/\UpAt u k.2 (id1+k.1)) (fun k=>l.length - k.1)
        (Rt.at (0,at1) ⟨Nat.zero_le _,hup1⟩ (by
          show Rt _ _ (fun _:Unit=>⟨_,lkF (_::(6,⟨1,some (.row _ 12 ((mixL (spL u id1 l) l 0).map cRl))⟩)::_) _⟩) _
          rw [mixL_zero]
          have key:=Rt.focusG2 (N:=Tryz.f8.ntmps) (T:=[(1,.y v),(4,.ro (cCf c)),(6,.ro (cSp s)),(7,.ro (cHd h)),(9,.sl (u.map cI)),(11,.own 11 0 0),(12,.i .i64 (((id1+0):Nat):Int)),(13,.i .i64 ((at1:Nat):Int)),(14,.i .i64 ((n:Nat):Int)),(15,.i .i64 ((i:Nat):Int)),(16,.i .i64 (((0:Nat):Nat):Int))]) (B:=[(11,⟨0,some (.box 31 [.sl (c.topo.ports.map cPts),.i .i64 c.pol.tenants,.sl (c.pol.peers.map cPr),.sl (c.pol.ways.map cWy),.row 1000 1 0 c.tables.length])⟩)]) (e1:=47) (e2:=48) (e3:=40) (m:=12) (L:=5) (C:=6) rfl rfl (by decide) hUi hUin hMi rfl rfl rfl
          rw [hgm,lM] at key
          exact Rt.trans (Rt.gridr (T:=[(1,.y v),(4,.ro (cCf c)),(6,.ro (cSp s)),(7,.ro (cHd h)),(9,.sl (u.map cI)),(11,.own 11 0 0),(12,.i .i64 (((id1+0):Nat):Int)),(13,.i .i64 ((at1:Nat):Int)),(14,.i .i64 ((n:Nat):Int)),(15,.i .i64 ((i:Nat):Int)),(16,.i .i64 (((0:Nat):Nat):Int))]) (B:=[(11,⟨0,some (.box 31 [.sl (c.topo.ports.map cPts),.i .i64 c.pol.tenants,.sl (c.pol.peers.map cPr),.sl (c.pol.ways.map cWy),.row 1000 1 0 c.tables.length])⟩)]) rfl hUi hUin hgm (fun k=>rfl) rfl ⟨.is rfl rfl,.is rfl rfl,.is rfl rfl,.is rfl rfl,.is rfl rfl,.rn (rO rfl rfl rfl),.is rfl rfl,.is rfl rfl,.is rfl rfl,.is rfl rfl,.is rfl rfl,trivial⟩ ⟨.old (.boxL rfl ⟨.is rfl rfl,.is rfl rfl,.is rfl rfl,.is rfl rfl,.rn (.rowNIs rfl rfl rfl rfl),trivial⟩ rfl),trivial⟩) fun _ _=>key)) fun k hk=>?_
      obtain ⟨k,at2⟩:=k
      obtain ⟨hk,hup2⟩:=hk
      simp only at hk hup2
      have lK:=mixL_len (spL_len u l id1) hk
      refine jB ?_
      skip;(with_reducible first|apply wF|apply wG)
      refine wH rfl ?_
      refine RG.opS rfl (op_ixE (k:=n) rfl (tk rfl) rfl (tk rfl) rfl rfl rfl hn' rfl) rfl ?_
      refine RG.opS rfl (op_ldE rfl (tk rfl) rfl rfl rfl hel) rfl ?_
      refine wH rfl ?_
      refine RG.opS rfl (op_ixE (k:=i) rfl (tk rfl) rfl (tk rfl) rfl rfl rfl hil rfl) rfl ?_
      refine RG.opS rfl (op_ldE rfl (tk rfl) rfl rfl rfl helb) rfl ?_
      refine wH rfl ?_;refine jA ?_
      refine AW.cond rfl (fun h4=>?_) (fun h4=>?_)
      · have hk' : k < l.length := by
          have:=of_decide_eq_true h4
          rw [ll] at this
          omega
        have hKk:(mixL (spL u id1 l) l k)[k]?=some l[k]:=by rw [mixL_get (spL_len u l id1) hk'];exact List.getElem?_eq_getElem hk'
        have hKs:(mixL (spL u id1 l) l k).set k (spR u (id1+k) l[k])=mixL (spL u id1 l) l (k+1):=mixL_set (spL_len u l id1) hk' (by rw [spL_get,List.getElem?_eq_getElem hk'];rfl)
        generalize l[k]=r at hKk hKs
        generalize mixL (spL u id1 l) l k=K at hKk hKs lK
        have hidk:id1+k<577:=by omega
        have hKc:(K.map cRl)[k]?=some (cRl r):=by rw [List.getElem?_map,hKk];rfl
        have hkl:k<(l.map cRl).length:=by rw [ll];exact hk'
        have hcid:AV.i .i64 (IntKind.i64.wrap (((id1+k:Nat):Int)+1)) = .i .i64 ((id1+(k+1):Nat):Int):=i64_next hidk (by decide)
        by_cases hlt:at2<u.length
        · have hla:(at2:Int)<((u.map cI).length:Nat):=by rw [lU];omega
          have hgu:(u.map cI)[at2]?=some (cI u[at2]):=by rw [List.getElem?_map,List.getElem?_eq_getElem hlt];rfl
          by_cases hit:u[at2]=((id1+k:Nat):Int)
          · obtain ⟨hup3,hany⟩:=hup2.hit hok.up hit
            have hKe:spR u (id1+k) r=r:=by rw [spR,hany];rfl
            rw [hKe,set_same hKk] at hKs
            generalize u[at2]=z at hgu hit
            refine jB ?_
            skip;(with_reducible first|apply wF|apply wG)
            refine RG.runO ty_ok 0 [(75,.b true)] 400 rfl jD ?_
            refine RG.opS rfl (op_index rfl (tk rfl) rfl (tk rfl) rfl rfl hgu rfl) rfl ?_
            refine RG.runO ty_ok 0 [(82,.b true)] 400 rfl jD ?_
            refine jB ?_;refine AW.condT rfl ?_;refine jA ?_
            refine Rt.at (k+1,at2+1) ⟨⟨hk',hup3⟩,by show l.length - (k+1)<l.length - k;omega⟩ ?_
            show Rt _ _ (fun _:Unit=>⟨_,lkF (_::(6,⟨1,some (.row _ 12 ((mixL (spL u id1 l) l (k+1)).map cRl))⟩)::_) _⟩) _
            rw [<- hKs]
            exact Rt.gridl rfl hUi hUin hgm (fun k=>rfl) rfl rfl rfl ⟨.is rfl rfl,.is rfl rfl,.is rfl rfl,.is rfl rfl,.is rfl rfl,.rn (rO rfl rfl rfl),.is hcid rfl,.is (i64_next hlt hmU) rfl,.is rfl rfl,.is rfl rfl,.is (i64_next hk' hml) rfl,trivial⟩ ⟨.old (.old (bR rfl rfl)),.old (.boxL rfl ⟨.is rfl rfl,.is rfl rfl,.is rfl rfl,.is rfl rfl,.rn (.rowNIs rfl rfl rfl rfl),trivial⟩ rfl),trivial⟩
          · obtain ⟨hup3,hany⟩:=hup2.miss hok.up (fun _=>hit)
            have hKe:spR u (id1+k) r=⟨r.prio,r.mat,⟨1,0,0,Cb.zero⟩⟩:=by rw [spR,hany];rfl
            rw [hKe] at hKs
            have hst:(K.map cRl).set k (ovw (cRl r) 5 (cAc ⟨1,0,0,Cb.zero⟩))=(mixL (spL u id1 l) l (k+1)).map cRl:=by rw [<- hKs,List.map_set];rfl
            generalize hK':mixL (spL u id1 l) l (k+1)=K' at hst
            generalize u[at2]=z at hgu hit
            refine jB ?_
            skip;(with_reducible first|apply wF|apply wG)
            refine RG.runO ty_ok 0 [(75,.b true)] 400 rfl jD ?_
            refine RG.opS rfl (op_index rfl (tk rfl) rfl (tk rfl) rfl rfl hgu rfl) rfl ?_
            refine RG.runO ty_ok 0 [(82,.b false)] 400 rfl jD ?_
            refine jB ?_;refine AW.condF rfl ?_;refine jB ?_
            skip;(with_reducible first|apply wF|apply wG)
            refine wH rfl ?_
            refine RG.opS rfl (op_ixE (k:=n) rfl (tk rfl) rfl (tk rfl) rfl rfl rfl hn' rfl) rfl ?_
            refine RG.opS rfl (op_ldE rfl (tk rfl) rfl rfl rfl hel) rfl ?_
            refine wH rfl ?_
            refine RG.opS rfl (op_ixE (k:=i) rfl (tk rfl) rfl (tk rfl) rfl rfl rfl hil rfl) rfl ?_
            refine RG.opS rfl (op_ldE rfl (tk rfl) rfl rfl rfl helb) rfl ?_
            refine wH rfl ?_
            refine RG.opS rfl (op_indexR0 k cRl K hkl rfl (tk rfl) rfl (tk rfl) rfl rfl rfl) rfl ?_
            refine RG.opS rfl (op_fieldAddr rfl (tk rfl) rfl rfl (tk rfl) rfl (.el rfl hKc) rfl) rfl ?_
            refine RG.opS rfl (op_storeR cRl K K' (k:=k) (j:=5) (cs:=cRl r) (ns:=cAc ⟨1,0,0,Cb.zero⟩) hst rfl (tk rfl) rfl rfl hKc rfl rfl rfl (by rfl) (Nat.le_of_ble_eq_true (by rfl))) rfl ?_
            refine wH rfl ?_;refine jA ?_
            refine Rt.at (k+1,at2) ⟨⟨hk',hup3⟩,by show l.length - (k+1)<l.length - k;omega⟩ ?_
            show Rt _ _ (fun _:Unit=>⟨_,lkF (_::(6,⟨1,some (.row _ 12 ((mixL (spL u id1 l) l (k+1)).map cRl))⟩)::_) _⟩) _
            rw [hK']
            exact Rt.gridl rfl hUi hUin hgm (fun k=>rfl) rfl rfl rfl ⟨.is rfl rfl,.is rfl rfl,.is rfl rfl,.is rfl rfl,.is rfl rfl,.rn (rO rfl rfl rfl),.is hcid rfl,.is rfl rfl,.is rfl rfl,.is rfl rfl,.is (i64_next hk' hml) rfl,trivial⟩ ⟨.old (.old (bR rfl rfl)),.old (.boxL rfl ⟨.is rfl rfl,.is rfl rfl,.is rfl rfl,.is rfl rfl,.rn (.rowNIs rfl rfl rfl rfl),trivial⟩ rfl),trivial⟩
        · have hla:¬(at2:Int)<((u.map cI).length:Nat):=by rw [lU];omega
          obtain ⟨hup3,hany⟩:=hup2.miss hok.up (fun h=>absurd h hlt)
          have hKe:spR u (id1+k) r=⟨r.prio,r.mat,⟨1,0,0,Cb.zero⟩⟩:=by rw [spR,hany];rfl
          rw [hKe] at hKs
          have hst:(K.map cRl).set k (ovw (cRl r) 5 (cAc ⟨1,0,0,Cb.zero⟩))=(mixL (spL u id1 l) l (k+1)).map cRl:=by rw [<- hKs,List.map_set];rfl
          generalize hK':mixL (spL u id1 l) l (k+1)=K' at hst
          refine jB ?_
          skip;(with_reducible first|apply wF|apply wG)
          refine RG.runO ty_ok 0 [(75,.b false)] 400 rfl jD ?_
          refine jB ?_;refine AW.condF rfl ?_;refine jB ?_
          skip;(with_reducible first|apply wF|apply wG)
          refine wH rfl ?_
          refine RG.opS rfl (op_ixE (k:=n) rfl (tk rfl) rfl (tk rfl) rfl rfl rfl hn' rfl) rfl ?_
          refine RG.opS rfl (op_ldE rfl (tk rfl) rfl rfl rfl hel) rfl ?_
          refine wH rfl ?_
          refine RG.opS rfl (op_ixE (k:=i) rfl (tk rfl) rfl (tk rfl) rfl rfl rfl hil rfl) rfl ?_
          refine RG.opS rfl (op_ldE rfl (tk rfl) rfl rfl rfl helb) rfl ?_
          refine wH rfl ?_
          refine RG.opS rfl (op_indexR0 k cRl K hkl rfl (tk rfl) rfl (tk rfl) rfl rfl rfl) rfl ?_
          refine RG.opS rfl (op_fieldAddr rfl (tk rfl) rfl rfl (tk rfl) rfl (.el rfl hKc) rfl) rfl ?_
          refine RG.opS rfl (op_storeR cRl K K' (k:=k) (j:=5) (cs:=cRl r) (ns:=cAc ⟨1,0,0,Cb.zero⟩) hst rfl (tk rfl) rfl rfl hKc rfl rfl rfl (by rfl) (Nat.le_of_ble_eq_true (by rfl))) rfl ?_
          refine wH rfl ?_;refine jA ?_
          refine Rt.at (k+1,at2) ⟨⟨hk',hup3⟩,by show l.length - (k+1)<l.length - k;omega⟩ ?_
          show Rt _ _ (fun _:Unit=>⟨_,lkF (_::(6,⟨1,some (.row _ 12 ((mixL (spL u id1 l) l (k+1)).map cRl))⟩)::_) _⟩) _
          rw [hK']
          exact Rt.gridl rfl hUi hUin hgm (fun k=>rfl) rfl rfl rfl ⟨.is rfl rfl,.is rfl rfl,.is rfl rfl,.is rfl rfl,.is rfl rfl,.rn (rO rfl rfl rfl),.is hcid rfl,.is rfl rfl,.is rfl rfl,.is rfl rfl,.is (i64_next hk' hml) rfl,trivial⟩ ⟨.old (.old (bR rfl rfl)),.old (.boxL rfl ⟨.is rfl rfl,.is rfl rfl,.is rfl rfl,.is rfl rfl,.rn (.rowNIs rfl rfl rfl rfl),trivial⟩ rfl),trivial⟩
      · have h' : ¬ k < l.length := by
          have:=of_decide_eq_false h4
          rw [ll] at this
          omega
        obtain rfl:k=l.length:=by omega
        clear h4 h' lK
        rw [mixL_end (spL_len u l id1)]
        refine jB ?_
        refine jE ?_;refine jB ?_
        refine wF ?_;refine wH rfl ?_;refine jB ?_
        refine Rt.at (i+1,at2) ⟨⟨hi',by rw [hs1,<- Nat.add_assoc,hid1];exact hup2⟩,by show t.length - (i+1)<t.length - i;omega⟩ ?_
        have key:=Rt.unfocusG2 (N:=Tryz.f8.ntmps) (T:=[(1,.y v),(4,.ro (cCf c)),(6,.ro (cSp s)),(7,.ro (cHd h)),(9,.sl (u.map cI)),(11,.own 11 0 0),(12,.i .i64 (((idn+((t.take (i+1)).map List.length).sum):Nat):Int)),(13,.i .i64 ((at2:Nat):Int)),(14,.i .i64 ((n:Nat):Int)),(15,.i .i64 (((i+1):Nat):Int))]) (B:=[(11,⟨0,some (.box 31 [.sl (c.topo.ports.map cPts),.i .i64 c.pol.tenants,.sl (c.pol.peers.map cPr),.sl (c.pol.ways.map cWy),.row 1000 1 0 c.tables.length])⟩)]) (e1:=47) (e2:=48) (e3:=40) (m:=12) (L:=5) (C:=6) (l':=(spL u id1 l).map cRl) rfl rfl (by decide) hUi hUin hMi (by rw [List.length_map,List.length_map,spL_len]) rfl rfl rfl
        rw [hgm,lM,List.set_set,cellsR_set,hTs] at key
        have hid2:((id1+l.length:Nat):Int)=((idn+((t.take (i+1)).map List.length).sum:Nat):Int):=by rw [hs1,<- hid1,Nat.add_assoc]
        exact Rt.trans (Rt.gridl (T:=[(1,.y v),(4,.ro (cCf c)),(6,.ro (cSp s)),(7,.ro (cHd h)),(9,.sl (u.map cI)),(11,.own 11 0 0),(12,.i .i64 (((idn+((t.take (i+1)).map List.length).sum):Nat):Int)),(13,.i .i64 ((at2:Nat):Int)),(14,.i .i64 ((n:Nat):Int)),(15,.i .i64 (((i+1):Nat):Int))]) (B:=[(6,⟨1,some (.row 40 12 ((spL u id1 l).map cRl))⟩),(11,⟨0,some (.box 31 [.sl (c.topo.ports.map cPts),.i .i64 c.pol.tenants,.sl (c.pol.peers.map cPr),.sl (c.pol.ways.map cWy),.row 1000 1 0 c.tables.length])⟩)]) rfl hUi hUin hgm (fun k=>rfl) rfl rfl rfl ⟨.is rfl rfl,.is rfl rfl,.is rfl rfl,.is rfl rfl,.is rfl rfl,.rn (rO rfl rfl rfl),.is (congrArg (AV.i .i64) hid2) rfl,.is rfl rfl,.is rfl rfl,.is (i64_next hi' (by omega)) rfl,trivial⟩ ⟨.old (.old (bR rfl rfl)),.old (.boxL rfl ⟨.is rfl rfl,.is rfl rfl,.is rfl rfl,.is rfl rfl,.rn (.rowNIs rfl rfl rfl rfl),trivial⟩ rfl),trivial⟩) fun _ _=>key
    · have h' : ¬ i < t.length := by
        have:=of_decide_eq_false h2
        rw [lR] at this
        omega
      obtain rfl:i=t.length:=by omega
      clear h2 h' hUi hUin hel lM
      rw [mixL_end (spT_len u t idn),cellsT_set,hWs]
      rw [mixL_end (spT_len u t idn)] at hgm
      rw [List.take_length] at hup1
      have hsn:(mixL (spA u 0 c.tables) c.tables (n+1))[n]?=some (spT u idn t):=by rw [<- hWs];exact set_at hWn
      have hUs:=fits3 (mix_rows (u:=u) (id:=0) (n:=n+1) h3)
      have hUsn:=cellsT_get hsn
      have lS:(cellsR (spT u idn t)).length=(cellsR t).length:=by rw [cellsR,cellsR,List.length_map,List.length_map,spT_len]
      refine jB ?_
      refine jE ?_;refine jB ?_
      refine wF ?_;refine wH rfl ?_;refine jB ?_
      refine Rt.at (n+1,at1) ⟨⟨hn',by rw [hsum1,lenT];exact hup1⟩,by show c.tables.length - (n+1)<c.tables.length - n;omega⟩ ?_
      have key:=Rt.unfocusG (N:=Tryz.f8.ntmps) (T:=[(1,.y v),(4,.ro (cCf c)),(6,.ro (cSp s)),(7,.ro (cHd h)),(9,.sl (u.map cI)),(11,.own 11 0 0),(12,.i .i64 ((((c.tables.take (n+1)).map lenT).sum:Nat):Int)),(13,.i .i64 ((at1:Nat):Int)),(14,.i .i64 (((n+1):Nat):Int))]) (B:=[(11,⟨0,some (.box 31 [.sl (c.topo.ports.map cPts),.i .i64 c.pol.tenants,.sl (c.pol.peers.map cPr),.sl (c.pol.ways.map cWy),.row 1000 1 0 c.tables.length])⟩)]) (e1:=47) (e2:=48) (e3:=40) (m:=12) (L:=5) rfl hUs hUsn rfl rfl rfl
      rw [hgm,lS] at key
      have hid2:((idn+((t.take t.length).map List.length).sum:Nat):Int)=((((c.tables.take (n+1)).map lenT).sum:Nat):Int):=by rw [List.take_length,hsum1,lenT]
      exact Rt.trans (Rt.gridr (T:=[(1,.y v),(4,.ro (cCf c)),(6,.ro (cSp s)),(7,.ro (cHd h)),(9,.sl (u.map cI)),(11,.own 11 0 0),(12,.i .i64 ((((c.tables.take (n+1)).map lenT).sum:Nat):Int)),(13,.i .i64 ((at1:Nat):Int)),(14,.i .i64 (((n+1):Nat):Int))]) (B:=[(11,⟨0,some (.box 31 [.sl (c.topo.ports.map cPts),.i .i64 c.pol.tenants,.sl (c.pol.peers.map cPr),.sl (c.pol.ways.map cWy),.row 1000 1 0 c.tables.length])⟩)]) rfl hUs hUsn hgm (fun k=>rfl) rfl ⟨.is rfl rfl,.is rfl rfl,.is rfl rfl,.is rfl rfl,.is rfl rfl,.rn (rO rfl rfl rfl),.is (congrArg (AV.i .i64) hid2) rfl,.is rfl rfl,.is (i64_next hn' hmT) rfl,trivial⟩ ⟨.old (.boxL rfl ⟨.is rfl rfl,.is rfl rfl,.is rfl rfl,.is rfl rfl,.rn (.rowNIs rfl rfl rfl rfl),trivial⟩ rfl),trivial⟩) fun _ _=>key
  have h':¬n<c.tables.length:=by
    have:=of_decide_eq_false h1
    omega
  obtain rfl:n=c.tables.length:=by omega
  clear h1 h' hn hUl hXl
  rw [mixL_end (spA_len u c.tables 0)]
  have hD3:∀t∈spA u 0 c.tables,t.length<=3:=by
    have:=mix_rows (u:=u) (id:=0) (n:=c.tables.length) h3
    rw [mixL_end (spA_len u c.tables 0)] at this
    exact this
  have hDl:=spA_len u c.tables 0
  have hcf:cCf (spC c u)=[.sl (c.topo.ports.map cPts),.i .i64 c.pol.tenants,.sl (c.pol.peers.map cPr),.sl (c.pol.ways.map cWy),.sl ((spA u 0 c.tables).map cTab)]:=rfl
  have hR1:PDoes Tryz.prog 26 [.agg (cCf c),.agg (cSp s),.agg (cHd h),.i .i64 (IntKind.i64.wrap ((v.toNat:Nat):Int)),.i .i64 ((300:Nat):Int)] (.agg (cRun (runOf c s h ((v.toNat:Nat):Int) 300))):=by
    rw [hw];exact d_rRun c hc s hs h v.toNat 300 hv (by decide)
  have hR2:PDoes Tryz.prog 26 [.agg (cCf (spC c u)),.agg (cSp s),.agg (cHd h),.i .i64 (IntKind.i64.wrap ((v.toNat:Nat):Int)),.i .i64 ((300:Nat):Int)] (.agg (cRun (runOf c s h ((v.toNat:Nat):Int) 300))):=by
    rw [hw,<- hrun];exact d_rRun (spC c u) hok2 s hs h v.toNat 300 hv (by decide)
  clear hrun hok2 hcp hids hEg hP
  generalize runOf c s h ((v.toNat:Nat):Int) 300=R at hR1 hR2
  have hbx:(⟨0,some (.box 31 (cCf (spC c u)))⟩:SB)=⟨0,some (.box 31 [.sl (c.topo.ports.map cPts),.i .i64 c.pol.tenants,.sl (c.pol.peers.map cPr),.sl (c.pol.ways.map cWy),.sl ((spA u 0 c.tables).map cTab)])⟩:=rfl
  generalize spA u 0 c.tables=D at hD3 hDl hbx
  have hUD:=fits3 hD3
  have hD0:0<D.length:=by omega
  have hU0:=cellsT_get (List.getElem?_eq_getElem hD0)
  generalize D[0]=t0 at hU0
  have hDt:(tE (cellsT D)).length=c.tables.length:=by rw [tE_len,cellsT,List.length_map,hDl]
  refine jB ?_
  refine jE ?_;refine jB ?_
  refine AW.retold (Rt.trans (Rt.grid (T:=[(1,.y v),(4,.ro (cCf c)),(6,.ro (cSp s)),(7,.ro (cHd h)),(11,.own 11 0 0)]) (B:=[(11,⟨0,some (.box 31 [.sl (c.topo.ports.map cPts),.i .i64 c.pol.tenants,.sl (c.pol.peers.map cPr),.sl (c.pol.ways.map cWy),.row 1000 1 0 c.tables.length])⟩)]) hUD (fun k=>rfl) ⟨rI rfl rfl,rI rfl rfl,rI rfl rfl,rI rfl rfl,rO rfl rfl rfl,trivial⟩ ⟨.boxL rfl ⟨rI rfl rfl,rI rfl rfl,rI rfl rfl,rI rfl rfl,.rowNIs rfl rfl rfl rfl,trivial⟩ rfl,trivial⟩) fun _ _=>Rt.focusG (n:=0) (L:=5) rfl hUD hU0 rfl rfl rfl) ?_
  refine AW.retold (s':=stL [(1,.y v),(4,.ro (cCf c)),(6,.ro (cSp s)),(7,.ro (cHd h)),(11,.own 11 0 0)] [(11,⟨0,some (.box 31 (cCf (spC c u)))⟩)]) ?_ ?_
  · rw [hbx]
    have hσ:∀i,lkF ((5,⟨1,some (.nest 48 (gE 0 (cellsR t0)))⟩)::[(11,⟨0,some (.box 31 [.sl (c.topo.ports.map cPts),.i .i64 c.pol.tenants,.sl (c.pol.peers.map cPr),.sl (c.pol.ways.map cWy),.row 1000 1 0 c.tables.length])⟩)]) (gF1 47 48 40 12 (cellsT D) 0 5 (cellsR t0).length) (i+1000)=gF2 47 48 40 12 (cellsT D) 0 (cellsR t0).length 5 (cellsR t0).length i:=fun i=>by rw [lkF_hi,gF1_two hU0]
    have hpp:∀i,1000<=i->(lkB [(11,⟨0,some (.box 31 [.sl (c.topo.ports.map cPts),.i .i64 c.pol.tenants,.sl (c.pol.peers.map cPr),.sl (c.pol.ways.map cWy),.sl (D.map cTab)])⟩)] i).body=none:=fun i hi=>by rw [lkB_big rfl hi]
    obtain ⟨l1,g1,g2⟩:=gE_fz (x:=.sl []) (y:=.sl []) (l0:=[]) hUD hpp hσ hU0 (.sl []) (fun i hi=>by cases hi)
    rw [List.set_eq_of_length_le (by rw [gE_len];exact Nat.le_refl _),List.set_eq_of_length_le (by rw [List.length_map];exact Nat.le_refl _)] at g1
    have g3:=Fz.nest (id:=5) rfl g1
    rw [gE_len] at g3
    obtain ⟨l2,g4,g5⟩:=gF2_fz hUD hpp hσ g3 (fun i hi=>by
      rcases List.mem_cons.1 hi with rfl | hi
      · rfl
      · exact g2 i hi)
    have hfin:(((cellsT D).map fun tb=>AV.sl ((tb.map AV.sl).map fun x=>[x])).set 0 (.sl (((cellsR t0).map AV.sl).map fun y=>[y]))).map (fun y=>[y])=D.map cTab:=by
      rw [set_same (by rw [List.getElem?_map,hU0];rfl),cellsT,List.map_map,List.map_map]
      refine List.map_congr_left fun t _=>?_
      show [AV.sl (((t.map fun l=>l.map cRl).map AV.sl).map fun x=>[x])]=cTab t
      rw [List.map_map,List.map_map];rfl
    rw [hDt,hfin] at g4
    exact Rt.freezeA l2 ⟨.is rfl rfl,.is rfl rfl,.is rfl rfl,.is rfl rfl,.rn (rO rfl rfl rfl),trivial⟩ ⟨.old (.boxL rfl ⟨.is rfl rfl,.is rfl rfl,.is rfl rfl,.is rfl rfl,.fz g4 fun i hi=>hi,trivial⟩ rfl),trivial⟩ g5
  have hf1:R.fin=R.fin:=rfl
  have hf2:(((R.hops.map cHop).length:Nat):Int)=(((R.hops.map cHop).length:Nat):Int):=rfl
  refine jB ?_
  skip;(with_reducible first|apply wF|apply wG)
  refine wH rfl ?_
  refine RG.callMS rfl rfl rfl rfl rfl rfl hR1 rfl ?_
  refine wH rfl ?_
  refine RG.callMS rfl rfl rfl rfl rfl rfl hR2 rfl ?_
  refine wH rfl ?_;refine jB ?_
  skip;(with_reducible first|apply wF|apply wG)
  refine RG.runO ty_ok 0 [(116,.b true)] 400 rfl jD ?_
  refine RG.opS rfl (op_eqG rfl ty_ok (by kernel_rfl) (by kernel_rfl) rfl rfl (eq_Sp R.at_ R.at_) (decide_eq_true rfl)) rfl ?_
  refine RG.runO ty_ok 0 [(131,.b true)] 400 rfl jD ?_
  refine jB ?_
  refine AW.ret (retQA ty_ok rfl rfl rfl ?_)
  rfl
end Go.Proofs.YtoaibdbehlcnfaaGreat.Sm
end
