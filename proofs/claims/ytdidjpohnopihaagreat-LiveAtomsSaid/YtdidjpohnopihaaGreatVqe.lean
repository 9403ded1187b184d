/- Contracts of the program's functions over data, and the plain laws that they meet (part 5). No condition. -/
import Derived.Test.YtdidjpohnopihaaGreatVqd
import Derived.WalkKit
import Derived.WalkSpells
import Derived.WalkLawsBesides
import Derived.Lib.Hide
import Derived.Deep.RegionHeld3
import Derived.Maps.AppendAt
import Derived.KernelRfl
import Derived.Lib.AppendStr
import Derived.Orders
import Derived.LoopTactic
import Derived.Laws.CopyRow
import Derived.Laws.Cells
import Derived.OrdersIn
import Derived.Laws.Externs
import Derived.TacticsIn
import Derived.RangeFuncLeaves
import Derived.RangeFuncRecord
import Derived.Great.BuildSlice
import Derived.Laws.ResultCell
import Derived.Laws.StructEq
import Derived.Laws.MakeOwn
import Derived.Lib.AppendZerosOnto
import Derived.RangeFuncSeq
import Derived.RangeFuncIn
import Derived.Deep.Slices
import Derived.Deep.Fields
import Derived.ChangeSame
import Derived.ProofKit
import Derived.OpenShut
import Derived.SizedLaws
import Derived.Test.YtdidjpohnopihaaGreatProg
import Derived.Shelf.Spec.BitsCarry
import Derived.Laws.AppendOwn
import Derived.DeepKeys4
import Derived.MapKept
import Derived.Maps.Own
import Derived.Maps.OwnOps
import Derived.StillTailTactics
import Derived.Laws.OwnMore
import Derived.Sort.AssemblyPlain
set_option linter.unusedVariables false
set_option linter.unusedSimpArgs false
set_option maxRecDepth 100000
set_option maxHeartbeats 4000000
section
namespace Go.Proofs.YtdidjpohnopihaaGreat.Sm
open Go.RowKit
theorem iy (l:List Int)(hl:l.length<=1000000):aa Tryz.prog 38 [.sl (l.map cI)] (.sl (l.map cI)):=by
 cases l with
 |nil=>
  refine aa.raw0 fun A c=>?_
  refine jb Tryz.func38 ?_
  cases A with
  |none=>
   refine jA ?_
   refine zT ?_
   exact zS
  |some A=>
   refine jA ?_
   refine zF ?_
   refine RG.opS rfl (dj (id:=5) rfl (tk rfl) rfl (tk rfl)) rfl ?_;refine jH ?_
   refine RG.opS rfl (nu (id:=5) (els:=[]) rfl rfl rfl rfl (tk rfl) rfl (tk rfl) rfl (.inl ⟨_,rfl,rfl⟩) rfl (by decide) (by decide)) rfl ?_
   refine zH ?_
   rfl
 |cons x l=>
  refine jb Tryz.func38 ?_
  refine jA ?_
  refine zF ?_
  refine RG.opS rfl (dj (id:=5) rfl (tk rfl) rfl (tk rfl)) rfl ?_;refine jH ?_
  refine RG.opS rfl (jn cI ([]:List Int) (x::l) (by simp at hl ⊢;omega) (fun _=>rfl) rfl rfl rfl rfl (tk rfl) rfl (tk rfl) rfl rfl ⟨_,rfl,rfl⟩ rfl) rfl ?_;refine jH ?_
  refine jR ?_
  exact bw rfl
theorem jP (l:List Cb)(hl:l.length<=1000000):aa Tryz.prog 40 [.sl (l.map cCb)] (.sl (l.map cCb)):=by
 cases l with
 |nil=>
  refine aa.raw0 fun A c=>?_
  refine jb Tryz.func40 ?_
  cases A with
  |none=>
   refine jA ?_
   refine zT ?_
   exact zS
  |some A=>
   refine jA ?_
   refine zF ?_
   refine RG.opS rfl (dj (id:=5) rfl (tk rfl) rfl (tk rfl)) rfl ?_;refine jH ?_
   refine RG.opS rfl (nu (id:=5) (els:=[]) rfl rfl rfl rfl (tk rfl) rfl (tk rfl) rfl (.inl ⟨_,rfl,rfl⟩) rfl (by decide) (by decide)) rfl ?_
   refine zH ?_
   rfl
 |cons x l=>
  refine jb Tryz.func40 ?_
  refine jA ?_
  refine zF ?_
  refine RG.opS rfl (dj (id:=5) rfl (tk rfl) rfl (tk rfl)) rfl ?_;refine jH ?_
  refine RG.opS rfl (jn cCb ([]:List Cb) (x::l) (by simp at hl ⊢;omega) (fun _=>rfl) rfl rfl rfl rfl (tk rfl) rfl (tk rfl) rfl rfl ⟨_,rfl,rfl⟩ rfl) rfl ?_;refine jH ?_
  refine jR ?_
  exact bw rfl
theorem mH {P:Program}{N:Nat}{o:Oper}{s:St}{c:Call}{x:Operand}{t e:Nat}{ti:TI}(ho:o.op = .call c)(hc:c.callee = .builtin .cap)(ha:c.args = #[x])(hat:c.argTypes = #[t])(ht:aB P t ti)(hk:ti.k = .slice e)(hx:s.ev x = .raw (.slice none 0 0)):ax P N o s ⟨.i .i64 ((0:Nat):Int),[],[]⟩:=by
 refine az [] _ fun s' W F μ a h1 h2 hs=>⟨.int .i64 ((0:Nat):Int),?_,.pure (.i _ _)⟩
 have ex:=hs.ev x
 rw [h1 x (by rw [ho];simp [Op.operands,Call.operands,hc,ha]),hx] at ex
 simp only [execOp,ho,resolve,hc,ha,hat,List.map_toArray,vE,List.map_nil,kA2,kA3,kA1,invoke,builtin,Builtin.cap_,ex.raw',uG,List.getElem?_cons_zero,kA9 (ht.slice hk),goInt]
theorem Fu (n:Nat)(h0:0<n)(hn:n<=1000000)(q:Nat->Option (Nat × Nat)):aj Tryz.prog 246 [.raw (.slice none 0 0),.i .i64 (n:Nat)] (gl q [] []) (.row 2 0 0 0) (gl q [] [(2,⟨0,some (.row 3 1 [])⟩)]):=by
 refine aj.of_body Tryz.func246 rfl (by kernel_rfl) rfl rfl ?_
 refine jA ?_
 refine AW.cond rfl (fun h=>?_) (fun h=>?_)
 ·exact absurd (of_decide_eq_true h) (by simp only [qH];omega)
 have hw:IntKind.i64.wrap ((n:Int)-IntKind.i64.wrap (((0:Nat):Int)-((0:Nat):Int)))=(n:Nat):=by
  rw [kA0,kA0]
  omega
 refine jA ?_
 refine RG.opS rfl (mH rfl rfl rfl rfl (tk rfl) rfl rfl) rfl ?_
 refine RG.runO ae 0 [(14,.i .i64 (n:Nat))] 400 rfl jD ?_
 refine jA ?_
 refine AW.cond rfl (fun h=>?_) (fun h=>?_)
 rotate_left
 ·exact absurd (show Int.ofNat 0<(n:Int) by simp only [qH];omega) (of_decide_eq_false h)
 refine jA ?_
 refine RG.opS rfl (mH rfl rfl rfl rfl (tk rfl) rfl rfl) rfl ?_
 refine RG.opS rfl (oZ rfl (tk rfl) rfl (tk rfl) rfl .no (.at_ rfl)) rfl ?_
 refine wH rfl ?_
 refine RG.opS rfl (jv (id:=2) n h0 (by omega) rfl rfl rfl rfl (tk rfl) rfl (tk rfl) rfl (tk rfl) (by decide) (by decide) rfl rfl) rfl ?_
 refine wH rfl ?_
 refine RG.opS rfl (pA (h:=0) rfl (tk rfl) rfl (tk rfl) rfl rfl .no (.at_ rfl) (qR _)) rfl ?_
 refine wH rfl ?_;refine jB ?_
 refine AW.only [(0,.row 2 0 0 0)] [(2,⟨0,some (.row 3 1 [])⟩)] ⟨Rn.rowTIs rfl rfl rfl (qJ _),trivial⟩ ⟨.rowT (n:=0) rfl rfl,trivial⟩ ?_
 refine jA ?_
 exact AW.ret (dW rfl (Rm.rowIs rfl rfl rfl rfl) ⟨.row rfl rfl,trivial⟩)
def cL (l:List Int):List AV:=[.sl (l.map cI)]
theorem i2 {α:Type}(xs:List (List α))(k:Nat)(h:k<xs.length):(xs.take (k+1)).flatten=(xs.take k).flatten++xs[k]:=by
 rw [List.take_add_one,qA h,List.flatten_append]
 simp only [Option.toList,uN,List.flatten_nil,uA]
theorem mM {α:Type}(xs:List (List α))(k:Nat):(xs.take k).flatten.length<=xs.flatten.length:=by
 have e:=congrArg List.length (congrArg List.flatten (uU k xs))
 rw [List.flatten_append,qK] at e
 omega
theorem As (xs:List (List Int))(h0:0<xs.flatten.length)(hn:xs.flatten.length<=1000000)(hx:xs.length<=1000000):aa Tryz.prog 225 [.sl (xs.map cL)] (.sl (xs.flatten.map cI)):=by
 refine jb Tryz.func225 ?_
 have hm:xs.length<=9223372036854775807:=by omega
 refine jA ?_
 refine AW.loopL (ι:=Nat × Nat) (fun i=>[(0,.sl (xs.map cL)),(3,.i .i64 (i.2:Nat)),(9,.sl (xs.map cL)),(10,.i .i64 (xs.map cL).length),(11,.i .i64 (i.1:Nat))]) (fun _=>[]) (fun i=>i.1<=xs.length/\i.2=(xs.take i.1).flatten.length) (fun i=>xs.length-i.1) (0,0) ⟨qR _,rfl⟩ jW trivial fun i hi=>?_
 obtain⟨k,n⟩:=i
 obtain⟨hk,hf⟩:=hi
 simp only at hk hf
 refine jA ?_
 refine AW.cond rfl (fun h0'=>?_) (fun h0'=>?_)
 ·have h:k<xs.length:=by simpa using h0'
  have h2:n+xs[k].length=(xs.take (k+1)).flatten.length:=by rw [i2 xs k h,qK,hf]
  have h3:=mM xs (k+1)
  have hw:IntKind.i64.wrap ((n:Int)+((xs[k].map cI).length:Nat))=((n+xs[k].length:Nat):Int):=by
   rw [kA0,qG]
   omega
  refine zB ?_
  refine RG.opS rfl (aq rfl (tk rfl) rfl (tk rfl) rfl rfl (show (xs.map cL)[k]?=some (cL xs[k]) by rw [qF,qA (by assumption)];rfl) rfl) rfl ?_
  refine wH rfl ?_;refine jB ?_
  refine AW.text ?_
  refine RG.runO ae 0 [(18,.i .i64 (n+xs[k].length:Nat))] 400 rfl jD ?_
  refine jA ?_
  refine AW.cond rfl (fun h4=>?_) (fun h4=>?_)
  ·exact absurd (of_decide_eq_true h4) (by simp only [qH];omega)
  refine jA ?_
  exact⟨(k+1,n+xs[k].length),⟨⟨h,h2⟩,by show xs.length-(k+1)<xs.length-k;omega⟩,⟨Rn.is rfl rfl,Rn.is rfl rfl,Rn.is rfl rfl,Rn.is rfl rfl,Rn.is (ay h hm) rfl,trivial⟩,trivial⟩
 have h:¬k<xs.length:=by simpa using h0'
 obtain rfl:k=xs.length:=by omega
 rw [uM] at hf
 subst hf
 refine zE ?_
 refine RG.ownNV [] [(2,6)] (fun q=>Fu _ h0 hn q) rfl rfl rfl rfl rfl rfl rfl rfl rfl rfl ?_
 refine jH ?_
 refine AW.loopL (ι:=Nat × List Int) (fun i=>[(6,.row 6 0 0 (i.2.map cI).length),(25,.sl (xs.map cL)),(26,.i .i64 (xs.map cL).length),(27,.i .i64 (i.1:Nat))]) (fun i=>[(6,⟨0,some (.row 3 1 (i.2.map cI))⟩)]) (fun i=>i.1<=xs.length/\i.2=(xs.take i.1).flatten) (fun i=>xs.length-i.1) (0,[]) ⟨qR _,rfl⟩ jW jW fun i hi=>?_
 obtain⟨k,out⟩:=i
 obtain⟨hk,hf⟩:=hi
 simp only at hk hf
 refine jA ?_
 refine AW.cond rfl (fun h0'=>?_) (fun h0'=>?_)
 ·have h:k<xs.length:=by simpa using h0'
  have h2:out++xs[k]=(xs.take (k+1)).flatten:=by rw [i2 xs k h,hf]
  have h3:=mM xs (k+1)
  rw [<- h2,qK] at h3
  refine jA ?_
  refine RG.opS rfl (aq rfl (tk rfl) rfl (tk rfl) rfl rfl (show (xs.map cL)[k]?=some (cL xs[k]) by rw [qF,qA (by assumption)];rfl) rfl) rfl ?_
  refine jH ?_
  refine RG.opS rfl (jn cI out xs[k] (by omega) (fun _=>rfl) rfl rfl rfl rfl (tk rfl) rfl (tk rfl) rfl rfl ⟨_,rfl,rfl⟩ rfl) rfl ?_;refine jH ?_
  exact⟨(k+1,_),⟨⟨h,h2⟩,by show xs.length-(k+1)<xs.length-k;omega⟩,⟨Rn.rowIs rfl rfl rfl,Rn.is rfl rfl,Rn.is rfl rfl,Rn.is (ay h hm) rfl,trivial⟩,jW⟩
 ·have h:¬k<xs.length:=by simpa using h0'
  obtain rfl:k=xs.length:=by omega
  rw [uM] at hf
  subst hf
  refine zE ?_
  refine jR ?_
  exact bw rfl
theorem BN (l:List Int)(hs:l.Pairwise (· < ·)):aa Tryz.prog 238 [.sl (l.map cI)] (.b true):=by
 refine jb Tryz.func238 ?_
 rw [List.pairwise_iff_getElem] at hs
 refine jB ?_
 refine AW.lens 0 rfl fun hm=>?_
 rw [qG] at hm
 refine jA ?_
 refine AW.loopL (ι:=Nat) (fun k=>[(0,.sl (l.map cI)),(3,.i .i64 ((k+1:Nat):Int))]) (fun _=>[]) (fun k=>True) (fun k=>l.length-k) 0 trivial jW trivial fun k hk=>?_
 refine jA ?_
 refine AW.cond rfl (fun h0=>?_) (fun h0=>?_)
 ·have h:k+1<l.length:=by
   have:=of_decide_eq_true h0
   rw [qG] at this
   omega
  have hw:IntKind.i64.wrap (((k+1:Nat):Int)-Int.ofNat 1)=(k:Nat):=by
   rw [kA0]
   simp only [qH]
   omega
  have hlt:=hs k (k+1) (by omega) h (by omega)
  refine zD ?_
  refine wH rfl ?_
  refine RG.opS rfl (aq rfl (tk rfl) rfl (tk rfl) rfl rfl (show (l.map cI)[k+1]?=some (cI l[k+1]) by rw [qF,qA (by assumption)];rfl) rfl) rfl ?_
  refine RG.runO ae 0 [(16,.i .i64 (k:Nat))] 400 rfl jD ?_
  refine RG.opS rfl (aq rfl (tk rfl) rfl (tk rfl) rfl rfl (show (l.map cI)[k]?=some (cI (l[k]'(by omega))) by rw [qF,qA (by omega)];rfl) rfl) rfl ?_
  refine wH rfl ?_;refine jB ?_
  refine AW.cond rfl (fun h1=>?_) (fun h1=>?_)
  ·exact absurd (of_decide_eq_true h1) (by omega)
  refine jA ?_
  exact⟨k+1,⟨trivial,by omega⟩,⟨Rn.is rfl rfl,Rn.is (ay h hm) rfl,trivial⟩,trivial⟩
 ·refine jA ?_
  refine jE ?_;refine jA ?_
  exact zS
theorem mN (l:List Int)(hs:l.Pairwise (· < ·))(hl:l.length<=1000000):aa Tryz.prog 204 [.sl (l.map cI)] (.sl (l.map cI)):=by
 refine jb Tryz.func204 ?_
 refine jA ?_
 refine jm (iy l hl) ?_;refine jH ?_
 refine jc (BN l hs) ?_;refine jH ?_
 refine zF ?_
 refine jm (gF l) ?_;refine jH ?_
 exact zS
theorem Gr (a b:List Int)(hs:(a++b).Pairwise (· < ·))(hb:0<b.length)(hl:a.length+b.length<=1000000):aa Tryz.prog 186 [.sl (a.map cI),.sl (b.map cI)] (.sl ((a++b).map cI)):=by
 have hC:=As [a,b] (by simp;omega) (by simp;omega) (by show 2<=1000000;decide)
 rw [show [a,b].flatten=a++b by simp] at hC
 refine jb Tryz.func186 ?_
 refine jA ?_
 refine jm hC ?_;refine jH ?_
 refine RG.callMS rfl rfl rfl rfl rfl rfl (mN (a++b) hs (by rw [qK];omega)) rfl ?_;refine jH ?_
 exact zS
theorem t8 (x:Cb):aa Tryz.prog 237 [.agg (cCb x)] (.b (!x.sound)):=by
 refine jb Tryz.func237 ?_
 refine jA ?_
 refine RG.callS rfl rfl rfl rfl rfl (aV x _ rfl) rfl rfl ?_;refine jH ?_
 exact zS
theorem w7 (p:List Cb):(p.any fun x=>!x.sound) = !p.all Cb.sound:=by
 rw [Bool.eq_iff_iff]
 simp
theorem iU (p:List Cb)(q:Bool)(hq:ai p=q):aa Tryz.prog 203 [.sl (p.map cCb)] (.b q):=by
 subst hq
 refine jb Tryz.func203 ?_
 have hl:(p.map cCb).length=p.length:=qG ..
 refine jB ?_;refine wF ?_;refine wH rfl ?_;refine jB ?_
 refine AW.text ?_
 by_cases h:(((p.map cCb).length:Nat):Int)<=200
 ·refine RG.runO ae 0 [(5,.b true)] 400 rfl jD ?_
  refine RG.callS rfl rfl rfl rfl rfl (fJ _ (fun x=>!x.sound) p (fun x _=>t8 x) _ (w7 p)) rfl rfl ?_;refine jH ?_
  refine jR ?_
  exact congrArg AV.b (by rw [ai,qE (by omega),Bool.not_not];rfl)
 ·refine RG.runO ae 0 [(5,.b false)] 400 rfl jD ?_
  refine zH ?_
  exact congrArg AV.b (by rw [ai,qC (by omega)];rfl)
theorem nA (p q:List Cb)(b:Bool)(hb:(ai p && ai q)=b):aa Tryz.prog 207 [.sl (p.map cCb),.sl (q.map cCb)] (.i .i64 (bif b then 0 else 2)):=by
 subst hb
 refine jb Tryz.func207 ?_
 refine jA ?_
 cases h1:ai p
 ·refine RG.callS rfl rfl rfl rfl rfl (iU p _ h1) rfl rfl ?_;refine jH ?_
  refine zT ?_
  exact zS
 refine RG.callS rfl rfl rfl rfl rfl (iU p _ h1) rfl rfl ?_;refine jH ?_
 cases h2:ai q
 ·refine RG.callS rfl rfl rfl rfl rfl (iU q _ h2) rfl rfl ?_;refine jH ?_
  refine zT ?_
  exact zS
 refine RG.callS rfl rfl rfl rfl rfl (iU q _ h2) rfl rfl ?_;refine jH ?_
 refine zF ?_
 exact zS
theorem xL (p:List Cb)(n:Nat)(x:Cb)(hx:p[n]?=some x)(v:Bool)(hv:cN x n 0 p=v):aa Tryz.prog 250 [.sl (p.map cCb),.i .i64 (n:Nat)] (.b v):=by
 subst hv
 refine jb Tryz.func250 ?_
 have hxx:(p.map cCb)[n]?=some (cCb x):=by rw [qF,hx];rfl
 refine jA ?_
 refine AW.lens 7 rfl fun hm=>?_
 rw [qG] at hm
 refine AW.loopL (ι:=Nat) (fun k=>[(0,.sl (p.map cCb)),(1,.i .i64 (n:Nat)),(7,.sl (p.map cCb)),(8,.i .i64 (p.map cCb).length),(9,.i .i64 (k:Nat))]) (fun _=>[]) (fun k=>k<=p.length/\cN x n k (p.drop k)=cN x n 0 p) (fun k=>p.length-k) 0 ⟨qR _,rfl⟩ jW trivial fun k hk=>?_
 obtain⟨hk,hf⟩:=hk
 refine jA ?_
 refine AW.cond rfl (fun h0=>?_) (fun h0=>?_)
 ·have h:k<p.length:=by simpa using h0
  rw [qT h,cN] at hf
  have hkx:(p.map cCb)[k]?=some (cCb p[k]):=by rw [qF,qA h];rfl
  generalize p[k]=c at hf hkx
  (repeat first|apply wA|apply wB|apply wC|apply wE|(apply zM;·kernel_rfl)|apply wF|apply wG)
  refine wH rfl ?_
  refine jx hkx ?_
  refine wH rfl ?_;refine jB ?_
  refine AW.draws aJ ?_
  by_cases h1:((k:Nat):Int)=(n:Nat)
  ·have e:(decide (k ≠ n) && x.within c && (decide (x ≠ c) || decide (k < n))) = false := by
    rw [qC (show ¬k≠n by omega)];rfl
   rw [e] at hf
   refine RG.runO ae 0 [(16,.b false)] 400 rfl jD ?_
   refine jB ?_;refine zF ?_
   exact⟨k+1,⟨⟨h,hf⟩,by omega⟩,jV,trivial⟩
  rw [qE (show k≠n by omega),uE] at hf
  refine RG.runO ae 0 [(16,.b true)] 400 rfl jD ?_
  refine jx hxx ?_
  refine wH rfl ?_
  cases h2:x.within c
  ·rw [h2] at hf
   refine RG.callS rfl rfl rfl rfl rfl (tz x c _ h2) rfl rfl ?_;refine jH ?_
   refine zF ?_
   exact⟨k+1,⟨⟨h,hf⟩,by omega⟩,jV,trivial⟩
  rw [h2,uE] at hf
  refine RG.callS rfl rfl rfl rfl rfl (tz x c _ h2) rfl rfl ?_
  refine wH rfl ?_
  refine jx hxx ?_
  refine wH rfl ?_
  by_cases h3:x=c
  ·rw [qC (show ¬x≠c from fun h=>h h3),Bool.false_or] at hf
   refine RG.opS rfl (mQ rfl ae (by kernel_rfl) (by kernel_rfl) rfl rfl (oQ x c) (congrArg Bool.not (qE h3))) rfl ?_
   refine wH rfl ?_;refine jB ?_
   refine AW.cond rfl (fun h4=>?_) (fun h4=>?_)
   ·have h4:k<n:=Int.ofNat_lt.1 (of_decide_eq_true h4)
    rw [qE h4] at hf
    refine zR ?_
    exact congrArg AV.b hf
   ·have h4:¬k<n:=fun h5=>of_decide_eq_false h4 (Int.ofNat_lt.2 h5)
    rw [qC h4] at hf
    refine jA ?_
    exact⟨k+1,⟨⟨h,hf⟩,by omega⟩,jV,trivial⟩
  ·rw [qE (show x≠c from h3),Bool.true_or] at hf
   refine RG.opS rfl (mQ rfl ae (by kernel_rfl) (by kernel_rfl) rfl rfl (oQ x c) (congrArg Bool.not (qC h3))) rfl ?_
   refine wH rfl ?_;refine jB ?_
   refine zT ?_
   refine jR ?_
   exact congrArg AV.b hf
 ·have h:¬k<p.length:=by simpa using h0
  obtain rfl:k=p.length:=by omega
  rw [vJ,cN] at hf
  refine zE ?_
  refine jx hxx ?_
  refine wH rfl ?_
  refine RG.callS rfl rfl rfl rfl rfl (aV x _ rfl) rfl rfl ?_;refine jH ?_
  refine jR ?_
  exact congrArg AV.b hf
theorem CR (p:List Cb)(hp:p.length<=1000000):aa Tryz.prog 240 [.sl (p.map cCb)] (.sl ((cX p).map cCb)):=by
 refine jb Tryz.func240 ?_
 have hm:p.length<=9223372036854775807:=by omega
 have hle:=yO p
 refine jB ?_;refine wF ?_;refine wH rfl ?_;refine jB ?_
 refine AW.text ?_
 refine RG.opS rfl (bT 3 36 4 rfl) rfl ?_
 refine jH ?_
 refine AW.loopL (ι:=Nat × List Cb) (fun i=>[(0,.sl (p.map cCb)),(3,.row 3 0 0 (i.2.map cCb).length),(6,.sl (p.map cCb)),(7,.i .i64 (p.map cCb).length),(8,.i .i64 (i.1:Nat))]) (fun i=>[(3,⟨0,some (.row 36 4 (i.2.map cCb))⟩)]) (fun i=>i.1<=p.length/\bJ (lY p) i.1 (p.drop i.1) i.2=cX p) (fun i=>p.length-i.1) (0,[]) ⟨qR _,rfl⟩ jW jW fun i hi=>?_
 obtain⟨k,out⟩:=i
 obtain⟨hk,hf⟩:=hi
 simp only at hk hf
 refine jA ?_
 refine AW.cond rfl (fun h0=>?_) (fun h0=>?_)
 ·have h:k<p.length:=by simpa using h0
  have hol:out.length<=100000000:=by
   have h1:=gB (f:=lY p) k (p.drop k) out
   rw [hf] at h1
   omega
  rw [qT h,bJ,lY] at hf
  have hkp:p[k]?=some p[k]:=qA h
  have hkx:(p.map cCb)[k]?=some (cCb p[k]):=by rw [qF,hkp];rfl
  generalize p[k]=c at hf hkx hkp
  refine jA ?_
  refine jx hkx ?_
  refine jH ?_
  cases h1:cN c k 0 p
  ·rw [h1,cond_false] at hf
   refine RG.callS rfl rfl rfl rfl rfl (xL p k c hkp _ h1) rfl rfl ?_;refine jH ?_
   refine AW.condT rfl ?_;refine jB ?_
   refine AW.text ?_
   refine wH rfl ?_
   refine RG.opS rfl (bI cCb out c hol rfl rfl rfl rfl (tk rfl) rfl (tk rfl) rfl rfl ⟨_,rfl,rfl⟩ rfl rfl) rfl ?_;refine jH ?_
   exact⟨(k+1,_),⟨⟨h,hf⟩,by show p.length-(k+1)<p.length-k;omega⟩,jV,jW⟩
  ·rw [h1,cond_true,uA] at hf
   refine RG.callS rfl rfl rfl rfl rfl (xL p k c hkp _ h1) rfl rfl ?_;refine jH ?_
   refine zF ?_
   exact⟨(k+1,out),⟨⟨h,hf⟩,by show p.length-(k+1)<p.length-k;omega⟩,jV,jW⟩
 ·have h:¬k<p.length:=by simpa using h0
  obtain rfl:k=p.length:=by omega
  rw [vJ,bJ] at hf
  refine zE ?_
  refine jR ?_
  exact bw (congrArg (List.map cCb) hf)
def wS (r:List Cb × Int):AV:=.tup [.sl (r.1.map cCb),.i .i64 r.2]
theorem pN (p:List Cb)(hp:p.length<=1000000):aa Tryz.prog 208 [.sl (p.map cCb)] (wS (cE p)):=by
 refine jb Tryz.func208 ?_
 have hl:((cX p).map cCb).length=(cX p).length:=qG ..
 refine jA ?_
 refine jm (CR p hp) ?_;refine jH ?_
 refine AW.cond rfl (fun h=>?_) (fun h=>?_)
 ·have h:(((cX p).map cCb).length:Int)>200:=of_decide_eq_true h
  have e:cE p=([],10):=by rw [cE,qE (by omega)];rfl
  refine zR ?_
  rw [e]
  rfl
 ·have h:¬(((cX p).map cCb).length:Int)>200:=of_decide_eq_false h
  have e:cE p=(cX p,0):=by rw [cE,qC (by omega)];rfl
  refine jA ?_
  refine jm (eI (cX p)) ?_;refine jH ?_
  refine jR ?_
  rw [e]
  rfl
theorem cr {p:List Cb}(h:ai p=true):p.length<=200:=by
 rw [ai,qQ,vM] at h
 exact h.1
theorem rV (q:List Cb)(n:Nat)(x:Cb):(fM q n x).length<=q.length:=by
 have:=fC (f:=kI x) (m:=1) (fun n y=>by rw [kI];cases x.meets y <;> simp) 0 q []
 rw [fM]
 simp at this
 omega
theorem Ev (p q:List Cb):aa Tryz.prog 184 [.sl (p.map cCb),.sl (q.map cCb)] (wS (aR p q)):=by
 refine jb Tryz.func184 ?_
 refine jA ?_
 cases hs:(ai p && ai q)
 ·refine RG.callS rfl rfl rfl rfl rfl (nA p q _ hs) rfl rfl ?_;refine jH ?_
  refine zT ?_
  refine jR ?_
  rw [aR,hs]
  rfl
 refine RG.callS rfl rfl rfl rfl rfl (nA p q _ hs) rfl rfl ?_;refine jH ?_
 have e0:aR p q=cE (fe p q):=by rw [aR,hs];rfl
 rw [qQ] at hs
 have hp:=cr hs.1
 have hq:=cr hs.2
 have hal:(fe p q).length<=40000:=by
  have:=fC (f:=fM q) (m:=q.length) (fun n x=>rV q n x) 0 p []
  rw [fe]
  have h2:q.length*p.length<=200*200:=Nat.mul_le_mul hq hp
  simp at this
  omega
 have hmp:p.length<=9223372036854775807:=by omega
 have hmq:q.length<=9223372036854775807:=by omega
 refine AW.condF rfl ?_;refine jB ?_
 refine AW.text ?_
 refine RG.opS rfl (bT 7 36 4 rfl) rfl ?_
 refine jH ?_
 refine AW.loopL (ι:=Nat × List Cb) (fun i=>[(1,.sl (q.map cCb)),(7,.row 7 0 0 (i.2.map cCb).length),(20,.sl (p.map cCb)),(21,.i .i64 (p.map cCb).length),(22,.i .i64 (i.1:Nat))]) (fun i=>[(7,⟨0,some (.row 36 4 (i.2.map cCb))⟩)]) (fun i=>i.1<=p.length/\bJ (fM q) i.1 (p.drop i.1) i.2=fe p q) (fun i=>p.length-i.1) (0,[]) ⟨qR _,rfl⟩ jW jW fun i hi=>?_
 obtain⟨k,out⟩:=i
 obtain⟨hk,hf⟩:=hi
 simp only at hk hf
 refine jA ?_
 refine AW.cond rfl (fun h0=>?_) (fun h0=>?_)
 ·have h:k<p.length:=by simpa using h0
  rw [qT h,bJ,fM,<- iZ] at hf
  have hkx:(p.map cCb)[k]?=some (cCb p[k]):=by rw [qF,qA h];rfl
  generalize p[k]=x at hf hkx
  refine jA ?_
  refine jx hkx ?_
  refine jH ?_
  refine AW.loopL (ι:=Nat × List Cb) (fun i=>[(1,.sl (q.map cCb)),(7,.row 7 0 0 (i.2.map cCb).length),(9,.own 9 0 0),(20,.sl (p.map cCb)),(21,.i .i64 (p.map cCb).length),(22,.i .i64 (k:Nat)),(26,.sl (q.map cCb)),(27,.i .i64 (q.map cCb).length),(28,.i .i64 (i.1:Nat))]) (fun i=>[(7,⟨0,some (.row 36 4 (i.2.map cCb))⟩),(9,⟨0,some (.box 36 (cCb x))⟩)]) (fun i=>i.1<=q.length/\bJ (fM q) (k+1) (p.drop (k+1)) (bJ (kI x) i.1 (q.drop i.1) i.2)=fe p q) (fun i=>q.length-i.1) (0,out) ⟨qR _,hf⟩ jW jW fun i hi=>?_
  clear hf
  obtain⟨j,out⟩:=i
  obtain⟨hj,hf⟩:=hi
  simp only at hj hf
  refine jA ?_
  refine AW.cond rfl (fun h1=>?_) (fun h1=>?_)
  ·have h':j<q.length:=by simpa using h1
   have hol:out.length<=100000000:=by
    have h1:=gB (f:=fM q) (k+1) (p.drop (k+1)) (bJ (kI x) j (q.drop j) out)
    have h2:=gB (f:=kI x) j (q.drop j) out
    rw [hf] at h1
    omega
   rw [qT h',bJ,kI] at hf
   have hjx:(q.map cCb)[j]?=some (cCb q[j]):=by rw [qF,qA h'];rfl
   generalize q[j]=y at hf hjx
   refine jA ?_
   refine jx hjx ?_
   refine jH ?_
   cases hm:x.meets y
   ·rw [hm,cond_false,uA] at hf
    refine RG.callS rfl rfl rfl rfl rfl (ri x y _ hm) rfl rfl ?_;refine jH ?_
    refine zF ?_
    exact⟨(j+1,out),⟨⟨h',hf⟩,by show q.length-(j+1)<q.length-j;omega⟩,⟨Rn.is rfl rfl,Rn.rowIs rfl rfl rfl,Rn.ownIs rfl rfl rfl,Rn.is rfl rfl,Rn.is rfl rfl,Rn.is rfl rfl,Rn.is rfl rfl,Rn.is rfl rfl,Rn.is (ay h' hmq) rfl,trivial⟩,jW⟩
   ·rw [hm,cond_true] at hf
    refine RG.callS rfl rfl rfl rfl rfl (ri x y _ hm) rfl rfl ?_;refine jH ?_
    refine AW.condT rfl ?_;refine jB ?_
    refine AW.text ?_
    refine wH rfl ?_
    refine RG.opS rfl (bI cCb out (x.met y) hol rfl rfl rfl rfl (tk rfl) rfl (tk rfl) rfl rfl ⟨_,rfl,rfl⟩ rfl rfl) rfl ?_;refine jH ?_
    exact⟨(j+1,_),⟨⟨h',hf⟩,by show q.length-(j+1)<q.length-j;omega⟩,⟨Rn.is rfl rfl,Rn.rowIs rfl rfl rfl,Rn.ownIs rfl rfl rfl,Rn.is rfl rfl,Rn.is rfl rfl,Rn.is rfl rfl,Rn.is rfl rfl,Rn.is rfl rfl,Rn.is (ay h' hmq) rfl,trivial⟩,jW⟩
  ·have h':¬j<q.length:=by simpa using h1
   obtain rfl:j=q.length:=by omega
   rw [vJ (l:=q),bJ] at hf
   refine zE ?_
   exact⟨(k+1,out),⟨⟨h,hf⟩,by show p.length-(k+1)<p.length-k;omega⟩,⟨Rn.is rfl rfl,Rn.rowIs rfl rfl rfl,Rn.is rfl rfl,Rn.is rfl rfl,Rn.is (ay h hmp) rfl,trivial⟩,jW⟩
 ·have h:¬k<p.length:=by simpa using h0
  obtain rfl:k=p.length:=by omega
  rw [vJ,bJ] at hf
  subst hf
  refine zE ?_
  refine RG.callMS rfl rfl rfl rfl (congrArg (fun x=>[x]) (bw rfl)) rfl (pN (fe p q) (by omega)) rfl ?_;refine jH ?_
  refine jR ?_
  rw [e0]
  rfl
theorem lJ (c:Cb)(more:Hd):∀(n:Nat) (rest:Cb) (out:List Cb),(ii c more n rest out).length<=out.length+n
 |0,rest,out=>qJ _
 |n+1,rest,out=>by
  rw [ii]
  cases more.bit n
  ·have:=lJ c more n rest out
   rw [cond_false]
   omega
  ·have:=lJ c more n ⟨rest.value.or (c.value.and (bO n 1)),rest.care.or (bO n 1)⟩ (out++[⟨(rest.value.or (c.value.and (bO n 1))).xor (bO n 1),rest.care.or (bO n 1)⟩])
   rw [qK,vP] at this
   rw [cond_true]
   omega
theorem yW (a c:Cb):(a.less c).length<=128:=by
 rw [Cb.less]
 cases (a.sound && c.sound)
 ·exact qR _
 ·cases a.meets c
  ·show 1<=128;omega
  ·have:=lJ c (c.care.less a.care) 128 a []
   simpa using this
theorem tC (y:Cb)(out:List Cb):(cV y out).length<=128*out.length:=by
 have:=fC (f:=kj y) (m:=128) (fun n x=>yW x y) 0 out []
 rw [cV]
 simpa using this
theorem DW (p q:List Cb):aa Tryz.prog 187 [.sl (p.map cCb),.sl (q.map cCb)] (wS (aK p q)):=by
 refine jb Tryz.func187 ?_
 refine jA ?_
 cases hs:(ai p && ai q)
 ·refine RG.callS rfl rfl rfl rfl rfl (nA p q _ hs) rfl rfl ?_;refine jH ?_
  refine zT ?_
  refine jR ?_
  rw [aK,hs]
  rfl
 refine RG.callS rfl rfl rfl rfl rfl (nA p q _ hs) rfl rfl ?_;refine jH ?_
 have e0:aK p q=eV p q:=by rw [aK,hs];rfl
 rw [e0]
 rw [qQ] at hs
 have hp:=cr hs.1
 have hq:=cr hs.2
 have hmq:q.length<=9223372036854775807:=by omega
 refine zF ?_
 refine RG.callMS rfl rfl rfl rfl rfl rfl (jP p (by omega)) rfl ?_;refine jH ?_
 refine AW.loopL (ι:=Nat × List Cb) (fun i=>[(7,.sl (i.2.map cCb)),(22,.sl (q.map cCb)),(23,.i .i64 (q.map cCb).length),(24,.i .i64 (i.1:Nat))]) (fun i=>[]) (fun i=>(i.1<=q.length/\i.2.length<=200)/\eV i.2 (q.drop i.1)=eV p q) (fun i=>q.length-i.1) (0,p) ⟨⟨qR _,hp⟩,rfl⟩ jW trivial fun i hi=>?_
 obtain⟨k,out⟩:=i
 obtain⟨⟨hk,ho⟩,hf⟩:=hi
 simp only at hk ho hf
 refine jA ?_
 refine AW.cond rfl (fun h0=>?_) (fun h0=>?_)
 ·have h:k<q.length:=by simpa using h0
  rw [qT h,eV] at hf
  have hkx:(q.map cCb)[k]?=some (cCb q[k]):=by rw [qF,qA h];rfl
  generalize q[k]=y at hf hkx
  have hmo:out.length<=9223372036854775807:=by omega
  have hal:=tC y out
  refine zB ?_
  refine jx hkx ?_
  refine wH rfl ?_;refine jB ?_
  refine AW.text ?_
  refine RG.opS rfl (bT 10 36 4 rfl) rfl ?_
  refine jH ?_
  refine AW.loopL (ι:=Nat × List Cb) (fun i=>[(7,.sl (out.map cCb)),(9,.own 9 0 0),(10,.row 10 0 0 (i.2.map cCb).length),(22,.sl (q.map cCb)),(23,.i .i64 (q.map cCb).length),(24,.i .i64 (k:Nat)),(28,.sl (out.map cCb)),(29,.i .i64 (out.map cCb).length),(30,.i .i64 (i.1:Nat))]) (fun i=>[(9,⟨0,some (.box 36 (cCb y))⟩),(10,⟨0,some (.row 36 4 (i.2.map cCb))⟩)]) (fun i=>i.1<=out.length/\bJ (kj y) i.1 (out.drop i.1) i.2=cV y out) (fun i=>out.length-i.1) (0,[]) ⟨qR _,rfl⟩ jW jW fun i hi=>?_
  obtain⟨j,rest⟩:=i
  obtain⟨hj,hg⟩:=hi
  simp only at hj hg
  refine jA ?_
  refine AW.cond rfl (fun h1=>?_) (fun h1=>?_)
  ·have h':j<out.length:=by simpa using h1
   have hjx:(out.map cCb)[j]?=some (cCb out[j]):=by rw [qF,qA h'];rfl
   rw [qT h',bJ,kj] at hg
   generalize out[j]=x at hg hjx
   have hol:rest.length+(x.less y).length<=100000000:=by
    have h1:=gB (f:=kj y) (j+1) (out.drop (j+1)) (rest++x.less y)
    rw [hg,qK] at h1
    omega
   refine jA ?_
   refine jx hjx ?_
   refine jH ?_
   refine jm (DT x y) ?_;refine jH ?_
   refine RG.opS rfl (jn cCb rest (x.less y) hol (fun _=>rfl) rfl rfl rfl rfl (tk rfl) rfl (tk rfl) rfl rfl ⟨_,rfl,rfl⟩ rfl) rfl ?_;refine jH ?_
   exact⟨(j+1,_),⟨⟨h',hg⟩,by show out.length-(j+1)<out.length-j;omega⟩,⟨Rn.is rfl rfl,Rn.ownIs rfl rfl rfl,Rn.rowIs rfl rfl rfl,Rn.is rfl rfl,Rn.is rfl rfl,Rn.is rfl rfl,Rn.is rfl rfl,Rn.is rfl rfl,Rn.is (ay h' hmo) rfl,trivial⟩,jW⟩
  ·have h':¬j<out.length:=by simpa using h1
   obtain rfl:j=out.length:=by omega
   rw [vJ (l:=out),bJ] at hg
   subst hg
   refine zE ?_
   refine RG.callMS rfl rfl rfl rfl (congrArg (fun x=>[x]) (bw rfl)) rfl (pN (cV y out) (by omega)) rfl ?_;refine jH ?_
   refine AW.cond rfl (fun h2=>?_) (fun h2=>?_)
   ·have h2:¬(cE (cV y out)).2=0:=by simpa using h2
    rw [qC h2,cond_false] at hf
    refine zR ?_
    rw [<- hf]
    rfl
   ·have h2:(cE (cV y out)).2=0:=by simpa using h2
    rw [qE h2,cond_true] at hf
    refine jA ?_
    refine⟨(k+1,(cE (cV y out)).1),⟨⟨⟨h,?_⟩,hf⟩,by show q.length-(k+1)<q.length-k;omega⟩,⟨Rn.is rfl rfl,Rn.is rfl rfl,Rn.is rfl rfl,Rn.is (ay h hmq) rfl,trivial⟩,trivial⟩
    have:=(gr h2).2
    rw [(gr h2).1]
    exact this
 ·have h:¬k<q.length:=by simpa using h0
  obtain rfl:k=q.length:=by omega
  rw [vJ,eV] at hf
  refine zE ?_
  refine jm (eI out) ?_;refine jH ?_
  refine jR ?_
  rw [<- hf]
  rfl
def Il:Option Cb->AV
 |none=>.tup [.agg (cHd Hd.zero),.b false]
 |some c=>.tup [.agg (cHd c.value),.b true]
theorem Gv (p:List Cb):aa Tryz.prog 224 [.sl (p.map cCb)] (Il (pick p)):=by
 refine jb Tryz.func224 ?_
 have hI:=iC 59 Cb.sound p fun x _=>aV x _ rfl
 have hfi:=qa (p:=Cb.sound) 0 p
 rw [pick]
 cases hq:p.findIdx? Cb.sound with
 |none=>
  have e:p.find? Cb.sound=none:=by
   rw [List.findIdx?_eq_none_iff] at hq
   rw [List.find?_eq_none]
   intro x hx
   rw [hq x hx]
   exact Bool.false_ne_true
  rw [e]
  have hv:bM Cb.sound 0 p = -1:=by rw [hfi,hq]
  rw [hv] at hI
  refine jA ?_
  refine jc hI ?_;refine jH ?_
  refine zF ?_
  exact zS
 |some k=>
  obtain⟨hk,h1,h2⟩:=List.findIdx?_eq_some_iff_getElem.1 hq
  have e:p.find? Cb.sound=some p[k]:=by
   rw [List.find?_eq_some_iff_getElem]
   exact⟨h1,k,hk,rfl,fun j hj=>by simpa using h2 j hj⟩
  rw [e]
  have hkx:(p.map cCb)[k]?=some (cCb p[k]):=by rw [qF,qA hk];rfl
  generalize p[k]=c at hkx
  have hv:bM Cb.sound 0 p=((k:Nat):Int):=by rw [hfi,hq];simp
  rw [hv] at hI
  refine jA ?_
  refine jc hI ?_;refine jH ?_
  refine AW.cond rfl (fun h=>?_) (fun h=>?_)
  rotate_left
  ·exact absurd (show Int.ofNat 0<=((k:Nat):Int) by simp only [qH];omega) (of_decide_eq_false h)
  refine jA ?_
  refine jx hkx ?_
  refine zH ?_
  rfl
theorem yp (x:Cb):aa Tryz.prog 84 [.agg (cCb x)] (.b (!x.sound)):=by
 refine jb Tryz.func84 ?_
 refine jA ?_
 refine RG.callS rfl rfl rfl rfl rfl (aV x _ rfl) rfl rfl ?_;refine jH ?_
 exact zS
def Iq (ids:List Int)(p:List Cb):Option Cb->AV
 |none=>.tup [.agg (av ⟨ids,Hd.zero,p⟩),.b false]
 |some c=>.tup [.agg (av ⟨ids,c.value,p⟩),.b true]
theorem uc (ids:List Int)(p:List Cb):aa Tryz.prog 185 [.sl (ids.map cI),.sl (p.map cCb)] (Iq ids p (pick p)):=by
 refine jb Tryz.func185 ?_
 have hP:=Gv p
 cases h:pick p with
 |none=>
  rw [h] at hP
  refine jA ?_
  refine jc hP ?_;refine jH ?_
  exact zS
 |some c=>
  rw [h] at hP
  refine jA ?_
  refine jc hP ?_;refine jH ?_
  exact zS
def rQ (r:List aG × Int):AV:=.tup [.sl (r.1.map av),.i .i64 r.2]
theorem lH {x:Cb}{p:List Cb}(h:ai (x::p)=true):pick (x::p)=some x:=v6 h
theorem FL (a:aG)(n:Nat)(c:Cb)(hA:nH n a)(hc:c.sound=true)(hn:a.ids.length<=1000):aa Tryz.prog 133 [.agg (av a),.i .i64 (n:Nat),.sl ([c].map cCb)] (rQ (bE a n c)):=by
 refine jb Tryz.func133 ?_
 obtain⟨m1,m2⟩:=fI hA.pile hc
 obtain⟨l1,l2⟩:=fK hA.pile hc
 have hM:=Ev a.pile [c]
 have hL:=DW a.pile [c]
 rw [bE]
 have hup:(a.ids++[((n:Nat):Int)]).Pairwise (· < ·):=by
  rw [List.pairwise_append]
  exact⟨hA.up,List.pairwise_singleton _ _,fun x hx y hy=>by rw [qP.1 hy];exact hA.ids x hx⟩
 have hJ:=Gr a.ids [((n:Nat):Int)] hup (by rw [vP];decide) (by rw [vP];omega)
 have hCl:=iy a.ids (by omega)
 rcases m1 with m1|m1
 rotate_left
 ·rw [m1] at hM ⊢
  refine zB ?_
  refine wH rfl ?_
  refine zB ?_
  refine RG.opS rfl (bT 8 75 4 rfl) rfl ?_
  refine jH ?_
  refine jm hM ?_;refine jH ?_
  refine zT ?_
  exact zS
 have m2:=(m2 m1).1
 rw [show aR a.pile [c]=((aR a.pile [c]).1,0) from Prod.ext rfl m1] at hM
 rw [qE m1,cond_true]
 generalize (aR a.pile [c]).1=mp at hM m2
 have hin:=uc (a.ids++[((n:Nat):Int)]) mp
 refine zB ?_
 refine wH rfl ?_
 refine zB ?_
 refine RG.opS rfl (bT 8 75 4 rfl) rfl ?_
 refine jH ?_
 refine jm hM ?_;refine jH ?_
 refine zF ?_
 refine RG.callMS rfl rfl rfl rfl (congrArg (fun x=>[AV.sl (a.ids.map cI),x]) (bw (Y:=[((n:Nat):Int)].map cI) rfl)) rfl hJ rfl ?_;refine jH ?_
 cases mp with
 |nil=>
  refine jm hin ?_;refine jH ?_
  refine zF ?_
  rcases l1 with l1|l1
  rotate_left
  ·rw [l1] at hL ⊢
   refine jm hL ?_;refine jH ?_
   refine zT ?_
   exact zS
  have l2:=(l2 l1).1
  rw [show aK a.pile [c]=((aK a.pile [c]).1,0) from Prod.ext rfl l1] at hL
  rw [qE l1,cond_true]
  generalize (aK a.pile [c]).1=lp at hL l2
  have hot:=uc a.ids lp
  refine jm hL ?_;refine jH ?_
  refine zF ?_
  refine jm hCl ?_;refine jH ?_
  cases lp with
  |nil=>
   refine jm hot ?_;refine jH ?_
   refine zF ?_
   exact zS
  |cons y lp=>
   rw [lH l2] at hot
   refine jm hot ?_;refine jH ?_
   refine AW.condT rfl ?_;refine jB ?_
   refine AW.text ?_
   refine wH rfl ?_
   refine RG.opS rfl (bI av ([]:List aG) (⟨a.ids,y.value,y::lp⟩:aG) (by decide) rfl rfl rfl rfl (tk rfl) rfl (tk rfl) rfl rfl ⟨_,rfl,rfl⟩ rfl rfl) rfl ?_;refine jH ?_
   refine jR ?_
   exact congrArg (fun x=>AV.tup [x,.i .i64 0]) (bw (by rw [fL];rfl))
 |cons x mp=>
  rw [lH m2] at hin
  refine jm hin ?_;refine jH ?_
  refine AW.condT rfl ?_;refine jB ?_
  refine AW.text ?_
  refine wH rfl ?_
  refine RG.opS rfl (bI av ([]:List aG) (⟨a.ids++[((n:Nat):Int)],x.value,x::mp⟩:aG) (by decide) rfl rfl rfl rfl (tk rfl) rfl (tk rfl) rfl rfl ⟨_,rfl,rfl⟩ rfl rfl) rfl ?_;refine jH ?_
  rcases l1 with l1|l1
  rotate_left
  ·rw [l1] at hL ⊢
   refine jm hL ?_;refine jH ?_
   refine zT ?_
   exact zS
  have l2:=(l2 l1).1
  rw [show aK a.pile [c]=((aK a.pile [c]).1,0) from Prod.ext rfl l1] at hL
  rw [qE l1,cond_true]
  generalize (aK a.pile [c]).1=lp at hL l2
  have hot:=uc a.ids lp
  refine jm hL ?_;refine jH ?_
  refine zF ?_
  refine jm hCl ?_;refine jH ?_
  cases lp with
  |nil=>
   refine jm hot ?_;refine jH ?_
   refine zF ?_
   refine jR ?_
   exact congrArg (fun x=>AV.tup [x,.i .i64 0]) (bw (by rw [fL,uA];rfl))
  |cons y lp=>
   rw [lH l2] at hot
   refine jm hot ?_;refine jH ?_
   refine AW.condT rfl ?_;refine jB ?_
   refine AW.text ?_
   refine wH rfl ?_
   refine RG.opS rfl (bI av [(⟨a.ids++[((n:Nat):Int)],x.value,x::mp⟩:aG)] (⟨a.ids,y.value,y::lp⟩:aG) (show 1<=100000000 by decide) rfl rfl rfl rfl (tk rfl) rfl (tk rfl) rfl rfl ⟨_,rfl,rfl⟩ rfl rfl) rfl ?_;refine jH ?_
   refine jR ?_
   exact congrArg (fun x=>AV.tup [x,.i .i64 0]) (bw (by rw [fL];rfl))
theorem yn (a:aG)(id:Int)(c:Cb):(bE a id c).1.length<=2:=by
 rw [bE]
 cases decide ((aR a.pile [c]).2=0)
 ·exact qR _
 cases decide ((aK a.pile [c]).2=0)
 ·exact qR _
 rw [cond_true,cond_true,qK]
 have h1:∀p,(oi a id c p).length<=1:=fun p=>by cases p <;> simp [oi]
 have h2:∀p,(fL a p).length<=1:=fun p=>by cases p <;> simp [fL]
 have:=h1 (aR a.pile [c]).1
 have:=h2 (aK a.pile [c]).1
 omega
theorem xE (l:List aG)(n:Nat)(c:Cb)(hA:∀a∈l,nH n a/\a.ids.length<=1000)(hc:c.sound=true)(hl:l.length<=600):aa Tryz.prog 86 [.sl (l.map av),.i .i64 (n:Nat),.agg (cCb c)] (rQ (aT n c l [])):=by
 refine jb Tryz.func86 ?_
 have hm:l.length<=9223372036854775807:=by omega
 refine zB ?_
 refine wH rfl ?_
 refine zB ?_
 refine RG.opS rfl (bT 8 75 4 rfl) rfl ?_
 refine jH ?_
 refine AW.loopL (ι:=Nat × List aG) (fun i=>[(1,.i .i64 (n:Nat)),(5,.own 5 0 0),(8,.row 8 0 0 (i.2.map av).length),(13,.sl (l.map av)),(14,.i .i64 (l.map av).length),(15,.i .i64 (i.1:Nat))]) (fun i=>[(5,⟨0,some (.box 36 (cCb c))⟩),(8,⟨0,some (.row 75 4 (i.2.map av))⟩)]) (fun i=>(i.1<=l.length/\i.2.length<=2*i.1)/\aT n c (l.drop i.1) i.2=aT n c l []) (fun i=>l.length-i.1) (0,[]) ⟨⟨qR _,qR _⟩,rfl⟩ jW jW fun i hi=>?_
 obtain⟨k,out⟩:=i
 obtain⟨⟨hk,ho⟩,hf⟩:=hi
 simp only at hk ho hf
 refine jA ?_
 refine AW.cond rfl (fun h0=>?_) (fun h0=>?_)
 ·have h:k<l.length:=by simpa using h0
  rw [qT h,aT] at hf
  have hkx:(l.map av)[k]?=some (av l[k]):=by rw [qF,qA h];rfl
  have ha:=hA l[k] (vR h)
  generalize l[k]=a at hf hkx ha
  have hP:=FL a n c ha.1 hc ha.2
  have hpl:=yn a n c
  refine jA ?_
  refine jx hkx ?_
  refine jH ?_
  refine RG.callMS rfl rfl rfl rfl (congrArg (fun x=>[AV.agg (av a),AV.i .i64 (n:Nat),x]) (bw (Y:=[c].map cCb) rfl)) rfl hP rfl ?_;refine jH ?_
  refine AW.cond rfl (fun h2=>?_) (fun h2=>?_)
  ·have h2:¬(bE a n c).2=0:=by simpa using h2
   rw [qC h2,cond_false] at hf
   refine zR ?_
   rw [<- hf]
   rfl
  ·have h2:(bE a n c).2=0:=by simpa using h2
   rw [qE h2,cond_true] at hf
   refine zB ?_
   refine wH rfl ?_
   refine RG.opS rfl (jn av out (bE a n c).1 (by omega) (fun _=>rfl) rfl rfl rfl rfl (tk rfl) rfl (tk rfl) rfl rfl ⟨_,rfl,rfl⟩ rfl) rfl ?_;refine jH ?_
   exact⟨(k+1,_),⟨⟨⟨h,by rw [qK];simp only;omega⟩,hf⟩,by show l.length-(k+1)<l.length-k;omega⟩,jV,jW⟩
 ·have h:¬k<l.length:=by simpa using h0
  obtain rfl:k=l.length:=by omega
  rw [vJ,aT] at hf
  have hol:(out.map av).length=out.length:=qG ..
  refine zE ?_
  refine AW.cond rfl (fun h2=>?_) (fun h2=>?_)
  ·have h2:((out.map av).length:Int)>600:=of_decide_eq_true h2
   rw [qE (by omega),cond_true] at hf
   refine zR ?_
   rw [<- hf]
   rfl
  ·have h2:¬((out.map av).length:Int)>600:=of_decide_eq_false h2
   rw [qC (by omega),cond_false] at hf
   refine zR ?_
   rw [<- hf]
   exact congrArg (fun x=>AV.tup [x,.i .i64 0]) (bw rfl)
theorem s9 {cs:List Cb}{c:Cb}{out:List aG}(hc:c.sound=true)(hP:mS cs out)(hl:∀a∈out,a.ids.length<=cs.length)(h0:(aT cs.length c out []).2=0):mS (cs++[c]) (aT cs.length c out []).1/\∀a∈(aT cs.length c out []).1,a.ids.length<=cs.length+1:=by
 constructor
 ·have e:cn cs.length [c] out=((aT cs.length c out []).1,0):=by
   rw [cn,qE h0,cond_true,cn]
  have:=(oU [c] cs out (fun d hd=>by rw [qP.1 hd];exact hc) hP).2 (by rw [e])
  rw [e] at this
  exact this
 ·obtain⟨_,g⟩:=jh (id:=cs.length) hc out [] fun a ha=>(hP.ok a ha).pile
  obtain⟨_,g,_⟩:=g h0
  intro x hx
  rcases g x hx with hx|⟨a,ha,h1,hx⟩
  ·cases hx
  ·have:=hl a ha
   rcases (eE h1 (hP.ok a ha).pile hc hx).2.2 with⟨e,_⟩|⟨e,_⟩ <;> rw [e]
   ·rw [qK,vP];omega
   ·omega
theorem wT (ps:List Cb):aa Tryz.prog 47 [.sl (ps.map cCb)] (rQ (bn ps)):=by
 refine jb Tryz.func47 ?_
 have hol:(ps.map cCb).length=ps.length:=qG ..
 rw [bn]
 refine jA ?_
 refine AW.cond rfl (fun h2=>?_) (fun h2=>?_)
 ·have h2:((ps.map cCb).length:Int)>500:=of_decide_eq_true h2
  rw [qE (by omega),cond_true]
  refine zR ?_
  rfl
 have h2:¬((ps.map cCb).length:Int)>500:=of_decide_eq_false h2
 rw [qC (by omega),cond_false]
 have hC:=fJ 84 (fun x=>!x.sound) ps (fun x _=>yp x) _ (w7 ps)
 cases hs:ps.all Cb.sound
 ·rw [hs] at hC
  refine jA ?_
  refine jc hC ?_;refine jH ?_
  refine zF ?_
  exact zS
 rw [hs] at hC
 rw [cond_true]
 rw [qV] at hs
 have hm:ps.length<=9223372036854775807:=by omega
 refine jA ?_
 refine jc hC ?_;refine jH ?_
 refine zT ?_
 refine jc HA ?_;refine jH ?_
 refine AW.freeze [19] [(4,.sl ([dS].map av)),(20,.sl (ps.map cCb)),(21,.i .i64 (ps.map cCb).length),(22,.i .i64 (0:Nat))] [] ⟨.fzA rfl rfl rfl,.is rfl rfl,.is rfl rfl,.is rfl rfl,trivial⟩ trivial rfl ?_
 refine AW.loopL (ι:=Nat × List aG) (fun i=>[(4,.sl (i.2.map av)),(20,.sl (ps.map cCb)),(21,.i .i64 (ps.map cCb).length),(22,.i .i64 (i.1:Nat))]) (fun i=>[]) (fun i=>(i.1<=ps.length/\mS (ps.take i.1) i.2/\∀a∈i.2,a.ids.length<=i.1)/\cn i.1 (ps.drop i.1) i.2=cn 0 ps [dS]) (fun i=>ps.length-i.1) (0,[dS]) ⟨⟨qR _,Gp,fun a ha=>by rw [qP.1 ha];exact qJ _⟩,rfl⟩ jW trivial fun i hi=>?_
 obtain⟨k,out⟩:=i
 obtain⟨⟨hk,hP,hL⟩,hf⟩:=hi
 simp only at hk hP hL hf
 refine jA ?_
 refine AW.cond rfl (fun h0=>?_) (fun h0=>?_)
 ·have h:k<ps.length:=by simpa using h0
  have hlt:(ps.take k).length=k:=by rw [vG];omega
  rw [qT h,cn] at hf
  have hkx:(ps.map cCb)[k]?=some (cCb ps[k]):=by rw [qF,qA h];rfl
  have hc:=hs ps[k] (vR h)
  have htk:ps.take (k+1)=ps.take k++[ps[k]]:=by rw [List.take_add_one,qA h];rfl
  have hN:=s9 (cs:=ps.take k) (c:=ps[k]) (out:=out) hc hP (by rw [hlt];exact hL)
  rw [<- htk,hlt] at hN
  have hS:=xE out k ps[k] (fun a ha=>⟨by have:=hP.ok a ha;rw [hlt] at this;exact this,by have:=hL a ha;omega⟩) hc hP.len
  generalize ps[k]=c at hf hkx hc hN hS
  clear htk
  refine jA ?_
  refine jx hkx ?_
  refine jH ?_
  refine jm hS ?_;refine jH ?_
  refine AW.cond rfl (fun h3=>?_) (fun h3=>?_)
  ·have h3:¬(aT k c out []).2=0:=by simpa using h3
   rw [qC h3,cond_false] at hf
   refine zR ?_
   rw [<- hf]
   rfl
  ·have h3:(aT k c out []).2=0:=by simpa using h3
   rw [qE h3,cond_true] at hf
   refine jA ?_
   exact⟨(k+1,(aT k c out []).1),⟨⟨⟨h,(hN h3).1,(hN h3).2⟩,hf⟩,by show ps.length-(k+1)<ps.length-k;omega⟩,jV,trivial⟩
 ·have h:¬k<ps.length:=by simpa using h0
  obtain rfl:k=ps.length:=by omega
  rw [vJ,cn] at hf
  refine zE ?_
  refine jm (iS out) ?_;refine jH ?_
  refine jR ?_
  rw [<- hf]
  rfl
def bN (c:Cb):Value:=.agg #[.int .u64 c.value.hi.toNat,.int .u64 c.value.lo.toNat,.int .u64 c.care.hi.toNat,.int .u64 c.care.lo.toNat]
def ke (l:List Cb):Array MapEntry:=(l.zipIdx.map fun p=>⟨bN p.1,.bool true,p.2⟩).toArray
theorem yi (l:List Cb)(c:Cb):(ke l).push ⟨bN c,.bool true,l.length⟩=ke (l++[c]):=by
 simp [ke,List.zipIdx_append]
def fV (l:List Cb):aE:=.obj (.map (ke l) l.length)
theorem pw {a b:Cb}(h:bN a=bN b):a=b:=by
 simp only [bN,Value.agg.injEq,Array.mk.injEq,List.cons.injEq,Value.int.injEq,true_and,and_true,Int.natCast_inj,UInt64.toNat_inj] at h
 obtain⟨h1,h2,h3,h4⟩:=h
 obtain⟨⟨a1,a2⟩,⟨a3,a4⟩⟩:=a
 obtain⟨⟨b1,b2⟩,⟨b3,b4⟩⟩:=b
 simp only at h1 h2 h3 h4
 subst h1 h2 h3 h4
 rfl
theorem sN {l:List Cb}{e:MapEntry}(h:e∈(ke l).toList):∃x∈l,e.key=bN x/\e.val = .bool true:=by
 simp only [ke,vI] at h
 obtain⟨p,hp,rfl⟩:=h
 exact⟨p.1,(List.mem_zipIdx hp).2.2 ▸ vR _,rfl,rfl⟩
theorem zQ {l:List Cb}{x:Cb}(h:x∈l):∃e∈(ke l).toList,e.key=bN x:=by
 obtain⟨i,hi,rfl⟩:=List.mem_iff_getElem.1 h
 exact⟨⟨bN l[i],.bool true,i⟩,by
  simp only [ke,vI]
  exact⟨(l[i],i),by rw [List.mem_iff_getElem?];exact⟨i,by simp [qA hi]⟩,rfl⟩,rfl⟩
theorem Gj (x:UInt64):(Lit.int .u64 (x.toNat:Int)).wf=true:=by
 have h:=x.toNat_lt
 have h1:IntKind.u64.min=0:=rfl
 have h2:IntKind.u64.max=18446744073709551615:=rfl
 simp only [Lit.wf,h1,h2,qQ,vM]
 omega
theorem A8 {P:Program}{k h u:TypeId}{f0 f1 g0 g1:Field}(h1:P.underlying k=some (.struct #[f0,f1]))(h2:P.underlying h=some (.struct #[g0,g1]))(h3:P.underlying u=some (.int .u64))(c1:P.cellsOf k=4)(c2:P.cellsOf h=2)(c3:P.cellsOf u=1)
  (a0 : f0.type = h /\ f0.offset = 0 /\ f0.name ≠ "_") (a1 : f1.type = h /\ f1.offset = 2 /\ f1.name ≠ "_") (b0 : g0.type = u /\ g0.offset = 0 /\ g0.name ≠ "_") (b1 : g1.type = u /\ g1.offset = 1 /\ g1.name ≠ "_") (n : Nat) (c : Cb) :
  P.keyLits (n+3) k (bN c).cells.toList=some [.int .u64 c.value.hi.toNat,.int .u64 c.value.lo.toNat,.int .u64 c.care.hi.toNat,.int .u64 c.care.lo.toNat]:=by
 have key:∀m x y,P.keyLits (m+2) h [.int .u64 ((x:UInt64).toNat:Int),.int .u64 ((y:UInt64).toNat:Int)]=some [.int .u64 x.toNat,.int .u64 y.toNat]:=fun m x y=>by
  unfold Program.keyLits
  rw [h2]
  simp [c2,b0,b1,c3,Program.keyLits,h3,Gj]
 unfold Program.keyLits
 rw [h1]
 simp [c1,a0,a1,c2,bN,Value.cells,key]
theorem sU {P:Program}{k:TypeId}{fs:Array Field}(h1:P.underlying k=some (.struct fs))(c1:P.cellsOf k=4)(c:Cb):(bN c).formed P k=true:=by
 simp [bN,Value.formed,h1,c1]
theorem Gx {P:Program}{k:TypeId}{fs:Array Field}(h1:P.underlying k=some (.struct fs))(hk:P.keyType k=true){v:Value}(hf:v.formed P k=true){ls:List Lit}(he:P.keyLits (P.types.size+1) k v.cells.toList=some ls):∃l,keyOf P k v=some l:=by
 unfold keyOf
 rw [h1]
 simp only [hk,hf,Bool.and_self,if_true,he,Option.map_some]
 exact⟨_,rfl⟩
theorem xM:(36:TypeId)<Tryz.prog.types.size:=of_decide_eq_true (by kernel_rfl)
theorem key_law:WideMaps.KeyLaw Tryz.prog 36:=deep_law_laid (by kernel_rfl) (m:=3) (by omega) xM (by kernel_rfl) (by rw [Tryz.underlying36])
theorem dx (c:Cb):∃l,keyOf Tryz.prog 36 (bN c)=some l:=by
 have c1:Tryz.prog.cellsOf 36=4:=by kernel_rfl
 refine Gx Tryz.underlying36 (by kernel_rfl) (sU Tryz.underlying36 c1 c) (ls:=[.int .u64 c.value.hi.toNat,.int .u64 c.value.lo.toNat,.int .u64 c.care.hi.toNat,.int .u64 c.care.lo.toNat]) ?_
 have hr:=xM
 generalize hn:Tryz.prog.types.size=n at hr
 obtain⟨m,rfl⟩:∃m,n=m+2:=⟨n-2,by have:(2:Nat)<=n:=vH (by decide) (Nat.le_of_lt hr);omega⟩
 exact A8 Tryz.underlying36 Tryz.underlying34 (u:=32) (by kernel_rfl) c1 (by kernel_rfl) (by kernel_rfl) ⟨rfl,rfl,by decide⟩ ⟨rfl,rfl,by decide⟩ ⟨rfl,rfl,by decide⟩ ⟨rfl,rfl,by decide⟩ m c
theorem gf {W:World}{F:Nat->Prop}{μ:Mu}{σ:Sto}{c:Cb}{v:Value}(h:Rel W F μ σ (.agg (cCb c)) v):v=bN c:=by
 obtain⟨vs,rfl,hl,_,hr⟩:=h.agg'
 match vs,hl with
 |[v0,v1,v2,v3],_=>
  rw [(hr 0 _ _ rfl rfl).u',(hr 1 _ _ rfl rfl).u',(hr 2 _ _ rfl rfl).u',(hr 3 _ _ rfl rfl).u']
  rfl
section
variable {P:Program} {N:Nat} {o:Oper} {s:St}
theorem Rel.ref' {W:World}{F:Nat->Prop}{μ:Mu}{σ:Sto}{id ep:Nat}{k:RK}{v:Value}(h:Rel W F μ σ (.ref id ep k) v):ep<=(σ id).ep/\v.oneCell'=true/\∀bd,σ id=⟨ep,some bd⟩->∃b c,μ id=some (b,c)/\v=k.val b:=by
 cases h with
 |pure h=>cases h
 |ref _ _ _ _ he h1 h=>exact⟨he,h1,h⟩
theorem nc {t id:Nat}(ho:o.op = .makeMap t none):ax P N o s ⟨.ref id ((s.σ id).ep+1) .map,[(id,⟨(s.σ id).ep+1,some (fV [])⟩)],[]⟩:=by
 intro s' h1 h2 h3 W F μ a hr K Q hK
 have hid:s'.σ id=s.σ id:=h3 (id,⟨(s.σ id).ep+1,some (fV [])⟩) (by simp)
 have hrun:(execOp a.eval o).run P W = .ok (.value (.map (some W.heap.size))) (W.alloc (.map #[] 0)):=by
  simp only [execOp,ho,Instr.makeMap,newObj,Option.map_none,kA2,kA3,kA1,Sem.run,World.alloc]
 have hk:Kp (fun b=>(s'.σ id).body.isSome=true/\∃c,μ id=some (b,c)) W (W.alloc (.map #[] 0)):=(Kp.refl _ W).alloc _
 have hσ:up1 s'.σ id ⟨(s.σ id).ep+1,some (fV [])⟩ id=⟨(s.σ id).ep+1,some (fV [])⟩:=by rw [bi,if_pos rfl]
 have hμ:upm μ id (some (W.heap.size,0)) id=some (W.heap.size,0):=by rw [dE,if_pos rfl]
 obtain⟨hs,hi⟩:=cy hr.inv id (some (W.heap.size,0)) ((s.σ id).ep+1) (fV []) hk (fun b c' e=>by
   have e':W.heap.size=b:=by simp only [qU,vC] at e;exact e.1
   subst e'
   exact⟨by simp,.inl (qJ _)⟩) (.inl (by rw [hid];omega)) (fun hs=>⟨W.heap.size,0,rfl,kA5 W _⟩)
 unfold Oper.wp
 rw [hrun]
 refine hK _ F _ _ (hr.put hs hi (.ref id _ .map _ ?_ rfl fun bd h=>⟨W.heap.size,0,hμ,rfl⟩)) hs
 show _<=(up1 s'.σ id ⟨(s.σ id).ep+1,some (fV [])⟩ id).ep
 rw [hσ]
 exact qJ _
end
theorem pH (W:World)(l:List Cb)(c:Cb):(c∉l/\(Instr.findKey 36 (bN c) (ke l).toList).run Tryz.prog W = .ok none W)\/(c∈l/\∃j,(Instr.findKey 36 (bN c) (ke l).toList).run Tryz.prog W = .ok (some (j,.bool true)) W):=by
 obtain⟨lx,hx⟩:=dx c
 rcases key_law.find W hx (ke l).toList (fun e he=>by
  obtain⟨x,_,hk,_⟩:=sN he
  rw [hk]
  exact dx x) with⟨h1,h2⟩|⟨j,e,h1,h2,h3⟩
 ·refine .inl ⟨fun hc=>?_,h1⟩
  obtain⟨e,he,hk⟩:=zQ hc
  exact h2 e he hk
 ·obtain⟨x,hx,hk,hv⟩:=sN (qN h2)
  rw [hv] at h1
  have:x=c:=pw (hk.symm.trans h3)
  exact .inr ⟨this ▸ hx,j,h1⟩
theorem jJ {P:Program}{W:World}{r:Nat}{es:Array MapEntry}{clock:Nat}(hb:W.heap[r]?=some (.map es clock)):(getObj r).run P W = .ok (.map es clock) W:=MapKept.run_getObj_map hb
theorem lk:Tryz.prog.underlying 168=some (.map 36 4):=by kernel_rfl
theorem yj (W:World):(zeroValue 4).run Tryz.prog W = .ok (.bool false) W:=by kernel_rfl
theorem pD {N:Nat}{o:Oper}{s:St}{x k:Operand}{id ep:Nat}{l:List Cb}{c:Cb}{r:Bool}(ho:o.op = .lookup 168 x k false)(hx:s.ev x = .ref id ep .map)(hid:s.σ id=⟨ep,some (fV l)⟩)(hk:s.ev k = .agg (cCb c))(hr:decide (c∈l)=r) :
  ax Tryz.prog N o s ⟨.b r,[],[id]⟩:=by
 subst hr
 refine az [id] _ fun s' W F μ a h1 h2 hr=>⟨.bool (decide (c∈l)),?_,.pure (.b _)⟩
 have ex:=hr.ev x
 have ek:=hr.ev k
 rw [h1 x (by rw [ho];simp [Op.operands]),hx] at ex
 rw [h1 k (by rw [ho];simp [Op.operands]),hk] at ek
 have hid':=(h2 id (by simp)).trans hid
 obtain⟨b,c',hm,hv⟩:=(Rel.ref' ex).2.2 _ hid'
 obtain⟨b',c'',hm',hh⟩:=hr.inv.body _ _ _ hid'
 obtain⟨rfl,rfl⟩:b=b'/\c'=c'':=by rw [hm] at hm';simpa using hm'
 have hkv:=gf ek
 obtain⟨lx,hlx⟩:=dx c
 have hck:=fun em=>key_law.check W em hlx
 rcases pH W l c with⟨h3,h4⟩|⟨h3,j,h4⟩
 ·rw [qC h3]
  simp only [execOp,ho,Instr.lookup,kA2,kA9 lk,kA1,hv,RK.val,jJ hh,kA3,hkv,hck,h4,yj]
  rfl
 ·rw [qE h3]
  simp only [execOp,ho,Instr.lookup,kA2,kA9 lk,kA1,hv,RK.val,jJ hh,kA3,hkv,hck,h4]
  rfl
theorem Bo {N:Nat}{o:Oper}{s:St}{x k v:Operand}{id ep:Nat}{l:List Cb}{c:Cb}(ho:o.op = .mapUpdate 168 x k v)(hx:s.ev x = .ref id ep .map)(hid:s.σ id = ⟨ep,some (fV l)⟩)(hk:s.ev k = .agg (cCb c))(hv:s.ev v = .b true)(hc:c ∉ l) :
  ax Tryz.prog N o s ⟨.tup [],[(id,⟨ep,some (fV (l++[c]))⟩)],[]⟩:=by
 intro s' g1 g2 g3 W F μ a hr K Q hK
 have hid':s'.σ id=⟨ep,some (fV l)⟩:=(g3 (id,⟨ep,some (fV (l++[c]))⟩) (by simp)).trans hid
 have ex:=hr.ev x
 have ek:=hr.ev k
 have ev:=hr.ev v
 rw [g1 x (by rw [ho];simp [Op.operands]),hx] at ex
 rw [g1 k (by rw [ho];simp [Op.operands]),hk] at ek
 rw [g1 v (by rw [ho];simp [Op.operands]),hv] at ev
 obtain⟨b,c',hm,hv⟩:=(Rel.ref' ex).2.2 _ hid'
 obtain⟨b',c'',hm',hh⟩:=hr.inv.body _ _ _ hid'
 obtain⟨rfl,rfl⟩:b=b'/\c'=c'':=by rw [hm] at hm';simpa using hm'
 have hkv:=gf ek
 have hvv:=ev.b'
 obtain⟨lx,hlx⟩:=dx c
 have hck:=fun em=>key_law.check W em hlx
 have hf:(Instr.findKey 36 (bN c) (ke l).toList).run Tryz.prog W = .ok none W:=by
  rcases pH W l c with⟨h3,h4⟩|⟨h3,_⟩
  ·exact h4
  ·exact absurd h3 hc
 have hlt:b<W.heap.size:=(qI.1 hh).1
 generalize hW:({ W with heap:=W.heap.setIfInBounds b (.map (ke (l++[c])) (l++[c]).length) }:World)=W'
 have hrun:(execOp a.eval o).run Tryz.prog W = .ok .skip W':=by
  simp only [execOp,ho,Instr.mapUpdate,kA2,kA9 lk,kA1,hv,RK.val,jJ hh,kA3,hkv,hvv,hck,hf,MapKept.run_setObj_map _ hh,yi]
  rw [<- hW,qK,vP]
 have hk:Kp (fun b=>(s'.σ id).body.isSome=true/\∃c,μ id=some (b,c)) W W':=by
  subst hW
  exact⟨rfl,rfl,rfl,by simp,fun k hk hn=>by
   have:b≠k:=fun e=>hn ⟨by rw [hid'];rfl,c',e ▸ hm⟩
   simp only [Array.getElem?_setIfInBounds,if_neg this]⟩
 have hh':W'.heap[b]?=some (.map (ke (l++[c])) (l++[c]).length):=by
  subst hW
  simp only [Array.getElem?_setIfInBounds,if_true,if_pos hlt]
 have hsz:W'.heap.size=W.heap.size:=by subst hW;simp
 obtain⟨hs,hi⟩ := cy hr.inv id (μ id) ep (fV (l ++ [c])) hk (fun b1 c1 e=>by
   rw [hm] at e
   obtain⟨rfl,rfl⟩:b=b1/\c'=c1:=by simpa using e
   exact⟨by rw [hsz];exact hlt,.inr ⟨by rw [hid'];rfl,c',hm⟩⟩)
  (.inr ⟨by rw [hid'],fV l,by rw [hid'],rfl,rfl⟩) (fun hs=>⟨b,c',hm,hh'⟩)
 unfold Oper.wp
 rw [hrun]
 exact hK _ F _ _ (hr.put hs hi (.pure (.tup [] [] rfl (by simp)))) hs
theorem eD {P:Program}{w:World}{ops:Array Oper}{rest:List Oper}{o:Oper}{a:Act}{Q:Exit->Act->World->Prop}(hgd:o.guard=none)(s x:Operand)(t:TypeId)
  (ho:o.op = .call { callee:=.builtin .append,args:=#[s,x],argTypes:=#[t,t] })
  (base:Nat) (e:TypeId) (i:TypeInfo) (z:Value) (size bytes:Nat) (ht:P.underlying t=some (.slice e)) (hi:P.info? e=some i) (hz:i.zero=some z)
  (hsize:i.size=size) (hby:i.bytes=bytes) (hzs:z.cells.size=size) (hsz:0<size)
  (v:Value) (n:Nat) (xs:List Value) (hs:a.eval s=v) (hown:w.ownsRow base e size v n xs)
  (ad:Addr) (m c:Nat) (news:List Value) (hx:a.eval x = .slice (some ad) m c) (hl:news.length=m*size) (hnews:∀j u,news[j]?=some u->w.cell? (ad.add j)=some u) (h1:∀u∈news,u.oneCell'=true)
  (h63:n+m<=maxLen) (hbytes:(n+m)*bytes<=140737488355328) (hbase:base<=w.heap.size)
  (h:∀v' w',w'.ownsRow base e size v' (n+m) (xs++news)->w.grownBy w' v.ownBlock->(v'.ownBlock=v.ownBlock\/v'.ownBlock=some w.heap.size)->wpList P ops Q rest (a.put o.dst v') w'):wpList P ops Q (o::rest) a w :=
 kB1 hgd fun K hK=>by
  obtain⟨v',w',hr,h2,h3,_,h5⟩:=run_append_own_at (P:=P) (w:=w) base t o.type e i z size bytes ht hi hz hsize hby hzs hsz v n xs hown ad m c news hl hnews h1 h63 hbytes hbase
  unfold Oper.wp execOp
  simp only [ho,resolve,invoke,builtin,kA2,kA3,kA1,List.map_toArray,vE,List.map_nil,hs,hx,hr]
  exact hK _ _ (h v' w' h2 h3 h5)
def oF (l:List (Nat × Cb)):Array MapEntry:=(l.zipIdx.map fun p=>⟨.int .i64 ((p.1.1:Nat):Int),cbV p.1.2,p.2⟩).toArray
theorem yd (l:List (Nat × Cb))(c:Nat × Cb):(oF l).push ⟨.int .i64 ((c.1:Nat):Int),cbV c.2,l.length⟩=oF (l++[c]):=by
 simp [oF,List.zipIdx_append]
theorem nk (n:Nat):∀(l:List (Nat × Cb)) (i j:Nat),(∀e∈l,e.1≠n)->Instr.findNow (.int .i64) (.int .i64 (n:Int)) ((l.zipIdx i).map fun p=>(⟨.int .i64 ((p.1.1:Nat):Int),cbV p.1.2,p.2⟩:MapEntry)) j=some none
 |[],i,j,_=>rfl
 |x::l,i,j,h=>by
  have hx:=h x (by simp)
  have e':((n:Int) == (x.1:Int))=false:=by
   simp only [beq_eq_false_iff_ne,ne_eq,Int.natCast_inj]
   exact fun e=>hx e.symm
  simp [Instr.findNow,Instr.sameNow,e',nk n l (i+1) (j+1) fun y hy=>h y (by simp [hy])]
theorem Ij:Tryz.prog.underlying 3=some (.int .i64):=by kernel_rfl
theorem v7 (W:World)(n:Nat)(l:List (Nat × Cb))(h:∀e∈l,e.1≠n):(Instr.findKey 3 (.int .i64 (n:Int)) (oF l).toList).run Tryz.prog W = .ok none W:=by
 simp only [Instr.findKey,kA2,kA9 Ij,kA1,oF,nk n l 0 0 h,kA3]
theorem tB (W:World)(em:Bool)(n:Int):(Instr.checkKey em 10000 3 (.int .i64 n)).run Tryz.prog W = .ok () W:=by
 show (Instr.checkKey em (9999+1) 3 (.int .i64 n)).run Tryz.prog W = .ok () W
 rw [Instr.checkKey]
 simp only [kA2,kA9 Ij,kA1]
 rfl
theorem icU:Tryz.prog.underlying 140=some (.map 3 36):=by kernel_rfl
theorem Dn (W:World):(zeroValue 36).run Tryz.prog W = .ok (cbV Cb.zero) W:=by kernel_rfl
theorem nG {w:World}{ops:Array Oper}{rest:List Oper}{o:Oper}{a:Act}{Q:Exit->Act->World->Prop}(hgd:o.guard=none)(x k:Operand)(ho:o.op = .lookup 140 x k true)
  (mb n:Nat) (l:List (Nat × Cb)) (c:Nat) (hx:a.eval x = .map (some mb)) (hk:a.eval k = .int .i64 (n:Int)) (hh:w.heap[mb]?=some (.map (oF l) c)) (hf:∀e∈l,e.1≠n)
  (h:wpList Tryz.prog ops Q rest (a.put o.dst (.tuple #[.agg #[.int .u64 0,.int .u64 0,.int .u64 0,.int .u64 0],.bool false])) w):wpList Tryz.prog ops Q (o::rest) a w :=
 kB1 hgd fun K hK=>by
  unfold Oper.wp
  have e:(execOp a.eval o).run Tryz.prog w = .ok (.value (.tuple #[.agg #[.int .u64 0,.int .u64 0,.int .u64 0,.int .u64 0],.bool false])) w:=by
   simp only [execOp,ho,Instr.lookup,kA2,kA9 icU,kA1,hx,hk,MapKept.run_getObj_map hh,kA3,tB,v7 w n l hf,Dn]
   rfl
  rw [e]
  exact hK _ _ h
theorem ox {w:World}{ops:Array Oper}{rest:List Oper}{o:Oper}{a:Act}{Q:Exit->Act->World->Prop}(hgd:o.guard=none)(x k v:Operand)(ho:o.op = .mapUpdate 140 x k v)
  (mb n:Nat) (l:List (Nat × Cb)) (c:Cb) (hx:a.eval x = .map (some mb)) (hk:a.eval k = .int .i64 (n:Int)) (hv:a.eval v=cbV c) (hh:w.heap[mb]?=some (.map (oF l) l.length)) (hf:∀e∈l,e.1≠n)
  (h:∀w',w'.heap[mb]?=some (.map (oF (l++[(n,c)])) (l++[(n,c)]).length)->Kp (fun b=>b=mb) w w'->wpList Tryz.prog ops Q rest (a.put o.dst undef) w'):wpList Tryz.prog ops Q (o::rest) a w :=
 kB1 hgd fun K hK=>by
  unfold Oper.wp
  have hpush:=yd l (n,c)
  simp only at hpush
  have e:(execOp a.eval o).run Tryz.prog w = .ok .skip { w with heap:=w.heap.setIfInBounds mb (.map (oF (l++[(n,c)])) (l++[(n,c)]).length) }:=by
   simp only [execOp,ho,Instr.mapUpdate,kA2,kA9 icU,kA1,hx,hk,hv,MapKept.run_getObj_map hh,kA3,tB,v7 w n l hf,MapKept.run_setObj_map _ hh,hpush]
   rw [qK,vP]
  rw [e]
  have hlt:=(qI.1 hh).1
  refine hK _ _ (h _ ?_ ⟨rfl,rfl,rfl,by simp,fun k hk hn=>?_⟩)
  ·simp only [Array.getElem?_setIfInBounds,if_true,if_pos hlt]
  ·simp only [Array.getElem?_setIfInBounds,if_neg fun e=>hn (Eq.symm e)]
theorem gP {P:Program}{id:Nat}{Q:Exit->Act->World->Prop}{a:Act}{w:World}{l:List Oper}(n:Nat)(hm:P.follows .mixedOrders=true)(hB:Region.lexTailB .any l.toArray n=true)
  (h:∀w',Kp No w w'->wpStill P l.toArray w' (fun a'=>wpList P l.toArray Q (l.drop n) a' w') (l.take n) a):(Code.region id l.toArray true).wp P Q a w :=
 wp_region_still_tail n hm hB (h _ ⟨rfl,rfl,rfl,qJ _,fun _ _ _=>rfl⟩)
theorem TrW.keepM {w w':World}{B mb k:Nat}{T:TS}{ex:Value}{es:Array MapEntry}(h:TrW w B T ex)(hm:w.heap[mb]?=some (.map es k))(hk:Kp (fun b=>b=mb) w w'):TrW w' B T ex where
 node p b hp:=⟨(h.node p b hp).1,(hk.block b (h.lt hp) (fun e=>by
  have h1:=(h.node p b hp).2
  rw [e,hm] at h1
  cases h1)).trans (h.node p b hp).2⟩
 own p b hp:=by
  refine gi (h.own p b hp) fun g hg=>hk.block g ((h.own p b hp).lt g hg).2 fun e=>?_
  rcases (h.own p b hp).2 with⟨hv,_⟩|⟨g',cap,cur,hv,_,hg',_⟩
  ·rw [hv] at hg
   cases hg
  ·rw [hv] at hg
   obtain rfl:g'=g:=qB hg
   rw [e,hm] at hg'
   cases hg'
 inj:=h.inj
 rows:=h.rows
 up:=h.up
theorem Gk:∃i0,Tryz.prog.info? 3=some i0/\i0.zero=some (.int .i64 0)/\i0.size=1/\i0.bytes=8:=info_parts (show (Tryz.prog.info? 3).map (fun i=>(i.zero,i.size,i.bytes))=some (some (.int .i64 0),1,8) by kernel_rfl)
theorem F5:Tryz.prog.underlying 51=some (.slice 3):=by kernel_rfl
structure TrL (w:World)(B r mb:Nat)(l:List (Nat × Cb))(T:TS):Prop where
 tr:TrW w B T (.map (some mb))
 root:T.nd []=some r
 map:w.heap[mb]?=some (.map (oF l) l.length)
 mlo:mb<B
 nd:∀p,(T.nd p).isSome=true↔nJ l p
 ids:∀p,T.ids p=jr l p
theorem TrL.no {w:World}{B r mb:Nat}{l:List (Nat × Cb)}{T:TS}(h:TrL w B r mb l T)(p:List Nat)(hn:T.nd p=none):T.ids p=[]:=by
 rw [h.ids,jr,List.map_eq_nil_iff,List.filter_eq_nil_iff]
 intro e he hp
 have:=(h.nd p).2 (.inr ⟨e,he,be e.2,qJ _,iq e.2,of_decide_eq_true hp⟩)
 rw [hn] at this
 cases this
set_option maxHeartbeats 4000000 in
theorem Fh (w:World)(B r mb:Nat)(l:List (Nat × Cb))(T0:TS)(d:Nat)(c:Cb)(h:TrL w B r mb l T0)(hc:c.sound = true)(hid:∀ e ∈ l,e.1 ≠ d)(hl:l.length <= 1000000000)(hB:B <= w.heap.size) :
  Calls Tryz.prog 58 #[.pointer (some ⟨r,0,none⟩),.int .i64 d,cbV c] w fun e w'=>e = .returned (.int .i64 0)/\∃T,TrL w' B r mb (l++[(d,c)]) T/\Kp (Or (fun k=>k=mb) B) w w':=by
 have hrl:=h.tr.lt h.root
 have hmap:=h.map
 have hml:=(qI.1 h.map).1
 have cex:w.cell? ⟨r,4,none⟩=some (.map (some mb)):=af (h.tr.node [] r h.root).2 rfl
 have H:=kA4 h
 have Hid:=kA4 hid
 have HB:=kA4 hB
 have Hl:=kA4 hl
 have hsnd:=(aV c true hc)
 have Hsnd:=kA4 (fun (W:World)=>hsnd.calls W (fun _=>False) [cbV c] rfl (aQ (gN _ _ _) cP) (fun _ h=>h.elim) (eT _ _))
 clear h hid hB hl hsnd
 unfold cbV
 go_enter Tryz.func58,Tryz.ntmps58
 go_wp2_with fail
 refine (Hsnd.out _).mono ?_
 rintro e W1 ⟨v,rfl,hk1,hp⟩
 obtain rfl:v = .bool true:=aD rfl hp
 have Hk1:=kA4 (((Kp.refl No w).alloc _).trans hk1)
 have Hmap:=kA4 ((Hk1.out.block mb hml (aF _)).trans hmap)
 have Hbox:=kA4 ((hk1.block _ (by simp) (aF _)).trans (kA5 w _))
 have Htr:=kA4 (H.out.tr.keep fun k hk=>Hk1.out.block k hk (aF _))
 clear hk1 hp hmap Hsnd cex
 have cex:W1.cell? ⟨r,4,none⟩=some (.map (some mb)):=af (Htr.out.node [] r H.out.root).2 rfl
 go_wp2_with (at_lookup;refine nG rfl _ _ rfl mb d l _ rfl rfl Hmap.out Hid.out ?_)
 refine gP 6 (by kernel_rfl) (by kernel_rfl) fun W2 hk2=>?_
 have Hk12:=kA4 (((Kp.refl No W1).alloc _).trans hk2)
 have Hk2:=kA4 (Hk1.out.trans Hk12.out)
 have Hmap2:=kA4 (Hk12.out.heap Hmap.out (aF _))
 have Hbox2:=kA4 (Hk12.out.heap Hbox.out (aF _))
 have Htr2:=kA4 (Htr.out.keep fun k hk=>Hk12.out.block k hk (aF _))
 clear hk2 cex
 have cex:W2.cell? ⟨r,4,none⟩=some (.map (some mb)):=af (Htr2.out.node [] r H.out.root).2 rfl
 have c0:W2.cell? ⟨w.heap.size,0,none⟩=some (.int .u64 c.value.hi.toNat):=af Hbox2.out rfl
 have c1:W2.cell? ⟨w.heap.size,1,none⟩=some (.int .u64 c.value.lo.toNat):=af Hbox2.out rfl
 have c2:W2.cell? ⟨w.heap.size,2,none⟩=some (.int .u64 c.care.hi.toNat):=af Hbox2.out rfl
 have c3:W2.cell? ⟨w.heap.size,3,none⟩=some (.int .u64 c.care.lo.toNat):=af Hbox2.out rfl
 simp only [List.take_succ_cons,List.take_zero,List.drop_succ_cons,uR]
 repeat still_step
 refine wpStill_nil ?_
 clear cex c0 c1 c2 c3
 go_wp2_with (at_mapUpdate;refine ox rfl _ _ _ rfl mb d l c rfl rfl rfl Hmap2.out Hid.out ?_;intro W3 hm3 hk3;have Hm3:=kA4 hm3;have Hk3:=kA4 hk3;have Htr3:=kA4 (Htr2.out.keepM Hmap2.out hk3);have Hbox3:=kA4 (hk3.heap Hbox2.out (Nat.ne_of_gt hml));clear hm3 hk3;have c0:W3.cell? ⟨w.heap.size,0,none⟩=some (.int .u64 c.value.hi.toNat):=af Hbox3.out rfl;have c1:W3.cell? ⟨w.heap.size,1,none⟩=some (.int .u64 c.value.lo.toNat):=af Hbox3.out rfl;have c2:W3.cell? ⟨w.heap.size,2,none⟩=some (.int .u64 c.care.hi.toNat):=af Hbox3.out rfl;have c3:W3.cell? ⟨w.heap.size,3,none⟩=some (.int .u64 c.care.lo.toNat):=af Hbox3.out rfl)
 have HB3:B<=W3.heap.size:=vH (vH HB.out Hk2.out.size) Hk3.out.size
 refine (AM W3 B T0 (.map (some mb)) r c Htr3.out H.out.root H.out.no HB3).mono ?_
 rintro e W4 ⟨T,b,rfl,hP⟩
 have HP:=kA4 hP
 clear hP c0 c1 c2 c3
 have hbl:=HP.out.tr.lt HP.out.at_
 have ci:=HP.out.tr.idc HP.out.at_
 have cf:=HP.out.tr.frz HP.out.at_ 3
 have Hown:=kA4 (HP.out.tr.own _ b HP.out.at_)
 obtain⟨p,hp⟩:∃p,cW c (be c)=p:=⟨_,rfl⟩
 rw [hp] at ci Hown
 have Hp:=kA4 hp
 obtain⟨v0,hv0⟩:∃v0,T.idv p=v0:=⟨_,rfl⟩
 rw [hv0] at ci Hown
 have Hv0:=kA4 hv0
 have hn0:(T.ids p).length<=1000000000:=by
  rw [HP.out.ids,H.out.ids]
  exact vH (by unfold jr;rw [qG];exact List.length_filter_le _ _) Hl.out
 have Hn0:=kA4 hn0
 clear hp hv0 hn0 HB3
 obtain⟨i0,hi,hz0,hz1,hz2⟩:=Gk
 have Hbig:=kA4 (show B<=W4.heap.size from vH (vH (vH HB.out Hk2.out.size) Hk3.out.size) HP.out.bel.size)
 have HtrA:=kA4 (HP.out.tr.keep (w':=W4.alloc (.cells #[.int .i64 (d:Int)] 3)) fun k hk=>heap_alloc_old _ _ hk)
 have Hat:=kA4 HP.out.at_
 go_wp2_with (at_builtin;refine eD rfl _ _ 51 rfl B 3 i0 (.int .i64 0) 1 8 F5 hi hz0 hz1 hz2 rfl (by decide) v0 _ _ rfl (Hown.out.alloc _) ⟨W4.heap.size,0,none⟩ 1 1 [.int .i64 (d:Int)] rfl rfl ?c1 ?c2 ?c3 ?c4 ?c5 ?_)
 case c1=>
  intro j u hj
  match j,hj with
  |0,hj=>simp at hj;subst hj;simp [Addr.add]
 case c2=>intro u hu;simp at hu;subst hu;rfl
 case c3=>have:=Hn0.out;unfold maxLen;omega
 case c4=>have:=Hn0.out;omega
 case c5=>have:=Hbig.out;simp;omega
 intro v' W5 hown5 hgrow5 hnew5
 have hb5:W5.heap[b]?=W4.heap[b]?:=by
  rw [hgrow5.block b (by simp;omega) (fun e=>by
   have:=HP.out.tr.apart Hat.out (Hp.out ▸ Hat.out:T.nd p=some b)
   rw [Hv0.out] at this
   exact this e.symm),heap_alloc_old _ _ hbl]
 have d3:W5.cell? ⟨b,3,none⟩=some v0:=(kA7 (a:=⟨b,3,none⟩) hb5).trans ci
 have f5:W5.frozen? ⟨b,3,none⟩=false:=(World.frozen?_of_block (a:=⟨b,3,none⟩) hb5).trans cf
 obtain⟨g,cap,rfl⟩:∃g cap,v' = .slice (some ⟨g,0,none⟩) ((T.ids p).length+1) cap:=by
  rcases hown5.2 with⟨_,h0⟩|⟨g,cap,cur,hv,_⟩
  ·exact absurd h0 (Nat.succ_ne_zero _)
  ·exact⟨g,cap,hv⟩
 have Hown5:=kA4 hown5
 have Hgrow5:=kA4 hgrow5
 have Hnew5:=kA4 hnew5
 clear hb5 hown5 hgrow5 hnew5 cf ci
 go_wp2_with fail
 go_ret
 have hatp:T.nd p=some b:=by rw [<- Hp.out];exact Hat.out
 have htr:=HtrA.out.put (i:=d) (v:=.slice (some ⟨g,0,none⟩) ((T.ids p).length+1) cap) hatp (by rw [Hv0.out];exact Hgrow5.out) (by rw [idC,uB];exact Hown5.out) (by
  rw [Hv0.out]
  rcases Hnew5.out with h|h
  ·exact .inl h
  ·exact .inr fun g hg=>by
    rw [h] at hg
    obtain rfl:=qB hg
    simp)
 have hbB:=(HP.out.tr.node p b hatp).1
 have hkp:Kp (Or (fun k=>k=mb) B) w (W5.setCell ⟨b,3,none⟩ (.slice (some ⟨g,0,none⟩) ((T.ids p).length+1) cap)):=by
  have k1:Kp (Or (fun k=>k=mb) B) w W3:=(Hk2.out.mono fun _ _ h=>h.elim).trans (Hk3.out.mono fun _ _ h=>.inl h)
  have k2:Kp (Or (fun k=>k=mb) B) W3 W4:=⟨HP.out.bel.os,HP.out.bel.tape,HP.out.bel.output,HP.out.bel.size,fun k _ hn=>HP.out.bel.block k (by unfold Or at hn;omega)⟩
  refine (((k1.trans k2).alloc _).grown Hgrow5.out fun k hk=>.inl (.inr ?_)).setCell (.inl (.inr hbB)) _
  exact (Hown.out.lt k hk).1
 refine⟨rfl,T.put p (.slice (some ⟨g,0,none⟩) ((T.ids p).length+1) cap) d,⟨htr,HP.out.old [] r H.out.root,?_,H.out.mlo,fun q=>?_,fun q=>?_⟩,hkp⟩
 ·have e1:mb≠b:=by have:=H.out.mlo;omega
  rw [heap_setCell_other _ _ _ _ e1,Hgrow5.out.block mb (by have:=H.out.mlo;have:=Hbig.out;simp;omega) (fun e=>by
   have:=(Hown.out.lt mb e.symm).1
   have:=H.out.mlo
   omega),heap_alloc_old _ _ (by have:=H.out.mlo;have:=Hbig.out;omega),HP.out.bel.block mb H.out.mlo]
  exact Hm3.out
 ·show (T.nd q).isSome=true↔_
  rw [HP.out.more q,H.out.nd q]
  unfold nJ
  constructor
  ·rintro ((h|⟨e,he,h⟩)|⟨m',h1,h2,rfl⟩)
   ·exact .inl h
   ·exact .inr ⟨e,by simp [he],h⟩
   ·exact .inr ⟨(d,c),by simp,m',h1,h2,rfl⟩
  ·rintro (h|⟨e,he,h⟩)
   ·exact .inl (.inl h)
   ·rcases vB.1 he with he|he
    ·exact .inl (.inr ⟨e,he,h⟩)
    ·obtain rfl:=qP.1 he
     obtain⟨m',h1,h2,h3⟩:=h
     exact .inr ⟨m',h1,h2,h3.symm⟩
 ·show (if q=p then T.ids q++[d] else T.ids q)=_
  have e1:jr (l++[(d,c)]) q=jr l q++if cW c (be c)=q then [d] else []:=by
   unfold jr
   rw [List.filter_append,uB]
   by_cases h:cW c (be c)=q <;> simp [h]
  rw [e1,Hp.out,HP.out.ids,H.out.ids]
  by_cases h:q=p
  ·subst h
   rw [if_pos rfl,if_pos rfl]
  ·rw [if_neg h,if_neg (fun e=>h e.symm),uA]
def TS.new (r:Nat):TS:=⟨fun p=>if p=[] then some r else none,fun _=>.slice none 0 0,fun _=>[]⟩
set_option maxHeartbeats 2000000 in
theorem GG (w:World):Calls Tryz.prog 57 #[] w fun e w'=>∃B r mb T,e = .returned (.pointer (some ⟨r,0,none⟩))/\w.heap.size<=mb/\TrL w' B r mb [] T/\Kp No w w'/\B<=w'.heap.size:=by
 have hmk:∀W:World,(Instr.makeMap 140 none).run Tryz.prog W = .ok (.map (some W.heap.size)) (W.alloc (.map #[] 0)):=fun W=>by
  simp only [Instr.makeMap,newObj,Option.map_none,kA2,kA3,kA1,Sem.run,World.alloc]
 go_enter Tryz.func57,Tryz.ntmps57
 go_wp2_with fail
 go_ret
 refine⟨w.heap.size+1,w.heap.size+1,w.heap.size,TS.new (w.heap.size+1),rfl,qJ _,⟨?_,rfl,?_,Nat.lt_succ_self _,fun p=>?_,fun p=>rfl⟩,((Kp.refl No w).alloc _).alloc _,?_⟩
 ·have hnd:∀ p b,(TS.new (w.heap.size + 1)).nd p = some b -> p = [] /\ b = w.heap.size + 1 := fun p b h=>by
   unfold TS.new at h
   simp only at h
   split at h
   ·rename_i e
    exact⟨e,(qB h).symm⟩
   ·cases h
  refine⟨fun p b h=>?_,fun p b h=>⟨by simp [idC,TS.new],.inl ⟨rfl,rfl⟩⟩,fun p q b h1 h2=>(hnd p b h1).1.trans (hnd q b h2).1.symm,fun p q b c _ _ _=>.inl rfl,fun k p h=>?_⟩
  ·obtain⟨rfl,rfl⟩:=hnd p b h
   refine⟨qJ _,?_⟩
   have e:w.heap.size+1=(w.alloc (.map #[] 0)).heap.size:=by simp
   rw [e,kA5]
   rfl
  ·exact absurd h (by simp [TS.new])
 ·rw [heap_alloc_old _ _ (by simp),kA5]
  rfl
 ·unfold TS.new nJ
  by_cases h:p=[] <;> simp [h]
 ·simp
def bP (l:List Rl):List (Nat × Cb):=l.zipIdx.map fun e=>(e.2,e.1.mat)
theorem yz (l:List Rl)(x:Rl):bP (l++[x])=bP l++[(l.length,x.mat)]:=by
 simp [bP,List.zipIdx_append]
theorem tD (l:List Rl):(bP l).length=l.length:=by simp [bP]
theorem C8 {l:List Rl}{e:Nat × Cb}(h:e∈bP l):e.1<l.length:=by
 unfold bP at h
 obtain⟨x,hx,rfl⟩:=vI.1 h
 have:=List.mem_zipIdx hx
 omega
theorem mZ {W:World}{F:Nat->Prop}{els:List (List AV)}{A:Option Addr}{n c k:Nat}{x:AV}(h:au W F (.sl els) (.slice A n c))(hk:els[k]?=some [x]) :
  ∃b off v,A=some ⟨b,off,none⟩/\F b/\W.cell? ⟨b,off+k,none⟩=some v/\au W F x v:=by
 cases h with
 |sl _ _ _ m b off cell hc hm hA hl h1 hr hw=>
  have hp:0<els.length:=by have:=(qD.1 hk).1;omega
  obtain⟨rfl,hF,hb⟩:=hA hp
  obtain rfl:m=1:=(hl k _ hk).symm
  have h2:=hw k _ 0 x hk rfl
  rw [Nat.mul_one,Nat.add_zero] at h2
  exact⟨b,off,cell k 0,rfl,hF,h2,hr k _ 0 x hk rfl⟩
theorem va {W:World}{F:Nat->Prop}{els:List (List AV)}{v:Value}(h:au W F (.sl els) v):els.length<=maxLen:=by
 obtain⟨_,_,_,h1,h2⟩:=b9 h
 omega
def rlV (x:Rl):List Value:=[.int .i64 x.prio,.int .u64 x.mat.value.hi.toNat,.int .u64 x.mat.value.lo.toNat,.int .u64 x.mat.care.hi.toNat,.int .u64 x.mat.care.lo.toNat,.int .i64 x.act.kind,.int .i64 x.act.port,.int .i64 x.act.table,.int .u64 x.act.set.value.hi.toNat,.int .u64 x.act.set.value.lo.toNat,.int .u64 x.act.set.care.hi.toNat,.int .u64 x.act.set.care.lo.toNat]
theorem GY {W:World}{F:Nat->Prop}{l:List Rl}{A:Option Addr}{n c k:Nat}{x:Rl}(h:au W F (.sl (l.map cRl)) (.slice A n c))(hx:l[k]?=some x) :
  ∃b off,A=some ⟨b,off,none⟩/\F b/\∀j v,(rlV x)[j]?=some v->W.cell? ⟨b,off+k*12+j,none⟩=some v:=by
 generalize hels:l.map cRl=els at h
 cases h with
 |sl _ _ _ m b off cell hc hm hA hl h1 hr hw=>
  have hk:els[k]?=some (cRl x):=by rw [<- hels,qF,hx];rfl
  have hp:0<els.length:=by have:=(qD.1 hk).1;omega
  obtain⟨rfl,hF,hb⟩:=hA hp
  obtain rfl:m=12:=(hl k _ hk).symm
  refine⟨b,off,rfl,hF,fun j v hj=>?_⟩
  have g:∀(j:Nat) (y:AV),(cRl x)[j]?=some y->W.cell? ⟨b,off+(k*12+j),none⟩=some (cell k j)/\au W F y (cell k j):=fun j y hj=>⟨hw k _ j y hk hj,hr k _ j y hk hj⟩
  rw [Nat.add_assoc]
  have hlt:j<12:=(qD.1 hj).1
  match j,hlt with
  |0,_=>obtain⟨e,q⟩:=g 0 _ rfl;rw [e,aD rfl q];exact hj
  |1,_=>obtain⟨e,q⟩:=g 1 _ rfl;rw [e,aD rfl q];exact hj
  |2,_=>obtain⟨e,q⟩:=g 2 _ rfl;rw [e,aD rfl q];exact hj
  |3,_=>obtain⟨e,q⟩:=g 3 _ rfl;rw [e,aD rfl q];exact hj
  |4,_=>obtain⟨e,q⟩:=g 4 _ rfl;rw [e,aD rfl q];exact hj
  |5,_=>obtain⟨e,q⟩:=g 5 _ rfl;rw [e,aD rfl q];exact hj
  |6,_=>obtain⟨e,q⟩:=g 6 _ rfl;rw [e,aD rfl q];exact hj
  |7,_=>obtain⟨e,q⟩:=g 7 _ rfl;rw [e,aD rfl q];exact hj
  |8,_=>obtain⟨e,q⟩:=g 8 _ rfl;rw [e,aD rfl q];exact hj
  |9,_=>obtain⟨e,q⟩:=g 9 _ rfl;rw [e,aD rfl q];exact hj
  |10,_=>obtain⟨e,q⟩:=g 10 _ rfl;rw [e,aD rfl q];exact hj
  |11,_=>obtain⟨e,q⟩:=g 11 _ rfl;rw [e,aD rfl q];exact hj
def cG (c:Cf):List Rl:=c.tables.flatMap fun t=>t.flatMap id
theorem i3 {α β:Type}(f:α->List β){L:List α}{k:Nat}{x:α}(h:L[k]?=some x):(L.take (k+1)).flatMap f=(L.take k).flatMap f++f x:=by
 rw [List.take_add_one,h]
 simp
theorem pP {α β:Type}(f:α->List β){L:List α}{k:Nat}{x:α}(h:L[k]?=some x):∃r,L.flatMap f=(L.take k).flatMap f++f x++r:=by
 refine⟨(L.drop (k+1)).flatMap f,?_⟩
 rw [<- i3 f h,<- List.flatMap_append,uU]
theorem pz {α:Type}{L:List α}{k:Nat}{x:α}(h:L[k]?=some x):L.take (k+1)=L.take k++[x]:=by
 rw [List.take_add_one,h]
 rfl
def iH (c:Cf)(k:Nat):List Rl:=(c.tables.take k).flatMap fun t=>t.flatMap id
theorem DD {c:Cf}{k j i:Nat}{t:List (List Rl)}{l:List Rl}{x:Rl}(hk:c.tables[k]?=some t)(hj:t[j]?=some l)(hi:l[i]?=some x) :
  x∈cG c/\(iH c k++(t.take j).flatMap id++l.take i).length<(cG c).length:=by
 obtain⟨r1,e1⟩:=pP (fun t:List (List Rl)=>t.flatMap id) hk
 obtain⟨r2,e2⟩:=pP (id:List Rl->List Rl) hj
 have e:cG c=iH c k++(t.take j).flatMap id++l++(r2++r1):=by
  unfold cG iH
  rw [e1,e2]
  simp
 have hlt:=(qD.1 hi).1
 refine⟨?_,?_⟩
 ·rw [e]
  simp [qN hi]
 ·rw [e]
  simp only [qK,vG]
  omega
theorem TrL.keep {w w':World}{B r mb:Nat}{l:List (Nat × Cb)}{T:TS}(h:TrL w B r mb l T)(hk:∀k,k<w.heap.size->w'.heap[k]?=w.heap[k]?):TrL w' B r mb l T :=
 ⟨h.tr.keep hk,h.root,(hk mb (qI.1 h.map).1).trans h.map,h.mlo,h.nd,h.ids⟩
structure InI (B r mb:Nat)(W1 wr:World)(l:List Rl):Prop where
 tr:∃T,TrL wr B r mb (bP l) T
 kp:Kp (Or (fun k=>k=mb) B) W1 wr
set_option maxHeartbeats 4000000 in
theorem A7 (w:World)(F:Nat -> Prop)(c:Cf)(tp pe wy:Value)(A:Option Addr)(cap:Nat)(hF:∀ b,F b -> b < w.heap.size)(hT:au w F (.sl (c.tables.map bY)) (.slice A c.tables.length cap))(hs:∀ r ∈ cG c,r.mat.sound = true)(hl:(cG c).length <= 1000000000) :
  Calls Tryz.prog 27 #[.agg #[tp,.int .i64 c.pol.tenants,pe,wy,.slice A c.tables.length cap]] w fun e w'=>∃B r mb T,e = .returned (.pointer (some ⟨r,0,none⟩))/\w.heap.size<=mb/\TrL w' B r mb (bP (cG c)) T/\Kp No w w':=by
 have HT:=kA4 hT
 have m1:=va hT
 rw [qG] at m1
 unfold maxLen at m1
 have Hs:=kA4 hs
 have Hl:=kA4 hl
 have HF:=kA4 hF
 clear hT hs hl hF
 go_enter Tryz.func27,Tryz.ntmps27
 go_wp2_with fail
 refine (GG _).mono ?_
 rintro e W1 ⟨B,r,mb,T0,rfl,hmb,hT0,hk1,hB1⟩
 have hbx:=hk1.heap (kA5 w _) (aF _)
 replace hmb:w.heap.size+1<=mb:=by simpa using hmb
 have HT0:=kA4 hT0
 have Hk1:=kA4 (((Kp.refl No w).alloc _).trans hk1)
 have HB1:=kA4 hB1
 have Hmb:=kA4 hmb
 have HmB:=kA4 hT0.mlo
 have c4:W1.cell? ⟨w.heap.size,4,none⟩=some (.slice A c.tables.length cap):=af hbx rfl
 -- what every later world keeps
 have Kw:=kA4 (fun (wr:World) (hk:Kp (Or (fun k=>k=mb) B) W1 wr) (b:Nat) (hb:F b)=>show wr.heap[b]?=w.heap[b]? from
  (hk.block b (vK (HF.out b hb) Hk1.out.size) (by unfold Or;have:=Hmb.out;have:=HmB.out;have:=HF.out b hb;omega)).trans (Hk1.out.block b (HF.out b hb) (aF _)))
 clear hbx hT0 hk1 hB1 hmb
 go_wp2_with fail
 go_loopw [4,15] (fun n i wr=>∃k,k<=c.tables.length/\i = .int .i64 (k:Nat)/\n = .int .i64 ((iH c k).length:Nat)/\InI B r mb W1 wr (iH c k)) (fun _ i _=>c.tables.length-(intOf i).toNat)
 case atStart=>exact⟨0,qR _,rfl,rfl,⟨T0,HT0.out⟩,Kp.refl _ _⟩
 case round=>
  obtain⟨k,hk,rfl,rfl,hI⟩:=hrel
  have HI:=kA4 hI
  clear hI
  by_cases hlt:k<c.tables.length
  ·have hkt:c.tables[k]?=some c.tables[k]:=qA hlt
   generalize c.tables[k]=t at hkt
   obtain⟨b,off,v,rfl,hFb,ck,hv⟩:=mZ HT.out (by rw [qF,hkt];rfl)
   obtain⟨A2,c2,rfl,hle2,hmx2⟩:=b9 hv
   rw [qG] at ck
   replace ck:wr.cell? ⟨b,off+k,none⟩=_:=(kA7 (a:=⟨b,off+k,none⟩) (Kw.out _ HI.out.kp b hFb)).trans ck
   have q1:(k:Int)<(c.tables.length:Int):=by omega
   have Hv:=kA4 (show au w F (.sl (t.map bp)) (.slice A2 t.length c2) by simpa using hv)
   have Hkt:=kA4 hkt
   have m2:t.length<=maxLen:=by rw [qG] at hle2;omega
   unfold maxLen at m2
   clear hv hkt hlt hle2 hmx2 hFb
   go_wp2_with fail
   clear ck
   go_loopw [4,21] (fun n i wr=>∃j,j<=t.length/\i = .int .i64 (j:Nat)/\n = .int .i64 ((iH c k++(t.take j).flatMap id).length:Nat)/\InI B r mb W1 wr (iH c k++(t.take j).flatMap id)) (fun _ i _=>t.length-(intOf i).toNat)
   case atStart=>exact⟨0,qR _,rfl,by simp,by simpa using HI.out⟩
   case round=>
    obtain⟨j,hj,rfl,rfl,hI⟩:=hrel
    have HI:=kA4 hI
    clear hI
    by_cases hlt:j<t.length
    ·have hjt:t[j]?=some t[j]:=qA hlt
     generalize t[j]=l at hjt
     obtain⟨b2,off2,v2,rfl,hFb,ck,hv⟩:=mZ Hv.out (by rw [qF,hjt];rfl)
     obtain⟨A3,c3,rfl,hle3,hmx3⟩:=b9 hv
     rw [qG] at ck
     replace ck:wr.cell? ⟨b2,off2+j,none⟩=_:=(kA7 (a:=⟨b2,off2+j,none⟩) (Kw.out _ HI.out.kp b2 hFb)).trans ck
     have q2:(j:Int)<(t.length:Int):=by omega
     have Hu:=kA4 (show au w F (.sl (l.map cRl)) (.slice A3 l.length c3) by simpa using hv)
     have Hjt:=kA4 hjt
     have m3:l.length<=maxLen:=by rw [qG] at hle3;omega
     unfold maxLen at m3
     clear hv hjt hlt hle3 hmx3 hFb
     go_wp2_with fail
     clear ck
     go_loopw [4,27] (fun n i wr=>∃e,e<=l.length/\i = .int .i64 (e:Nat)/\n = .int .i64 ((iH c k++(t.take j).flatMap id++l.take e).length:Nat)/\InI B r mb W1 wr (iH c k++(t.take j).flatMap id++l.take e)) (fun _ i _=>l.length-(intOf i).toNat)
     case atStart=>exact⟨0,qR _,rfl,by simp,by simpa using HI.out⟩
     case round=>
      obtain⟨e,he,rfl,rfl,hI⟩:=hrel
      have HI:=kA4 hI
      clear hI
      by_cases hlt:e<l.length
      ·have het:l[e]?=some l[e]:=qA hlt
       generalize l[e]=x at het
       obtain⟨b3,off3,rfl,hFb,hc⟩:=GY Hu.out het
       have ce:∀(j:Nat) (v:Value),(rlV x)[j]?=some v->wr.cell? ⟨b3,off3+e*12+j,none⟩=some v:=fun j v hj=>(kA7 (a:=⟨b3,off3+e*12+j,none⟩) (Kw.out _ HI.out.kp b3 hFb)).trans (hc j v hj)
       have e0:=ce 0 _ rfl
       have e1:=ce 1 _ rfl
       have e2:=ce 2 _ rfl
       have e3:=ce 3 _ rfl
       have e4:=ce 4 _ rfl
       have e5:=ce 5 _ rfl
       have e6:=ce 6 _ rfl
       have e7:=ce 7 _ rfl
       have e8:=ce 8 _ rfl
       have e9:=ce 9 _ rfl
       have e10:=ce 10 _ rfl
       have e11:=ce 11 _ rfl
       rw [Nat.add_zero] at e0
       have q3:(e:Int)<(l.length:Int):=by omega
       have Het:=kA4 het
       clear ce hc het hlt hFb
       obtain⟨nn,hnn⟩:∃nn,nn=(iH c k++(t.take j).flatMap id++l.take e).length:=⟨_,rfl⟩
       rw [<- hnn]
       have Hnn:=kA4 hnn
       clear hnn
       go_wp2_with fail
       obtain⟨T,hT⟩:=HI.out.tr
       have hat:=DD Hkt.out Hjt.out Het.out
       have hnl:=hat.2
       rw [<- Hnn.out] at hnl
       have HTa:=kA4 (hT.keep (w':=wr.alloc (.cells (rlV x).toArray 57)) fun k hk=>heap_alloc_old _ _ hk)
       clear hT
       refine (Fh _ B r mb _ T nn x.mat HTa.out (Hs.out x hat.1) (fun y hy=>by have:=C8 hy;have:=Hnn.out;omega) (by rw [tD,<- Hnn.out];have:=Hl.out;omega) (by have:=HB1.out;have:=HI.out.kp.size;simp;omega)).mono ?_
       clear hat
       rintro er W2 ⟨rfl,T2,hT2,hk2⟩
       have HT2:=kA4 hT2
       have Hk2:=kA4 (((HI.out.kp).alloc _).trans hk2)
       have hnm:nn<1000000000:=vK hnl Hl.out
       clear hT2 hk2 e0 e1 e2 e3 e4 e5 e6 e7 e8 e9 e10 e11
       go_wp2_with fail
       go_roundw
       case rel=>
        refine⟨e+1,by omega,by go_num,?_,?_⟩
        ·rw [pz Het.out,<- uK,qK,<- Hnn.out]
         show _=Value.int .i64 ((nn+1:Nat):Int)
         go_num
        ·rw [pz Het.out,<- uK]
         refine⟨⟨T2,?_⟩,Hk2.out⟩
         rw [yz,<- Hnn.out]
         exact HT2.out
       case measure=>simp [intOf];omega
      ·have q3:¬(e:Int)<(l.length:Int):=by omega
       obtain rfl:e=l.length:=by omega
       rw [vL (qJ _)] at HI
       rw [vL (qJ _)]
       go_wp2_with fail
       go_roundw
       case rel=>
        have e1:iH c k++(t.take (j+1)).flatMap id=iH c k++(t.take j).flatMap id++l:=by
         rw [i3 _ Hjt.out,uK]
         rfl
        refine⟨j+1,by omega,by go_num,?_,?_⟩
        ·rw [e1]
        ·rw [e1]
         exact HI.out
       case measure=>simp [intOf];omega
    ·have q2:¬(j:Int)<(t.length:Int):=by omega
     obtain rfl:j=t.length:=by omega
     rw [vL (qJ _)] at HI
     rw [vL (qJ _)]
     go_wp2_with fail
     go_roundw
     case rel=>
      have e1:iH c (k+1)=iH c k++t.flatMap id:=by
       unfold iH
       rw [i3 _ Hkt.out]
      refine⟨k+1,by omega,by go_num,?_,?_⟩
      ·rw [e1]
      ·rw [e1]
       exact HI.out
     case measure=>simp [intOf];omega
  ·have q1:¬(k:Int)<(c.tables.length:Int):=by omega
   obtain rfl:k=c.tables.length:=by omega
   have e1:iH c c.tables.length=cG c:=by
    unfold iH cG
    rw [vL (qJ _)]
   rw [e1] at HI
   rw [e1]
   clear e1
   go_wp2_with fail
   go_ret
   obtain⟨T,hT⟩:=HI.out.tr
   refine⟨B,r,rfl,mb,by have:=Hmb.out;omega,⟨T,hT⟩,Hk1.out.trans2 HI.out.kp fun g hg h=>?_⟩
   unfold Or at h
   have:=Hmb.out
   have:=HmB.out
   omega
noncomputable def trA:Tr->AV
 | .nil=>.raw (.pointer none)
 | .node a b c ids=>.ro [trA a,trA b,trA c,.sl (ids.map cI1)]
theorem qc:∀t:Tr,(trA t).one=true
 | .nil=>rfl
 | .node _ _ _ _=>rfl
def gk (l:List (Nat × Cb)):Tr:=.node (trL 127 (atN l 127 [0])) (trL 127 (atN l 127 [1])) (trL 127 (atN l 127 [2])) (jr l [])
theorem B9 {l:List (Nat × Cb)}(h:l≠[]):gk l=trL 128 l:=by
 have e:=rG l 127 [] (by decide) rfl (by rw [w6];exact h)
 rw [w6] at e
 exact e.symm
theorem sV (x:Cb)(l:List (Nat × Cb)):(ec x (gk l) 128).Perm ((l.filter fun e=>gQ x 128 e.2).map (·.1)):=by
 by_cases h:l=[]
 ·subst h
  have e:∀n p,trL n (atN [] n p) = .nil:=fun n p=>wu n
  unfold gk
  rw [e,e,e]
  simp [ec,jr,gg]
 ·rw [B9 h]
  exact Av x 128 l
section
variable {w:World} {B r mb:Nat} {l:List (Nat × Cb)} {T:TS} {F':Nat -> Prop}
theorem F9 (h:TrL w B r mb l T)(hF':∀b,B<=b->b<w.heap.size->F' b){p:List Nat}{b:Nat}(hp:T.nd p=some b):au w F' (.sl ((T.ids p).map cI1)) (T.idv p):=by
 have ho:=h.tr.own p b hp
 obtain⟨hl,hc⟩:=h.tr.own p b hp
 rcases hc with⟨hv,hn⟩|⟨g,cap,cur,hv,hB,hg,hcap,hmx,hsz,htk⟩
 ·rw [hv]
  have e:T.ids p=[]:=List.eq_nil_of_length_eq_zero hn
  rw [e]
  exact .sl [] none 0 1 0 0 (fun _ _=>undef) (qJ _) (qR _) (fun h=>absurd h (Nat.lt_irrefl 0)) (fun _ _ h=>by simp at h) (fun _ _ _ _ h=>by simp at h) (fun _ _ _ _ h=>by simp at h) (fun _ _ _ _ h=>by simp at h)
 ·rw [hv]
  have hlen:((T.ids p).map cI1).length=(T.ids p).length:=qG ..
  have hat:∀(k:Nat) (cs:List AV),((T.ids p).map cI1)[k]?=some cs->∃i,(T.ids p)[k]?=some i/\cs=[.i .i64 (i:Nat)]:=fun k cs hk=>by
   rw [qF] at hk
   cases hi:(T.ids p)[k]? with
   |none=>rw [hi] at hk;cases hk
   |some i=>rw [hi] at hk;exact⟨i,rfl,(qB hk).symm⟩
  have hj0:∀{i:Nat} {j:Nat} {x:AV},([.i .i64 (i:Nat)]:List AV)[j]?=some x->j=0/\x = .i .i64 (i:Nat):=fun {i j x} hx=>by
   match j,hx with
   |0,hx=>exact⟨rfl,(qB hx).symm⟩
   |j+1,hx=>simp at hx
  have hcell:∀(k i:Nat),(T.ids p)[k]?=some i->w.cell? ⟨g,0+(k*1+0),none⟩=some (.int .i64 ((i:Nat):Int)):=fun k i hi=>by
   have hk:=(qD.1 hi).1
   rw [hv] at ho
   have h1:=ho.cellAt k (by omega)
   rw [vN,Nat.mul_one,Nat.add_zero,h1,idC,qF,hi]
   rfl
  have hs:=au.sl (W:=w) (F:=F') ((T.ids p).map cI1) (some ⟨g,0,none⟩) cap 1 g 0 (fun k _=>.int .i64 (((T.ids p).getD k 0:Nat):Int)) (by omega) hmx (fun _=>⟨rfl,hF' g hB (qI.1 hg).1,(qI.1 hg).1⟩)
   (fun k cs hk=>by obtain⟨i,_,rfl⟩:=hat k cs hk;rfl)
   (fun k cs j x hk hx=>by obtain⟨i,_,rfl⟩:=hat k cs hk;obtain⟨_,rfl⟩:=hj0 hx;rfl)
   (fun k cs j x hk hx=>by
    obtain⟨i,hi,rfl⟩:=hat k cs hk
    obtain⟨_,rfl⟩:=hj0 hx
    rw [qM,hi]
    exact .i _ _)
   (fun k cs j x hk hx=>by
    obtain⟨i,hi,rfl⟩:=hat k cs hk
    obtain⟨rfl,rfl⟩:=hj0 hx
    rw [hcell k i hi,qM,hi]
    rfl)
  rw [hlen] at hs
  exact hs
theorem oj (h:TrL w B r mb l T)(hF':∀b,B<=b->b<w.heap.size->F' b){p:List Nat}{b:Nat}(hp:T.nd p=some b)(t0 t1 t2:Tr)
  (h0:au w F' (trA t0) (gE (T.nd (0::p)))) (h1:au w F' (trA t1) (gE (T.nd (1::p)))) (h2:au w F' (trA t2) (gE (T.nd (2::p)))) :
  au w F' (trA (.node t0 t1 t2 (jr l p))) (.pointer (some ⟨b,0,none⟩)):=by
 have hn:=h.tr.node p b hp
 refine .ro _ b 0 (fun j=>if j=0 then gE (T.nd (0::p)) else if j=1 then gE (T.nd (1::p)) else if j=2 then gE (T.nd (2::p)) else T.idv p) (hF' b hn.1 (h.tr.lt hp)) (h.tr.lt hp) ?_ ?_ ?_
 ·intro j x hx
  match j,hx with
  |0,hx=>obtain rfl:=qB hx;exact qc _
  |1,hx=>obtain rfl:=qB hx;exact qc _
  |2,hx=>obtain rfl:=qB hx;exact qc _
  |3,hx=>obtain rfl:=qB hx;rfl
  |j+4,hx=>simp at hx
 ·intro j x hx
  match j,hx with
  |0,hx=>obtain rfl:=qB hx;exact h0
  |1,hx=>obtain rfl:=qB hx;exact h1
  |2,hx=>obtain rfl:=qB hx;exact h2
  |3,hx=>
   obtain rfl:=qB hx
   rw [<- h.ids]
   exact F9 h hF' hp
  |j+4,hx=>simp at hx
 ·intro j x hx
  rw [vN]
  match j,hx with
  |0,hx=>exact h.tr.kid hp (by decide)
  |1,hx=>exact h.tr.kid hp (by decide)
  |2,hx=>exact h.tr.kid hp (by decide)
  |3,hx=>exact h.tr.idc hp
  |j+4,hx=>simp at hx
theorem sE (h:TrL w B r mb l T)(hF':∀b,B<=b->b<w.heap.size->F' b):∀n,n<128->∀p,p.length=128-n->au w F' (trA (trL n (atN l n p))) (gE (T.nd p))
 |n,hn,p,hp=>by
  have hp0:p≠[]:=fun e=>by rw [e] at hp;simp at hp;omega
  have hth:=x9 (l:=l) (n:=n) (p:=p) (by omega) hp hp0
  have hnd:=h.nd p
  cases hc:T.nd p with
  |none=>
   have e:atN l n p=[]:=by
    by_cases e:atN l n p=[]
    ·exact e
    ·have:=hnd.2 (hth.2 e)
     rw [hc] at this
     cases this
   rw [e,wu]
   exact .raw _
  |some b=>
   have hne:atN l n p≠[]:=hth.1 (hnd.1 (by rw [hc];rfl))
   match n,hn,hp,hne with
   |0,_,hp,hne=>
    rw [BZ l p hp hne]
    have hno:∀k,T.nd (k::p)=none:=fun k=>by
     cases hk:T.nd (k::p) with
     |none=>rfl
     |some b'=>
      rcases (h.nd (k::p)).1 (by rw [hk];rfl) with h1|⟨e,_,m,_,_,h1⟩
      ·cases h1
      ·have:=congrArg List.length h1
       rw [jp,qS,hp] at this
       omega
    refine oj h hF' hc .nil .nil .nil ?_ ?_ ?_
    all_goals
     rw [hno]
     exact .raw _
   |n+1,hn,hp,hne=>
    rw [rG l n p (by omega) hp hne]
    have hk:∀k,au w F' (trA (trL n (atN l n (k::p)))) (gE (T.nd (k::p))):=fun k=>sE h hF' n (by omega) (k::p) (by rw [qS,hp];omega)
    exact oj h hF' hc _ _ _ (hk 0) (hk 1) (hk 2)
theorem Et (h:TrL w B r mb l T)(hF':∀b,B<=b->b<w.heap.size->F' b):au w F' (trA (gk l)) (.pointer (some ⟨r,0,none⟩)):=by
 have hk:∀k,au w F' (trA (trL 127 (atN l 127 [k]))) (gE (T.nd [k])):=fun k=>sE h hF' 127 (by decide) [k] rfl
 exact oj h hF' h.root _ _ _ (hk 0) (hk 1) (hk 2)
end
theorem aa.mkT1 {P : Program} {f : FuncId} {x r : AV} (hf : ∃ fn c, P.funcs[f]? = some fn /\ fn.body = some c /\ (fn.name == "runtime.NumGoroutine") = false) (h : ∀ (W : World) (F : Nat -> Prop) (v : Value), au W F x v -> (∀ b, F b -> b < W.heap.size) -> kR W F ->
  Calls P f #[v] W fun e W'=>∃v,e = .returned v/\Kp No W W'/\au W' (fun b=>F b\/(W.heap.size<=b/\b<W'.heap.size)) r v):aa P f [x] r :=
 ⟨hf,fun W F vs hl hv hF hL=>by
  match vs,hl with
  |[v],_=>exact h W F v (hv 0 _ _ rfl rfl) hF hL⟩
theorem Dg (c:Cf)(hs:∀r∈cG c,r.mat.sound=true)(hl:(cG c).length<=1000000000):aa Tryz.prog 27 [.agg (cCf c)] (trA (gk (bP (cG c)))):=by
 refine aa.mkT1 ⟨_,_,Tryz.func27,rfl,by kernel_rfl⟩ fun W F v hv hF hL=>?_
 cases hv with
 |agg cs vs hlen h1 hr=>
  match vs,hlen with
  |[v0,v1,v2,v3,v4],_=>
   have g1:=hr 1 _ v1 rfl rfl
   have g4:=hr 4 _ v4 rfl rfl
   obtain rfl:=aD rfl g1
   obtain⟨A,cap,rfl,_,_⟩:=b9 g4
   rw [qG] at g4 ⊢
   refine (A7 W F c v0 v2 v3 A cap hF g4 hs hl).mono ?_
   rintro e w' ⟨B,r,mb,T,rfl,hmb,hT,hk⟩
   exact⟨_,rfl,hk,Et hT fun b hb hlt=>.inr ⟨by have:=hT.mlo;omega,hlt⟩⟩
def lsB (l:List Cb):List (Nat × SB):=[(200,⟨0,some (.box 170 [.row 201 0 0 (l.map cCb).length,.ref 202 0 .map])⟩),(201,⟨0,some (.row 36 4 (l.map cCb))⟩),(202,⟨0,some (fV l)⟩)]
theorem eS {s:St}{q:Nat->Option (Nat × Nat)}{l:List Cb}{e e1 e1' e2 e2' g g2 n:Nat}{els:List (List AV)}{o:aE}(h0:s.σ 200=⟨e,some (.box 170 [.row 201 e1 0 n,.ref 202 e2 .map])⟩)(h1:s.σ 201=⟨e1',some (.row 36 4 els)⟩)(h2:s.σ 202=⟨e2',some o⟩)
  (hg:s.σ 1100=⟨g,some (.ghost 200 e (q 200))⟩) (hg2:s.σ 1102=⟨g2,some (.ghost 202 e2' (q 202))⟩)
  (he:e1=e1') (he2:e2=e2') (hn:n=(l.map cCb).length) (hel:els=l.map cCb) (ho:o=fV l):WkB s (lkB (gl q [200,202] (lsB l))) (gl q [200,202] (lsB l)):=by
 subst he he2 hn hel ho
 exact⟨.ghost hg h0 rfl,.ghost hg2 h2 rfl,.boxL h0 ⟨Rn.rowIs rfl h1 rfl,Rn.refIs rfl h2 rfl,trivial⟩ rfl,.row h1 rfl,.obj h2 rfl,trivial⟩
theorem xH (q:Nat->Option (Nat × Nat)):aj Tryz.prog 76 [] (gl q [] []) (.own 3 0 0) (gl q [] [(3,⟨0,some (.box 170 [.row 9 0 0 0,.ref 1 0 .map])⟩),(1,⟨0,some (fV [])⟩),(9,⟨0,some (.row 36 4 [])⟩)]):=by
 refine aj.of_body Tryz.func76 rfl (by kernel_rfl) rfl rfl ?_
 refine jA ?_
 refine RG.opS rfl (nc (id:=1) rfl) rfl ?_
 refine jH ?_
 refine AW.nilRow 9 0 36 4 [(0,.own 3 0 0)] [(3,⟨0,some (.box 170 [.row 9 0 0 0,.ref 1 0 .map])⟩),(1,⟨0,some (fV [])⟩),(9,⟨0,some (.row 36 4 [])⟩)] ⟨.rn (Rn.ownIs rfl rfl rfl),trivial⟩ ⟨.boxL rfl ⟨.nil rfl,.rn (Rn.refIs rfl rfl rfl),trivial⟩ rfl,.old (.obj rfl rfl),.old (.row rfl rfl),trivial⟩ ?_
 refine AW.ret (dW rfl (Rm.ownIs rfl rfl rfl rfl) ⟨.boxL rfl jQ rfl,.obj rfl rfl,.row rfl rfl,trivial⟩)
theorem xh {l:List Cb}{x:Cb}(h:x∈l):ew l x=l:=by rw [ew,qE h];rfl
theorem sF {l:List Cb}{x:Cb}(h:¬x∈l):ew l x=l++[x]:=by rw [ew,qC h];rfl
theorem xf (l:List Cb)(x:Cb)(hl:l.length<=100000000)(q:Nat->Option (Nat × Nat)):aj Tryz.prog 80 [.own 200 0 0,.agg (cCb x)] (gl q [200,202] (lsB l)) (.tup []) (gl q [200,202] (lsB (ew l x))):=by
 refine aj.of_body Tryz.func80 rfl (by kernel_rfl) rfl rfl ?_
 by_cases h:x∈l
 ·rw [xh h]
  refine jA ?_
  refine RG.opS rfl (pD rfl rfl rfl rfl (qE h)) rfl ?_
  refine jH ?_
  refine zF ?_
  exact cO rfl (.inl rfl) (eS rfl rfl rfl rfl rfl rfl rfl rfl rfl rfl)
 ·rw [sF h]
  refine jA ?_
  refine RG.opS rfl (pD rfl rfl rfl rfl (qC h)) rfl ?_
  refine jH ?_
  refine zT ?_
  refine RG.opS rfl (Bo rfl rfl rfl rfl rfl h) rfl ?_
  refine jH ?_
  refine RG.opS rfl (bI cCb l x hl rfl rfl rfl rfl (tk rfl) rfl (tk rfl) rfl rfl ⟨_,rfl,rfl⟩ rfl rfl) rfl ?_;refine jH ?_
  exact cO rfl (.inl rfl) (eS rfl rfl rfl rfl rfl rfl rfl rfl rfl rfl)
theorem D3 (l:List Cb)(r:Rl)(hl:l.length<=100000000)(q:Nat->Option (Nat × Nat)):aj Tryz.prog 78 [.agg [.own 200 0 0],.agg (cRl r)] (gl q [200,202] (lsB l)) (.tup []) (gl q [200,202] (lsB (ew l r.mat))):=by
 refine aj.of_body Tryz.func78 rfl (by kernel_rfl) rfl rfl ?_
 refine jA ?_
 refine RG.ownN [(200,200),(201,201),(202,202)] [(200,200),(201,201),(202,202)] (fun q=>xf l r.mat hl q) rfl rfl rfl rfl rfl rfl rfl rfl rfl rfl ?_
 refine jH ?_
 exact cO rfl (.inl rfl) (eS rfl rfl rfl rfl rfl rfl rfl rfl rfl rfl)
def oc (l:List Cb)(r:Rl):List Cb:=bif decide (r.act.set=Cb.zero) then l else ew l r.act.set
theorem HM (l:List Cb)(r:Rl)(hl:l.length<=100000000)(q:Nat->Option (Nat × Nat)):aj Tryz.prog 127 [.agg [.own 200 0 0],.agg (cRl r)] (gl q [200,202] (lsB l)) (.tup []) (gl q [200,202] (lsB (oc l r))):=by
 refine aj.of_body Tryz.func127 rfl (by kernel_rfl) rfl rfl ?_
 by_cases h:r.act.set=Cb.zero
 ·have e:oc l r=l:=by rw [oc,qE h];rfl
  rw [e]
  refine jA ?_
  refine RG.opS rfl (mQ rfl ae (by kernel_rfl) (by kernel_rfl) rfl rfl (oQ r.act.set Cb.zero) (congrArg Bool.not (qE h))) rfl ?_
  refine jH ?_
  refine zF ?_
  exact cO rfl (.inl rfl) (eS rfl rfl rfl rfl rfl rfl rfl rfl rfl rfl)
 ·have e:oc l r=ew l r.act.set:=by rw [oc,qC h];rfl
  rw [e]
  refine jA ?_
  refine RG.opS rfl (mQ rfl ae (by kernel_rfl) (by kernel_rfl) rfl rfl (oQ r.act.set Cb.zero) (congrArg Bool.not (qC h))) rfl ?_
  refine jH ?_
  refine zT ?_
  refine RG.ownN [(200,200),(201,201),(202,202)] [(200,200),(201,201),(202,202)] (fun q=>xf l r.act.set hl q) rfl rfl rfl rfl rfl rfl rfl rfl rfl rfl ?_
  refine jH ?_
  exact cO rfl (.inl rfl) (eS rfl rfl rfl rfl rfl rfl rfl rfl rfl rfl)
theorem ix (l:List Cb)(x:Cb):(ew l x).length<=l.length+1:=by
 rw [ew]
 cases decide (x∈l)
 ·simp
 ·simp
theorem rS (l:List Cb)(r:Rl):(oc l r).length<=l.length+1:=by
 rw [oc]
 cases decide (r.act.set=Cb.zero)
 ·exact ix l _
 ·simp
theorem Rn.fnAgg {σ σ':Sto}{x:AV}{f:FuncId}{id ep ep' off:Nat}{bd bd':aE}(e:x = .fn f [.agg [.own id ep off]] [])(h:σ id=⟨ep,some bd⟩)(h':σ' id=⟨ep',some bd'⟩):Rn σ σ' x (.fn f [.agg [.own id ep' off]] []):=by
 subst e
 refine .fn rfl rfl (fun j x x' h1 h2=>?_) (fun j x x' h1 h2=>by cases h1)
 match j with
 |0=>
  cases h1;cases h2
  refine .agg rfl (fun j x h1=>?_) (fun j x x' h1 h2=>?_)
  ·match j with
   |0=>cases h1;rfl
   |j+1=>cases h1
  ·match j with
   |0=>cases h1;cases h2;exact .own h h'
   |j+1=>cases h1
 |j+1=>cases h1
theorem ww (F:Nat)(step:List Cb -> Rl -> List Cb)(hstep:∀ l r,(step l r).length <= l.length + 1)(H:∀ l r,l.length <= 100000000 -> ∀ q,aj Tryz.prog F [.agg [.own 200 0 0],.agg (cRl r)] (gl q [200,202] (lsB l)) (.tup []) (gl q [200,202] (lsB (step l r))))(c:Cf)(l:List Cb)(hl:l.length + (bu c).length <= 100000000)(q:Nat -> Option (Nat × Nat)) :
  aj Tryz.prog 77 [.agg (cCf c),.fn F [.agg [.own 200 0 0]] []] (gl q [200,202] (lsB l)) (.tup []) (gl q [200,202] (lsB ((bu c).foldl step l))):=by
 refine aj.of_body Tryz.func77 rfl (by kernel_rfl) rfl rfl ?_
 refine jA ?_
 refine AW.lens 11 rfl fun hm1=>?_
 rw [qG] at hm1
 generalize hG:(bu c).foldl step l=G
 refine AW.loopL (ι:=Nat × List Cb) (fun i=>[(1,.fn F [.agg [.own 200 0 0]] []),(11,.sl (c.tables.map bY)),(12,.i .i64 (c.tables.map bY).length),(13,.i .i64 (i.1:Nat))]) (fun i=>gl q [200,202] (lsB i.2)) (fun i=>i.1<=c.tables.length/\i.2.length+((c.tables.drop i.1).flatten.flatten).length<=100000000/\((c.tables.drop i.1).flatten.flatten).foldl step i.2=G) (fun i=>c.tables.length-i.1) (0,l) ⟨qR _,hl,hG⟩ ⟨Rn.fnAgg rfl rfl rfl,Rn.is rfl rfl,Rn.is rfl rfl,Rn.is rfl rfl,trivial⟩ (eS rfl rfl rfl rfl rfl rfl rfl rfl rfl rfl) fun i hi=>?_
 clear hG hl
 obtain⟨k,l⟩:=i
 obtain⟨hk,hb,hf⟩:=hi
 simp only at hk hb hf
 refine jA ?_
 refine AW.cond rfl (fun h0=>?_) (fun h0=>?_)
 rotate_left
 ·have h:¬k<c.tables.length:=by simpa using h0
  obtain rfl:k=c.tables.length:=by omega
  rw [vJ] at hf
  subst hf
  refine zE ?_
  exact cO rfl (.inl rfl) (eS rfl rfl rfl rfl rfl rfl rfl rfl rfl rfl)
 have h:k<c.tables.length:=by simpa using h0
 rw [qT h,uN,List.flatten_append] at hf hb
 refine zB ?_
 refine RG.opS rfl (aq rfl (tk rfl) rfl (tk rfl) rfl rfl (show (c.tables.map bY)[k]?=some (bY c.tables[k]) by rw [qF,qA (by assumption)];rfl) rfl) rfl ?_
 generalize c.tables[k]=tab at hf hb
 generalize hR:(c.tables.drop (k+1)).flatten.flatten=R at hf hb
 refine jH ?_
 refine AW.lens 17 rfl fun hm2=>?_
 rw [qG] at hm2
 refine AW.loopL (ι:=Nat × List Cb) (fun i=>[(1,.fn F [.agg [.own 200 0 0]] []),(11,.sl (c.tables.map bY)),(12,.i .i64 (c.tables.map bY).length),(13,.i .i64 (k:Nat)),(17,.sl (tab.map bp)),(18,.i .i64 (tab.map bp).length),(19,.i .i64 (i.1:Nat))]) (fun i=>gl q [200,202] (lsB i.2)) (fun i=>i.1<=tab.length/\i.2.length+((tab.drop i.1).flatten++R).length<=100000000/\((tab.drop i.1).flatten++R).foldl step i.2=G) (fun i=>tab.length-i.1) (0,l) ⟨qR _,hb,hf⟩ ⟨Rn.fnAgg rfl rfl rfl,Rn.is rfl rfl,Rn.is rfl rfl,Rn.is rfl rfl,Rn.is rfl rfl,Rn.is rfl rfl,Rn.is rfl rfl,trivial⟩ (eS rfl rfl rfl rfl rfl rfl rfl rfl rfl rfl) fun i hi=>?_
 clear hf hb
 obtain⟨j,l⟩:=i
 obtain⟨hj,hb,hf⟩:=hi
 simp only at hj hb hf
 refine jA ?_
 refine AW.cond rfl (fun h1=>?_) (fun h1=>?_)
 rotate_left
 ·have h':¬j<tab.length:=by simpa using h1
  obtain rfl:j=tab.length:=by omega
  rw [vJ] at hf hb
  refine zE ?_
  refine⟨(k+1,l),⟨⟨h,?_,?_⟩,by show c.tables.length-(k+1)<c.tables.length-k;omega⟩,⟨Rn.fnAgg rfl rfl rfl,Rn.is rfl rfl,Rn.is rfl rfl,Rn.is (ay h hm1) rfl,trivial⟩,eS rfl rfl rfl rfl rfl rfl rfl rfl rfl rfl⟩
  ·rw [hR];exact hb
  ·rw [hR];exact hf
 have h':j<tab.length:=by simpa using h1
 rw [qT h',uN,uK] at hf hb
 refine zB ?_
 refine RG.opS rfl (aq rfl (tk rfl) rfl (tk rfl) rfl rfl (show (tab.map bp)[j]?=some (bp tab[j]) by rw [qF,qA (by assumption)];rfl) rfl) rfl ?_
 generalize tab[j]=rls at hf hb
 generalize hR2:(tab.drop (j+1)).flatten++R=R2 at hf hb
 refine jH ?_
 refine AW.lens 23 rfl fun hm3=>?_
 rw [qG] at hm3
 refine AW.loopL (ι:=Nat × List Cb) (fun i=>[(1,.fn F [.agg [.own 200 0 0]] []),(11,.sl (c.tables.map bY)),(12,.i .i64 (c.tables.map bY).length),(13,.i .i64 (k:Nat)),(17,.sl (tab.map bp)),(18,.i .i64 (tab.map bp).length),(19,.i .i64 (j:Nat)),(23,.sl (rls.map cRl)),(24,.i .i64 (rls.map cRl).length),(25,.i .i64 (i.1:Nat))]) (fun i=>gl q [200,202] (lsB i.2)) (fun i=>i.1<=rls.length/\i.2.length+(rls.drop i.1++R2).length<=100000000/\(rls.drop i.1++R2).foldl step i.2=G) (fun i=>rls.length-i.1) (0,l) ⟨qR _,hb,hf⟩ ⟨Rn.fnAgg rfl rfl rfl,Rn.is rfl rfl,Rn.is rfl rfl,Rn.is rfl rfl,Rn.is rfl rfl,Rn.is rfl rfl,Rn.is rfl rfl,Rn.is rfl rfl,Rn.is rfl rfl,Rn.is rfl rfl,trivial⟩ (eS rfl rfl rfl rfl rfl rfl rfl rfl rfl rfl) fun i hi=>?_
 clear hf hb
 obtain⟨m,l⟩:=i
 obtain⟨hmm,hb,hf⟩:=hi
 simp only at hmm hb hf
 refine jA ?_
 refine AW.cond rfl (fun h2=>?_) (fun h2=>?_)
 rotate_left
 ·have h'':¬m<rls.length:=by simpa using h2
  obtain rfl:m=rls.length:=by omega
  rw [vJ] at hf hb
  refine zE ?_
  refine⟨(j+1,l),⟨⟨h',?_,?_⟩,by show tab.length-(j+1)<tab.length-j;omega⟩,⟨Rn.fnAgg rfl rfl rfl,Rn.is rfl rfl,Rn.is rfl rfl,Rn.is rfl rfl,Rn.is rfl rfl,Rn.is rfl rfl,Rn.is (ay h' hm2) rfl,trivial⟩,eS rfl rfl rfl rfl rfl rfl rfl rfl rfl rfl⟩
  ·rw [hR2];exact hb
  ·rw [hR2];exact hf
 have h'':m<rls.length:=by simpa using h2
 rw [qT h''] at hf hb
 refine zB ?_
 refine RG.opS rfl (aq rfl (tk rfl) rfl (tk rfl) rfl rfl (show (rls.map cRl)[m]?=some (cRl rls[m]) by rw [qF,qA (by assumption)];rfl) rfl) rfl ?_
 generalize rls[m]=r at hf hb
 have hs:=hstep l r
 rw [uX,qS] at hb
 rw [uX,uY] at hf
 refine jH ?_
 refine RG.ownN [(200,200),(201,201),(202,202)] [(200,200),(201,201),(202,202)] (fun q=>H l r (by omega) q) rfl rfl rfl rfl rfl rfl rfl rfl rfl rfl ?_
 refine jH ?_
 exact⟨(m+1,step l r),⟨⟨h'',by show (step l r).length+(rls.drop (m+1)++R2).length<=100000000;omega,hf⟩,by show rls.length-(m+1)<rls.length-m;omega⟩,⟨Rn.fnAgg rfl rfl rfl,Rn.is rfl rfl,Rn.is rfl rfl,Rn.is rfl rfl,Rn.is rfl rfl,Rn.is rfl rfl,Rn.is rfl rfl,Rn.is rfl rfl,Rn.is rfl rfl,Rn.is (ay h'' hm3) rfl,trivial⟩,eS rfl rfl rfl rfl rfl rfl rfl rfl rfl rfl⟩
theorem gA {P:Program}{N:Nat}{o:Oper}{s:St}(k:Nat){α:Type}(cF:α->List AV)(l:List α){t e id ep n:Nat}{ti ei:TI}{x i:Operand}{kd:IntKind}(hlt:k<n)(ho:o.op = .indexAddr t x i)(ht:aB P t ti)(hk:ti.k = .slice e)(he:aB P e ei)(hx:s.ev x = .row id ep 0 n)(hid:s.σ id=⟨ep,some (.row e ei.n (l.map cF))⟩)(hi:s.ev i = .i kd (k:Int)) :
  ax P N o s ⟨.el id ep k 0,[],[id]⟩:=by
 have h:=oK (N:=N) ho ht hk he hx hid hi hlt rfl
 rw [vN] at h
 exact h
theorem un {P:Program}{N:Nat}{o:Oper}{s:St}(k:Nat){α:Type}(cF:α->List AV)(l:List α)(c:α)(hk:l[k]?=some c){t ty m id ep:Nat}{ti:TI}{p:Operand}(ho:o.op = .load t p)(ht:aB P t ti)(hp:s.ev p = .el id ep k 0)(hid:s.σ id=⟨ep,some (.row ty m (l.map cF))⟩)(hr:ldA ti (cF c)=some (.agg (cF c))) :
  ax P N o s ⟨.agg (cF c),[],[id]⟩:=by
 refine gI ho ht (cs:=(cF c).drop 0) (by rw [hp];exact .el hid (by rw [qF,hk];rfl)) ?_
 rw [uR]
 exact hr
def EV (a b:Cb):Int:=IntKind.i64.wrap (a.care.ones-b.care.ones)
theorem qr (a b:Cb):aa Tryz.prog 82 [.agg (cCb a),.agg (cCb b)] (.i .i64 (EV a b)):=by
 refine jb Tryz.func82 ?_
 refine jA ?_
 refine jc (AI a.care) ?_
 refine wH rfl ?_
 refine jc (AI b.care) ?_
 refine zH ?_
 rfl
theorem D0 {m:List Cb}{j:Nat}(h:j<m.length):m.getD j Cb.zero=m[j]:=by
 rw [qM,qA h];rfl
def srB (m0:List Cb)(n:Nat)(l:List Cb):List (Nat × SB):=[(200,⟨0,some (.box 170 [.row 201 0 0 n,.ref 202 0 .map])⟩),(201,⟨0,some (.row 36 4 (l.map cCb))⟩),(202,⟨0,some (fV m0)⟩)]
theorem FF {s:St}{q:Nat->Option (Nat × Nat)}{m0 l:List Cb}{e e1 e1' e2 e2' g g2 n:Nat}{els:List (List AV)}{o:aE}(h0:s.σ 200=⟨e,some (.box 170 [.row 201 e1 0 n,.ref 202 e2 .map])⟩)(h1:s.σ 201=⟨e1',some (.row 36 4 els)⟩)(h2:s.σ 202=⟨e2',some o⟩)
  (hg:s.σ 1100=⟨g,some (.ghost 200 e (q 200))⟩) (hg2:s.σ 1102=⟨g2,some (.ghost 202 e2' (q 202))⟩)
  (he:e1=e1') (he2:e2=e2') (hel:els=l.map cCb) (ho:o=fV m0):WkB s (lkB (gl q [200,202] (srB m0 n l))) (gl q [200,202] (srB m0 n l)):=by
 subst he he2 hel ho
 exact⟨.ghost hg h0 rfl,.ghost hg2 h2 rfl,.boxL h0 ⟨Rn.rowIs rfl h1 rfl,Rn.refIs rfl h2 rfl,trivial⟩ rfl,.row h1 rfl,.obj h2 rfl,trivial⟩
def B6 (l l':List Cb):Prop:=∀(m0:List Cb) (n:Nat),n=(l.map cCb).length->∀q,aj Tryz.prog 81 [.row 201 0 0 n,.fn 82 [] []] (gl q [200,202] (srB m0 n l)) (.tup []) (gl q [200,202] (srB m0 n l'))
def Cf.Small (c:Cf):Prop:=∀t∈c.tables,t.flatten.length<=1000000000000000
theorem jY:∀(t:List (List Rl)) (n:Nat),n+t.flatten.length<=4000000000000000->fw t n=((n+t.flatten.length:Nat):Int)
 |[],n,_=>by simp [fw]
 |l::t,n,h=>by
  rw [uN,qK] at h ⊢
  have e:IntKind.i64.wrap ((n:Int)+(l.length:Nat))=((n+l.length:Nat):Int):=by
   rw [kA0]
   omega
  rw [fw,e,jY t _ (by omega)]
  congr 1
  omega
theorem jN {α:Type}{m:Nat}:∀(l:List (List α)),(∀x∈l,x.length<=m)->l.flatten.length<=m*l.length
 |[],_=>by simp
 |x::l,h=>by
  have h1:=h x vD
  have h2:=jN l fun y hy=>h y (qZ _ hy)
  rw [uN,qK,qS,Nat.mul_add,Nat.mul_one]
  omega
theorem iT {c:Cf}(h:c.Ok)(hS:c.Small):(bu c).length<=576:=by
 have h0:=bX h.topo
 have hl:=h.len
 have h1:∀x∈c.tables.map List.flatten,x.length<=96:=fun x hx=>by
  obtain⟨t,ht,rfl⟩:=vI.1 hx
  obtain⟨n,hn⟩:=List.mem_iff_getElem?.1 ht
  have:=(cY (h.tabs n t hn))
  have h3:=hS t ht
  have h2:=jY t 0 (by omega)
  have h4:((0:Nat):Int)=0:=rfl
  rw [h4] at h2
  omega
 have h2:=jN _ h1
 have h3:(bu c).length=(c.tables.map List.flatten).flatten.length:=by
  rw [bu,List.flatten_flatten]
 rw [h3]
 rw [qG] at h2
 omega
theorem sq:∀(rs:List Rl) (l:List Cb),rs.foldl oc l=ju l rs
 |[],l=>rfl
 |r::rs,l=>by rw [uY,sq,ju];rfl
theorem gw:∀(xs l:List Cb),(cS l xs).length<=l.length+xs.length
 |[],l=>qJ _
 |x::xs,l=>by
  rw [cS]
  have:=gw xs (ew l x)
  have:=ix l x
  rw [qS]
  omega
theorem lw:∀(rs:List Rl) (l:List Cb),(ju l rs).length<=l.length+rs.length
 |[],l=>qJ _
 |r::rs,l=>by
  have h1:=lw rs (oc l r)
  have h2:=rS l r
  rw [qS]
  show (ju (oc l r) rs).length<=_
  omega
def Gn (c:Cf)(l:List Cb):List (Nat × SB):=(2,⟨0,some (.box 31 (cCf c))⟩)::(7,⟨0,some (.box 165 [.own 200 0 0])⟩)::lsB l
theorem v8 {s:St}{c:Cf}{l:List Cb}{e e9 e8 e8' e1 e1' e2 e2' n:Nat}{els:List (List AV)}{o:aE}(h9:s.σ 2=⟨e9,some (.box 31 (cCf c))⟩)(h8:s.σ 7=⟨e8,some (.box 165 [.own 200 e8' 0])⟩)(h0:s.σ 200=⟨e,some (.box 170 [.row 201 e1 0 n,.ref 202 e2 .map])⟩)(h1:s.σ 201=⟨e1',some (.row 36 4 els)⟩)(h2:s.σ 202=⟨e2',some o⟩)
  (h8e:e8'=e) (he:e1=e1') (he2:e2=e2') (hn:n=(l.map cCb).length) (hel:els=l.map cCb) (ho:o=fV l):WkB s (lkB (Gn c l)) (Gn c l):=by
 subst h8e he he2 hn hel ho
 exact⟨iv.same h9 rfl rfl,.boxL h8 ⟨Rn.ownIs rfl h0 rfl,trivial⟩ rfl,.boxL h0 ⟨Rn.rowIs rfl h1 rfl,Rn.refIs rfl h2 rfl,trivial⟩ rfl,.row h1 rfl,.obj h2 rfl,trivial⟩
theorem Fg (c:Cf)(h0:c.sound=0)(hS:c.Small)(V:Nat)(hV:V<=255):aa Tryz.prog 75 [.agg (cCf c),.i .i64 (V:Nat)] (.tup [.sl ((eJ c V).map cCb),.i .i64 0]):=by
 have hc:=Cf.ok h0
 have hE:=gh hc.topo
 have hR:=iT hc hS
 refine jb Tryz.func75 ?_
 have hm:(aI c.topo.ports).length<=9223372036854775807:=by omega
 have hCS:=dR c
 rw [h0] at hCS
 refine jA ?_
 refine jc hCS ?_;refine jH ?_
 refine AW.condF rfl ?_;refine jB ?_
 refine AW.text ?_
 have g1:¬((V:Nat):Int)<0:=by omega
 have g2:¬((V:Nat):Int)>255:=by omega
 refine RG.runO ae 0 [(18,.b false),(21,.b false)] 400 rfl jD ?_
 refine jB ?_
 refine zF ?_
 refine RG.ownN [] [(3,200),(1,202),(9,201)] xH rfl rfl rfl rfl rfl rfl rfl rfl rfl rfl ?_
 refine jH ?_
 refine jm (i4 c.topo.ports hc.topo) ?_;refine jH ?_
 generalize hA:cS [] ((aI c.topo.ports).map fun s=>bl c s V)=A
 have hG:ju A (bu c)=eJ c V:=by rw [eJ,hA]
 have hAl:A.length<=36:=by
  rw [<- hA]
  have:=gw ((aI c.topo.ports).map fun s=>bl c s V) []
  rw [qG] at this
  simp at this
  omega
 have hst:∀s∈aI c.topo.ports,aa Tryz.prog 118 [.agg (cCf c),.agg (cSp s),.i .i64 (V:Nat)] (.tup [.agg (cCb (bl c s V)),.i .i64 0]):=fun s hs=>by
  have h:=tu c s V
  have e:dU c s V=0:=by rw [dU,if_pos h0,if_neg (by omega),if_pos hs]
  rw [iJ,if_pos e,e] at h
  exact h
 refine AW.loopL (ι:=Nat × List Cb) (fun i=>[(1,.i .i64 (V:Nat)),(2,.own 2 0 0),(7,.own 7 0 0),(27,.sl ((aI c.topo.ports).map cSp)),(28,.i .i64 ((aI c.topo.ports).map cSp).length),(29,.i .i64 (i.1:Nat))]) (fun i=>Gn c i.2) (fun i=>(i.1<=(aI c.topo.ports).length/\i.2.length<=i.1)/\cS i.2 (((aI c.topo.ports).drop i.1).map fun s=>bl c s V)=A) (fun i=>(aI c.topo.ports).length-i.1) (0,[]) ⟨⟨qR _,qR _⟩,hA⟩ jQ (v8 rfl rfl rfl rfl rfl rfl rfl rfl rfl rfl rfl) fun i hi=>?_
 clear hA
 obtain⟨k,l⟩:=i
 obtain⟨⟨hk,hl⟩,hf⟩:=hi
 simp only at hk hl hf
 refine jA ?_
 refine AW.cond rfl (fun h1=>?_) (fun h1=>?_)
 rotate_left
 ·have h:¬k<(aI c.topo.ports).length:=by simpa using h1
  obtain rfl:k=(aI c.topo.ports).length:=by omega
  rw [vJ] at hf
  obtain rfl:l=A:=hf
  have hsl:=lw (bu c) l
  refine zE ?_
  refine RG.ownN [(200,200),(201,201),(202,202)] [(200,200),(201,201),(202,202)] (fun q=>ww 127 oc rS HM c l (by omega) q) rfl rfl rfl rfl rfl rfl rfl rfl rfl rfl ?_
  rw [sq,hG]
  refine jH ?_
  refine RG.callMS rfl rfl rfl rfl (congrArg (fun x=>[x]) (bw rfl)) rfl (eI (eJ c V)) rfl ?_;refine jH ?_
  exact zS
 have h:k<(aI c.topo.ports).length:=by simpa using h1
 rw [qT h,vE,cS] at hf
 have hs:=hst _ (vR h)
 refine zB ?_
 refine RG.opS rfl (aq rfl (tk rfl) rfl (tk rfl) rfl rfl (show ((aI c.topo.ports).map cSp)[k]?=some (cSp (aI c.topo.ports)[k]) by rw [qF,qA (by assumption)];rfl) rfl) rfl ?_
 generalize (aI c.topo.ports)[k]=s at hf hs
 refine jH ?_
 refine jm hs ?_;refine jH ?_
 refine zF ?_
 refine RG.ownN [(200,200),(201,201),(202,202)] [(200,200),(201,201),(202,202)] (fun q=>xf l (bl c s V) (by omega) q) rfl rfl rfl rfl rfl rfl rfl rfl rfl rfl ?_
 refine jH ?_
 have hal:=ix l (bl c s V)
 exact⟨(k+1,ew l (bl c s V)),⟨⟨⟨h,by show (ew l (bl c s V)).length<=k+1;omega⟩,hf⟩,by show (aI c.topo.ports).length-(k+1)<(aI c.topo.ports).length-k;omega⟩,⟨Rn.is rfl rfl,Rn.ownIs rfl rfl rfl,Rn.ownIs rfl rfl rfl,Rn.is rfl rfl,Rn.is rfl rfl,Rn.is (ay h hm) rfl,trivial⟩,(v8 rfl rfl rfl rfl rfl rfl rfl rfl rfl rfl rfl)⟩
def G0 (l:List Cb)(r:Rl):List Cb:=ew l r.mat
theorem xB:∀(rs:List Rl) (l:List Cb),rs.foldl G0 l=cS l (rs.map Rl.mat)
 |[],l=>rfl
 |r::rs,l=>by rw [uY,xB,vE,cS];rfl
theorem BS {l:List Cb}{x p:Cb}{n:Nat}(h:l[n]?=some p):(ew l x)[n]?=some p:=by
 obtain⟨m,hm⟩:=tE (l:=l) (x:=x)
 rw [hm,List.getElem?_append_left (qD.1 h).1]
 exact h
def DI (l:List Cb):List (Nat × SB):=(8,⟨0,some (.box 165 [.own 200 0 0])⟩)::lsB l
theorem kk {s:St}{l:List Cb}{e e8 e8' e1 e1' e2 e2' n:Nat}{els:List (List AV)}{o:aE}(h8:s.σ 8=⟨e8,some (.box 165 [.own 200 e8' 0])⟩)(h0:s.σ 200=⟨e,some (.box 170 [.row 201 e1 0 n,.ref 202 e2 .map])⟩)(h1:s.σ 201=⟨e1',some (.row 36 4 els)⟩)(h2:s.σ 202=⟨e2',some o⟩)
  (h8e:e8'=e) (he:e1=e1') (he2:e2=e2') (hn:n=(l.map cCb).length) (hel:els=l.map cCb) (ho:o=fV l):WkB s (lkB (DI l)) (DI l):=by
 subst h8e he he2 hn hel ho
 exact⟨.boxL h8 ⟨Rn.ownIs rfl h0 rfl,trivial⟩ rfl,.boxL h0 ⟨Rn.rowIs rfl h1 rfl,Rn.refIs rfl h2 rfl,trivial⟩ rfl,.row h1 rfl,.obj h2 rfl,trivial⟩
def ofR (a:List Cb)(l':List Cb):AV:=bif decide (a.length>500) then .tup [.sl [],.i .i64 10] else .tup [.sl (l'.map cCb),.i .i64 0]
theorem HL (c:Cf)(h0:c.sound=0)(hS:c.Small)(V:Nat)(hV:V<=255)(l':List Cb)(hP:l'.Perm (aL c V))(hM:(aL c V).length<=500->B6 (aL c V) l'):aa Tryz.prog 46 [.agg (cCf c),.i .i64 (V:Nat)] (ofR (aL c V) l'):=by
 have hc:=Cf.ok h0
 have hE:=gh hc.topo
 have hR:=iT hc hS
 have hsl:(eJ c V).length<=700:=by
  rw [eJ]
  have h1:=lw (bu c) (cS [] ((aI c.topo.ports).map fun s=>bl c s V))
  have h2:=gw ((aI c.topo.ports).map fun s=>bl c s V) []
  rw [qG,List.length_nil] at h2
  omega
 have hal:=gw ((bu c).map Rl.mat) []
 rw [qG,List.length_nil] at hal
 have hms:=Fg c h0 hS V hV
 rw [aL] at hP hM ⊢
 refine jb Tryz.func46 ?_
 generalize eJ c V=sets at hP hM hsl hms ⊢
 have hm:sets.length<=9223372036854775807:=by omega
 generalize hA:cM sets 501 0 (cS [] ((bu c).map Rl.mat))=A at hP hM ⊢
 refine jA ?_
 refine jm hms ?_;refine jH ?_
 refine zF ?_
 refine RG.ownN [] [(3,200),(1,202),(9,201)] xH rfl rfl rfl rfl rfl rfl rfl rfl rfl rfl ?_
 refine jH ?_
 refine RG.ownN [(200,200),(201,201),(202,202)] [(200,200),(201,201),(202,202)] (fun q=>ww 78 G0 (fun l r=>ix l r.mat) D3 c [] (by simp;omega) q) rfl rfl rfl rfl rfl rfl rfl rfl rfl rfl ?_
 rw [xB]
 generalize cS [] ((bu c).map Rl.mat)=all at hA hal
 refine jH ?_
 refine AW.loopL (ι:=Nat × List Cb) (fun i=>[(6,.sl (sets.map cCb)),(8,.own 8 0 0),(9,.i .i64 (i.1:Nat))]) (fun i=>DI i.2) (fun i=>(i.1<=501/\i.2.length<=2000)/\cM sets (501-i.1) i.1 i.2=A) (fun i=>501-i.1) (0,all) ⟨⟨qR _,by show all.length<=2000;omega⟩,hA⟩ jQ (kk rfl rfl rfl rfl rfl rfl rfl rfl rfl rfl) fun i hi=>?_
 clear hA hal all
 obtain⟨n,all⟩:=i
 obtain⟨⟨hn,hl⟩,hf⟩:=hi
 simp only at hn hl hf
 have hlm:(all.map cCb).length=all.length:=qG ..
 refine zB ?_
 by_cases g1:((n:Nat):Int)<((all.map cCb).length:Nat)
 ·by_cases g2:(((all.map cCb).length:Nat):Int)<=500
  ·refine RG.runO ae 0 [(36,.b true),(44,.b true)] 400 rfl jD ?_
   have hn5:n<500:=by omega
   have e1:all[n]?=some (all.getD n Cb.zero):=by rw [D0 (by omega)];exact qA _
   rw [show 501-n=(501-(n+1))+1 by omega,cM,qE (show n<all.length by omega),qE (show all.length<=500 by omega),Bool.and_self,cond_true] at hf
   have hl5:all.length<=500:=by omega
   generalize all.getD n Cb.zero=p at hf e1
   refine jB ?_
   refine zT ?_
   refine AW.loopL (ι:=Nat × List Cb) (fun i=>[(6,.sl (sets.map cCb)),(8,.own 8 0 0),(9,.i .i64 (n:Nat)),(48,.sl (sets.map cCb)),(49,.i .i64 (sets.map cCb).length),(50,.i .i64 (i.1:Nat))]) (fun i=>DI i.2) (fun i=>(i.1<=sets.length/\i.2.length<=500+i.1/\i.2[n]?=some p)/\cM sets (501-(n+1)) (n+1) (cg p (sets.drop i.1) i.2)=A) (fun i=>sets.length-i.1) (0,all) ⟨⟨qR _,hl5,e1⟩,hf⟩ jQ (kk rfl rfl rfl rfl rfl rfl rfl rfl rfl rfl) fun i hi=>?_
   clear hf e1 hl5
   obtain⟨k,out⟩:=i
   obtain⟨⟨hk,hl2,e1⟩,hf⟩:=hi
   simp only at hk hl2 e1 hf
   have hno:=(qD.1 e1).1
   refine jA ?_
   refine AW.cond rfl (fun h3=>?_) (fun h3=>?_)
   rotate_left
   ·have h:¬k<sets.length:=by simpa using h3
    obtain rfl:k=sets.length:=by omega
    rw [vJ,cg] at hf
    refine zE ?_
    exact⟨(n+1,out),⟨⟨⟨by show n+1<=501;omega,by show out.length<=2000;omega⟩,hf⟩,by show 501-(n+1)<501-n;omega⟩,⟨Rn.is rfl rfl,Rn.ownIs rfl rfl rfl,Rn.is (ay (show n<1000 by omega) (by decide)) rfl,trivial⟩,kk rfl rfl rfl rfl rfl rfl rfl rfl rfl rfl⟩
   have h:k<sets.length:=by simpa using h3
   rw [qT h,cg] at hf
   refine zB ?_
   refine RG.opS rfl (aq rfl (tk rfl) rfl (tk rfl) rfl rfl (show (sets.map cCb)[k]?=some (cCb sets[k]) by rw [qF,qA (by assumption)];rfl) rfl) rfl ?_
   generalize sets[k]=s at hf
   refine jH ?_
   refine RG.opS rfl (gA (n) cCb (out) (by rw [qG];exact hno) rfl (tk rfl) rfl (tk rfl) rfl rfl rfl) rfl ?_
   refine RG.opS rfl (un (n) cCb (out) p e1 rfl (tk rfl) rfl rfl rfl) rfl ?_
   refine wH rfl ?_
   cases hh:p.hits s
   ·rw [hh,cond_false] at hf
    refine RG.callS rfl rfl rfl rfl rfl (sX p s _ hh) rfl rfl ?_;refine jH ?_
    refine zF ?_
    exact⟨(k+1,out),⟨⟨⟨h,by show out.length<=500+(k+1);omega,e1⟩,hf⟩,by show sets.length-(k+1)<sets.length-k;omega⟩,⟨Rn.is rfl rfl,Rn.ownIs rfl rfl rfl,Rn.is rfl rfl,Rn.is rfl rfl,Rn.is rfl rfl,Rn.is (ay h hm) rfl,trivial⟩,kk rfl rfl rfl rfl rfl rfl rfl rfl rfl rfl⟩
   ·rw [hh,cond_true] at hf
    have ha:=ix out (p.before s)
    refine RG.callS rfl rfl rfl rfl rfl (sX p s _ hh) rfl rfl ?_;refine jH ?_
    refine zT ?_
    refine RG.ownN [(200,200),(201,201),(202,202)] [(200,200),(201,201),(202,202)] (fun q=>xf out (p.before s) (by omega) q) rfl rfl rfl rfl rfl rfl rfl rfl rfl rfl ?_
    refine jH ?_
    exact⟨(k+1,ew out (p.before s)),⟨⟨⟨h,by show (ew out (p.before s)).length<=500+(k+1);omega,BS e1⟩,hf⟩,by show sets.length-(k+1)<sets.length-k;omega⟩,⟨Rn.is rfl rfl,Rn.ownIs rfl rfl rfl,Rn.is rfl rfl,Rn.is rfl rfl,Rn.is rfl rfl,Rn.is (ay h hm) rfl,trivial⟩,kk rfl rfl rfl rfl rfl rfl rfl rfl rfl rfl⟩
  ·refine RG.runO ae 0 [(36,.b true),(44,.b false)] 400 rfl jD ?_
   have e:all=A:=by
    by_cases hz:501-n=0
    ·rw [hz,cM] at hf;exact hf
    ·rw [show 501-n=(501-n-1)+1 by omega,cM] at hf
     have:(decide (n<all.length) && decide (all.length<=500))=false:=by
      rw [Bool.and_eq_false_iff]
      simp only [decide_eq_false_iff_not]
      omega
     rw [this] at hf
     exact hf
   subst e
   clear hf
   refine jB ?_
   refine zF ?_
   refine jE ?_;refine jA ?_
   refine AW.cond rfl (fun h3=>?_) (fun h3=>?_)
   ·have h3:(((all.map cCb).length:Nat):Int)>500:=of_decide_eq_true h3
    have e:ofR all l' = .tup [.sl [],.i .i64 10]:=by rw [ofR,qE (by omega)];rfl
    rw [e]
    refine zR ?_
    rfl
   ·have h3:¬(((all.map cCb).length:Nat):Int)>500:=of_decide_eq_false h3
    have hl':=hP.length_eq
    have e:ofR all l' = .tup [.sl (l'.map cCb),.i .i64 0]:=by rw [ofR,qC (by omega)];rfl
    rw [e]
    refine jA ?_
    refine RG.ownN [(200,200),(201,201),(202,202)] [(200,200),(201,201),(202,202)] (fun q=>hM (by omega) all _ rfl q) rfl rfl rfl rfl rfl rfl rfl rfl rfl rfl ?_
    refine jH ?_
    refine RG.callMS rfl rfl rfl rfl (congrArg (fun x=>[x]) (show AV.sl (List.take (all.map cCb).length (List.drop 0 (l'.map cCb))) = .sl (l'.map cCb) by rw [uR,vL (by rw [qG,qG];omega)])) rfl (eI l') rfl ?_;refine jH ?_
    exact zS
 ·refine RG.runO ae 0 [(36,.b false)] 400 rfl jD ?_
  have e:all=A:=by
   by_cases hz:501-n=0
   ·rw [hz,cM] at hf;exact hf
   ·rw [show 501-n=(501-n-1)+1 by omega,cM] at hf
    have:(decide (n<all.length) && decide (all.length<=500))=false:=by
     rw [Bool.and_eq_false_iff]
     simp only [decide_eq_false_iff_not]
     omega
    rw [this] at hf
    exact hf
  subst e
  clear hf
  refine jB ?_
  refine zF ?_
  refine jE ?_;refine jA ?_
  refine AW.cond rfl (fun h3=>?_) (fun h3=>?_)
  ·have h3:(((all.map cCb).length:Nat):Int)>500:=of_decide_eq_true h3
   have e:ofR all l' = .tup [.sl [],.i .i64 10]:=by rw [ofR,qE (by omega)];rfl
   rw [e]
   refine zR ?_
   rfl
  ·have h3:¬(((all.map cCb).length:Nat):Int)>500:=of_decide_eq_false h3
   have hl':=hP.length_eq
   have e:ofR all l' = .tup [.sl (l'.map cCb),.i .i64 0]:=by rw [ofR,qC (by omega)];rfl
   rw [e]
   refine jA ?_
   refine RG.ownN [(200,200),(201,201),(202,202)] [(200,200),(201,201),(202,202)] (fun q=>hM (by omega) all _ rfl q) rfl rfl rfl rfl rfl rfl rfl rfl rfl rfl ?_
   refine jH ?_
   refine RG.callMS rfl rfl rfl rfl (congrArg (fun x=>[x]) (show AV.sl (List.take (all.map cCb).length (List.drop 0 (l'.map cCb))) = .sl (l'.map cCb) by rw [uR,vL (by rw [qG,qG];omega)])) rfl (eI l') rfl ?_;refine jH ?_
   exact zS
theorem pt (c:Cf)(ht:aY c.topo.ports=0)(s:Sp):aa Tryz.prog 121 [.agg (cCf c),.agg (cSp s)] (.i .i64 (aZ c.topo.ports s)):=by
 refine jb Tryz.func121 ?_
 by_cases hs:s∈aI c.topo.ports
 ·obtain⟨n,r,a,p,hr,hp,hk,rfl⟩:=dO.1 hs
  have e:aZ c.topo.ports ⟨n,a⟩=p.tenant:=by
   have h1:(c.topo.ports.getD n [])=r:=by rw [qM,hr];rfl
   have h2:r.getD a Pt.zero=p:=by rw [qM,hp];rfl
   have h3:bf c.topo.ports ⟨n,a⟩=p:=by rw [bf];simp only [vQ];rw [h1,h2]
   have h4:cK c.topo.ports ⟨n,a⟩=true:=by
    simp only [cK,qQ,vM,vQ,h1]
    exact⟨by omega,Int.ofNat_lt.2 (qD.1 hr).1,by omega,Int.ofNat_lt.2 (qD.1 hp).1⟩
   rw [aZ,h4,h3,qE hk]
   rfl
  rw [e]
  have hrx:(c.topo.ports.map aP)[n]?=some (aP r):=by rw [qF,hr];rfl
  have hpx:(r.map cPt)[a]?=some (cPt p):=by rw [qF,hp];rfl
  refine jA ?_
  refine jm (i4 c.topo.ports ht) ?_
  refine wH rfl ?_
  refine RG.callS rfl rfl rfl rfl rfl (eM _ _ true (qE hs)) rfl rfl ?_;refine jH ?_
  refine zF ?_
  refine jx hrx ?_
  refine wH rfl ?_
  refine jx hpx ?_
  refine zH ?_
  rfl
 ·have e:aZ c.topo.ports s = -1:=uu ht hs
  rw [e]
  refine jA ?_
  refine jm (i4 c.topo.ports ht) ?_
  refine wH rfl ?_
  refine RG.callS rfl rfl rfl rfl rfl (eM _ _ false (qC hs)) rfl rfl ?_;refine jH ?_
  refine zT ?_
  exact zS
theorem yC (n:Int)(r:Run):aa Tryz.prog 125 [.i .i64 n,.ro (mw r)] (.b (!gJ r n)):=by
 refine jb Tryz.func125 ?_
 refine jA ?_
 refine RG.callS rfl rfl rfl rfl rfl (zj r n _ rfl) rfl rfl ?_;refine jH ?_
 exact zS
def de (c:Cf)(s:Sp)(r:Run):Int:=if c.sound=0/\¬aZ c.topo.ports s<0 then cv c s r else 0
theorem zU (c:Cf)(s:Sp)(r:Run):aa Tryz.prog 73 [.agg (cCf c),.agg (cSp s),.agg (mw r)] (.i .i64 (de c s r)):=by
 refine jb Tryz.func73 ?_
 have hCS:=dR c
 by_cases h0:c.sound=0
 rotate_left
 ·rw [de,if_neg fun h=>h0 h.1]
  refine jA ?_
  refine jc hCS ?_;refine jH ?_
  refine AW.cond rfl (fun h=>?_) (fun h=>?_)
  ·exact absurd (of_decide_eq_true h) h0
  refine jA ?_
  refine zT ?_
  exact zS
 have hc:=Cf.ok h0
 have hsz:=iw hc.sizes
 rw [h0] at hCS
 refine jA ?_
 refine jc hCS ?_;refine jH ?_
 refine zT ?_
 refine jc (pt c hc.topo s) ?_;refine jH ?_
 refine AW.cond rfl (fun h1=>?_) (fun h1=>?_)
 ·have h1:aZ c.topo.ports s<0:=of_decide_eq_true h1
  rw [de,if_neg fun h=>h.2 h1]
  refine zR ?_
  rfl
 have h1:¬aZ c.topo.ports s<0:=of_decide_eq_false h1
 rw [de,if_pos ⟨h0,h1⟩]
 refine jA ?_
 refine AW.cond rfl (fun k3=>?_) (fun k3=>?_)
 ·have k3:r.fin=3:=of_decide_eq_true k3
  refine zR ?_
  rw [cv,if_pos k3]
  rfl
 have k3:¬r.fin=3:=of_decide_eq_false k3
 refine jA ?_
 refine AW.cond rfl (fun k4=>?_) (fun k4=>?_)
 ·have k4:r.fin=4:=of_decide_eq_true k4
  refine zR ?_
  rw [cv,if_neg k3,if_pos k4]
  rfl
 have k4:¬r.fin=4:=of_decide_eq_false k4
 refine jA ?_
 refine AW.cond rfl (fun k2=>?_) (fun k2=>?_)
 rotate_left
 ·have k2:¬r.fin=2:=by simpa using k2
  refine zR ?_
  rw [cv,if_neg k3,if_neg k4,if_neg k2]
  rfl
 have k2:r.fin=2:=by simpa using k2
 rw [cv,if_neg k3,if_neg k4,if_pos k2]
 have hfn:∀x∈vj c.pol (aZ c.topo.ports s) (aZ c.topo.ports r.at_),aa Tryz.prog 125 [.i .i64 x,.ro (mw r)] (.b (!gJ r x)):=fun x _=>yC x r
 refine jA ?_
 refine jc (pt c hc.topo r.at_) ?_;refine jH ?_
 cases ha:gz c.pol (aZ c.topo.ports s) (aZ c.topo.ports r.at_)
 ·refine RG.callS rfl rfl rfl rfl rfl (o5 c.pol _ _ _ ha) rfl rfl ?_;refine jH ?_
  refine zT ?_
  exact zS
 refine RG.callS rfl rfl rfl rfl rfl (o5 c.pol _ _ _ ha) rfl rfl ?_;refine jH ?_
 refine zF ?_
 refine RG.callMS rfl rfl rfl rfl rfl rfl (GK c.pol _ _ hsz.2) rfl ?_;refine jH ?_
 cases hv:(vj c.pol (aZ c.topo.ports s) (aZ c.topo.ports r.at_)).any (fun n=>!gJ r n)
 ·refine RG.callS rfl rfl rfl rfl rfl (fB 125 (mw r) _ _ hfn _ hv) rfl rfl ?_;refine jH ?_
  refine zF ?_
  exact zS
 ·refine RG.callS rfl rfl rfl rfl rfl (fB 125 (mw r) _ _ hfn _ hv) rfl rfl ?_;refine jH ?_
  refine zT ?_
  exact zS
def Run.zero:Run:=⟨0,⟨0,0⟩,[]⟩
def vdE (kind e:Int):Vd:=⟨kind,e,0,⟨0,0⟩,Hd.zero,Run.zero⟩
def dD (c:Cf)(V:Int):Int:=if c.sound=0 then (if V<0\/V>255 then 4 else 0) else c.sound
theorem fO (c:Cf)(V:Int):aa Tryz.prog 45 [.agg (cCf c),.i .i64 V] (.tup [.agg (cVd (vdE 3 (dD c V))),.b (!decide (dD c V=0))]):=by
 refine jb Tryz.func45 ?_
 by_cases h0:c.sound=0
 rotate_left
 ·have e:dD c V=c.sound:=by rw [dD,if_neg h0]
  rw [e]
  refine jA ?_
  refine jc (dR c) ?_
  refine wH rfl ?_;refine jB ?_
  refine AW.text ?_
  refine RG.runO ae 0 [(10,.b false)] 400 rfl jD ?_
  refine jB ?_;refine zF ?_
  exact zS
 have hCS:=dR c
 rw [h0] at hCS
 refine jA ?_
 refine jc hCS ?_
 refine wH rfl ?_;refine jB ?_
 refine AW.text ?_
 by_cases g1:V<0
 ·refine RG.runO ae 0 [(13,.b true)] 400 rfl jD ?_
  have e:dD c V=4:=by rw [dD,if_pos h0,if_pos (by omega)]
  rw [e]
  refine jB ?_;refine zT ?_
  exact zS
 ·by_cases g2:V>255
  ·refine RG.runO ae 0 [(13,.b false),(16,.b true)] 400 rfl jD ?_
   have e:dD c V=4:=by rw [dD,if_pos h0,if_pos (by omega)]
   rw [e]
   refine jB ?_;refine zT ?_
   exact zS
  ·refine RG.runO ae 0 [(13,.b false),(16,.b false)] 400 rfl jD ?_
   have e:dD c V=0:=by rw [dD,if_pos h0,if_neg (by omega)]
   rw [e]
   refine jB ?_;refine zF ?_
   exact zS
def me (c:Cf)(V:Int)(s:Sp):List aG->Option Vd
 |[]=>none
 |a::l=>bif decide (de c s (bD c s a.head V 10800)=0) then me c V s l else some ⟨2,0,de c s (bD c s a.head V 10800),s,a.head,bD c s a.head V 10800⟩
def jy (c:Cf)(V:Int)(list:List aG):List Sp->Vd
 |[]=>vdE 1 0
 |s::ss=>match me c V s list with
  |some v=>v
  |none=>jy c V list ss
def dg (c:Cf)(V:Int)(list:List aG):Vd:=bif decide (dD c V=0) then jy c V list (aI c.topo.ports) else vdE 3 (dD c V)
theorem tL (c:Cf)(V:Int)(list:List aG)(hL:dD c V=0->kg c):aa Tryz.prog 34 [.agg (cCf c),.i .i64 V,.sl (list.map av)] (.agg (cVd (dg c V list))):=by
 refine jb Tryz.func34 ?_
 rw [dg]
 by_cases h1:dD c V=0
 rotate_left
 ·have hm:=fO c V
  rw [qC h1] at hm ⊢
  refine jA ?_
  refine jm hm ?_;refine jH ?_
  refine zT ?_
  exact zS
 have hLk:=hL h1
 clear hL
 have hm:=fO c V
 rw [qE h1] at hm ⊢
 rw [h1] at hm
 rw [dD] at h1
 split at h1
 ·rename_i h0
  split at h1
  ·cases h1
  rename_i hV
  obtain⟨v,rfl⟩:∃v:Nat,V=v:=⟨V.toNat,by omega⟩
  have hV:v<=255:=by omega
  have hc:=Cf.ok h0
  have hE:=gh hc.topo
  have hme:(aI c.topo.ports).length<=9223372036854775807:=by omega
  rw [cond_true]
  refine jA ?_
  refine jm hm ?_;refine jH ?_
  refine zF ?_
  refine jm (i4 c.topo.ports hc.topo) ?_;refine jH ?_
  generalize hG:jy c v list (aI c.topo.ports)=G
  refine AW.lens 2 rfl fun hml=>?_
  rw [qG] at hml
  refine AW.loopL (ι:=Nat) (fun k=>[(1,.i .i64 (v:Nat)),(2,.sl (list.map av)),(3,.own 3 0 0),(6,.own 6 0 0),(26,.sl ((aI c.topo.ports).map cSp)),(27,.i .i64 ((aI c.topo.ports).map cSp).length),(28,.i .i64 (k:Nat))]) (fun _=>[(3,⟨0,some (.box 31 (cCf c))⟩),(6,⟨0,some (.box 45 [.i .i64 0,.i .i64 0,.i .i64 0,.i .i64 0,.i .i64 0,.u 0,.u 0,.i .i64 0,.i .i64 0,.i .i64 0,.raw (.slice none 0 0)])⟩)]) (fun k=>k<=(aI c.topo.ports).length/\jy c v list ((aI c.topo.ports).drop k)=G) (fun k=>(aI c.topo.ports).length-k) 0 ⟨qR _,hG⟩ jW jW fun k hk=>?_
  clear hG
  obtain⟨hk,hf⟩:=hk
  refine jA ?_
  refine AW.cond rfl (fun h2=>?_) (fun h2=>?_)
  rotate_left
  ·have h:¬k<(aI c.topo.ports).length:=by simpa using h2
   obtain rfl:k=(aI c.topo.ports).length:=by omega
   rw [vJ,jy] at hf
   refine zE ?_
   refine jR ?_
   rw [<- hf]
   rfl
  have h:k<(aI c.topo.ports).length:=by simpa using h2
  have hs:=vR h
  rw [qT h,jy] at hf
  refine zB ?_
  refine RG.opS rfl (aq rfl (tk rfl) rfl (tk rfl) rfl rfl (show ((aI c.topo.ports).map cSp)[k]?=some (cSp (aI c.topo.ports)[k]) by rw [qF,qA (by assumption)];rfl) rfl) rfl ?_
  generalize (aI c.topo.ports)[k]=s at hf hs
  have hns:¬aZ c.topo.ports s<0:=by
   have:=(fo hc.topo).2 hs
   omega
  refine jH ?_
  refine AW.loopL (ι:=Nat) (fun j=>[(1,.i .i64 (v:Nat)),(2,.sl (list.map av)),(3,.own 3 0 0),(6,.own 6 0 0),(26,.sl ((aI c.topo.ports).map cSp)),(27,.i .i64 ((aI c.topo.ports).map cSp).length),(28,.i .i64 (k:Nat)),(10,.own 10 0 0),(32,.sl (list.map av)),(33,.i .i64 (list.map av).length),(34,.i .i64 (j:Nat))]) (fun _=>[(3,⟨0,some (.box 31 (cCf c))⟩),(6,⟨0,some (.box 45 [.i .i64 0,.i .i64 0,.i .i64 0,.i .i64 0,.i .i64 0,.u 0,.u 0,.i .i64 0,.i .i64 0,.i .i64 0,.raw (.slice none 0 0)])⟩),(10,⟨0,some (.box 40 (cSp s))⟩)]) (fun j=>j<=list.length/\(match me c v s (list.drop j) with|some w=>w|none=>jy c v list ((aI c.topo.ports).drop (k+1)))=G) (fun j=>list.length-j) 0 ⟨qR _,hf⟩ jW jW fun j hj=>?_
  clear hf
  obtain⟨hj,hf⟩:=hj
  refine jA ?_
  refine AW.cond rfl (fun h3=>?_) (fun h3=>?_)
  rotate_left
  ·have h':¬j<list.length:=by simpa using h3
   obtain rfl:j=list.length:=by omega
   rw [vJ,me] at hf
   refine zE ?_
   exact⟨k+1,⟨⟨h,hf⟩,by omega⟩,⟨Rn.is rfl rfl,Rn.is rfl rfl,Rn.ownIs rfl rfl rfl,Rn.ownIs rfl rfl rfl,Rn.is rfl rfl,Rn.is rfl rfl,Rn.is (ay h hme) rfl,trivial⟩,jW⟩
  have h':j<list.length:=by simpa using h3
  rw [qT h',me] at hf
  refine zB ?_
  refine RG.opS rfl (aq rfl (tk rfl) rfl (tk rfl) rfl rfl (show (list.map av)[j]?=some (av list[j]) by rw [qF,qA (by assumption)];rfl) rfl) rfl ?_
  generalize list[j]=a at hf
  have hR:=Ia c h0 hLk s hs a.head v hV
  generalize bD c s a.head v 10800=r at hf hR
  refine jH ?_
  refine jm hR ?_;refine jH ?_
  refine jc (zU c s r) ?_;refine jH ?_
  refine AW.cond rfl (fun h4=>?_) (fun h4=>?_)
  ·have h4:¬de c s r=0:=by simpa using h4
   rw [qC h4,cond_false] at hf
   refine zR ?_
   rw [<- hf]
   rfl
  ·have h4:de c s r=0:=by simpa using h4
   rw [qE h4,cond_true] at hf
   refine jA ?_
   exact⟨j+1,⟨⟨h',hf⟩,by omega⟩,⟨Rn.is rfl rfl,Rn.is rfl rfl,Rn.ownIs rfl rfl rfl,Rn.ownIs rfl rfl rfl,Rn.is rfl rfl,Rn.is rfl rfl,Rn.is rfl rfl,Rn.ownIs rfl rfl rfl,Rn.is rfl rfl,Rn.is rfl rfl,Rn.is (ay h' hml) rfl,trivial⟩,jW⟩
 ·rename_i h0
  exact absurd h1 h0
def mC (c:Cf)(V:Int)(l':List Cb):Vd :=
 bif decide (dD c V=0) then (bif decide ((aL c V).length>500) then vdE 4 10 else bif decide ((bn l').2=0) then dg c V (bn l').1 else vdE 4 (bn l').2) else vdE 3 (dD c V)
theorem Eg (c:Cf)(V:Int)(l':List Cb)(hL:dD c V=0->kg c)(hS:dD c V=0->c.Small)(hP:dD c V=0->l'.Perm (aL c V))(hM:dD c V=0->(aL c V).length<=500->B6 (aL c V) l'):aa Tryz.prog 21 [.agg (cCf c),.i .i64 V] (.agg (cVd (mC c V l'))):=by
 refine jb Tryz.func21 ?_
 rw [mC]
 have hO:=tL c V (bn l').1 hL
 by_cases h1:dD c V=0
 rotate_left
 ·have hm:=fO c V
  rw [qC h1] at hm ⊢
  refine jA ?_
  refine jm hm ?_;refine jH ?_
  refine zT ?_
  exact zS
 replace hS:=hS h1
 replace hP:=hP h1
 replace hM:=hM h1
 have hm:=fO c V
 rw [qE h1] at hm ⊢
 rw [h1] at hm
 rw [dD] at h1
 split at h1
 ·rename_i h0
  split at h1
  ·cases h1
  rename_i hV
  obtain⟨v,rfl⟩:∃v:Nat,V=v:=⟨V.toNat,by omega⟩
  have hV:v<=255:=by omega
  have hOf:=HL c h0 hS v hV l' hP hM
  rw [ofR] at hOf
  rw [cond_true]
  refine jA ?_
  refine jm hm ?_;refine jH ?_
  refine zF ?_
  by_cases h2:(aL c v).length>500
  ·rw [qE h2] at hOf ⊢
   refine jm hOf ?_;refine jH ?_
   refine zT ?_
   exact zS
  rw [qC h2] at hOf ⊢
  rw [cond_false]
  refine jm hOf ?_;refine jH ?_
  refine zF ?_
  refine jm (wT l') ?_;refine jH ?_
  refine AW.cond rfl (fun h3=>?_) (fun h3=>?_)
  ·have h3:¬(bn l').2=0:=by simpa using h3
   rw [qC h3,cond_false]
   refine zR ?_
   rfl
  ·have h3:(bn l').2=0:=by simpa using h3
   rw [qE h3,cond_true]
   refine jA ?_
   refine jm hO ?_;refine jH ?_
   exact zS
 ·rename_i h0
  exact absurd h1 h0
section
variable {P:Program} {N:Nat} {o:Oper} {s:St}
theorem fN {t e len id : Nat} {ti ei : TI} {parts : Array (Nat × Operand)} {xs cs : List AV} (ho : o.op = .buildSlice t len parts) (ht : aB P t ti) (hk : ti.k = .slice e) (he : aB P e ei) (h1 : ei.n = 1) (hlen : 0 < len) (hbig : Nat.ble len 1000000 = true)
    (hx:parts.toList.map (fun p=>s.ev p.2)=xs) (hf:kP (fun i=>some (i*ei.n,ei.n)) (List.replicate len ei.z).flatten ((parts.toList.map (·.1)).zip xs)=some cs) (hl:cs.length=len) (hone:cs.all AV.one=true) :
    ax P N o s ⟨.ref id ((s.σ id).ep+1) (.sl 0 len len),[(id,⟨(s.σ id).ep+1,some (.box e cs)⟩)],[]⟩:=by
  subst hx
  have hbig:=qW hbig
  refine f9 [] fun s' W F μ a g1 g2 hid hs=>?_
  obtain⟨inf,d,z,q1,q2,q3,q4,q5,q6,q7⟩:=he.h
  have hp:=ji (s:=s) hs (parts:=parts) fun p hp=>g1 p.2 (by rw [ho];simp only [Op.operands,vI];exact⟨p,hp,rfl⟩)
  have hzr:=da (W:=W) (F:=F) q7
  have hzn:=he.zl
  have hzl:ei.z.length=z.cells.size:=by rw [<- qL];exact hzr.1.symm
  have hzip:(parts.toList.map (·.1)).zip (parts.toList.map fun p=>s.ev p.2)=parts.toList.map fun p=>(p.1,s.ev p.2):=by
    rw [List.zip_map']
  rw [hzip] at hf
  obtain⟨us,k1,k2,k3⟩:=kh (W:=W) (F:=F) (μ:=μ) (σ:=s'.σ) (parts.toList.map fun p=>(p.1,s.ev p.2)) (parts.map fun (p:Nat × Operand)=>(p.1,a.eval p.2)).toList (List.replicate len ei.z).flatten
    ((Array.range (len*ei.n)).map (z.cells[· % z.cells.size]!)) cs hp.1 hp.2 (by rw [gm (m:=ei.n) (by intro cs hcs;rw [(List.mem_replicate.1 hcs).2];exact hzn)];simp) (fun j x v hx hv=>by
      have hj:j<len*ei.n:=by
        have:=(qD.1 hx).1
        rw [gm (m:=ei.n) (by intro cs hcs;rw [(List.mem_replicate.1 hcs).2];exact hzn)] at this
        simpa using this
      rw [nC _ _ _ (by rw [hzn];exact hj),hzn] at hx
      rw [Array.getElem?_map] at hv
      have:(Array.range (len*ei.n))[j]?=some j:=by simp [hj]
      rw [this] at hv
      have hlt:j % ei.n<z.cells.size:=by rw [<- hzl,hzn];exact kB2 _ (by omega)
      have hv':z.cells.toList[j % ei.n]?=some v:=by
        rw [vO,uL hlt]
        simp only [Option.map_some,<- hzl,hzn] at hv
        rw [getElem!_pos z.cells _ hlt] at hv
        exact hv
      have:=hzr.2 _ x v hx hv'
      exact⟨this.2,.pure this.1⟩) hf
  have hpos:¬len*ei.n=0:=by rw [h1];omega
  refine⟨.slice (some ⟨W.heap.size,0,none⟩) len len,us.toList,e,len,?_,fun μ' σ' hst hσ hμ=>⟨⟨W.heap.size,len,us.toList,rfl,kA5 W _,by simp [k2],fun j x v hx hv=>?_⟩,.ref id _ (.sl 0 len len) _ (by rw [hσ];exact qJ _) rfl fun bd hbd=>⟨W.heap.size,len,hμ,rfl⟩⟩⟩
  · have e3:us.toList.toArray=us:=by simp
    have hrun:=run_buildSlice (P:=P) W t e len (parts.map fun (p:Nat × Operand)=>(p.1,a.eval p.2)) us inf z (ht.slice hk) q1 q6 (by rw [q3,h1];omega) (by rw [q3];exact hpos) (by rw [q3];exact k1)
    simp only [execOp,ho,kA2,hrun,kA1,kA3,e3]
  · obtain⟨r1,r2⟩:=k3 j x v hx (by simpa using hv)
    exact⟨r1,r2.stp hs.inv hst⟩
theorem lT (k:Nat){t e id ep n cap ty:Nat}{ti ei:TI}{x i:Operand}{kd:IntKind}{cs:List AV}(ho:o.op = .indexAddr t x i)(ht:aB P t ti)(hk:ti.k = .slice e)(he:aB P e ei)(h1:ei.n=1)(hx:s.ev x = .ref id ep (.sl 0 n cap))(hid:s.σ id=⟨ep,some (.box ty cs)⟩)(hi:s.ev i = .i kd (k:Int))(hlt:k<n) :
  ax P N o s ⟨.own id ep k,[],[id]⟩:=by
 refine az [id] _ fun s' W F μ a g1 g2 hs=>?_
 have hid':=(g2 id (by simp)).trans hid
 have ex:=hs.ev x
 rw [g1 x (by rw [ho];simp [Op.operands]),hx] at ex
 have ei':=hs.ev i
 rw [g1 i (by rw [ho];simp [Op.operands]),hi] at ei'
 obtain⟨b,c,hm,hv⟩:=(Rel.ref' ex).2.2 _ hid'
 have hcond:(0:Int)<=(k:Int)/\(k:Int)<(n:Int):=by omega
 refine⟨.pointer (some ⟨b,k,none⟩),?_,.own id ep k _ (by rw [hid'];exact qJ _) rfl fun bd hbd=>⟨b,c,hm,rfl⟩⟩
 have h0:(0:Nat)+k*ei.n=k:=by rw [h1];omega
 simp only [execOp,ho,Instr.indexAt,hv,RK.val,ei'.i',asIntOf,kA2,kA3,kA1,kA9 (ht.slice hk),if_pos hcond,he.size,vQ,fY (W:=W),h0]
end
def kK (σ:Sto)(π π':List (Nat × Nat))(ks:List Nat)(B1:List (Nat × SB))(id:Nat):Prop :=
 ∃k∈ks,(id,k)∈π/\(k,id)∈π'/\∃bd bd1,lkB B1 k=⟨0,some bd1⟩/\(σ id).body=some bd/\bd1.sh=bd.sh
def epR (ir:Nat)(σ:Sto)(π π':List (Nat × Nat))(ks:List Nat)(B1:List (Nat × SB))(id:Nat):Nat:=cond (Nat.beq id ir) (σ id).ep (ep2 σ π π' ks B1 id)
theorem RG.ownE {P:Program}{N:Nat}{ops:Array Oper}{rest:List Oper}{s:St}{K:St -> List Eff -> Prop}{o:Oper}{c:Call}{f:FuncId}{xs zs zs':List AV}{r r':AV}{π π':List (Nat × Nat)}{ks:List Nat}{B0 B0' B1 up0:List (Nat × SB)}{d:Option Nat}(ir:Nat)
  (hrow:kK s.σ π π' ks B1 ir)
  (h:∀q,aj P f zs (gl q ks B0) r (gl q ks B1)) (hg:gd ops s o=some true) (ho:o.op = .call c) (ha:fA s c=some (f,xs))
  (hz:fD (xs.map (rmA π s.σ (fun _=>0)))=some zs') (hz':zs'.map deN=zs) (hb:rmS π s.σ (fun _=>0) π=some B0') (hb':B0'=B0)
  (hu:rmS π' (lkB B1) (epR ir s.σ π π' ks B1) π'=some up0) (hr':rmA π' (lkB B1) (epR ir s.σ π π' ks B1) r=some r') (hk:okO s.σ π π' B0=true) (hd:o.dst=d)
  (hr:RG P N ops rest ⟨eH N s.ts d r',ups s.σ (up0++gone s.σ π' π)⟩ fun s' Es=>K s' (⟨r',up0++gone s.σ π' π,[]⟩::Es)):RG P N ops (o::rest) s K:=by
 subst hz' hb' hd
 unfold fA at ha
 split at ha
 case h_2=>cases ha
 rename_i fop hc
 split at ha
 case h_2=>cases ha
 rename_i f' first caps hf
 simp only [qU,vC] at ha
 obtain⟨rfl,rfl⟩:=ha
 simp only [okO,qQ] at hk
 obtain⟨⟨⟨⟨⟨⟨k1,k2⟩,k3⟩,k4⟩,k5⟩,k6⟩,k7⟩:=hk
 have n1:=bq k1
 have n3:=bq k3
 obtain⟨u1,u2⟩:=iF hu
 obtain⟨b1,b2⟩:=iF hb
 have hkeys:((up0++gone s.σ π' π).map (·.1)).Nodup:=by rw [uB,u1];exact bq k7
 have hat:∀q∈up0++gone s.σ π' π,ups s.σ (up0++gone s.σ π' π) q.1=q.2:=fun q hq=>ql hkeys hq
 have hS0:RmS π s.σ (lkB B0') (fun _=>0):=i8 hb (fun q hq=>rk (by rw [b1];exact n1) hq) n1
 have hS1:RmS π' (lkB B1) (ups s.σ (up0++gone s.σ π' π)) (epR ir s.σ π π' ks B1):=i8 hu (fun q hq=>hat q (vS _ hq)) n3
 obtain⟨z1,z2⟩:=eK hz
 have hE:∀id,(s.σ id).ep<=epR ir s.σ π π' ks B1 id:=fun id=>by
  unfold epR ep2
  cases Nat.beq id ir
  ·rw [cond_false]
   cases nW s.σ π π' ks B1 id
   ·exact Nat.le_succ _
   ·exact qJ _
  ·exact qJ _
 have hE2:∀id,epR ir s.σ π π' ks B1 id=(s.σ id).ep->kK s.σ π π' ks B1 id:=fun id he=>by
  unfold epR at he
  cases hq:Nat.beq id ir
  ·rw [hq,cond_false] at he
   unfold ep2 at he
   cases hk:nW s.σ π π' ks B1 id
   ·rw [hk,cond_false] at he;omega
   ·exact pT hk
  ·rw [qY hq];exact hrow
 have body2:∀id∈(up0++gone s.σ π' π).map (·.1),∀bd2,(ups s.σ (up0++gone s.σ π' π) id).body=some bd2->∃p∈π',p.2=id/\ups s.σ (up0++gone s.σ π' π) id=⟨epR ir s.σ π π' ks B1 id,some bd2⟩/\∃bd,(lkB B1 p.1).body=some bd/\rmB π' (lkB B1) (epR ir s.σ π π' ks B1) bd=some bd2:=fun id hid bd2 hb2=>by
  obtain⟨q,hq,rfl⟩:=vI.1 hid
  rw [hat q hq] at hb2 ⊢
  rcases vB.1 hq with h1|h1
  ·obtain⟨p,hp,e1,bd,bd',e2,e3,e4⟩:=u2 q h1
   rw [e4] at hb2
   obtain rfl:=qB hb2
   exact⟨p,hp,e1,by rw [e4,e1],bd,e2,e3⟩
  ·rw [(eO h1).1] at hb2
   cases hb2
 refine RG.opB hg (xi (h fun _=>none).fn ho hc hf) (ip (π := π) (π' := π') (ks := ks) ho hc hf h (by rw [qG]; exact z1) (fun j x z hx hz=>by
   rw [qF] at hz
   obtain⟨y,hy,rfl⟩:=vT.1 hz
   exact (kV hS0 (z2 j x y hx hy)).deN) n1 (bq k2) (fun p hp=>qW (qV.1 k5 p hp)) (fun k bd' hbd=>?_) (fun p hp=>?_) n3
  (fun p hp q hq e=>?_) (fun p hp=>qW (qV.1 k6 p hp)) (fun p hp=>?_) (fun id hid bd2 hb2=>?_) (fun id hid=>?_) (fun id hid he bd2 hb2=>?_) (kV hS1 hr')) hr
 ·obtain⟨q,hq,e1,e2⟩:=iB hbd
  obtain⟨p,hp,e3,bd,bd1,e4,e5,e6⟩:=b2 q hq
  rw [<- e2,e6] at hbd
  obtain rfl:=qB hbd
  exact⟨p,hp,e3.trans e1,bd,e4,gL hS0 e5⟩
 ·rw [uB,vB,u1]
  exact (iI hp).symm
 ·have:∀ (l:List (Nat × Nat)),(l.map (·.1)).Nodup -> p ∈ l -> q ∈ l -> p = q := by
   intro l
   induction l with
   |nil=>intro _ h;cases h
   |cons a l ih=>
    intro hl h5 h6
    rw [vE,vV] at hl
    rcases vA.1 h5 with g5|g5 <;> rcases vA.1 h6 with g6|g6
    ·rw [g5,g6]
    ·exact (hl.1 (by rw [<- g5,e];exact qX (f:=(·.1)) g6)).elim
    ·exact (hl.1 (by rw [<- g6,<- e];exact qX (f:=(·.1)) g5)).elim
    ·exact ih hl.2 g5 g6
  exact this π' (bq k4) hp hq
 ·rw [uB,vB,u1]
  exact .inl (qX (f:=(·.2)) hp)
 ·obtain⟨p,hp,e1,_,bd,e2,e3⟩:=body2 id hid bd2 hb2
  exact⟨p,hp,e1,bd,e2,gL hS1 e3⟩
 ·obtain⟨q,hq,rfl⟩:=vI.1 hid
  rw [hat q hq]
  rcases vB.1 hq with h1|h1
  ·obtain⟨p,hp,e1,bd,bd',e2,e3,e4⟩:=u2 q h1
   rw [e4,e1]
   exact hE q.1
  ·rw [(eO h1).1];exact qJ _
 ·obtain⟨p,hp,e1,e0,bd,e2,e3⟩:=body2 id hid bd2 hb2
  rw [e0] at he
  obtain⟨k,hk,m1,m2,bd0,bd1,g1,g2,g3⟩:=hE2 id he
  have hbd:rmB π' (lkB B1) (epR ir s.σ π π' ks B1) bd1=some bd2:=by
   have:p=(k,id):=by
    have:∀(l:List (Nat × Nat)),(l.map (·.2)).Nodup->p∈l->(k,id)∈l->p=(k,id):=by
     intro l
     induction l with
     |nil=>intro _ h;cases h
     |cons a l ih=>
      intro hl h5 h6
      rw [vE,vV] at hl
      rcases vA.1 h5 with g5|g5 <;> rcases vA.1 h6 with g6|g6
      ·rw [g5,g6]
      ·exact (hl.1 (by rw [<- g5,e1];exact qX (f:=(·.2)) g6)).elim
      ·exact (hl.1 (by rw [<- g6];show id∈_;rw [<- e1];exact qX (f:=(·.2)) g5)).elim
      ·exact ih hl.2 g5 g6
    exact this π' n3 hp m2
   rw [this] at e2
   have:bd=bd1:=qB (e2.symm.trans (by show (lkB B1 k).body=_;rw [g1]))
   rw [<- this];exact e3
  refine⟨k,hk,m1,m2,⟨bd1,g1⟩,bd0,g2,?_⟩
  rw [<- g3]
  have hR:=gL hS1 hbd
  cases hR with
  |box hl _ _=>show (true,_,_,0)=(true,_,_,0);rw [hl]
  |row=>rfl
  |obj=>rfl
def EX (ir:Nat)(σ:Sto)(π π':List (Nat × Nat))(ks:List Nat)(B1:List (Nat × SB))(r:AV):Option (AV × List (Nat × SB)) :=
 match rmS π' (lkB B1) (epR ir σ π π' ks B1) π',rmA π' (lkB B1) (epR ir σ π π' ks B1) r with
 |some up0,some r'=>rj r' fun r'=>cu (up0++gone σ π' π) fun up=>some (r',up)
 |_,_=>none
theorem kK.mk' {σ:Sto}{π π':List (Nat × Nat)}{ks:List Nat}{B1:List (Nat × SB)}{id k t m:Nat}{els els':List (List AV)}(hb:(ks.any (Nat.beq k) && π.any (fun p=>Nat.beq p.1 id && Nat.beq p.2 k) && π'.any (fun p=>Nat.beq p.1 k && Nat.beq p.2 id))=true)
  (h1:lkB B1 k=⟨0,some (.row t m els')⟩) (h2:(σ id).body=some (.row t m els)) (hl:els'.length=els.length):kK σ π π' ks B1 id:=by
 simp only [qQ] at hb
 obtain⟨⟨b1,b2⟩,b3⟩:=hb
 obtain⟨k',m1,e1⟩:=List.any_eq_true.1 b1
 obtain⟨p,m2,e2⟩:=List.any_eq_true.1 b2
 obtain⟨p',m3,e3⟩:=List.any_eq_true.1 b3
 rw [qQ] at e2 e3
 refine⟨k,?_,?_,?_,_,_,h1,h2,?_⟩
 ·rw [qY e1];exact m1
 ·rw [<- qY e2.1,<- qY e2.2];exact m2
 ·rw [<- qY e3.1,<- qY e3.2];exact m3
 ·show (false,t,m,els'.length)=(false,t,m,els.length)
  rw [hl]
theorem RG.ownK {P:Program}{N:Nat}{ops:Array Oper}{rest:List Oper}{ts:Nat->AV}{σ:Sto}{K:St->List Eff->Prop}{o:Oper}{c:Call}{f:FuncId}{xs zs zs':List AV}{r r':AV}(π π':List (Nat × Nat))(ir kr:Nat){t m:Nat}{els els':List (List AV)}{ks:List Nat}{B0 B0' B1 up:List (Nat × SB)}{d:Option Nat}
  (hl:els'.length=els.length) (h:∀q,aj P f zs (gl q ks B0) r (gl q ks B1)) (hg:gd ops ⟨ts,σ⟩ o=some true) (ho:o.op = .call c) (ha:fA ⟨ts,σ⟩ c=some (f,xs))
  (hkb:(ks.any (Nat.beq kr) && π.any (fun p=>Nat.beq p.1 ir && Nat.beq p.2 kr) && π'.any (fun p=>Nat.beq p.1 kr && Nat.beq p.2 ir))=true)
  (h1:lkB B1 kr=⟨0,some (.row t m els')⟩) (h2:(σ ir).body=some (.row t m els))
  (hz:fD (xs.map (rmA π σ (fun _=>0)))=some zs') (hz':zs'.map deN=zs) (hb:rmS π σ (fun _=>0) π=some B0') (hb':B0'=B0)
  (hu:EX ir σ π π' ks B1 r=some (r',up)) (hk:okO σ π π' B0=true) (hd:o.dst=d)
  (hr:RG P N ops rest ⟨eH N ts d r',ups σ up⟩ fun s' Es=>K s' (⟨r',up,[]⟩::Es)):RG P N ops (o::rest) ⟨ts,σ⟩ K:=by
 unfold EX at hu
 split at hu
 ·rename_i up0 r1 e1 e2
  simp only [kS,co,qU,vC] at hu
  obtain⟨rfl,rfl⟩:=hu
  exact RG.ownE ir (kK.mk' hkb h1 h2 hl) h hg ho ha hz hz' hb hb' e1 e2 hk hd hr
 ·cases hu
open Go.Sort (swp)
section
variable {α:Type} [Inhabited α]
theorem bj (d:Array α)(i j:Nat):(swp d i j).toList=(d.toList.set i d[j]!).set j d[i]!:=by
 simp [swp,Array.toList_setIfInBounds]
theorem bg (d:Array α)(i j:Nat):(swp d i j).size=d.size:=by simp [swp]
theorem CZ (d:Array α){i:Nat}(h:i<d.size):d.toList[i]?=some d[i]!:=by
 rw [vO,uL h,getElem!_pos d i h]
def Pm (d d':Array α):Prop:=d'.size=d.size/\d'.toList.Perm d.toList
omit [Inhabited α] in
theorem Pm.refl (d:Array α):Pm d d:=⟨rfl,List.Perm.refl _⟩
omit [Inhabited α] in
theorem Pm.trans {d d' d'':Array α}(h:Pm d d')(k:Pm d' d''):Pm d d'':=⟨k.1.trans h.1,k.2.trans h.2⟩
theorem Pm.swp (d:Array α){i j:Nat}(hi:i<d.size)(hj:j<d.size):Pm d (swp d i j):=by
 refine⟨bg d i j,?_⟩
 rw [bj,getElem!_pos d i hi,getElem!_pos d j hj,<- Array.getElem_toList,<- Array.getElem_toList]
 exact Go.Sort.perm_set_set d.toList i j (by simpa using hi) (by simpa using hj)
variable (lt:α -> α -> Bool)
theorem lN (a:Nat):∀(j:Nat) (d:Array α),j<d.size->Pm d (Go.Sort.insInner lt a j d)
 |0,d,_=>Pm.refl d
 |j+1,d,h=>by
  rw [Go.Sort.insInner]
  split
  ·exact (Pm.swp d h (by omega)).trans (lN a j _ (by rw [bg];omega))
  ·exact Pm.refl d
theorem mf (a b:Nat):∀(f i:Nat) (d:Array α),b-i<=f->b<=d.size->Pm d (Go.Sort.insOuter lt a b i d)
 |0,i,d,hf,hb=>by
  rw [Go.Sort.insOuter,if_neg (by omega)]
  exact Pm.refl d
 |f+1,i,d,hf,hb=>by
  rw [Go.Sort.insOuter]
  split
  ·rename_i h
   have h1:=lN lt a i d (by omega)
   exact h1.trans (mf a b f (i+1) _ (by omega) (by rw [h1.1];exact hb))
  ·exact Pm.refl d
theorem ot (d:Array α)(a b:Nat)(hb:b<=d.size):Pm d (Go.Sort.insertionSort lt d a b):=mf lt a b _ _ d (qJ _) hb
def gc (a b n i:Nat)(d:Array α):Array α:=if i<n then gc a b n (i+1) (swp d (a+i) (b+i)) else d
termination_by n-i
theorem fq (a b n:Nat):∀(f i:Nat) (d:Array α),n-i<=f->a+n<=d.size->b+n<=d.size->Pm d (gc a b n i d)
 |0,i,d,hf,h1,h2=>by
  rw [gc,if_neg (by omega)]
  exact Pm.refl d
 |f+1,i,d,hf,h1,h2=>by
  rw [gc]
  split
  ·exact (Pm.swp d (by omega) (by omega)).trans (fq a b n f (i+1) _ (by omega) (by rw [bg];exact h1) (by rw [bg];exact h2))
  ·exact Pm.refl d
def vu (m:Nat):Nat->Nat->Nat->Array α->Array α
 |0,_,_,d=>d
 |f+1,i,j,d=>if i=j then gc (m-i) m i 0 d else if i>j then vu m f (i-j) j (gc (m-i) m j 0 d) else vu m f i (j-i) (gc (m-i) (m+j-i) i 0 d)
theorem rC (m:Nat):∀(f i j:Nat) (d:Array α),i<=m->m+j<=d.size->Pm d (vu m f i j d)
 |0,_,_,d,_,_=>Pm.refl d
 |f+1,i,j,d,h1,h2=>by
  rw [vu]
  split
  ·exact fq _ _ _ _ _ d (qJ _) (by omega) (by omega)
  ·split
   ·have h:=fq (m-i) m j _ 0 d (qJ _) (by omega) (by omega)
    exact h.trans (rC m f _ _ _ (by omega) (by rw [h.1];omega))
   ·have h:=fq (m-i) (m+j-i) i _ 0 d (qJ _) (by omega) (by omega)
    exact h.trans (rC m f _ _ _ (by omega) (by rw [h.1];omega))
def p8 (d:Array α)(a m b:Nat):Array α:=vu m (b-a) (m-a) (b-m) d
def bsr (p:Nat->Bool)(i j:Nat):Nat:=if h:i<j then (if p ((i+j) / 2) then bsr p ((i+j) / 2+1) j else bsr p i ((i+j) / 2)) else i
termination_by j-i
decreasing_by all_goals omega
theorem ee (p:Nat->Bool):∀(f i j:Nat),j-i<=f->i<=j->i<=bsr p i j/\bsr p i j<=j
 |0,i,j,hf,hij=>by
  rw [bsr,dif_neg (by omega)]
  omega
 |f+1,i,j,hf,hij=>by
  rw [bsr]
  split
  ·split
   ·have:=ee p f ((i+j) / 2+1) j (by omega) (by omega)
    omega
   ·have:=ee p f i ((i+j) / 2) (by omega) (by omega)
    omega
  ·omega
def rZ (e k:Nat)(d:Array α):Array α:=if k<e then rZ e (k+1) (swp d k (k+1)) else d
termination_by e-k
theorem wK (e:Nat):∀(f k:Nat) (d:Array α),e-k<=f->e<d.size->Pm d (rZ e k d)
 |0,k,d,hf,h=>by
  rw [rZ,if_neg (by omega)]
  exact Pm.refl d
 |f+1,k,d,hf,h=>by
  rw [rZ]
  split
  ·exact (Pm.swp d (by omega) (by omega)).trans (wK e f (k+1) _ (by omega) (by rw [bg];exact h))
  ·exact Pm.refl d
def rc (i:Nat):Nat->Array α->Array α
 |0,d=>d
 |k+1,d=>if k+1>i then rc i k (swp d (k+1) k) else d
theorem xz (i:Nat):∀(k:Nat) (d:Array α),k<d.size->Pm d (rc i k d)
 |0,d,_=>Pm.refl d
 |k+1,d,h=>by
  rw [rc]
  split
  ·exact (Pm.swp d (by omega) (by omega)).trans (xz i k _ (by rw [bg];omega))
  ·exact Pm.refl d
def cU (d:Array α)(a m b:Nat):Nat :=
 bsr (fun c=>!lt d[(a+b) / 2+m-1-c]! d[c]!) (if m>(a+b) / 2 then (a+b) / 2+m-b else a) (if m>(a+b) / 2 then (a+b) / 2 else m)
def sm2 (F:Nat->Nat->Nat->Array α->Array α)(d:Array α)(a s b:Nat):Array α:=bif decide (a<s/\s<b) then F a s b d else d
def pU (F:Nat->Nat->Nat->Array α->Array α)(a b mid s e:Nat)(d:Array α):Array α:=sm2 F (sm2 F d a s mid) mid e b
def sm1 (d:Array α)(s m e:Nat):Array α:=bif decide (s<m/\m<e) then p8 d s m e else d
def bc:Nat->Nat->Nat->Nat->Array α->Array α
 |0,_,_,_,d=>d
 |f+1,a,m,b,d=>
  if m-a=1 then rZ (bsr (fun h=>lt d[h]! d[a]!) m b-1) a d else
  if b-m=1 then rc (bsr (fun h=>!lt d[m]! d[h]!) a m) m d else
  pU (fun a m b d=>bc f a m b d) a b ((a+b) / 2) (cU lt d a m b) ((a+b) / 2+m-cU lt d a m b) (sm1 d (cU lt d a m b) m ((a+b) / 2+m-cU lt d a m b))
theorem jF (d:Array α){a m b:Nat}(h1:a<m)(h2:m<b):a<=cU lt d a m b/\cU lt d a m b<=(if m>(a+b) / 2 then (a+b) / 2 else m)/\(if m>(a+b) / 2 then (a+b) / 2+m-b else a)<=cU lt d a m b:=by
 have h:=ee (fun c=>!lt d[(a+b) / 2+m-1-c]! d[c]!) _ (if m>(a+b) / 2 then (a+b) / 2+m-b else a) (if m>(a+b) / 2 then (a+b) / 2 else m) (qJ _) (by split <;> omega)
 rw [cU]
 refine⟨vH ?_ h.1,h.2,h.1⟩
 split <;> omega
theorem Ay {d:Array α}{s m e:Nat}(h:e<=d.size):Pm d (sm1 d s m e):=by
 rw [sm1]
 by_cases k:s<m/\m<e
 ·rw [qE k,cond_true]
  exact rC _ _ _ _ _ (by omega) (by omega)
 ·rw [qC k,cond_false]
  exact Pm.refl d
theorem cZ:∀(f a m b:Nat) (d:Array α),a<m->m<b->b<=d.size->Pm d (bc lt f a m b d)
 |0,_,_,_,d,_,_,_=>Pm.refl d
 |f+1,a,m,b,d,h1,h2,h3=>by
  rw [bc]
  split
  ·have h:=ee (fun h=>lt d[h]! d[a]!) _ m b (qJ _) (by omega)
   exact wK _ _ _ d (qJ _) (by omega)
  split
  ·exact xz _ _ d (by omega)
  have hs:=jF lt d h1 h2
  generalize cU lt d a m b=s at hs ⊢
  have e1:Pm d (sm1 d s m ((a+b) / 2+m-s)):=by
   refine Ay ?_
   have:=hs.2.2
   split at this <;> omega
  generalize sm1 d s m ((a+b) / 2+m-s)=d1 at e1
  rw [pU]
  have e2:Pm d1 (sm2 (fun a m b d=>bc lt f a m b d) d1 a s ((a+b) / 2)):=by
   rw [sm2]
   by_cases h:a<s/\s<(a+b) / 2
   ·rw [qE h,cond_true]
    exact cZ f a s _ d1 h.1 h.2 (by rw [e1.1];omega)
   ·rw [qC h,cond_false]
    exact Pm.refl d1
  generalize sm2 (fun a m b d=>bc lt f a m b d) d1 a s ((a+b) / 2)=d2 at e2
  refine e1.trans (e2.trans ?_)
  rw [sm2]
  by_cases h:(a+b) / 2<(a+b) / 2+m-s/\(a+b) / 2+m-s<b
  ·rw [qE h,cond_true]
   exact cZ f _ _ b d2 h.1 h.2 (by rw [e2.1,e1.1];exact h3)
  ·rw [qC h,cond_false]
   exact Pm.refl d2
def xY (n:Nat):Nat->Nat->Nat->Array α->Array α
 |0,_,_,d=>d
 |f+1,a,b,d=>if b<=n then xY n f b (b+20) (Go.Sort.insertionSort lt d a b) else Go.Sort.insertionSort lt d a n
theorem xx (n:Nat):∀(f a b:Nat) (d:Array α),n<=d.size->Pm d (xY lt n f a b d)
 |0,_,_,d,_=>Pm.refl d
 |f+1,a,b,d,h=>by
  rw [xY]
  split
  ·have h1:=ot lt d a b (by omega)
   exact h1.trans (xx n f _ _ _ (by rw [h1.1];exact h))
  ·exact ot lt d a n h
def pR (n s:Nat):Nat->Nat->Nat->Array α->Array α
 |0,_,_,d=>d
 |f+1,a,b,d=>if b<=n then pR n s f b (b+2*s) (bc lt (b-a) a (a+s) b d) else if a+s<n then bc lt (n-a) a (a+s) n d else d
theorem qm (n s:Nat)(hs:0<s):∀(f a b:Nat) (d:Array α),n<=d.size->b=a+2*s->Pm d (pR lt n s f a b d)
 |0,_,_,d,_,_=>Pm.refl d
 |f+1,a,b,d,h,hb=>by
  rw [pR]
  split
  ·have h1:=cZ lt (b-a) a (a+s) b d (by omega) (by omega) (by omega)
   exact h1.trans (qm n s hs f _ _ _ (by rw [h1.1];exact h) rfl)
  ·split
   ·exact cZ lt (n-a) a (a+s) n d (by omega) (by omega) h
   ·exact Pm.refl d
def rX (n:Nat):Nat->Nat->Array α->Array α
 |0,_,d=>d
 |f+1,s,d=>if s<n then rX n f (2*s) (pR lt n s (n+1) 0 (2*s) d) else d
theorem wt (n:Nat):∀(f s:Nat) (d:Array α),0<s->n<=d.size->Pm d (rX lt n f s d)
 |0,_,d,_,_=>Pm.refl d
 |f+1,s,d,hs,h=>by
  rw [rX]
  split
  ·have h1:=qm lt n s hs (n+1) 0 (2*s) d h (by omega)
   exact h1.trans (wt n f _ _ (by omega) (by rw [h1.1];exact h))
  ·exact Pm.refl d
def jM (d:Array α):Array α:=rX lt d.size (d.size+1) 20 (xY lt d.size (d.size+1) 0 20 d)
theorem pc (d:Array α):Pm d (jM lt d):=by
 have h:=xx lt d.size (d.size+1) 0 20 d (qJ _)
 exact h.trans (wt lt d.size _ 20 _ (by decide) (by rw [h.1];exact qJ _))
end
end Go.Proofs.YtdidjpohnopihaaGreat.Sm
end
section
namespace Go.Proofs.YtdidjpohnopihaaGreat.Sm
open Go.RowKit
open Go.Sort (swp)
section
variable {P:Program} {N:Nat} {o:Oper} {s:St}
theorem FD {α:Type}(k:Nat)(cF:α->List AV)(l:List α){z:Int}{t e id ep n:Nat}{ti ei:TI}{x i:Operand}{kd:IntKind}(hlt:k<n)(ho:o.op = .indexAddr t x i)(ht:aB P t ti)(hk:ti.k = .slice e)(he:aB P e ei)(hx:s.ev x = .row id ep 0 n)(hid:s.σ id=⟨ep,some (.row e ei.n (l.map cF))⟩)(hi:s.ev i = .i kd z)(hz:z=(k:Int)) :
  ax P N o s ⟨.el id ep k 0,[],[id]⟩:=gA k cF l hlt ho ht hk he hx hid (hz ▸ hi)
theorem Fr {α:Type}[Inhabited α](k:Nat)(cF:α->List AV)(d:Array α)(hk:k<d.size){v:AV}{t ty m id ep:Nat}{ti:TI}{p:Operand}(ho:o.op = .load t p)(ht:aB P t ti)(hp:s.ev p = .el id ep k 0)(hid:s.σ id=⟨ep,some (.row ty m (d.toList.map cF))⟩)(hr:ldA ti (cF d[k]!)=some v) :
  ax P N o s ⟨v,[],[id]⟩:=by
 refine gI ho ht (cs:=(cF d[k]!).drop 0) (by rw [hp];exact .el hid (by rw [qF,CZ d hk];rfl)) ?_
 rw [uR]
 exact hr
theorem Ap {xs ys:List AV}(h:xs.length=ys.length):ovw xs 0 ys=ys:=by
 apply List.ext_getElem?
 intro i
 rw [gS _ _ _ _ (by omega)]
 by_cases hi:i<ys.length
 ·rw [if_pos (by omega),Nat.sub_zero]
 ·rw [if_neg (by omega),vX (by omega),vX (by omega)]
theorem aS {α:Type}(k:Nat)(cF:α->List AV)(l:List α)(c:α)(hk:k<l.length){t ty m id ep:Nat}{ti:TI}{p x:Operand}(ho:o.op = .store t p x)(ht:aB P t ti)(hp:s.ev p = .el id ep k 0)(hid:s.σ id=⟨ep,some (.row ty m (l.map cF))⟩)(hx:(s.ev x).cells=cF c)
  (h1:(cF c).all AV.one=true) (h2:(cF c).all AV.pu1=true) (hn:∀y,(cF y).length=ti.n):ax P N o s ⟨.tup [],[(id,⟨ep,some (.row ty m ((l.set k c).map cF))⟩)],[]⟩:=by
 have hkk:(l.map cF)[k]?=some (cF l[k]):=by rw [qF,qA hk];rfl
 have h:=lr (N:=N) ho ht hp hid hkk hx h1 h2 (hn c) (by rw [hn];omega)
 rw [Ap (by rw [hn,hn])] at h
 rw [List.map_set]
 exact h
def IxA {α:Type}(_:Nat)(_:α->List AV)(_:List α):Prop:=True
def LdA {α:Type}(_:Nat)(_:α->List AV)(_:Array α):Prop:=True
theorem ia {α:Type}(k:Nat)(F:α->List AV)(l:List α):IxA k F l:=trivial
theorem lA {α:Type}(k:Nat)(F:α->List AV)(l:Array α):LdA k F l:=trivial
theorem Ff {P:Program}{N:Nat}{o:Oper}{s:St}{α:Type}{k:Nat}{cF:α->List AV}{l:List α}(_:IxA k cF l){z:Int}{t e id ep n:Nat}{ti ei:TI}{x i:Operand}{kd:IntKind}(hlt:k<n)(ho:o.op = .indexAddr t x i)(ht:aB P t ti)(hk:ti.k = .slice e)(he:aB P e ei)(hx:s.ev x = .row id ep 0 n)(hid:s.σ id=⟨ep,some (.row e ei.n (l.map cF))⟩)(hi:s.ev i = .i kd z)(hz:z=(k:Int)):ax P N o s ⟨.el id ep k 0,[],[id]⟩:=FD k cF l hlt ho ht hk he hx hid hi hz
theorem FV {P:Program}{N:Nat}{o:Oper}{s:St}{α:Type}[Inhabited α]{k:Nat}{cF:α->List AV}{d:Array α}(_:LdA k cF d)(hk:k<d.size){v:AV}{t ty m id ep:Nat}{ti:TI}{p:Operand}(ho:o.op = .load t p)(ht:aB P t ti)(hp:s.ev p = .el id ep k 0)(hid:s.σ id=⟨ep,some (.row ty m (d.toList.map cF))⟩)(hr:ldA ti (cF d[k]!)=some v):ax P N o s ⟨v,[],[id]⟩:=Fr k cF d hk ho ht hp hid hr
theorem jI {p q c:Prop}(d:c)(h:q)(t:c->q->p:=by intro d;exact fun h=>RG.opS rfl (Ff d (by omega) rfl (tk rfl) rfl (tk rfl) rfl rfl rfl jX) rfl h):p:=t d h
theorem jL {p q c:Prop}(d:c)(h:q)(t:c->q->p:=by intro d;exact fun h=>RG.opS rfl (FV d (by omega) rfl (tk rfl) rfl rfl rfl) rfl h):p:=t d h
end
theorem ka (a b:Nat)(h:a+b<4611686018427387904):(cj (bQ (IntKind.i64.wrap ((a:Int)+(b:Int)))) 1).toNat=(a+b) / 2:=by
 have h1:IntKind.i64.wrap ((a:Int)+(b:Int))=((a+b:Nat):Int):=by rw [kA0];omega
 rw [h1]
 have e:=eB ((a+b:Nat):Int)
 rw [IntKind.wrap_u64] at e
 rw [cj,UInt64.toNat_ofNat']
 generalize (bQ ((a+b:Nat):Int)).toNat=x at e
 have hx:x=a+b:=by omega
 rw [hx]
 show (a+b) / 2 ^ 1 % 18446744073709551616=_
 omega
end Go.Proofs.YtdidjpohnopihaaGreat.Sm
end
section
namespace Go.Proofs.YtdidjpohnopihaaGreat.Sm
open Go.RowKit
open Go.Sort (swp)
theorem ah {α:Type}{cF:α->List AV}{d:Array α}{n:Nat}(h:d.size=n):0+n<=(d.toList.map cF).length:=by
 rw [qG,qL];omega
theorem bG {α:Type}{cF:α->List AV}{d d':Array α}(h:d'.size=d.size):(d'.toList.map cF).length=(d.toList.map cF).length:=by
 rw [qG,qG,qL,qL,h]
instance:Inhabited Cb:=⟨Cb.zero⟩
def ltC (a b:Cb):Bool:=decide (EV a b<0)
def rwB (d:Array Cb):List (Nat × SB):=[(201,⟨0,some (.row 36 4 (d.toList.map cCb))⟩)]
theorem aH {s:St}{q:Nat->Option (Nat × Nat)}{d:Array Cb}{e g:Nat}{els:List (List AV)}(h1:s.σ 201=⟨e,some (.row 36 4 els)⟩)(hg:s.σ 1101=⟨g,some (.ghost 201 e (q 201))⟩)(hel:els=d.toList.map cCb):WkB s (lkB (gl q [201] (rwB d))) (gl q [201] (rwB d)):=by
 subst hel
 exact⟨.ghost hg h1 rfl,.row h1 rfl,trivial⟩
theorem jC {α:Type}[Inhabited α]{lt:α->α->Bool}{a j:Nat}{d:Array α}(h:¬a<j):Go.Sort.insInner lt a j d=d:=by
 cases j with
 |zero=>rfl
 |succ j=>
  rw [Go.Sort.insInner,if_neg]
  simp only [qQ,vM]
  omega
theorem lP {α:Type}[Inhabited α]{lt:α->α->Bool}{a j:Nat}{d:Array α}(h:a<j+1):Go.Sort.insInner lt a (j+1) d=bif lt d[j+1]! d[j]! then Go.Sort.insInner lt a j (swp d (j+1) j) else d:=by
 rw [Go.Sort.insInner]
 cases e:lt d[j+1]! d[j]!
 ·rw [if_neg (by simp)];rfl
 ·rw [if_pos (by simp;omega)];rfl
theorem Ce (d:Array Cb)(n a b:Nat)(hn:d.size=n)(hb:b<=n)(ha:a<=n)(hl:n<=100000000)(q:Nat->Option (Nat × Nat)):aj Tryz.prog 181 [.row 201 0 0 n,.i .i64 (a:Nat),.i .i64 (b:Nat),.fn 82 [] []] (gl q [201] (rwB d)) (.tup []) (gl q [201] (rwB (Go.Sort.insertionSort ltC d a b))):=by
 refine aj.of_body Tryz.func181 rfl (by kernel_rfl) rfl rfl ?_
 generalize hG:Go.Sort.insertionSort ltC d a b=G
 have w1:IntKind.i64.wrap (((a:Nat):Int)+1)=((a+1:Nat):Int):=by rw [kA0];omega
 refine jA ?_
 refine AW.loopL (ι:=Nat × Array Cb) (fun i=>[(0,.row 201 0 0 n),(1,.i .i64 (a:Nat)),(2,.i .i64 (b:Nat)),(3,.fn 82 [] []),(8,.i .i64 (i.1:Nat))]) (fun i=>gl q [201] (rwB i.2)) (fun i=>(a<i.1/\i.1<=n+1/\i.2.size=n)/\Go.Sort.insOuter ltC a b i.1 i.2=G) (fun i=>n+2-i.1) (a+1,d) ⟨⟨by show a<a+1;omega,by show a+1<=n+1;omega,hn⟩,hG⟩ ⟨Rn.rowIs rfl rfl rfl,Rn.is rfl rfl,Rn.is rfl rfl,Rn.fnF rfl rfl,Rn.is (congrArg (AV.i .i64) w1) rfl,trivial⟩ (aH rfl rfl rfl) fun i hi=>?_
 clear hG
 obtain⟨i,m⟩:=i
 obtain⟨⟨hi1,hi2,hm⟩,hf⟩:=hi
 simp only at hi1 hi2 hm hf
 rw [Go.Sort.insOuter] at hf
 refine jA ?_
 refine AW.cond rfl (fun h0=>?_) (fun h0=>?_)
 rotate_left
 ·have h:¬ i < b := by
   have:=of_decide_eq_false h0
   omega
  rw [if_neg h] at hf
  subst hf
  refine zE ?_
  exact cO rfl (.inl rfl) (aH rfl rfl rfl)
 have h:i<b:=by
  have:=of_decide_eq_true h0
  omega
 rw [if_pos h] at hf
 have w2:IntKind.i64.wrap (((i:Nat):Int)+Int.ofNat 1)=((i+1:Nat):Int):=by rw [kA0];simp only [qH];omega
 refine jA ?_
 refine AW.loopL (ι:=Nat × Array Cb) (fun x=>[(0,.row 201 0 0 n),(1,.i .i64 (a:Nat)),(2,.i .i64 (b:Nat)),(3,.fn 82 [] []),(8,.i .i64 (i:Nat)),(9,.i .i64 (x.1:Nat))]) (fun x=>gl q [201] (rwB x.2)) (fun x=>(x.1<=i/\x.2.size=n)/\Go.Sort.insOuter ltC a b (i+1) (Go.Sort.insInner ltC a x.1 x.2)=G) (fun x=>x.1) (i,m) ⟨⟨qJ _,hm⟩,hf⟩ jQ (aH rfl rfl rfl) fun x hx=>?_
 clear hf hm
 obtain⟨j,m⟩:=x
 obtain⟨⟨hj,hm⟩,hf⟩:=hx
 simp only at hj hm hf
 refine jB ?_
 by_cases g1:((a:Nat):Int)<((j:Nat):Int)
 rotate_left
 ·rw [jC (by omega)] at hf
  refine AW.draws aJ ?_
  refine RG.runO ae 0 [(20,.b false)] 400 rfl jD ?_
  refine jB ?_
  refine zF ?_
  refine jE ?_;refine jA ?_
  exact⟨(i+1,m),⟨⟨⟨by show a<i+1;omega,by show i+1<=n+1;omega,hm⟩,hf⟩,by show n+2-(i+1)<n+2-i;omega⟩,⟨Rn.rowIs rfl rfl rfl,Rn.is rfl rfl,Rn.is rfl rfl,Rn.fnF rfl rfl,Rn.is (congrArg (AV.i .i64) w2) rfl,trivial⟩,aH rfl rfl rfl⟩
 obtain⟨j,rfl⟩:∃k,j=k+1:=⟨j-1,by omega⟩
 rw [lP (by omega)] at hf
 have w3:IntKind.i64.wrap (((j+1:Nat):Int)-Int.ofNat 1)=((j:Nat):Int):=by rw [kA0];simp only [qH];omega
 refine AW.draws aJ ?_
 refine RG.runO ae 0 [(20,.b true)] 400 rfl jD ?_
 refine jI (ia (j+1) cCb (m.toList)) ?_
 refine jL (lA (j+1) cCb (m)) ?_
 refine wH rfl ?_;refine jI (ia (j) cCb ((m).toList)) ?_;refine jL (lA (j) cCb (m)) ?_
 refine wH rfl ?_
 refine jc (qr m[j+1]! m[j]!) ?_
 refine wH rfl ?_;refine jB ?_
 refine AW.cond rfl (fun h1=>?_) (fun h1=>?_)
 ·rw [show ltC m[j+1]! m[j]! = true from h1,cond_true] at hf
  refine zD ?_
  refine wH rfl ?_;refine jI (ia (j) cCb ((m).toList)) ?_;refine jL (lA (j) cCb (m)) ?_;refine wH rfl ?_;refine jI (ia (j+1) cCb ((m).toList)) ?_;refine jL (lA (j+1) cCb (m)) ?_;refine wH rfl ?_;refine jI (ia (j+1) cCb ((m).toList)) ?_;refine RG.opS rfl (aS (j+1) cCb ((m).toList) ((m)[j]!) (by simp only [vF,qL];omega) rfl (tk rfl) rfl rfl rfl rfl rfl (fun _=>rfl)) rfl ?_;refine wH rfl ?_;refine jI (ia (j) cCb (((m).toList.set (j+1) (m)[j]!))) ?_;refine RG.opS rfl (aS (j) cCb (((m).toList.set (j+1) (m)[j]!)) ((m)[j+1]!) (by simp only [vF,qL];omega) rfl (tk rfl) rfl rfl rfl rfl rfl (fun _=>rfl)) rfl ?_
  refine wH rfl ?_;refine jB ?_
  refine AW.text ?_
  refine wH rfl ?_;refine jB ?_
  exact⟨(j,swp m (j+1) j),⟨⟨⟨by show j<=i;omega,(bg _ _ _).trans hm⟩,hf⟩,by show j<j+1;omega⟩,⟨Rn.rowTIs rfl rfl rfl (ah ((bg _ _ _).trans hm)),Rn.is rfl rfl,Rn.is rfl rfl,Rn.fnF rfl rfl,Rn.is rfl rfl,Rn.is (congrArg (AV.i .i64) w3) rfl,trivial⟩,aH rfl rfl (by rw [bj])⟩
 ·rw [show ltC m[j+1]! m[j]! = false from h1,cond_false] at hf
  refine zE ?_
  exact⟨(i+1,m),⟨⟨⟨by show a<i+1;omega,by show i+1<=n+1;omega,hm⟩,hf⟩,by show n+2-(i+1)<n+2-i;omega⟩,⟨Rn.rowIs rfl rfl rfl,Rn.is rfl rfl,Rn.is rfl rfl,Rn.fnF rfl rfl,Rn.is (congrArg (AV.i .i64) w2) rfl,trivial⟩,aH rfl rfl rfl⟩
theorem pX (d:Array Cb)(n a b k:Nat)(hn:d.size=n)(ha:a+k<=n)(hb:b+k<=n)(hl:n<=100000000)(q:Nat->Option (Nat × Nat)):aj Tryz.prog 245 [.row 201 0 0 n,.i .i64 (a:Nat),.i .i64 (b:Nat),.i .i64 (k:Nat),.fn 82 [] []] (gl q [201] (rwB d)) (.tup []) (gl q [201] (rwB (gc a b k 0 d))):=by
 refine aj.of_body Tryz.func245 rfl (by kernel_rfl) rfl rfl ?_
 generalize hG:gc a b k 0 d=G
 refine jA ?_
 refine AW.loopL (ι:=Nat × Array Cb) (fun i=>[(0,.row 201 0 0 n),(1,.i .i64 (a:Nat)),(2,.i .i64 (b:Nat)),(3,.i .i64 (k:Nat)),(10,.i .i64 (i.1:Nat))]) (fun i=>gl q [201] (rwB i.2)) (fun i=>(i.1<=k/\i.2.size=n)/\gc a b k i.1 i.2=G) (fun i=>k-i.1) (0,d) ⟨⟨qR _,hn⟩,hG⟩ jQ (aH rfl rfl rfl) fun i hi=>?_
 clear hG
 obtain⟨i,m⟩:=i
 obtain⟨⟨hi1,hm⟩,hf⟩:=hi
 simp only at hi1 hm hf
 rw [gc] at hf
 refine jA ?_
 refine AW.cond rfl (fun h0=>?_) (fun h0=>?_)
 rotate_left
 ·have h:¬i<k:=by
   have:=of_decide_eq_false h0
   omega
  rw [if_neg h] at hf
  subst hf
  refine zE ?_
  exact cO rfl (.inl rfl) (aH rfl rfl rfl)
 have h:i<k:=by
  have:=of_decide_eq_true h0
  omega
 rw [if_pos h] at hf
 have w2:IntKind.i64.wrap (((i:Nat):Int)+Int.ofNat 1)=((i+1:Nat):Int):=by rw [kA0];simp only [qH];omega
 refine zD ?_
 refine wH rfl ?_;refine jI (ia (b+i) cCb ((m).toList)) ?_;refine jL (lA (b+i) cCb (m)) ?_;refine wH rfl ?_;refine jI (ia (a+i) cCb ((m).toList)) ?_;refine jL (lA (a+i) cCb (m)) ?_;refine wH rfl ?_;refine jI (ia (a+i) cCb ((m).toList)) ?_;refine RG.opS rfl (aS (a+i) cCb ((m).toList) ((m)[b+i]!) (by simp only [vF,qL];omega) rfl (tk rfl) rfl rfl rfl rfl rfl (fun _=>rfl)) rfl ?_;refine wH rfl ?_;refine jI (ia (b+i) cCb (((m).toList.set (a+i) (m)[b+i]!))) ?_;refine RG.opS rfl (aS (b+i) cCb (((m).toList.set (a+i) (m)[b+i]!)) ((m)[a+i]!) (by simp only [vF,qL];omega) rfl (tk rfl) rfl rfl rfl rfl rfl (fun _=>rfl)) rfl ?_
 refine wH rfl ?_;refine jB ?_
 refine AW.text ?_
 refine wH rfl ?_;refine jB ?_
 exact⟨(i+1,swp m (a+i) (b+i)),⟨⟨⟨h,(bg _ _ _).trans hm⟩,hf⟩,by show k-(i+1)<k-i;omega⟩,⟨Rn.rowTIs rfl rfl rfl (ah ((bg _ _ _).trans hm)),Rn.is rfl rfl,Rn.is rfl rfl,Rn.is rfl rfl,Rn.is (congrArg (AV.i .i64) w2) rfl,trivial⟩,aH rfl rfl (by rw [bj])⟩
theorem H8 (d:Array Cb)(n a m b:Nat)(hn:d.size=n)(h1:a<m)(h2:m<b)(h3:b<=n)(hl:n<=100000000)(q:Nat->Option (Nat × Nat)):aj Tryz.prog 222 [.row 201 0 0 n,.i .i64 (a:Nat),.i .i64 (m:Nat),.i .i64 (b:Nat),.fn 82 [] []] (gl q [201] (rwB d)) (.tup []) (gl q [201] (rwB (p8 d a m b))):=by
 refine aj.of_body Tryz.func222 rfl (by kernel_rfl) rfl rfl ?_
 generalize hG:p8 d a m b=G
 have w1:IntKind.i64.wrap (((m:Nat):Int)-((a:Nat):Int))=((m-a:Nat):Int):=by rw [kA0];omega
 have w2:IntKind.i64.wrap (((b:Nat):Int)-((m:Nat):Int))=((b-m:Nat):Int):=by rw [kA0];omega
 refine jA ?_
 refine AW.loopL (ι:=(Nat × Nat) × Array Cb) (fun x=>[(0,.row 201 0 0 n),(2,.i .i64 (m:Nat)),(4,.fn 82 [] []),(10,.i .i64 (x.1.1:Nat)),(11,.i .i64 (x.1.2:Nat))]) (fun x=>gl q [201] (rwB x.2)) (fun x=>(0<x.1.1/\x.1.1<=m/\0<x.1.2/\m+x.1.2<=n/\x.2.size=n)/\∃f,x.1.1+x.1.2<=f/\vu m f x.1.1 x.1.2 x.2=G) (fun x=>x.1.1+x.1.2) ((m-a,b-m),d) ⟨⟨by show 0<m-a;omega,by show m-a<=m;omega,by show 0<b-m;omega,by show m+(b-m)<=n;omega,hn⟩,b-a,by show m-a+(b-m)<=b-a;omega,hG⟩ ⟨Rn.rowIs rfl rfl rfl,Rn.is rfl rfl,Rn.fnF rfl rfl,Rn.is (congrArg (AV.i .i64) w1) rfl,Rn.is (congrArg (AV.i .i64) w2) rfl,trivial⟩ (aH rfl rfl rfl) fun x hx=>?_
 clear hG w1 w2 hn d
 obtain⟨⟨i,j⟩,d⟩:=x
 obtain⟨⟨hi,him,hj,hjn,hn⟩,f,hff,hf⟩:=hx
 simp only at hi him hj hjn hn hff hf
 obtain⟨f,rfl⟩:∃k,f=k+1:=⟨f-1,by omega⟩
 rw [vu] at hf
 have w1:IntKind.i64.wrap (((m:Nat):Int)-((i:Nat):Int))=((m-i:Nat):Int):=by rw [kA0];omega
 refine jA ?_
 refine AW.cond rfl (fun h0=>?_) (fun h0=>?_)
 rotate_left
 ·have h:i=j:=by
   have h5:=h0
   simp only [Bool.not_eq_false',vM] at h5
   omega
  rw [if_pos h] at hf
  subst h hf
  have hs:=fq (m-i) m i _ 0 d (qJ _) (by omega) (by omega)
  (repeat first|apply wA|apply wB|apply wC|apply wE|(apply zM;·kernel_rfl)|apply wF|apply wG)
  refine jE ?_;refine jB ?_
  refine AW.text ?_
  refine RG.runO ae 0 [(53,.i .i64 ((m-i:Nat):Int))] 400 rfl jD ?_
  refine RG.ownK [(201,201)] [(201,201)] 201 201 (bG (hs.1)) (fun q=>pX d n (m-i) m i hn (by omega) (by omega) hl q) rfl rfl rfl rfl rfl rfl rfl rfl rfl rfl rfl rfl rfl ?_
  refine jH ?_
  exact cO rfl (.inl rfl) (aH rfl rfl rfl)
 have h:¬i=j:=by
  intro e
  subst e
  simp at h0
 rw [if_neg h] at hf
 refine jA ?_
 refine AW.cond rfl (fun h4=>?_) (fun h4=>?_)
 ·have h4:j<i:=by
   have:=of_decide_eq_true h4
   simp only at this
   omega
  rw [if_pos h4] at hf
  have hs:=fq (m-i) m j _ 0 d (qJ _) (by omega) (by omega)
  have w2:IntKind.i64.wrap (((i:Nat):Int)-((j:Nat):Int))=((i-j:Nat):Int):=by rw [kA0];omega
  refine zB ?_
  refine RG.runO ae 0 [(27,.i .i64 ((m-i:Nat):Int))] 400 rfl jD ?_
  refine RG.ownK [(201,201)] [(201,201)] 201 201 (bG (hs.1)) (fun q=>pX d n (m-i) m j hn (by omega) (by omega) hl q) rfl rfl rfl rfl rfl rfl rfl rfl rfl rfl rfl rfl rfl ?_
  refine jH ?_
  exact⟨((i-j,j),gc (m-i) m j 0 d),⟨⟨⟨by show 0<i-j;omega,by show i-j<=m;omega,hj,hjn,hs.1.trans hn⟩,f,by show i-j+j<=f;omega,hf⟩,by show i-j+j<i+j;omega⟩,⟨Rn.rowIs rfl rfl rfl,Rn.is rfl rfl,Rn.fnF rfl rfl,Rn.is (congrArg (AV.i .i64) w2) rfl,Rn.is rfl rfl,trivial⟩,aH rfl rfl rfl⟩
 ·have h4:¬j<i:=by
   have:=of_decide_eq_false h4
   simp only at this
   omega
  rw [if_neg h4] at hf
  have hs:=fq (m-i) (m+j-i) i _ 0 d (qJ _) (by omega) (by omega)
  have w2:IntKind.i64.wrap (((j:Nat):Int)-((i:Nat):Int))=((j-i:Nat):Int):=by rw [kA0];omega
  have w3:IntKind.i64.wrap (IntKind.i64.wrap (((m:Nat):Int)+((j:Nat):Int))-((i:Nat):Int))=((m+j-i:Nat):Int):=by
   have e:IntKind.i64.wrap (((m:Nat):Int)+((j:Nat):Int))=((m+j:Nat):Int):=by rw [kA0];omega
   rw [e,kA0];omega
  refine zB ?_
  refine RG.runO ae 0 [(38,.i .i64 ((m-i:Nat):Int)),(43,.i .i64 ((m+j-i:Nat):Int))] 400 rfl jD ?_
  refine RG.ownK [(201,201)] [(201,201)] 201 201 (bG (hs.1)) (fun q=>pX d n (m-i) (m+j-i) i hn (by omega) (by omega) hl q) rfl rfl rfl rfl rfl rfl rfl rfl rfl rfl rfl rfl rfl ?_
  refine jH ?_
  exact⟨((i,j-i),gc (m-i) (m+j-i) i 0 d),⟨⟨⟨hi,him,by show 0<j-i;omega,by show m+(j-i)<=n;omega,hs.1.trans hn⟩,f,by show i+(j-i)<=f;omega,hf⟩,by show i+(j-i)<i+j;omega⟩,⟨Rn.rowIs rfl rfl rfl,Rn.is rfl rfl,Rn.fnF rfl rfl,Rn.is rfl rfl,Rn.is (congrArg (AV.i .i64) w2) rfl,trivial⟩,aH rfl rfl rfl⟩
end Go.Proofs.YtdidjpohnopihaaGreat.Sm
end
