/- Contracts of the program's functions over data, and the plain laws that they meet (part 7). No condition. -/
import Derived.Test.YtoaibdbehlcnfaaGreatVdf
import Derived.WalkKit
import Derived.WalkSpells
import Derived.WalkLawsBesides
import Derived.Lib.Hide
import Derived.Deep.RegionHeld3
import Derived.Maps.AppendAt
import Derived.KernelRfl
import Derived.Lib.AppendStr
import Derived.Orders
import Derived.LoopTactic
import Derived.Laws.CopyRow
import Derived.Laws.Cells
import Derived.OrdersIn
import Derived.Laws.Externs
import Derived.TacticsIn
import Derived.RangeFuncLeaves
import Derived.RangeFuncRecord
import Derived.Great.BuildSlice
import Derived.Laws.ResultCell
import Derived.Laws.StructEq
import Derived.Laws.MakeOwn
import Derived.Deep.Slices
import Derived.Deep.Fields
import Derived.ChangeSame
import Derived.ProofKit
import Derived.OpenShut
import Derived.SizedLaws
import Derived.Test.YtoaibdbehlcnfaaGreatProg
import Derived.Shelf.Spec.BitsCarry
import Derived.Lib.AppendZerosOnto
import Derived.DeepKeys4
import Derived.MapKept
import Derived.Sort.AssemblyPlain
import Derived.Sort.LotD4
import Derived.Sort.Walk13a
import Derived.RangeFuncSeq
import Derived.RangeFuncIn
set_option linter.unusedVariables false
set_option linter.unusedSimpArgs false
set_option maxRecDepth 100000
set_option maxHeartbeats 4000000
section
namespace Go.Proofs.YtoaibdbehlcnfaaGreat.Sm
open Go.RowKit
open Go.Sort (swp)
theorem d_isNaNI (x:Int):PDoes Tryz.prog 268 [.i .i64 x] (.b false):=by
 refine PDoes.of_bodyN Tryz.func268 rfl (by kernel_rfl) rfl rfl ?_
 have hx:x=x:=rfl
 refine jA ?_
 refine AW.ret (retQA ty_ok rfl rfl rfl ?_)
 exact congrArg AV.b (by simp)
def ltO (x y:Int):Bool:=decide (x<y)
theorem d_LessI (x y:Int):PDoes Tryz.prog 219 [.i .i64 x,.i .i64 y] (.b (ltO x y)):=by
 refine PDoes.of_bodyN Tryz.func219 rfl (by kernel_rfl) rfl rfl ?_
 refine jA ?_
 refine RG.callS rfl rfl rfl rfl rfl (d_isNaNI x) rfl rfl ?_;refine wH rfl ?_;refine jA ?_
 refine AW.ret (retQA ty_ok rfl rfl rfl ?_)
 rfl
def oiB (n:Nat) (d:Array Int):List (Nat × SB):=[(201,⟨0,some (.row 3 1 (d.toList.map cI))⟩)]
theorem oi_end {d:Array Int} {s:St} {q:Nat->Option (Nat × Nat)} {n e1 g1:Nat} {els:List (List AV)} (h1:s.σ 201=⟨e1,some (.row 3 1 els)⟩)
  (hg1:s.σ 1101=⟨g1,some (.ghost 201 e1 (q 201))⟩) (hel:els=d.toList.map cI) (hn:0+n<=(d.toList.map cI).length):WkB s (lkB (gl q [201] (oiB n d))) (gl q [201] (oiB n d)):=by
 subst hel
 exact ⟨.ghost hg1 h1 rfl,.row h1 rfl,trivial⟩
theorem o_insI (n:Nat) (hl:n<=100000) (d:Array Int) (hn:d.size=n) (a b:Nat) (ha:a<=n) (hb:b<=n) (q:Nat->Option (Nat × Nat)):MDoes Tryz.prog 213 [.row 201 0 0 n,.i .i64 ((a:Nat):Int),.i .i64 ((b:Nat):Int)] (gl q [201] (oiB n (d))) (.tup []) (gl q [201] (oiB n (Go.Sort.insertionSort ltO d a b))):=by
  refine MDoes.of_body Tryz.func213 rfl (by kernel_rfl) rfl rfl ?_
  generalize hG:Go.Sort.insertionSort ltO d a b=G
  have w1:IntKind.i64.wrap (((a:Nat):Int)+Int.ofNat 1)=((a+1:Nat):Int):=by simp only [IntKind.wrap_i64,Int.ofNat_eq_natCast];omega
  refine jA ?_
  refine AW.loopL (ι:=Nat × Array Int) (fun x=>[(0,.row 201 0 0 n),(1,.i .i64 ((a:Nat):Int)),(2,.i .i64 ((b:Nat):Int)),(6,.i .i64 ((x.1:Nat):Int))]) (fun x=>gl q [201] (oiB n (x.2))) (fun x=>(a<x.1/\x.1<=n+1/\x.2.size=n)/\Go.Sort.insOuter ltO a b x.1 x.2=G) (fun x=>n+2 - x.1) (a+1,d) ⟨⟨by show a<a+1;omega,by show a+1<=n+1;omega,hn⟩,hG⟩ ⟨Rn.rowIs rfl rfl rfl,Rn.is rfl rfl,Rn.is rfl rfl,Rn.is (congrArg (AV.i .i64) w1) rfl,trivial⟩ (oi_end rfl rfl (rfl) (rowFit (by assumption))) fun x hx=>?_
  clear hG hn d
  obtain ⟨i,m⟩:=x
  obtain ⟨⟨hi1,hi2,hm⟩,hf⟩:=hx
  simp only at hi1 hi2 hm hf
  rw [Go.Sort.insOuter] at hf
  refine jA ?_
  refine AW.cond rfl (fun h0=>?_) (fun h0=>?_)
  rotate_left
  · have h : ¬ i < b := by
      have:=of_decide_eq_false h0
      try simp only at this
      omega
    rw [if_neg h] at hf
    subst hf
    refine jA ?_
    refine AW.exit ?_;refine Eq.mpr (if_pos rfl) ?_;refine jA ?_
    exact retM0 rfl (.inl rfl) (oi_end rfl rfl (rfl) (rowFit (by assumption)))
  have h:i<b:=by
    have:=of_decide_eq_true h0
    try simp only at this
    omega
  rw [if_pos h] at hf
  have w2:IntKind.i64.wrap (((i:Nat):Int)+Int.ofNat 1)=((i+1:Nat):Int):=by simp only [IntKind.wrap_i64,Int.ofNat_eq_natCast];omega
  refine jA ?_
  refine AW.loopL (ι:=Nat × Array Int) (fun x=>[(0,.row 201 0 0 n),(1,.i .i64 ((a:Nat):Int)),(2,.i .i64 ((b:Nat):Int)),(6,.i .i64 ((i:Nat):Int)),(7,.i .i64 ((x.1:Nat):Int))]) (fun x=>gl q [201] (oiB n (x.2))) (fun x=>(x.1<=i/\x.2.size=n)/\Go.Sort.insOuter ltO a b (i+1) (Go.Sort.insInner ltO a x.1 x.2)=G) (fun x=>x.1) (i,m) ⟨⟨Nat.le_refl _,hm⟩,hf⟩ ⟨Rn.rowIs rfl rfl rfl,Rn.is rfl rfl,Rn.is rfl rfl,Rn.is rfl rfl,Rn.is rfl rfl,trivial⟩ (oi_end rfl rfl (rfl) (rowFit (by assumption))) fun x hx=>?_
  clear hf hm
  obtain ⟨j,m⟩:=x
  obtain ⟨⟨hj,hm⟩,hf⟩:=hx
  simp only at hj hm hf
  refine jB ?_
  by_cases g1:((a:Nat):Int)<((j:Nat):Int)
  rotate_left
  · rw [insInner_stop (by omega)] at hf
    refine AW.draws mixed_ok ?_
    refine RG.runO ty_ok 0 [(18,.b false)] 400 rfl jD ?_
    refine jB ?_
    refine AW.condF rfl ?_;refine jA ?_
    refine AW.exit ?_;refine Eq.mpr (if_pos rfl) ?_;refine jA ?_
    exact ⟨(i+1,m),⟨⟨⟨by show a<i+1;omega,by show i+1<=n+1;omega,hm⟩,hf⟩,by show n+2 - (i+1)<n+2 - i;omega⟩,⟨Rn.rowIs rfl rfl rfl,Rn.is rfl rfl,Rn.is rfl rfl,Rn.is (congrArg (AV.i .i64) w2) rfl,trivial⟩,oi_end rfl rfl (rfl) (rowFit (by assumption))⟩
  obtain ⟨j,rfl⟩:∃k,j=k+1:=⟨j - 1,by omega⟩
  rw [insInner_go (by omega)] at hf
  have w3:IntKind.i64.wrap (((j+1:Nat):Int) - Int.ofNat 1)=((j:Nat):Int):=by simp only [IntKind.wrap_i64,Int.ofNat_eq_natCast];omega
  refine AW.draws mixed_ok ?_
  refine RG.runO ty_ok 0 [(18,.b true)] 400 rfl jD ?_
  refine RG.opS rfl (op_ixW (j+1) cI (m.toList) (by omega) rfl (tab_ok ty_ok rfl) rfl (tab_ok ty_ok rfl) rfl rfl rfl jX) rfl ?_
  refine RG.opS rfl (op_ldW (j+1) cI (m) (by omega) rfl (tab_ok ty_ok rfl) rfl rfl rfl) rfl ?_
  refine wH rfl ?_;refine RG.opS rfl (op_ixW (j) cI ((m).toList) (by omega) rfl (tab_ok ty_ok rfl) rfl (tab_ok ty_ok rfl) rfl rfl rfl jX) rfl ?_;refine RG.opS rfl (op_ldW (j) cI (m) (by omega) rfl (tab_ok ty_ok rfl) rfl rfl rfl) rfl ?_
  refine wH rfl ?_
  refine RG.callS rfl rfl rfl rfl rfl (d_LessI (m[j+1]!) (m[j]!)) rfl rfl ?_
  refine wH rfl ?_;refine jB ?_
  refine AW.cond rfl (fun h1=>?_) (fun h1=>?_)
  · rw [show ltO m[j+1]! m[j]! = true from h1,cond_true] at hf
    have hm2:=(swp_sz m (j+1) j).trans hm
    refine jB ?_
    refine AW.draws mixed_ok ?_
    refine wH rfl ?_;refine RG.opS rfl (op_ixW (j) cI ((m).toList) (by omega) rfl (tab_ok ty_ok rfl) rfl (tab_ok ty_ok rfl) rfl rfl rfl jX) rfl ?_;refine RG.opS rfl (op_ldW (j) cI (m) (by omega) rfl (tab_ok ty_ok rfl) rfl rfl rfl) rfl ?_;refine wH rfl ?_;refine RG.opS rfl (op_ixW (j+1) cI ((m).toList) (by omega) rfl (tab_ok ty_ok rfl) rfl (tab_ok ty_ok rfl) rfl rfl rfl jX) rfl ?_;refine RG.opS rfl (op_ldW (j+1) cI (m) (by omega) rfl (tab_ok ty_ok rfl) rfl rfl rfl) rfl ?_;refine wH rfl ?_;refine RG.opS rfl (op_ixW (j+1) cI ((m).toList) (by omega) rfl (tab_ok ty_ok rfl) rfl (tab_ok ty_ok rfl) rfl rfl rfl jX) rfl ?_;refine RG.opS rfl (op_stW (j+1) cI ((m).toList) ((m)[j]!) (by simp only [List.length_set,Array.length_toList];omega) rfl (tab_ok ty_ok rfl) rfl rfl rfl rfl rfl (fun _=>rfl)) rfl ?_;refine wH rfl ?_;refine RG.opS rfl (op_ixW (j) cI (((m).toList.set (j+1) (m)[j]!)) (by omega) rfl (tab_ok ty_ok rfl) rfl (tab_ok ty_ok rfl) rfl rfl rfl jX) rfl ?_;refine RG.opS rfl (op_stW (j) cI (((m).toList.set (j+1) (m)[j]!)) ((m)[j+1]!) (by simp only [List.length_set,Array.length_toList];omega) rfl (tab_ok ty_ok rfl) rfl rfl rfl rfl rfl (fun _=>rfl)) rfl ?_
    refine wH rfl ?_;refine jB ?_
    refine AW.text ?_
    refine wH rfl ?_;refine jB ?_
    exact ⟨(j,swp m (j+1) j),⟨⟨⟨by show j<=i;omega,hm2⟩,hf⟩,by show j<j+1;omega⟩,⟨Rn.rowTIs rfl rfl rfl (rowFit (hm2)),Rn.is rfl rfl,Rn.is rfl rfl,Rn.is rfl rfl,Rn.is (congrArg (AV.i .i64) w3) rfl,trivial⟩,oi_end rfl rfl (by rw [swp_list]) (rowFit (by assumption))⟩
  · rw [show ltO m[j+1]! m[j]! = false from h1,cond_false] at hf
    refine jA ?_
    refine AW.exit ?_;refine Eq.mpr (if_pos rfl) ?_;refine jA ?_
    exact ⟨(i+1,m),⟨⟨⟨by show a<i+1;omega,by show i+1<=n+1;omega,hm⟩,hf⟩,by show n+2 - (i+1)<n+2 - i;omega⟩,⟨Rn.rowIs rfl rfl rfl,Rn.is rfl rfl,Rn.is rfl rfl,Rn.is (congrArg (AV.i .i64) w2) rfl,trivial⟩,oi_end rfl rfl (rfl) (rowFit (by assumption))⟩
theorem ins_szO (d:Array Int) (n:Nat) (h:n<=d.size):(Go.Sort.insertionSort ltO d 0 n).size=d.size:=(ins_pm ltO d 0 n h).1
theorem o_pdqS (n:Nat) (hl:n<=12) (d:Array Int) (hn:d.size=n) (lim:Int) (q:Nat->Option (Nat × Nat)):MDoes Tryz.prog 167 [.row 201 0 0 n,.i .i64 ((0:Nat):Int),.i .i64 ((n:Nat):Int),.i .i64 lim] (gl q [201] (oiB n d)) (.tup []) (gl q [201] (oiB n (Go.Sort.insertionSort ltO d 0 n))):=by
 refine MDoes.of_body Tryz.func167 rfl (by kernel_rfl) rfl rfl ?_
 have w1:IntKind.i64.wrap (((n:Nat):Int) - ((0:Nat):Int))=((n:Nat):Int):=by rw [IntKind.wrap_i64];omega
 have h12:((n:Nat):Int)<=12:=by omega
 have hz:=ins_szO d n (by omega)
 have hG:=fun q=>o_insI n (by omega) d hn 0 n (Nat.zero_le _) (Nat.le_refl _) q
 refine jA ?_
 refine AW.loopL (ι:=Unit) (fun _=>[(0,.row 201 0 0 n),(1,.i .i64 ((0:Nat):Int)),(2,.i .i64 ((n:Nat):Int)),(3,.i .i64 lim)]) (fun _=>gl q [201] (oiB n d)) (fun _=>True) (fun _=>0) () trivial ⟨Rn.rowIs rfl rfl rfl,Rn.is rfl rfl,Rn.is rfl rfl,Rn.is rfl rfl,trivial⟩ (oi_end rfl rfl rfl (rowFit hn)) fun _ _=>?_
 refine jB ?_
 refine AW.text ?_
 refine RG.runO ty_ok 0 [(21,.i .i64 ((n:Nat):Int))] 400 rfl jD ?_
 refine jA ?_
 refine AW.cond rfl (fun h0=>?_) (fun h0=>?_)
 rotate_left
 ·exact absurd h12 (by
   have:=of_decide_eq_false h0
   simpa using this)
 refine jA ?_
 refine RG.ownK [(201,201)] [(201,201)] 201 201 (rowLen hz) (fun q=>hG q) rfl rfl rfl rfl rfl rfl rfl rfl rfl rfl rfl rfl rfl ?_
 refine wH rfl ?_;refine jA ?_
 exact AW.ret (retM0 rfl (.inr rfl) (oi_end rfl rfl rfl (rowFit (hz.trans hn))))
theorem o_Sort (n:Nat) (hl:n<=12) (d:Array Int) (hn:d.size=n) (q:Nat->Option (Nat × Nat)):MDoes Tryz.prog 120 [.row 201 0 0 n] (gl q [201] (oiB n d)) (.tup []) (gl q [201] (oiB n (Go.Sort.insertionSort ltO d 0 n))):=by
 refine MDoes.of_body Tryz.func120 rfl (by kernel_rfl) rfl rfl ?_
 have hz:=ins_szO d n (by omega)
 have hL:=d_LenX (ofI64 ((n:Nat):Int)) (by rw [ofI_len (by omega)];omega)
 have hP:=fun lim q=>o_pdqS n hl d hn lim q
 refine jA ?_
 refine RG.callS rfl rfl rfl rfl rfl hL rfl rfl ?_
 refine wH rfl ?_
 refine RG.ownK [(201,201)] [(201,201)] 201 201 (rowLen hz) (fun q=>hP _ q) rfl rfl rfl rfl rfl rfl rfl rfl rfl rfl rfl rfl rfl ?_
 refine wH rfl ?_;refine jA ?_
 exact retM0 rfl (.inl rfl) (oi_end rfl rfl rfl (rowFit (hz.trans hn)))
end Go.Proofs.YtoaibdbehlcnfaaGreat.Sm
end
section
namespace Go.Proofs.YtoaibdbehlcnfaaGreat.Sm
open Go.RowKit
section
variable {P : Program} {N : Nat} {o : Oper} {s : St}
theorem op_sliceE {t e id ep n ty l : Nat} {ti ei : TI} {x : Operand} {lo : Option Operand} {els : List (List AV)} (ho : o.op = .slice t x lo none none) (ht : TiOk P t ti) (hk : ti.k = .slice e) (he : TiOk P e ei) (hx : s.ev x = .row id ep 0 n) (hid : s.σ id = ⟨ep, some (.row ty ei.n els)⟩)
    (hlo:Bd s 0 lo l) (h2:l<n):OpLoc P N o s ⟨.row id ep l (n - l),[],[id]⟩:=by
  refine oploc_val [id] _ fun s' W F μ a g1 g2 hs=>?_
  have hid':=(g2 id (by simp)).trans hid
  have ex:=hs.ev x
  rw [g1 x (by rw [ho];simp [Op.operands]),hx] at ex
  have r1:=bd_run hlo (fun y hy=>g1 y (by rw [ho,hy];simp [Op.operands])) hs
  obtain ⟨q1,q⟩:=row_form hs.inv ex hid'
  rcases q with ⟨e,e2,e3⟩ | ⟨b,cap,hm,hv,q2,q3⟩
  · subst e2
    simp at q1
    omega
  have hrun:=sliceBounds_run (P:=P) (W:=W) (l:=l) (h:=n) (c:=cap - 0) (len:=n) (lo:=lo.map a.eval) (hi:=none)
    (by rcases r1 with ⟨e, e'⟩ | ⟨y, kd, e, e'⟩
        · exact .inl ⟨by rw [e];rfl,e'⟩
        · exact .inr ⟨kd,by rw [e,Option.map_some,e']⟩)
    (.inl ⟨rfl,rfl⟩) (by omega) (by omega) true
  have hc:¬cap - 0 - l=0:=by omega
  refine ⟨.slice (some ⟨b,l*ei.n,none⟩) (n - l) (cap - l),?_,.row id ep l (n - l) _ (by rw [hid'];exact Nat.le_refl _) rfl fun bd' m' l' hbd hL=>?_⟩
  · simp only [execOp,ho,Instr.sliceAt,Instr.slice,hv,Sem.run_bind,Sem.run_pure,Result.andThen_ok,run_underlying (ht.slice hk),Option.map_none,hrun,he.size,if_neg hc]
    have hcl:¬cap=l:=by omega
    by_cases hz:l*ei.n=0 <;> simp [Addr.add,Nat.sub_zero,hcl,hz]
  · rw [hid'] at hbd
    obtain rfl:Body.row ty ei.n els=bd':=by simpa using hbd
    obtain ⟨rfl,rfl⟩:ei.n=m'/\els.length=l':=by simpa [Body.rowL] using hL
    exact ⟨by omega,by rw [hm]⟩
theorem getE_set {α:Type} (l:List α) (k n:Nat) (z:α) (h:k+n=l.length) (i:Nat):(l.take k++List.replicate n z)[i]?=if i<k then l[i]? else if i<l.length then some z else none:=by
 rw [List.getElem?_append,List.length_take,Nat.min_eq_left (by omega)]
 by_cases h1:i<k
 ·rw [if_pos h1,if_pos h1,List.getElem?_take,if_pos h1]
 ·rw [if_neg h1,if_neg h1,List.getElem?_replicate]
  by_cases h2:i<l.length
  ·rw [if_pos h2,if_pos (by omega)]
  ·rw [if_neg h2,if_neg (by omega)]
theorem op_clearI {t e id ep k n ty : Nat} {ti : TI} {c : Call} {x : Operand} {els : List (List AV)} (ho : o.op = .call c) (hc : c.callee = .builtin .clear) (ha : c.args = #[x]) (hat : c.argTypes = #[t]) (ht : TiOk P t ti) (hk : ti.k = .slice e)
    (hz:∀W:World,(zeroValue e).run P W = .ok (.int .i64 0) W) (hx:s.ev x = .row id ep k n) (hid:s.σ id=⟨ep,some (.row ty 1 els)⟩) (hn:0<n) (hkn:k+n=els.length) :
    OpLoc P N o s ⟨.tup [],[(id,⟨ep,some (.row ty 1 (els.take k++List.replicate n [.i .i64 0]))⟩)],[]⟩:=by
  intro s' g1 g2 g3 W F μ a hr K Q hK
  have hid':s'.σ id=⟨ep,some (.row ty 1 els)⟩:=(g3 (id,⟨ep,some (.row ty 1 (els.take k++List.replicate n [.i .i64 0]))⟩) (by simp)).trans hid
  have ex:=hr.ev x
  rw [g1 x (by rw [ho];simp [Op.operands,Call.operands,hc,ha]),hx] at ex
  obtain ⟨q1,q⟩:=row_form hr.inv ex hid'
  rcases q with ⟨e1,e2,e3⟩ | ⟨b,cap,hm,hv,q2,q3⟩
  · subst e2;simp at q1;omega
  rcases hr.inv.body _ _ _ hid' with ⟨hno,_⟩ | ⟨b',cap',cur,hm',hh,p1,p2,p3,p4,p5⟩
  · rw [hm] at hno;cases hno
  obtain ⟨rfl,rfl⟩:b=b'/\cap=cap':=by rw [hm] at hm';simpa using hm'
  have hcells:(Builtin.zeroCells (Value.int .i64 0).cells n).toList=List.replicate n (Value.int .i64 0):=by
    apply List.ext_getElem?
    intro i
    simp only [Builtin.zeroCells,Value.cells]
    rw [List.getElem?_replicate]
    by_cases h:i<n
    · rw [if_pos h]
      simp [h,Nat.mod_one]
    · rw [if_neg h]
      simp [h]
  generalize hnew:(cur.toList.take k++List.replicate n (Value.int .i64 0)++cur.toList.drop (k+n))=new
  have hnl:new.length=cur.size:=by
    rw [<- hnew]
    simp only [List.length_append,List.length_take,List.length_drop,List.length_replicate,Array.length_toList]
    omega
  have hget:∀i,new[i]?=if k<=i/\i<k+n then some (Value.int .i64 0) else cur[i]?:=fun i=>by
    rw [<- hnew,List.append_assoc,List.getElem?_append,List.length_take,Array.length_toList,Nat.min_eq_left (by omega)]
    by_cases e1:i<k
    · rw [if_pos e1,if_neg (by omega),List.getElem?_take,if_pos e1,Array.getElem?_toList]
    · rw [if_neg e1,List.getElem?_append,List.length_replicate,List.getElem?_replicate]
      by_cases e2:i - k<n
      · rw [if_pos e2,if_pos e2,if_pos (by omega)]
      · rw [if_neg e2,if_neg (by omega),List.getElem?_drop,Array.getElem?_toList]
        congr 1
        omega
  have hrun:(storeCells ⟨b,k*1,none⟩ (List.replicate n (Value.int .i64 0))).run P W = .ok () (W.setRow b new.toArray):=by
    have h:=run_storeCells_at P b (k*1) ty (List.replicate n (Value.int .i64 0)) 0 cur W hh (by rw [List.length_replicate];omega) (fun v hv=>by rw [(List.mem_replicate.1 hv).2];rfl)
    rw [<- hnew]
    simpa only [Nat.mul_one,Nat.add_zero,List.length_replicate] using h
  have hkp:Kp (fun b=>(s'.σ id).body.isSome=true/\∃c,μ id=some (b,c)) W (W.setRow b new.toArray):=(Kp.refl _ W).setRow' (by exact ⟨by rw [hid'];rfl,cap,hm⟩) _
  obtain ⟨hs, hi⟩ := inv_turn hr.inv id (μ id) ep (.row ty 1 (els.take k ++ List.replicate n [.i .i64 0])) hkp (fun b1 c1 e => by
      rw [hm] at e
      obtain ⟨rfl,rfl⟩:b=b1/\cap=c1:=by simpa using e
      exact ⟨by simpa using (hr.inv.apart b ⟨id,ep,_,cap,hid',hm⟩).1,.inr ⟨by rw [hid'];rfl,cap,hm⟩⟩)
    (.inr ⟨by rw [hid'],_,by rw [hid'],by simp only [Body.sh,List.length_append,List.length_take,List.length_replicate];rw [Nat.min_eq_left (by omega),hkn],rfl⟩) (fun hs=>by
      refine .inr ⟨b,cap,new.toArray,hm,setRow_heap W b _ _ _ _ hh,by rw [List.length_append,List.length_take,List.length_replicate];omega,q3,by simpa [hnl] using p3,fun k' cs' hk'=>?_,fun k' cs' i y hk' hi'=>?_⟩
      · rw [getE_set _ _ _ _ hkn] at hk'
        split at hk'
        · exact p4 k' cs' hk'
        · split at hk'
          · obtain rfl:=Option.some.inj hk'
            rfl
          · cases hk'
      · rw [getE_set _ _ _ _ hkn] at hk'
        rw [List.getElem?_toArray,hget]
        split at hk'
        · rename_i e
          have hlt:i<1:=by have:=(List.getElem?_eq_some_iff.1 hi').1;rw [p4 k' cs' hk'] at this;exact this
          rw [if_neg (by omega)]
          obtain ⟨r1,v,r2,r3⟩:=p5 k' cs' i y hk' hi'
          exact ⟨r1,v,r2,r3.stp hr.inv hs⟩
        · split at hk'
          · obtain rfl:=Option.some.inj hk'
            match i,hi' with
            | 0,hi' =>
              obtain rfl:AV.i .i64 0=y:=by simpa using hi'
              rw [if_pos (by omega)]
              exact ⟨rfl,_,rfl,.i _ _⟩
            | i+1,hi'=>simp at hi'
          · cases hk')
  unfold Oper.wp
  have hrun':(execOp a.eval o).run P W = .ok (.value (.tuple #[])) (W.setRow b new.toArray):=by
    have hne:n≠0:=by omega
    obtain ⟨n',rfl⟩:∃n',n=n'+1:=⟨n - 1,by omega⟩
    simp only [execOp,ho,resolve,hc,ha,hat,invoke,builtin,Builtin.clear_,hv,Sem.run_bind,Sem.run_pure,Result.andThen_ok,List.map_toArray,List.map_cons,List.map_nil,List.getElem?_toArray,List.getElem?_cons_zero,run_underlying (ht.slice hk),hz,hcells,hrun]
    skip
  rw [hrun']
  exact hK _ F _ _ (hr.put hs hi (.pure (.tup [] [] rfl (by simp)))) hs
end
end Go.Proofs.YtoaibdbehlcnfaaGreat.Sm
end
section
namespace Go.Proofs.YtoaibdbehlcnfaaGreat.Sm
open Go.RowKit
section
variable {P : Program} {N : Nat} {o : Oper} {s : St}
theorem op_ixO {t e k id ep off n ty m:Nat} {z:Int} {ti ei:TI} {x i:Operand} {kd:IntKind} {els:List (List AV)} (ho:o.op = .indexAddr t x i) (ht:TiOk P t ti) (hk:ti.k = .slice e) (he:TiOk P e ei) (hx:s.ev x = .row id ep off n) (hid:s.σ id=⟨ep,some (.row ty m els)⟩) (hi:s.ev i = .i kd z) (hz:z=(k:Int)) (hlt:k<n)
  (hn:m=ei.n):OpLoc P N o s ⟨.el id ep (off+k) 0,[],[id]⟩:=op_indexR ho ht hk he hx hid (hz ▸ hi) hlt hn
end
def cmpct:List Int->List Int
 | []=>[]
 | [x]=>[x]
 | x::y::l=>if x=y then cmpct (y::l) else x::cmpct (y::l)
theorem cmpct_step {L:List Int} {j:Nat} (h:j+1<L.length):cmpct (L.drop j)=if L[j]=L[j+1] then cmpct (L.drop (j+1)) else L[j]::cmpct (L.drop (j+1)):=by
 rw [List.drop_eq_getElem_cons (show j<L.length by omega),List.drop_eq_getElem_cons h,cmpct]
theorem cmpct_last {L:List Int} {j:Nat} (h:j+1=L.length):cmpct (L.drop j)=[L[j]]:=by
 rw [List.drop_eq_getElem_cons (show j<L.length by omega),List.drop_eq_nil_of_le (by omega),cmpct]
theorem cmpct_len:∀(L:List Int),(cmpct L).length<=L.length
 | []=>Nat.le_refl _
 | [x]=>Nat.le_refl _
 | x::y::l=>by
  have:=cmpct_len (y::l)
  rw [cmpct]
  split
  ·rw [List.length_cons];omega
  ·rw [List.length_cons,List.length_cons];omega
def ciB (L:List Int):List (Nat × SB):=[(201,⟨0,some (.row 3 1 (L.map cI))⟩)]
theorem ci_end {L:List Int} {s:St} {q:Nat->Option (Nat × Nat)} {e1 g1:Nat} {els:List (List AV)} (h1:s.σ 201=⟨e1,some (.row 3 1 els)⟩)
  (hg1:s.σ 1101=⟨g1,some (.ghost 201 e1 (q 201))⟩) (hel:els=L.map cI):WkB s (lkB (gl q [201] (ciB L))) (gl q [201] (ciB L)):=by
 subst hel
 exact ⟨.ghost hg1 h1 rfl,.row h1 rfl,trivial⟩
def zerosI (n:Nat):List Int:=List.replicate n 0
def cmpZ (L:List Int):List Int:=cmpct L++zerosI (L.length - (cmpct L).length)
theorem o_Compact (d:Array Int) (n:Nat) (hn:d.size=n) (hl:n<=1000000000) (q:Nat->Option (Nat × Nat)):MDoes Tryz.prog 121 [.row 201 0 0 n] (gl q [201] (ciB d.toList)) (.row 201 0 0 (cmpct d.toList).length) (gl q [201] (ciB (cmpZ d.toList))):=by
 refine MDoes.of_body Tryz.func121 rfl (by kernel_rfl) rfl rfl ?_
 have hL:d.toList.length=n:=by rw [Array.length_toList];exact hn
 refine jA ?_
 refine AW.cond rfl (fun h=>?_) (fun h=>?_)
 ·have h:n<2:=by
   have:=of_decide_eq_true h
   simp only [Int.ofNat_eq_natCast] at this
   omega
  have hc:cmpct d.toList=d.toList:=by
   match hd:d.toList,hL with
   | [],_=>rfl
   | [x],_=>rfl
   | x::y::l,hL=>simp at hL;omega
  rw [cmpZ,hc,Nat.sub_self,zerosI,List.replicate_zero,List.append_nil,hL]
  refine jA ?_
  exact AW.ret (retM1 rfl (Rm.rowIs rfl rfl rfl rfl) (ci_end rfl rfl rfl))
 have h2:2<=n:=by
  have:=of_decide_eq_false h
  simp only [Int.ofNat_eq_natCast] at this
  omega
 clear h
 refine jA ?_
 refine AW.loopL (ι:=Nat) (fun k=>[(0,.row 201 0 0 n),(3,.i .i64 (k:Nat))]) (fun _=>gl q [201] (ciB d.toList)) (fun k=>1<=k/\k<=n/\cmpct d.toList=d.toList.take (k - 1)++cmpct (d.toList.drop (k - 1))) (fun k=>n - k) 1 ⟨Nat.le_refl _,by omega,by simp⟩ ⟨Rn.rowIs rfl rfl rfl,Rn.is rfl rfl,trivial⟩ (ci_end rfl rfl rfl) fun k hk=>?_
 obtain ⟨hk1,hk2,hf⟩:=hk
 refine jA ?_
 refine AW.cond rfl (fun h=>?_) (fun h=>?_)
 rotate_left
 ·have h:¬k<n:=by
   have:=of_decide_eq_false h
   omega
  obtain rfl:k=n:=by omega
  have hdr:d.toList.drop (k - 1)=[d.toList[k - 1]]:=by rw [List.drop_eq_getElem_cons (show k - 1<d.toList.length by omega),List.drop_eq_nil_of_le (by omega)]
  have hc:cmpct d.toList=d.toList:=by
   rw [hf,cmpct_last (by omega),<- hdr,List.take_append_drop]
  have e1:(cmpct d.toList).length=k:=by rw [hc,hL]
  have e2:cmpZ d.toList=d.toList:=by rw [cmpZ,hc,Nat.sub_self,zerosI,List.replicate_zero,List.append_nil]
  refine jA ?_
  refine AW.exit ?_;refine Eq.mpr (if_pos rfl) ?_;refine jA ?_
  rw [e1,e2]
  exact AW.ret (retM1 rfl (Rm.rowIs rfl rfl rfl rfl) (ci_end rfl rfl rfl))
 have h:k<n:=by
  have:=of_decide_eq_true h
  omega
 obtain ⟨k,rfl⟩:∃k',k=k'+1:=⟨k - 1,by omega⟩
 simp only [Nat.add_sub_cancel] at hf
 have w1:IntKind.i64.wrap (((k+1:Nat):Int) - Int.ofNat 1)=((k:Nat):Int):=by simp only [IntKind.wrap_i64,Int.ofNat_eq_natCast];omega
 refine jB ?_
 refine AW.draws mixed_ok ?_
 refine wH rfl ?_;refine RG.opS rfl (op_ixW (k+1) cI ((d).toList) (by omega) rfl (tab_ok ty_ok rfl) rfl (tab_ok ty_ok rfl) rfl rfl rfl jX) rfl ?_;refine RG.opS rfl (op_ldW (k+1) cI (d) (by omega) rfl (tab_ok ty_ok rfl) rfl rfl rfl) rfl ?_
 refine wH rfl ?_;refine RG.opS rfl (op_ixW (k) cI ((d).toList) (by omega) rfl (tab_ok ty_ok rfl) rfl (tab_ok ty_ok rfl) rfl rfl rfl jX) rfl ?_;refine RG.opS rfl (op_ldW (k) cI (d) (by omega) rfl (tab_ok ty_ok rfl) rfl rfl rfl) rfl ?_
 refine wH rfl ?_
 refine jB ?_
 have g1:d.toList[k+1]'(by omega)=d[k+1]!:=by rw [getElem!_pos d (k+1) (by omega)];simp
 have g0:d.toList[k]'(by omega)=d[k]!:=by rw [getElem!_pos d k (by omega)];simp
 have hstep:=cmpct_step (L:=d.toList) (j:=k) (by omega)
 refine AW.cond rfl (fun h3=>?_) (fun h3=>?_)
 rotate_left
 ·have h3:¬d[k+1]! = d[k]!:=by
   have:=of_decide_eq_false h3
   simpa using this
  rw [if_neg (by rw [g0,g1];exact fun e=>h3 e.symm)] at hstep
  refine jA ?_
  refine ⟨k+1+1,⟨⟨by omega,by omega,?_⟩,by omega⟩,⟨Rn.rowIs rfl rfl rfl,Rn.is (i64_next h (by omega)) rfl,trivial⟩,ci_end rfl rfl rfl⟩
  rw [hf,hstep,Nat.add_sub_cancel,List.take_add_one,List.getElem?_eq_getElem (by omega)]
  simp
 have h3:d[k+1]! = d[k]!:=by
  have:=of_decide_eq_true h3
  simpa using this
 rw [if_pos (by rw [g0,g1];exact h3.symm)] at hstep
 rw [hstep] at hf
 refine jB ?_
 refine AW.text ?_
 refine wH rfl ?_
 refine RG.opS rfl (op_sliceE (l:=k+1) rfl (tab_ok ty_ok rfl) rfl (tab_ok ty_ok rfl) rfl rfl (.at_ rfl) h) rfl ?_
 refine wH rfl ?_;refine jA ?_
 refine AW.loopL (ι:=Nat × Nat × Array Int) (fun x=>[(0,.row 201 0 0 n),(3,.i .i64 (x.1:Nat)),(4,.row 201 0 (k+1) (n - (k+1))),(5,.i .i64 (x.2.1:Nat))]) (fun x=>gl q [201] (ciB x.2.2.toList)) (fun x=>(x.2.2.size=n/\1<=x.1/\1<=x.2.1/\x.1<=k+x.2.1/\k+1+x.2.1<=n)/\x.2.2.toList.drop (k+x.2.1)=d.toList.drop (k+x.2.1)/\x.2.2[x.1 - 1]! = d[k+x.2.1]!/\cmpct d.toList=x.2.2.toList.take (x.1 - 1)++cmpct (d.toList.drop (k+x.2.1))) (fun x=>n - x.2.1) (k+1,1,d) ⟨⟨hn,by show 1<=k+1;omega,Nat.le_refl _,Nat.le_refl _,by show k+1+1<=n;omega⟩,rfl,by rw [Nat.add_sub_cancel];exact h3.symm,by rw [Nat.add_sub_cancel];exact hf⟩ ⟨Rn.rowIs rfl rfl rfl,Rn.is rfl rfl,Rn.rowIs rfl rfl rfl,Rn.is rfl rfl,trivial⟩ (ci_end rfl rfl rfl) fun x hx=>?_
 clear hf hstep
 obtain ⟨k',i2,m⟩:=x
 obtain ⟨⟨hm,hk',hi2,hki,hin⟩,hdr,hlast,hf⟩:=hx
 simp only at hm hk' hi2 hki hin hdr hlast hf
 have hmL:m.toList.length=n:=by rw [Array.length_toList];exact hm
 refine jA ?_
 refine AW.cond rfl (fun h4=>?_) (fun h4=>?_)
 rotate_left
 ·have h4:¬i2<n - (k+1):=by
   have:=of_decide_eq_false h4
   simp only at this
   omega
  have hj:k+i2+1=n:=by omega
  obtain ⟨p,rfl⟩:∃p,k'=p+1:=⟨k' - 1,by omega⟩
  simp only [Nat.add_sub_cancel] at hlast hf
  have hpm:m.toList[p]'(by omega)=m[p]!:=by rw [getElem!_pos m p (by omega)];simp
  have hdj:d.toList[k+i2]'(by omega)=d[k+i2]!:=by rw [getElem!_pos d (k+i2) (by omega)];simp
  have hc:cmpct d.toList=m.toList.take (p+1):=by
   rw [hf,cmpct_last (by omega),hdj,<- hlast,<- hpm,List.take_add_one,List.getElem?_eq_getElem (by omega)]
   rfl
  have e1:(cmpct d.toList).length=p+1:=by rw [hc,List.length_take,hmL];omega
  have e2:cmpZ d.toList=m.toList.take (p+1)++List.replicate (n - (p+1)) 0:=by rw [cmpZ,e1,hc,hL,zerosI]
  refine jB ?_
  refine AW.exit ?_;refine Eq.mpr (if_pos rfl) ?_;refine jB ?_
  refine AW.text ?_
  refine wH rfl ?_
  refine RG.opS rfl (op_sliceE (l:=p+1) rfl (tab_ok ty_ok rfl) rfl (tab_ok ty_ok rfl) rfl rfl (.at_ rfl) (by omega)) rfl ?_
  refine RG.opS rfl (op_clearI rfl rfl rfl rfl (tab_ok ty_ok rfl) rfl (fun W=>by kernel_rfl) rfl rfl (by omega) (by rw [List.length_map,hmL];omega)) rfl ?_
  refine jB ?_
  refine AW.text ?_
  refine wH rfl ?_
  refine RG.opS rfl (op_sliceR (h:=p+1) rfl (tab_ok ty_ok rfl) rfl (tab_ok ty_ok rfl) rfl rfl .no (.at_ rfl) (by omega)) rfl ?_
  refine wH rfl ?_;refine jA ?_
  rw [e1,e2,show ciB (m.toList.take (p+1)++List.replicate (n - (p+1)) 0)=[(201,⟨0,some (.row 3 1 ((m.toList.map cI).take (p+1)++List.replicate (n - (p+1)) [.i .i64 0]))⟩)] from by rw [ciB,List.map_append,List.map_take,List.map_replicate];rfl]
  exact AW.ret (retM1 rfl (Rm.rowIs rfl rfl rfl rfl) ⟨.ghost rfl rfl rfl,.row rfl rfl,trivial⟩)
 have h4:i2<n - (k+1):=by
  have:=of_decide_eq_true h4
  simp only at this
  omega
 have w2:IntKind.i64.wrap (((i2:Nat):Int) - Int.ofNat 1)=((i2 - 1:Nat):Int):=by simp only [IntKind.wrap_i64,Int.ofNat_eq_natCast];omega
 have hj1:k+1+i2<m.size:=by omega
 have hj0:k+1+(i2 - 1)<m.size:=by omega
 have a1:m[k+1+i2]! = d[k+1+i2]!:=by
  rw [getElem!_pos m _ hj1,getElem!_pos d _ (by omega)]
  have e:=congrArg (fun l=>l[1]?) hdr
  simp only [List.getElem?_drop,Array.getElem?_toList] at e
  rw [show k+i2+1=k+1+i2 by omega,Array.getElem?_eq_getElem hj1,Array.getElem?_eq_getElem (by omega)] at e
  exact Option.some.inj e
 have a0:m[k+1+(i2 - 1)]! = d[k+i2]!:=by
  rw [show k+1+(i2 - 1)=k+i2 by omega,getElem!_pos m (k+i2) (by omega),getElem!_pos d (k+i2) (by omega)]
  have e:=congrArg (fun l=>l[0]?) hdr
  simp only [List.getElem?_drop,Array.getElem?_toList,Nat.add_zero] at e
  rw [Array.getElem?_eq_getElem (by omega),Array.getElem?_eq_getElem (by omega)] at e
  exact Option.some.inj e
 have d1:d.toList[k+i2+1]'(by omega)=d[k+1+i2]!:=by rw [getElem!_pos d (k+1+i2) (by omega)];simp [show k+i2+1=k+1+i2 by omega]
 have d0:d.toList[k+i2]'(by omega)=d[k+i2]!:=by rw [getElem!_pos d (k+i2) (by omega)];simp
 have hstep:=cmpct_step (L:=d.toList) (j:=k+i2) (by omega)
 have hdr2:m.toList.drop (k+(i2+1))=d.toList.drop (k+(i2+1)):=by
  have e:=congrArg (List.drop 1) hdr
  rw [List.drop_drop,List.drop_drop] at e
  exact e
 refine jB ?_
 refine AW.draws mixed_ok ?_
 refine wH rfl ?_
 refine RG.opS rfl (op_ixO (k:=i2) rfl (tab_ok ty_ok rfl) rfl (tab_ok ty_ok rfl) rfl rfl rfl rfl h4 rfl) rfl ?_
 refine RG.opS rfl (op_ldW (k+1+i2) cI m hj1 rfl (tab_ok ty_ok rfl) rfl rfl rfl) rfl ?_
 refine wH rfl ?_
 refine RG.opS rfl (op_ixO (k:=i2 - 1) rfl (tab_ok ty_ok rfl) rfl (tab_ok ty_ok rfl) rfl rfl rfl w2 (by omega) rfl) rfl ?_
 refine RG.opS rfl (op_ldW (k+1+(i2 - 1)) cI m hj0 rfl (tab_ok ty_ok rfl) rfl rfl rfl) rfl ?_
 refine wH rfl ?_
 refine jB ?_
 refine AW.cond rfl (fun h5=>?_) (fun h5=>?_)
 ·have h5:¬d[k+1+i2]! = d[k+i2]!:=by
   rw [a1,a0] at h5
   simpa using h5
  rw [if_neg (by rw [d0,d1];exact fun e=>h5 e.symm)] at hstep
  refine jB ?_
  refine AW.text ?_
  refine wH rfl ?_
  refine RG.opS rfl (op_ixO (k:=i2) rfl (tab_ok ty_ok rfl) rfl (tab_ok ty_ok rfl) rfl rfl rfl rfl h4 rfl) rfl ?_
  refine RG.opS rfl (op_ldW (k+1+i2) cI m hj1 rfl (tab_ok ty_ok rfl) rfl rfl rfl) rfl ?_
  refine wH rfl ?_
  refine RG.opS rfl (op_ixW (k') cI (m.toList) (by omega) rfl (tab_ok ty_ok rfl) rfl (tab_ok ty_ok rfl) rfl rfl rfl jX) rfl ?_
  refine RG.opS rfl (op_stW (k') cI (m.toList) (m[k+1+i2]!) (by simp only [List.length_set,Array.length_toList];omega) rfl (tab_ok ty_ok rfl) rfl rfl rfl rfl rfl (fun _=>rfl)) rfl ?_
  refine jA ?_
  obtain ⟨p,rfl⟩:∃p,k'=p+1:=⟨k' - 1,by omega⟩
  simp only [Nat.add_sub_cancel] at hlast hf
  have hset:(m.set! (p+1) m[k+1+i2]!).toList=m.toList.set (p+1) m[k+1+i2]!:=by simp
  have hpm:m.toList[p]'(by omega)=m[p]!:=by rw [getElem!_pos m p (by omega)];simp
  refine ⟨(p+1+1,i2+1,m.set! (p+1) m[k+1+i2]!),⟨⟨⟨by simp [hm],by show 1<=p+1+1;omega,by show 1<=i2+1;omega,by show p+1+1<=k+(i2+1);omega,by show k+1+(i2+1)<=n;omega⟩,?_,?_,?_⟩,by show n - (i2+1)<n - i2;omega⟩,⟨Rn.rowTIs rfl rfl rfl (by simp [hm]),Rn.is (i64_next (show p+1<n by omega) (by omega)) rfl,Rn.rowTIs rfl rfl rfl (by simp [hm];omega),Rn.is (i64_next (show i2<n by omega) (by omega)) rfl,trivial⟩,ci_end rfl rfl (by rw [hset])⟩
  ·show (m.set! (p+1) m[k+1+i2]!).toList.drop (k+(i2+1))=d.toList.drop (k+(i2+1))
   rw [hset,List.drop_set_of_lt (by omega)]
   exact hdr2
  ·simp only [Nat.add_sub_cancel]
   rw [a1,show k+(i2+1)=k+1+i2 by omega]
   simp [show p+1<m.size by omega]
  ·simp only [Nat.add_sub_cancel]
   rw [hf,hstep,hset,List.take_set_of_le (by omega),List.take_add_one,List.getElem?_eq_getElem (by omega),hpm,hlast,<- d0,List.append_assoc]
   rfl
 ·have h5:d[k+1+i2]! = d[k+i2]!:=by
   rw [a1,a0] at h5
   simpa using h5
  rw [if_pos (by rw [d0,d1];exact h5.symm)] at hstep
  refine jA ?_
  refine ⟨(k',i2+1,m),⟨⟨⟨hm,hk',by show 1<=i2+1;omega,by show k'<=k+(i2+1);omega,by show k+1+(i2+1)<=n;omega⟩,hdr2,?_,?_⟩,by show n - (i2+1)<n - i2;omega⟩,⟨Rn.rowIs rfl rfl rfl,Rn.is rfl rfl,Rn.rowIs rfl rfl rfl,Rn.is (i64_next (show i2<n by omega) (by omega)) rfl,trivial⟩,ci_end rfl rfl rfl⟩
  ·show m[k' - 1]! = d[k+(i2+1)]!
   rw [hlast,<- h5,show k+(i2+1)=k+1+i2 by omega]
  ·show _=m.toList.take (k' - 1)++cmpct (d.toList.drop (k+(i2+1)))
   rw [hf,hstep]
   rfl
end Go.Proofs.YtoaibdbehlcnfaaGreat.Sm
end
section
namespace Go.Proofs.YtoaibdbehlcnfaaGreat.Sm
open Go.RowKit
section
variable {P : Program} {N : Nat} {o : Oper} {s : St}
theorem op_clipR {t e id ep n ty m:Nat} {ti ei:TI} {x y z:Operand} {els:List (List AV)} {k1 k2:IntKind} (ho:o.op = .slice t x none (some y) (some z)) (ht:TiOk P t ti) (hk:ti.k = .slice e) (he:TiOk P e ei) (hx:s.ev x = .row id ep 0 n) (hid:s.σ id=⟨ep,some (.row ty m els)⟩) (h0:0<n) (hy:s.ev y = .i k1 (n:Nat)) (hz:s.ev z = .i k2 (n:Nat)) :
  OpLoc P N o s ⟨.ref id ep (.sl 0 n n),[],[id]⟩:=by
 refine oploc_val [id] _ fun s' W F μ a g1 g2 hs=>?_
 have hid':=(g2 id (by simp)).trans hid
 have ex:=hs.ev x
 rw [g1 x (by rw [ho];simp [Op.operands]),hx] at ex
 have ey:=hs.ev y
 rw [g1 y (by rw [ho];simp [Op.operands]),hy] at ey
 have ez:=hs.ev z
 rw [g1 z (by rw [ho];simp [Op.operands]),hz] at ez
 obtain ⟨q1,q⟩:=row_form hs.inv ex hid'
 rcases q with ⟨e1,e2,e3⟩ | ⟨b,cap,hm,hv,q2,q3⟩
 ·subst e2
  simp at q1
  omega
 have hb:(Instr.sliceBounds true n (cap - 0) none (some (.int k1 (n:Nat))) (some (.int k2 (n:Nat)))).run P W = .ok (0,n,n) W:=by
  have e1:(0:Int)<=(n:Int)/\(n:Int)<=((cap - 0:Nat):Int):=by omega
  have e2:(0:Int)<=(n:Int)/\(n:Int)<=(n:Int):=by omega
  simp only [Instr.sliceBounds,Instr.sliceBound,asIntOf,Sem.run_bind,Sem.run_pure,Result.andThen_ok,if_pos e1,if_pos e2,Int.toNat_natCast]
 simp only [Nat.sub_zero] at hv hb
 refine ⟨.slice (some ⟨b,0,none⟩) n n,?_,.ref id ep (.sl 0 n n) _ (by rw [hid'];exact Nat.le_refl _) rfl fun bd' _=>⟨b,cap,hm,rfl⟩⟩
 simp only [execOp,ho,Instr.sliceAt,Instr.slice,hv,ey.i',ez.i',Option.map_none,Option.map_some,Sem.run_bind,Sem.run_pure,Result.andThen_ok,run_underlying (ht.slice hk),hb,he.size,Nat.sub_zero]
 have hn:¬n=0:=by omega
 simp [hn,Addr.add]
theorem append_runC {t ty e : Nat} {ti ei : TI} (ht : TiOk P t ti) (hk : ti.k = .slice e) (he : TiOk P e ei) (h0 : 0 < ei.n) {W : World} {F : Nat -> Prop} {y : Value} {g cap : Nat} {els els2 : List (List AV)} {cells : List Value} (hown : W.ownsRow 0 e ei.n (.slice (some ⟨g, 0, none⟩) els.length cap) els.length cells) (hc : RowC W F ei.n els cells) (hy : Src W F ei.n els2 y) (hpos : 0 < els2.length)
    (hb:(els.length+els2.length)*ei.sz<=140737488355328) (h63:els.length+els2.length<=9223372036854775807) :
    ∃v' W' cells',(Builtin.append_ #[t,t] ty #[.slice (some ⟨g,0,none⟩) els.length els.length,y]).run P W = .ok v' W'/\W'.ownsRow 0 e ei.n v' (els++els2).length cells'/\(∃news,cells'=cells++news/\RowC W F ei.n els2 news)/\W.grownBy W' none/\v'.ownBlock=some W.heap.size:=by
  obtain ⟨A,c,news,rfl,hn,hA⟩:=hy
  obtain ⟨inf,d,z,q1,q2,q3,q4,q5,q6,q7⟩:=he.h
  have hzl:z.cells.size=ei.n:=by rw [<- he.zl,<- Array.length_toList];exact (zsOk_rel (W:=W) (F:=F) q7).1
  rcases hA with ⟨ad,rfl,hcell⟩ | hnil
  rotate_left
  · rw [hnil] at hpos;simp at hpos
  have holds:=hown.cells (g:=g) rfl
  have hcl:cells.length=els.length*inf.size:=by rw [hown.1,q3]
  have hnl:news.length=els2.length*inf.size:=by rw [hn.n,q3]
  have hr:=run_append_grow (P:=P) W t ty e inf z (ht.slice hk) q1 q6 ⟨g,0,none⟩ els.length els.length cells hcl holds ad els2.length c news hnl hcell (by omega) (by omega) (by
    have:=Nat.mul_le_mul_right inf.bytes (show Builtin.nextslicecap (els.length+els2.length) els.length<=2*(els.length+els2.length) from nextslicecap_le (by omega))
    rw [q4] at this ⊢
    rw [Nat.mul_assoc] at this
    omega)
  have hge:=grownCap_ge W (els.length+els2.length) els.length e
  have hcm:grownCap W (els.length+els2.length) els.length e<=maxLen:=grownCap_le_maxLen W _ _ e (by unfold maxLen;omega)
  have hlen:(cells++news).length=(els.length+els2.length)*ei.n:=by rw [List.length_append,hcl,hnl,q3,Nat.add_mul]
  refine ⟨_,_,cells++news,hr,⟨by rw [hlen,List.length_append],.inr ⟨W.heap.size,_,_,by rw [List.length_append],Nat.zero_le _,heap_alloc_new W.drew _,by rw [List.length_append];exact hge,hcm,?_,?_⟩⟩,⟨news,rfl,hn⟩,⟨rfl,rfl,rfl,by simp,fun k hk _=>(Below.heap_alloc W.drew _ k hk)⟩,rfl⟩
  · simp only [Array.size_append,List.size_toArray,size_zeroCells,hzl,hcl,hnl,q3,<- Nat.add_mul]
    congr 1
    omega
  · simp only [Array.toList_append,List.append_assoc]
    rw [<- List.append_assoc,List.length_append,<- hlen]
    exact List.take_left
theorem op_appendC {c : Call} {x y : Operand} {t e id ep id2 ep2 n : Nat} {ti ei : TI} {els els2 : List (List AV)} (ho : o.op = .call c) (hc : c.callee = .builtin .append) (ha : c.args = #[x, y]) (hat : c.argTypes = #[t, t]) (ht : TiOk P t ti) (hk : ti.k = .slice e) (he : TiOk P e ei) (h0 : (ei.n == 0) = false)
    (hx:s.ev x = .ref id ep (.sl 0 n n)) (hid0:s.σ id=⟨ep,some (.row e ei.n els)⟩) (hne:els.length=n) (hn0:0<n)
    (hy:s.ev y = .row id2 ep2 0 els2.length) (hid2:s.σ id2=⟨ep2,some (.row e ei.n els2)⟩) (hpos:0<els2.length)
    (hb:(els.length+els2.length)*ei.sz<=140737488355328) (h63:els.length+els2.length<=9223372036854775807) {r:List (List AV)} (hr:els++els2=r) {m:Nat} (hm:r.length=m) :
    OpLoc P N o s ⟨.row id (ep+1) 0 m,[(id,⟨ep+1,some (.row e ei.n r)⟩)],[id2]⟩:=by
  subst hr hm hne
  intro s' g1 g2 g3 W F μ a hrs K Q hK
  have hid:s'.σ id=s.σ id:=g3 (id,⟨ep+1,some (.row e ei.n (els++els2))⟩) (by simp)
  have h0' : 0 < ei.n := by have : ¬ ei.n = 0 := by simpa using h0
                            omega
  have opers:o.op.operands.toList=[x,y]:=by rw [ho];simp [Op.operands,Call.operands,hc,ha]
  have ex:=hrs.ev x
  rw [g1 x (by rw [opers];simp),hx] at ex
  have ey:=hrs.ev y
  rw [g1 y (by rw [opers];simp),hy] at ey
  have hsrc:=src_row hrs.inv ((g2 id2 (by simp)).trans hid2) ey
  obtain ⟨b,cap,hmu,hv⟩:=(Rel.ref' ex).2.2 _ (hid.trans hid0)
  have hrow:Rel W F μ s'.σ (.row id ep 0 els.length) (.slice (some ⟨b,0,none⟩) els.length (cap - 0)):=by
    refine .row id ep 0 els.length _ (by rw [hid,hid0];exact Nat.le_refl _) rfl fun bd' m' l' hbd hL=>?_
    rw [hid,hid0] at hbd
    obtain rfl:Body.row e ei.n els=bd':=by simpa using hbd
    obtain ⟨rfl,rfl⟩:ei.n=m'/\els.length=l':=by simpa [Body.rowL] using hL
    exact ⟨by omega,by rw [hmu,Nat.zero_mul]⟩
  obtain ⟨cells,h1,h2,h3⟩:=row_owns hrs.inv (hid.trans hid0) hrow
  obtain ⟨v',W',cells',hrun,ho',⟨news,rfl,hnews⟩,hg,hatb⟩:=append_runC (P:=P) (ty:=o.type) ht hk he h0' h1 h2 hsrc hpos hb h63
  have hk':Kp (fun b=>(s'.σ id).body.isSome=true/\∃c,μ id=some (b,c)) W W':=(Kp.refl _ W).grown hg fun k hk=>(by cases hk)
  have hp : ∃ p' : Option (Nat × Nat), (∀ b c, p' = some (b, c) -> b < W'.heap.size /\ (W.heap.size <= b \/ ((s'.σ id).body.isSome = true /\ ∃ c', μ id = some (b, c')))) /\
      (∀F μ' σ',RowC W' F ei.n (els++els2) (cells++news)->BodyRel W' F μ' σ' p' (.row e ei.n (els++els2)))/\RowV p' ei.n 0 (els++els2).length (els++els2).length v'/\v'.oneCell'=true:=by
    rcases ho'.2 with ⟨rfl,hz⟩ | ⟨g,cap,cur,rfl,_,hh,r1,r2,r3,r4⟩
    · have e0:=List.eq_nil_of_length_eq_zero hz
      exact ⟨none,fun b c h=>(by cases h),fun F μ' σ' _=>.inl ⟨rfl,e0⟩,⟨by omega,rfl⟩,rfl⟩
    · refine ⟨some (g,cap),fun b c h=>?_,fun F μ' σ' hc=>hc.body hh r1 r2 r3 r4,⟨by omega,by simp⟩,rfl⟩
      obtain ⟨rfl,rfl⟩:g=b/\cap=c:=by simpa using h
      refine ⟨(Array.getElem?_eq_some_iff.1 hh).1,.inl ?_⟩
      have:W.heap.size=g:=by simp [Value.ownBlock] at hatb;exact hatb.symm
      omega
  obtain ⟨p',p1,p2,p3,p4⟩:=hp
  obtain ⟨hs,hi⟩:=inv_turn hrs.inv id p' (ep+1) (.row e ei.n (els++els2)) hk' p1 (.inl (by rw [hid,hid0];exact Nat.lt_succ_self _)) (fun hs=>p2 _ _ _ ((h2.append hnews).stp hrs.inv hs))
  unfold Oper.wp
  have hrun':(execOp a.eval o).run P W = .ok (.value v') W':=by
    simp only [execOp,ho,resolve,hc,ha,hat,List.map_toArray,List.map_cons,List.map_nil,Sem.run_bind,Sem.run_pure,Result.andThen_ok,invoke,builtin,hv,RK.val,hrun]
  rw [hrun']
  refine hK W' F (upm μ id p') _ (hrs.put hs hi (.row id _ 0 _ _ ?_ p4 fun bd' m' l' hbd hL=>?_)) hs
  · rw [up1_eq,if_pos rfl]
    exact Nat.le_refl _
  · rw [up1_eq,if_pos rfl] at hbd
    obtain rfl:Body.row e ei.n (els++els2)=bd':=by simpa using hbd
    obtain ⟨rfl,rfl⟩:ei.n=m'/\(els++els2).length=l':=by simpa only [Body.rowL,Option.some.injEq,Prod.mk.injEq] using hL
    rw [upm_eq,if_pos rfl]
    exact p3
end
end Go.Proofs.YtoaibdbehlcnfaaGreat.Sm
end
section
namespace Go.Proofs.YtoaibdbehlcnfaaGreat.Sm
open Go.RowKit
theorem o_Clone (x:Int) (l:List Int) (hl:(x::l).length<=1000000) (q:Nat->Option (Nat × Nat)):MDoes Tryz.prog 83 [.sl ((x::l).map cI)] (gl q [] []) (.row 5 0 0 (x::l).length) (gl q [] [(5,⟨0,some (.row 3 1 ((x::l).map cI))⟩)]):=by
 refine MDoes.of_body Tryz.func83 rfl (by kernel_rfl) rfl rfl ?_
 have hlen:((x::l).map cI).length=(x::l).length:=List.length_map ..
 refine jA ?_
 refine AW.condF rfl ?_;refine jA ?_
 refine RG.opS rfl (op_build0 (id:=5) rfl (tab_ok ty_ok rfl) rfl (tab_ok ty_ok rfl)) rfl ?_;refine wH rfl ?_;refine jA ?_
 refine RG.opS rfl (op_appL cI ([]:List Int) (x::l) (by simp at hl ⊢;omega) (fun _=>rfl) rfl rfl rfl rfl (tab_ok ty_ok rfl) rfl (tab_ok ty_ok rfl) rfl rfl ⟨_,rfl,rfl⟩ rfl) rfl ?_;refine wH rfl ?_;refine jA ?_
 rw [<- hlen]
 exact AW.ret (retM1 rfl (Rm.rowIs rfl rfl rfl rfl) ⟨.row rfl rfl,trivial⟩)
def risB:List Int->Bool
 | x::y::l=>decide (x<y) && risB (y::l)
 | _=>true
theorem risB_drop {L:List Int} {j:Nat} (h:j+1<L.length):risB (L.drop j)=(decide (L[j]<L[j+1]) && risB (L.drop (j+1))):=by
 rw [List.drop_eq_getElem_cons (show j<L.length by omega),List.drop_eq_getElem_cons h,risB]
theorem risB_end {L:List Int} {j:Nat} (h:L.length<=j+1):risB (L.drop j)=true:=by
 match hd:L.drop j with
 | []=>rfl
 | [x]=>rfl
 | x::y::l =>
  have:=congrArg List.length hd
  rw [List.length_drop] at this
  simp at this
  omega
theorem d_IdSound (l:List Int) (b:Bool) (hb:risB l=b):PDoes Tryz.prog 119 [.sl (l.map cI)] (.b b):=by
  refine PDoes.of_bodyN Tryz.func119 rfl (by kernel_rfl) rfl rfl ?_
  refine jB ?_
  refine AW.lens 0 rfl fun hm=>?_
  rw [List.length_map] at hm
  refine jA ?_
  refine AW.loopL (ι:=Nat) (fun k=>[(0,.sl (l.map cI)),(3,.i .i64 ((k+1:Nat):Int))]) (fun _=>[]) (fun k=>risB (l.drop k)=b) (fun k=>l.length - k) 0 (by rw [List.drop_zero];exact hb) jW trivial fun k hk=>?_
  refine jA ?_
  refine AW.cond rfl (fun h0=>?_) (fun h0=>?_)
  · have h : k + 1 < l.length := by
      have:=of_decide_eq_true h0
      rw [List.length_map] at this
      omega
    have hw:IntKind.i64.wrap (((k+1:Nat):Int) - Int.ofNat 1)=(k:Nat):=by
      rw [IntKind.wrap_i64]
      simp only [Int.ofNat_eq_natCast]
      omega
    rw [risB_drop h] at hk
    refine jB ?_
    refine AW.draws mixed_ok ?_
    refine wH rfl ?_
    refine RG.opS rfl (op_index rfl (tab_ok ty_ok rfl) rfl (tab_ok ty_ok rfl) rfl rfl (show (l.map cI)[k+1]?=some (cI l[k+1]) by rw [List.getElem?_map,List.getElem?_eq_getElem (by assumption)];rfl) rfl) rfl ?_
    refine RG.runO ty_ok 0 [(16,.i .i64 (k:Nat))] 400 rfl jD ?_
    refine RG.opS rfl (op_index rfl (tab_ok ty_ok rfl) rfl (tab_ok ty_ok rfl) rfl rfl (show (l.map cI)[k]?=some (cI (l[k]'(by omega))) by rw [List.getElem?_map,List.getElem?_eq_getElem (by omega)];rfl) rfl) rfl ?_
    refine wH rfl ?_;refine jB ?_
    refine AW.cond rfl (fun h1=>?_) (fun h1=>?_)
    · have h1 : ¬ l[k]'(by omega) < l[k + 1] := by
        have:=of_decide_eq_true h1
        omega
      rw [decide_eq_false h1,Bool.false_and] at hk
      refine jA ?_
      refine AW.ret (retQA ty_ok rfl rfl rfl ?_)
      rw [<- hk]
      rfl
    have h1:l[k]'(by omega)<l[k+1]:=by
      have:=of_decide_eq_false h1
      omega
    rw [decide_eq_true h1,Bool.true_and] at hk
    refine jA ?_
    exact ⟨k+1,⟨hk,by omega⟩,⟨Rn.is rfl rfl,Rn.is (i64_next h hm) rfl,trivial⟩,trivial⟩
  · have h : l.length <= k + 1 := by
      have:=of_decide_eq_false h0
      rw [List.length_map] at this
      omega
    rw [risB_end h] at hk
    refine jA ?_
    refine AW.exit ?_;refine Eq.mpr (if_pos rfl) ?_;refine jA ?_
    refine AW.ret (retQA ty_ok rfl rfl rfl ?_)
    rw [<- hk]
    rfl
theorem o_Clip (L:List Int) (n:Nat) (h0:0<n) (q:Nat->Option (Nat × Nat)):MDoes Tryz.prog 82 [.row 201 0 0 n] (gl q [201] (ciB L)) (.ref 201 0 (.sl 0 n n)) (gl q [201] (ciB L)):=by
 refine MDoes.of_body Tryz.func82 rfl (by kernel_rfl) rfl rfl ?_
 refine jA ?_
 refine RG.opS rfl (op_clipR rfl (tab_ok ty_ok rfl) rfl (tab_ok ty_ok rfl) rfl rfl h0 rfl rfl) rfl ?_
 refine wH rfl ?_;refine jA ?_
 exact AW.ret (retM1 rfl (Rm.refIs rfl rfl rfl rfl) (ci_end rfl rfl rfl))
def insL (l:List Int):List Int:=(Go.Sort.insertionSort ltO l.toArray 0 l.length).toList
def mkL (l:List Int):List Int:=bif risB l then l else cmpct (insL l)
theorem o_Make (x:Int) (l:List Int) (hl:(x::l).length<=12) (hp:0<(mkL (x::l)).length) (q:Nat->Option (Nat × Nat)):MDoes Tryz.prog 70 [.sl ((x::l).map cI)] (gl q [] []) (.ref 5 0 (.sl 0 (mkL (x::l)).length (mkL (x::l)).length)) (gl q [] [(5,⟨0,some (.row 3 1 ((mkL (x::l)).map cI))⟩)]):=by
  have hC:=o_Clone x l (by omega)
  have hS:=fun b hb=>d_IdSound (x::l) b hb
  generalize hL:x::l=L at *
  refine MDoes.of_body Tryz.func70 rfl (by kernel_rfl) rfl rfl ?_
  refine jA ?_
  refine RG.ownN [] [(5,5)] (fun q=>hC q) rfl rfl rfl rfl rfl rfl rfl rfl rfl rfl ?_
  refine wH rfl ?_;refine jA ?_
  have hlm:(L.map cI).length=L.length:=List.length_map ..
  cases hr:risB L
  rotate_left
  · have e1:mkL L=L:=by rw [mkL,hr];rfl
    rw [e1] at hp ⊢
    have hK:=o_Clip L L.length hp
    refine RG.callS rfl rfl rfl rfl (congrArg (fun x=>[x]) (rowAllN hlm.symm)) (hS true hr) rfl rfl ?_
    refine wH rfl ?_;refine jA ?_
    refine AW.condF rfl ?_;refine jA ?_
    refine RG.ownN [(5,201)] [(201,5)] (fun q=>hK q) rfl rfl rfl rfl rfl rfl rfl rfl rfl rfl ?_
    refine wH rfl ?_;refine jA ?_
    exact AW.ret (retM1 rfl (Rm.refIs rfl rfl rfl rfl) ⟨.row rfl rfl,trivial⟩)
  · have e1:mkL L=cmpct (insL L):=by rw [mkL,hr];rfl
    rw [e1] at hp ⊢
    have hcut:((cmpZ (insL L)).map cI).take (cmpct (insL L)).length=(cmpct (insL L)).map cI:=by rw [<- List.map_take,cmpZ,List.take_left]
    have hsz:=ins_szO L.toArray L.length (by simp)
    have hO:=fun q=>o_Sort L.length hl L.toArray (by simp) q
    have hP:=fun q=>o_Compact (Go.Sort.insertionSort ltO L.toArray 0 L.length) L.length (by rw [hsz];simp) (by omega) q
    have hK:=o_Clip (cmpZ (insL L)) (cmpct (insL L)).length hp
    have hz1:((insL L).map cI).length=(L.map cI).length:=by
      rw [List.length_map,List.length_map,insL,Array.length_toList,hsz]
      simp
    have hz2:((cmpZ (insL L)).map cI).length=((insL L).map cI).length:=by
      have:=cmpct_len (insL L)
      rw [List.length_map,List.length_map,cmpZ,List.length_append,zerosI,List.length_replicate]
      omega
    refine RG.callS rfl rfl rfl rfl (congrArg (fun x=>[x]) (rowAllN hlm.symm)) (hS false hr) rfl rfl ?_
    refine wH rfl ?_;refine jA ?_
    refine AW.condT rfl ?_;refine jA ?_
    refine RG.ownK [(5,201)] [(201,5)] 5 201 hz1 (fun q=>hO q) rfl rfl rfl rfl rfl rfl rfl rfl rfl rfl rfl rfl rfl ?_
    refine wH rfl ?_;refine jA ?_
    refine RG.ownK [(5,201)] [(201,5)] 5 201 hz2 (fun q=>hP q) rfl rfl rfl rfl rfl rfl rfl rfl rfl rfl rfl rfl rfl ?_
    refine wH rfl ?_;refine jA ?_
    refine RG.ownN [(5,201)] [(201,5)] (fun q=>hK q) rfl rfl rfl rfl rfl rfl rfl rfl rfl rfl ?_
    refine wH rfl ?_;refine jA ?_
    rw [<- hcut]
    exact AW.ret (retM1 rfl (Rm.refIs rfl rfl rfl rfl) ⟨.rowT rfl rfl,trivial⟩)
end Go.Proofs.YtoaibdbehlcnfaaGreat.Sm
end
section
namespace Go.Proofs.YtoaibdbehlcnfaaGreat.Sm
open Go.RowKit
def hopN (A:List (List Int)) (h:Hop):List Int:=bif decide (0<=h.rule) then [(A.getD h.sw.toNat []).getD h.table.toNat 0+h.rule] else []
def hopsN (A:List (List Int)):List Hop->List Int
 | []=>[]
 | h::l=>hopN A h++hopsN A l
def usedR (A:List (List Int)) (c:Cf) (v:Int) (s:Sp) (out:List Int) (a:Atom):List Int:=mkL (out++hopsN A (runOf c s a.head v 10800).hops)
def usedF (A:List (List Int)) (c:Cf) (v:Int) (s:Sp) (list:List Atom) (out:List Int):List Int:=list.foldl (usedR A c v s) out
def usedG (A:List (List Int)) (c:Cf) (v:Int) (list:List Atom):List Sp->List Int->List Int
 | [],out=>out
 | s::ss,out=>usedG A c v list ss (usedF A c v s list out)
def usedAll (c:Cf) (v:Int):List Int:=usedG (numAll 0 c.tables) c v (lookA c v) (edges c.topo.ports) []
def HopOk (c:Cf) (h:Hop):Prop:=∃n t:Nat,h.sw=n/\h.table=t/\At c n t/\-1<=h.rule/\h.rule<((tabOf c n t).length:Nat)
theorem hops_app {c:Cf} {n t:Nat} {r:Int} {h:Hd} {pre:List Hop} (hp:∀x∈pre,HopOk c x) (hat:At c n t) (h1:-1<=r) (h2:r<((tabOf c n t).length:Nat)):∀x∈pre++[(⟨n,t,r,h⟩:Hop)],HopOk c x:=by
 intro x hx
 rcases List.mem_append.1 hx with hx | hx
 ·exact hp x hx
 ·rw [List.mem_singleton.1 hx]
  exact ⟨n,t,rfl,rfl,hat,h1,h2⟩
theorem goF_hops {c:Cf} (hc:c.Ok):∀(f n t:Nat) (h:Hd) (pre:List Hop),At c n t->(∀x∈pre,HopOk c x)->∀x∈(goF c f n t h pre).hops,HopOk c x
 | 0,n,t,h,pre,_,hp=>hp
 | f+1,n,t,h,pre,hat,hp=>by
  rw [goF]
  cases hq:fnd (tabOf c n t) h with
  | none=>exact hops_app hp hat (by omega) (by omega)
  | some r =>
   obtain ⟨hlt,hr,_⟩:=fnd_lt hq
   have ha:=hops_app (h:=h) hp hat (show -1<=(r:Int) by omega) (Int.ofNat_lt.2 hlt)
   dsimp only
   revert hr
   generalize (tabOf c n t).getD r Rl.zero=q
   intro hr
   by_cases k4:q.act.kind=4
   ·rw [if_pos k4]
    exact goF_hops hc f _ _ _ _ (hat.goto hc hr k4) ha
   rw [if_neg k4]
   by_cases k3:q.act.kind=3
   ·rw [if_pos k3]
    exact goF_hops hc f _ _ _ _ (hat.forward hc hr k3) ha
   rw [if_neg k3]
   by_cases k2:q.act.kind=2
   ·rw [if_pos k2]
    exact ha
   rw [if_neg k2]
   exact ha
theorem runOf_hops {c:Cf} (hc:c.Ok) {s:Sp} (hs:s∈edges c.topo.ports) (h:Hd) (v:Int) (most:Nat):∀x∈(runOf c s h v most).hops,HopOk c x:=by
 rw [runOf]
 obtain ⟨n,r,a,p,hr,hp,hk,rfl⟩:=edges_mem.1 hs
 refine goF_hops hc _ _ _ _ _ (At.start hc ?_) fun x hx=>by cases hx
 have:=(List.getElem?_eq_some_iff.1 hr).1
 simp only [Int.toNat_natCast]
 omega
theorem numRow_at:∀(t:List (List Rl)) (m k:Nat),k<t.length->∃a:Nat,(numRow m t)[k]?=some (a:Int)/\m<=a/\a+(t.getD k []).length<=m+lenT t
 | [],m,k,h=>absurd h (Nat.not_lt_zero k)
 | l::t,m,0,h=>⟨m,by rw [numRow];rfl,Nat.le_refl _,by rw [lenT_cons];show m+l.length<=_;omega⟩
 | l::t,m,k+1,h=>by
  obtain ⟨a,h1,h2,h3⟩:=numRow_at t (m+l.length) k (by simpa using h)
  refine ⟨a,by rw [numRow,List.getElem?_cons_succ];exact h1,by omega,?_⟩
  rw [lenT_cons,List.getD_cons_succ]
  omega
theorem numAll_at:∀(ts:List (List (List Rl))) (m n:Nat),n<ts.length->∃b:Nat,(numAll m ts)[n]?=some (numRow b (ts.getD n []))/\m<=b/\b+lenT (ts.getD n [])<=m+(ts.map lenT).sum
 | [],m,n,h=>absurd h (Nat.not_lt_zero n)
 | t::ts,m,0,h=>⟨m,by rw [numAll];rfl,Nat.le_refl _,by rw [List.map_cons,List.sum_cons];show m+lenT t<=_;omega⟩
 | t::ts,m,n+1,h=>by
  obtain ⟨b,h1,h2,h3⟩:=numAll_at ts (m+lenT t) n (by simpa using h)
  refine ⟨b,by rw [numAll,List.getElem?_cons_succ];exact h1,by omega,?_⟩
  rw [List.map_cons,List.sum_cons,List.getD_cons_succ]
  omega
def HopA (A:List (List Int)) (h:Hop):Prop:=∃n t a:Nat,∃row,h.sw=n/\h.table=t/\A[n]?=some row/\row[t]?=some (a:Int)/\-1<=h.rule/\(a:Int)+h.rule<=1000000000
theorem HopOk.A {c:Cf} {h:Hop} (hB:(c.tables.map lenT).sum<=1000000000) (hh:HopOk c h):HopA (numAll 0 c.tables) h:=by
 obtain ⟨n,t,h1,h2,hat,h3,h4⟩:=hh
 obtain ⟨b,g1,_,g2⟩:=numAll_at c.tables 0 n hat.sw
 obtain ⟨a,g3,_,g4⟩:=numRow_at (c.tables.getD n []) b t hat.tab
 refine ⟨n,t,a,_,h1,h2,g1,g3,h3,?_⟩
 rw [tabOf] at h4
 omega
theorem HopA.num {A:List (List Int)} {h:Hop} {n t a:Nat} {row:List Int} (h1:h.sw=n) (h2:h.table=t) (g1:A[n]?=some row) (g2:row[t]?=some (a:Int)) (h0:0<=h.rule) (h3:(a:Int)+h.rule<=1000000000):hopN A h=[IntKind.i64.wrap ((a:Int)+h.rule)]:=by
 rw [hopN,decide_eq_true h0,cond_true,h1,h2,Int.toNat_natCast,Int.toNat_natCast,List.getD_eq_getElem?_getD,List.getD_eq_getElem?_getD,g1,Option.getD_some,g2,Option.getD_some]
 congr 1
 rw [IntKind.wrap_i64]
 omega
def outV:Bool->List Int->AV
 | false,out=>.row 40 0 0 (out.map cI).length
 | true,out=>.ref 40 0 (.sl 0 out.length out.length)
def oB (fl:Bool) (out:List Int):List (Nat × SB):=[(9,⟨0,some (.box 74 [outV fl out])⟩),(40,⟨0,some (.row 3 1 (out.map cI))⟩)]
theorem oB_nof (fl:Bool) (out:List Int):(oB fl out).all nofSB=true:=by
 have h2:nofSB (40,⟨0,some (.row 3 1 (out.map cI))⟩)=true:=by
  simp only [nofSB,Body.nof]
  rw [Bool.and_eq_true]
  refine ⟨rfl,List.all_eq_true.2 fun cs hcs=>?_⟩
  obtain ⟨x,_,rfl⟩:=List.mem_map.1 hcs
  rfl
 cases fl
 ·rw [oB,List.all_cons,List.all_cons,h2]
  rfl
 ·rw [oB,List.all_cons,List.all_cons,h2]
  rfl
theorem Rn.outV {σ σ':Sto} {t m:Nat} {els:List (List AV)} {fl:Bool} {out:List Int} (h:σ 40=⟨0,some (.row t m els)⟩) (h':σ' 40=⟨0,some (.row t m els)⟩):Rn σ σ' (outV fl out) (outV fl out):=by
 cases fl
 ·exact Rn.rowIs rfl h h'
 ·exact Rn.refIs rfl h h'
theorem outV_one {fl:Bool} {out:List Int}:(outV fl out).one=true:=by
 cases fl <;> rfl
theorem outV_all {fl:Bool} {out:List Int}:[outV fl out].all AV.one=true:=by
 rw [List.all_cons,outV_one];rfl
theorem outV_fz {σ:Sto} {t m ep:Nat} {fl:Bool} {out:List Int} (h:σ 40=⟨ep,some (.row t m (out.map cI))⟩) (hep:ep=0):Fz σ (outV fl out) (.sl (out.map cI)) [40]:=by
 subst hep
 cases fl
 ·exact .row h (by rw [List.drop_zero,List.take_length])
 ·exact .rowref h (List.length_map ..)
theorem usedF_take {A:List (List Int)} {c:Cf} {v:Int} {s:Sp} {list:List Atom} {G:List Int->Prop} (hs:∀a∈list,∀o,G o->0<(usedR A c v s o a).length/\G (usedR A c v s o a)) {out:List Int} (hg:G out):∀j,j<=list.length->G (usedF A c v s (list.take j) out)/\(j≠0->0<(usedF A c v s (list.take j) out).length)
 | 0,_=>⟨hg,fun h=>absurd rfl h⟩
 | j+1,hj=>by
  obtain ⟨h1,_⟩:=usedF_take hs hg j (by omega)
  rw [List.take_add_one,List.getElem?_eq_getElem hj,usedF,List.foldl_append]
  obtain ⟨g1,g2⟩:=hs _ (List.getElem_mem hj) _ h1
  exact ⟨g2,fun _=>g1⟩
theorem op_appC1 {α:Type} (cF:α->List AV) (l:List α) (x:α) (hL:l.length<=100000000) (h0l:0<l.length) {P:Program} {N:Nat} {o:Oper} {s:St} {c:Call} {xo yo:Operand} {t e id ep id2 ep2:Nat} {ti ei:TI} (ho:o.op = .call c) (hc:c.callee = .builtin .append) (ha:c.args = #[xo,yo]) (hat:c.argTypes = #[t,t]) (ht:TiOk P t ti) (hk:ti.k = .slice e) (he:TiOk P e ei) (h0:(ei.n == 0)=false) (hsz:Nat.ble ei.sz 1000=true)
  (hx:s.ev xo = .ref id ep (.sl 0 l.length l.length)) (hid0:s.σ id=⟨ep,some (.row e ei.n (l.map cF))⟩) (hy:s.ev yo = .row id2 ep2 0 1) (hid2:s.σ id2=⟨ep2,some (.row e ei.n [cF x])⟩) :
  OpLoc P N o s ⟨.row id (ep+1) 0 ((l++[x]).map cF).length,[(id,⟨ep+1,some (.row e ei.n ((l++[x]).map cF))⟩)],[id2]⟩:=by
 have h2:=Nat.le_of_ble_eq_true hsz
 refine op_appendC (els:=l.map cF) (els2:=[cF x]) ho hc ha hat ht hk he h0 hx hid0 (List.length_map ..) h0l hy hid2 (by simp) ?_ ?_ (by simp) rfl
 ·rw [List.length_map]
  show (l.length+1)*ei.sz<=_
  exact Nat.le_trans (Nat.mul_le_mul (show l.length+1<=100000001 by omega) h2) (by decide)
 ·rw [List.length_map]
  show l.length+1<=_
  omega
def MakeOk (L:List Int):Prop:=∀q,MDoes Tryz.prog 70 [.sl (L.map cI)] (gl q [] []) (.ref 5 0 (.sl 0 (mkL L).length (mkL L).length)) (gl q [] [(5,⟨0,some (.row 3 1 ((mkL L).map cI))⟩)])
theorem d_RUsed (c : Cf) (V : Int) (hL : c.Lens) (he : lookE c V = 0) (hB : (c.tables.map lenT).sum <= 1000000000) (G : List Int -> Prop) (hG0 : G []) (hGs : ∀ s ∈ edges c.topo.ports, ∀ a ∈ lookA c V, ∀ out, G out -> MakeOk (out ++ hopsN (numAll 0 c.tables) (runOf c s a.head V 10800).hops) /\ 0 < (usedR (numAll 0 c.tables) c V s out a).length /\ (out ++ hopsN (numAll 0 c.tables) (runOf c s a.head V 10800).hops).length <= 1000000 /\ G (usedR (numAll 0 c.tables) c V s out a)) :
    PDoes Tryz.prog 29 [.agg (cCf c),.i .i64 V] (.tup [.sl ((usedAll c V).map cI),.i .i64 0]):=by
  refine PDoes.of_bodyN Tryz.func29 rfl (by kernel_rfl) rfl rfl ?_
  have hl:=d_look c V hL
  rw [lookR,decide_eq_true he] at hl
  obtain ⟨h0,v,rfl,hV⟩:=malE_nat (lookE_mal he)
  have hLk:=looks_any h0 hL
  have hc:=Cf.ok h0
  have hE:=edges_len hc.topo
  have hme:(edges c.topo.ports).length<=9223372036854775807:=by omega
  have htp:=topoSound_ok hc.topo
  have hN:=d_numbers c (by rw [hc.len];omega) (fun t ht=>by
    obtain ⟨n,hn⟩:=List.mem_iff_getElem?.1 ht
    have:=(tabSound_ok (hc.tabs n t hn)).2.1
    omega) hB
  refine jA ?_
  refine RG.callMS rfl rfl rfl rfl rfl rfl hl rfl ?_;refine wH rfl ?_;refine jA ?_
  refine AW.condF rfl ?_;refine jA ?_
  refine RG.callMS rfl rfl rfl rfl rfl rfl hN rfl ?_;refine wH rfl ?_;refine jA ?_
  refine RG.callMS rfl rfl rfl rfl rfl rfl (d_Edges c.topo.ports hc.topo) rfl ?_;refine wH rfl ?_;refine jA ?_
  refine AW.nilRow 40 0 3 1 [(2,.own 2 0 0),(6,.ro (cLk c v (lookA c v))),(8,.own 8 0 0),(9,.own 9 0 0),(29,.sl ((edges c.topo.ports).map cSp)),(30,.i .i64 ((edges c.topo.ports).map cSp).length),(31,.i .i64 (0:Nat))] [(2,⟨0,some (.box 31 (cCf c))⟩),(8,⟨0,some (.box 138 [.sl ((numAll 0 c.tables).map cNum)])⟩),(9,⟨0,some (.box 74 [.row 40 0 0 0])⟩),(40,⟨0,some (.row 3 1 [])⟩)] ⟨.rn (Rn.ownIs rfl rfl rfl),.rn (Rn.is rfl rfl),.rn (Rn.ownIs rfl rfl rfl),.rn (Rn.ownIs rfl rfl rfl),.rn (Rn.is rfl rfl),.rn (Rn.is rfl rfl),.rn (Rn.is rfl rfl),trivial⟩ ⟨.old (WkB1.same rfl rfl rfl),.old (WkB1.same rfl rfl rfl),.boxL rfl ⟨.nil rfl,trivial⟩ rfl,.old (.row rfl rfl),trivial⟩ ?_
  refine AW.freeze [2,8] [(6,.ro (cLk c v (lookA c v))),(8,.ro [.sl ((numAll 0 c.tables).map cNum)]),(9,.own 9 0 0),(29,.sl ((edges c.topo.ports).map cSp)),(30,.i .i64 ((edges c.topo.ports).map cSp).length),(31,.i .i64 (0:Nat))] (oB false []) ⟨.rn (Rn.is rfl rfl),.fzA rfl rfl rfl,.rn (Rn.ownIs rfl rfl rfl),.rn (Rn.is rfl rfl),.rn (Rn.is rfl rfl),.rn (Rn.is rfl rfl),trivial⟩ ⟨.boxL rfl ⟨.rn (Rn.rowIs rfl rfl rfl),trivial⟩ rfl,.old (.row rfl rfl),trivial⟩ rfl ?_
  rw [usedAll]
  have hA:∀s∈edges c.topo.ports,∀g:Hd,∀x∈(runOf c s g v 10800).hops,HopA (numAll 0 c.tables) x:=fun s hs g x hx=>(runOf_hops hc hs g v 10800 x hx).A hB
  generalize numAll 0 c.tables=A at hGs hA
  generalize lookA c v=list at hGs
  have hes:∀s∈edges c.topo.ports,s∈edges c.topo.ports:=fun s hs=>hs
  generalize hEE:edges c.topo.ports=E at hE hme hGs
  refine AW.loopL (ι:=Nat × Bool × List Int) (fun i=>[(6,.ro (cLk c v list)),(8,.ro [.sl (A.map cNum)]),(9,.own 9 0 0),(29,.sl (E.map cSp)),(30,.i .i64 (E.map cSp).length),(31,.i .i64 (i.1:Nat))]) (fun i=>oB i.2.1 i.2.2) (fun i=>i.1<=E.length/\G i.2.2/\(i.2.1=true->0<i.2.2.length)/\usedG A c v list (E.drop i.1) i.2.2=usedG A c v list E []) (fun i=>E.length - i.1) (0,false,[]) ⟨Nat.zero_le _,hG0,fun h=>(by cases h),rfl⟩ jV ⟨.boxL rfl ⟨Rn.rowIs rfl rfl rfl,trivial⟩ rfl,.row rfl rfl,trivial⟩ fun i hi=>?_
  obtain ⟨k,fl,out⟩:=i
  obtain ⟨hk,hg,hfl,hf⟩:=hi
  simp only at hk hg hfl hf
  refine jA ?_
  refine AW.cond rfl (fun h=>?_) (fun h=>?_)
  rotate_left
  · have h:¬k<E.length:=by simpa using h
    obtain rfl:k=E.length:=by omega
    rw [List.drop_length,usedG] at hf
    rw [<- hf]
    cases fl
    · refine jA ?_
      refine AW.exit ?_;refine Eq.mpr (if_pos rfl) ?_;refine jA ?_
      refine AW.ret (retQA ty_ok rfl rfl rfl ?_)
      exact congrArg (fun x=>AV.tup [x,.i .i64 0]) (rowAll rfl)
    · refine jA ?_
      refine AW.exit ?_;refine Eq.mpr (if_pos rfl) ?_
      refine AW.freeze [40] [(9,.own 9 0 0)] [(9,⟨0,some (.box 74 [.sl (out.map cI)])⟩)] ⟨.rn (Rn.ownIs rfl rfl rfl),trivial⟩ ⟨.boxL rfl ⟨.fz (Fz.rowref rfl (List.length_map ..)) (by simp),trivial⟩ rfl,trivial⟩ rfl ?_
      refine jA ?_
      refine AW.ret (retQA ty_ok rfl rfl rfl ?_)
      rfl
  have h:k<E.length:=by simpa using h
  rw [List.drop_eq_getElem_cons h,usedG] at hf
  have hs:=List.getElem_mem h
  have hGk:=hGs _ hs
  have hAk:=hA E[k] (by rw [hEE];exact hs)
  have hI:=i_runs c h0 hLk E[k] (by rw [hEE];exact hs) v hV list
  refine jA ?_
  refine RG.opS rfl (op_index rfl (tab_ok ty_ok rfl) rfl (tab_ok ty_ok rfl) rfl rfl (show (E.map cSp)[k]?=some (cSp E[k]) by rw [List.getElem?_map,List.getElem?_eq_getElem (by assumption)];rfl) rfl) rfl ?_
  generalize E[k]=s at hf hGk hAk hI
  refine wH rfl ?_;refine jA ?_
  refine RG.callMS rfl rfl rfl rfl rfl rfl (d_runs c v list s) rfl ?_;refine wH rfl ?_;refine jA ?_
  refine AW.rangeFunc hI rfl rfl (fun _=>rfl) rfl [9] [(6,.ro (cLk c v list)),(8,.ro [.sl (A.map cNum)]),(9,.own 9 0 0),(29,.sl (E.map cSp)),(30,.i .i64 (E.map cSp).length),(31,.i .i64 (k:Nat))] (fun pre=>oB (bif pre.isEmpty then fl else true) (usedF A c v s (list.take pre.length) out)) jV ?_ rfl (fun pre id hid=>?_) (fun pre=>oB_nof _ _) ?_ ?_
  · exact ⟨.boxL rfl ⟨Rn.outV rfl rfl,trivial⟩ outV_all,.row rfl rfl,trivial⟩
  · obtain rfl:=List.mem_singleton.1 hid
    exact ⟨by decide,_,rfl⟩
  · rintro q _ j ⟨rfl,hj⟩
    have hget:list.getD j ⟨[],Hd.zero,[]⟩=list[j]:=by rw [List.getD_eq_getElem?_getD,List.getElem?_eq_getElem hj];rfl
    have henc:encR c v s list j=[.agg (cHd list[j].head),.agg (cRun (runOf c s list[j].head v 10800))]:=by rw [encR,hget]
    have hstep:usedF A c v s (list.take (List.range j++[j]).length) out=usedR A c v s (usedF A c v s (list.take (List.range j).length) out) list[j]:=by
      rw [List.length_append,List.length_range,List.length_singleton,List.take_add_one,List.getElem?_eq_getElem hj,usedF,List.foldl_append]
      rfl
    have hfl':(bif (List.range j++[j]).isEmpty then fl else true)=true:=by
      cases List.range j <;> rfl
    obtain ⟨hgo,hpo⟩:=usedF_take (fun a ha o ho=>(hGk a ha o ho).2.imp_right And.right) hg j (by omega)
    have hg0:(bif (List.range j).isEmpty then fl else true)=true->0<(usedF A c v s (list.take (List.range j).length) out).length:=by
      rw [List.length_range]
      cases j with
      | zero=>exact hfl
      | succ j=>exact fun _=>hpo (by omega)
    rw [<- List.length_range (n:=j)] at hgo
    rw [hfl',hstep,henc]
    obtain ⟨hM,hpos,hlen,_⟩:=hGk _ (List.getElem_mem hj) _ hgo
    rw [usedR] at hpos ⊢
    have hAj:=hAk list[j].head
    clear hfl' hstep henc hget hpo hgo
    generalize usedF A c v s (list.take (List.range j).length) out=o at hM hpos hlen hg0
    generalize (bif (List.range j).isEmpty then fl else true)=g at hg0
    generalize list[j].head=hd at hM hpos hlen hAj
    generalize runOf c s hd v 10800=r at hM hpos hlen hAj
    refine jA ?_
    generalize r.hops=H at hM hpos hlen hAj
    refine AW.lens 41 rfl fun hmH=>?_
    rw [List.length_map] at hmH
    refine AW.loopL (ι:=Nat × Bool × List Int) (fun i=>[(8,.ro [.sl (A.map cNum)]),(9,.own 9 0 0),(41,.sl (H.map cHop)),(42,.i .i64 (H.map cHop).length),(43,.i .i64 (i.1:Nat))]) (fun i=>gl q [9] (oB i.2.1 i.2.2)) (fun i=>i.1<=H.length/\(i.2.1=true->0<i.2.2.length)/\i.2.2++hopsN A (H.drop i.1)=o++hopsN A H) (fun i=>H.length - i.1) (0,g,o) ⟨Nat.zero_le _,hg0,rfl⟩ jV ⟨.ghost rfl rfl rfl,.boxL rfl ⟨Rn.outV rfl rfl,trivial⟩ outV_all,.row rfl rfl,trivial⟩ fun i hi=>?_
    obtain ⟨m,g,u⟩:=i
    obtain ⟨hm,hg1,hfu⟩:=hi
    simp only at hm hg1 hfu
    have lH:(H.map cHop).length=H.length:=List.length_map ..
    refine jA ?_
    refine AW.cond rfl (fun h1=>?_) (fun h1=>?_)
    rotate_left
    · have h':¬m<H.length:=by simpa using h1
      obtain rfl:m=H.length:=by omega
      rw [List.drop_length,hopsN,List.append_nil] at hfu
      rw [<- hfu] at hM hpos ⊢
      refine jB ?_
      refine AW.exit ?_;refine Eq.mpr (if_pos rfl) ?_
      refine AW.freeze [40] [(9,.own 9 0 0)] (gl q [9] [(9,⟨0,some (.box 74 [.sl (u.map cI)])⟩)]) ⟨.rn (Rn.ownIs rfl rfl rfl),trivial⟩ ⟨.old (.ghost rfl rfl rfl),.boxL rfl ⟨.fz (outV_fz rfl rfl) (by simp),trivial⟩ rfl,trivial⟩ rfl ?_
      refine jA ?_
      refine RG.ownN [] [(5,40)] hM rfl rfl rfl rfl rfl rfl rfl rfl rfl rfl ?_
      refine wH rfl ?_;refine jA ?_
      exact ⟨.ghost rfl rfl rfl,.boxL rfl ⟨Rn.refIs rfl rfl rfl,trivial⟩ rfl,.row rfl rfl,trivial⟩
    have hm':m<H.length:=by simpa using h1
    have hx:=hAj _ (List.getElem_mem hm')
    have hul:u.length<=1000000:=by
      have:=congrArg List.length hfu
      rw [List.length_append] at this
      omega
    rw [List.drop_eq_getElem_cons hm',hopsN] at hfu
    have hgH:(H.map cHop)[m]?=some (cHop H[m]):=by rw [List.getElem?_map,List.getElem?_eq_getElem hm'];rfl
    generalize H[m]=x at hx hfu hgH
    obtain ⟨n,t,a,row,x1,x2,y1,y2,y0,y3⟩:=hx
    refine jB ?_
    skip;(with_reducible first|apply wF|apply wG)
    refine wH rfl ?_
    refine RG.opS rfl (op_index rfl (tab_ok ty_ok rfl) rfl (tab_ok ty_ok rfl) rfl rfl hgH rfl) rfl ?_
    refine wH rfl ?_;refine jA ?_
    refine AW.cond rfl (fun h2=>?_) (fun h2=>?_)
    rotate_left
    · have h2:¬0<=x.rule:=by simpa using h2
      rw [hopN,decide_eq_false h2,cond_false,List.nil_append] at hfu
      refine jA ?_
      exact ⟨(m+1,g,u),⟨⟨hm',hg1,hfu⟩,by show H.length - (m+1)<H.length - m;omega⟩,jV,⟨.ghost rfl rfl rfl,.boxL rfl ⟨Rn.outV rfl rfl,trivial⟩ outV_all,.row rfl rfl,trivial⟩⟩
    have h2:0<=x.rule:=by simpa using h2
    rw [HopA.num x1 x2 y1 y2 h2 y3] at hfu
    have hgA:(A.map cNum)[n]?=some (cNum row):=by rw [List.getElem?_map,y1];rfl
    have hgr:(row.map cI)[t]?=some (cI a):=by rw [List.getElem?_map,y2];rfl
    obtain ⟨sw,tb,rl,hdr⟩:=x
    simp only at x1 x2 hfu
    subst x1 x2
    have hfu':(u++[IntKind.i64.wrap ((a:Int)+rl)])++hopsN A (H.drop (m+1))=o++hopsN A H:=by rw [<- hfu,List.append_assoc]
    cases g
    · refine jB ?_
      skip;(with_reducible first|apply wF|apply wG)
      refine wH rfl ?_
      refine RG.opS rfl (op_index rfl (tab_ok ty_ok rfl) rfl (tab_ok ty_ok rfl) rfl rfl hgA rfl) rfl ?_
      refine wH rfl ?_
      refine RG.opS rfl (op_index rfl (tab_ok ty_ok rfl) rfl (tab_ok ty_ok rfl) rfl rfl hgr rfl) rfl ?_
      refine wH rfl ?_
      refine RG.opS rfl (op_app1 cI u (IntKind.i64.wrap ((a:Int)+rl)) (by omega) rfl rfl rfl rfl (tab_ok ty_ok rfl) rfl (tab_ok ty_ok rfl) rfl rfl ⟨_,rfl,rfl⟩ rfl rfl) rfl ?_;refine wH rfl ?_;refine jA ?_
      exact ⟨(m+1,false,_),⟨⟨hm',fun h=>(by cases h),hfu'⟩,by show H.length - (m+1)<H.length - m;omega⟩,jV,⟨.ghost rfl rfl rfl,.boxL rfl ⟨Rn.rowIs rfl rfl rfl,trivial⟩ rfl,.row rfl rfl,trivial⟩⟩
    · have hu0:=hg1 rfl
      refine jB ?_
      skip;(with_reducible first|apply wF|apply wG)
      refine wH rfl ?_
      refine RG.opS rfl (op_index rfl (tab_ok ty_ok rfl) rfl (tab_ok ty_ok rfl) rfl rfl hgA rfl) rfl ?_
      refine wH rfl ?_
      refine RG.opS rfl (op_index rfl (tab_ok ty_ok rfl) rfl (tab_ok ty_ok rfl) rfl rfl hgr rfl) rfl ?_
      refine wH rfl ?_
      refine RG.opS rfl (op_appC1 cI u (IntKind.i64.wrap ((a:Int)+rl)) (by omega) hu0 rfl rfl rfl rfl (tab_ok ty_ok rfl) rfl (tab_ok ty_ok rfl) rfl rfl rfl rfl rfl rfl) rfl ?_
      refine wH rfl ?_;refine jA ?_
      exact ⟨(m+1,false,_),⟨⟨hm',fun h=>(by cases h),hfu'⟩,by show H.length - (m+1)<H.length - m;omega⟩,jV,⟨.ghost rfl rfl rfl,.boxL rfl ⟨Rn.rowIs rfl rfl rfl,trivial⟩ rfl,.row rfl rfl,trivial⟩⟩
  · rintro q _ rfl
    obtain ⟨hgo,hpo⟩:=usedF_take (fun a ha o ho=>(hGk a ha o ho).2.imp_right And.right) hg list.length (Nat.le_refl _)
    have hg0:(bif (List.range list.length).isEmpty then fl else true)=true->0<(usedF A c v s list out).length:=by
      rw [List.take_length] at hpo
      cases hl:list.length with
      | zero =>
        rw [List.eq_nil_of_length_eq_zero hl]
        exact hfl
      | succ j=>exact fun _=>hpo (by omega)
    rw [List.take_length] at hgo
    have e:usedF A c v s (list.take (List.range list.length).length) out=usedF A c v s list out:=by rw [List.length_range,List.take_length]
    rw [e]
    generalize usedF A c v s list out=o at hgo hg0 hf
    generalize (bif (List.range list.length).isEmpty then fl else true)=g at hg0
    refine jA ?_
    exact ⟨(k+1,g,o),⟨⟨h,hgo,hg0,hf⟩,by show E.length - (k+1)<E.length - k;omega⟩,jV,⟨.boxL rfl ⟨Rn.outV rfl rfl,trivial⟩ outV_all,.row rfl rfl,trivial⟩⟩
end Go.Proofs.YtoaibdbehlcnfaaGreat.Sm
end
section
namespace Go.Proofs.YtoaibdbehlcnfaaGreat.Sm
open Go.RowKit
theorem accI_nodup {α β:Type} {f:Nat->α->List β} (h1:∀n x,(f n x).Nodup) (h2:∀n m x y b,n≠m->b∈f n x->b∉f m y):∀(n:Nat) (l:List α),(accI f n l []).Nodup
 | n,[]=>by rw [accI];exact List.nodup_nil
 | n,x::l=>by
  rw [accI,accI_eq,List.nil_append,List.nodup_append]
  refine ⟨h1 n x,accI_nodup h1 h2 (n+1) l,fun a ha b hb e=>?_⟩
  subst e
  obtain ⟨i,z,hz,h⟩:=(accI_mem (n+1) l).1 hb
  exact h2 n (n+1+i) x z a (by omega) ha h
theorem edgeI_mem {n a:Nat} {p:Pt} {s:Sp} (h:s∈edgeI n a p):s=⟨n,a⟩:=by
 rw [edgeI] at h
 cases hk:decide (p.kind=1)
 ·rw [hk] at h;cases h
 ·rw [hk] at h;exact List.mem_singleton.1 h
theorem edgeRow_mem {n:Nat} {r:List Pt} {s:Sp} (h:s∈edgeRow n r):s.sw=n:=by
 rw [edgeRow,accI_mem] at h
 obtain ⟨a,p,_,h⟩:=h
 rw [edgeI_mem h]
theorem edges_nodup (t:List (List Pt)):(edges t).Nodup:=by
 refine accI_nodup (fun n r=>accI_nodup (fun a p=>?_) (fun a a' p q b hne h h'=>?_) 0 r) (fun n m x y b hne h h'=>?_) 0 t
 ·rw [edgeI]
  cases decide (p.kind=1)
  ·exact List.nodup_nil
  ·simp
 ·have e:=(edgeI_mem h).symm.trans (edgeI_mem h')
  have:(a:Int)=a':=congrArg Sp.port e
  omega
 ·have e:=(edgeRow_mem h).symm.trans (edgeRow_mem h')
  omega
theorem pairsM_mem {s:Sp} {m:List (Sp × Hd)} {p:Pair}:∀{l:List Sp},p∈pairsM s m l↔p.fro=s/\p.to∈l/\lookM m p.to=some p.head
 | []=>by rw [pairsM];exact ⟨fun h=>(by cases h),fun h=>(by cases h.2.1)⟩
 | t::l=>by
  rw [pairsM,List.mem_append,pairsM_mem (l:=l)]
  constructor
  ·rintro (h | ⟨h1,h2,h3⟩)
   ·cases hl:lookM m t with
    | none=>rw [hl] at h;cases h
    | some g =>
     rw [hl] at h
     rw [List.mem_singleton.1 h]
     exact ⟨rfl,List.mem_cons_self,hl⟩
   ·exact ⟨h1,List.mem_cons_of_mem _ h2,h3⟩
  ·rintro ⟨h1,h2,h3⟩
   rcases List.mem_cons.1 h2 with e | h2
   ·refine .inl ?_
    rw [<- e,h3]
    rw [<- h1]
    exact List.mem_singleton.2 rfl
   ·exact .inr ⟨h1,h2,h3⟩
theorem pairs_from {c:Cf} {v:Int} {list:List Atom} {s:Sp}:∀{l:List Sp},l.Nodup->(pairsE c v list l).filter (fun p=>decide (p.fro=s))=bif decide (s∈l) then pairsOf c v list s else []
 | [],_=>by rw [pairsE];rfl
 | t::l,hn=>by
  obtain ⟨h1,h2⟩:=List.nodup_cons.1 hn
  rw [pairsE,List.filter_append,pairs_from h2]
  have hf:∀p∈pairsOf c v list t,p.fro=t:=fun p hp=>(pairsM_mem.1 hp).1
  by_cases e:t=s
  ·subst e
   rw [List.filter_eq_self.2 fun p hp=>decide_eq_true (hf p hp),decide_eq_false h1,decide_eq_true List.mem_cons_self,cond_true,cond_false,List.append_nil]
  ·rw [List.filter_eq_nil_iff.2 fun p hp h=>e ((hf p hp).symm.trans (of_decide_eq_true h)),List.nil_append]
   congr 1
   rw [Bool.eq_iff_iff]
   simp only [decide_eq_true_eq,List.mem_cons]
   exact ⟨fun h=>.inr h,fun h=>h.elim (fun h=>absurd h.symm e) id⟩
end Go.Proofs.YtoaibdbehlcnfaaGreat.Sm
end
section
namespace Go.Proofs.YtoaibdbehlcnfaaGreat.Sm
open Go.RowKit
theorem d_wrong30 (c:Cf) (V:Int):PDoes Tryz.prog 22 [.agg (cCf c),.i .i64 V] (.i .i64 (malE c V)):=by
  refine PDoes.of_bodyN Tryz.func22 rfl (by kernel_rfl) rfl rfl ?_
  have hS:=d_rCSound c
  rw [malE]
  by_cases h0:c.sound=0
  · rw [if_pos h0]
    rw [h0] at hS
    refine jB ?_;refine wF ?_;refine wH rfl ?_;refine jB ?_
    refine AW.text ?_
    refine wH rfl ?_
    refine RG.callS rfl rfl rfl rfl rfl hS rfl rfl ?_
    refine wH rfl ?_;refine jB ?_
    refine AW.text ?_
    by_cases g1:V<0
    · rw [if_pos (.inl g1)]
      refine RG.runO ty_ok 0 [(12,.b true)] 400 rfl jD ?_
      refine jB ?_;refine AW.condT rfl ?_;refine jA ?_
      refine AW.ret (retQA ty_ok rfl rfl rfl ?_)
      rfl
    by_cases g2:V>255
    · rw [if_pos (.inr g2)]
      refine RG.runO ty_ok 0 [(12,.b false),(15,.b true)] 400 rfl jD ?_
      refine jB ?_;refine AW.condT rfl ?_;refine jA ?_
      refine AW.ret (retQA ty_ok rfl rfl rfl ?_)
      rfl
    · rw [if_neg (by omega)]
      refine RG.runO ty_ok 0 [(12,.b false),(15,.b false)] 400 rfl jD ?_
      refine jB ?_;refine AW.condF rfl ?_;refine jA ?_
      refine AW.ret (retQA ty_ok rfl rfl rfl ?_)
      rfl
  · rw [if_neg h0]
    refine jB ?_;refine wF ?_;refine wH rfl ?_;refine jB ?_
    refine AW.text ?_
    refine wH rfl ?_
    refine RG.callS rfl rfl rfl rfl rfl hS rfl rfl ?_
    refine wH rfl ?_;refine jB ?_
    refine AW.text ?_
    refine RG.runO ty_ok 0 [(9,.b false)] 400 rfl jD ?_
    refine jB ?_;refine AW.condF rfl ?_;refine jA ?_
    refine AW.ret (retQA ty_ok rfl rfl rfl ?_)
    rfl
theorem rpairsR_ok {c:Cf} {V:Int} (h:lookE c V=0):rpairsR c V = .tup [.sl ((pairsAll c V).map cPair),.i .i64 0]:=by rw [rpairsR,decide_eq_true h];rfl
theorem rpairsR_no {c:Cf} {V:Int} {e:Int} (h:lookE c V=e) (he:e≠0):rpairsR c V = .tup [.sl [],.i .i64 e]:=by rw [rpairsR,h,decide_eq_false he];rfl
theorem lookE_no {c:Cf} {V:Int} (h:malE c V≠0):lookE c V=malE c V:=by rw [lookE,decide_eq_false h];rfl
theorem fromE_is {c:Cf} (V:Int) (s:Sp) (h:malE c V=0):fromE c V s=bif decide (s∈edges c.topo.ports) then lookE c V else 7:=by rw [fromE,decide_eq_true h];rfl
theorem rfromR_no {c:Cf} {V:Int} {s:Sp} {e:Int} (h:fromE c V s=e) (he:e≠0):rfromR c V s = .tup [.sl [],.i .i64 e]:=by rw [rfromR,h,decide_eq_false he];rfl
theorem rfromR_ok {c:Cf} {V:Int} {s:Sp} (h:fromE c V s=0):rfromR c V s = .tup [.sl (((pairsOf c V (lookA c V) s).map Pair.to).map cSp),.i .i64 0]:=by rw [rfromR,h];rfl
theorem ReachFrom_d (hAw:PDoes Tryz.prog 23 [] (.b true)) (c:Cf) (V:Int) (s:Sp) (hL:c.Lens):PDoes Tryz.prog 6 [.agg (cCf c),.i .i64 V,.agg (cSp s)] (.b true):=by
  refine PDoes.of_bodyN Tryz.func6 rfl (by kernel_rfl) rfl rfl ?_
  have hP:=d_RPairs c V hL
  have hF:=d_RFrom c V s hL
  have hW:=d_wrong30 c V
  have hEg:=d_Edge c.topo.ports s
  by_cases h0:malE c V=0
  rotate_left
  · have ef:fromE c V s=malE c V:=by rw [fromE,decide_eq_false h0];rfl
    rw [rpairsR_no (lookE_no h0) h0] at hP
    rw [rfromR_no ef h0] at hF
    generalize malE c V=m at h0 hP hW hF
    have hmm:m=m:=rfl
    refine jB ?_;refine wF ?_;refine wH rfl ?_;refine jB ?_
    skip;(with_reducible first|apply wF|apply wG)
    refine wH rfl ?_
    refine RG.callMS rfl rfl rfl rfl rfl rfl hF rfl ?_;refine wH rfl ?_;refine jA ?_
    refine RG.callMS rfl rfl rfl rfl rfl rfl hP rfl ?_;refine wH rfl ?_;refine jA ?_
    refine RG.callS rfl rfl rfl rfl rfl hW rfl rfl ?_
    refine wH rfl ?_;refine jB ?_
    skip;(with_reducible first|apply wF|apply wG)
    refine RG.runO ty_ok 0 [(31,.b false)] 400 rfl jD ?_
    refine jB ?_;refine AW.condF rfl ?_;refine jB ?_
    skip;(with_reducible first|apply wF|apply wG)
    refine RG.runO ty_ok 0 [(40,.b true)] 400 rfl jD ?_
    refine jB ?_;refine AW.condT rfl ?_;refine jB ?_
    skip;(with_reducible first|apply wF|apply wG)
    refine wH rfl ?_
    refine RG.callS rfl rfl rfl rfl rfl hAw rfl rfl ?_
    refine RG.runO ty_ok 0 [(45,.b true)] 400 rfl jD ?_
    refine jB ?_
    refine AW.ret (retQA ty_ok rfl rfl rfl ?_)
    rfl
  obtain ⟨hz,v,rfl,hv⟩:=malE_nat h0
  have hc:=Cf.ok hz
  have hn:=edges_nodup c.topo.ports
  have hm:=h0
  rw [hm] at hW
  by_cases hs:s∈edges c.topo.ports
  rotate_left
  · have ef:fromE c v s=7:=by rw [fromE_is _ _ hm,decide_eq_false hs];rfl
    rw [rfromR_no ef (by decide)] at hF
    rw [edgeOf_neg hc.topo hs] at hEg
    by_cases he:lookE c v=0
    · rw [rpairsR_ok he] at hP
      refine jB ?_;refine wF ?_;refine wH rfl ?_;refine jB ?_
      skip;(with_reducible first|apply wF|apply wG)
      refine wH rfl ?_
      refine RG.callMS rfl rfl rfl rfl rfl rfl hF rfl ?_;refine wH rfl ?_;refine jA ?_
      refine RG.callMS rfl rfl rfl rfl rfl rfl hP rfl ?_;refine wH rfl ?_;refine jA ?_
      refine RG.callS rfl rfl rfl rfl rfl hW rfl rfl ?_
      refine wH rfl ?_;refine jB ?_
      skip;(with_reducible first|apply wF|apply wG)
      refine wH rfl ?_
      refine RG.callS rfl rfl rfl rfl rfl hEg rfl rfl ?_;refine wH rfl ?_;refine jA ?_
      refine AW.condT rfl ?_;refine jA ?_
      refine AW.condT rfl ?_;refine jA ?_
      refine RG.callS rfl rfl rfl rfl rfl hAw rfl rfl ?_;refine wH rfl ?_;refine jA ?_
      refine AW.ret (retQA ty_ok rfl rfl rfl ?_)
      rfl
    · rw [rpairsR_no rfl he] at hP
      refine jB ?_;refine wF ?_;refine wH rfl ?_;refine jB ?_
      skip;(with_reducible first|apply wF|apply wG)
      refine wH rfl ?_
      refine RG.callMS rfl rfl rfl rfl rfl rfl hF rfl ?_;refine wH rfl ?_;refine jA ?_
      refine RG.callMS rfl rfl rfl rfl rfl rfl hP rfl ?_;refine wH rfl ?_;refine jA ?_
      refine RG.callS rfl rfl rfl rfl rfl hW rfl rfl ?_
      refine wH rfl ?_;refine jB ?_
      skip;(with_reducible first|apply wF|apply wG)
      refine wH rfl ?_
      refine RG.callS rfl rfl rfl rfl rfl hEg rfl rfl ?_;refine wH rfl ?_;refine jA ?_
      refine AW.condT rfl ?_;refine jA ?_
      refine AW.condT rfl ?_;refine jA ?_
      refine RG.callS rfl rfl rfl rfl rfl hAw rfl rfl ?_;refine wH rfl ?_;refine jA ?_
      refine AW.ret (retQA ty_ok rfl rfl rfl ?_)
      rfl
  have hge:=(edgeOf_iff hc.topo).2 hs
  generalize edgeOf c.topo.ports s=ed at hEg hge
  have hng:¬ed<0:=by omega
  have ef:fromE c v s=lookE c v:=by rw [fromE_is _ _ hm,decide_eq_true hs];rfl
  by_cases he:lookE c v=0
  rotate_left
  · rw [rfromR_no ef he] at hF
    rw [rpairsR_no rfl he] at hP
    generalize lookE c v=m at he hP hF
    have hmm:m=m:=rfl
    refine jB ?_;refine wF ?_;refine wH rfl ?_;refine jB ?_
    skip;(with_reducible first|apply wF|apply wG)
    refine wH rfl ?_
    refine RG.callMS rfl rfl rfl rfl rfl rfl hF rfl ?_;refine wH rfl ?_;refine jA ?_
    refine RG.callMS rfl rfl rfl rfl rfl rfl hP rfl ?_;refine wH rfl ?_;refine jA ?_
    refine RG.callS rfl rfl rfl rfl rfl hW rfl rfl ?_
    refine wH rfl ?_;refine jB ?_
    skip;(with_reducible first|apply wF|apply wG)
    refine wH rfl ?_
    refine RG.callS rfl rfl rfl rfl rfl hEg rfl rfl ?_
    refine RG.runO ty_ok 0 [(37,.b false)] 400 rfl jD ?_
    refine jB ?_;refine AW.condF rfl ?_;refine jA ?_
    refine AW.condF rfl ?_;refine jB ?_
    skip;(with_reducible first|apply wF|apply wG)
    refine RG.runO ty_ok 0 [(53,.b true)] 400 rfl jD ?_
    refine jB ?_;refine AW.condT rfl ?_;refine jB ?_
    skip;(with_reducible first|apply wF|apply wG)
    refine wH rfl ?_
    refine RG.callS rfl rfl rfl rfl rfl hAw rfl rfl ?_
    refine RG.runO ty_ok 0 [(58,.b true)] 400 rfl jD ?_
    refine jB ?_
    refine AW.ret (retQA ty_ok rfl rfl rfl ?_)
    rfl
  rw [rfromR_ok (ef.trans he)] at hF
  rw [rpairsR_ok he] at hP
  have hfil:(pairsAll c v).filter (fun p=>decide (p.fro=s))=pairsOf c v (lookA c v) s:=by rw [pairsAll,pairs_from hn,decide_eq_true hs];rfl
  rw [<- hfil] at hF
  generalize pairsAll c v=l at hP hF
  clear hfil ef
  generalize hM:(l.filter (fun p=>decide (p.fro=s))).map Pair.to=M at hF
  refine jB ?_;refine wF ?_;refine wH rfl ?_;refine jB ?_
  skip;(with_reducible first|apply wF|apply wG)
  refine wH rfl ?_
  refine RG.callMS rfl rfl rfl rfl rfl rfl hF rfl ?_;refine wH rfl ?_;refine jA ?_
  refine RG.callMS rfl rfl rfl rfl rfl rfl hP rfl ?_;refine wH rfl ?_;refine jA ?_
  refine RG.callS rfl rfl rfl rfl rfl hW rfl rfl ?_
  refine wH rfl ?_;refine jB ?_
  skip;(with_reducible first|apply wF|apply wG)
  refine wH rfl ?_
  refine RG.callS rfl rfl rfl rfl rfl hEg rfl rfl ?_
  refine RG.runO ty_ok 0 [(37,.b false)] 400 rfl jD ?_
  refine jB ?_;refine AW.condF rfl ?_;refine jA ?_
  refine AW.condF rfl ?_;refine jA ?_
  refine AW.condF rfl ?_;refine jA ?_
  refine AW.lens 9 rfl fun hml=>?_
  rw [List.length_map] at hml
  refine AW.lens 7 rfl fun hmm=>?_
  rw [List.length_map] at hmm
  refine AW.loopL (ι:=Nat × Nat) (fun i=>[(5,.own 5 0 0),(7,.sl (M.map cSp)),(8,.i .i64 0),(9,.sl (l.map cPair)),(12,.i .i64 (i.2:Nat)),(13,.i .i64 (i.1:Nat))]) (fun _=>[(5,⟨0,some (.box 42 (cSp s))⟩)]) (fun i=>i.1<=l.length/\i.2<=M.length/\((l.drop i.1).filter (fun p=>decide (p.fro=s))).map Pair.to=M.drop i.2) (fun i=>l.length - i.1) (0,0) ⟨Nat.zero_le _,Nat.zero_le _,hM⟩ jV ⟨WkB1.same rfl rfl rfl,trivial⟩ fun i hi=>?_
  clear hM
  obtain ⟨k,n⟩:=i
  obtain ⟨hk,hnn,hf⟩:=hi
  simp only at hk hnn hf
  have lE:(l.map cPair).length=l.length:=List.length_map ..
  have lM:(M.map cSp).length=M.length:=List.length_map ..
  refine jA ?_
  refine AW.cond rfl (fun h1=>?_) (fun h1=>?_)
  rotate_left
  · have h':¬k<l.length:=by simpa using h1
    obtain rfl:k=l.length:=by omega
    rw [List.drop_length,List.filter_nil,List.map_nil] at hf
    have hnM:n=M.length:=by
      have:=List.drop_eq_nil_iff.1 hf.symm
      omega
    subst hnM
    have hww:(M.length:Int)=((M.map cSp).length:Nat):=by rw [lM]
    refine jA ?_
    refine AW.exit ?_;refine Eq.mpr (if_pos rfl) ?_;refine jA ?_
    refine RG.callS rfl rfl rfl rfl rfl hAw rfl rfl ?_
    refine RG.runO ty_ok 0 [(105,.b true)] 400 rfl jD ?_
    refine jB ?_
    refine AW.ret (retQA ty_ok rfl rfl rfl ?_)
    rfl
  have hk':k<l.length:=by simpa using h1
  have hget:(l.map cPair)[k]?=some (cPair l[k]):=by rw [List.getElem?_map,List.getElem?_eq_getElem hk'];rfl
  rw [List.drop_eq_getElem_cons hk'] at hf
  generalize l[k]=p at hget hf
  refine jB ?_
  skip;(with_reducible first|apply wF|apply wG)
  refine wH rfl ?_
  refine RG.opS rfl (op_index rfl (tab_ok ty_ok rfl) rfl (tab_ok ty_ok rfl) rfl rfl hget rfl) rfl ?_
  refine wH rfl ?_
  by_cases e1:p.fro=s
  rotate_left
  · rw [List.filter_cons_of_neg (by simpa using e1)] at hf
    refine RG.opS rfl (op_neG rfl ty_ok (by kernel_rfl) (by kernel_rfl) rfl rfl (eq_Sp p.fro s) (congrArg Bool.not (decide_eq_false e1))) rfl ?_
    refine wH rfl ?_;refine jA ?_;refine AW.condT rfl ?_;refine jA ?_
    refine AW.exit ?_;refine Eq.mpr (if_pos rfl) ?_;refine jA ?_
    exact ⟨(k+1,n),⟨⟨hk',hnn,hf⟩,by show l.length - (k+1)<l.length - k;omega⟩,jV,⟨WkB1.same rfl rfl rfl,trivial⟩⟩
  rw [List.filter_cons_of_pos (by simpa using e1),List.map_cons] at hf
  have hlt:n<M.length:=by
    refine Classical.byContradiction fun h'=>?_
    rw [show M.drop n=[] from List.drop_eq_nil_iff.2 (by omega)] at hf
    cases hf
  have hgm:(M.map cSp)[n]?=some (cSp M[n]):=by rw [List.getElem?_map,List.getElem?_eq_getElem hlt];rfl
  rw [List.drop_eq_getElem_cons hlt] at hf
  obtain ⟨e2,hf⟩:=List.cons.inj hf
  rw [<- e2] at hgm
  have hnl:¬((M.map cSp).length:Int)<=(n:Int):=by rw [lM];omega
  refine RG.opS rfl (op_neG rfl ty_ok (by kernel_rfl) (by kernel_rfl) rfl rfl (eq_Sp p.fro s) (congrArg Bool.not (decide_eq_true e1))) rfl ?_
  refine wH rfl ?_;refine jB ?_;refine AW.condF rfl ?_;refine jB ?_
  skip;(with_reducible first|apply wF|apply wG)
  refine RG.runO ty_ok 0 [(81,.b false)] 400 rfl jD ?_
  refine RG.opS rfl (op_index rfl (tab_ok ty_ok rfl) rfl (tab_ok ty_ok rfl) rfl rfl hgm rfl) rfl ?_
  refine wH rfl ?_
  refine RG.opS rfl (op_index rfl (tab_ok ty_ok rfl) rfl (tab_ok ty_ok rfl) rfl rfl hget rfl) rfl ?_
  refine wH rfl ?_
  refine RG.opS rfl (op_neG rfl ty_ok (by kernel_rfl) (by kernel_rfl) rfl rfl (eq_Sp p.to p.to) (congrArg Bool.not (decide_eq_true rfl))) rfl ?_
  refine wH rfl ?_;refine jB ?_;refine AW.condF rfl ?_;refine jB ?_
  skip;(with_reducible first|apply wF|apply wG)
  refine wH rfl ?_;refine jA ?_
  exact ⟨(k+1,n+1),⟨⟨hk',hlt,hf⟩,by show l.length - (k+1)<l.length - k;omega⟩,jV,⟨WkB1.same rfl rfl rfl,trivial⟩⟩
end Go.Proofs.YtoaibdbehlcnfaaGreat.Sm
end
section
namespace Go.Proofs.YtoaibdbehlcnfaaGreat.Sm
open Go.RowKit
theorem m_line30 (q:Nat->Option (Nat × Nat)):MDoes Tryz.prog 61 [] (gl q [] []) lnV (gl q [] lnB):=by
 refine MDoes.of_body Tryz.func61 rfl (by kernel_rfl) rfl rfl ?_
 refine jB ?_
 refine wF ?_;refine wH rfl ?_;refine jB ?_
 refine wF ?_;refine wH rfl ?_;refine jB ?_
 refine wF ?_;refine wH rfl ?_;refine jB ?_
 refine wF ?_;refine wH rfl ?_;refine jB ?_
 refine wF ?_;refine wH rfl ?_;refine jB ?_
 refine AW.text ?_
 refine RG.runG ty_ok 0 5 rfl ?_
 refine RG.opS rfl (op_buildRef (id:=301) rfl (tab_ok ty_ok rfl) rfl (tab_ok ty_ok rfl) rfl (by decide) rfl rfl rfl rfl rfl) rfl ?_
 refine RG.runG ty_ok 0 5 rfl ?_
 refine RG.opS rfl (op_buildRef (id:=302) rfl (tab_ok ty_ok rfl) rfl (tab_ok ty_ok rfl) rfl (by decide) rfl rfl rfl rfl rfl) rfl ?_
 refine RG.opS rfl (op_buildRef (id:=300) rfl (tab_ok ty_ok rfl) rfl (tab_ok ty_ok rfl) rfl (by decide) rfl rfl rfl rfl rfl) rfl ?_
 refine wH rfl ?_;refine jA ?_
 refine AW.ret (retMA ty_ok rfl rfl (Rm.aggL rfl ⟨⟨Rm.rowIs rfl rfl rfl rfl,rfl⟩,⟨Rm.is rfl rfl,rfl⟩,⟨.nil,rfl⟩,⟨.nil,rfl⟩,⟨Rm.refIs rfl rfl rfl rfl,rfl⟩,trivial⟩) ⟨.boxL rfl ⟨Rn.refIs rfl rfl rfl,Rn.refIs rfl rfl rfl,trivial⟩ rfl,.boxL rfl ⟨Rn.rowIs rfl rfl rfl,trivial⟩ rfl,.boxL rfl ⟨Rn.rowIs rfl rfl rfl,trivial⟩ rfl,.row rfl rfl,.row rfl rfl,.row rfl rfl,trivial⟩)
theorem lens_line:lineC.Lens:=by
 intro t ht l hl
 simp only [lineC,List.mem_cons,List.not_mem_nil,or_false] at ht
 rcases ht with rfl | rfl
 ·simp only [List.mem_cons,List.not_mem_nil,or_false] at hl
  subst hl
  exact Nat.le_of_ble_eq_true (by kernel_rfl)
 ·simp only [List.mem_cons,List.not_mem_nil,or_false] at hl
  subst hl
  exact Nat.le_of_ble_eq_true (by kernel_rfl)
theorem lookE_line:lookE lineC 0=0:=by kernel_rfl
theorem pairs_line:pairsAll lineC 0=[⟨⟨0,0⟩,⟨1,1⟩,⟨0,1⟩⟩,⟨⟨1,1⟩,⟨1,1⟩,⟨0,1⟩⟩]:=by kernel_rfl
theorem from_line:fromE lineC 0 ⟨0,0⟩=0:=by kernel_rfl
theorem to_line:(pairsOf lineC 0 (lookA lineC 0) ⟨0,0⟩).map Pair.to=[⟨1,1⟩]:=by kernel_rfl
theorem used_line:usedAll lineC 0=[0,1,2,3]:=by kernel_rfl
def lnOs:List (List Int):=[[],[0,2],[0,1,2],[0,2,3],[0,1,2,3],[1],[1,2],[1,3],[1,2,3],[2],[2,3],[3]]
def lnChk:List Int->Bool
 | []=>false
 | x::l=>Nat.ble (x::l).length 12 && (Nat.blt 0 (mkL (x::l)).length && lnOs.any fun y=>decide (y=mkL (x::l)))
theorem chk_line:(lnOs.all fun out=>(edges lineC.topo.ports).all fun s=>(lookA lineC 0).all fun a=>lnChk (out++hopsN (numAll 0 lineC.tables) (runOf lineC s a.head 0 10800).hops))=true:=by kernel_rfl
theorem chk_ok {L:List Int} (h:lnChk L=true):MakeOk L/\0<(mkL L).length/\L.length<=1000000/\mkL L∈lnOs:=by
 cases L with
 | nil=>cases h
 | cons x l =>
  rw [lnChk,Bool.and_eq_true,Bool.and_eq_true] at h
  obtain ⟨h1,h2,h3⟩:=h
  have h1:=Nat.le_of_ble_eq_true h1
  have h2:0<(mkL (x::l)).length:=Nat.le_of_ble_eq_true h2
  obtain ⟨y,hy,e⟩:=List.any_eq_true.1 h3
  exact ⟨fun q=>o_Make x l h1 h2 q,h2,by omega,of_decide_eq_true e ▸ hy⟩
theorem d_Used_line:PDoes Tryz.prog 29 [.agg (cCf lineC),.i .i64 0] (.tup [.sl (([0,1,2,3]:List Int).map cI),.i .i64 0]):=by
 rw [<- used_line]
 refine d_RUsed lineC 0 lens_line lookE_line (Nat.le_of_ble_eq_true (by kernel_rfl)) (fun out=>out∈lnOs) (List.mem_cons_self) fun s hs a ha out ho=>?_
 obtain ⟨h1,h2,h3,h4⟩:=chk_ok (List.all_eq_true.1 (List.all_eq_true.1 (List.all_eq_true.1 chk_line out ho) s hs) a ha)
 exact ⟨h1,h2,h3,h4⟩
theorem d_awake30:PDoes Tryz.prog 23 [] (.b true):=by
 refine PDoes.of_bodyN Tryz.func23 rfl (by kernel_rfl) rfl rfl ?_
 have hP:=d_RPairs lineC 0 lens_line
 rw [rpairsR_ok lookE_line,pairs_line] at hP
 have hF:=d_RFrom lineC 0 ⟨0,0⟩ lens_line
 rw [rfromR_ok from_line,to_line] at hF
 have hU:=d_Used_line
 refine jA ?_
 refine RG.ownN [] [(300,310),(301,311),(302,312),(24,324),(30,330),(12,313)] m_line30 rfl rfl rfl rfl rfl rfl rfl rfl rfl rfl ?_
 refine wH rfl ?_;refine jB ?_
 refine AW.freeze [310,311,312,324,330,313] [(1,.own 1 0 0)] [(1,⟨0,some (.box 31 (cCf lineC))⟩)] ⟨.rn (Rn.ownIs rfl rfl rfl),trivial⟩ ⟨.boxL rfl ⟨.fzA rfl rfl rfl,RnF.is rfl rfl,RnF.is rfl rfl,RnF.is rfl rfl,.fzA rfl rfl rfl,trivial⟩ rfl,trivial⟩ rfl ?_
 refine jA ?_
 refine RG.callMS rfl rfl rfl rfl rfl rfl hP rfl ?_;refine wH rfl ?_;refine jA ?_
 refine RG.callMS rfl rfl rfl rfl rfl rfl hF rfl ?_;refine wH rfl ?_;refine jA ?_
 refine RG.callMS rfl rfl rfl rfl rfl rfl hU rfl ?_;refine wH rfl ?_;refine jA ?_
 have hg:(([⟨⟨0,0⟩,⟨1,1⟩,⟨0,1⟩⟩,⟨⟨1,1⟩,⟨1,1⟩,⟨0,1⟩⟩]:List Pair).map cPair)[0]?=some (cPair ⟨⟨0,0⟩,⟨1,1⟩,⟨0,1⟩⟩):=rfl
 refine RG.opS rfl (op_index rfl (tab_ok ty_ok rfl) rfl (tab_ok ty_ok rfl) rfl rfl hg rfl) rfl ?_
 refine wH rfl ?_
 refine RG.opS rfl (op_eqG rfl ty_ok (by kernel_rfl) (by kernel_rfl) rfl rfl (eq_Sp ⟨1,1⟩ ⟨1,1⟩) (decide_eq_true rfl)) rfl ?_
 refine wH rfl ?_
 refine RG.opS rfl (op_index rfl (tab_ok ty_ok rfl) rfl (tab_ok ty_ok rfl) rfl rfl hg rfl) rfl ?_
 refine wH rfl ?_;refine jA ?_
 refine AW.ret (retQA ty_ok rfl rfl rfl ?_)
 rfl
end Go.Proofs.YtoaibdbehlcnfaaGreat.Sm
end
section
namespace Go.Proofs.YtoaibdbehlcnfaaGreat
open Go.RowKit Go.WideShapes Go.ChangeShapes Go.Deep Sm
theorem ReachFrom_law {H:Type} {e:TypeId × Value->H} (W:World) (b0:Nat)
  (v0:Value) (d0:DataW H) (p0:List MemPlace) (ok0:Value.okWide Tryz.prog W .any b0 31 v0) (h0:DataW.Trod e Tryz.prog W 0 (fun _=>true) true 31 v0 d0 p0)
  (v1:Value) (d1:DataW H) (p1:List MemPlace) (ok1:Value.okWide Tryz.prog W .any b0 3 v1) (h1:DataW.Trod e Tryz.prog W 0 (fun _=>true) true 3 v1 d1 p1)
  (v2:Value) (d2:DataW H) (p2:List MemPlace) (ok2:Value.okWide Tryz.prog W .any b0 42 v2) (h2:DataW.Trod e Tryz.prog W 0 (fun _=>true) true 42 v2 d2 p2)
  (hsz:(DataW.weightsEach Tryz.prog [31,3,42] [d0,d1,d2]).all (·<=reachBytes)=true)
  : Calls Tryz.prog 6 #[v0,v1,v2] W fun e W'=>e = .returned (.bool true)/\Kp No W W':=by
 obtain ⟨a0,r0,q0⟩:=rz_Cf.arg_struct Tryz.underlying31 hsz 0 rfl rfl ok0 h0
 obtain ⟨a1,r1⟩:=ra_int.arg_int Tryz.underlying3 ok1 h1
 obtain ⟨a2,r2⟩:=ra_Sp.arg_struct Tryz.underlying42 ok2 h2
 exact (ReachFrom_d d_awake30 a0 a1 a2 q0).law (vs:=[v0,v1,v2]) rfl (pw_cons r0 (pw_cons r1 (pw_cons r2 (pw_nil))))
end Go.Proofs.YtoaibdbehlcnfaaGreat
end
