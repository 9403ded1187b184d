/- Contracts of the program's functions over data, and the plain laws that they meet (part 5). No condition. -/
import Derived.Test.YthgbdoofchknhaaGreatDoorZsd
import Derived.Shelf.Strings.Builder1
import Derived.Shelf.Strings.Builder2
import Derived.Shelf.Strings.OnBuilder
import Derived.Shelf.Small.Strs
import Derived.Shelf.Strings.BuilderF
import Derived.Shelf.Strings.BuilderK
import Derived.Shelf.Utf8.RuneCount
import Derived.Shelf.Strings.Builder2Cap
import Derived.Shelf.Strconv.Atoi
import Derived.Shelf.Strconv.Itoa0
import Derived.Shelf.Strconv.Itoa1
import Derived.Shelf.LaysM
import Derived.Shelf.Strconv.Itoa2
import Derived.Shelf.Strconv.Itoa3
import Derived.Shelf.Strconv.AtoiErrFast
import Derived.Shelf.Strconv.ParseIntEmpty
import Derived.Shelf.Strconv.AtoiFail
import Derived.Shelf.Strconv.Clone
import Derived.Shelf.Strconv.SyntaxError
import Derived.Shelf.LaysC
import Derived.Shelf.Strconv.ToError
import Derived.Shelf.Strconv.AtoiErr
import Derived.Shelf.Strconv.ErrVar
import Derived.Shelf.Strconv.Lower
import Derived.Shelf.Strconv.ParseUint10
import Derived.Shelf.Strconv.ParseUint10Empty
import Derived.Shelf.Strconv.ParseUint10Any
import Derived.Shelf.Strconv.ParseInt10
import Derived.Shelf.Strconv.AtoiLong
import Derived.Shelf.Strconv.AtoiInnerAll
import Derived.Shelf.Strconv.RangeError
import Derived.Shelf.Strconv.ToErrorRange
import Derived.Shelf.Strconv.AtoiAll
import Derived.Shelf.Strconv.ErrVarAll
import Derived.Shelf.Strconv.ParseUintEmpty
import Derived.Shelf.Strconv.ParseUint10b64
import Derived.Shelf.Strconv.ParseUint10b32
import Derived.Shelf.Strconv.ParseUint10b16
import Derived.Shelf.Strconv.ParseUint10b8
import Derived.Shelf.Strconv.ParseUint10At
import Derived.Shelf.Strconv.ParseInt10At64
import Derived.Shelf.Strconv.ParseInt10At32
import Derived.Shelf.Strconv.ParseInt10At16
import Derived.Shelf.Strconv.ParseInt10At8
import Derived.Shelf.Strconv.ParseInt10All
import Derived.Ground.MpProg
import Derived.Shelf.Pu.ParseUintPublic10
import Derived.Shelf.Pu.ErrVarParseUint
import Derived.Shelf.Strings.Search1
import Derived.Shelf.Strings.Search2
import Derived.Shelf.Strings.Search3
import Derived.Shelf.Strings.Cut
import Derived.Shelf.Strings.Count
import Derived.Shelf.Strings.Shaped
import Derived.Shelf.Strings.Prefix
import Derived.Shelf.Strings.Split
import Derived.Shelf.Strings.SplitShaped
import Derived.Shelf.Unicode.Decode
import Derived.Shelf.Strings.RuneCount
import Derived.Shelf.Strings.Explode
import Derived.Shelf.Bits.Mul64
import Derived.Shelf.Strings.Repeat
import Derived.Shelf.Unicode.DecodeSlow
import Derived.Shelf.Unicode.DecodeAny
import Derived.Shelf.Strings.BuilderCap
import Derived.Shelf.Bytes.SlSearch0
import Derived.Ground.SlbCloneProg
import Derived.Shelf.Bytes.SlClone
import Derived.Shelf.Bytes.SlEqualAll
import Derived.Shelf.Bytes.Small
import Derived.Test.YthgbdoofchknhaaGreatDoorProg
import Derived.WalkKit
import Derived.WalkSpells
import Derived.WalkLawsBesides
import Derived.Lib.Hide
import Derived.Deep.RegionHeld3
import Derived.Maps.AppendAt
import Derived.KernelRfl
import Derived.Lib.AppendStr
import Derived.Lib.FrozenHead2
import Derived.Lib.OthersKept
import Derived.Lib.LaidTab
import Derived.Lib.ItoaNum
import Derived.Lib.SmallJoins
import Derived.Orders
import Derived.LoopTactic
import Derived.Laws.CopyRow
import Derived.Laws.Cells
import Derived.OrdersIn
import Derived.Laws.Externs
import Derived.TacticsIn
import Derived.RangeFuncLeaves
import Derived.RangeFuncRecord
import Derived.Great.BuildSlice
import Derived.Deep.Slices
import Derived.Deep.Fields
import Derived.ChangeSame
import Derived.ProofKit
import Derived.OpenShut
import Derived.SizedLaws
import Derived.Lib.SplitLaws
import Derived.Lib.AtoiAllMem
import Derived.Lib.Join
import Derived.Lib.AtoiErrMem
import Derived.Deep.Cut
import Derived.Laws.StructEq
import Derived.Deep.Quiet
import Derived.Deep.QuietTactic
import Derived.Deep.CutRange
import Derived.Deep.CutBlock
import Derived.Laws.ResultCell
import Derived.Laws.IdiomRangeMap
import Derived.Lib.ItoaLen
import Derived.Laws.MakeOwn
import Derived.Lib.AtoiAllCases
import Derived.Lib.IndexLaws
import Derived.Lib.IndexBytes
import Derived.Test.YthgbdoofchknhaaGreatDoorCards
import Derived.Test.YthgbdoofchknhaaGreatDoorTie
import Derived.Deep.DeepHandedRow
import Derived.Deep.DeepWitnessRowRef
import Derived.Shelf.Vars
import Derived.Stop.LaidErr
import Derived.Test.YthgbdoofchknhaaGreatDoorRows
import Derived.ChangeMaps
set_option linter.unusedVariables false
set_option linter.unusedSimpArgs false
set_option maxRecDepth 100000
set_option maxHeartbeats 4000000
section
namespace Go.Proofs.YthgbdoofchknhaaGreatDoor.Sm
open Go.RowKit
theorem atoiV_range (l:List UInt8):-9223372036854775808<=atoiV l/\atoiV l<=9223372036854775807:=by
 unfold atoiV
 cases h:Lib.atoiAll l with
 | ok v =>
  show -9223372036854775808<=v/\v<=9223372036854775807
  unfold Lib.atoiAll at h
  split at h
  ·cases h
  ·simp only at h
   split at h
   ·cases h
   ·cases h
   ·rename_i u hu
    split at h
    ·cases h
    ·split at h
     ·cases h
     ·obtain rfl:=Lib.NumEnd.ok.inj h
      split <;> omega
 | range =>
  show -9223372036854775808<=Lib.atoiSat l/\Lib.atoiSat l<=9223372036854775807
  unfold Lib.atoiSat
  split <;> omega
 | _=>show -9223372036854775808<=(0:Int)/\(0:Int)<=9223372036854775807;omega
theorem fold_ok:∀(l:List UInt8) (x:SI × List (List UInt8)),x.1.Ok->(l.foldl fldC x).1.Ok
 | [],x,h=>h
 | c::l,x,h=>by
  rw [List.foldl_cons]
  refine fold_ok l _ ?_
  unfold fldC
  split
  ·exact ⟨atoiV_range _,h.b⟩
  ·split
   ·exact ⟨h.a,atoiV_range _⟩
   ·split
    ·exact ⟨h.a,h.b⟩
    ·split
     ·exact ⟨h.a,h.b⟩
     ·exact h
theorem stepW_ok (ws:List (List UInt8)):(stepW ws).1.Ok:=fold_ok _ _ (by
 have h:-9223372036854775808<=(0:Int)/\(0:Int)<=9223372036854775807:=by decide
 exact ⟨h,h⟩)
theorem splitK_le (sep:List UInt8):∀(k:Nat) (s:List UInt8),∀w∈Lib.splitK sep 0 k s,w.length<=s.length
 | 0,s,w,h=>by
  obtain rfl:=List.mem_singleton.1 h
  exact Nat.le_refl _
 | k+1,s,w,h=>by
  unfold Lib.splitK at h
  split at h
  ·obtain rfl:=List.mem_singleton.1 h
   exact Nat.le_refl _
  ·rcases List.mem_cons.1 h with rfl | h
   ·exact List.length_take_le' _ _
   ·have:=splitK_le sep k _ w h
    rw [List.length_drop] at this
    omega
theorem spl_sh {l:List UInt8} (h:l.length<4294967281):Sh (spl 32 l):=fun w hw=>by
 have:=splitK_le _ _ _ w hw
 omega
noncomputable def stepL (l:List UInt8):Option SI :=
 if lineW (stepW (spl 32 l)).1=some l then some (stepW (spl 32 l)).1 else none
noncomputable def stepR:Option SI->AV
 | some x=>.tup [.agg (siC x),.i .i64 0]
 | none=>.tup [.agg (siC zeroSI),.i .i64 5]
theorem siC_zero:siC zeroSI=[.i .i64 0,.i .i64 0,.i .i64 0,.u 0,.u 0,.sl [],.i .i64 0,.sl [],.sl [],.sl []]:=by
 have:=line_i.1
 simp only [siC,zeroSI,cfgC,zeroC,List.map_nil,this]
 rfl
theorem d_Step (l:List UInt8) (hl:l.length<4294967281):PDoes Tryz.prog 11 [.s l] (stepR (stepL l)):=by
  refine PDoes.of_bodyN Tryz.func11 rfl (by kernel_rfl) rfl rfl ?_
  have hsh:=spl_sh hl
  have hok:=stepW_ok (spl 32 l)
  have h1:=d_Line _ hok
  unfold stepL
  refine jA ?_
  refine RG.callMS rfl rfl rfl rfl rfl rfl (d_Split l 32 hl) rfl ?_
  refine wH rfl ?_;refine jA ?_
  refine RG.ownN [(11,0)] [(0,11)] (fun q=>m_step (spl 32 l) hsh q) rfl rfl rfl rfl rfl rfl rfl rfl rfl rfl ?_
  generalize (stepW (spl 32 l)).1=x at *
  generalize (stepW (spl 32 l)).2=ws2 at *
  refine wH rfl ?_;refine jA ?_
  cases hx:lineW x with
  | none =>
    rw [hx] at h1
    rw [if_neg (by simp)]
    refine RG.callS rfl rfl rfl rfl rfl h1 rfl rfl ?_;refine wH rfl ?_;refine jA ?_
    refine AW.condT rfl ?_;refine jA ?_
    refine AW.ret (retQA ty_ok rfl rfl rfl ?_)
    show AV.tup [.agg [.i .i64 0,.i .i64 0,.i .i64 0,.u 0,.u 0,.sl [],.i .i64 0,.sl [],.sl [],.sl []],.i .i64 5] = .tup [.agg (siC zeroSI),.i .i64 5]
    rw [siC_zero]
  | some t =>
    rw [hx] at h1
    by_cases ht:t=l
    · rw [if_pos (by rw [ht])]
      refine RG.callS rfl rfl rfl rfl rfl h1 rfl rfl ?_
      refine wH rfl ?_;(repeat first|apply wA|apply wB|apply wC|apply wE|(apply zM;·kernel_rfl)|apply wF|apply wG)
      refine RG.runO ty_ok 0 [(24,.b false)] 400 rfl ⟨congrArg AV.b (by simp [ht]),trivial⟩ ?_
      refine jB ?_;refine AW.condF rfl ?_;refine jA ?_
      refine AW.ret (retQA ty_ok rfl rfl rfl ?_)
      rfl
    · rw [if_neg (by simpa using ht)]
      refine RG.callS rfl rfl rfl rfl rfl h1 rfl rfl ?_
      refine wH rfl ?_;(repeat first|apply wA|apply wB|apply wC|apply wE|(apply zM;·kernel_rfl)|apply wF|apply wG)
      refine RG.runO ty_ok 0 [(24,.b true)] 400 rfl ⟨congrArg AV.b (by simp [ht]),trivial⟩ ?_
      refine jB ?_;refine AW.condT rfl ?_;refine jA ?_
      refine AW.ret (retQA ty_ok rfl rfl rfl ?_)
      show AV.tup [.agg [.i .i64 0,.i .i64 0,.i .i64 0,.u 0,.u 0,.sl [],.i .i64 0,.sl [],.sl [],.sl []],.i .i64 5] = .tup [.agg (siC zeroSI),.i .i64 5]
      rw [siC_zero]
end Go.Proofs.YthgbdoofchknhaaGreatDoor.Sm
end
section
namespace Go.Proofs.YthgbdoofchknhaaGreatDoor.Sm
open Go.RowKit
theorem cut_le (s:List UInt8):(Lib.cut s [10]).1.length<=s.length/\(s≠[]->(Lib.cut s [10]).2.1.length<s.length):=by
 unfold Lib.cut
 split
 ·refine ⟨List.length_take_le' _ _,fun h=>?_⟩
  have:0<s.length:=List.length_pos_iff.2 h
  show (s.drop (_+1)).length<s.length
  rw [List.length_drop]
  omega
 ·exact ⟨Nat.le_refl _,fun h=>List.length_pos_iff.2 h⟩
noncomputable def stepsF:Nat->List UInt8->List SI->List SI ⊕ Nat
 | 0,_,acc=>.inl acc
 | f+1,s,acc=>if s=[] then .inl acc else match stepL (Lib.cut s [10]).1 with
  | none=>.inr (acc.length+1)
  | some x=>stepsF f (Lib.cut s [10]).2.1 (acc++[x])
theorem stepsF_fuel:∀(f g:Nat) (s:List UInt8) (acc:List SI),s.length<=f->s.length<=g->stepsF f s acc=stepsF g s acc
 | 0,0,_,_,_,_=>rfl
 | 0,g+1,s,acc,hf,_=>by
  obtain rfl:s=[]:=List.length_eq_zero_iff.1 (by omega)
  rfl
 | f+1,0,s,acc,_,hg=>by
  obtain rfl:s=[]:=List.length_eq_zero_iff.1 (by omega)
  rfl
 | f+1,g+1,s,acc,hf,hg=>by
  unfold stepsF
  by_cases hs:s=[]
  ·rw [if_pos hs,if_pos hs]
  ·rw [if_neg hs,if_neg hs]
   have:=(cut_le s).2 hs
   cases stepL (Lib.cut s [10]).1 with
   | none=>rfl
   | some x=>exact stepsF_fuel f g _ _ (by omega) (by omega)
noncomputable def stepsR:List SI ⊕ Nat->AV
 | .inl xs=>if xs.length<=2048 then .tup [.sl (xs.map siC),.i .i64 0,.i .i64 0] else .tup [.sl [],.i .i64 0,.i .i64 6]
 | .inr n=>.tup [.sl [],.i .i64 n,.i .i64 5]
noncomputable def stepsL (l:List UInt8):List SI ⊕ Nat:=stepsF l.length l []
theorem d_Steps_long (l:List UInt8) (hl:65536<l.length):PDoes Tryz.prog 13 [.s l] (.tup [.sl [],.i .i64 0,.i .i64 6]):=by
 refine PDoes.of_bodyN Tryz.func13 rfl (by kernel_rfl) rfl rfl ?_
 refine jA ?_
 refine AW.cond rfl (fun h=>?_) (fun h=>?_)
 ·refine jA ?_
  refine AW.ret (retQA ty_ok rfl rfl rfl ?_)
  rfl
 ·have:¬(65536:Int)<(l.length:Int):=of_decide_eq_false h
  omega
theorem d_Steps (l:List UInt8) (hl:l.length<=65536):PDoes Tryz.prog 13 [.s l] (stepsR (stepsL l)):=by
  refine PDoes.of_bodyN Tryz.func13 rfl (by kernel_rfl) rfl rfl ?_
  refine jA ?_
  refine AW.cond rfl (fun h=>?_) (fun h=>?_)
  · have:(65536:Int)<(l.length:Int):=of_decide_eq_true h
    omega
  clear h
  refine jB ?_
  refine AW.text ?_
  refine RG.opS rfl (op_nilRow 105 36 10 rfl) rfl ?_
  refine wH rfl ?_;refine jA ?_
  generalize hG:stepsL l=G
  refine AW.loopL (ι:=List UInt8 × List SI) (fun i=>[(0,.s i.1),(5,.row 105 0 0 (i.2.map siC).length),(6,.i .i64 ((i.2.length+1:Nat):Int))]) (fun i=>[(105,⟨0,some (.row 36 10 (i.2.map siC))⟩)]) (fun i=>i.1.length+i.2.length<=65536/\stepsF i.1.length i.1 i.2=G) (fun i=>i.1.length) (l,[]) ⟨by simpa using hl,hG⟩ jW jW fun i hi=>?_
  obtain ⟨s,acc⟩:=i
  obtain ⟨hb,hf⟩:=hi
  simp only at hb hf
  refine jA ?_
  refine AW.cond rfl (fun h=>?_) (fun h=>?_)
  · have hs : s ≠ [] := by
      intro e
      subst e
      simp at h
    obtain ⟨k,hk⟩:∃k,s.length=k+1:=⟨s.length - 1,by have:=List.length_pos_iff.2 hs;omega⟩
    have hc:=cut_le s
    rw [hk] at hf
    unfold stepsF at hf
    rw [if_neg hs] at hf
    have h1:=d_Step (Lib.cut s [10]).1 (by omega)
    have h2:=d_Cut s [10] (by omega)
    generalize hg:Lib.cut s [10]=g at *
    refine jA ?_
    refine RG.callS rfl rfl rfl rfl rfl h2 rfl rfl ?_;refine wH rfl ?_;refine jA ?_
    cases hx:stepL g.1 with
    | none =>
      rw [hx] at h1 hf
      refine RG.callMS rfl rfl rfl rfl rfl rfl h1 rfl ?_
      refine wH rfl ?_;refine jA ?_
      refine AW.condT rfl ?_;refine jA ?_
      refine AW.ret (retQA ty_ok rfl rfl rfl ?_)
      rw [<- hf]
      rfl
    | some x =>
      rw [hx] at h1 hf
      refine RG.callMS rfl rfl rfl rfl rfl rfl h1 rfl ?_
      refine wH rfl ?_;refine jA ?_
      refine AW.condF rfl ?_;refine jA ?_
      refine RG.opS rfl (op_app1 siC acc x (by omega) rfl rfl rfl rfl (tk rfl) rfl (tk rfl) rfl rfl ⟨_,rfl,rfl⟩ rfl rfl) rfl ?_;refine wH rfl ?_;refine jA ?_
      have hlt:=hc.2 hs
      refine ⟨(g.2.1,acc++[x]),⟨⟨?_,?_⟩,hlt⟩,⟨rI rfl rfl,rR rfl rfl rfl,rI ?_ rfl,trivial⟩,jW⟩
      · simp only [List.length_append,List.length_singleton]
        omega
      · rw [<- hf]
        exact stepsF_fuel _ _ _ _ (Nat.le_refl _) (show g.2.1.length<=k by omega)
      · refine congrArg (AV.i .i64) ?_
        rw [IntKind.wrap_i64,List.length_append]
        show (((acc.length+1:Nat):Int)+1+9223372036854775808) % 18446744073709551616 - 9223372036854775808=((acc.length+1+1:Nat):Int)
        omega
  · have hs:s=[]:=by simpa using h
    subst hs
    have hf:.inl acc=G:=hf
    subst hf
    refine jA ?_
    refine jE ?_;refine jA ?_
    refine AW.cond rfl (fun h=>?_) (fun h=>?_)
    · have hl : 2048 < acc.length := by
        have:(2048:Int)<((acc.map siC).length:Int):=of_decide_eq_true h
        rw [List.length_map] at this
        omega
      refine jA ?_
      refine AW.ret (retQA ty_ok rfl rfl rfl ?_)
      show AV.tup [.sl [],.i .i64 0,.i .i64 6]=(if acc.length<=2048 then _ else _)
      rw [if_neg (by omega)]
    · have hl : ¬ 2048 < acc.length := by
        have:¬(2048:Int)<((acc.map siC).length:Int):=of_decide_eq_false h
        rw [List.length_map] at this
        omega
      refine jA ?_
      refine AW.ret (retQA ty_ok rfl rfl rfl ?_)
      show AV.tup [.sl _,.i .i64 0,.i .i64 0]=(if acc.length<=2048 then _ else _)
      rw [if_pos (by omega)]
      exact congrArg (fun x=>AV.tup [x,.i .i64 0,.i .i64 0]) (rowAll rfl)
end Go.Proofs.YthgbdoofchknhaaGreatDoor.Sm
end
section
namespace Go.Proofs.YthgbdoofchknhaaGreatDoor.Sm
open Go.RowKit
section
variable {P : Program} {N : Nat} {o : Oper} {s : St}
theorem op_makeSlice (n:Nat) {t e id:Nat} {ti ei:TI} (ho:o.op = .makeSlice t (.const (.int .i64 (n:Int))) (.const (.int .i64 (n:Int)))) (ht:TiOk P t ti) (hk:ti.k = .slice e) (he:TiOk P e ei) (hm:0<ei.n) (hs:ei.sz*n<=100000000) (hn:n<=100000000) :
  OpLoc P N o s ⟨.row id ((s.σ id).ep+1) 0 n,[(id,⟨(s.σ id).ep+1,some (.row e ei.n (List.replicate n ei.z))⟩)],[]⟩:=by
 obtain ⟨inf,d,z,q1,q2,q3,q4,q5,q6,q7⟩:=he.h
 refine oploc_new [] fun s' W F μ a g1 g2 hid hs'=>?_
 have hzl:=he.zl
 have hb:(inf.bytes:Int)*(n:Int)<=281474976710656:=by
  have:((ei.sz*n:Nat):Int)<=100000000:=by omega
  rw [Int.natCast_mul] at this
  rw [q4]
  omega
 have hrun:=run_make (P:=P) W t e inf z (ht.slice hk) q1 q6 .i64 .i64 (n:Int) (n:Int) (by omega) (by omega) hb (by omega)
 rw [Int.toNat_natCast,q3] at hrun
 have hzs:=fun W'=>zsOk_rel (W:=W') (F:=F) q7
 have hsz:z.cells.size=ei.n:=by rw [<- Array.length_toList,(hzs W).1,hzl]
 have hmc:(madeCells z.cells (n*ei.n)).size=n*ei.n:=size_madeCells _ _
 have hget:∀k j,k<n->j<ei.n->(madeCells z.cells (n*ei.n))[k*ei.n+j]?=z.cells.toList[j]?:=fun k j hk hj=>by
  have hlt:k*ei.n+j<n*ei.n:=by
   have:(k+1)*ei.n<=n*ei.n:=Nat.mul_le_mul_right _ hk
   rw [Nat.add_mul,Nat.one_mul] at this
   omega
  have hmod:(k*ei.n+j) % z.cells.size=j:=by rw [hsz,Nat.mul_comm,Nat.mul_add_mod,Nat.mod_eq_of_lt hj]
  simp only [madeCells,Array.getElem?_map,Array.getElem?_range,hlt,if_true,Option.map_some,hmod]
  rw [Array.getElem?_toList,getElem!_pos _ _ (by omega),Array.getElem?_eq_getElem (by omega)]
 refine ⟨.slice (some ⟨W.heap.size,0,none⟩) n n,(madeCells z.cells (n*ei.n)).toList,e,n,?_,fun μ' σ' hst hσ hμ=>⟨.inr ⟨W.heap.size,n,madeCells z.cells (n*ei.n),rfl,?_,by simp,?_,hmc,?_,?_⟩,.row id _ 0 n _ (by rw [hσ];exact Nat.le_refl _) rfl fun bd' m' l' hbd hL=>?_⟩⟩
 ·simp only [execOp,ho,Act.eval,Sem.run_bind,hrun,Result.andThen_ok,Sem.run_pure,Array.toArray_toList]
 ·rw [Array.toArray_toList];exact heap_alloc_new W _
 ·show n<=maxLen
  exact Nat.le_trans hn (by decide)
 ·intro k cs hk
  rw [List.getElem?_replicate] at hk
  split at hk
  ·rw [<- Option.some.inj hk,hzl]
  ·cases hk
 ·intro k cs j x hk hx
  rw [List.getElem?_replicate] at hk
  split at hk
  ·rename_i hkn
   rw [<- Option.some.inj hk] at hx
   have hj:j<ei.n:=by rw [<- hzl];exact (List.getElem?_eq_some_iff.1 hx).1
   obtain ⟨v,hv⟩:∃v,z.cells.toList[j]?=some v:=⟨_,List.getElem?_eq_getElem (by rw [Array.length_toList,hsz];exact hj)⟩
   have:=(hzs (W.alloc (.cells (madeCells z.cells (n*ei.n)).toList.toArray e))).2 j x v hx hv
   exact ⟨this.2,v,by rw [hget k j hkn hj,hv],this.1⟩
  ·cases hk
 ·rw [hσ] at hbd
  obtain rfl:Body.row e ei.n (List.replicate n ei.z)=bd':=by simpa using hbd
  obtain ⟨rfl,rfl⟩:ei.n=m'/\(List.replicate n ei.z).length=l':=by simpa only [Body.rowL,Option.some.injEq,Prod.mk.injEq] using hL
  exact ⟨by simp,by rw [hμ];simp⟩
end
end Go.Proofs.YthgbdoofchknhaaGreatDoor.Sm
end
section
namespace Go.Proofs.YthgbdoofchknhaaGreatDoor.Sm
open Go.RowKit
theorem d_Big (n:UInt64):PDoes Tryz.prog 23 [.u n,.i .i64 8] (.s (putF n 8)) :=
  .mk2 ⟨_,_,Tryz.func23,rfl,by kernel_rfl⟩ fun W F v u hv hu hF=>by
    obtain rfl:=val_eq' rfl hv
    obtain rfl:=val_eq' rfl hu
    refine (ref_Big W n 8 (by omega)).mono ?_
    rintro e W' ⟨rfl,hk⟩
    exact ⟨_,rfl,hk,.s _⟩
theorem op_strR {P:Program} {N:Nat} {o:Oper} {s:St} {t u e id ep n:Nat} {ti ui ei:TI} {x:Operand} {l:List UInt8} (ho:o.op = .convert t u x) (ht:TiOk P t ti) (hk:ti.k = .slice e) (he:TiOk P e ei) (hke:ei.k = .int .u8) (hu:TiOk P u ui) (hku:ui.k = .str) (hx:s.ev x = .row id ep 0 n) (hid:s.σ id=⟨ep,some (.row e 1 (l.map yEl))⟩) (hn:(l.map yEl).length=n) :
  OpLoc P N o s ⟨.s l,[],[id]⟩:=by
 subst hn
 refine oploc_val [id] _ fun s' W F μ a g1 g2 hs=>?_
 have ex:=hs.ev x
 rw [g1 x (by rw [ho];simp [Op.operands]),hx] at ex
 have hsrc:Src W F 1 (l.map yEl) (a.eval x):=src_row hs.inv ((g2 id (by simp)).trans hid) ex
 obtain ⟨A,c,news,hv,hc,hA⟩:=hsrc
 have hrun:(convert t u (a.eval x)).run P W = .ok (.string (bs l)) W:=by
  rw [hv,List.length_map]
  rcases hA with ⟨ad,rfl,hcell⟩ | e0
  ·refine run_convert_bytes_back W t u e ad c l (ht.slice hk) (he.int hke) (hu.str hku) fun j hj=>?_
   obtain ⟨_,y,hy,hp⟩:=hc.r j [.y l[j]] 0 (.y l[j]) (by rw [List.getElem?_map,List.getElem?_eq_getElem hj];rfl) rfl
   rw [Nat.mul_one,Nat.add_zero] at hy
   cases hp
   exact hcell j _ hy
  ·have h0:l=[]:=List.map_eq_nil_iff.1 e0
   subst h0
   cases A with
   | none=>exact run_convert_bytes_nil (P:=P) (w:=W) t e (ht.slice hk) (he.int hke) _ _ u (hu.str hku)
   | some ad=>exact run_convert_bytes_back W t u e ad c [] (ht.slice hk) (he.int hke) (hu.str hku) (by simp)
 refine ⟨.string ⟨l.toArray⟩,?_,.pure (.s l)⟩
 simp only [execOp,ho,Sem.run_bind,hrun,Result.andThen_ok,Sem.run_pure]
 rfl
theorem op_indexSy {P:Program} {N:Nat} {o:Oper} {s:St} {t:Nat} {ti:TI} {x i:Operand} {l:List UInt8} {k c:UInt8} (ho:o.op = .index t x i) (ht:TiOk P t ti) (hk:ti.k = .str) (hx:s.ev x = .s l) (hi:s.ev i = .y k) (hc:l[k.toNat]?=some c):OpLoc P N o s ⟨.y c,[],[]⟩:=by
 refine oploc_val [] _ fun s' W F μ a h1 h2 hs=>⟨.int .u8 c.toNat,?_,.pure (.y c)⟩
 have ex:=hs.ev x
 rw [h1 x (by rw [ho];simp [Op.operands]),hx] at ex
 have ei':=hs.ev i
 rw [h1 i (by rw [ho];simp [Op.operands]),hi] at ei'
 have hb:(⟨l.toArray⟩:ByteArray)[k.toNat]?=some c:=by
  obtain ⟨hlt,e⟩:=List.getElem?_eq_some_iff.1 hc
  rw [getElem?_pos (⟨l.toArray⟩:ByteArray) k.toNat (by simpa [ByteArray.size] using hlt)]
  exact congrArg some e
 have h0:(0:Int)<=(k.toNat:Int):=by omega
 have hv:a.eval i = .int .u8 k.toNat:=by
  generalize a.eval i=q at ei'
  cases ei' with
  | pure h=>cases h;rfl
 simp only [execOp,ho,Instr.index,ex.s',hv,asIntOf,Sem.run_bind,Sem.run_pure,Result.andThen_ok,run_underlying (ht.str hk),h0,if_true,Int.toNat_natCast,hb]
theorem op_app2 {α:Type} (cF:α->List AV) (l:List α) (x y:α) (hL:l.length<=140000000000) {P:Program} {N:Nat} {o:Oper} {s:St} {c:Call} {xo yo:Operand} {t e id id2 ep2:Nat} {ti ei:TI} (ho:o.op = .call c) (hc:c.callee = .builtin .append) (ha:c.args = #[xo,yo]) (hat:c.argTypes = #[t,t]) (ht:TiOk P t ti) (hk:ti.k = .slice e) (he:TiOk P e ei) (h0:(ei.n == 0)=false) (hsz:Nat.ble ei.sz 500=true)
  (hx:∃ep,s.ev xo = .row id ep 0 (l.map cF).length/\s.σ id=⟨ep,some (.row e ei.n (l.map cF))⟩) (hy:s.ev yo = .row id2 ep2 0 2) (hid2:s.σ id2=⟨ep2,some (.row e ei.n [cF x,cF y])⟩) :
  OpLoc P N o s ⟨.row id ((s.σ id).ep+1) 0 ((l++[x,y]).map cF).length,[(id,⟨(s.σ id).ep+1,some (.row e ei.n ((l++[x,y]).map cF))⟩)],[id2]⟩:=by
 have h2:=Nat.le_of_ble_eq_true hsz
 refine op_appendR (els:=l.map cF) (els2:=[cF x,cF y]) ho hc ha hat ht hk he h0 (.inl hx) hy hid2 ?_ ?_ (by simp) rfl
 ·rw [List.length_map]
  show (l.length+2)*ei.sz<=_
  exact Nat.le_trans (Nat.mul_le_mul (show l.length+2<=140000000002 by omega) h2) (by decide)
 ·rw [List.length_map]
  show l.length+2<=_
  omega
def preD (v:Nat):List UInt8:=if v<10 then [] else Lib.decDigits (v / 10)
theorem dig_byte (u:UInt64):(48+u % 10).toUInt8=UInt8.ofNat (48+u.toNat % 10):=by
 apply UInt8.toNat.inj
 have:=u.toNat_lt
 simp only [UInt64.toNat_toUInt8,UInt64.toNat_add,UInt64.toNat_mod,UInt8.toNat_ofNat']
 show (48+u.toNat % 10) % 18446744073709551616 % 256=_
 omega
theorem pre_dec (u:UInt64):preD u.toNat++[(48+u % 10).toUInt8]=Lib.decDigits u.toNat:=by
 rw [dig_byte,Lib.decDigits,preD]
 split
 ·rename_i h
  rw [Nat.mod_eq_of_lt h]
  rfl
 ·rfl
theorem dec_len (u:UInt64):(Lib.decDigits u.toNat).length<=20:=by
 rw [Lib.decDigits_eq,List.length_map,List.length_range]
 exact Lib.nDigits_le20 _ u.toNat_lt
theorem d_digits (u:UInt64):PDoes Tryz.prog 41 [.u u] (.s (Lib.decDigits u.toNat)):=by
 refine PDoes.of_bodyN Tryz.func41 rfl (by kernel_rfl) rfl rfl ?_
 skip;(repeat (first | with_reducible refine AW.seq ?_ | with_reducible refine AW.skip ?_ | with_reducible refine AW.block ?_ | ((with_reducible refine RG.id ?_);refine RG.nil ⟨?_,?_⟩;· kernel_rfl) | ((with_reducible refine RG.id ?_);refine RG.nil ?_) | ((with_reducible refine AW.text ?_);refine RG.run ty_ok 0 400 rfl ?_) | ((with_reducible refine AW.draws mixed_ok ?_);refine RG.run ty_ok 0 400 rfl ?_)))
 refine RG.opS rfl (op_strR (l:=[(48+u % 10).toUInt8]) rfl (tk rfl) rfl (tk rfl) rfl (tk rfl) rfl rfl rfl rfl) rfl ?_
 refine wH rfl ?_;refine jA ?_
 have hlen:=dec_len u
 refine AW.loopL (ι:=UInt64 × List UInt8) (fun i=>[(0,.u i.1),(3,.s i.2)]) (fun i=>[]) (fun i=>preD i.1.toNat++i.2=Lib.decDigits u.toNat) (fun i=>i.1.toNat) (u,_) (pre_dec u) jW jW fun i hi=>?_
 obtain ⟨v,t⟩:=i
 simp only at hi
 have htl:t.length<=20:=by
  rw [<- hi,List.length_append] at hlen
  omega
 refine jA ?_
 refine AW.cond rfl (fun h=>?_) (fun h=>?_)
 ·have hv:10<=v.toNat:=of_decide_eq_true h
  refine jB ?_;skip;(repeat (first | with_reducible refine AW.seq ?_ | with_reducible refine AW.skip ?_ | with_reducible refine AW.block ?_ | ((with_reducible refine RG.id ?_);refine RG.nil ⟨?_,?_⟩;· kernel_rfl) | ((with_reducible refine RG.id ?_);refine RG.nil ?_) | ((with_reducible refine AW.text ?_);refine RG.run ty_ok 0 400 rfl ?_) | ((with_reducible refine AW.draws mixed_ok ?_);refine RG.run ty_ok 0 400 rfl ?_)))
  refine RG.opS rfl (op_strR (l:=[(48+v / 10 % 10).toUInt8]) rfl (tk rfl) rfl (tk rfl) rfl (tk rfl) rfl rfl rfl rfl) rfl ?_
  refine wH rfl ?_
  refine RG.opS rfl (op_cat rfl rfl rfl (by show 1+t.length<=_;omega)) rfl ?_
  refine wH rfl ?_;refine jA ?_
  exact ⟨(v / 10,[(48+v / 10 % 10).toUInt8]++t),⟨by
   show preD (v / 10).toNat++([(48+v / 10 % 10).toUInt8]++t)=_
   rw [<- List.append_assoc,pre_dec (v / 10),<- hi,preD,if_neg (by omega),UInt64.toNat_div]
   rfl,by
   show (v / 10).toNat<v.toNat
   rw [UInt64.toNat_div]
   show v.toNat / 10<_
   omega⟩,jW,jW⟩
 ·have hv:¬10<=v.toNat:=of_decide_eq_false h
  refine jB ?_
  refine jE ?_;refine jA ?_
  refine AW.ret (retQA ty_ok rfl rfl rfl ?_)
  rw [preD,if_pos (by omega),List.nil_append] at hi
  exact congrArg AV.s hi
theorem d_number (n:Int) (h0:-9223372036854775808<=n) (h1:n<=9223372036854775807):PDoes Tryz.prog 22 [.i .i64 n] (.s (Lib.itoa n)):=by
 refine PDoes.of_bodyN Tryz.func22 rfl (by kernel_rfl) rfl rfl ?_
 refine jA ?_
 refine AW.cond rfl (fun h=>?_) (fun h=>?_)
 ·have hn:Int.ofNat 0<=n:=of_decide_eq_true h
  have hn:0<=n:=hn
  have hu:(ofI64 n).toNat=n.toNat:=by
   have:=ofI64_nat n
   rw [IntKind.wrap_u64] at this
   omega
  refine jB ?_;refine jA ?_
  refine RG.callS rfl rfl rfl rfl rfl (d_digits (ofI64 n)) rfl rfl ?_;refine wH rfl ?_;refine jA ?_
  refine AW.ret (retQA ty_ok rfl rfl rfl ?_)
  show AV.s (Lib.decDigits (ofI64 n).toNat) = .s (Lib.itoa n)
  rw [hu,Lib.itoa,if_neg (by omega)]
 ·have hn:¬Int.ofNat 0<=n:=of_decide_eq_false h
  have hn:n<0:=Int.not_le.1 hn
  have hu:(ofI64 (IntKind.i64.wrap (0 - IntKind.i64.wrap (n+Int.ofNat 1)))+UInt64.ofNat 1).toNat=n.natAbs:=by
   have e1:IntKind.i64.wrap (n+Int.ofNat 1)=n+1:=by
    rw [IntKind.wrap_i64]
    show (n+1+9223372036854775808) % 18446744073709551616 - 9223372036854775808=_
    omega
   have e2:IntKind.i64.wrap (0 - (n+1)) = -(n+1):=by
    rw [IntKind.wrap_i64]
    omega
   rw [e1,e2]
   have:=ofI64_nat (-(n+1))
   rw [IntKind.wrap_u64] at this
   have e3:(ofI64 (-(n+1))).toNat=(-(n+1)).toNat:=by omega
   rw [UInt64.toNat_add,e3]
   show ((-(n+1)).toNat+1) % 18446744073709551616=_
   omega
  refine jB ?_;refine jA ?_
  generalize ofI64 (IntKind.i64.wrap (0 - IntKind.i64.wrap (n+Int.ofNat 1)))+UInt64.ofNat 1=u at hu
  have hlen:=dec_len u
  refine RG.callS rfl rfl rfl rfl rfl (d_digits u) rfl rfl ?_
  refine wH rfl ?_
  refine RG.opS rfl (op_cat rfl rfl rfl (by show 1+_<=_;omega)) rfl ?_
  refine wH rfl ?_;refine jA ?_
  refine AW.ret (retQA ty_ok rfl rfl rfl ?_)
  rw [hu,Lib.itoa,if_pos hn]
  rfl
theorem hexT_at (n:Nat) (h:n<16):hexT[n]?=some (hx n):=by
 have key:∀m:Fin 16,hexT[m.val]?=some (hx m.val):=by decide
 exact key ⟨n,h⟩
theorem hexT_div (a:UInt8):hexT[(a / UInt8.ofNat 16).toNat]?=some (hx (a.toNat / 16)):=by
 have:=u8_lt a
 have e:(a / UInt8.ofNat 16).toNat=a.toNat / 16:=UInt8.toNat_div a _
 rw [e]
 exact hexT_at _ (by omega)
theorem hexT_mod (a:UInt8):hexT[(a % UInt8.ofNat 16).toNat]?=some (hx (a.toNat % 16)):=by
 have e:(a % UInt8.ofNat 16).toNat=a.toNat % 16:=UInt8.toNat_mod a _
 rw [e]
 exact hexT_at _ (by omega)
theorem d_hexL (l:List UInt8) (hl:l.length<=60000000000):PDoes Tryz.prog 21 [.s l] (.s (hexL l)):=by
  refine PDoes.of_bodyN Tryz.func21 rfl (by kernel_rfl) rfl rfl ?_
  skip;(repeat (first | with_reducible refine AW.seq ?_ | with_reducible refine AW.skip ?_ | with_reducible refine AW.block ?_ | ((with_reducible refine RG.id ?_);refine RG.nil ⟨?_,?_⟩;· kernel_rfl) | ((with_reducible refine RG.id ?_);refine RG.nil ?_) | ((with_reducible refine AW.text ?_);refine RG.run ty_ok 0 400 rfl ?_) | ((with_reducible refine AW.draws mixed_ok ?_);refine RG.run ty_ok 0 400 rfl ?_)))
  refine RG.opS rfl (op_makeSlice (id:=103) 0 rfl (tk rfl) rfl (tk rfl) (by decide) (by decide) (by decide)) rfl ?_
  refine wH rfl ?_;refine jA ?_
  refine AW.loopL (ι:=Nat × List UInt8) (fun i=>[(0,.s l),(3,.row 103 0 0 (i.2.map yEl).length),(4,.s hexT),(5,.i .i64 ((i.1:Nat):Int))]) (fun i=>[(103,⟨0,some (.row 5 1 (i.2.map yEl))⟩)]) (fun i=>i.1<=l.length/\i.2=hexL (l.take i.1)) (fun i=>l.length - i.1) (0,[]) ⟨Nat.zero_le _,rfl⟩ jW jW fun i hi=>?_
  obtain ⟨k,acc⟩:=i
  obtain ⟨hk,hacc⟩:=hi
  simp only at hk hacc
  have hal:acc.length<=120000000000:=by
    rw [hacc,hexL_len,List.length_take]
    omega
  refine jA ?_
  refine AW.cond rfl (fun h=>?_) (fun h=>?_)
  · have hlt:k<l.length:=by have:((k:Nat):Int)<(l.length:Int):=of_decide_eq_true h;omega
    have ha:l[k]?=some l[k]:=List.getElem?_eq_getElem hlt
    have hs:=take_snoc ha
    generalize l[k]=a at ha hs
    refine jB ?_
    refine AW.draws mixed_ok ?_
    refine wH rfl ?_
    refine RG.opS rfl (op_indexS rfl (tk rfl) rfl rfl rfl ha) rfl ?_
    refine wH rfl ?_
    have hb:=hexT_div a
    have hb':=hexT_mod a
    refine RG.opS rfl (op_indexSy rfl (tk rfl) rfl rfl rfl hb) rfl ?_
    refine wH rfl ?_
    refine RG.opS rfl (op_indexS rfl (tk rfl) rfl rfl rfl ha) rfl ?_
    refine wH rfl ?_
    refine RG.opS rfl (op_indexSy rfl (tk rfl) rfl rfl rfl hb') rfl ?_
    refine wH rfl ?_
    refine RG.opS rfl (op_app2 yEl acc (hx (a.toNat / 16)) (hx (a.toNat % 16)) (by omega) rfl rfl rfl rfl (tk rfl) rfl (tk rfl) rfl rfl ⟨_,rfl,rfl⟩ rfl rfl) rfl ?_;refine wH rfl ?_;refine jA ?_
    exact ⟨(k+1,acc++[hx (a.toNat / 16),hx (a.toNat % 16)]),⟨⟨hlt,by
      show acc++[hx (a.toNat / 16),hx (a.toNat % 16)]=hexL (l.take (k+1))
      rw [hs,hexL_snoc,hacc]
      simp⟩,by show l.length - (k+1)<l.length - k;omega⟩,⟨rI rfl rfl,rR rfl rfl rfl,rI rfl rfl,rI (i64_next (show k<l.length from hlt) (by omega)) rfl,trivial⟩,jW⟩
  · have hge:¬k<l.length:=by have:¬((k:Nat):Int)<(l.length:Int):=of_decide_eq_false h;omega
    rw [List.take_of_length_le (by omega)] at hacc
    refine jB ?_
    refine jE ?_;refine jA ?_
    skip;(repeat (first | with_reducible refine AW.seq ?_ | with_reducible refine AW.skip ?_ | with_reducible refine AW.block ?_ | ((with_reducible refine RG.id ?_);refine RG.nil ⟨?_,?_⟩;· kernel_rfl) | ((with_reducible refine RG.id ?_);refine RG.nil ?_) | ((with_reducible refine AW.text ?_);refine RG.run ty_ok 0 400 rfl ?_) | ((with_reducible refine AW.draws mixed_ok ?_);refine RG.run ty_ok 0 400 rfl ?_)))
    refine RG.opS rfl (op_strR (l:=acc) rfl (tk rfl) rfl (tk rfl) rfl (tk rfl) rfl rfl rfl rfl) rfl ?_
    refine wH rfl ?_;refine jA ?_
    refine AW.ret (retQA ty_ok rfl rfl rfl ?_)
    exact congrArg AV.s hacc
end Go.Proofs.YthgbdoofchknhaaGreatDoor.Sm
end
section
namespace Go.Proofs.YthgbdoofchknhaaGreatDoor.Sm
open Go.RowKit
theorem dec_ne (u:Nat):Lib.decDigits u≠[]:=by
 rw [Lib.decDigits]
 split <;> simp
theorem u8of (n:Nat) (h:n<256):(UInt8.ofNat n).toNat=n:=by
 rw [UInt8.toNat_ofNat']
 exact Nat.mod_eq_of_lt h
theorem pu10_dec (u:Nat):∀r:List UInt8,u<18446744073709551616->Lib.parseUint10 0 (Lib.decDigits u++r)=Lib.parseUint10 u r:=by
 induction u using Nat.strongRecOn with
 | _ u ih =>
  intro r hu
  rw [Lib.decDigits]
  split
  ·rename_i h
   show Lib.parseUint10 0 (UInt8.ofNat (48+u)::r)=_
   rw [Lib.parseUint10,u8of (48+u) (by omega),if_pos (by omega),if_neg (by omega),if_neg (by omega)]
   congr 1
   omega
  ·rename_i h
   rw [List.append_assoc,ih (u / 10) (by omega) _ (by omega)]
   show Lib.parseUint10 (u / 10) (UInt8.ofNat (48+u % 10)::r)=_
   rw [Lib.parseUint10,u8of (48+u % 10) (by omega),if_pos (by omega),if_neg (by omega),if_neg (by omega)]
   congr 1
   omega
theorem pm_dec (u:Nat) (hu:u<18446744073709551616):Lib.parseMag (Lib.decDigits u) = .ok u:=by
 have h:=pu10_dec u [] hu
 rw [List.append_nil] at h
 rw [Lib.parseMag,if_neg (dec_ne u),h]
 rfl
theorem dec_mem (u:Nat):∀c∈Lib.decDigits u,48<=c.toNat/\c.toNat<=57:=by
 induction u using Nat.strongRecOn with
 | _ u ih =>
  intro c hc
  rw [Lib.decDigits] at hc
  split at hc
  ·rw [List.mem_singleton] at hc
   rw [hc,u8of _ (by omega)]
   omega
  ·rcases List.mem_append.1 hc with hc | hc
   ·exact ih _ (by omega) c hc
   ·rw [List.mem_singleton] at hc
    rw [hc,u8of _ (by omega)]
    omega
theorem itoa_mem (a:Int):∀c∈Lib.itoa a,45<=c.toNat/\c.toNat<=57:=by
 intro c hc
 unfold Lib.itoa at hc
 split at hc
 ·rcases List.mem_cons.1 hc with rfl | hc
  ·decide
  ·have:=dec_mem _ c hc
   omega
 ·have:=dec_mem _ c hc
  omega
theorem atoi_itoa (a:Int) (h0:-9223372036854775808<=a) (h1:a<=9223372036854775807):atoiV (Lib.itoa a)=a:=by
 have key:Lib.atoiAll (Lib.itoa a) = .ok a:=by
  unfold Lib.itoa
  split
  ·rename_i h
   unfold Lib.atoiAll
   simp only
   rw [if_pos (Or.inr (by decide)),pm_dec _ (by omega)]
   simp only
   rw [if_neg (fun hx=>hx.1 (by decide)),if_neg (by omega),if_pos (by decide)]
   congr 1
   omega
  ·rename_i h
   have hm:=dec_mem a.toNat
   have hp:=pm_dec a.toNat (by omega)
   revert hp hm
   cases hd:Lib.decDigits a.toNat with
   | nil=>exact absurd hd (dec_ne _)
   | cons c r =>
    intro hm hp
    have hc:=hm c (by simp)
    unfold Lib.atoiAll
    simp only
    rw [if_neg (by omega),hp]
    simp only
    rw [if_neg (by omega),if_neg (by omega),if_neg (by omega)]
    congr 1
    omega
 unfold atoiV
 rw [key]
theorem dig_hx (n:Nat) (h:n<16):dig16 (hx n)=n:=by
 have key:∀m:Fin 16,dig16 (hx m.val)=m.val:=by decide
 exact key ⟨n,h⟩
theorem hx_rng (n:Nat) (h:n<16):48<=(hx n).toNat/\(hx n).toNat<=102:=by
 have key:∀m:Fin 16,48<=(hx m.val).toNat/\(hx m.val).toNat<=102:=by decide
 exact key ⟨n,h⟩
def wN:Nat->Nat->List UInt8
 | 0,_=>[]
 | k+1,u=>wN k (u / 16)++[hx (u % 16)]
theorem wN_zero:∀k,wN k 0=List.replicate k 48
 | 0=>rfl
 | k+1=>by
  rw [wN,Nat.zero_div,wN_zero k,List.replicate_succ']
  rfl
theorem h16_wN:∀(k u:Nat),u<16 ^ k->List.replicate (k - (h16 k u).length) 48++h16 k u=wN k u
 | 0,u,h=>rfl
 | k+1,u,h=>by
  rw [h16,wN]
  split
  ·rename_i hu
   rw [Nat.div_eq_of_lt hu,Nat.mod_eq_of_lt hu,wN_zero]
   rfl
  ·rw [List.length_append,List.length_singleton,Nat.add_sub_add_right,<- List.append_assoc,h16_wN k (u / 16) (by rw [Nat.pow_succ] at h;omega)]
theorem wide_wN (u:Nat) (h:u<18446744073709551616):wideL u=wN 16 u:=h16_wN 16 u h
theorem pu_wN:∀(k u:Nat) (r:List UInt8),u<16 ^ k->u<18446744073709551616->pu16 0 (wN k u++r)=pu16 u r
 | 0,u,r,h,_=>by
  obtain rfl:u=0:=by simpa using h
  rfl
 | k+1,u,r,h,hu=>by
  rw [wN,List.append_assoc,pu_wN k (u / 16) _ (by rw [Nat.pow_succ] at h;omega) (by omega)]
  show pu16 (u / 16) (hx (u % 16)::r)=_
  rw [pu16,dig_hx _ (by omega),if_pos (by omega),if_neg (by omega)]
  congr 1
  omega
theorem pu_wide (u:UInt64):puV (wideL u.toNat)=u:=by
 have hu:=u.toNat_lt
 have hl:=wideL_len u.toNat
 have h:=pu_wN 16 u.toNat [] (by simpa using hu) hu
 rw [List.append_nil,<- wide_wN _ hu] at h
 have:puL (wideL u.toNat) = .ok u.toNat:=by
  rw [puL,if_neg (fun e=>by rw [e] at hl;cases hl),h]
  rfl
 unfold puV
 rw [this]
 exact UInt64.ofNat_toNat
def bN:Nat->Nat->List UInt8
 | 0,_=>[]
 | k+1,u=>bN k (u / 256)++[UInt8.ofNat (u % 256)]
theorem hex_bN:∀(k u:Nat),hexL (bN k u)=wN (2*k) u
 | 0,u=>rfl
 | k+1,u=>by
  rw [bN,hexL_snoc,hex_bN k,show 2*(k+1)=2*k+1+1 by omega,wN,wN,u8of _ (by omega),Nat.div_div_eq_div_mul,show u % 256 / 16=u / 16 % 16 by omega,show u % 256 % 16=u % 16 by omega]
theorem putF_bN (u:UInt64):putF u 8=bN 8 u.toNat:=by
 have e:∀n:Nat,UInt8.ofNat (n % 256)=UInt8.ofNat n:=fun n=>by
  apply UInt8.toNat.inj
  rw [UInt8.toNat_ofNat',UInt8.toNat_ofNat']
  omega
 have b:∀i,byteAt u 8 i=UInt8.ofNat (u.toNat / 2 ^ (8*(8 - 1 - i))):=fun i=>rfl
 show [byteAt u 8 0,byteAt u 8 1,byteAt u 8 2,byteAt u 8 3,byteAt u 8 4,byteAt u 8 5,byteAt u 8 6,byteAt u 8 7]=_
 simp only [b,bN,e,Nat.div_div_eq_div_mul,List.nil_append,List.cons_append,Nat.reducePow,Nat.reduceMul,Nat.reduceSub,Nat.div_one]
theorem wide_hex (u:UInt64):wideL u.toNat=hexL (putF u 8):=by rw [wide_wN _ u.toNat_lt,putF_bN,hex_bN]
theorem hexL_app (a b:List UInt8):hexL (a++b)=hexL a++hexL b:=by simp [hexL]
theorem unB_hx (x:UInt8):unB (hx (x.toNat / 16)) (hx (x.toNat % 16))=x:=by
 have key:∀i j:Fin 16,unB (hx i.val) (hx j.val)=UInt8.ofNat (16*i.val+j.val):=by decide +kernel
 have hx':=u8_lt x
 have:=key ⟨x.toNat / 16,by omega⟩ ⟨x.toNat % 16,by omega⟩
 rw [this]
 show UInt8.ofNat (16*(x.toNat / 16)+x.toNat % 16)=x
 rw [show 16*(x.toNat / 16)+x.toNat % 16=x.toNat by omega]
 exact UInt8.ofNat_toNat
theorem unhex_hex:∀l:List UInt8,unhexL (hexL l)=l
 | []=>rfl
 | x::l=>by
  show unhexL (hx (x.toNat / 16)::hx (x.toNat % 16)::hexL l)=_
  rw [unhexL,unB_hx,unhex_hex l]
theorem hex_mem (l:List UInt8):∀c∈hexL l,48<=c.toNat/\c.toNat<=102:=by
 intro c hc
 simp only [hexL,List.mem_flatMap] at hc
 obtain ⟨x,_,hx'⟩:=hc
 have:=u8_lt x
 rcases List.mem_cons.1 hx' with rfl | hx'
 ·exact hx_rng _ (by omega)
 ·rw [List.mem_singleton] at hx'
  rw [hx']
  exact hx_rng _ (by omega)
theorem want_seal (c:Cfg) (h:c.fit=true):wantV (sealW c.words)=c:=by
 have hx:∃x,IsEnc Cfg.fit Cfg.words x (sealW c.words):=⟨c,h,rfl⟩
 rw [wantV,dif_pos hx]
 have e:=(isEnc_read (fun x hx=>reads_cfg x hx) hx.choose_spec).symm.trans (isEnc_read (fun x hx=>reads_cfg x hx) (show IsEnc Cfg.fit Cfg.words c _ from ⟨h,rfl⟩))
 injection e
theorem ib_at:∀(w t:List UInt8) (c:UInt8),(∀x∈w,x≠c)->Lib.indexByte (w++c::t) c=w.length
 | w,t,c,h=>by
  rw [<- Lib.index_one]
  refine Lib.index_first (i:=w.length) (by simp) (by simp [Lib.occAt]) fun j hj=>?_
  have:(w++c::t)[j]?=some w[j]:=by rw [List.getElem?_append_left hj];exact List.getElem?_eq_getElem hj
  have hne:=h w[j] (List.getElem_mem hj)
  obtain ⟨r,hr⟩:∃r,(w++c::t).drop j=w[j]::r:=⟨_,List.drop_eq_getElem_cons (by rw [List.length_append];omega) |>.trans (by rw [List.getElem_append_left hj])⟩
  have hne':(c == w[j])=false:=by simpa using Ne.symm hne
  simp [Lib.occAt,hr,List.isPrefixOf,hne']
theorem spl_join:∀(ws:List (List UInt8)),ws≠[]->(∀w∈ws,∀x∈w,x≠32)->spl 32 (Lib.join ws [32])=ws
 | [],h,_=>absurd rfl h
 | [w],_,h=>by
  rw [Lib.join_one,spl,Lib.count_one,List.count_eq_zero.2 (fun hm=>h w (by simp) 32 hm rfl)]
  rfl
 | w::v::r,_,h=>by
  have ih:=spl_join (v::r) (by simp) (fun x hx=>h x (by simp [hx]))
  have e:Lib.join (w::v::r) [32]=w++32::Lib.join (v::r) [32]:=by
   rw [Lib.join_cons,Lib.join_cons]
   simp [Lib.joinTail]
  have hw:∀x∈w,x≠(32:UInt8):=h w (by simp)
  rw [spl,Lib.count_one] at ih ⊢
  rw [e,List.count_append,List.count_eq_zero.2 (fun hm=>hw 32 hm rfl),List.count_cons_self,Nat.zero_add]
  rw [Lib.splitK,Lib.index_one,ib_at w _ 32 hw,if_neg (by simp)]
  have e1:((w.length:Int)).toNat=w.length:=rfl
  rw [e1,List.length_singleton,Nat.add_zero,List.take_left' rfl,<- List.drop_drop,List.drop_left' rfl]
  show w::Lib.splitK [32] 0 _ (Lib.join (v::r) [32])=_
  rw [ih]
end Go.Proofs.YthgbdoofchknhaaGreatDoor.Sm
end
section
namespace Go.Proofs.YthgbdoofchknhaaGreatDoor.Sm
open Go.RowKit
theorem kinds_of:∀x∈kindsL,kindOf x.2.1=(x.1,x.2.2):=by decide
theorem kinds_has:∀x∈kindsL,x.2.2=[]\/x.2.2=[97]\/x.2.2=[97,98,104]\/x.2.2=[119]:=by decide
theorem kinds_chr:∀x∈kindsL,∀c∈x.2.1,97<=c.toNat/\c.toNat<=122:=by decide
def canonH (has:List UInt8) (s:SI):SI :=
 if has=[119] then { zeroSI with kind:=s.kind,want:=s.want }
 else if has=[97,98,104] then { zeroSI with kind:=s.kind,a:=s.a,b:=s.b,head:=s.head }
 else if has=[97] then { zeroSI with kind:=s.kind,a:=s.a }
 else { zeroSI with kind:=s.kind }
theorem step_cons (x:KE) (hx:x∈kindsL) (r:List (List UInt8)):stepW (x.2.1::r)=x.2.2.foldl fldC ({ zeroSI with kind:=x.1 },r):=by
 unfold stepW
 rw [List.headD_cons,kinds_of x hx]
 rfl
theorem fld97 (y:SI) (w:List UInt8) (r:List (List UInt8)):fldC (y,w::r) 97=({ y with a:=atoiV w },r):=by
 unfold fldC
 rw [if_pos rfl]
 rfl
theorem fld98 (y:SI) (w:List UInt8) (r:List (List UInt8)):fldC (y,w::r) 98=({ y with b:=atoiV w },r):=by
 unfold fldC
 rw [if_neg (by decide),if_pos rfl]
 rfl
theorem fld104 (y:SI) (w:List UInt8) (r:List (List UInt8)):fldC (y,w::r) 104=({ y with head:=⟨puV (w.take 16),puV (w.drop 16)⟩ },r):=by
 unfold fldC
 rw [if_neg (by decide),if_neg (by decide),if_pos rfl]
 rfl
theorem fld119 (y:SI) (w:List UInt8) (r:List (List UInt8)):fldC (y,w::r) 119=({ y with want:=wantV (unhexL w) },r):=by
 unfold fldC
 rw [if_neg (by decide),if_neg (by decide),if_neg (by decide),if_pos rfl]
 rfl
theorem wd97 (s:SI) (ws:List (List UInt8)):wdC s (some ws) 97=some (ws++[Lib.itoa s.a]):=rfl
theorem wd98 (s:SI) (ws:List (List UInt8)):wdC s (some ws) 98=some (ws++[Lib.itoa s.b]):=rfl
theorem wd104 (s:SI) (ws:List (List UInt8)):wdC s (some ws) 104=some (ws++[wideL s.head.hi.toNat++wideL s.head.lo.toNat]):=rfl
theorem wd119 (s:SI) (ws:List (List UInt8)):wdC s (some ws) 119=if s.want.fit=true then some (ws++[hexL (sealW s.want.words)]) else none:=rfl
def Wd (w:List UInt8):Prop:=∀c∈w,33<=c.toNat/\c.toNat<=126
theorem wd_itoa (a:Int):Wd (Lib.itoa a):=fun c hc=>by
 have:=itoa_mem a c hc
 omega
theorem wd_hex (l:List UInt8):Wd (hexL l):=fun c hc=>by
 have:=hex_mem l c hc
 omega
theorem wd_app {a b:List UInt8} (ha:Wd a) (hb:Wd b):Wd (a++b):=fun c hc=>(List.mem_append.1 hc).elim (ha c) (hb c)
theorem wd_wide (u:UInt64):Wd (wideL u.toNat):=by
 rw [wide_hex]
 exact wd_hex _
theorem step_words {s:SI} (hs:s.Ok) {x:KE} (hx:lookK s.kind kindsL=some x) {ws:List (List UInt8)} (hw:wordsW s=some ws) :
  (stepW ws).1=canonH x.2.2 s/\ws≠[]/\∀w∈ws,Wd w:=by
 obtain ⟨hm,hk⟩:=look_mem hx
 have hat:kindAt s.kind=x:=by rw [kindAt,hx];rfl
 have hword:Wd x.2.1:=fun c hc=>by have:=kinds_chr x hm c hc;omega
 rw [wordsW,hat] at hw
 obtain ⟨s1,s2,s3,⟨s4,s5⟩,s6⟩:=s
 simp only at hk
 rcases kinds_has x hm with h | h | h | h
 ·rw [h,List.foldl_nil] at hw
  obtain rfl:=Option.some.inj hw
  refine ⟨?_,by simp,by simpa using hword⟩
  rw [step_cons x hm,h,List.foldl_nil,<- hk]
  rfl
 ·rw [h,List.foldl_cons,List.foldl_nil,wd97] at hw
  obtain rfl:=Option.some.inj hw
  refine ⟨?_,by simp,?_⟩
  ·show (stepW (x.2.1::[Lib.itoa s2])).1=_
   rw [step_cons x hm,h,List.foldl_cons,List.foldl_nil,fld97,atoi_itoa _ hs.a.1 hs.a.2,<- hk]
   rfl
  ·intro w hw
   simp only [List.mem_append,List.mem_singleton] at hw
   rcases hw with rfl | rfl
   ·exact hword
   ·exact wd_itoa _
 ·rw [h,List.foldl_cons,List.foldl_cons,List.foldl_cons,List.foldl_nil,wd97,wd98,wd104] at hw
  obtain rfl:=Option.some.inj hw
  refine ⟨?_,by simp,?_⟩
  ·show (stepW (x.2.1::Lib.itoa s2::Lib.itoa s3::[wideL s4.toNat++wideL s5.toNat])).1=_
   rw [step_cons x hm,h,List.foldl_cons,List.foldl_cons,List.foldl_cons,List.foldl_nil,fld97,fld98,fld104,atoi_itoa _ hs.a.1 hs.a.2,atoi_itoa _ hs.b.1 hs.b.2,
    List.take_left' (wideL_len _),List.drop_left' (wideL_len _),pu_wide,pu_wide,<- hk]
   rfl
  ·intro w hw
   simp only [List.mem_append,List.mem_singleton] at hw
   rcases hw with ((rfl | rfl) | rfl) | rfl
   ·exact hword
   ·exact wd_itoa _
   ·exact wd_itoa _
   ·exact wd_app (wd_wide _) (wd_wide _)
 ·rw [h,List.foldl_cons,List.foldl_nil,wd119] at hw
  split at hw
  ·rename_i hf
   obtain rfl:=Option.some.inj hw
   refine ⟨?_,by simp,?_⟩
   ·show (stepW (x.2.1::[hexL (sealW s6.words)])).1=_
    rw [step_cons x hm,h,List.foldl_cons,List.foldl_nil,fld119,unhex_hex,want_seal _ hf,<- hk]
    rfl
   ·intro w hw
    simp only [List.mem_append,List.mem_singleton] at hw
    rcases hw with rfl | rfl
    ·exact hword
    ·exact wd_hex _
  ·cases hw
noncomputable def lawL (s:SI):List UInt8 × Bool :=
 match lookK s.kind kindsL with
 | none=>([],false)
 | some x=>match wordsW s with
  | none=>([],false)
  | some ws=>(Lib.join ws [32],decide (s=canonH x.2.2 s))
theorem line_law {s:SI} (hs:s.Ok):lineW s=if (lawL s).2=true then some (lawL s).1 else none:=by
 unfold lawL lineW
 cases hx:lookK s.kind kindsL with
 | none =>
  have hat:kindAt s.kind=(0,[],[]):=by rw [kindAt,hx];rfl
  rw [wordsW,hat]
  simp
 | some x =>
  cases hw:wordsW s with
  | none=>simp
  | some ws =>
   rw [Option.bind_some,(step_words hs hx hw).1]
   simp only [Option.isSome_some,true_and,decide_eq_true_eq]
   by_cases hc:s=canonH x.2.2 s
   ·rw [if_pos hc.symm,if_pos hc]
   ·rw [if_neg fun h=>hc h.symm,if_neg hc]
theorem line_some {s:SI} (hs:s.Ok) {t:List UInt8} (h:lineW s=some t):∃ws,t=Lib.join ws [32]/\ws≠[]/\(∀w∈ws,Wd w)/\(stepW ws).1=s:=by
 unfold lineW at h
 cases hw:wordsW s with
 | none =>
  rw [hw] at h
  cases h
 | some ws =>
  rw [hw,Option.bind_some] at h
  split at h
  ·rename_i hc
   obtain ⟨x,hx⟩:=Option.isSome_iff_exists.1 hc.1
   obtain ⟨_,h1,h2⟩:=step_words hs hx hw
   exact ⟨ws,(Option.some.inj h).symm,h1,h2,hc.2⟩
  ·cases h
theorem step_line {s:SI} (hs:s.Ok) {t:List UInt8} (h:lineW s=some t):stepL t=some s:=by
 obtain ⟨ws,rfl,h1,h2,h3⟩:=line_some hs h
 have e:spl 32 (Lib.join ws [32])=ws:=spl_join ws h1 fun w hw c hc=>by
  rintro rfl
  have:=h2 w hw 32 hc
  revert this
  decide
 unfold stepL
 rw [e,h3,if_pos h]
theorem step_back {l:List UInt8} {x:SI} (h:stepL l=some x):x.Ok/\lineW x=some l:=by
 unfold stepL at h
 split at h
 ·rename_i hc
  obtain rfl:=Option.some.inj h
  exact ⟨stepW_ok _,hc⟩
 ·cases h
theorem join_chr:∀ws:List (List UInt8),(∀w∈ws,Wd w)->∀c∈Lib.join ws [32],32<=c.toNat/\c.toNat<=126
  | [],_,c,hc=>by
    rw [Lib.join_nil] at hc
    cases hc
  | w::r,h,c,hc=>by
    rw [Lib.join_cons,List.mem_append] at hc
    rcases hc with hc | hc
    · have:=h w (by simp) c hc
      omega
    · simp only [Lib.joinTail,List.mem_flatten,List.mem_map] at hc
      obtain ⟨_,⟨v,hv,rfl⟩,hc⟩:=hc
      rcases List.mem_append.1 hc with hc | hc
      · rw [List.mem_singleton] at hc
        rw [hc]
        decide
      · have:=h v (by simp [hv]) c hc
        omega
theorem line_chr {s:SI} (hs:s.Ok) {t:List UInt8} (h:lineW s=some t):∀c∈t,32<=c.toNat/\c.toNat<=126:=by
 obtain ⟨ws,rfl,_,h2,_⟩:=line_some hs h
 exact join_chr ws h2
theorem line_inj {a b:SI} (ha:a.Ok) (hb:b.Ok) {s t:List UInt8} (h:lineW a=some s) (g:lineW b=some t):s=t↔a=b:=by
 constructor
 ·rintro rfl
  have h1:=step_line ha h
  rw [step_line hb g] at h1
  exact (Option.some.inj h1).symm
 ·rintro rfl
  rw [h] at g
  exact Option.some.inj g
end Go.Proofs.YthgbdoofchknhaaGreatDoor.Sm
end
section
namespace Go.Proofs.YthgbdoofchknhaaGreatDoor.Sm
open Go.RowKit
theorem join2 (a b:List UInt8):Lib.join [a,b] [32]=(a++[32])++b:=by simp [Lib.join_cons,Lib.joinTail]
theorem join4 (a b c d:List UInt8):Lib.join [a,b,c,d] [32]=((((a++[32])++b)++[32])++c)++[32]++d:=by simp [Lib.join_cons,Lib.joinTail]
noncomputable def lawR (s:SI):AV:=.tup [.s (lawL s).1,.b (lawL s).2]
theorem lawR_some {s:SI} {x:KE} (hx:lookK s.kind kindsL=some x) {ws:List (List UInt8)} (hw:wordsW s=some ws) {t:List UInt8} (ht:Lib.join ws [32]=t) {q:Bool} (hq:decide (s=canonH x.2.2 s)=q):AV.tup [.s t,.b q]=lawR s:=by
 unfold lawR lawL
 rw [hx]
 simp only [hw]
 rw [ht,hq]
theorem lawR_none {s:SI} (hx:lookK s.kind kindsL=none):AV.tup [.s [],.b false]=lawR s:=by
 unfold lawR lawL
 rw [hx]
theorem lawR_unfit {s:SI} {x:KE} (hx:lookK s.kind kindsL=some x) (hw:wordsW s=none):AV.tup [.s [],.b false]=lawR s:=by
 unfold lawR lawL
 rw [hx]
 simp only [hw]
theorem line_k1 (a b:Int) (hi lo:UInt64) (w:Cfg) (hs:(SI.mk 1 a b ⟨hi,lo⟩ w).Ok):PDoes Tryz.prog 9 [.agg (siC ⟨1,a,b,⟨hi,lo⟩,w⟩)] (lawR ⟨1,a,b,⟨hi,lo⟩,w⟩):=by
  refine PDoes.of_bodyN Tryz.func9 rfl (by kernel_rfl) rfl rfl ?_
  have h0:=line_i.1
  refine jA ?_
  refine AW.condT rfl ?_;refine jA ?_
  by_cases hf:w.fit=true
  · refine RG.callMS rfl rfl rfl rfl rfl rfl (d_Config_yes w hf) rfl ?_
    refine wH rfl ?_;refine jA ?_;refine AW.condF rfl ?_;refine jA ?_
    refine RG.opS rfl (op_str rfl (tk rfl) rfl (tk rfl) rfl (tk rfl) rfl rfl) rfl ?_
    refine wH rfl ?_
    have hl:=fit_len8 hf
    refine RG.callS rfl rfl rfl rfl rfl (d_hexL (sealW w.words) (by omega)) rfl rfl ?_
    refine wH rfl ?_
    refine RG.opS rfl (op_cat rfl rfl rfl (by have:=hexL_len (sealW w.words);show 5+_<=_;omega)) rfl ?_
    refine wH rfl ?_
    refine RG.callS rfl rfl rfl rfl (by simp [siC,cfgC,canonH,zeroSI,zeroC,h0]) (d_equalL ⟨1,a,b,⟨hi,lo⟩,w⟩ (canonH [119] ⟨1,a,b,⟨hi,lo⟩,w⟩) _ rfl) rfl rfl ?_
    refine wH rfl ?_;refine jA ?_
    refine AW.ret (retQA ty_ok rfl rfl rfl ?_)
    exact lawR_some (x:=(1,[119,97,110,116],[119])) (ws:=[[119,97,110,116],hexL (sealW w.words)]) rfl (by show wdC _ (some _) 119=_;rw [wd119,if_pos hf];rfl) (join2 _ _) rfl
  · refine RG.callMS rfl rfl rfl rfl rfl rfl (d_Config_no w (by simpa using hf)) rfl ?_
    refine wH rfl ?_;refine jA ?_;refine AW.condT rfl ?_;refine jA ?_
    refine AW.ret (retQA ty_ok rfl rfl rfl ?_)
    exact lawR_unfit (x:=(1,[119,97,110,116],[119])) rfl (by show wdC _ (some _) 119=_;rw [wd119,if_neg hf])
theorem line_k2 (a b:Int) (hi lo:UInt64) (w:Cfg) (hs:(SI.mk 2 a b ⟨hi,lo⟩ w).Ok):PDoes Tryz.prog 9 [.agg (siC ⟨2,a,b,⟨hi,lo⟩,w⟩)] (lawR ⟨2,a,b,⟨hi,lo⟩,w⟩):=by
 refine PDoes.of_bodyN Tryz.func9 rfl (by kernel_rfl) rfl rfl ?_
 have h0:=line_i.1
 refine jA ?_
 refine AW.condF rfl ?_;refine jA ?_
 refine AW.condF rfl ?_;refine jA ?_
 refine AW.condT rfl ?_;refine jA ?_
 refine RG.callS rfl rfl rfl rfl (by simp [siC,cfgC,canonH,zeroSI,zeroC,h0]) (d_equalL ⟨2,a,b,⟨hi,lo⟩,w⟩ (canonH [] ⟨2,a,b,⟨hi,lo⟩,w⟩) _ rfl) rfl rfl ?_
 refine wH rfl ?_;refine jA ?_
 refine AW.ret (retQA ty_ok rfl rfl rfl ?_)
 exact lawR_some (x:=(2,[116,105,99,107],[])) (ws:=[[116,105,99,107]]) rfl rfl rfl rfl
theorem line_k3 (a b:Int) (hi lo:UInt64) (w:Cfg) (hs:(SI.mk 3 a b ⟨hi,lo⟩ w).Ok):PDoes Tryz.prog 9 [.agg (siC ⟨3,a,b,⟨hi,lo⟩,w⟩)] (lawR ⟨3,a,b,⟨hi,lo⟩,w⟩):=by
 refine PDoes.of_bodyN Tryz.func9 rfl (by kernel_rfl) rfl rfl ?_
 have h0:=line_i.1
 refine jA ?_
 refine AW.condF rfl ?_;refine jA ?_
 refine AW.condF rfl ?_;refine jA ?_
 refine AW.condF rfl ?_;refine jA ?_
 refine AW.condF rfl ?_;refine jA ?_
 refine AW.condT rfl ?_;refine jA ?_
 refine RG.opS rfl (op_cat rfl rfl rfl (by decide)) rfl ?_
 refine wH rfl ?_
 refine RG.callS rfl rfl rfl rfl rfl (d_number a hs.a.1 hs.a.2) rfl rfl ?_
 refine wH rfl ?_
 refine RG.opS rfl (op_cat rfl rfl rfl (by have:=Lib.itoa_length_le a hs.a.1 hs.a.2;show 8+_<=_;omega)) rfl ?_
 refine wH rfl ?_
 refine RG.callS rfl rfl rfl rfl (by simp [siC,cfgC,canonH,zeroSI,zeroC,h0]) (d_equalL ⟨3,a,b,⟨hi,lo⟩,w⟩ (canonH [97] ⟨3,a,b,⟨hi,lo⟩,w⟩) _ rfl) rfl rfl ?_
 refine wH rfl ?_;refine jA ?_
 refine AW.ret (retQA ty_ok rfl rfl rfl ?_)
 exact lawR_some (x:=(3,[100,101,108,105,118,101,114],[97])) (ws:=[[100,101,108,105,118,101,114],Lib.itoa a]) rfl rfl (join2 _ _) rfl
theorem line_k4 (a b:Int) (hi lo:UInt64) (w:Cfg) (hs:(SI.mk 4 a b ⟨hi,lo⟩ w).Ok):PDoes Tryz.prog 9 [.agg (siC ⟨4,a,b,⟨hi,lo⟩,w⟩)] (lawR ⟨4,a,b,⟨hi,lo⟩,w⟩):=by
 refine PDoes.of_bodyN Tryz.func9 rfl (by kernel_rfl) rfl rfl ?_
 have h0:=line_i.1
 refine jA ?_
 refine AW.condF rfl ?_;refine jA ?_
 refine AW.condF rfl ?_;refine jA ?_
 refine AW.condF rfl ?_;refine jA ?_
 refine AW.condF rfl ?_;refine jA ?_
 refine AW.condF rfl ?_;refine jA ?_
 refine AW.condT rfl ?_;refine jA ?_
 refine RG.opS rfl (op_cat rfl rfl rfl (by decide)) rfl ?_
 refine wH rfl ?_
 refine RG.callS rfl rfl rfl rfl rfl (d_number a hs.a.1 hs.a.2) rfl rfl ?_
 refine wH rfl ?_
 refine RG.opS rfl (op_cat rfl rfl rfl (by have:=Lib.itoa_length_le a hs.a.1 hs.a.2;show 5+_<=_;omega)) rfl ?_
 refine wH rfl ?_
 refine RG.callS rfl rfl rfl rfl (by simp [siC,cfgC,canonH,zeroSI,zeroC,h0]) (d_equalL ⟨4,a,b,⟨hi,lo⟩,w⟩ (canonH [97] ⟨4,a,b,⟨hi,lo⟩,w⟩) _ rfl) rfl rfl ?_
 refine wH rfl ?_;refine jA ?_
 refine AW.ret (retQA ty_ok rfl rfl rfl ?_)
 exact lawR_some (x:=(4,[100,114,111,112],[97])) (ws:=[[100,114,111,112],Lib.itoa a]) rfl rfl (join2 _ _) rfl
theorem line_k5 (a b:Int) (hi lo:UInt64) (w:Cfg) (hs:(SI.mk 5 a b ⟨hi,lo⟩ w).Ok):PDoes Tryz.prog 9 [.agg (siC ⟨5,a,b,⟨hi,lo⟩,w⟩)] (lawR ⟨5,a,b,⟨hi,lo⟩,w⟩):=by
 refine PDoes.of_bodyN Tryz.func9 rfl (by kernel_rfl) rfl rfl ?_
 have h0:=line_i.1
 refine jA ?_
 refine AW.condF rfl ?_;refine jA ?_
 refine AW.condF rfl ?_;refine jA ?_
 refine AW.condF rfl ?_;refine jA ?_
 refine AW.condF rfl ?_;refine jA ?_
 refine AW.condF rfl ?_;refine jA ?_
 refine AW.condF rfl ?_;refine jA ?_
 refine AW.condT rfl ?_;refine jA ?_
 refine RG.opS rfl (op_cat rfl rfl rfl (by decide)) rfl ?_
 refine wH rfl ?_
 refine RG.callS rfl rfl rfl rfl rfl (d_number a hs.a.1 hs.a.2) rfl rfl ?_
 refine wH rfl ?_
 refine RG.opS rfl (op_cat rfl rfl rfl (by have:=Lib.itoa_length_le a hs.a.1 hs.a.2;show 5+_<=_;omega)) rfl ?_
 refine wH rfl ?_
 refine RG.callS rfl rfl rfl rfl (by simp [siC,cfgC,canonH,zeroSI,zeroC,h0]) (d_equalL ⟨5,a,b,⟨hi,lo⟩,w⟩ (canonH [97] ⟨5,a,b,⟨hi,lo⟩,w⟩) _ rfl) rfl rfl ?_
 refine wH rfl ?_;refine jA ?_
 refine AW.ret (retQA ty_ok rfl rfl rfl ?_)
 exact lawR_some (x:=(5,[116,119,105,110],[97])) (ws:=[[116,119,105,110],Lib.itoa a]) rfl rfl (join2 _ _) rfl
theorem line_k6 (a b:Int) (hi lo:UInt64) (w:Cfg) (hs:(SI.mk 6 a b ⟨hi,lo⟩ w).Ok):PDoes Tryz.prog 9 [.agg (siC ⟨6,a,b,⟨hi,lo⟩,w⟩)] (lawR ⟨6,a,b,⟨hi,lo⟩,w⟩):=by
 refine PDoes.of_bodyN Tryz.func9 rfl (by kernel_rfl) rfl rfl ?_
 have h0:=line_i.1
 refine jA ?_
 refine AW.condF rfl ?_;refine jA ?_
 refine AW.condT rfl ?_;refine jA ?_
 have ha:=Lib.itoa_length_le a hs.a.1 hs.a.2
 have hb:=Lib.itoa_length_le b hs.b.1 hs.b.2
 have hh:=hexL_len (putF hi 8++putF lo 8)
 rw [List.length_append,putF_len,putF_len] at hh
 refine RG.callS rfl rfl rfl rfl rfl (d_number a hs.a.1 hs.a.2) rfl rfl ?_
 refine wH rfl ?_
 refine RG.opS rfl (op_cat rfl rfl rfl (by show 7+_<=_;omega)) rfl ?_
 refine wH rfl ?_
 refine RG.opS rfl (op_cat rfl rfl rfl (by simp only [List.length_append,List.length_cons,List.length_nil];show _+1<=_;omega)) rfl ?_
 refine wH rfl ?_
 refine RG.callS rfl rfl rfl rfl rfl (d_number b hs.b.1 hs.b.2) rfl rfl ?_
 refine wH rfl ?_
 refine RG.opS rfl (op_cat rfl rfl rfl (by simp only [List.length_append,List.length_cons,List.length_nil];omega)) rfl ?_
 refine wH rfl ?_
 refine RG.opS rfl (op_cat rfl rfl rfl (by simp only [List.length_append,List.length_cons,List.length_nil];omega)) rfl ?_
 refine wH rfl ?_
 refine RG.callS rfl rfl rfl rfl rfl (d_Big hi) rfl rfl ?_
 refine wH rfl ?_
 refine RG.callS rfl rfl rfl rfl rfl (d_Big lo) rfl rfl ?_
 refine wH rfl ?_
 refine RG.opS rfl (op_cat rfl rfl rfl (by rw [putF_len,putF_len];decide)) rfl ?_
 refine wH rfl ?_
 refine RG.callS rfl rfl rfl rfl rfl (d_hexL (putF hi 8++putF lo 8) (by rw [List.length_append,putF_len,putF_len];decide)) rfl rfl ?_
 refine wH rfl ?_
 refine RG.opS rfl (op_cat rfl rfl rfl (by simp only [List.length_append,List.length_cons,List.length_nil];omega)) rfl ?_
 refine wH rfl ?_
 refine RG.callS rfl rfl rfl rfl (by simp [siC,cfgC,canonH,zeroSI,zeroC,h0]) (d_equalL ⟨6,a,b,⟨hi,lo⟩,w⟩ (canonH [97,98,104] ⟨6,a,b,⟨hi,lo⟩,w⟩) _ rfl) rfl rfl ?_
 refine wH rfl ?_;refine jA ?_
 refine AW.ret (retQA ty_ok rfl rfl rfl ?_)
 trace_state
 refine lawR_some (x:=(6,[112,97,99,107,101,116],[97,98,104])) (ws:=[[112,97,99,107,101,116],Lib.itoa a,Lib.itoa b,wideL hi.toNat++wideL lo.toNat]) rfl rfl ?_ rfl
 rw [join4,wide_hex,wide_hex,hexL_app]
 rfl
theorem line_k7 (a b:Int) (hi lo:UInt64) (w:Cfg) (hs:(SI.mk 7 a b ⟨hi,lo⟩ w).Ok):PDoes Tryz.prog 9 [.agg (siC ⟨7,a,b,⟨hi,lo⟩,w⟩)] (lawR ⟨7,a,b,⟨hi,lo⟩,w⟩):=by
 refine PDoes.of_bodyN Tryz.func9 rfl (by kernel_rfl) rfl rfl ?_
 have h0:=line_i.1
 refine jA ?_
 refine AW.condF rfl ?_;refine jA ?_
 refine AW.condF rfl ?_;refine jA ?_
 refine AW.condF rfl ?_;refine jA ?_
 refine AW.condF rfl ?_;refine jA ?_
 refine AW.condF rfl ?_;refine jA ?_
 refine AW.condF rfl ?_;refine jA ?_
 refine AW.condF rfl ?_;refine jA ?_
 refine AW.condT rfl ?_;refine jA ?_
 refine RG.opS rfl (op_cat rfl rfl rfl (by decide)) rfl ?_
 refine wH rfl ?_
 refine RG.callS rfl rfl rfl rfl rfl (d_number a hs.a.1 hs.a.2) rfl rfl ?_
 refine wH rfl ?_
 refine RG.opS rfl (op_cat rfl rfl rfl (by have:=Lib.itoa_length_le a hs.a.1 hs.a.2;show 5+_<=_;omega)) rfl ?_
 refine wH rfl ?_
 refine RG.callS rfl rfl rfl rfl (by simp [siC,cfgC,canonH,zeroSI,zeroC,h0]) (d_equalL ⟨7,a,b,⟨hi,lo⟩,w⟩ (canonH [97] ⟨7,a,b,⟨hi,lo⟩,w⟩) _ rfl) rfl rfl ?_
 refine wH rfl ?_;refine jA ?_
 refine AW.ret (retQA ty_ok rfl rfl rfl ?_)
 exact lawR_some (x:=(7,[109,111,118,101],[97])) (ws:=[[109,111,118,101],Lib.itoa a]) rfl rfl (join2 _ _) rfl
theorem line_k8 (a b:Int) (hi lo:UInt64) (w:Cfg) (hs:(SI.mk 8 a b ⟨hi,lo⟩ w).Ok):PDoes Tryz.prog 9 [.agg (siC ⟨8,a,b,⟨hi,lo⟩,w⟩)] (lawR ⟨8,a,b,⟨hi,lo⟩,w⟩):=by
 refine PDoes.of_bodyN Tryz.func9 rfl (by kernel_rfl) rfl rfl ?_
 have h0:=line_i.1
 refine jA ?_
 refine AW.condF rfl ?_;refine jA ?_
 refine AW.condF rfl ?_;refine jA ?_
 refine AW.condF rfl ?_;refine jA ?_
 refine AW.condF rfl ?_;refine jA ?_
 refine AW.condF rfl ?_;refine jA ?_
 refine AW.condF rfl ?_;refine jA ?_
 refine AW.condF rfl ?_;refine jA ?_
 refine AW.condF rfl ?_;refine jA ?_
 refine AW.condT rfl ?_;refine jA ?_
 refine RG.opS rfl (op_cat rfl rfl rfl (by decide)) rfl ?_
 refine wH rfl ?_
 refine RG.callS rfl rfl rfl rfl rfl (d_number a hs.a.1 hs.a.2) rfl rfl ?_
 refine wH rfl ?_
 refine RG.opS rfl (op_cat rfl rfl rfl (by have:=Lib.itoa_length_le a hs.a.1 hs.a.2;show 6+_<=_;omega)) rfl ?_
 refine wH rfl ?_
 refine RG.callS rfl rfl rfl rfl (by simp [siC,cfgC,canonH,zeroSI,zeroC,h0]) (d_equalL ⟨8,a,b,⟨hi,lo⟩,w⟩ (canonH [97] ⟨8,a,b,⟨hi,lo⟩,w⟩) _ rfl) rfl rfl ?_
 refine wH rfl ?_;refine jA ?_
 refine AW.ret (retQA ty_ok rfl rfl rfl ?_)
 exact lawR_some (x:=(8,[99,114,97,115,104],[97])) (ws:=[[99,114,97,115,104],Lib.itoa a]) rfl rfl (join2 _ _) rfl
theorem line_k9 (a b:Int) (hi lo:UInt64) (w:Cfg) (hs:(SI.mk 9 a b ⟨hi,lo⟩ w).Ok):PDoes Tryz.prog 9 [.agg (siC ⟨9,a,b,⟨hi,lo⟩,w⟩)] (lawR ⟨9,a,b,⟨hi,lo⟩,w⟩):=by
 refine PDoes.of_bodyN Tryz.func9 rfl (by kernel_rfl) rfl rfl ?_
 have h0:=line_i.1
 refine jA ?_
 refine AW.condF rfl ?_;refine jA ?_
 refine AW.condF rfl ?_;refine jA ?_
 refine AW.condF rfl ?_;refine jA ?_
 refine AW.condT rfl ?_;refine jA ?_
 refine RG.callS rfl rfl rfl rfl (by simp [siC,cfgC,canonH,zeroSI,zeroC,h0]) (d_equalL ⟨9,a,b,⟨hi,lo⟩,w⟩ (canonH [] ⟨9,a,b,⟨hi,lo⟩,w⟩) _ rfl) rfl rfl ?_
 refine wH rfl ?_;refine jA ?_
 refine AW.ret (retQA ty_ok rfl rfl rfl ?_)
 exact lawR_some (x:=(9,[115,116,97,114,116],[])) (ws:=[[115,116,97,114,116]]) rfl rfl rfl rfl
theorem line_k10 (a b:Int) (hi lo:UInt64) (w:Cfg) (hs:(SI.mk 10 a b ⟨hi,lo⟩ w).Ok):PDoes Tryz.prog 9 [.agg (siC ⟨10,a,b,⟨hi,lo⟩,w⟩)] (lawR ⟨10,a,b,⟨hi,lo⟩,w⟩):=by
 refine PDoes.of_bodyN Tryz.func9 rfl (by kernel_rfl) rfl rfl ?_
 have h0:=line_i.1
 refine jA ?_
 refine AW.condF rfl ?_;refine jA ?_
 refine AW.condF rfl ?_;refine jA ?_
 refine AW.condF rfl ?_;refine jA ?_
 refine AW.condF rfl ?_;refine jA ?_
 refine AW.condF rfl ?_;refine jA ?_
 refine AW.condF rfl ?_;refine jA ?_
 refine AW.condF rfl ?_;refine jA ?_
 refine AW.condF rfl ?_;refine jA ?_
 refine AW.condF rfl ?_;refine jA ?_
 refine AW.condT rfl ?_;refine jA ?_
 refine RG.opS rfl (op_cat rfl rfl rfl (by decide)) rfl ?_
 refine wH rfl ?_
 refine RG.callS rfl rfl rfl rfl rfl (d_number a hs.a.1 hs.a.2) rfl rfl ?_
 refine wH rfl ?_
 refine RG.opS rfl (op_cat rfl rfl rfl (by have:=Lib.itoa_length_le a hs.a.1 hs.a.2;show 5+_<=_;omega)) rfl ?_
 refine wH rfl ?_
 refine RG.callS rfl rfl rfl rfl (by simp [siC,cfgC,canonH,zeroSI,zeroC,h0]) (d_equalL ⟨10,a,b,⟨hi,lo⟩,w⟩ (canonH [97] ⟨10,a,b,⟨hi,lo⟩,w⟩) _ rfl) rfl rfl ?_
 refine wH rfl ?_;refine jA ?_
 refine AW.ret (retQA ty_ok rfl rfl rfl ?_)
 exact lawR_some (x:=(10,[102,117,115,101],[97])) (ws:=[[102,117,115,101],Lib.itoa a]) rfl rfl (join2 _ _) rfl
theorem look_none {k:Int} (h:∀x∈kindsL,k≠x.1):lookK k kindsL=none:=by
 cases hx:lookK k kindsL with
 | none=>rfl
 | some x=>exact absurd (look_mem hx).2 (h x (look_mem hx).1)
theorem line_kx (k a b:Int) (hi lo:UInt64) (w:Cfg) (h:∀x∈kindsL,k≠x.1):PDoes Tryz.prog 9 [.agg (siC ⟨k,a,b,⟨hi,lo⟩,w⟩)] (lawR ⟨k,a,b,⟨hi,lo⟩,w⟩):=by
 refine PDoes.of_bodyN Tryz.func9 rfl (by kernel_rfl) rfl rfl ?_
 have q:∀m:Int,(∃x∈kindsL,x.1=m)->decide (k=m)=false:=fun m ⟨x,hx,e⟩=>decide_eq_false (e ▸ h x hx)
 refine jA ?_
 refine AW.cond rfl (fun hc=>absurd (hc.symm.trans (q 1 ⟨kindsL[0],by decide,rfl⟩)) (by decide)) (fun _=>?_)
 refine jB ?_;refine jA ?_
 refine AW.cond rfl (fun hc=>absurd (hc.symm.trans (q 6 ⟨kindsL[5],by decide,rfl⟩)) (by decide)) (fun _=>?_)
 refine jB ?_;refine jA ?_
 refine AW.cond rfl (fun hc=>absurd (hc.symm.trans (q 2 ⟨kindsL[1],by decide,rfl⟩)) (by decide)) (fun _=>?_)
 refine jB ?_;refine jA ?_
 refine AW.cond rfl (fun hc=>absurd (hc.symm.trans (q 9 ⟨kindsL[8],by decide,rfl⟩)) (by decide)) (fun _=>?_)
 refine jB ?_;refine jA ?_
 refine AW.cond rfl (fun hc=>absurd (hc.symm.trans (q 3 ⟨kindsL[2],by decide,rfl⟩)) (by decide)) (fun _=>?_)
 refine jB ?_;refine jA ?_
 refine AW.cond rfl (fun hc=>absurd (hc.symm.trans (q 4 ⟨kindsL[3],by decide,rfl⟩)) (by decide)) (fun _=>?_)
 refine jB ?_;refine jA ?_
 refine AW.cond rfl (fun hc=>absurd (hc.symm.trans (q 5 ⟨kindsL[4],by decide,rfl⟩)) (by decide)) (fun _=>?_)
 refine jB ?_;refine jA ?_
 refine AW.cond rfl (fun hc=>absurd (hc.symm.trans (q 7 ⟨kindsL[6],by decide,rfl⟩)) (by decide)) (fun _=>?_)
 refine jB ?_;refine jA ?_
 refine AW.cond rfl (fun hc=>absurd (hc.symm.trans (q 8 ⟨kindsL[7],by decide,rfl⟩)) (by decide)) (fun _=>?_)
 refine jB ?_;refine jA ?_
 refine AW.cond rfl (fun hc=>absurd (hc.symm.trans (q 10 ⟨kindsL[9],by decide,rfl⟩)) (by decide)) (fun _=>?_)
 refine jB ?_;refine jA ?_
 refine AW.ret (retQA ty_ok rfl rfl rfl ?_)
 exact lawR_none (look_none h)
theorem d_lineL (s:SI) (hs:s.Ok):PDoes Tryz.prog 9 [.agg (siC s)] (lawR s):=by
  obtain ⟨k,a,b,⟨hi,lo⟩,w⟩:=s
  by_cases h:∀x∈kindsL,k≠x.1
  · exact line_kx k a b hi lo w h
  · have h':∃x∈kindsL,k=x.1:=by simpa using h
    obtain ⟨x,hx,rfl⟩:=h'
    simp only [kindsL,List.mem_cons,List.not_mem_nil,or_false] at hx
    rcases hx with rfl | rfl | rfl | rfl | rfl | rfl | rfl | rfl | rfl | rfl
    · exact line_k1 a b hi lo w hs
    · exact line_k2 a b hi lo w hs
    · exact line_k3 a b hi lo w hs
    · exact line_k4 a b hi lo w hs
    · exact line_k5 a b hi lo w hs
    · exact line_k6 a b hi lo w hs
    · exact line_k7 a b hi lo w hs
    · exact line_k8 a b hi lo w hs
    · exact line_k9 a b hi lo w hs
    · exact line_k10 a b hi lo w hs
end Go.Proofs.YthgbdoofchknhaaGreatDoor.Sm
end
section
namespace Go.Proofs.YthgbdoofchknhaaGreatDoor.Sm
open Go.RowKit
theorem line_of {s:SI} (hs:s.Ok) {x:KE} (hx:lookK s.kind kindsL=some x) {ws:List (List UInt8)} (hw:wordsW s=some ws) (hc:s=canonH x.2.2 s) {t:List UInt8} (ht:Lib.join ws [32]=t):lineW s=some t:=by
 rw [line_law hs,lawL,hx]
 simp only [hw]
 rw [if_pos (decide_eq_true hc),ht]
theorem dec_small (n:Nat) (h:n<10):Lib.decDigits n=[UInt8.ofNat (48+n)]:=by
 rw [Lib.decDigits,dif_pos h]
theorem itoa_small (n:Nat) (h:n<10):Lib.itoa (n:Int)=[UInt8.ofNat (48+n)]:=by
 rw [Lib.itoa,if_neg (by omega)]
 exact dec_small n h
theorem ok_small (k a b:Int) (h:Hd) (c:Cfg) (ha:0<=a/\a<=9) (hb:0<=b/\b<=9):(SI.mk k a b h c).Ok:=⟨⟨by show _<=a;omega,by show a<=_;omega⟩,⟨by show _<=b;omega,by show b<=_;omega⟩⟩
def packT:List UInt8:=[112,97,99,107,101,116,32,49,32,50,32,48,48,48,48,48,48,48,48,48,48,48,48,48,48,48,97,48,48,48,48,48,48,48,48,48,48,48,48,48,48,102,102]
def moveT:List UInt8:=[109,111,118,101,32,51]
def textT:List UInt8:=[116,105,99,107,10,100,114,111,112,32,50,10]
def packS:SI:=⟨6,1,2,⟨10,255⟩,zeroC⟩
def moveS:SI:=⟨7,3,0,⟨0,0⟩,zeroC⟩
def tickS:SI:=⟨2,0,0,⟨0,0⟩,zeroC⟩
def dropS:SI:=⟨4,2,0,⟨0,0⟩,zeroC⟩
theorem ok_pack:packS.Ok:=ok_small 6 1 2 ⟨10,255⟩ zeroC (by decide) (by decide)
theorem line_pack:lineW packS=some packT :=
 line_of ok_pack (x:=(6,[112,97,99,107,101,116],[97,98,104])) rfl (ws:=[[112,97,99,107,101,116],Lib.itoa ((1:Nat):Int),Lib.itoa ((2:Nat):Int),wideL 10++wideL 255]) rfl rfl (by
  rw [itoa_small 1 (by decide),itoa_small 2 (by decide)]
  rfl)
theorem ok_move:moveS.Ok:=ok_small 7 3 0 ⟨0,0⟩ zeroC (by decide) (by decide)
theorem line_move:lineW moveS=some moveT :=
 line_of ok_move (x:=(7,[109,111,118,101],[97])) rfl (ws:=[[109,111,118,101],Lib.itoa ((3:Nat):Int)]) rfl rfl (by
  rw [itoa_small 3 (by decide)]
  rfl)
theorem ok_tick:tickS.Ok:=ok_small 2 0 0 ⟨0,0⟩ zeroC (by decide) (by decide)
theorem line_tick:lineW tickS=some [116,105,99,107] :=
 line_of ok_tick (x:=(2,[116,105,99,107],[])) rfl (ws:=[[116,105,99,107]]) rfl rfl rfl
theorem ok_drop:dropS.Ok:=ok_small 4 2 0 ⟨0,0⟩ zeroC (by decide) (by decide)
theorem line_drop:lineW dropS=some [100,114,111,112,32,50] :=
 line_of ok_drop (x:=(4,[100,114,111,112],[97])) rfl (ws:=[[100,114,111,112],Lib.itoa ((2:Nat):Int)]) rfl rfl (by
  rw [itoa_small 2 (by decide)]
  rfl)
theorem step_pack:stepL packT=some packS:=step_line ok_pack line_pack
theorem cut_a:Lib.cut textT [10]=([116,105,99,107],[100,114,111,112,32,50,10],true):=by decide
theorem cut_b:Lib.cut [100,114,111,112,32,50,10] [10]=([100,114,111,112,32,50],[],true):=by decide
theorem steps_text:stepsL textT = .inl [tickS,dropS]:=by
 have h1:stepL [116,105,99,107]=some tickS:=step_line ok_tick line_tick
 have h2:stepL [100,114,111,112,32,50]=some dropS:=step_line ok_drop line_drop
 show stepsF (11+1) textT []=_
 rw [stepsF,if_neg (by decide),cut_a]
 simp only [h1]
 show stepsF (10+1) _ _=_
 rw [stepsF,if_neg (by decide),cut_b]
 simp only [h2]
 show stepsF (9+1) _ _=_
 rw [stepsF,if_pos rfl]
 rfl
end Go.Proofs.YthgbdoofchknhaaGreatDoor.Sm
end
section
namespace Go.Proofs.YthgbdoofchknhaaGreatDoor.Sm
open Go.RowKit
theorem d_awakeS:PDoes Tryz.prog 10 [] (.b true):=by
 refine PDoes.of_bodyN Tryz.func10 rfl (by kernel_rfl) rfl rfl ?_
 have h0:=line_i.1
 have h1:=d_Step packT (by decide)
 rw [step_pack] at h1
 have h2:=d_Line moveS ok_move
 rw [line_move] at h2
 have h3:=d_Steps textT (by decide)
 rw [steps_text] at h3
 refine jA ?_
 refine RG.callMS rfl rfl rfl rfl rfl rfl h1 rfl ?_
 refine wH rfl ?_;refine jA ?_
 refine RG.callS rfl rfl rfl rfl (by simp [siC,cfgC,moveS,zeroC,h0]) h2 rfl rfl ?_
 refine wH rfl ?_;refine jA ?_
 refine RG.callMS rfl rfl rfl rfl rfl rfl h3 rfl ?_
 refine wH rfl ?_;refine jA ?_
 refine RG.opS rfl (op_eqG rfl ty_ok (by kernel_rfl) (by kernel_rfl) rfl rfl ((eq_Hd packS.head ⟨10,255⟩).trans (congrArg some (decide_eq_true rfl))) rfl) rfl ?_
 refine wH rfl ?_;refine jA ?_
 refine AW.ret (retQA ty_ok rfl rfl rfl ?_)
 rfl
theorem ScriptLines_d (s:SI) (hs:s.Ok):PDoes Tryz.prog 3 [.agg (siC s)] (.b true):=by
 refine PDoes.of_bodyN Tryz.func3 rfl (by kernel_rfl) rfl rfl ?_
 have h1:=d_Line s hs
 have h2:=d_lineL s hs
 rw [line_law hs] at h1
 unfold lawR at h2
 generalize lawL s=r at h1 h2
 obtain ⟨t,q⟩:=r
 simp only at h1 h2
 cases q with
 | false =>
  rw [if_neg (by decide)] at h1
  refine jA ?_
  refine RG.callS rfl rfl rfl rfl rfl h1 rfl rfl ?_;refine wH rfl ?_;refine jA ?_
  refine RG.callS rfl rfl rfl rfl rfl h2 rfl rfl ?_;refine wH rfl ?_;refine jA ?_
  refine AW.condT rfl ?_;refine jA ?_
  refine RG.callS rfl rfl rfl rfl rfl d_awakeS rfl rfl ?_;refine wH rfl ?_;refine jA ?_
  refine AW.ret (retQA ty_ok rfl rfl rfl ?_)
  rfl
 | true =>
  rw [if_pos rfl] at h1
  refine jA ?_
  refine RG.callS rfl rfl rfl rfl rfl h1 rfl rfl ?_;refine wH rfl ?_;refine jA ?_
  refine RG.callS rfl rfl rfl rfl rfl h2 rfl rfl ?_;refine wH rfl ?_;refine jA ?_
  refine AW.condF rfl ?_;refine jA ?_
  refine RG.callS rfl rfl rfl rfl rfl d_awakeS rfl rfl ?_;refine wH rfl ?_;refine jA ?_
  refine AW.ret (retQA ty_ok rfl rfl rfl ?_)
  exact congrArg AV.b (decide_eq_true rfl)
end Go.Proofs.YthgbdoofchknhaaGreatDoor.Sm
end
section
namespace Go.Proofs.YthgbdoofchknhaaGreatDoor.Sm
open Go.RowKit Go.WideShapes Go.ChangeShapes Go.Deep
theorem ReadA.i64 {P:Program} {t:TypeId} (ht:P.underlying t=some (.int .i64)):ReadA P t 1 (fun x:UInt64=>[.i .i64 (i64of x)]) :=
  ⟨fun _=>rfl,fun _ y hy=>by obtain rfl:=List.mem_singleton.1 hy;rfl,fun H e w base spare held fuel cs x hx=>by
    obtain ⟨n,rfl,_,hw⟩:=DataW.trod_int ht hx
    refine ⟨UInt64.ofInt n,?_⟩
    have hn:=wf_i64 hw
    rw [i64of_ofInt n hn.1 hn.2]
    exact .single (.i _ _) rfl⟩
theorem rd_int:ReadA Tryz.prog 3 1 (fun x:UInt64=>[.i .i64 (i64of x)]):=.i64 Tryz.underlying3
theorem rd_u64:ReadA Tryz.prog 22 1 (fun x:UInt64=>[.u x]):=.u64 Tryz.underlying22
def encHd (x:Hd):List AV:=[.u x.hi,.u x.lo]
def encCb (x:Cb):List AV:=[.u x.value.hi,.u x.value.lo,.u x.care.hi,.u x.care.lo]
def encAc (x:Ac):List AV:=[.i .i64 (i64of x.kind),.i .i64 (i64of x.port),.i .i64 (i64of x.table),.u x.set.value.hi,.u x.set.value.lo,.u x.set.care.hi,.u x.set.care.lo]
theorem rd_Hd:ReadA Tryz.prog 24 2 (α:=Hd) encHd:=by
 refine ⟨fun _=>rfl,fun a=>List.all_eq_true.1 rfl,fun H e w base spare held fuel cs x hx=>?_⟩
 obtain ⟨m,hl,hp⟩:=struct_part Tryz.underlying24 hx
 have hl:cs.length=2:=hl.trans (by kernel_rfl)
 obtain ⟨a0,h0⟩:=rd_u64.part (hp 0 22 0 1 rfl (by kernel_rfl))
 obtain ⟨a1,h1⟩:=rd_u64.part (hp 1 22 1 1 rfl (by kernel_rfl))
 refine ⟨⟨a0,a1⟩,PWs.all ?_⟩
 exact h0.join rfl (h1.join rfl (PWs.nil hl))
theorem rd_Cb:ReadA Tryz.prog 112 4 (α:=Cb) encCb:=by
 refine ⟨fun _=>rfl,fun a=>List.all_eq_true.1 rfl,fun H e w base spare held fuel cs x hx=>?_⟩
 obtain ⟨m,hl,hp⟩:=struct_part Tryz.underlying112 hx
 have hl:cs.length=4:=hl.trans (by kernel_rfl)
 obtain ⟨a0,h0⟩:=rd_Hd.part (hp 0 24 0 2 rfl (by kernel_rfl))
 obtain ⟨a1,h1⟩:=rd_Hd.part (hp 1 24 2 2 rfl (by kernel_rfl))
 refine ⟨⟨a0,a1⟩,PWs.all ?_⟩
 exact h0.join rfl (h1.join rfl (PWs.nil hl))
theorem rd_Ac:ReadA Tryz.prog 114 7 (α:=Ac) encAc:=by
 refine ⟨fun _=>rfl,fun a=>List.all_eq_true.1 rfl,fun H e w base spare held fuel cs x hx=>?_⟩
 obtain ⟨m,hl,hp⟩:=struct_part Tryz.underlying114 hx
 have hl:cs.length=7:=hl.trans (by kernel_rfl)
 obtain ⟨a0,h0⟩:=rd_int.part (hp 0 3 0 1 rfl (by kernel_rfl))
 obtain ⟨a1,h1⟩:=rd_int.part (hp 1 3 1 1 rfl (by kernel_rfl))
 obtain ⟨a2,h2⟩:=rd_int.part (hp 2 3 2 1 rfl (by kernel_rfl))
 obtain ⟨a3,h3⟩:=rd_Cb.part (hp 3 112 3 4 rfl (by kernel_rfl))
 refine ⟨⟨a0,a1,a2,a3⟩,PWs.all ?_⟩
 exact h0.join rfl (h1.join rfl (h2.join rfl (h3.join rfl (PWs.nil hl))))
theorem rd_Rl:ReadA Tryz.prog 116 12 (α:=Rl) encRl:=by
 refine ⟨fun _=>rfl,fun a=>List.all_eq_true.1 rfl,fun H e w base spare held fuel cs x hx=>?_⟩
 obtain ⟨m,hl,hp⟩:=struct_part Tryz.underlying116 hx
 have hl:cs.length=12:=hl.trans (by kernel_rfl)
 obtain ⟨a0,h0⟩:=rd_int.part (hp 0 3 0 1 rfl (by kernel_rfl))
 obtain ⟨a1,h1⟩:=rd_Cb.part (hp 1 112 1 4 rfl (by kernel_rfl))
 obtain ⟨a2,h2⟩:=rd_Ac.part (hp 2 114 5 7 rfl (by kernel_rfl))
 refine ⟨⟨a0,a1,a2⟩,PWs.all ?_⟩
 exact h0.join rfl (h1.join rfl (h2.join rfl (PWs.nil hl)))
theorem rd_Pt:ReadA Tryz.prog 107 5 (α:=Pt) encPt:=by
 refine ⟨fun _=>rfl,fun a=>List.all_eq_true.1 rfl,fun H e w base spare held fuel cs x hx=>?_⟩
 obtain ⟨m,hl,hp⟩:=struct_part Tryz.underlying107 hx
 have hl:cs.length=5:=hl.trans (by kernel_rfl)
 obtain ⟨a0,h0⟩:=rd_int.part (hp 0 3 0 1 rfl (by kernel_rfl))
 obtain ⟨a1,h1⟩:=rd_int.part (hp 1 3 1 1 rfl (by kernel_rfl))
 obtain ⟨a2,h2⟩:=rd_int.part (hp 2 3 2 1 rfl (by kernel_rfl))
 obtain ⟨a3,h3⟩:=rd_int.part (hp 3 3 3 1 rfl (by kernel_rfl))
 obtain ⟨a4,h4⟩:=rd_int.part (hp 4 3 4 1 rfl (by kernel_rfl))
 refine ⟨⟨a0,a1,a2,a3,a4⟩,PWs.all ?_⟩
 exact h0.join rfl (h1.join rfl (h2.join rfl (h3.join rfl (h4.join rfl (PWs.nil hl)))))
theorem rd_Wy:ReadA Tryz.prog 98 3 (α:=Wy) encWy:=by
 refine ⟨fun _=>rfl,fun a=>List.all_eq_true.1 rfl,fun H e w base spare held fuel cs x hx=>?_⟩
 obtain ⟨m,hl,hp⟩:=struct_part Tryz.underlying98 hx
 have hl:cs.length=3:=hl.trans (by kernel_rfl)
 obtain ⟨a0,h0⟩:=rd_int.part (hp 0 3 0 1 rfl (by kernel_rfl))
 obtain ⟨a1,h1⟩:=rd_int.part (hp 1 3 1 1 rfl (by kernel_rfl))
 obtain ⟨a2,h2⟩:=rd_int.part (hp 2 3 2 1 rfl (by kernel_rfl))
 refine ⟨⟨a0,a1,a2⟩,PWs.all ?_⟩
 exact h0.join rfl (h1.join rfl (h2.join rfl (PWs.nil hl)))
theorem rd_Pr:ReadA Tryz.prog 96 2 (α:=Pr) encPr:=by
 refine ⟨fun _=>rfl,fun a=>List.all_eq_true.1 rfl,fun H e w base spare held fuel cs x hx=>?_⟩
 obtain ⟨m,hl,hp⟩:=array_part Tryz.underlying96 hx
 have hl:cs.length=2:=hl.trans (by kernel_rfl)
 obtain ⟨a0,h0⟩:=rd_int.part (hp 0 0 1 (by omega) (by kernel_rfl) rfl)
 obtain ⟨a1,h1⟩:=rd_int.part (hp 1 1 1 (by omega) (by kernel_rfl) rfl)
 exact ⟨⟨a0,a1⟩,PWs.all (h0.join rfl (h1.join rfl (PWs.nil hl)))⟩
theorem rd_Pts:ReadA Tryz.prog 128 1 (fun l:List (Pt)=>[.sl (l.map encPt)]):=rd_Pt.slice Tryz.underlying128 (by kernel_rfl) (by decide)
theorem rd_Ptss:ReadA Tryz.prog 25 1 (fun l:List (List Pt)=>[.sl (l.map encPts)]):=rd_Pts.slice Tryz.underlying25 (by kernel_rfl) (by decide)
theorem rd_Prs:ReadA Tryz.prog 28 1 (fun l:List (Pr)=>[.sl (l.map encPr)]):=rd_Pr.slice Tryz.underlying28 (by kernel_rfl) (by decide)
theorem rd_Wys:ReadA Tryz.prog 29 1 (fun l:List (Wy)=>[.sl (l.map encWy)]):=rd_Wy.slice Tryz.underlying29 (by kernel_rfl) (by decide)
theorem rd_Rls:ReadA Tryz.prog 139 1 (fun l:List (Rl)=>[.sl (l.map encRl)]):=rd_Rl.slice Tryz.underlying139 (by kernel_rfl) (by decide)
theorem rd_Tab:ReadA Tryz.prog 100 1 (fun l:List (List Rl)=>[.sl (l.map encRls)]):=rd_Rls.slice Tryz.underlying100 (by kernel_rfl) (by decide)
theorem rd_Tabs:ReadA Tryz.prog 32 1 (fun l:List (List (List Rl))=>[.sl (l.map encTab)]):=rd_Tab.slice Tryz.underlying32 (by kernel_rfl) (by decide)
structure Pol where
 tenants:UInt64
 peers:List Pr
 ways:List Wy
def encPol (x:Pol):List AV:=[.i .i64 (i64of x.tenants),.sl (x.peers.map encPr),.sl (x.ways.map encWy)]
theorem rd_Topo:ReadA Tryz.prog 27 1 (α:=List (List Pt)) (fun x=>[.sl (x.map encPts)]):=by
 refine ⟨fun _=>rfl,fun a=>List.all_eq_true.1 rfl,fun H e w base spare held fuel cs x hx=>?_⟩
 obtain ⟨m,hl,hp⟩:=struct_part Tryz.underlying27 hx
 have hl:cs.length=1:=hl.trans (by kernel_rfl)
 obtain ⟨a0,h0⟩:=rd_Ptss.part (hp 0 25 0 1 rfl (by kernel_rfl))
 refine ⟨a0,PWs.all ?_⟩
 exact h0.join rfl (PWs.nil hl)
theorem rd_Pol:ReadA Tryz.prog 31 3 (α:=Pol) encPol:=by
 refine ⟨fun _=>rfl,fun a=>List.all_eq_true.1 rfl,fun H e w base spare held fuel cs x hx=>?_⟩
 obtain ⟨m,hl,hp⟩:=struct_part Tryz.underlying31 hx
 have hl:cs.length=3:=hl.trans (by kernel_rfl)
 obtain ⟨a0,h0⟩:=rd_int.part (hp 0 3 0 1 rfl (by kernel_rfl))
 obtain ⟨a1,h1⟩:=rd_Prs.part (hp 1 28 1 1 rfl (by kernel_rfl))
 obtain ⟨a2,h2⟩:=rd_Wys.part (hp 2 29 2 1 rfl (by kernel_rfl))
 refine ⟨⟨a0,a1,a2⟩,PWs.all ?_⟩
 exact h0.join rfl (h1.join rfl (h2.join rfl (PWs.nil hl)))
theorem rd_Cfg:ReadA Tryz.prog 34 5 (α:=Cfg) cfgC:=by
 refine ⟨fun _=>rfl,fun a=>List.all_eq_true.1 rfl,fun H e w base spare held fuel cs x hx=>?_⟩
 obtain ⟨m,hl,hp⟩:=struct_part Tryz.underlying34 hx
 have hl:cs.length=5:=hl.trans (by kernel_rfl)
 obtain ⟨a0,h0⟩:=rd_Topo.part (hp 0 27 0 1 rfl (by kernel_rfl))
 obtain ⟨a1,h1⟩:=rd_Pol.part (hp 1 31 1 3 rfl (by kernel_rfl))
 obtain ⟨a2,h2⟩:=rd_Tabs.part (hp 2 32 4 1 rfl (by kernel_rfl))
 refine ⟨⟨a0,a1.tenants,a1.peers,a1.ways,a2⟩,PWs.all ?_⟩
 exact h0.join rfl (h1.join rfl (h2.join rfl (PWs.nil hl)))
structure St0 where
 kind:UInt64
 a:UInt64
 b:UInt64
 head:Hd
 want:Cfg
def St0.si (s:St0):SI:=⟨i64of s.kind,i64of s.a,i64of s.b,s.head,s.want⟩
theorem i64of_rng (x:UInt64):-9223372036854775808<=i64of x/\i64of x<=9223372036854775807:=by
 have:=x.toNat_lt
 unfold i64of wrap64
 omega
theorem St0.ok (s:St0):s.si.Ok:=⟨i64of_rng _,i64of_rng _⟩
theorem rd_St:ReadA Tryz.prog 36 10 (α:=St0) (fun s=>siC s.si):=by
 refine ⟨fun _=>rfl,fun a=>List.all_eq_true.1 rfl,fun H e w base spare held fuel cs x hx=>?_⟩
 obtain ⟨m,hl,hp⟩:=struct_part Tryz.underlying36 hx
 have hl:cs.length=10:=hl.trans (by kernel_rfl)
 obtain ⟨a0,h0⟩:=rd_int.part (hp 0 3 0 1 rfl (by kernel_rfl))
 obtain ⟨a1,h1⟩:=rd_int.part (hp 1 3 1 1 rfl (by kernel_rfl))
 obtain ⟨a2,h2⟩:=rd_int.part (hp 2 3 2 1 rfl (by kernel_rfl))
 obtain ⟨a3,h3⟩:=rd_Hd.part (hp 3 24 3 2 rfl (by kernel_rfl))
 obtain ⟨a4,h4⟩:=rd_Cfg.part (hp 4 34 5 5 rfl (by kernel_rfl))
 refine ⟨⟨a0,a1,a2,a3,a4⟩,PWs.all ?_⟩
 exact h0.join rfl (h1.join rfl (h2.join rfl (h3.join rfl (h4.join rfl (PWs.nil hl)))))
theorem rd_Sts:ReadA Tryz.prog 48 1 (fun l:List St0=>[.sl (l.map fun s=>siC s.si)]):=rd_St.slice Tryz.underlying48 (by kernel_rfl) (by decide)
theorem rd_str:ReadA Tryz.prog 9 1 (fun x:List UInt8=>[.s x]):=.str Tryz.underlying9
end Go.Proofs.YthgbdoofchknhaaGreatDoor.Sm
end
section
namespace Go.Proofs.YthgbdoofchknhaaGreatDoor.clo
open Go.ChangeShapes Go.WideShapes Go.ChangeAt Go.RowKit Go.Proofs.YthgbdoofchknhaaGreatDoor.Sm
theorem own:ownKnob Tryz.prog.godebug=none:=by kernel_rfl
theorem laidOut:laidOutB Tryz.prog=true:=by kernel_rfl
theorem star : "*" ++ "errors.errorString" = "*errors.errorString" := by decide
theorem row_es (u : TypeId) (h : Tryz.prog.typeName? 3 u = some "*errors.errorString") : u = 229 :=
 typeName_ptr_named (nm := "errors.errorString") (by rw [star]; kernel_rfl) (by kernel_rfl) (by decide) u (by rw [star]; exact h)
theorem cell_of_var {P:Program} {W:World} {n:String} {g:Nat} {te:TypeId} {a:Addr} (hg:P.globalNamed n=some g) (h:W.var? P n=some #[.iface te (.pointer (some a))]):∃ev,W.cell? ⟨g,0,none⟩=some ev/\(ev = .nilIface\/∃te pe,ev = .iface te pe) :=
 ⟨_,World.var?_cell hg h 0,.inr ⟨_,_,rfl⟩⟩
theorem heap_lt {w:World} (h:w.ShapedOpen Tryz.prog) (g:Nat) (hg:g<8):g<w.heap.size:=by
 have key:∀g:Fin 8,g.val<Tryz.prog.globals.size/\(((begin Tryz.prog (fun _ _=>0) default).world.heap[g.val]?).bind Obj.row?).isSome=true:=of_decide_eq_true (by kernel_rfl)
 obtain ⟨h1,h2⟩:=key ⟨g,hg⟩
 obtain ⟨⟨zero,t⟩,h3⟩:=Option.isSome_iff_exists.1 h2
 obtain ⟨cs,hh,_⟩:=h.1 g zero t h1 h3
 exact (Array.getElem?_eq_some_iff.1 hh).1
def laidOf : List (String × DataW Unit) := [("math/bits.deBruijn32tab", Rows.laid_math_bits_deBruijn32tab), ("math/bits.deBruijn64tab", Rows.laid_math_bits_deBruijn64tab), ("internal/strconv.uint64pow10", Rows.laid_internal_strconv_uint64pow10), ("unicode/utf8.acceptRanges", Rows.laid_unicode_utf8_acceptRanges), ("strconv.ErrRange", Rows.laid_strconv_ErrRange), ("strconv.ErrSyntax", Rows.laid_strconv_ErrSyntax), ("unicode/utf8.first", Rows.laid_unicode_utf8_first)]
theorem lay_of {W:World} (h:laidMetH Tryz.prog laidOf W) (hs:W.ShapedOpen Tryz.prog):LayL W (fun b=>b<W.heap.size):=by
  have h:laidMet Tryz.prog laidOf W:=h
  refine ⟨fun g hg=>heap_lt hs g hg,⟨?_,?_,?_,?_,?_⟩⟩
  · exact Go.Proofs.cell_of_shapedOpen_int (zero:=#[.int .i64 0]) (t:=3) hs (of_decide_eq_true (by kernel_rfl)) (by kernel_rfl) rfl (by kernel_rfl) (by kernel_rfl) Tryz.underlying3
  · exact Lib.tabIs_of_head (g:=1) (by kernel_rfl) (by kernel_rfl) Tryz.underlying209 Tryz.underlying22 (by kernel_rfl) (by kernel_rfl) h.tail.tail
  · exact Lib.tabIs_of_head (g:=7) (by kernel_rfl) (by kernel_rfl) Tryz.underlying237 Tryz.underlying5 (by kernel_rfl) (by kernel_rfl) h.tail
  · obtain ⟨a,s,hv,_⟩:=laid_sentinel (g:=2) h.tail.tail.tail.tail.tail (by kernel_rfl) (by kernel_rfl) Tryz.underlying80 row_es Tryz.underlying229 Tryz.underlying231 rfl rfl Tryz.underlying9 (by kernel_rfl) (by kernel_rfl)
    exact cell_of_var (by kernel_rfl) hv
  · obtain ⟨a,s,hv,_⟩:=laid_sentinel (g:=3) h.tail.tail.tail.tail (by kernel_rfl) (by kernel_rfl) Tryz.underlying80 row_es Tryz.underlying229 Tryz.underlying231 rfl rfl Tryz.underlying9 (by kernel_rfl) (by kernel_rfl)
    exact cell_of_var (by kernel_rfl) hv
def litC:DataW Unit->Value
 | .lit (.int k n)=>.int k n
 | _=>.nilIface
def aggL:DataW Unit->List (DataW Unit)
 | .agg l=>l
 | _=>[]
noncomputable def laidWorld (os:Os):World :=
 let N:=(World.settled Tryz.prog os).heap.size
 let w0:=World.holding Tryz.prog os ⟨#[.cells #[.string ⟨#[118,97,108,117,101,32,111,117,116,32,111,102,32,114,97,110,103,101]⟩] 231,.cells #[.string ⟨#[105,110,118,97,108,105,100,32,115,121,110,116,97,120]⟩] 231],#[],[]⟩
 let put (h:Array Obj) (g:Nat) (cs:List Value):Array Obj:=h.modify g fun
  | .cells _ t frozen=>.cells cs.toArray t frozen
  | o=>o
 let h1:=put w0.heap 3 [.iface 229 (.pointer (some ⟨N,0,none⟩))]
 let h2:=put h1 2 [.iface 229 (.pointer (some ⟨N+1,0,none⟩))]
 let h3:=put h2 1 ((aggL Rows.laid_internal_strconv_uint64pow10).map litC)
 let h4:=put h3 4 ((aggL Rows.laid_unicode_utf8_first).map litC)
 let h5:=put h4 5 ((aggL Rows.laid_unicode_utf8_acceptRanges).flatMap fun d=>(aggL d).map litC)
 let h6:=put h5 6 ((aggL Rows.laid_math_bits_deBruijn32tab).map litC)
 let h7:=put h6 7 ((aggL Rows.laid_math_bits_deBruijn64tab).map litC)
 { w0 with heap:=h7 }
set_option maxRecDepth 1000000 in
theorem laid_met (os:Os) (args:Array Value):laidMet Tryz.prog laidOf ((laidWorld os).forCall (fun _ _=>0) ⟨#[],args,[]⟩).memory :=
 laidMet_of_run' 8 (by kernel_rfl) (by kernel_rfl)
end Go.Proofs.YthgbdoofchknhaaGreatDoor.clo
end
section
namespace Go.Proofs.YthgbdoofchknhaaGreatDoor
open Go.RowKit Go.WideShapes Go.ChangeShapes Go.Deep Sm
theorem ScriptLines_law {H:Type} {e:TypeId × Value->H} (W:World) (b0:Nat)
  (v0:Value) (d0:DataW H) (p0:List MemPlace) (ok0:Value.okWide Tryz.prog W .any b0 36 v0) (h0:DataW.Trod e Tryz.prog W 0 (fun _=>true) true 36 v0 d0 p0)
  (lay:LayL W (fun b=>b<W.heap.size))
  : Calls Tryz.prog 3 #[v0] W fun e W'=>e = .returned (.bool true)/\Kp No W W':=by
 obtain ⟨a0,r0⟩:=rd_St.arg_struct Tryz.underlying36 ok0 h0
 exact (ScriptLines_d a0.si a0.ok).law (vs:=[v0]) rfl (pw_cons r0 pw_nil) lay
end Go.Proofs.YthgbdoofchknhaaGreatDoor
end
section
namespace Go.Proofs.YthgbdoofchknhaaGreatDoor.Sm
open Go.RowKit
noncomputable def textF:List SI->Option (List UInt8)
 | []=>some []
 | x::r=>(lineW x).bind fun l=>(textF r).map fun t=>l++10::t
theorem textF_snoc:∀(l:List SI) (x:SI),textF (l++[x])=(textF l).bind fun t=>(lineW x).map fun u=>t++(u++[10])
 | [],x=>by
  simp only [List.nil_append,textF,Option.bind_some,Option.map_some]
  cases lineW x <;> rfl
 | y::l,x=>by
  simp only [List.cons_append,textF,textF_snoc l x]
  cases lineW y with
  | none=>rfl
  | some u =>
   cases textF l with
   | none=>rfl
   | some t =>
    cases lineW x with
    | none=>rfl
    | some v=>simp
theorem textF_none:∀{l:List SI} {k:Nat},textF (l.take k)=none->textF l=none
 | [],k,h=>by
  rw [List.take_nil] at h
  exact h
 | y::l,0,h=>by cases h
 | y::l,k+1,h=>by
  rw [List.take_succ_cons] at h
  simp only [textF] at h ⊢
  cases hy:lineW y with
  | none=>rfl
  | some u =>
   rw [hy,Option.bind_some] at h
   cases ht:textF (l.take k) with
   | none=>rw [Option.bind_some,textF_none ht];rfl
   | some t=>rw [ht] at h;cases h
theorem join_le2 {ws:List (List UInt8)} {B:Nat}:∀(ws:List (List UInt8)),(∀w∈ws,w.length<=B)->(Lib.joinTail [32] ws).length<=ws.length*(B+1)
 | [],_=>by simp [Lib.joinTail]
 | w::r,h=>by
  have h1:=join_le2 (ws:=ws) r fun x hx=>h x (by simp [hx])
  have h2:=h w (by simp)
  have e:Lib.joinTail [32] (w::r)=[32]++w++Lib.joinTail [32] r:=by simp [Lib.joinTail]
  rw [e]
  simp only [List.length_append,List.length_cons,List.length_nil,Nat.add_mul]
  omega
theorem fold_len {s:SI} (hs:s.Ok):∀(l:List UInt8) (acc ws:List (List UInt8)),l.foldl (wdC s) (some acc)=some ws->(∀c∈l,c≠119)->(∀w∈acc,w.length<=32)->∀w∈ws,w.length<=32
  | [],acc,ws,h,_,h1=>by
    obtain rfl:acc=ws:=by simpa using h
    exact h1
  | c::l,acc,ws,h,hc,h1=>by
    rw [List.foldl_cons] at h
    have key:∀w:List UInt8,w.length<=32->l.foldl (wdC s) (some (acc++[w]))=some ws->∀w∈ws,w.length<=32:=fun w hw h =>
      fold_len hs l _ ws h (fun x hx=>hc x (by simp [hx])) fun x hx=>by
        rcases List.mem_append.1 hx with hx | hx
        · exact h1 x hx
        · obtain rfl:=List.mem_singleton.1 hx
          exact hw
    simp only [wdC,Option.bind_some] at h
    split at h
    · exact key _ (Nat.le_trans (Lib.itoa_length_le s.a hs.a.1 hs.a.2) (by decide)) h
    · split at h
      · exact key _ (Nat.le_trans (Lib.itoa_length_le s.b hs.b.1 hs.b.2) (by decide)) h
      · split at h
        · exact key _ (by rw [List.length_append,wideL_len,wideL_len];decide) h
        · rw [if_neg (hc c (by simp))] at h
          exact fold_len hs l acc ws h (fun x hx=>hc x (by simp [hx])) h1
theorem want_len {s:SI} (hf:s.want.fit=true):(hexL (sealW s.want.words)).length<=1552000016:=by
 have h1:=words_le hf
 rw [hexL_len]
 simp only [sealW,List.length_append,enc8_len,putF_len]
 omega
theorem line_le {s:SI} (hs:s.Ok) {t:List UInt8} (h:lineW s=some t):t.length<=1552001000:=by
  unfold lineW at h
  cases hw:wordsW s with
  | none =>
    rw [hw] at h
    cases h
  | some ws =>
    rw [hw,Option.bind_some] at h
    split at h
    · obtain rfl:=Option.some.inj h
      obtain ⟨h0,_,h4⟩:=words_ok hs hw
      have hword:(kindAt s.kind).2.1.length<=32:=Nat.le_trans (kindAt_word _) (by decide)
      have hl:(Lib.join ws [32]).length<=(Lib.joinTail [32] ws).length:=by
        cases ws with
        | nil=>exact absurd rfl h0
        | cons x r =>
          have e:Lib.joinTail [32] (x::r)=[32]++Lib.join (x::r) [32]:=by
            rw [Lib.join_cons]
            simp [Lib.joinTail]
          rw [e,List.length_append]
          omega
      unfold wordsW at hw
      by_cases h119:(119:UInt8)∈(kindAt s.kind).2.2
      · have hs1 : (kindAt s.kind).2.2 = [119] := by
          have key:∀x∈kindsL,(119:UInt8)∈x.2.2->x.2.2=[119]:=by decide
          unfold kindAt at h119 ⊢
          cases hf:lookK s.kind kindsL with
          | none=>rw [hf] at h119;cases h119
          | some x=>rw [hf] at h119;exact key x (look_mem hf).1 h119
        rw [hs1,List.foldl_cons,List.foldl_nil] at hw
        have e:wdC s (some [(kindAt s.kind).2.1]) 119=if s.want.fit=true then some ([(kindAt s.kind).2.1]++[hexL (sealW s.want.words)]) else none:=rfl
        rw [e] at hw
        split at hw
        · rename_i hf
          obtain rfl:=Option.some.inj hw
          have h5:=want_len hf
          have e:Lib.joinTail [32] ([(kindAt s.kind).2.1]++[hexL (sealW s.want.words)])=[32]++(kindAt s.kind).2.1++[32]++hexL (sealW s.want.words):=by simp [Lib.joinTail]
          rw [e] at hl
          simp only [List.length_append,List.length_singleton] at hl
          omega
        · cases hw
      · have h6 := fold_len hs _ _ _ hw (fun c hc => by rintro rfl; exact h119 hc) (fun w hw => by
          obtain rfl:=List.mem_singleton.1 hw
          exact hword)
        have h7:=join_le2 (ws:=ws) ws h6
        have h8:ws.length*33<=4*33:=Nat.mul_le_mul_right _ h4
        omega
    · cases h
theorem textF_len {n:Nat}:∀(l:List SI) (t:List UInt8),(∀x∈l,x.Ok)->textF l=some t->t.length<=l.length*1552001001
 | [],t,_,h=>by
  obtain rfl:=Option.some.inj h
  exact Nat.zero_le _
 | x::l,t,hok,h=>by
  simp only [textF] at h
  cases hx:lineW x with
  | none=>rw [hx] at h;cases h
  | some u =>
   cases ht:textF l with
   | none=>rw [hx,ht] at h;cases h
   | some t' =>
    rw [hx,ht] at h
    obtain rfl:=Option.some.inj h
    have h1:=textF_len (n:=n) l t' (fun y hy=>hok y (by simp [hy])) ht
    have h2:=line_le (hok x (by simp)) hx
    rw [List.length_append,List.length_cons,List.length_cons,Nat.add_mul]
    omega
theorem sl_get {W:World} {F:Nat->Prop} {xs:List SI} {A:Option Addr} {n c k:Nat} {x:SI} (h:PRel W F (.sl (xs.map siC)) (.slice A n c)) (hx:xs[k]?=some x) :
  ∃b off v5 v7 v8 v9,A=some ⟨b,off,none⟩/\F b/\b<W.heap.size/\W.cell? ⟨b,off+k*10,none⟩=some (.int .i64 x.kind)/\W.cell? ⟨b,off+k*10+1,none⟩=some (.int .i64 x.a)/\W.cell? ⟨b,off+k*10+2,none⟩=some (.int .i64 x.b) /\
   W.cell? ⟨b,off+k*10+3,none⟩=some (.int .u64 x.head.hi.toNat)/\W.cell? ⟨b,off+k*10+4,none⟩=some (.int .u64 x.head.lo.toNat)/\W.cell? ⟨b,off+k*10+5,none⟩=some v5/\W.cell? ⟨b,off+k*10+6,none⟩=some (.int .i64 (i64of x.want.tenants)) /\
   W.cell? ⟨b,off+k*10+7,none⟩=some v7/\W.cell? ⟨b,off+k*10+8,none⟩=some v8/\W.cell? ⟨b,off+k*10+9,none⟩=some v9 /\
   (∃a5 n5 c5,v5 = .slice a5 n5 c5)/\(∃a7 n7 c7,v7 = .slice a7 n7 c7)/\(∃a8 n8 c8,v8 = .slice a8 n8 c8)/\(∃a9 n9 c9,v9 = .slice a9 n9 c9) /\
   PRel W F (.agg (siC x)) (.agg #[.int .i64 x.kind,.int .i64 x.a,.int .i64 x.b,.int .u64 x.head.hi.toNat,.int .u64 x.head.lo.toNat,v5,.int .i64 (i64of x.want.tenants),v7,v8,v9]):=by
 generalize hels:xs.map siC=els at h
 cases h with
 | sl _ _ _ m b off cell hc hm hA hl h1 hr hw =>
  have hk:els[k]?=some (siC x):=by rw [<- hels,List.getElem?_map,hx];rfl
  have hp:0<els.length:=by have:=(List.getElem?_eq_some_iff.1 hk).1;omega
  obtain ⟨rfl,hF,hb⟩:=hA hp
  obtain rfl:m=10:=(hl k _ hk).symm
  have g:∀(j:Nat) (y:AV),(siC x)[j]?=some y->W.cell? ⟨b,off+(k*10+j),none⟩=some (cell k j)/\PRel W F y (cell k j):=fun j y hj=>⟨hw k _ j y hk hj,hr k _ j y hk hj⟩
  have e0:=g 0 _ rfl
  have e1:=g 1 _ rfl
  have e2:=g 2 _ rfl
  have e3:=g 3 _ rfl
  have e4:=g 4 _ rfl
  have e5:=g 5 _ rfl
  have e6:=g 6 _ rfl
  have e7:=g 7 _ rfl
  have e8:=g 8 _ rfl
  have e9:=g 9 _ rfl
  simp only [<- Nat.add_assoc] at e0 e1 e2 e3 e4 e5 e6 e7 e8 e9
  obtain ⟨e0,q0⟩:=e0
  obtain ⟨e1,q1⟩:=e1
  obtain ⟨e2,q2⟩:=e2
  obtain ⟨e3,q3⟩:=e3
  obtain ⟨e4,q4⟩:=e4
  obtain ⟨e5,q5⟩:=e5
  obtain ⟨e6,q6⟩:=e6
  obtain ⟨e7,q7⟩:=e7
  obtain ⟨e8,q8⟩:=e8
  obtain ⟨e9,q9⟩:=e9
  have s5:∃a5 n5 c5,cell k 5 = .slice a5 n5 c5:=by generalize cell k 5=q at q5;cases q5;exact ⟨_,_,_,rfl⟩
  have s7:∃a5 n5 c5,cell k 7 = .slice a5 n5 c5:=by generalize cell k 7=q at q7;cases q7;exact ⟨_,_,_,rfl⟩
  have s8:∃a5 n5 c5,cell k 8 = .slice a5 n5 c5:=by generalize cell k 8=q at q8;cases q8;exact ⟨_,_,_,rfl⟩
  have s9:∃a5 n5 c5,cell k 9 = .slice a5 n5 c5:=by generalize cell k 9=q at q9;cases q9;exact ⟨_,_,_,rfl⟩
  have hagg:PRel W F (.agg (siC x)) (.agg #[cell k 0,cell k 1,cell k 2,cell k 3,cell k 4,cell k 5,cell k 6,cell k 7,cell k 8,cell k 9]):=by
   refine .agg (siC x) [cell k 0,cell k 1,cell k 2,cell k 3,cell k 4,cell k 5,cell k 6,cell k 7,cell k 8,cell k 9] rfl (fun j y hj=>h1 k _ j y hk hj) ?_
   exact pw_cons q0 (pw_cons q1 (pw_cons q2 (pw_cons q3 (pw_cons q4 (pw_cons q5 (pw_cons q6 (pw_cons q7 (pw_cons q8 (pw_cons q9 pw_nil)))))))))
  have z0:=val_eq' rfl q0
  have z1:=val_eq' rfl q1
  have z2:=val_eq' rfl q2
  have z3:=val_eq' rfl q3
  have z4:=val_eq' rfl q4
  have z6:=val_eq' rfl q6
  rw [z0] at e0 hagg
  rw [z1] at e1 hagg
  rw [z2] at e2 hagg
  rw [z3] at e3 hagg
  rw [z4] at e4 hagg
  rw [z6] at e6 hagg
  exact ⟨b,off,cell k 5,cell k 7,cell k 8,cell k 9,rfl,hF,hb,e0,e1,e2,e3,e4,e5,e6,e7,e8,e9,s5,s7,s8,s9,hagg⟩
noncomputable def scriptL (xs:List SI):List UInt8 × Int:=match textF xs with
 | none=>([],1)
 | some t=>if 65536<t.length\/2048<xs.length then ([],6) else (t,0)
end Go.Proofs.YthgbdoofchknhaaGreatDoor.Sm
end
section
namespace Go.Proofs.YthgbdoofchknhaaGreatDoor.Sm
open Go.RowKit
theorem ScriptApart_d (a b:SI) (ha:a.Ok) (hb:b.Ok):PDoes Tryz.prog 6 [.agg (siC a),.agg (siC b)] (.b true):=by
  refine PDoes.of_bodyN Tryz.func6 rfl (by kernel_rfl) rfl rfl ?_
  have h1:=d_Line a ha
  have h2:=d_Line b hb
  cases hs:lineW a with
  | none =>
    rw [hs] at h1
    cases ht:lineW b with
    | none =>
      rw [ht] at h2
      refine jA ?_
      refine RG.callS rfl rfl rfl rfl rfl h1 rfl rfl ?_;refine wH rfl ?_;refine jA ?_
      refine RG.callS rfl rfl rfl rfl rfl h2 rfl rfl ?_;refine wH rfl ?_;refine jA ?_
      refine RG.callS rfl rfl rfl rfl rfl d_awakeS rfl rfl ?_;refine wH rfl ?_;refine jA ?_
      refine AW.condT rfl ?_;refine jA ?_
      refine RG.callS rfl rfl rfl rfl rfl d_awakeS rfl rfl ?_;refine wH rfl ?_;refine jA ?_
      refine AW.ret (retQA ty_ok rfl rfl rfl ?_)
      rfl
    | some t =>
      rw [ht] at h2
      refine jA ?_
      refine RG.callS rfl rfl rfl rfl rfl h1 rfl rfl ?_;refine wH rfl ?_;refine jA ?_
      refine RG.callS rfl rfl rfl rfl rfl h2 rfl rfl ?_;refine wH rfl ?_;refine jA ?_
      refine RG.callS rfl rfl rfl rfl rfl d_awakeS rfl rfl ?_;refine wH rfl ?_;refine jA ?_
      refine AW.condT rfl ?_;refine jA ?_
      refine RG.callS rfl rfl rfl rfl rfl d_awakeS rfl rfl ?_;refine wH rfl ?_;refine jA ?_
      refine AW.ret (retQA ty_ok rfl rfl rfl ?_)
      rfl
  | some s =>
    rw [hs] at h1
    cases ht:lineW b with
    | none =>
      rw [ht] at h2
      refine jA ?_
      refine RG.callS rfl rfl rfl rfl rfl h1 rfl rfl ?_;refine wH rfl ?_;refine jA ?_
      refine RG.callS rfl rfl rfl rfl rfl h2 rfl rfl ?_;refine wH rfl ?_;refine jA ?_
      refine RG.callS rfl rfl rfl rfl rfl d_awakeS rfl rfl ?_;refine wH rfl ?_;refine jA ?_
      refine AW.condT rfl ?_;refine jA ?_
      refine RG.callS rfl rfl rfl rfl rfl d_awakeS rfl rfl ?_;refine wH rfl ?_;refine jA ?_
      refine AW.ret (retQA ty_ok rfl rfl rfl ?_)
      rfl
    | some t =>
      rw [ht] at h2
      have hc:=line_chr ha hs
      have hsl:=line_le ha hs
      have hinj:=line_inj ha hb hs ht
      refine jA ?_
      refine RG.callS rfl rfl rfl rfl rfl h1 rfl rfl ?_;refine wH rfl ?_;refine jA ?_
      refine RG.callS rfl rfl rfl rfl rfl h2 rfl rfl ?_;refine wH rfl ?_;refine jA ?_
      refine RG.callS rfl rfl rfl rfl rfl d_awakeS rfl rfl ?_;refine wH rfl ?_;refine jA ?_
      refine AW.condF rfl ?_;refine jA ?_
      refine AW.loopL (ι:=Nat) (fun i=>[(2,.own 2 0 0),(3,.own 3 0 0),(5,.s s),(7,.s t),(9,.i .i64 (i:Int))]) (fun i=>[(2,⟨0,some (.box 36 (siC a))⟩),(3,⟨0,some (.box 36 (siC b))⟩)]) (fun i=>i<=s.length) (fun i=>s.length - i) 0 (Nat.zero_le _) jW jW fun k hk=>?_
      refine jA ?_
      refine AW.cond rfl (fun h=>?_) (fun h=>?_)
      · have hlt:k<s.length:=by have:((k:Nat):Int)<(s.length:Int):=of_decide_eq_true h;omega
        have hg:s[k]?=some s[k]:=List.getElem?_eq_getElem hlt
        have hr:=hc s[k] (List.getElem_mem hlt)
        generalize s[k]=c at hg hr
        have n1:decide (c<UInt8.ofNat 32)=false:=decide_eq_false (fun h=>by have:c.toNat<32:=h;omega)
        have n2:decide (UInt8.ofNat 126<c)=false:=decide_eq_false (fun h=>by have:126<c.toNat:=h;omega)
        refine jA ?_
        refine RG.opS rfl (op_indexS rfl (tk rfl) rfl rfl rfl hg) rfl ?_
        refine RG.runO ty_ok 0 [(40,.b false)] 400 rfl ⟨congrArg AV.b n1,trivial⟩ ?_
        refine RG.opS rfl (op_indexS rfl (tk rfl) rfl rfl rfl hg) rfl ?_
        refine RG.runO ty_ok 0 [(45,.b false)] 400 rfl ⟨congrArg AV.b n2,trivial⟩ ?_
        refine jB ?_
        refine AW.condF rfl ?_;refine jA ?_
        exact ⟨k+1,⟨hlt,by show s.length - (k+1)<s.length - k;omega⟩,⟨rO rfl rfl rfl,rO rfl rfl rfl,rI rfl rfl,rI rfl rfl,rI (i64_next (show k<s.length from hlt) (by omega)) rfl,trivial⟩,jW⟩
      · refine jB ?_
        refine jE ?_;refine jA ?_
        refine jA ?_
        refine RG.callS rfl rfl rfl rfl rfl (d_equalL a b _ rfl) rfl rfl ?_;refine wH rfl ?_;refine jA ?_
        refine AW.ret (retQA ty_ok rfl rfl rfl ?_)
        exact congrArg AV.b (by rw [decide_eq_decide.2 hinj];exact beq_self_eq_true _)
end Go.Proofs.YthgbdoofchknhaaGreatDoor.Sm
end
section
namespace Go.Proofs.YthgbdoofchknhaaGreatDoor
open Go.RowKit Go.WideShapes Go.ChangeShapes Go.Deep Sm
theorem ScriptApart_law {H:Type} {e:TypeId × Value->H} (W:World) (b0:Nat)
  (v0:Value) (d0:DataW H) (p0:List MemPlace) (ok0:Value.okWide Tryz.prog W .any b0 36 v0) (h0:DataW.Trod e Tryz.prog W 0 (fun _=>true) true 36 v0 d0 p0)
  (v1:Value) (d1:DataW H) (p1:List MemPlace) (ok1:Value.okWide Tryz.prog W .any b0 36 v1) (h1:DataW.Trod e Tryz.prog W 0 (fun _=>true) true 36 v1 d1 p1)
  (lay:LayL W (fun b=>b<W.heap.size))
  : Calls Tryz.prog 6 #[v0,v1] W fun e W'=>e = .returned (.bool true)/\Kp No W W':=by
 obtain ⟨a0,r0⟩:=rd_St.arg_struct Tryz.underlying36 ok0 h0
 obtain ⟨a1,r1⟩:=rd_St.arg_struct Tryz.underlying36 ok1 h1
 exact (ScriptApart_d a0.si a1.si a0.ok a1.ok).law (vs:=[v0,v1]) rfl (pw_cons r0 (pw_cons r1 pw_nil)) lay
end Go.Proofs.YthgbdoofchknhaaGreatDoor
end
section
namespace Go.Proofs.YthgbdoofchknhaaGreatDoor.Sm
open Go.RowKit
theorem occ_no {u:List UInt8} {j:Nat} (hj:j<u.length) (h:u[j]≠10):Lib.occAt u [10] j=false:=by
 have hne':((10:UInt8) == u[j])=false:=by simpa using Ne.symm h
 unfold Lib.occAt
 rw [List.drop_eq_getElem_cons hj]
 simp only [List.isPrefixOf,hne',Bool.false_and]
theorem cut_find {u:List UInt8} {m:Nat} (hm:m<=u.length) (h1:∀(j:Nat) (c:UInt8),u[j]?=some c->j<m->c≠10) (h2:u[m]?=some 10\/m=u.length):(Lib.cut u [10]).1=u.take m/\(Lib.cut u [10]).2.1=u.drop (m+1):=by
  have h1':∀j,j<m->Lib.occAt u [10] j=false:=fun j hj=>occ_no (show j<u.length by omega) (h1 j _ (List.getElem?_eq_getElem (by omega)) hj)
  by_cases he:m=u.length
  · have hi : Lib.index u [10] = -1 := Lib.index_none fun j hj => by
      by_cases hlt:j<m
      · exact h1' j hlt
      · have:u.drop j=[]:=List.drop_eq_nil_of_le (by omega)
        simp [Lib.occAt,this]
    unfold Lib.cut
    rw [hi,if_neg (by decide)]
    exact ⟨(List.take_of_length_le (show u.length<=m by omega)).symm,(List.drop_eq_nil_of_le (show u.length<=m+1 by omega)).symm⟩
  · have hu:u[m]?=some 10:=h2.resolve_right he
    have hlt:m<u.length:=by omega
    have hv:u[m]=10:=by
      rw [List.getElem?_eq_getElem hlt] at hu
      exact Option.some.inj hu
    have hi:Lib.index u [10]=m:=Lib.index_first (i:=m) hm (by simp [Lib.occAt,List.drop_eq_getElem_cons hlt,List.isPrefixOf,hv]) h1'
    unfold Lib.cut
    rw [hi,if_pos (by omega)]
    exact ⟨rfl,rfl⟩
theorem stepsF_pre:∀(f:Nat) (u:List UInt8) (acc xs:List SI),stepsF f u acc = .inl xs->∃r,xs=acc++r
 | 0,u,acc,xs,h=>⟨[],by rw [List.append_nil];exact (Sum.inl.inj h).symm⟩
 | f+1,u,acc,xs,h=>by
  unfold stepsF at h
  split at h
  ·exact ⟨[],by rw [List.append_nil];exact (Sum.inl.inj h).symm⟩
  ·split at h
   ·cases h
   ·obtain ⟨r,hr⟩:=stepsF_pre f _ _ _ h
    exact ⟨_,by rw [hr,List.append_assoc]⟩
def Said (G:List SI ⊕ Nat) (L:List SI) (n e:Int):Prop :=
 (G = .inl L/\L.length<=2048/\n=0/\e=0)\/(∃xs,G = .inl xs/\2048<xs.length/\L=[]/\n=0/\e=6)\/(∃m:Nat,G = .inr m/\L=[]/\n=m/\e=5)
theorem said_of (G:List SI ⊕ Nat):∃L n e,stepsR G = .tup [.sl (L.map siC),.i .i64 n,.i .i64 e]/\Said G L n e:=by
 cases G with
 | inl xs =>
  by_cases h:xs.length<=2048
  ·exact ⟨xs,0,0,by rw [stepsR,if_pos h],.inl ⟨rfl,h,rfl,rfl⟩⟩
  ·exact ⟨[],0,6,by rw [stepsR,if_neg h];rfl,.inr (.inl ⟨xs,rfl,by omega,rfl,rfl,rfl⟩)⟩
 | inr m=>exact ⟨[],m,5,rfl,.inr (.inr ⟨m,rfl,rfl,rfl,rfl⟩)⟩
theorem ScriptFinds_d (s:List UInt8):PDoes Tryz.prog 5 [.s s] (.b true):=by
  refine PDoes.of_bodyN Tryz.func5 rfl (by kernel_rfl) rfl rfl ?_
  by_cases hbig:65536<s.length
  · refine jA ?_
    refine RG.callMS rfl rfl rfl rfl rfl rfl (d_Steps_long s hbig) rfl ?_
    refine wH rfl ?_;refine jA ?_
    refine AW.cond rfl (fun h=>?_) (fun h=>?_)
    · refine jA ?_
      refine RG.callS rfl rfl rfl rfl rfl d_awakeS rfl rfl ?_;refine wH rfl ?_;refine jA ?_
      refine AW.ret (retQA ty_ok rfl rfl rfl ?_)
      rfl
    · have:¬(65536:Int)<(s.length:Int):=of_decide_eq_false h
      omega
  have h1:=d_Steps s (by omega)
  obtain ⟨L,n,e,hG,hS⟩:=said_of (stepsL s)
  rw [hG] at h1
  clear hG
  generalize hg:stepsL s=G at *
  refine jA ?_
  refine RG.callMS rfl rfl rfl rfl rfl rfl h1 rfl ?_
  refine wH rfl ?_;refine jA ?_
  refine AW.cond rfl (fun h=>?_) (fun h=>?_)
  · have:(65536:Int)<(s.length:Int):=of_decide_eq_true h
    omega
  clear h
  refine jA ?_
  refine AW.loopL (ι:=Nat × List SI) (fun i=>[(0,.s s),(3,.sl (L.map siC)),(4,.i .i64 n),(5,.i .i64 e),(6,.i .i64 (i.2.length:Nat)),(7,.i .i64 (i.1:Nat))]) (fun i=>[]) (fun i=>i.1<=s.length+1/\i.2.length<=i.1/\stepsF (s.drop i.1).length (s.drop i.1) i.2=G) (fun i=>s.length+1 - i.1) (0,[]) ⟨Nat.zero_le _,Nat.zero_le _,hg⟩ jW jW fun i hi=>?_
  obtain ⟨from_,acc⟩:=i
  obtain ⟨hf1,hf2,hf⟩:=hi
  simp only at hf1 hf2 hf
  refine jA ?_
  refine AW.cond rfl (fun h=>?_) (fun h=>?_)
  · have hlt:from_<s.length:=by have:((from_:Nat):Int)<(s.length:Int):=of_decide_eq_true h;omega
    refine jA ?_
    refine AW.toExit (ι:=Nat) (fun i=>[(0,.s s),(3,.sl (L.map siC)),(4,.i .i64 n),(5,.i .i64 e),(6,.i .i64 (acc.length:Nat)),(7,.i .i64 (from_:Nat)),(8,.i .i64 (i:Nat))]) (fun i=>[]) (fun i=>from_<=i/\i<=s.length/\(∀(j:Nat) (c:UInt8),s[j]?=some c->from_<=j->j<i->c≠10)/\(s[i]?=some 10\/i=s.length)) ?_ ?_
    · refine AW.loopL (ι:=Nat) (fun i=>[(0,.s s),(3,.sl (L.map siC)),(4,.i .i64 n),(5,.i .i64 e),(6,.i .i64 (acc.length:Nat)),(7,.i .i64 (from_:Nat)),(8,.i .i64 (i:Nat))]) (fun i=>[]) (fun i=>from_<=i/\i<=s.length/\∀(j:Nat) (c:UInt8),s[j]?=some c->from_<=j->j<i->c≠10) (fun i=>s.length - i) from_ ⟨Nat.le_refl _,Nat.le_of_lt hlt,fun j c _ h1 h2=>by omega⟩ jW jW fun k hk=>?_
      obtain ⟨hk1,hk2,hk3⟩:=hk
      skip;(repeat (first | with_reducible refine AW.seq ?_ | with_reducible refine AW.skip ?_ | with_reducible refine AW.block ?_ | ((with_reducible refine RG.id ?_);refine RG.nil ⟨?_,?_⟩;· kernel_rfl) | ((with_reducible refine RG.id ?_);refine RG.nil ?_) | ((with_reducible refine AW.text ?_);refine RG.run ty_ok 0 400 rfl ?_) | ((with_reducible refine AW.draws mixed_ok ?_);refine RG.run ty_ok 0 400 rfl ?_)))
      rcases Nat.lt_or_ge k s.length with hkl | hkl
      · rw [decide_eq_true (show (k:Int)<(s.length:Int) by omega)]
        have ha:s[k]?=some s[k]:=List.getElem?_eq_getElem hkl
        generalize s[k]=c at ha
        refine wH rfl ?_
        refine RG.opS rfl (op_indexS rfl (tk rfl) rfl rfl rfl ha) rfl ?_
        refine wH rfl ?_;refine jA ?_
        refine AW.cond rfl (fun hc=>?_) (fun hc=>?_)
        · have hc:c≠10:=by simpa using hc
          refine jA ?_
          exact ⟨k+1,⟨⟨by omega,hkl,fun j d hj h1 h2=>by
            rcases Nat.lt_or_ge j k with h3 | h3
            · exact hk3 j d hj h1 h3
            · obtain rfl:j=k:=by omega
              rw [ha] at hj
              obtain rfl:=Option.some.inj hj
              exact hc⟩,by show s.length - (k+1)<s.length - k;omega⟩,⟨rI rfl rfl,rI rfl rfl,rI rfl rfl,rI rfl rfl,rI rfl rfl,rI rfl rfl,rI (i64_next (show k<s.length from hkl) (by omega)) rfl,trivial⟩,jW⟩
        · have hc:c=10:=by simpa using hc
          subst hc
          refine AW.exit ?_
          exact ⟨rfl,k,⟨hk1,hk2,hk3,.inl ha⟩,jW,jW⟩
      · rw [decide_eq_false (show ¬(k:Int)<(s.length:Int) by omega)]
        refine wH rfl ?_;refine jA ?_
        refine AW.condF rfl ?_
        refine AW.exit ?_
        exact ⟨rfl,k,⟨hk1,hk2,hk3,.inr (by omega)⟩,jW,jW⟩
    · intro k ⟨hk1,hk2,hk3,hk4⟩
      have hm:k - from_<=(s.drop from_).length:=by rw [List.length_drop];omega
      obtain ⟨c1,c2⟩:=cut_find (u:=s.drop from_) (m:=k - from_) hm (fun j c hj hlt'=>hk3 (from_+j) c (by rw [List.getElem?_drop] at hj;exact hj) (by omega) (by omega)) (by
        rw [List.getElem?_drop,List.length_drop,show from_+(k - from_)=k by omega]
        rcases hk4 with h | h
        · exact .inl h
        · exact .inr (by omega))
      have hne:s.drop from_≠[]:=fun he=>by
        have:=congrArg List.length he
        rw [List.length_drop,List.length_nil] at this
        omega
      rw [List.drop_drop,show from_+(k - from_+1)=k+1 by omega] at c2
      obtain ⟨f,hf0⟩:∃f,(s.drop from_).length=f+1:=⟨(s.drop from_).length - 1,by have:=List.length_pos_iff.2 hne;omega⟩
      rw [hf0] at hf
      unfold stepsF at hf
      rw [if_neg hne,c1,c2] at hf
      rw [List.length_drop] at hf0
      have hst:=d_Step ((s.drop from_).take (k - from_)) (by have:=List.length_take_le' (k - from_) (s.drop from_);rw [List.length_drop] at this;omega)
      obtain ⟨ln,hln⟩:∃ln,(s.drop from_).take (k - from_)=ln:=⟨_,rfl⟩
      rw [hln] at hst hf
      (repeat first|apply wA|apply wB|apply wC|apply wE|(apply zM;·kernel_rfl)|apply wF|apply wG)
      refine RG.runO ty_ok 0 [(52,.i .i64 ((acc.length+1:Nat):Int))] 400 rfl ⟨i64_next (show acc.length<70000 by omega) (by omega),trivial⟩ ?_
      refine jA ?_
      refine RG.opS rfl (op_sliceS (l:=from_) (h:=k) rfl (tk rfl) rfl rfl (.at_ rfl) (.at_ rfl) hk1 hk2) rfl ?_
      rw [hln]
      refine wH rfl ?_
      cases hx:stepL ln with
      | none =>
        rw [hx] at hst hf
        rcases hS with ⟨hS,hL,rfl,rfl⟩ | ⟨xs,hS,hL,rfl,rfl,rfl⟩ | ⟨m,hS,rfl,rfl,rfl⟩
        · rw [hS] at hf;cases hf
        · rw [hS] at hf;cases hf
        rw [hS] at hf
        obtain rfl:acc.length+1=m:=Sum.inr.inj hf
        refine RG.callMS rfl rfl rfl rfl rfl rfl hst rfl ?_
        refine wH rfl ?_;refine jA ?_
        refine AW.condT rfl ?_;refine jA ?_
        refine RG.callS rfl rfl rfl rfl rfl d_awakeS rfl rfl ?_
        refine RG.runO ty_ok 0 [(71,.b true)] 400 rfl ⟨congrArg AV.b (decide_eq_true rfl),trivial⟩ ?_
        refine jB ?_;refine jA ?_
        refine AW.ret (retQA ty_ok rfl rfl rfl ?_)
        rfl
      | some x =>
        rw [hx] at hst hf
        simp only at hf
        refine RG.callMS rfl rfl rfl rfl rfl rfl hst rfl ?_
        refine wH rfl ?_;refine jA ?_
        refine AW.condF rfl ?_
        have hJ:k+1<=s.length+1/\(acc++[x]).length<=k+1/\stepsF (s.drop (k+1)).length (s.drop (k+1)) (acc++[x])=G:=by
          refine ⟨by omega,by rw [List.length_append,List.length_singleton];omega,?_⟩
          rw [<- hf]
          exact stepsF_fuel _ _ _ _ (Nat.le_refl _) (by rw [List.length_drop];omega)
        have hM:s.length+1 - (k+1)<s.length+1 - from_:=by omega
        have hA:AV.i .i64 ((acc.length+1:Nat):Int) = .i .i64 (((acc++[x]).length:Nat):Int):=by rw [List.length_append];rfl
        have hK:AV.i .i64 (IntKind.i64.wrap ((k:Int)+1)) = .i .i64 ((k+1:Nat):Int):=i64_next (show k<70000 by omega) (by omega)
        rcases hS with ⟨hS,hL,rfl,rfl⟩ | ⟨xs,hS,hL,rfl,rfl,rfl⟩ | ⟨m,hS,rfl,rfl,rfl⟩
        · obtain ⟨r,hr⟩:=stepsF_pre _ _ _ _ (hf.trans hS)
          have hlen:acc.length+1<=L.length:=by
            rw [hr,List.length_append,List.length_append,List.length_singleton]
            omega
          have hidx:(L.map siC)[acc.length]?=some (siC x):=by
            rw [hr,List.getElem?_map,List.append_assoc,List.getElem?_append_right (Nat.le_refl _),Nat.sub_self]
            rfl
          refine jB ?_
          refine AW.draws mixed_ok ?_
          refine RG.runO ty_ok 0 [(84,.b false),(89,.i .i64 ((acc.length:Nat):Int))] 400 rfl ⟨?_,congrArg AV.b (decide_eq_false ?_),trivial⟩ ?_
          · refine congrArg (AV.i .i64) ?_
            rw [IntKind.wrap_i64]
            show (((acc.length+1:Nat):Int) - 1+9223372036854775808) % 18446744073709551616 - 9223372036854775808=_
            omega
          · rw [List.length_map]
            omega
          refine RG.opS rfl (op_index rfl (tk rfl) rfl (tk rfl) rfl rfl hidx rfl) rfl ?_
          refine wH rfl ?_
          refine RG.callS rfl rfl rfl rfl rfl (d_equalL x x true (decide_eq_true rfl)) rfl rfl ?_
          refine wH rfl ?_;refine jA ?_
          refine AW.condF rfl ?_;refine jA ?_
          exact ⟨(k+1,acc++[x]),⟨hJ,hM⟩,⟨rI rfl rfl,rI rfl rfl,rI rfl rfl,rI rfl rfl,rI hA rfl,rI hK rfl,trivial⟩,jW⟩
        · refine jA ?_
          refine AW.condF rfl ?_;refine jA ?_
          exact ⟨(k+1,acc++[x]),⟨hJ,hM⟩,⟨rI rfl rfl,rI rfl rfl,rI rfl rfl,rI rfl rfl,rI hA rfl,rI hK rfl,trivial⟩,jW⟩
        · refine jA ?_
          refine AW.condF rfl ?_;refine jA ?_
          exact ⟨(k+1,acc++[x]),⟨hJ,hM⟩,⟨rI rfl rfl,rI rfl rfl,rI rfl rfl,rI rfl rfl,rI hA rfl,rI hK rfl,trivial⟩,jW⟩
  · have hge:s.drop from_=[]:=List.drop_eq_nil_of_le (by have:¬((from_:Nat):Int)<(s.length:Int):=of_decide_eq_false h;omega)
    rw [hge] at hf
    have hf:G = .inl acc:=hf.symm
    refine jB ?_
    refine jE ?_;refine jA ?_
    rcases hS with ⟨hS,hL,rfl,rfl⟩ | ⟨xs,hS,hL,rfl,rfl,rfl⟩ | ⟨m,hS,hL,rfl,rfl⟩
    · rw [hf] at hS
      obtain rfl:=Sum.inl.inj hS
      refine jA ?_
      refine AW.cond rfl (fun h=>?_) (fun h=>?_)
      · have:(2048:Int)<(acc.length:Int):=of_decide_eq_true h
        omega
      refine jA ?_
      refine RG.callS rfl rfl rfl rfl rfl d_awakeS rfl rfl ?_;refine wH rfl ?_;refine jA ?_
      refine AW.ret (retQA ty_ok rfl rfl rfl ?_)
      exact congrArg AV.b (decide_eq_true (by rw [List.length_map]))
    · rw [hf] at hS
      obtain rfl:=Sum.inl.inj hS
      refine jA ?_
      refine AW.cond rfl (fun h=>?_) (fun h=>?_)
      · refine jA ?_
        refine RG.callS rfl rfl rfl rfl rfl d_awakeS rfl rfl ?_;refine wH rfl ?_;refine jA ?_
        refine AW.ret (retQA ty_ok rfl rfl rfl ?_)
        rfl
      · have:¬(2048:Int)<(acc.length:Int):=of_decide_eq_false h
        omega
    · rw [hf] at hS
      cases hS
end Go.Proofs.YthgbdoofchknhaaGreatDoor.Sm
end
section
namespace Go.Proofs.YthgbdoofchknhaaGreatDoor
open Go.RowKit Go.WideShapes Go.ChangeShapes Go.Deep Sm
theorem ScriptFinds_law {H:Type} {e:TypeId × Value->H} (W:World) (b0:Nat)
  (v0:Value) (d0:DataW H) (p0:List MemPlace) (ok0:Value.okWide Tryz.prog W .any b0 9 v0) (h0:DataW.Trod e Tryz.prog W 0 (fun _=>true) true 9 v0 d0 p0)
  (lay:LayL W (fun b=>b<W.heap.size))
  : Calls Tryz.prog 5 #[v0] W fun e W'=>e = .returned (.bool true)/\Kp No W W':=by
 obtain ⟨a0,r0⟩:=rd_str.arg_str Tryz.underlying9 ok0 h0
 exact (ScriptFinds_d a0).law (vs:=[v0]) rfl (pw_cons r0 pw_nil) lay
end Go.Proofs.YthgbdoofchknhaaGreatDoor
end
section
namespace Go.Proofs.YthgbdoofchknhaaGreatDoor.Sm
open Go.RowKit
theorem law_some {x:SI} (hx:x.Ok) {l:List UInt8} (h:lineW x=some l):lawL x=(l,true):=by
 rw [line_law hx] at h
 split at h
 ·rename_i hq
  exact Prod.ext (Option.some.inj h) hq
 ·cases h
theorem ScriptReads_d (s:SI) (hs:s.Ok) (l:List UInt8) (hl:l.length<4294967281):PDoes Tryz.prog 4 [.agg (siC s),.s l] (.b true):=by
 refine PDoes.of_bodyN Tryz.func4 rfl (by kernel_rfl) rfl rfl ?_
 have h0:=line_i.1
 have h2:=d_lineL s hs
 have h3:=line_law hs
 have g1:=d_Step l hl
 unfold lawR at h2
 generalize lawL s=r at h2 h3
 obtain ⟨t,q⟩:=r
 simp only at h2 h3
 cases q with
 | false =>
  refine jA ?_
  refine RG.callS rfl rfl rfl rfl rfl h2 rfl rfl ?_;refine wH rfl ?_;refine jA ?_
  refine AW.condF rfl ?_;refine jA ?_
  cases hx:stepL l with
  | none =>
   rw [hx] at g1
   refine RG.callMS rfl rfl rfl rfl rfl rfl g1 rfl ?_
   refine wH rfl ?_;refine jA ?_
   refine AW.condT rfl ?_;refine jA ?_
   refine RG.callS rfl rfl rfl rfl rfl d_awakeS rfl rfl ?_
   refine wH rfl ?_
   refine RG.callS rfl rfl rfl rfl (by simp [siC,cfgC,zeroSI,zeroC,h0]) (d_equalL zeroSI zeroSI true (decide_eq_true rfl)) rfl rfl ?_
   refine wH rfl ?_;refine jA ?_
   refine AW.ret (retQA ty_ok rfl rfl rfl ?_)
   rfl
  | some x =>
   rw [hx] at g1
   obtain ⟨hxo,hxl⟩:=step_back hx
   have g2:=d_lineL x hxo
   unfold lawR at g2
   rw [law_some hxo hxl] at g2
   refine RG.callMS rfl rfl rfl rfl rfl rfl g1 rfl ?_
   refine wH rfl ?_;refine jA ?_
   refine AW.condF rfl ?_;refine jA ?_
   refine RG.callS rfl rfl rfl rfl rfl g2 rfl rfl ?_;refine wH rfl ?_;refine jA ?_
   refine RG.callS rfl rfl rfl rfl rfl d_awakeS rfl rfl ?_;refine wH rfl ?_;refine jA ?_
   refine AW.ret (retQA ty_ok rfl rfl rfl ?_)
   exact congrArg AV.b (decide_eq_true rfl)
 | true =>
  rw [if_pos rfl] at h3
  have ht:=line_le hs h3
  have h4:=d_Step t (by omega)
  rw [step_line hs h3] at h4
  refine jA ?_
  refine RG.callS rfl rfl rfl rfl rfl h2 rfl rfl ?_;refine wH rfl ?_;refine jA ?_
  refine AW.condT rfl ?_;refine jA ?_
  refine RG.callMS rfl rfl rfl rfl rfl rfl h4 rfl ?_
  refine wH rfl ?_;refine jA ?_
  refine RG.callS rfl rfl rfl rfl rfl (d_equalL s s true (decide_eq_true rfl)) rfl rfl ?_;refine wH rfl ?_;refine jA ?_
  refine AW.condF rfl ?_;refine jA ?_
  cases hx:stepL l with
  | none =>
   rw [hx] at g1
   refine RG.callMS rfl rfl rfl rfl rfl rfl g1 rfl ?_
   refine wH rfl ?_;refine jA ?_
   refine AW.condT rfl ?_;refine jA ?_
   refine RG.callS rfl rfl rfl rfl rfl d_awakeS rfl rfl ?_
   refine wH rfl ?_
   refine RG.callS rfl rfl rfl rfl (by simp [siC,cfgC,zeroSI,zeroC,h0]) (d_equalL zeroSI zeroSI true (decide_eq_true rfl)) rfl rfl ?_
   refine wH rfl ?_;refine jA ?_
   refine AW.ret (retQA ty_ok rfl rfl rfl ?_)
   rfl
  | some x =>
   rw [hx] at g1
   obtain ⟨hxo,hxl⟩:=step_back hx
   have g2:=d_lineL x hxo
   unfold lawR at g2
   rw [law_some hxo hxl] at g2
   refine RG.callMS rfl rfl rfl rfl rfl rfl g1 rfl ?_
   refine wH rfl ?_;refine jA ?_
   refine AW.condF rfl ?_;refine jA ?_
   refine RG.callS rfl rfl rfl rfl rfl g2 rfl rfl ?_;refine wH rfl ?_;refine jA ?_
   refine RG.callS rfl rfl rfl rfl rfl d_awakeS rfl rfl ?_;refine wH rfl ?_;refine jA ?_
   refine AW.ret (retQA ty_ok rfl rfl rfl ?_)
   exact congrArg AV.b (decide_eq_true rfl)
end Go.Proofs.YthgbdoofchknhaaGreatDoor.Sm
end
section
namespace Go.Proofs.YthgbdoofchknhaaGreatDoor
open Go.RowKit Go.WideShapes Go.ChangeShapes Go.Deep Sm
theorem ScriptReads_law {H:Type} {e:TypeId × Value->H} (W:World) (b0:Nat)
  (v0:Value) (d0:DataW H) (p0:List MemPlace) (ok0:Value.okWide Tryz.prog W .any b0 36 v0) (h0:DataW.Trod e Tryz.prog W 0 (fun _=>true) true 36 v0 d0 p0)
  (v1:Value) (d1:DataW H) (p1:List MemPlace) (ok1:Value.okWide Tryz.prog W .any b0 9 v1) (h1:DataW.Trod e Tryz.prog W 0 (fun _=>true) true 9 v1 d1 p1)
  (hk:Rows.uptoBulkAll [d0,d1]<=1048576)
  (lay:LayL W (fun b=>b<W.heap.size))
  : Calls Tryz.prog 4 #[v0,v1] W fun e W'=>e = .returned (.bool true)/\Kp No W W':=by
 obtain ⟨a0,r0⟩:=rd_St.arg_struct Tryz.underlying36 ok0 h0
 obtain ⟨s,rfl,rfl,rfl,ws⟩:=Go.ChangeMaps.open_string Tryz.underlying9 ok1 h1
 simp only [Rows.uptoBulkAll,Rows.uptoBulk] at hk
 have r1:PRel W (fun b=>b<W.heap.size) (.s s.data.toList) (.string s):=.s s.data.toList
 exact (ScriptReads_d a0.si a0.ok s.data.toList (by omega)).law (vs:=[v0,.string s]) rfl (pw_cons r0 (pw_cons r1 pw_nil)) lay
end Go.Proofs.YthgbdoofchknhaaGreatDoor
end
section
namespace Go.Proofs.YthgbdoofchknhaaGreatDoor.Sm
open Go.RowKit
theorem bu_keep {B b:Nat} {bs:List Value} {w w':World} (h:BuF B b bs w) (hk:∀k,k<w.heap.size->w'.heap[k]?=w.heap[k]?):BuF B b bs w':=by
 have keep:∀{k:Nat} {o:Obj},w.heap[k]?=some o->w'.heap[k]?=some o:=fun {k o} e=>by
  rw [hk k (Array.getElem?_eq_some_iff.1 e).1]
  exact e
 have at_:∀{p:Value},Lib.BuilderAtF 78 5 B b p bs w->Lib.BuilderAtF 78 5 B b p bs w':=fun {p} ⟨hB,v,hb,⟨hl,ho⟩,hne⟩=>by
  refine ⟨hB,v,keep hb,⟨hl,?_⟩,hne⟩
  rcases ho with h0 | ⟨g,cap,cur,fz,e1,e2,e3,e4⟩
  ·exact .inl h0
  ·exact .inr ⟨g,cap,cur,fz,e1,e2,keep e3,e4⟩
 exact h.elim (fun x=>.inl (at_ x)) (fun x=>.inr (at_ x))
theorem pr_len {W:World} {F:Nat->Prop} {xs:List SI} {v:Value} (h:PRel W F (.sl (xs.map siC)) v):∃A c,v = .slice A xs.length c:=by
 have hl:(xs.map siC).length=xs.length:=List.length_map ..
 generalize xs.map siC=els at h hl
 cases h with
 | sl _ A c=>exact ⟨A,c,by rw [hl]⟩
noncomputable def scriptV (xs:List SI):Value:=.tuple #[.string ⟨(scriptL xs).1.toArray⟩,.int .i64 (scriptL xs).2]
def lineE:Option (List UInt8)->Int
 | some _=>0
 | none=>1
theorem tup2_val {W:World} {F:Nat->Prop} {x y:AV} {a b v:Value} (hx:x.val?=some a) (hy:y.val?=some b) (h:PRel W F (.tup [x,y]) v):v = .tuple #[a,b]:=by
 cases h with
 | tup cs vs hl hr =>
  match vs,hl with
  | [c,d],_ =>
   have h0:=val_eq' hx (hr 0 _ c rfl rfl)
   have h1:=val_eq' hy (hr 1 _ d rfl rfl)
   rw [h0,h1]
theorem line_val {W:World} {F:Nat->Prop} {r:Option (List UInt8)} {v:Value} (h:PRel W F (lineR r) v):v = .tuple #[.string ⟨(r.getD []).toArray⟩,.int .i64 (lineE r)]:=by
 cases r with
 | none=>exact tup2_val rfl rfl h
 | some t=>exact tup2_val rfl rfl h
theorem size_cat (l:List UInt8):((⟨l.toArray⟩:ByteArray)++⟨#[10]⟩).size=l.length+1:=by
 rw [ByteArray.size_append]
 show l.toArray.size+1=_
 simp
theorem cells_cat (t l:List UInt8):Lib.byteCells t++Lib.strCells ((⟨l.toArray⟩:ByteArray)++⟨#[10]⟩)=Lib.byteCells (t++(l++[10])):=by
 rw [Lib.byteCells_append]
 congr 1
set_option maxHeartbeats 4000000 in
theorem sc_Script (w : World) (F : Nat -> Prop) (v : Value) (xs : List SI) (h : PRel w F (.sl (xs.map siC)) v) (hF : ∀ b, F b -> b < w.heap.size) (hL : LayL w F) (hok : ∀ x ∈ xs, x.Ok) (hn : xs.length <= 80700) :
    Calls Tryz.prog 14 #[v] w fun e w'=>e = .returned (scriptV xs)/\Below w.heap.size w w':=by
  obtain ⟨A,c,rfl⟩:=pr_len h
  have H:=Lib.hid h
  have HF:=Lib.hid hF
  have HL:=Lib.hid hL
  have Hok:=Lib.hid hok
  clear h hF hL hok
  go_enter Tryz.func14,Tryz.ntmps14
  go_wp2
  go_loopw [11] (fun i wr=>∃(k:Nat) (t:List UInt8),k<=xs.length/\i = .int .i64 k/\textF (xs.take k)=some t/\BuF w.heap.size w.heap.size (Lib.byteCells t) wr/\Below w.heap.size w wr) (fun i _=>xs.length - (intOf i).toNat)
  case atStart=>exact ⟨0,[],Nat.zero_le _,rfl,rfl,Lib.IsBuilderF.of (Lib.fresh_isBuilder _ _ w),(Below.refl _ w).alloc (Nat.le_refl _) _⟩
  case round =>
    obtain ⟨k,t,hk,rfl,ht,hI,hb⟩:=hrel
    by_cases hlt:k<xs.length
    · have hx:xs[k]?=some xs[k]:=List.getElem?_eq_getElem hlt
      have hxo:=Hok.out _ (List.getElem_mem hlt)
      have hsn:=take_snoc hx
      generalize xs[k]=x at hx hxo hsn
      have hs:PRel wr F (.sl (xs.map siC)) (.slice A xs.length c):=H.out.keep (fun b hb' _=>hb.block b (HF.out b hb')) (fun b h1 _=>h1)
      obtain ⟨b,off,v5,v7,v8,v9,rfl,hFb,hlb,c0,c1,c2,c3,c4,c5,c6,c7,c8,c9,⟨a5,n5,k5,rfl⟩,⟨a7,n7,k7,rfl⟩,⟨a8,n8,k8,rfl⟩,⟨a9,n9,k9,rfl⟩,hagg⟩:=sl_get hs hx
      obtain ⟨wx,hwx⟩:∃wx,wx=wr.alloc (.cells #[.int .i64 x.kind,.int .i64 x.a,.int .i64 x.b,.int .u64 x.head.hi.toNat,.int .u64 x.head.lo.toNat,.slice a5 n5 k5,.int .i64 (i64of x.want.tenants),.slice a7 n7 k7,.slice a8 n8 k8,.slice a9 n9 k9] 36):=⟨_,rfl⟩
      have Hwx:=Lib.hid hwx
      have Hb:=Lib.hid hb
      have HI:=Lib.hid hI
      have Ht:=Lib.hid ht
      have Hx:=Lib.hid hx
      have Hxo:=Lib.hid hxo
      have Hsn:=Lib.hid hsn
      have Hagg:=Lib.hid hagg
      have q1:(k:Int)<(xs.length:Int):=by omega
      clear hwx hb hI ht hs hx hxo hsn hagg hlt
      go_wp2_with fail
      rw [<- Hwx.out]
      have Hk0:=Lib.hid (show Below w.heap.size w wx by rw [Hwx.out];exact Hb.out.alloc Hb.out.size _)
      have hc:=(d_Line x Hxo.out).calls wx F [_] rfl (pw_cons (Hagg.out.keep (fun b h1 h2=>by rw [Hwx.out,heap_alloc_old _ _ h2]) fun b h1 _=>h1) pw_nil) (fun b hb=>Nat.lt_of_lt_of_le (HF.out b hb) Hk0.out.size) (HL.out.keep HF.out (fun b hb=>hb) fun b hb _=>Hk0.out.block b (HF.out b hb))
      refine hc.mono ?_
      clear hc
      rintro e w2 ⟨u,rfl,hk2,hp⟩
      obtain rfl:=line_val hp
      have Hk2:=Lib.hid hk2
      have HIx:BuF w.heap.size w.heap.size (Lib.byteCells t) wx:=by
        rw [Hwx.out]
        exact HI.out.alloc _
      have HI2:=Lib.hid (bu_keep (w':=w2) HIx fun k hk=>hk2.block k hk (fun h=>h))
      have Hk2:=Lib.hid (Hk0.out.trans (hk2.below (B:=w.heap.size) Hk0.out.size (fun _ _ h=>h)))
      clear hk2 hp HIx
      cases hl:lineW x with
      | none =>
        have Hz:=Lib.hid (show scriptL xs=([],1) from by
          have:textF (xs.take (k+1))=none:=by rw [Hsn.out,textF_snoc,Ht.out,hl];rfl
          unfold scriptL
          rw [textF_none this])
        simp only [Option.getD_none,lineE]
        clear hl
        go_wp2_with fail
        go_ret2
        refine ⟨?_,Hk2.out⟩
        unfold scriptV
        rw [Hz.out]
        rfl
      | some l =>
        have Hl:=Lib.hid hl
        simp only [Option.getD_some,lineE]
        have hle:=line_le Hxo.out hl
        have htl:=textF_len (n:=0) (xs.take k) t (fun y hy=>Hok.out y (List.mem_of_mem_take hy)) Ht.out
        have hkk:(xs.take k).length*1552001001<=80699*1552001001:=Nat.mul_le_mul_right _ (by rw [List.length_take];omega)
        have Hlen:=Lib.hid (show t.length+(l.length+1)<=140737488355328 by omega)
        have q2:¬9223372036854775807<l.length+1:=by omega
        clear hl hle htl hkk
        go_wp2_with fail
        refine (bu_WriteString _ _ _ _ _ HI2.out (by rw [Lib.byteCells_length,size_cat];exact Hlen.out) Hk2.out.size).mono ?_
        rintro e W3 ⟨rfl,h3,b3,k3⟩
        have Hb3:=Lib.hid (Hk2.out.trans b3)
        have H3:=Lib.hid h3
        clear h3 b3 k3
        go_wp2_with fail
        go_roundw
        case rel =>
          refine ⟨k+1,t++(l++[10]),by omega,by go_num,by rw [Hsn.out,textF_snoc,Ht.out,Hl.out];rfl,.inr ?_,Hb3.out⟩
          have h3:=H3.out
          rw [cells_cat] at h3
          exact h3
        case measure=>simp [intOf];omega
    · have Hb:=Lib.hid hb
      have HI:=Lib.hid hI
      rw [List.take_of_length_le (by omega)] at ht
      have Ht:=Lib.hid ht
      clear hb hI ht
      go_wp2_with fail
      refine (Tryz.Builder_Len_f _ _ _ _ HI.out).mono ?_
      rintro e W1 ⟨rfl,rfl⟩
      have Hbl:=Lib.hid (Lib.byteCells_length t)
      have Hbig:=Lib.hid (show 65536<t.length\/2048<xs.length->scriptL xs=([],6) from fun h=>by
        unfold scriptL
        rw [Ht.out]
        simp only
        rw [if_pos h])
      have Hsm:=Lib.hid (show ¬(65536<t.length\/2048<xs.length)->scriptL xs=(t,0) from fun h=>by
        unfold scriptL
        rw [Ht.out]
        simp only
        rw [if_neg h])
      rcases Nat.lt_or_ge 65536 t.length with h1 | h1
      · have n1:(65536:Int)<((Lib.byteCells t).length:Int):=by rw [Hbl.out];omega
        have Hz:=Lib.hid (Hbig.out (.inl h1))
        clear h1
        go_wp2_with fail
        go_ret2
        refine ⟨?_,Hb.out⟩
        unfold scriptV
        rw [Hz.out]
        rfl
      · have n1:¬(65536:Int)<((Lib.byteCells t).length:Int):=by rw [Hbl.out];omega
        rcases Nat.lt_or_ge 2048 xs.length with h2 | h2
        · have n2:(2048:Int)<(xs.length:Int):=by omega
          have Hz:=Lib.hid (Hbig.out (.inr h2))
          clear h1 h2
          go_wp2_with fail
          go_ret2
          refine ⟨?_,Hb.out⟩
          unfold scriptV
          rw [Hz.out]
          rfl
        · have n2:¬(2048:Int)<(xs.length:Int):=by omega
          have Hz:=Lib.hid (Hsm.out (by omega))
          clear h1 h2
          go_wp2_with fail
          refine (Tryz.Builder_String_any_k _ _ _ _ HI.out Hb.out.size).mono ?_
          rintro e W2 ⟨rfl,_,b1,_⟩
          have Hb1:=Lib.hid (Hb.out.trans b1)
          clear b1
          go_wp2_with fail
          go_ret2
          refine ⟨?_,Hb1.out⟩
          unfold scriptV
          rw [Hz.out]
          rfl
theorem d_Script (xs:List SI) (hok:∀x∈xs,x.Ok) (hn:xs.length<=80700):PDoes Tryz.prog 14 [.sl (xs.map siC)] (.tup [.s (scriptL xs).1,.i .i64 (scriptL xs).2]):=by
 refine PDoes.mkL1 ⟨_,_,Tryz.func14,rfl,by kernel_rfl⟩ fun W F v hv hF hL=>?_
 refine (sc_Script W F v xs hv hF hL hok hn).mono ?_
 rintro e W' ⟨rfl,hb⟩
 exact ⟨_,rfl,kp_below hb,.tup2 (.s _) (.i _ _)⟩
end Go.Proofs.YthgbdoofchknhaaGreatDoor.Sm
end
section
namespace Go.Proofs.YthgbdoofchknhaaGreatDoor.Sm
open Go.RowKit
theorem steps_textF:∀(xs:List SI) (t:List UInt8) (f:Nat) (acc:List SI),(∀x∈xs,x.Ok)->textF xs=some t->t.length<=f->stepsF f t acc = .inl (acc++xs)
  | [],t,f,acc,_,h,hf=>by
    obtain rfl:=Option.some.inj h
    rw [List.append_nil]
    cases f with
    | zero=>rfl
    | succ f=>rw [stepsF,if_pos rfl]
  | x::xs,t,f,acc,hok,h,hf=>by
    simp only [textF] at h
    cases hx:lineW x with
    | none=>rw [hx] at h;cases h
    | some l =>
      cases ht:textF xs with
      | none=>rw [hx,ht] at h;cases h
      | some t' =>
        rw [hx,ht] at h
        obtain rfl:=Option.some.inj h
        have hc:=line_chr (hok x (by simp)) hx
        obtain ⟨c1,c2⟩:=cut_find (u:=l++10::t') (m:=l.length) (by simp) (fun j c hj hlt=>by
          rw [List.getElem?_append_left hlt] at hj
          have:=hc c (List.mem_of_getElem? hj)
          rintro rfl
          revert this
          decide) (.inl (by simp))
        rw [List.take_left' rfl] at c1
        rw [<- List.drop_drop,List.drop_left' rfl] at c2
        rw [List.length_append,List.length_cons] at hf
        obtain ⟨g,rfl⟩:∃g,f=g+1:=⟨f - 1,by omega⟩
        rw [stepsF,if_neg (by simp),c1,c2,step_line (hok x (by simp)) hx]
        simp only
        show stepsF g t' (acc++[x])=_
        rw [steps_textF xs t' g (acc++[x]) (fun y hy=>hok y (by simp [hy])) ht (by omega),List.append_assoc]
        rfl
theorem ScriptTexts_d (xs:List SI) (hok:∀x∈xs,x.Ok) (hn:xs.length<=80700):PDoes Tryz.prog 7 [.sl (xs.map siC)] (.b true):=by
 refine PDoes.of_bodyN Tryz.func7 rfl (by kernel_rfl) rfl rfl ?_
 have h1:=d_Script xs hok hn
 have hz:scriptL xs=match textF xs with | none=>([],1) | some t=>if 65536<t.length\/2048<xs.length then ([],6) else (t,0):=rfl
 generalize scriptL xs=z at h1 hz
 obtain ⟨s,e⟩:=z
 refine jA ?_
 refine RG.callS rfl rfl rfl rfl rfl h1 rfl rfl ?_;refine wH rfl ?_;refine jA ?_
 refine AW.loopL (ι:=Nat × List UInt8) (fun i=>[(0,.sl (xs.map siC)),(3,.s s),(4,.i .i64 e),(5,.s i.2),(6,.i .i64 (i.1:Nat))]) (fun i=>[]) (fun i=>i.1<=xs.length/\textF (xs.take i.1)=some i.2) (fun i=>xs.length - i.1) (0,[]) ⟨Nat.zero_le _,rfl⟩ jW jW fun i hi=>?_
 obtain ⟨k,t⟩:=i
 obtain ⟨hk,ht⟩:=hi
 simp only at hk ht
 have htl:=textF_len (n:=0) (xs.take k) t (fun y hy=>hok y (List.mem_of_mem_take hy)) ht
 have hkk:(xs.take k).length*1552001001<=80700*1552001001:=Nat.mul_le_mul_right _ (by rw [List.length_take];omega)
 skip;(repeat (first | with_reducible refine AW.seq ?_ | with_reducible refine AW.skip ?_ | with_reducible refine AW.block ?_ | ((with_reducible refine RG.id ?_);refine RG.nil ⟨?_,?_⟩;· kernel_rfl) | ((with_reducible refine RG.id ?_);refine RG.nil ?_) | ((with_reducible refine AW.text ?_);refine RG.run ty_ok 0 400 rfl ?_) | ((with_reducible refine AW.draws mixed_ok ?_);refine RG.run ty_ok 0 400 rfl ?_)))
 rcases Nat.lt_or_ge k xs.length with h | h
 ·have hx:xs[k]?=some xs[k]:=List.getElem?_eq_getElem h
  have hxo:=hok _ (List.getElem_mem h)
  have hsn:=take_snoc hx
  generalize xs[k]=x at hx hxo hsn
  have hidx:(xs.map siC)[k]?=some (siC x):=by rw [List.getElem?_map,hx];rfl
  have h2:=d_lineL x hxo
  have h3:=line_law hxo
  unfold lawR at h2
  generalize lawL x=r at h2 h3
  obtain ⟨u,q⟩:=r
  simp only at h2 h3
  have hnx:=textF_snoc (xs.take k) x
  rw [<- hsn,ht,Option.bind_some,h3] at hnx
  refine AW.cond rfl (fun _=>?_) (fun h'=>?_)
  rotate_left
  ·have:¬((k:Nat):Int)<((xs.map siC).length:Int):=of_decide_eq_false h'
   rw [List.length_map] at this
   omega
  refine jA ?_
  refine RG.opS rfl (op_index rfl (tk rfl) rfl (tk rfl) rfl rfl hidx rfl) rfl ?_
  refine wH rfl ?_
  refine RG.callS rfl rfl rfl rfl rfl h2 rfl rfl ?_;refine wH rfl ?_;refine jA ?_
  cases q with
  | false =>
   rw [if_neg (by decide)] at hnx
   rw [textF_none hnx] at hz
   simp only [Prod.mk.injEq] at hz
   obtain ⟨rfl,rfl⟩:=hz
   refine AW.condT rfl ?_;refine jA ?_
   refine RG.callS rfl rfl rfl rfl rfl d_awakeS rfl rfl ?_;refine wH rfl ?_;refine jA ?_
   refine AW.ret (retQA ty_ok rfl rfl rfl ?_)
   rfl
  | true =>
   rw [if_pos rfl] at hnx h3
   have hul:=line_le hxo h3
   refine AW.condF rfl ?_;refine jA ?_
   refine RG.opS rfl (op_cat rfl rfl rfl (by show u.length+1<=_;omega)) rfl ?_
   refine wH rfl ?_
   refine RG.opS rfl (op_cat rfl rfl rfl (by rw [List.length_append];show t.length+(u.length+1)<=_;omega)) rfl ?_
   refine wH rfl ?_;refine jA ?_
   exact ⟨(k+1,t++(u++[10])),⟨⟨h,hnx⟩,by show xs.length - (k+1)<xs.length - k;omega⟩,⟨rI rfl rfl,rI rfl rfl,rI rfl rfl,rI rfl rfl,rI (i64_next (show k<xs.length from h) (by omega)) rfl,trivial⟩,jW⟩
 ·rw [List.take_of_length_le h] at ht
  rw [ht] at hz
  simp only at hz
  refine AW.cond rfl (fun h'=>?_) (fun _=>?_)
  ·have:((k:Nat):Int)<((xs.map siC).length:Int):=of_decide_eq_true h'
   rw [List.length_map] at this
   omega
  refine jB ?_
  refine AW.exit ?_
  refine Eq.mpr (if_pos rfl) ?_
  (repeat first|apply wA|apply wB|apply wC|apply wE|(apply zM;·kernel_rfl)|apply wF|apply wG)
  by_cases hb:2048<xs.length
  ·rw [if_pos (.inr hb)] at hz
   simp only [Prod.mk.injEq] at hz
   obtain ⟨rfl,rfl⟩:=hz
   refine RG.runO ty_ok 0 [(49,.b true)] 400 rfl ⟨congrArg AV.b (decide_eq_true (by rw [List.length_map];show (2048:Int)<_;omega)),trivial⟩ ?_
   refine jB ?_
   refine AW.condT rfl ?_;refine jA ?_
   refine RG.callS rfl rfl rfl rfl rfl d_awakeS rfl rfl ?_;refine wH rfl ?_;refine jA ?_
   refine AW.ret (retQA ty_ok rfl rfl rfl ?_)
   rfl
  by_cases hb2:65536<t.length
  ·rw [if_pos (.inl hb2)] at hz
   simp only [Prod.mk.injEq] at hz
   obtain ⟨rfl,rfl⟩:=hz
   refine RG.runO ty_ok 0 [(49,.b false),(53,.b true)] 400 rfl ⟨congrArg AV.b (decide_eq_true (by show (65536:Int)<(t.length:Int);omega)),congrArg AV.b (decide_eq_false (by rw [List.length_map];show ¬(2048:Int)<_;omega)),trivial⟩ ?_
   refine jB ?_
   refine AW.condT rfl ?_;refine jA ?_
   refine RG.callS rfl rfl rfl rfl rfl d_awakeS rfl rfl ?_;refine wH rfl ?_;refine jA ?_
   refine AW.ret (retQA ty_ok rfl rfl rfl ?_)
   rfl
  rw [if_neg (by omega)] at hz
  simp only [Prod.mk.injEq] at hz
  obtain ⟨rfl,rfl⟩:=hz
  refine RG.runO ty_ok 0 [(49,.b false),(53,.b false)] 400 rfl ⟨congrArg AV.b (decide_eq_false (by show ¬(65536:Int)<(s.length:Int);omega)),congrArg AV.b (decide_eq_false (by rw [List.length_map];show ¬(2048:Int)<_;omega)),trivial⟩ ?_
  have h4:=d_Steps s (by omega)
  have h5:stepsL s = .inl xs:=by
   have:=steps_textF xs s s.length [] hok ht (Nat.le_refl _)
   rw [List.nil_append] at this
   exact this
  rw [h5,stepsR,if_pos (by omega)] at h4
  refine jB ?_
  refine AW.condF rfl ?_;refine jA ?_
  refine RG.callMS rfl rfl rfl rfl rfl rfl h4 rfl ?_
  refine wH rfl ?_;refine jA ?_
  refine RG.callS rfl rfl rfl rfl rfl d_awakeS rfl rfl ?_
  refine RG.runO ty_ok 0 [(79,.b false),(94,.b false)] 400 rfl ⟨congrArg AV.b (by simp),congrArg AV.b (by simp),trivial⟩ ?_
  refine jB ?_
  refine AW.condF rfl ?_;refine jA ?_
  refine AW.loopL (ι:=Nat) (fun i=>[(0,.sl (xs.map siC)),(9,.sl (xs.map siC)),(12,.i .i64 (i:Nat))]) (fun i=>[]) (fun i=>i<=xs.length) (fun i=>xs.length - i) 0 (Nat.zero_le _) jW jW fun j hj=>?_
  refine jA ?_
  refine AW.cond rfl (fun h'=>?_) (fun _=>?_)
  ·have hjl:j<xs.length:=by
    have:((j:Nat):Int)<((xs.map siC).length:Int):=of_decide_eq_true h'
    rw [List.length_map] at this
    omega
   have hx:xs[j]?=some xs[j]:=List.getElem?_eq_getElem hjl
   generalize xs[j]=x at hx
   have hidx:(xs.map siC)[j]?=some (siC x):=by rw [List.getElem?_map,hx];rfl
   refine jB ?_
   refine AW.draws mixed_ok ?_
   refine wH rfl ?_
   refine RG.opS rfl (op_index rfl (tk rfl) rfl (tk rfl) rfl rfl hidx rfl) rfl ?_
   refine wH rfl ?_
   refine RG.opS rfl (op_index rfl (tk rfl) rfl (tk rfl) rfl rfl hidx rfl) rfl ?_
   refine wH rfl ?_
   refine RG.callS rfl rfl rfl rfl rfl (d_equalL x x true (decide_eq_true rfl)) rfl rfl ?_
   refine wH rfl ?_;refine jA ?_
   refine AW.condF rfl ?_;refine jA ?_
   exact ⟨j+1,⟨hjl,by show xs.length - (j+1)<xs.length - j;omega⟩,⟨rI rfl rfl,rI rfl rfl,rI (i64_next (show j<xs.length from hjl) (by omega)) rfl,trivial⟩,jW⟩
  ·refine jB ?_
   refine jE ?_;refine jA ?_
   refine AW.ret (retQA ty_ok rfl rfl rfl ?_)
   rfl
end Go.Proofs.YthgbdoofchknhaaGreatDoor.Sm
end
section
namespace Go.Proofs.YthgbdoofchknhaaGreatDoor
open Go.RowKit Go.WideShapes Go.ChangeShapes Go.Deep Sm
theorem bulk_one {H:Type} (d:DataW H):1<=Rows.uptoBulk d:=by
 cases d with
 | lit l=>cases l <;> simp [Rows.uptoBulk]
 | nil=>simp [Rows.uptoBulk]
 | ptr d=>simp [Rows.uptoBulk]
 | slice elems spare=>simp [Rows.uptoBulk]
 | agg parts=>simp [Rows.uptoBulk]
 | iface t d=>simp [Rows.uptoBulk]
 | map entries=>simp [Rows.uptoBulk]
 | held h=>simp [Rows.uptoBulk]
theorem bulk_all {H:Type} {k:Nat}:∀(l:List (DataW H)),(∀d∈l,k<=Rows.uptoBulk d)->l.length*k<=Rows.uptoBulkAll l
 | [],_=>by simp
 | d::l,h=>by
  have h1:=h d (by simp)
  have h2:=bulk_all l fun x hx=>h x (by simp [hx])
  rw [List.length_cons,Nat.add_mul,Rows.uptoBulkAll]
  omega
theorem bulk_sum {H:Type}:∀(l:List (DataW H × List MemPlace)) (b:Nat->Nat),(∀(j:Nat) (y:DataW H × List MemPlace),l[j]?=some y->b j<=Rows.uptoBulk y.1)->((List.range l.length).map b).sum<=Rows.uptoBulkAll (l.map (·.1))
 | [],b,_=>by simp
 | y::l,b,h=>by
  have h1:=h 0 y rfl
  have h2:=bulk_sum l (fun j=>b (j+1)) fun j z hj=>h (j+1) z (by simpa using hj)
  rw [List.length_cons,List.range_succ_eq_map,List.map_cons,List.sum_cons,List.map_cons,Rows.uptoBulkAll,List.map_map]
  exact Nat.add_le_add h1 h2
section
variable {H : Type} {enc : TypeId × Value -> H} {P : Program} {w : World} {base : Nat} {spare : Nat -> Bool} {held : Bool}
def BulkGe (enc:TypeId × Value->H) (P:Program) (w:World) (base:Nat) (spare:Nat->Bool) (held:Bool) (t:TypeId) (k:Nat):Prop:=∀(fuel:Nat) (cs:List Value) (x:DataW H × List MemPlace),DataW.trod enc P w base spare held fuel t cs=some x->k<=Rows.uptoBulk x.1
theorem BulkGe.one (t:TypeId):BulkGe enc P w base spare held t 1:=fun _ _ x _=>bulk_one x.1
theorem BulkGe.struct {t:TypeId} {fs:Array Field} (ht:P.underlying t=some (.struct fs)) (b:Nat->Nat) (hb:∀(j:Nat) (f:Field),fs[j]?=some f->BulkGe enc P w base spare held f.type (b j)):BulkGe enc P w base spare held t (((List.range fs.size).map b).sum+1):=fun fuel cs x h=>by
 obtain ⟨xs,n,_,rfl,hl,hlen,hf⟩:=DataW.trod_struct ht h
 have:=bulk_sum xs b fun j y hj=>by
  have hjl:j<fs.size:=by rw [<- hlen];exact (List.getElem?_eq_some_iff.1 hj).1
  have:=hf j fs[j] (Array.getElem?_eq_getElem hjl)
  rw [hj] at this
  exact hb j fs[j] (Array.getElem?_eq_getElem hjl) _ _ _ this
 rw [hlen] at this
 show _<=Rows.uptoBulk (.agg (xs.map (·.1)))
 rw [Rows.uptoBulk]
 omega
theorem bulk_step:BulkGe enc Tryz.prog w base spare held 36 13:=by
 have hH:BulkGe enc Tryz.prog w base spare held 24 3:=.struct Tryz.underlying24 (fun _=>1) fun j f hj=>.one _
 have hP:BulkGe enc Tryz.prog w base spare held 31 4:=.struct Tryz.underlying31 (fun _=>1) fun j f hj=>.one _
 have hC:BulkGe enc Tryz.prog w base spare held 34 7:=.struct Tryz.underlying34 (fun j=>if j=1 then 4 else 1) fun j f hj=>by
  match j,hj with
  | 0,hj=>exact .one _
  | 1,hj=>obtain rfl:=Option.some.inj hj;exact hP
  | 2,hj=>exact .one _
  | j+3,hj=>simp at hj
 exact .struct Tryz.underlying36 (fun j=>if j=3 then 3 else if j=4 then 6 else 1) fun j f hj=>by
  match j,hj with
  | 0,hj=>exact .one _
  | 1,hj=>exact .one _
  | 2,hj=>exact .one _
  | 3,hj=>obtain rfl:=Option.some.inj hj;exact hH
  | 4,hj=>obtain rfl:=Option.some.inj hj;exact fun a b c d=>Nat.le_trans (by decide) (hC a b c d)
  | j+5,hj=>simp at hj
end
theorem ScriptTexts_law {H:Type} {e:TypeId × Value->H} (W:World) (b0:Nat)
  (v0:Value) (d0:DataW H) (p0:List MemPlace) (ok0:Value.okWide Tryz.prog W .any b0 48 v0) (h0:DataW.Trod e Tryz.prog W 0 (fun _=>true) true 48 v0 d0 p0)
  (hk:Rows.uptoBulkAll [d0]<=1048576)
  (lay:LayL W (fun b=>b<W.heap.size))
  : Calls Tryz.prog 7 #[v0] W fun e W'=>e = .returned (.bool true)/\Kp No W W':=by
 obtain ⟨a,len,cap,rfl⟩:=okWide_slice Tryz.underlying48 ok0
 obtain ⟨fuel,hf⟩:=h0
 have hcells:(Value.slice a len cap).cells.toList=[.slice a len cap]:=by simp [Value.cells]
 rw [hcells] at hf
 obtain ⟨xs,hx⟩:=rd_Sts.read H e W _ _ _ fuel _ _ hf
 have r0:PRel W (fun b=>b<W.heap.size) (.sl (xs.map fun s=>siC s.si)) (.slice a len cap):=hx.rel 0 _ _ rfl rfl
 have e0:(xs.map fun s=>siC s.si)=(xs.map St0.si).map siC:=by rw [List.map_map];rfl
 rw [e0] at r0
 have hlen:len=xs.length:=by
  obtain ⟨A,c,hv⟩:=pr_len r0
  injection hv with _ h _
  rw [h,List.length_map]
 have hb:xs.length<=80700:=by
  rcases open_slice Tryz.underlying48 hf with ⟨h0,_⟩ | ⟨a',len',cap',m,n,D,Pl,h0,_,_,_,hm,hd,hel⟩
  ·simp only [List.cons.injEq,and_true] at h0
   injection h0 with _ h _
   omega
  ·simp only [List.cons.injEq,and_true] at h0
   injection h0 with _ h _
   subst h
   injection hd with hd _
   rw [hd] at hk
   have hlm:len<=m:=by rw [hm];simp only [if_true];omega
   have:=bulk_all (k:=13) ((List.range len).map D) fun d hd=>by
    obtain ⟨i,hi,rfl⟩:=List.mem_map.1 hd
    obtain ⟨cs',_,ht⟩:=hel i (by have:=List.mem_range.1 hi;omega)
    exact bulk_step _ _ _ ht
   rw [List.length_map,List.length_range] at this
   simp only [Rows.uptoBulkAll,Rows.uptoBulk] at hk
   omega
 exact (ScriptTexts_d (xs.map St0.si) (fun x hx=>by
  obtain ⟨s,_,rfl⟩:=List.mem_map.1 hx
  exact s.ok) (by rw [List.length_map];exact hb)).law (vs:=[.slice a len cap]) rfl (pw_cons r0 pw_nil) lay
end Go.Proofs.YthgbdoofchknhaaGreatDoor
end
