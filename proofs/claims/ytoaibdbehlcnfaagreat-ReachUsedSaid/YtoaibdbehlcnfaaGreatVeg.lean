/- Contracts of the program's functions over data, and the plain laws that they meet (part 7). No condition. -/
import Derived.Test.YtoaibdbehlcnfaaGreatVef
import Derived.WalkKit
import Derived.WalkSpells
import Derived.WalkLawsBesides
import Derived.Lib.Hide
import Derived.Deep.RegionHeld3
import Derived.Maps.AppendAt
import Derived.KernelRfl
import Derived.Lib.AppendStr
import Derived.Orders
import Derived.LoopTactic
import Derived.Laws.CopyRow
import Derived.Laws.Cells
import Derived.OrdersIn
import Derived.Laws.Externs
import Derived.TacticsIn
import Derived.RangeFuncLeaves
import Derived.RangeFuncRecord
import Derived.Great.BuildSlice
import Derived.Laws.ResultCell
import Derived.Laws.StructEq
import Derived.Laws.MakeOwn
import Derived.Deep.Slices
import Derived.Deep.Fields
import Derived.ChangeSame
import Derived.ProofKit
import Derived.OpenShut
import Derived.SizedLaws
import Derived.Test.YtoaibdbehlcnfaaGreatProg
import Derived.Shelf.Spec.BitsCarry
import Derived.Lib.AppendZerosOnto
import Derived.DeepKeys4
import Derived.MapKept
import Derived.Sort.AssemblyPlain
import Derived.Sort.LotD4
import Derived.Sort.Walk13a
import Derived.RangeFuncSeq
import Derived.RangeFuncIn
import Derived.Shelf.Sort.Plain
import Derived.Sort.OwnSortedInts
import Derived.Sort.LotA
set_option linter.unusedVariables false
set_option linter.unusedSimpArgs false
set_option maxRecDepth 100000
set_option maxHeartbeats 4000000
section
namespace Go.Proofs.YtoaibdbehlcnfaaGreat.Sm
open Go.RowKit
structure Pair where
 fro:Sp
 to:Sp
 head:Hd
deriving DecidableEq
def cPair (p:Pair):List AV:=[.i .i64 p.fro.sw,.i .i64 p.fro.port,.i .i64 p.to.sw,.i .i64 p.to.port,.u p.head.hi,.u p.head.lo]
def hasK (m:List (Sp × Hd)) (q:Sp):Bool:=m.any fun p=>decide (p.1=q)
def lookM (m:List (Sp × Hd)) (q:Sp):Option Hd:=(m.find? fun p=>decide (p.1=q)).map (·.2)
def firstS (c:Cf) (v:Int) (s:Sp) (m:List (Sp × Hd)) (a:Atom):List (Sp × Hd) :=
 bif decide ((runOf c s a.head v 10800).fin=2) && !hasK m (runOf c s a.head v 10800).at_ then m++[((runOf c s a.head v 10800).at_,a.head)] else m
def firstM (c:Cf) (v:Int) (s:Sp) (list:List Atom):List (Sp × Hd):=list.foldl (firstS c v s) []
def pairsM (s:Sp) (m:List (Sp × Hd)):List Sp->List Pair
 | []=>[]
 | t::l=>(match lookM m t with | some h=>[⟨s,t,h⟩] | none=>[])++pairsM s m l
def pairsOf (c:Cf) (v:Int) (list:List Atom) (s:Sp):List Pair:=pairsM s (firstM c v s list) (edges c.topo.ports)
theorem hasK_look {m:List (Sp × Hd)} {q:Sp}:hasK m q=(lookM m q).isSome:=by
 induction m with
 | nil=>rfl
 | cons p m ih =>
  rw [hasK,lookM,List.any_cons,List.find?_cons]
  cases decide (p.1=q)
  ·rw [Bool.false_or];exact ih
  ·rfl
theorem lookM_is {m:List (Sp × Hd)} (hn:(m.map (·.1)).Nodup) (q:Sp):SpIs m q (lookM m q):=by
 rw [lookM]
 cases hf:m.find? fun p=>decide (p.1=q) with
 | none=>exact .inl ⟨rfl,fun p hp e=>by
   have:=List.find?_eq_none.1 hf p hp
   simp [e] at this⟩
 | some p =>
  have h1:=List.mem_of_find?_eq_some hf
  have h2:=List.find?_some hf
  have h2:p.1=q:=by simpa using h2
  refine .inr ⟨p.2,rfl,h2 ▸ h1,fun p' hp' e=>?_⟩
  obtain ⟨i,hi,rfl⟩:=List.mem_iff_getElem.1 h1
  obtain ⟨j,hj,rfl⟩:=List.mem_iff_getElem.1 hp'
  have hi':i<(m.map (·.1)).length:=by simpa using hi
  have hj':j<(m.map (·.1)).length:=by simpa using hj
  have e2:(m.map (·.1))[i]=(m.map (·.1))[j]:=by simp [h2,e]
  have hp:=List.pairwise_iff_getElem.1 hn
  have hij:i=j:=by
   rcases Nat.lt_trichotomy i j with h | h | h
   ·exact absurd e2 (hp i j hi' hj' h)
   ·exact h
   ·exact absurd e2.symm (hp j i hj' hi' h)
  subst hij
  rfl
structure FirstOk (c:Cf) (m:List (Sp × Hd)):Prop where
 nodup:(m.map (·.1)).Nodup
 edge:∀p∈m,p.1∈edges c.topo.ports
theorem firstS_ok {c:Cf} (hc:c.Ok) {v:Int} {s:Sp} (hs:s∈edges c.topo.ports) {m:List (Sp × Hd)} (h:FirstOk c m) (a:Atom):FirstOk c (firstS c v s m a):=by
 rw [firstS]
 cases hk:decide ((runOf c s a.head v 10800).fin=2) && !hasK m (runOf c s a.head v 10800).at_
 ·exact h
 ·rw [cond_true]
  simp only [Bool.and_eq_true,decide_eq_true_eq,Bool.not_eq_true'] at hk
  refine ⟨?_,fun p hp=>?_⟩
  ·rw [List.map_append,List.nodup_append]
   refine ⟨h.nodup,by simp,fun x hx y hy e=>?_⟩
   obtain ⟨p,hp,rfl⟩:=List.mem_map.1 hx
   obtain rfl:=List.mem_singleton.1 hy
   have:=hk.2
   rw [hasK,List.any_eq_false] at this
   exact this p hp (by simpa using e)
  ·rcases List.mem_append.1 hp with hp | hp
   ·exact h.edge p hp
   ·obtain rfl:=List.mem_singleton.1 hp
    rcases runOf_at hc hs a.head v 10800 with h1 | h1
    ·exact h1.2
    ·exact absurd hk.1 h1.1
theorem firstF_ok {c:Cf} (hc:c.Ok) {v:Int} {s:Sp} (hs:s∈edges c.topo.ports):∀(l:List Atom) {m:List (Sp × Hd)},FirstOk c m->FirstOk c (l.foldl (firstS c v s) m)
 | [],m,h=>h
 | a::l,m,h=>firstF_ok hc hs l (firstS_ok hc hs h a)
theorem firstM_ok {c:Cf} (hc:c.Ok) {v:Int} {s:Sp} (hs:s∈edges c.topo.ports) (l:List Atom):FirstOk c (firstM c v s l):=firstF_ok hc hs l ⟨by simp,fun p hp=>by cases hp⟩
theorem pairsM_len (s:Sp) (m:List (Sp × Hd)):∀(l:List Sp),(pairsM s m l).length<=l.length
 | []=>Nat.le_refl _
 | t::l=>by
  have:=pairsM_len s m l
  rw [pairsM,List.length_append,List.length_cons]
  cases lookM m t <;> simp <;> omega
theorem d_rpairs (c : Cf) (h0 : c.sound = 0) (hL : LooksOk c) (s : Sp) (hs : s ∈ edges c.topo.ports) (v : Nat) (hV : v <= 255) (list : List Atom) :
    PDoes Tryz.prog 59 [.ro (cLk c v list),.agg (cSp s)] (.sl ((pairsOf c v list s).map cPair)):=by
  refine PDoes.of_bodyN Tryz.func59 rfl (by kernel_rfl) rfl rfl ?_
  have hc:=Cf.ok h0
  refine jA ?_
  refine RG.opS rfl (op_makeMap (id:=15) rfl) rfl ?_
  refine wH rfl ?_;refine jA ?_
  refine RG.callMS rfl rfl rfl rfl rfl rfl (d_runs c v list s) rfl ?_;refine wH rfl ?_;refine jA ?_
  refine AW.rangeFunc (i_runs c h0 hL s hs v hV list) rfl rfl (fun x=>rfl) rfl [3,5] [(0,.ro (cLk c v list)),(3,.own 3 0 0),(5,.own 5 0 0)] (fun pre=>[(3,⟨0,some (.box 42 (cSp s))⟩),(5,⟨0,some (.box 203 [.ref 15 0 .map])⟩),(15,⟨0,some (mapS (firstM c v s (list.take pre.length)))⟩)]) ?_ ?_ rfl ?_ (fun pre=>rfl) ?_ ?_
  · exact ⟨Rn.is rfl rfl,Rn.ownIs rfl rfl rfl,Rn.ownIs rfl rfl rfl,trivial⟩
  · exact ⟨WkB1.same rfl rfl rfl,.boxL rfl ⟨Rn.refIs rfl rfl rfl,trivial⟩ rfl,.obj rfl rfl,trivial⟩
  · intro pre id hid
    simp only [List.mem_cons,List.not_mem_nil,or_false] at hid
    rcases hid with rfl | rfl
    · exact ⟨by decide,_,rfl⟩
    · exact ⟨by decide,_,rfl⟩
  · rintro q _ k ⟨rfl,hk⟩
    have hget:list.getD k ⟨[],Hd.zero,[]⟩=list[k]:=by rw [List.getD_eq_getElem?_getD,List.getElem?_eq_getElem hk];rfl
    have henc:encR c v s list k=[.agg (cHd list[k].head),.agg (cRun (runOf c s list[k].head v 10800))]:=by rw [encR,hget]
    have hok:=firstM_ok hc (v:=(v:Int)) hs (list.take (List.range k).length)
    have hstep:firstM c v s (list.take (List.range k++[k]).length)=firstS c v s (firstM c v s (list.take (List.range k).length)) list[k]:=by
      rw [List.length_append,List.length_range,List.length_singleton,List.take_add_one,List.getElem?_eq_getElem hk,firstM,List.foldl_append]
      rfl
    have hat:=runOf_at hc hs list[k].head (v:Int) 10800
    generalize firstM c v s (list.take (List.range k++[k]).length)=m' at hstep
    generalize firstM c v s (list.take (List.range k).length)=m at hstep hok
    rw [firstS] at hstep
    rw [henc]
    clear henc hget
    generalize list[k].head=h at hstep hat
    generalize runOf c s h v 10800=r at hstep hat
    have hsm:∀p∈m,p.1.small:=fun p hp=>edges_small hc.topo (hok.edge p hp)
    have hq:r.at_.small:=by
      rcases hat with ⟨_,h1⟩ | ⟨_,h1⟩
      · exact edges_small hc.topo h1
      · rw [h1];exact small_zero
    have hlk:=lookM_is hok.nodup r.at_
    rw [hasK_look] at hstep
    refine jA ?_
    refine RG.opS rfl (op_lookSp (lookM m r.at_) rfl rfl rfl rfl hsm hq hlk) rfl ?_
    by_cases k2:r.fin=2
    · rw [decide_eq_true k2,Bool.true_and] at hstep
      cases hl:lookM m r.at_ with
      | some x =>
        rw [hl] at hstep
        obtain rfl:m'=m:=hstep
        refine wH rfl ?_
        refine jB ?_
        refine AW.text ?_
        refine RG.runO ty_ok 0 [(30,.b true)] 400 rfl jD ?_
        refine jB ?_;refine AW.condF rfl ?_;refine jA ?_
        exact ⟨.ghost rfl rfl rfl,.ghost rfl rfl rfl,WkB1.same rfl rfl rfl,.boxL rfl ⟨Rn.refIs rfl rfl rfl,trivial⟩ rfl,.obj rfl rfl,trivial⟩
      | none =>
        rw [hl] at hstep hlk
        have hnk:∀p∈m,p.1≠r.at_:=by
          rcases hlk with ⟨_,h5⟩ | ⟨x,h5,_⟩
          · exact h5
          · cases h5
        obtain rfl:m'=m++[(r.at_,h)]:=hstep
        refine wH rfl ?_
        refine jB ?_
        refine AW.text ?_
        refine RG.runO ty_ok 0 [(30,.b true)] 400 rfl jD ?_
        refine jB ?_;refine AW.condT rfl ?_;refine jA ?_
        refine RG.opS rfl (op_putSp rfl rfl rfl rfl rfl hsm hq hnk) rfl ?_
        refine wH rfl ?_;refine jA ?_
        exact ⟨.ghost rfl rfl rfl,.ghost rfl rfl rfl,WkB1.same rfl rfl rfl,.boxL rfl ⟨Rn.refIs rfl rfl rfl,trivial⟩ rfl,.obj rfl rfl,trivial⟩
    · rw [decide_eq_false k2,Bool.false_and] at hstep
      obtain rfl:m'=m:=hstep
      refine wH rfl ?_
      refine jB ?_
      refine AW.text ?_
      refine RG.runO ty_ok 0 [(30,.b false)] 400 rfl jD ?_
      refine jB ?_;refine AW.condF rfl ?_;refine jA ?_
      exact ⟨.ghost rfl rfl rfl,.ghost rfl rfl rfl,WkB1.same rfl rfl rfl,.boxL rfl ⟨Rn.refIs rfl rfl rfl,trivial⟩ rfl,.obj rfl rfl,trivial⟩
  · rintro q _ rfl
    have hfull:firstM c v s (list.take (List.range list.length).length)=firstM c v s list:=by rw [List.length_range,List.take_length]
    have hok:=firstM_ok hc (v:=(v:Int)) hs list
    rw [hfull,pairsOf]
    generalize firstM c v s list=m at hok
    have hsm:∀p∈m,p.1.small:=fun p hp=>edges_small hc.topo (hok.edge p hp)
    refine jB ?_
    refine AW.text ?_
    refine RG.opS rfl (op_nilRow 10 69 6 rfl) rfl ?_
    refine wH rfl ?_;refine jA ?_
    refine RG.callMS rfl rfl rfl rfl rfl rfl (d_Edges c.topo.ports hc.topo) rfl ?_;refine wH rfl ?_;refine jA ?_
    have hE:=edges_len hc.topo
    have hEs:∀x∈edges c.topo.ports,x.small:=fun x hx=>edges_small hc.topo hx
    generalize edges c.topo.ports=E at hE hEs
    have hml:E.length<=9223372036854775807:=by omega
    have hPl:=pairsM_len s m E
    refine AW.loopL (ι:=Nat × List Pair) (fun i=>[(3,.own 3 0 0),(5,.own 5 0 0),(10,.row 10 0 0 (i.2.map cPair).length),(44,.sl (E.map cSp)),(45,.i .i64 (E.map cSp).length),(46,.i .i64 (i.1:Nat))]) (fun i=>[(3,⟨0,some (.box 42 (cSp s))⟩),(5,⟨0,some (.box 203 [.ref 15 0 .map])⟩),(15,⟨0,some (mapS m)⟩),(10,⟨0,some (.row 69 6 (i.2.map cPair))⟩)]) (fun i=>i.1<=E.length/\i.2++pairsM s m (E.drop i.1)=pairsM s m E) (fun i=>E.length - i.1) (0,[]) ⟨Nat.zero_le _,rfl⟩ jV ⟨WkB1.same rfl rfl rfl,.boxL rfl ⟨Rn.refIs rfl rfl rfl,trivial⟩ rfl,.obj rfl rfl,.row rfl rfl,trivial⟩ fun i hi=>?_
    obtain ⟨k,out⟩:=i
    obtain ⟨hk,hf⟩:=hi
    simp only at hk hf
    refine jA ?_
    refine AW.cond rfl (fun h=>?_) (fun h=>?_)
    rotate_left
    · have h:¬k<E.length:=by simpa using h
      obtain rfl:k=E.length:=by omega
      rw [List.drop_length,pairsM,List.append_nil] at hf
      refine jA ?_
      refine AW.exit ?_;refine Eq.mpr (if_pos rfl) ?_;refine jA ?_
      refine AW.ret (retQA ty_ok rfl rfl rfl ?_)
      exact rowAll (congrArg (List.map cPair) hf)
    have h:k<E.length:=by simpa using h
    rw [List.drop_eq_getElem_cons h,pairsM] at hf
    have hx:=hEs _ (List.getElem_mem h)
    refine jB ?_
    refine AW.text ?_
    refine RG.opS rfl (op_index rfl (tab_ok ty_ok rfl) rfl (tab_ok ty_ok rfl) rfl rfl (show (E.map cSp)[k]?=some (cSp E[k]) by rw [List.getElem?_map,List.getElem?_eq_getElem (by assumption)];rfl) rfl) rfl ?_
    generalize E[k]=t at hf hx
    refine wH rfl ?_;refine jA ?_
    refine RG.opS rfl (op_lookSp (lookM m t) rfl rfl rfl rfl hsm hx (lookM_is hok.nodup t)) rfl ?_
    cases hl:lookM m t with
    | none =>
      rw [hl] at hf
      refine wH rfl ?_;refine jA ?_
      refine AW.condF rfl ?_;refine jA ?_
      exact ⟨(k+1,out),⟨⟨h,hf⟩,by show E.length - (k+1)<E.length - k;omega⟩,jV,⟨WkB1.same rfl rfl rfl,.boxL rfl ⟨Rn.refIs rfl rfl rfl,trivial⟩ rfl,.obj rfl rfl,.row rfl rfl,trivial⟩⟩
    | some g =>
      rw [hl] at hf
      have hol:out.length<=36:=by
        have:=congrArg List.length hf
        rw [List.length_append] at this
        omega
      refine wH rfl ?_;refine jA ?_
      refine AW.condT rfl ?_;refine jB ?_
      refine AW.text ?_
      refine wH rfl ?_
      refine RG.opS rfl (op_app1 cPair out ⟨s,t,g⟩ (by omega) rfl rfl rfl rfl (tab_ok ty_ok rfl) rfl (tab_ok ty_ok rfl) rfl rfl ⟨_,rfl,rfl⟩ rfl rfl) rfl ?_;refine wH rfl ?_;refine jA ?_
      exact ⟨(k+1,_),⟨⟨h,by rw [<- hf];simp⟩,by show E.length - (k+1)<E.length - k;omega⟩,jV,⟨WkB1.same rfl rfl rfl,.boxL rfl ⟨Rn.refIs rfl rfl rfl,trivial⟩ rfl,.obj rfl rfl,.row rfl rfl,trivial⟩⟩
end Go.Proofs.YtoaibdbehlcnfaaGreat.Sm
end
section
namespace Go.Proofs.YtoaibdbehlcnfaaGreat.Sm
open Go.RowKit
theorem d_Clip_Pair (l:List Pair):PDoes Tryz.prog 60 [.sl (l.map cPair)] (.sl (l.map cPair)):=by
 refine PDoes.of_bodyN Tryz.func60 rfl (by kernel_rfl) rfl rfl ?_
 refine jA ?_
 refine RG.opS rfl (op_clip rfl (tab_ok ty_ok rfl) rfl (tab_ok ty_ok rfl) rfl rfl rfl) rfl ?_
 refine wH rfl ?_;refine jA ?_
 refine AW.ret (retQA ty_ok rfl rfl rfl ?_)
 rfl
theorem lookE_mal {c:Cf} {V:Int} (h:lookE c V=0):malE c V=0:=by
 rw [lookE] at h
 by_cases h1:malE c V=0
 ·exact h1
 ·rw [decide_eq_false h1,cond_false] at h
  exact h
theorem malE_nat {c:Cf} {V:Int} (h:malE c V=0):c.sound=0/\∃v:Nat,V=v/\v<=255:=by
 refine ⟨malE_sound h,?_⟩
 rw [malE,if_pos (malE_sound h)] at h
 split at h
 ·cases h
 ·exact ⟨V.toNat,by omega,by omega⟩
def pairsE (c:Cf) (v:Int) (list:List Atom):List Sp->List Pair
 | []=>[]
 | s::l=>pairsOf c v list s++pairsE c v list l
def pairsAll (c:Cf) (v:Int):List Pair:=pairsE c v (lookA c v) (edges c.topo.ports)
theorem pairsE_len {c:Cf} (hc:c.Ok) (v:Int) (list:List Atom):∀(l:List Sp),(pairsE c v list l).length<=36*l.length
 | []=>Nat.zero_le _
 | s::l=>by
  have h1:=pairsE_len hc v list l
  have h2:=pairsM_len s (firstM c v s list) (edges c.topo.ports)
  have h3:=edges_len hc.topo
  rw [pairsE,List.length_append,List.length_cons,pairsOf]
  omega
def rpairsR (c:Cf) (V:Int):AV:=bif decide (lookE c V=0) then .tup [.sl ((pairsAll c V).map cPair),.i .i64 0] else .tup [.sl [],.i .i64 (lookE c V)]
theorem d_RPairs (c:Cf) (V:Int) (hL:c.Lens):PDoes Tryz.prog 21 [.agg (cCf c),.i .i64 V] (rpairsR c V):=by
  refine PDoes.of_bodyN Tryz.func21 rfl (by kernel_rfl) rfl rfl ?_
  rw [rpairsR]
  have hl:=d_look c V hL
  rw [lookR] at hl
  by_cases he:lookE c V=0
  rotate_left
  · rw [decide_eq_false he] at hl ⊢
    refine jA ?_
    refine RG.callMS rfl rfl rfl rfl rfl rfl hl rfl ?_;refine wH rfl ?_;refine jA ?_
    refine AW.cond rfl (fun h=>?_) (fun h=>?_)
    rotate_left
    · exact absurd (by simpa using h) he
    refine jA ?_
    refine AW.ret (retQA ty_ok rfl rfl rfl ?_)
    rfl
  rw [decide_eq_true he] at hl ⊢
  obtain ⟨h0,v,rfl,hV⟩:=malE_nat (lookE_mal he)
  have hLk:=looks_any h0 hL
  have hc:=Cf.ok h0
  have hE:=edges_len hc.topo
  have hme:(edges c.topo.ports).length<=9223372036854775807:=by omega
  have hPl:=pairsE_len hc v (lookA c v) (edges c.topo.ports)
  refine jA ?_
  refine RG.callMS rfl rfl rfl rfl rfl rfl hl rfl ?_;refine wH rfl ?_;refine jA ?_
  refine AW.condF rfl ?_;refine jB ?_
  refine AW.text ?_
  refine RG.opS rfl (op_nilRow 8 69 6 rfl) rfl ?_
  refine wH rfl ?_;refine jA ?_
  refine RG.callMS rfl rfl rfl rfl rfl rfl (d_Edges c.topo.ports hc.topo) rfl ?_;refine wH rfl ?_;refine jA ?_
  rw [pairsAll]
  have hes:∀s∈edges c.topo.ports,PDoes Tryz.prog 59 [.ro (cLk c v (lookA c v)),.agg (cSp s)] (.sl ((pairsOf c v (lookA c v) s).map cPair)):=fun s hs=>d_rpairs c h0 hLk s hs v hV _
  have hpl:∀s,(pairsOf c v (lookA c v) s).length<=36:=fun s=>by
    have:=pairsM_len s (firstM c v s (lookA c v)) (edges c.topo.ports)
    rw [pairsOf]
    omega
  generalize lookA c v=list at hPl hes hpl
  generalize edges c.topo.ports=E at hE hme hPl hes
  refine AW.loopL (ι:=Nat × List Pair) (fun i=>[(6,.ro (cLk c v list)),(8,.row 8 0 0 (i.2.map cPair).length),(22,.sl (E.map cSp)),(23,.i .i64 (E.map cSp).length),(24,.i .i64 (i.1:Nat))]) (fun i=>[(8,⟨0,some (.row 69 6 (i.2.map cPair))⟩)]) (fun i=>i.1<=E.length/\i.2++pairsE c v list (E.drop i.1)=pairsE c v list E) (fun i=>E.length - i.1) (0,[]) ⟨Nat.zero_le _,rfl⟩ jV jW fun i hi=>?_
  obtain ⟨k,out⟩:=i
  obtain ⟨hk,hf⟩:=hi
  simp only at hk hf
  refine jA ?_
  refine AW.cond rfl (fun h=>?_) (fun h=>?_)
  rotate_left
  · have h:¬k<E.length:=by simpa using h
    obtain rfl:k=E.length:=by omega
    rw [List.drop_length,pairsE,List.append_nil] at hf
    subst hf
    refine jA ?_
    refine AW.exit ?_;refine Eq.mpr (if_pos rfl) ?_;refine jA ?_
    refine RG.callMS rfl rfl rfl rfl (congrArg (fun x=>[x]) (rowAll rfl)) rfl (d_Clip_Pair (pairsE c v list E)) rfl ?_;refine wH rfl ?_;refine jA ?_
    refine AW.ret (retQA ty_ok rfl rfl rfl ?_)
    rfl
  have h:k<E.length:=by simpa using h
  rw [List.drop_eq_getElem_cons h,pairsE] at hf
  have hp:=hes _ (List.getElem_mem h)
  have hx:=hpl E[k]
  refine jB ?_
  refine AW.text ?_
  refine RG.opS rfl (op_index rfl (tab_ok ty_ok rfl) rfl (tab_ok ty_ok rfl) rfl rfl (show (E.map cSp)[k]?=some (cSp E[k]) by rw [List.getElem?_map,List.getElem?_eq_getElem (by assumption)];rfl) rfl) rfl ?_
  generalize E[k]=t at hf hp hx
  generalize pairsOf c v list t=ps at hf hp hx
  have hol:out.length<=1296:=by
    have:=congrArg List.length hf
    rw [List.length_append] at this
    omega
  refine wH rfl ?_;refine jA ?_
  refine RG.callMS rfl rfl rfl rfl rfl rfl hp rfl ?_
  refine wH rfl ?_
  refine RG.opS rfl (op_appL cPair out ps (by omega) (fun _=>rfl) rfl rfl rfl rfl (tab_ok ty_ok rfl) rfl (tab_ok ty_ok rfl) rfl rfl ⟨_,rfl,rfl⟩ rfl) rfl ?_;refine wH rfl ?_;refine jA ?_
  exact ⟨(k+1,_),⟨⟨h,by rw [<- hf,List.append_assoc]⟩,by show E.length - (k+1)<E.length - k;omega⟩,jV,jW⟩
def fromE (c:Cf) (V:Int) (s:Sp):Int:=bif decide (malE c V=0) then (bif decide (s∈edges c.topo.ports) then lookE c V else 7) else malE c V
def rfromR (c:Cf) (V:Int) (s:Sp):AV:=bif decide (fromE c V s=0) then .tup [.sl (((pairsOf c V (lookA c V) s).map Pair.to).map cSp),.i .i64 0] else .tup [.sl [],.i .i64 (fromE c V s)]
theorem d_RFrom (c:Cf) (V:Int) (s:Sp) (hL:c.Lens):PDoes Tryz.prog 28 [.agg (cCf c),.i .i64 V,.agg (cSp s)] (rfromR c V s):=by
  refine PDoes.of_bodyN Tryz.func28 rfl (by kernel_rfl) rfl rfl ?_
  rw [rfromR]
  have hm:=d_rsound c V
  by_cases h1:malE c V=0
  rotate_left
  · have e:fromE c V s=malE c V:=by rw [fromE,decide_eq_false h1];rfl
    rw [e,decide_eq_false h1]
    refine jA ?_
    refine RG.callS rfl rfl rfl rfl rfl hm rfl rfl ?_;refine wH rfl ?_;refine jA ?_
    refine AW.cond rfl (fun h=>?_) (fun h=>?_)
    rotate_left
    · exact absurd (by simpa using h) h1
    refine jA ?_
    refine AW.ret (retQA ty_ok rfl rfl rfl ?_)
    rfl
  obtain ⟨h0,v,rfl,hV⟩:=malE_nat h1
  rw [h1] at hm
  have hc:=Cf.ok h0
  have hE:=edges_len hc.topo
  refine jA ?_
  refine RG.callS rfl rfl rfl rfl rfl hm rfl rfl ?_;refine wH rfl ?_;refine jA ?_
  refine AW.condF rfl ?_;refine jA ?_
  refine RG.callMS rfl rfl rfl rfl rfl rfl (d_Edges c.topo.ports hc.topo) rfl ?_
  refine wH rfl ?_
  by_cases hs:s∈edges c.topo.ports
  rotate_left
  · have e:fromE c v s=7:=by rw [fromE,decide_eq_true h1,decide_eq_false hs];rfl
    rw [e]
    refine RG.callS rfl rfl rfl rfl rfl (d_Contains_Sp s _ false (decide_eq_false hs)) rfl rfl ?_;refine wH rfl ?_;refine jA ?_
    refine AW.condT rfl ?_;refine jA ?_
    refine AW.ret (retQA ty_ok rfl rfl rfl ?_)
    rfl
  have e:fromE c v s=lookE c v:=by rw [fromE,decide_eq_true h1,decide_eq_true hs];rfl
  rw [e]
  have hl:=d_look c v hL
  rw [lookR] at hl
  refine RG.callS rfl rfl rfl rfl rfl (d_Contains_Sp s _ true (decide_eq_true hs)) rfl rfl ?_;refine wH rfl ?_;refine jA ?_
  refine AW.condF rfl ?_;refine jA ?_
  by_cases he:lookE c v=0
  rotate_left
  · rw [decide_eq_false he] at hl ⊢
    refine RG.callMS rfl rfl rfl rfl rfl rfl hl rfl ?_;refine wH rfl ?_;refine jA ?_
    refine AW.cond rfl (fun h=>?_) (fun h=>?_)
    rotate_left
    · exact absurd (by simpa using h) he
    refine jA ?_
    refine AW.ret (retQA ty_ok rfl rfl rfl ?_)
    rfl
  rw [decide_eq_true he] at hl ⊢
  have hp:=d_rpairs c h0 (looks_any h0 hL) s hs v hV (lookA c v)
  have hx:(pairsOf c v (lookA c v) s).length<=36:=by
    have:=pairsM_len s (firstM c v s (lookA c v)) (edges c.topo.ports)
    rw [pairsOf]
    omega
  refine RG.callMS rfl rfl rfl rfl rfl rfl hl rfl ?_;refine wH rfl ?_;refine jA ?_
  refine AW.condF rfl ?_;refine jB ?_
  refine AW.text ?_
  refine RG.opS rfl (op_nilRow 11 42 2 rfl) rfl ?_
  refine wH rfl ?_;refine jA ?_
  refine RG.callMS rfl rfl rfl rfl rfl rfl hp rfl ?_;refine wH rfl ?_;refine jA ?_
  generalize pairsOf c v (lookA c v) s=E at hx
  have hme:E.length<=9223372036854775807:=by omega
  refine AW.loopL (ι:=Nat × List Sp) (fun i=>[(11,.row 11 0 0 (i.2.map cSp).length),(37,.sl (E.map cPair)),(38,.i .i64 (E.map cPair).length),(39,.i .i64 (i.1:Nat))]) (fun i=>[(11,⟨0,some (.row 42 2 (i.2.map cSp))⟩)]) (fun i=>i.1<=E.length/\i.2++(E.drop i.1).map Pair.to=E.map Pair.to) (fun i=>E.length - i.1) (0,[]) ⟨Nat.zero_le _,rfl⟩ jV jW fun i hi=>?_
  obtain ⟨k,out⟩:=i
  obtain ⟨hk,hf⟩:=hi
  simp only at hk hf
  refine jA ?_
  refine AW.cond rfl (fun h=>?_) (fun h=>?_)
  rotate_left
  · have h:¬k<E.length:=by simpa using h
    obtain rfl:k=E.length:=by omega
    rw [List.drop_length,List.map_nil,List.append_nil] at hf
    subst hf
    refine jA ?_
    refine AW.exit ?_;refine Eq.mpr (if_pos rfl) ?_;refine jA ?_
    refine RG.callMS rfl rfl rfl rfl (congrArg (fun x=>[x]) (rowAll rfl)) rfl (d_Clip_Sp (E.map Pair.to)) rfl ?_;refine wH rfl ?_;refine jA ?_
    refine AW.ret (retQA ty_ok rfl rfl rfl ?_)
    rfl
  have h:k<E.length:=by simpa using h
  rw [List.drop_eq_getElem_cons h,List.map_cons] at hf
  have hol:out.length<=36:=by
    have:=congrArg List.length hf
    rw [List.length_append,List.length_map] at this
    omega
  refine jB ?_
  refine AW.text ?_
  refine RG.opS rfl (op_index rfl (tab_ok ty_ok rfl) rfl (tab_ok ty_ok rfl) rfl rfl (show (E.map cPair)[k]?=some (cPair E[k]) by rw [List.getElem?_map,List.getElem?_eq_getElem (by assumption)];rfl) rfl) rfl ?_
  generalize E[k]=t at hf
  refine wH rfl ?_;refine jA ?_
  refine RG.opS rfl (op_app1 cSp out t.to (by omega) rfl rfl rfl rfl (tab_ok ty_ok rfl) rfl (tab_ok ty_ok rfl) rfl rfl ⟨_,rfl,rfl⟩ rfl rfl) rfl ?_;refine wH rfl ?_;refine jA ?_
  exact ⟨(k+1,out++[t.to]),⟨⟨h,by rw [<- hf,List.append_assoc];rfl⟩,by show E.length - (k+1)<E.length - k;omega⟩,jV,jW⟩
end Go.Proofs.YtoaibdbehlcnfaaGreat.Sm
end
section
namespace Go.Proofs.YtoaibdbehlcnfaaGreat.Sm
open Go.RowKit
def numRow:Nat->List (List Rl)->List Int
 | _,[]=>[]
 | n,l::ls=>(n:Int)::numRow (n+l.length) ls
def lenT (t:List (List Rl)):Nat:=(t.map List.length).sum
def numAll:Nat->List (List (List Rl))->List (List Int)
 | _,[]=>[]
 | n,t::ts=>numRow n t::numAll (n+lenT t) ts
theorem numRow_len:∀(n:Nat) (t:List (List Rl)),(numRow n t).length=t.length
 | _,[]=>rfl
 | n,l::ls=>by rw [numRow,List.length_cons,List.length_cons,numRow_len]
theorem numAll_len:∀(n:Nat) (t:List (List (List Rl))),(numAll n t).length=t.length
 | _,[]=>rfl
 | n,l::ls=>by rw [numAll,List.length_cons,List.length_cons,numAll_len]
theorem lenT_cons (l:List Rl) (t:List (List Rl)):lenT (l::t)=l.length+lenT t:=by rw [lenT,List.map_cons,List.sum_cons];rfl
def cNum (x:List Int):List AV:=[.sl (x.map cI)]
theorem i64_sum {a b:Nat} (h:a+b<=9223372036854775807):AV.i .i64 (IntKind.i64.wrap ((a:Int)+(b:Int))) = .i .i64 ((a+b:Nat):Int):=by
 rw [show IntKind.i64.wrap ((a:Int)+(b:Int))=(a:Int)+b by rw [IntKind.wrap_i64];omega]
 rfl
theorem d_numbers (c:Cf) (hn:c.tables.length<=1000000) (hb:∀t∈c.tables,t.length<=1000000) (hs:(c.tables.map lenT).sum<=1000000000):PDoes Tryz.prog 68 [.agg (cCf c)] (.sl ((numAll 0 c.tables).map cNum)):=by
  refine PDoes.of_bodyN Tryz.func68 rfl (by kernel_rfl) rfl rfl ?_
  have hlen:(c.tables.map cTab).length=c.tables.length:=List.length_map ..
  have hal:=numAll_len 0 c.tables
  have hml:c.tables.length<=9223372036854775807:=by omega
  refine jB ?_;refine wF ?_;refine wH rfl ?_;refine jB ?_
  refine AW.text ?_
  refine RG.opS rfl (op_nilRow 3 74 1 rfl) rfl ?_
  refine wH rfl ?_;refine jA ?_
  refine AW.loopL (ι:=Nat × List (List Int) × Nat) (fun i=>[(3,.row 3 0 0 (i.2.1.map cNum).length),(4,.i .i64 (i.2.2:Nat)),(11,.sl (c.tables.map cTab)),(12,.i .i64 (c.tables.map cTab).length),(13,.i .i64 (i.1:Nat))]) (fun i=>[(3,⟨0,some (.row 74 1 (i.2.1.map cNum))⟩)]) (fun i=>i.1<=c.tables.length/\i.2.1++numAll i.2.2 (c.tables.drop i.1)=numAll 0 c.tables/\i.2.2+((c.tables.drop i.1).map lenT).sum<=1000000000) (fun i=>c.tables.length - i.1) (0,[],0) ⟨Nat.zero_le _,rfl,by rw [Nat.zero_add];exact hs⟩ jV jW fun i hi=>?_
  obtain ⟨k,out,n⟩:=i
  obtain ⟨hk,hf,hsum⟩:=hi
  simp only at hk hf hsum
  refine jA ?_
  refine AW.cond rfl (fun h=>?_) (fun h=>?_)
  rotate_left
  · have h:¬k<c.tables.length:=by simpa using h
    obtain rfl:k=c.tables.length:=by omega
    rw [List.drop_length,numAll,List.append_nil] at hf
    refine jA ?_
    refine AW.exit ?_;refine Eq.mpr (if_pos rfl) ?_;refine jA ?_
    refine AW.ret (retQA ty_ok rfl rfl rfl ?_)
    exact rowAll (congrArg (List.map cNum) hf)
  have h:k<c.tables.length:=by simpa using h
  rw [List.drop_eq_getElem_cons h,numAll] at hf
  rw [List.drop_eq_getElem_cons h,List.map_cons,List.sum_cons] at hsum
  have hbt:=hb _ (List.getElem_mem h)
  refine jB ?_
  refine AW.text ?_
  refine RG.opS rfl (op_index rfl (tab_ok ty_ok rfl) rfl (tab_ok ty_ok rfl) rfl rfl (show (c.tables.map cTab)[k]?=some (cTab c.tables[k]) by rw [List.getElem?_map,List.getElem?_eq_getElem (by assumption)];rfl) rfl) rfl ?_
  generalize c.tables[k]=t at hf hsum hbt
  refine wH rfl ?_
  refine jB ?_
  refine AW.text ?_
  refine RG.opS rfl (op_nilRow 7 3 1 rfl) rfl ?_
  refine wH rfl ?_;refine jA ?_
  have hmt:t.length<=9223372036854775807:=by omega
  refine AW.loopL (ι:=Nat × List Int × Nat) (fun i=>[(3,.row 3 0 0 (out.map cNum).length),(4,.i .i64 (i.2.2:Nat)),(7,.row 7 0 0 (i.2.1.map cI).length),(11,.sl (c.tables.map cTab)),(12,.i .i64 (c.tables.map cTab).length),(13,.i .i64 (k:Nat)),(17,.sl (t.map cRls)),(18,.i .i64 (t.map cRls).length),(19,.i .i64 (i.1:Nat))]) (fun i=>[(3,⟨0,some (.row 74 1 (out.map cNum))⟩),(7,⟨0,some (.row 3 1 (i.2.1.map cI))⟩)]) (fun i=>i.1<=t.length/\i.2.1++numRow i.2.2 (t.drop i.1)=numRow n t/\i.2.2+lenT (t.drop i.1)=n+lenT t) (fun i=>t.length - i.1) (0,[],n) ⟨Nat.zero_le _,rfl,rfl⟩ jV jW fun i hi=>?_
  obtain ⟨j,own,n'⟩:=i
  obtain ⟨hj,hg,hsg⟩:=hi
  simp only at hj hg hsg
  refine jA ?_
  refine AW.cond rfl (fun h'=>?_) (fun h'=>?_)
  · have h':j<t.length:=by simpa using h'
    rw [List.drop_eq_getElem_cons h',numRow] at hg
    rw [List.drop_eq_getElem_cons h',lenT_cons] at hsg
    have hol:own.length<=1000000:=by
      have:=congrArg List.length hg
      rw [List.length_append,numRow_len] at this
      omega
    refine jB ?_
    refine AW.text ?_
    refine RG.opS rfl (op_index rfl (tab_ok ty_ok rfl) rfl (tab_ok ty_ok rfl) rfl rfl (show (t.map cRls)[j]?=some (cRls t[j]) by rw [List.getElem?_map,List.getElem?_eq_getElem (by assumption)];rfl) rfl) rfl ?_
    generalize t[j]=l at hg hsg
    refine wH rfl ?_;refine jA ?_
    refine RG.opS rfl (op_app1 cI own ((n':Nat):Int) (by omega) rfl rfl rfl rfl (tab_ok ty_ok rfl) rfl (tab_ok ty_ok rfl) rfl rfl ⟨_,rfl,rfl⟩ rfl rfl) rfl ?_;refine wH rfl ?_;refine jA ?_
    exact ⟨(j+1,own++[((n':Nat):Int)],n'+l.length),⟨⟨h',by rw [<- hg,List.append_assoc];rfl,by show n'+l.length+lenT (t.drop (j+1))=n+lenT t;omega⟩,by show t.length - (j+1)<t.length - j;omega⟩,⟨Rn.rowIs rfl rfl rfl,Rn.is ((congrArg (fun q:Nat=>AV.i .i64 (IntKind.i64.wrap ((n':Int)+(q:Int)))) (List.length_map cRl)).trans (i64_sum (by omega))) rfl,Rn.rowIs rfl rfl rfl,Rn.is rfl rfl,Rn.is rfl rfl,Rn.is rfl rfl,Rn.is rfl rfl,Rn.is rfl rfl,Rn.is (i64_next h' hmt) rfl,trivial⟩,jW⟩
  · have h':¬j<t.length:=by simpa using h'
    obtain rfl:j=t.length:=by omega
    rw [List.drop_length,numRow,List.append_nil] at hg
    rw [List.drop_length,show lenT []=0 from rfl,Nat.add_zero] at hsg
    subst hg hsg
    have hol:out.length<=1000000:=by
      have:=congrArg List.length hf
      rw [List.length_append,hal] at this
      omega
    refine jB ?_
    refine AW.exit ?_;refine Eq.mpr (if_pos rfl) ?_;refine jB ?_
    refine AW.freeze [7] [(3,.row 3 0 0 (out.map cNum).length),(4,.i .i64 ((n+lenT t:Nat):Int)),(7,.sl ((numRow n t).map cI)),(11,.sl (c.tables.map cTab)),(12,.i .i64 (c.tables.map cTab).length),(13,.i .i64 (k:Nat))] [(3,⟨0,some (.row 74 1 (out.map cNum))⟩)] ⟨.rn (Rn.rowIs rfl rfl rfl),.is rfl rfl,.fzA rfl rfl (rowAll rfl),.is rfl rfl,.is rfl rfl,.is rfl rfl,trivial⟩ ⟨.old (.row rfl rfl),trivial⟩ rfl ?_
    refine jA ?_
    refine RG.opS rfl (op_app1 cNum out (numRow n t) (by omega) rfl rfl rfl rfl (tab_ok ty_ok rfl) rfl (tab_ok ty_ok rfl) rfl rfl ⟨_,rfl,rfl⟩ rfl rfl) rfl ?_;refine wH rfl ?_;refine jA ?_
    exact ⟨(k+1,out++[numRow n t],n+lenT t),⟨⟨h,by rw [<- hf,List.append_assoc];rfl,by show n+lenT t+((c.tables.drop (k+1)).map lenT).sum<=1000000000;omega⟩,by show c.tables.length - (k+1)<c.tables.length - k;omega⟩,jV,jW⟩
end Go.Proofs.YtoaibdbehlcnfaaGreat.Sm
end
section
namespace Go.Proofs.YtoaibdbehlcnfaaGreat.Sm
open Go.RowKit
open Go.Sort (swp)
theorem d_isNaNI (x:Int):PDoes Tryz.prog 268 [.i .i64 x] (.b false):=by
 refine PDoes.of_bodyN Tryz.func268 rfl (by kernel_rfl) rfl rfl ?_
 have hx:x=x:=rfl
 refine jA ?_
 refine AW.ret (retQA ty_ok rfl rfl rfl ?_)
 exact congrArg AV.b (by simp)
def ltO (x y:Int):Bool:=decide (x<y)
theorem d_LessI (x y:Int):PDoes Tryz.prog 219 [.i .i64 x,.i .i64 y] (.b (ltO x y)):=by
 refine PDoes.of_bodyN Tryz.func219 rfl (by kernel_rfl) rfl rfl ?_
 refine jA ?_
 refine RG.callS rfl rfl rfl rfl rfl (d_isNaNI x) rfl rfl ?_;refine wH rfl ?_;refine jA ?_
 refine AW.ret (retQA ty_ok rfl rfl rfl ?_)
 rfl
def oiB (n:Nat) (d:Array Int):List (Nat × SB):=[(201,⟨0,some (.row 3 1 (d.toList.map cI))⟩)]
theorem oi_end {d:Array Int} {s:St} {q:Nat->Option (Nat × Nat)} {n e1 g1:Nat} {els:List (List AV)} (h1:s.σ 201=⟨e1,some (.row 3 1 els)⟩)
  (hg1:s.σ 1101=⟨g1,some (.ghost 201 e1 (q 201))⟩) (hel:els=d.toList.map cI) (hn:0+n<=(d.toList.map cI).length):WkB s (lkB (gl q [201] (oiB n d))) (gl q [201] (oiB n d)):=by
 subst hel
 exact ⟨.ghost hg1 h1 rfl,.row h1 rfl,trivial⟩
theorem o_insI (n:Nat) (hl:n<=100000) (d:Array Int) (hn:d.size=n) (a b:Nat) (ha:a<=n) (hb:b<=n) (q:Nat->Option (Nat × Nat)):MDoes Tryz.prog 213 [.row 201 0 0 n,.i .i64 ((a:Nat):Int),.i .i64 ((b:Nat):Int)] (gl q [201] (oiB n (d))) (.tup []) (gl q [201] (oiB n (Go.Sort.insertionSort ltO d a b))):=by
  refine MDoes.of_body Tryz.func213 rfl (by kernel_rfl) rfl rfl ?_
  generalize hG:Go.Sort.insertionSort ltO d a b=G
  have w1:IntKind.i64.wrap (((a:Nat):Int)+Int.ofNat 1)=((a+1:Nat):Int):=by simp only [IntKind.wrap_i64,Int.ofNat_eq_natCast];omega
  refine jA ?_
  refine AW.loopL (ι:=Nat × Array Int) (fun x=>[(0,.row 201 0 0 n),(1,.i .i64 ((a:Nat):Int)),(2,.i .i64 ((b:Nat):Int)),(6,.i .i64 ((x.1:Nat):Int))]) (fun x=>gl q [201] (oiB n (x.2))) (fun x=>(a<x.1/\x.1<=n+1/\x.2.size=n)/\Go.Sort.insOuter ltO a b x.1 x.2=G) (fun x=>n+2 - x.1) (a+1,d) ⟨⟨by show a<a+1;omega,by show a+1<=n+1;omega,hn⟩,hG⟩ ⟨Rn.rowIs rfl rfl rfl,Rn.is rfl rfl,Rn.is rfl rfl,Rn.is (congrArg (AV.i .i64) w1) rfl,trivial⟩ (oi_end rfl rfl (rfl) (rowFit (by assumption))) fun x hx=>?_
  clear hG hn d
  obtain ⟨i,m⟩:=x
  obtain ⟨⟨hi1,hi2,hm⟩,hf⟩:=hx
  simp only at hi1 hi2 hm hf
  rw [Go.Sort.insOuter] at hf
  refine jA ?_
  refine AW.cond rfl (fun h0=>?_) (fun h0=>?_)
  rotate_left
  · have h : ¬ i < b := by
      have:=of_decide_eq_false h0
      try simp only at this
      omega
    rw [if_neg h] at hf
    subst hf
    refine jA ?_
    refine AW.exit ?_;refine Eq.mpr (if_pos rfl) ?_;refine jA ?_
    exact retM0 rfl (.inl rfl) (oi_end rfl rfl (rfl) (rowFit (by assumption)))
  have h:i<b:=by
    have:=of_decide_eq_true h0
    try simp only at this
    omega
  rw [if_pos h] at hf
  have w2:IntKind.i64.wrap (((i:Nat):Int)+Int.ofNat 1)=((i+1:Nat):Int):=by simp only [IntKind.wrap_i64,Int.ofNat_eq_natCast];omega
  refine jA ?_
  refine AW.loopL (ι:=Nat × Array Int) (fun x=>[(0,.row 201 0 0 n),(1,.i .i64 ((a:Nat):Int)),(2,.i .i64 ((b:Nat):Int)),(6,.i .i64 ((i:Nat):Int)),(7,.i .i64 ((x.1:Nat):Int))]) (fun x=>gl q [201] (oiB n (x.2))) (fun x=>(x.1<=i/\x.2.size=n)/\Go.Sort.insOuter ltO a b (i+1) (Go.Sort.insInner ltO a x.1 x.2)=G) (fun x=>x.1) (i,m) ⟨⟨Nat.le_refl _,hm⟩,hf⟩ ⟨Rn.rowIs rfl rfl rfl,Rn.is rfl rfl,Rn.is rfl rfl,Rn.is rfl rfl,Rn.is rfl rfl,trivial⟩ (oi_end rfl rfl (rfl) (rowFit (by assumption))) fun x hx=>?_
  clear hf hm
  obtain ⟨j,m⟩:=x
  obtain ⟨⟨hj,hm⟩,hf⟩:=hx
  simp only at hj hm hf
  refine jB ?_
  by_cases g1:((a:Nat):Int)<((j:Nat):Int)
  rotate_left
  · rw [insInner_stop (by omega)] at hf
    refine AW.draws mixed_ok ?_
    refine RG.runO ty_ok 0 [(18,.b false)] 400 rfl jD ?_
    refine jB ?_
    refine AW.condF rfl ?_;refine jA ?_
    refine AW.exit ?_;refine Eq.mpr (if_pos rfl) ?_;refine jA ?_
    exact ⟨(i+1,m),⟨⟨⟨by show a<i+1;omega,by show i+1<=n+1;omega,hm⟩,hf⟩,by show n+2 - (i+1)<n+2 - i;omega⟩,⟨Rn.rowIs rfl rfl rfl,Rn.is rfl rfl,Rn.is rfl rfl,Rn.is (congrArg (AV.i .i64) w2) rfl,trivial⟩,oi_end rfl rfl (rfl) (rowFit (by assumption))⟩
  obtain ⟨j,rfl⟩:∃k,j=k+1:=⟨j - 1,by omega⟩
  rw [insInner_go (by omega)] at hf
  have w3:IntKind.i64.wrap (((j+1:Nat):Int) - Int.ofNat 1)=((j:Nat):Int):=by simp only [IntKind.wrap_i64,Int.ofNat_eq_natCast];omega
  refine AW.draws mixed_ok ?_
  refine RG.runO ty_ok 0 [(18,.b true)] 400 rfl jD ?_
  refine RG.opS rfl (op_ixW (j+1) cI (m.toList) (by omega) rfl (tab_ok ty_ok rfl) rfl (tab_ok ty_ok rfl) rfl rfl rfl jX) rfl ?_
  refine RG.opS rfl (op_ldW (j+1) cI (m) (by omega) rfl (tab_ok ty_ok rfl) rfl rfl rfl) rfl ?_
  refine wH rfl ?_;refine RG.opS rfl (op_ixW (j) cI ((m).toList) (by omega) rfl (tab_ok ty_ok rfl) rfl (tab_ok ty_ok rfl) rfl rfl rfl jX) rfl ?_;refine RG.opS rfl (op_ldW (j) cI (m) (by omega) rfl (tab_ok ty_ok rfl) rfl rfl rfl) rfl ?_
  refine wH rfl ?_
  refine RG.callS rfl rfl rfl rfl rfl (d_LessI (m[j+1]!) (m[j]!)) rfl rfl ?_
  refine wH rfl ?_;refine jB ?_
  refine AW.cond rfl (fun h1=>?_) (fun h1=>?_)
  · rw [show ltO m[j+1]! m[j]! = true from h1,cond_true] at hf
    have hm2:=(swp_sz m (j+1) j).trans hm
    refine jB ?_
    refine AW.draws mixed_ok ?_
    refine wH rfl ?_;refine RG.opS rfl (op_ixW (j) cI ((m).toList) (by omega) rfl (tab_ok ty_ok rfl) rfl (tab_ok ty_ok rfl) rfl rfl rfl jX) rfl ?_;refine RG.opS rfl (op_ldW (j) cI (m) (by omega) rfl (tab_ok ty_ok rfl) rfl rfl rfl) rfl ?_;refine wH rfl ?_;refine RG.opS rfl (op_ixW (j+1) cI ((m).toList) (by omega) rfl (tab_ok ty_ok rfl) rfl (tab_ok ty_ok rfl) rfl rfl rfl jX) rfl ?_;refine RG.opS rfl (op_ldW (j+1) cI (m) (by omega) rfl (tab_ok ty_ok rfl) rfl rfl rfl) rfl ?_;refine wH rfl ?_;refine RG.opS rfl (op_ixW (j+1) cI ((m).toList) (by omega) rfl (tab_ok ty_ok rfl) rfl (tab_ok ty_ok rfl) rfl rfl rfl jX) rfl ?_;refine RG.opS rfl (op_stW (j+1) cI ((m).toList) ((m)[j]!) (by simp only [List.length_set,Array.length_toList];omega) rfl (tab_ok ty_ok rfl) rfl rfl rfl rfl rfl (fun _=>rfl)) rfl ?_;refine wH rfl ?_;refine RG.opS rfl (op_ixW (j) cI (((m).toList.set (j+1) (m)[j]!)) (by omega) rfl (tab_ok ty_ok rfl) rfl (tab_ok ty_ok rfl) rfl rfl rfl jX) rfl ?_;refine RG.opS rfl (op_stW (j) cI (((m).toList.set (j+1) (m)[j]!)) ((m)[j+1]!) (by simp only [List.length_set,Array.length_toList];omega) rfl (tab_ok ty_ok rfl) rfl rfl rfl rfl rfl (fun _=>rfl)) rfl ?_
    refine wH rfl ?_;refine jB ?_
    refine AW.text ?_
    refine wH rfl ?_;refine jB ?_
    exact ⟨(j,swp m (j+1) j),⟨⟨⟨by show j<=i;omega,hm2⟩,hf⟩,by show j<j+1;omega⟩,⟨Rn.rowTIs rfl rfl rfl (rowFit (hm2)),Rn.is rfl rfl,Rn.is rfl rfl,Rn.is rfl rfl,Rn.is (congrArg (AV.i .i64) w3) rfl,trivial⟩,oi_end rfl rfl (by rw [swp_list]) (rowFit (by assumption))⟩
  · rw [show ltO m[j+1]! m[j]! = false from h1,cond_false] at hf
    refine jA ?_
    refine AW.exit ?_;refine Eq.mpr (if_pos rfl) ?_;refine jA ?_
    exact ⟨(i+1,m),⟨⟨⟨by show a<i+1;omega,by show i+1<=n+1;omega,hm⟩,hf⟩,by show n+2 - (i+1)<n+2 - i;omega⟩,⟨Rn.rowIs rfl rfl rfl,Rn.is rfl rfl,Rn.is rfl rfl,Rn.is (congrArg (AV.i .i64) w2) rfl,trivial⟩,oi_end rfl rfl (rfl) (rowFit (by assumption))⟩
theorem ins_szO (d:Array Int) (n:Nat) (h:n<=d.size):(Go.Sort.insertionSort ltO d 0 n).size=d.size:=(ins_pm ltO d 0 n h).1
theorem o_pdqS (n:Nat) (hl:n<=12) (d:Array Int) (hn:d.size=n) (lim:Int) (q:Nat->Option (Nat × Nat)):MDoes Tryz.prog 167 [.row 201 0 0 n,.i .i64 ((0:Nat):Int),.i .i64 ((n:Nat):Int),.i .i64 lim] (gl q [201] (oiB n d)) (.tup []) (gl q [201] (oiB n (Go.Sort.insertionSort ltO d 0 n))):=by
 refine MDoes.of_body Tryz.func167 rfl (by kernel_rfl) rfl rfl ?_
 have w1:IntKind.i64.wrap (((n:Nat):Int) - ((0:Nat):Int))=((n:Nat):Int):=by rw [IntKind.wrap_i64];omega
 have h12:((n:Nat):Int)<=12:=by omega
 have hz:=ins_szO d n (by omega)
 have hG:=fun q=>o_insI n (by omega) d hn 0 n (Nat.zero_le _) (Nat.le_refl _) q
 refine jA ?_
 refine AW.loopL (ι:=Unit) (fun _=>[(0,.row 201 0 0 n),(1,.i .i64 ((0:Nat):Int)),(2,.i .i64 ((n:Nat):Int)),(3,.i .i64 lim)]) (fun _=>gl q [201] (oiB n d)) (fun _=>True) (fun _=>0) () trivial ⟨Rn.rowIs rfl rfl rfl,Rn.is rfl rfl,Rn.is rfl rfl,Rn.is rfl rfl,trivial⟩ (oi_end rfl rfl rfl (rowFit hn)) fun _ _=>?_
 refine jB ?_
 refine AW.text ?_
 refine RG.runO ty_ok 0 [(21,.i .i64 ((n:Nat):Int))] 400 rfl jD ?_
 refine jA ?_
 refine AW.cond rfl (fun h0=>?_) (fun h0=>?_)
 rotate_left
 ·exact absurd h12 (by
   have:=of_decide_eq_false h0
   simpa using this)
 refine jA ?_
 refine RG.ownK [(201,201)] [(201,201)] 201 201 (rowLen hz) (fun q=>hG q) rfl rfl rfl rfl rfl rfl rfl rfl rfl rfl rfl rfl rfl ?_
 refine wH rfl ?_;refine jA ?_
 exact AW.ret (retM0 rfl (.inr rfl) (oi_end rfl rfl rfl (rowFit (hz.trans hn))))
theorem o_Sort (n:Nat) (hl:n<=12) (d:Array Int) (hn:d.size=n) (q:Nat->Option (Nat × Nat)):MDoes Tryz.prog 120 [.row 201 0 0 n] (gl q [201] (oiB n d)) (.tup []) (gl q [201] (oiB n (Go.Sort.insertionSort ltO d 0 n))):=by
 refine MDoes.of_body Tryz.func120 rfl (by kernel_rfl) rfl rfl ?_
 have hz:=ins_szO d n (by omega)
 have hL:=d_LenX (ofI64 ((n:Nat):Int)) (by rw [ofI_len (by omega)];omega)
 have hP:=fun lim q=>o_pdqS n hl d hn lim q
 refine jA ?_
 refine RG.callS rfl rfl rfl rfl rfl hL rfl rfl ?_
 refine wH rfl ?_
 refine RG.ownK [(201,201)] [(201,201)] 201 201 (rowLen hz) (fun q=>hP _ q) rfl rfl rfl rfl rfl rfl rfl rfl rfl rfl rfl rfl rfl ?_
 refine wH rfl ?_;refine jA ?_
 exact retM0 rfl (.inl rfl) (oi_end rfl rfl rfl (rowFit (hz.trans hn)))
end Go.Proofs.YtoaibdbehlcnfaaGreat.Sm
end
section
namespace Go.Proofs.YtoaibdbehlcnfaaGreat.Sm
open Go.RowKit
section
variable {P : Program} {N : Nat} {o : Oper} {s : St}
theorem op_sliceE {t e id ep n ty l : Nat} {ti ei : TI} {x : Operand} {lo : Option Operand} {els : List (List AV)} (ho : o.op = .slice t x lo none none) (ht : TiOk P t ti) (hk : ti.k = .slice e) (he : TiOk P e ei) (hx : s.ev x = .row id ep 0 n) (hid : s.σ id = ⟨ep, some (.row ty ei.n els)⟩)
    (hlo:Bd s 0 lo l) (h2:l<n):OpLoc P N o s ⟨.row id ep l (n - l),[],[id]⟩:=by
  refine oploc_val [id] _ fun s' W F μ a g1 g2 hs=>?_
  have hid':=(g2 id (by simp)).trans hid
  have ex:=hs.ev x
  rw [g1 x (by rw [ho];simp [Op.operands]),hx] at ex
  have r1:=bd_run hlo (fun y hy=>g1 y (by rw [ho,hy];simp [Op.operands])) hs
  obtain ⟨q1,q⟩:=row_form hs.inv ex hid'
  rcases q with ⟨e,e2,e3⟩ | ⟨b,cap,hm,hv,q2,q3⟩
  · subst e2
    simp at q1
    omega
  have hrun:=sliceBounds_run (P:=P) (W:=W) (l:=l) (h:=n) (c:=cap - 0) (len:=n) (lo:=lo.map a.eval) (hi:=none)
    (by rcases r1 with ⟨e, e'⟩ | ⟨y, kd, e, e'⟩
        · exact .inl ⟨by rw [e];rfl,e'⟩
        · exact .inr ⟨kd,by rw [e,Option.map_some,e']⟩)
    (.inl ⟨rfl,rfl⟩) (by omega) (by omega) true
  have hc:¬cap - 0 - l=0:=by omega
  refine ⟨.slice (some ⟨b,l*ei.n,none⟩) (n - l) (cap - l),?_,.row id ep l (n - l) _ (by rw [hid'];exact Nat.le_refl _) rfl fun bd' m' l' hbd hL=>?_⟩
  · simp only [execOp,ho,Instr.sliceAt,Instr.slice,hv,Sem.run_bind,Sem.run_pure,Result.andThen_ok,run_underlying (ht.slice hk),Option.map_none,hrun,he.size,if_neg hc]
    have hcl:¬cap=l:=by omega
    by_cases hz:l*ei.n=0 <;> simp [Addr.add,Nat.sub_zero,hcl,hz]
  · rw [hid'] at hbd
    obtain rfl:Body.row ty ei.n els=bd':=by simpa using hbd
    obtain ⟨rfl,rfl⟩:ei.n=m'/\els.length=l':=by simpa [Body.rowL] using hL
    exact ⟨by omega,by rw [hm]⟩
theorem getE_set {α:Type} (l:List α) (k n:Nat) (z:α) (h:k+n=l.length) (i:Nat):(l.take k++List.replicate n z)[i]?=if i<k then l[i]? else if i<l.length then some z else none:=by
 rw [List.getElem?_append,List.length_take,Nat.min_eq_left (by omega)]
 by_cases h1:i<k
 ·rw [if_pos h1,if_pos h1,List.getElem?_take,if_pos h1]
 ·rw [if_neg h1,if_neg h1,List.getElem?_replicate]
  by_cases h2:i<l.length
  ·rw [if_pos h2,if_pos (by omega)]
  ·rw [if_neg h2,if_neg (by omega)]
theorem op_clearI {t e id ep k n ty : Nat} {ti : TI} {c : Call} {x : Operand} {els : List (List AV)} (ho : o.op = .call c) (hc : c.callee = .builtin .clear) (ha : c.args = #[x]) (hat : c.argTypes = #[t]) (ht : TiOk P t ti) (hk : ti.k = .slice e)
    (hz:∀W:World,(zeroValue e).run P W = .ok (.int .i64 0) W) (hx:s.ev x = .row id ep k n) (hid:s.σ id=⟨ep,some (.row ty 1 els)⟩) (hn:0<n) (hkn:k+n=els.length) :
    OpLoc P N o s ⟨.tup [],[(id,⟨ep,some (.row ty 1 (els.take k++List.replicate n [.i .i64 0]))⟩)],[]⟩:=by
  intro s' g1 g2 g3 W F μ a hr K Q hK
  have hid':s'.σ id=⟨ep,some (.row ty 1 els)⟩:=(g3 (id,⟨ep,some (.row ty 1 (els.take k++List.replicate n [.i .i64 0]))⟩) (by simp)).trans hid
  have ex:=hr.ev x
  rw [g1 x (by rw [ho];simp [Op.operands,Call.operands,hc,ha]),hx] at ex
  obtain ⟨q1,q⟩:=row_form hr.inv ex hid'
  rcases q with ⟨e1,e2,e3⟩ | ⟨b,cap,hm,hv,q2,q3⟩
  · subst e2;simp at q1;omega
  rcases hr.inv.body _ _ _ hid' with ⟨hno,_⟩ | ⟨b',cap',cur,hm',hh,p1,p2,p3,p4,p5⟩
  · rw [hm] at hno;cases hno
  obtain ⟨rfl,rfl⟩:b=b'/\cap=cap':=by rw [hm] at hm';simpa using hm'
  have hcells:(Builtin.zeroCells (Value.int .i64 0).cells n).toList=List.replicate n (Value.int .i64 0):=by
    apply List.ext_getElem?
    intro i
    simp only [Builtin.zeroCells,Value.cells]
    rw [List.getElem?_replicate]
    by_cases h:i<n
    · rw [if_pos h]
      simp [h,Nat.mod_one]
    · rw [if_neg h]
      simp [h]
  generalize hnew:(cur.toList.take k++List.replicate n (Value.int .i64 0)++cur.toList.drop (k+n))=new
  have hnl:new.length=cur.size:=by
    rw [<- hnew]
    simp only [List.length_append,List.length_take,List.length_drop,List.length_replicate,Array.length_toList]
    omega
  have hget:∀i,new[i]?=if k<=i/\i<k+n then some (Value.int .i64 0) else cur[i]?:=fun i=>by
    rw [<- hnew,List.append_assoc,List.getElem?_append,List.length_take,Array.length_toList,Nat.min_eq_left (by omega)]
    by_cases e1:i<k
    · rw [if_pos e1,if_neg (by omega),List.getElem?_take,if_pos e1,Array.getElem?_toList]
    · rw [if_neg e1,List.getElem?_append,List.length_replicate,List.getElem?_replicate]
      by_cases e2:i - k<n
      · rw [if_pos e2,if_pos e2,if_pos (by omega)]
      · rw [if_neg e2,if_neg (by omega),List.getElem?_drop,Array.getElem?_toList]
        congr 1
        omega
  have hrun:(storeCells ⟨b,k*1,none⟩ (List.replicate n (Value.int .i64 0))).run P W = .ok () (W.setRow b new.toArray):=by
    have h:=run_storeCells_at P b (k*1) ty (List.replicate n (Value.int .i64 0)) 0 cur W hh (by rw [List.length_replicate];omega) (fun v hv=>by rw [(List.mem_replicate.1 hv).2];rfl)
    rw [<- hnew]
    simpa only [Nat.mul_one,Nat.add_zero,List.length_replicate] using h
  have hkp:Kp (fun b=>(s'.σ id).body.isSome=true/\∃c,μ id=some (b,c)) W (W.setRow b new.toArray):=(Kp.refl _ W).setRow' (by exact ⟨by rw [hid'];rfl,cap,hm⟩) _
  obtain ⟨hs, hi⟩ := inv_turn hr.inv id (μ id) ep (.row ty 1 (els.take k ++ List.replicate n [.i .i64 0])) hkp (fun b1 c1 e => by
      rw [hm] at e
      obtain ⟨rfl,rfl⟩:b=b1/\cap=c1:=by simpa using e
      exact ⟨by simpa using (hr.inv.apart b ⟨id,ep,_,cap,hid',hm⟩).1,.inr ⟨by rw [hid'];rfl,cap,hm⟩⟩)
    (.inr ⟨by rw [hid'],_,by rw [hid'],by simp only [Body.sh,List.length_append,List.length_take,List.length_replicate];rw [Nat.min_eq_left (by omega),hkn],rfl⟩) (fun hs=>by
      refine .inr ⟨b,cap,new.toArray,hm,setRow_heap W b _ _ _ _ hh,by rw [List.length_append,List.length_take,List.length_replicate];omega,q3,by simpa [hnl] using p3,fun k' cs' hk'=>?_,fun k' cs' i y hk' hi'=>?_⟩
      · rw [getE_set _ _ _ _ hkn] at hk'
        split at hk'
        · exact p4 k' cs' hk'
        · split at hk'
          · obtain rfl:=Option.some.inj hk'
            rfl
          · cases hk'
      · rw [getE_set _ _ _ _ hkn] at hk'
        rw [List.getElem?_toArray,hget]
        split at hk'
        · rename_i e
          have hlt:i<1:=by have:=(List.getElem?_eq_some_iff.1 hi').1;rw [p4 k' cs' hk'] at this;exact this
          rw [if_neg (by omega)]
          obtain ⟨r1,v,r2,r3⟩:=p5 k' cs' i y hk' hi'
          exact ⟨r1,v,r2,r3.stp hr.inv hs⟩
        · split at hk'
          · obtain rfl:=Option.some.inj hk'
            match i,hi' with
            | 0,hi' =>
              obtain rfl:AV.i .i64 0=y:=by simpa using hi'
              rw [if_pos (by omega)]
              exact ⟨rfl,_,rfl,.i _ _⟩
            | i+1,hi'=>simp at hi'
          · cases hk')
  unfold Oper.wp
  have hrun':(execOp a.eval o).run P W = .ok (.value (.tuple #[])) (W.setRow b new.toArray):=by
    have hne:n≠0:=by omega
    obtain ⟨n',rfl⟩:∃n',n=n'+1:=⟨n - 1,by omega⟩
    simp only [execOp,ho,resolve,hc,ha,hat,invoke,builtin,Builtin.clear_,hv,Sem.run_bind,Sem.run_pure,Result.andThen_ok,List.map_toArray,List.map_cons,List.map_nil,List.getElem?_toArray,List.getElem?_cons_zero,run_underlying (ht.slice hk),hz,hcells,hrun]
    skip
  rw [hrun']
  exact hK _ F _ _ (hr.put hs hi (.pure (.tup [] [] rfl (by simp)))) hs
end
end Go.Proofs.YtoaibdbehlcnfaaGreat.Sm
end
section
namespace Go.Proofs.YtoaibdbehlcnfaaGreat.Sm
open Go.RowKit
section
variable {P : Program} {N : Nat} {o : Oper} {s : St}
theorem op_ixO {t e k id ep off n ty m:Nat} {z:Int} {ti ei:TI} {x i:Operand} {kd:IntKind} {els:List (List AV)} (ho:o.op = .indexAddr t x i) (ht:TiOk P t ti) (hk:ti.k = .slice e) (he:TiOk P e ei) (hx:s.ev x = .row id ep off n) (hid:s.σ id=⟨ep,some (.row ty m els)⟩) (hi:s.ev i = .i kd z) (hz:z=(k:Int)) (hlt:k<n)
  (hn:m=ei.n):OpLoc P N o s ⟨.el id ep (off+k) 0,[],[id]⟩:=op_indexR ho ht hk he hx hid (hz ▸ hi) hlt hn
end
def cmpct:List Int->List Int
 | []=>[]
 | [x]=>[x]
 | x::y::l=>if x=y then cmpct (y::l) else x::cmpct (y::l)
theorem cmpct_step {L:List Int} {j:Nat} (h:j+1<L.length):cmpct (L.drop j)=if L[j]=L[j+1] then cmpct (L.drop (j+1)) else L[j]::cmpct (L.drop (j+1)):=by
 rw [List.drop_eq_getElem_cons (show j<L.length by omega),List.drop_eq_getElem_cons h,cmpct]
theorem cmpct_last {L:List Int} {j:Nat} (h:j+1=L.length):cmpct (L.drop j)=[L[j]]:=by
 rw [List.drop_eq_getElem_cons (show j<L.length by omega),List.drop_eq_nil_of_le (by omega),cmpct]
theorem cmpct_len:∀(L:List Int),(cmpct L).length<=L.length
 | []=>Nat.le_refl _
 | [x]=>Nat.le_refl _
 | x::y::l=>by
  have:=cmpct_len (y::l)
  rw [cmpct]
  split
  ·rw [List.length_cons];omega
  ·rw [List.length_cons,List.length_cons];omega
def ciB (L:List Int):List (Nat × SB):=[(201,⟨0,some (.row 3 1 (L.map cI))⟩)]
theorem ci_end {L:List Int} {s:St} {q:Nat->Option (Nat × Nat)} {e1 g1:Nat} {els:List (List AV)} (h1:s.σ 201=⟨e1,some (.row 3 1 els)⟩)
  (hg1:s.σ 1101=⟨g1,some (.ghost 201 e1 (q 201))⟩) (hel:els=L.map cI):WkB s (lkB (gl q [201] (ciB L))) (gl q [201] (ciB L)):=by
 subst hel
 exact ⟨.ghost hg1 h1 rfl,.row h1 rfl,trivial⟩
def zerosI (n:Nat):List Int:=List.replicate n 0
def cmpZ (L:List Int):List Int:=cmpct L++zerosI (L.length - (cmpct L).length)
theorem o_Compact (d:Array Int) (n:Nat) (hn:d.size=n) (hl:n<=1000000000) (q:Nat->Option (Nat × Nat)):MDoes Tryz.prog 121 [.row 201 0 0 n] (gl q [201] (ciB d.toList)) (.row 201 0 0 (cmpct d.toList).length) (gl q [201] (ciB (cmpZ d.toList))):=by
 refine MDoes.of_body Tryz.func121 rfl (by kernel_rfl) rfl rfl ?_
 have hL:d.toList.length=n:=by rw [Array.length_toList];exact hn
 refine jA ?_
 refine AW.cond rfl (fun h=>?_) (fun h=>?_)
 ·have h:n<2:=by
   have:=of_decide_eq_true h
   simp only [Int.ofNat_eq_natCast] at this
   omega
  have hc:cmpct d.toList=d.toList:=by
   match hd:d.toList,hL with
   | [],_=>rfl
   | [x],_=>rfl
   | x::y::l,hL=>simp at hL;omega
  rw [cmpZ,hc,Nat.sub_self,zerosI,List.replicate_zero,List.append_nil,hL]
  refine jA ?_
  exact AW.ret (retM1 rfl (Rm.rowIs rfl rfl rfl rfl) (ci_end rfl rfl rfl))
 have h2:2<=n:=by
  have:=of_decide_eq_false h
  simp only [Int.ofNat_eq_natCast] at this
  omega
 clear h
 refine jA ?_
 refine AW.loopL (ι:=Nat) (fun k=>[(0,.row 201 0 0 n),(3,.i .i64 (k:Nat))]) (fun _=>gl q [201] (ciB d.toList)) (fun k=>1<=k/\k<=n/\cmpct d.toList=d.toList.take (k - 1)++cmpct (d.toList.drop (k - 1))) (fun k=>n - k) 1 ⟨Nat.le_refl _,by omega,by simp⟩ ⟨Rn.rowIs rfl rfl rfl,Rn.is rfl rfl,trivial⟩ (ci_end rfl rfl rfl) fun k hk=>?_
 obtain ⟨hk1,hk2,hf⟩:=hk
 refine jA ?_
 refine AW.cond rfl (fun h=>?_) (fun h=>?_)
 rotate_left
 ·have h:¬k<n:=by
   have:=of_decide_eq_false h
   omega
  obtain rfl:k=n:=by omega
  have hdr:d.toList.drop (k - 1)=[d.toList[k - 1]]:=by rw [List.drop_eq_getElem_cons (show k - 1<d.toList.length by omega),List.drop_eq_nil_of_le (by omega)]
  have hc:cmpct d.toList=d.toList:=by
   rw [hf,cmpct_last (by omega),<- hdr,List.take_append_drop]
  have e1:(cmpct d.toList).length=k:=by rw [hc,hL]
  have e2:cmpZ d.toList=d.toList:=by rw [cmpZ,hc,Nat.sub_self,zerosI,List.replicate_zero,List.append_nil]
  refine jA ?_
  refine AW.exit ?_;refine Eq.mpr (if_pos rfl) ?_;refine jA ?_
  rw [e1,e2]
  exact AW.ret (retM1 rfl (Rm.rowIs rfl rfl rfl rfl) (ci_end rfl rfl rfl))
 have h:k<n:=by
  have:=of_decide_eq_true h
  omega
 obtain ⟨k,rfl⟩:∃k',k=k'+1:=⟨k - 1,by omega⟩
 simp only [Nat.add_sub_cancel] at hf
 have w1:IntKind.i64.wrap (((k+1:Nat):Int) - Int.ofNat 1)=((k:Nat):Int):=by simp only [IntKind.wrap_i64,Int.ofNat_eq_natCast];omega
 refine jB ?_
 refine AW.draws mixed_ok ?_
 refine wH rfl ?_;refine RG.opS rfl (op_ixW (k+1) cI ((d).toList) (by omega) rfl (tab_ok ty_ok rfl) rfl (tab_ok ty_ok rfl) rfl rfl rfl jX) rfl ?_;refine RG.opS rfl (op_ldW (k+1) cI (d) (by omega) rfl (tab_ok ty_ok rfl) rfl rfl rfl) rfl ?_
 refine wH rfl ?_;refine RG.opS rfl (op_ixW (k) cI ((d).toList) (by omega) rfl (tab_ok ty_ok rfl) rfl (tab_ok ty_ok rfl) rfl rfl rfl jX) rfl ?_;refine RG.opS rfl (op_ldW (k) cI (d) (by omega) rfl (tab_ok ty_ok rfl) rfl rfl rfl) rfl ?_
 refine wH rfl ?_
 refine jB ?_
 have g1:d.toList[k+1]'(by omega)=d[k+1]!:=by rw [getElem!_pos d (k+1) (by omega)];simp
 have g0:d.toList[k]'(by omega)=d[k]!:=by rw [getElem!_pos d k (by omega)];simp
 have hstep:=cmpct_step (L:=d.toList) (j:=k) (by omega)
 refine AW.cond rfl (fun h3=>?_) (fun h3=>?_)
 rotate_left
 ·have h3:¬d[k+1]! = d[k]!:=by
   have:=of_decide_eq_false h3
   simpa using this
  rw [if_neg (by rw [g0,g1];exact fun e=>h3 e.symm)] at hstep
  refine jA ?_
  refine ⟨k+1+1,⟨⟨by omega,by omega,?_⟩,by omega⟩,⟨Rn.rowIs rfl rfl rfl,Rn.is (i64_next h (by omega)) rfl,trivial⟩,ci_end rfl rfl rfl⟩
  rw [hf,hstep,Nat.add_sub_cancel,List.take_add_one,List.getElem?_eq_getElem (by omega)]
  simp
 have h3:d[k+1]! = d[k]!:=by
  have:=of_decide_eq_true h3
  simpa using this
 rw [if_pos (by rw [g0,g1];exact h3.symm)] at hstep
 rw [hstep] at hf
 refine jB ?_
 refine AW.text ?_
 refine wH rfl ?_
 refine RG.opS rfl (op_sliceE (l:=k+1) rfl (tab_ok ty_ok rfl) rfl (tab_ok ty_ok rfl) rfl rfl (.at_ rfl) h) rfl ?_
 refine wH rfl ?_;refine jA ?_
 refine AW.loopL (ι:=Nat × Nat × Array Int) (fun x=>[(0,.row 201 0 0 n),(3,.i .i64 (x.1:Nat)),(4,.row 201 0 (k+1) (n - (k+1))),(5,.i .i64 (x.2.1:Nat))]) (fun x=>gl q [201] (ciB x.2.2.toList)) (fun x=>(x.2.2.size=n/\1<=x.1/\1<=x.2.1/\x.1<=k+x.2.1/\k+1+x.2.1<=n)/\x.2.2.toList.drop (k+x.2.1)=d.toList.drop (k+x.2.1)/\x.2.2[x.1 - 1]! = d[k+x.2.1]!/\cmpct d.toList=x.2.2.toList.take (x.1 - 1)++cmpct (d.toList.drop (k+x.2.1))) (fun x=>n - x.2.1) (k+1,1,d) ⟨⟨hn,by show 1<=k+1;omega,Nat.le_refl _,Nat.le_refl _,by show k+1+1<=n;omega⟩,rfl,by rw [Nat.add_sub_cancel];exact h3.symm,by rw [Nat.add_sub_cancel];exact hf⟩ ⟨Rn.rowIs rfl rfl rfl,Rn.is rfl rfl,Rn.rowIs rfl rfl rfl,Rn.is rfl rfl,trivial⟩ (ci_end rfl rfl rfl) fun x hx=>?_
 clear hf hstep
 obtain ⟨k',i2,m⟩:=x
 obtain ⟨⟨hm,hk',hi2,hki,hin⟩,hdr,hlast,hf⟩:=hx
 simp only at hm hk' hi2 hki hin hdr hlast hf
 have hmL:m.toList.length=n:=by rw [Array.length_toList];exact hm
 refine jA ?_
 refine AW.cond rfl (fun h4=>?_) (fun h4=>?_)
 rotate_left
 ·have h4:¬i2<n - (k+1):=by
   have:=of_decide_eq_false h4
   simp only at this
   omega
  have hj:k+i2+1=n:=by omega
  obtain ⟨p,rfl⟩:∃p,k'=p+1:=⟨k' - 1,by omega⟩
  simp only [Nat.add_sub_cancel] at hlast hf
  have hpm:m.toList[p]'(by omega)=m[p]!:=by rw [getElem!_pos m p (by omega)];simp
  have hdj:d.toList[k+i2]'(by omega)=d[k+i2]!:=by rw [getElem!_pos d (k+i2) (by omega)];simp
  have hc:cmpct d.toList=m.toList.take (p+1):=by
   rw [hf,cmpct_last (by omega),hdj,<- hlast,<- hpm,List.take_add_one,List.getElem?_eq_getElem (by omega)]
   rfl
  have e1:(cmpct d.toList).length=p+1:=by rw [hc,List.length_take,hmL];omega
  have e2:cmpZ d.toList=m.toList.take (p+1)++List.replicate (n - (p+1)) 0:=by rw [cmpZ,e1,hc,hL,zerosI]
  refine jB ?_
  refine AW.exit ?_;refine Eq.mpr (if_pos rfl) ?_;refine jB ?_
  refine AW.text ?_
  refine wH rfl ?_
  refine RG.opS rfl (op_sliceE (l:=p+1) rfl (tab_ok ty_ok rfl) rfl (tab_ok ty_ok rfl) rfl rfl (.at_ rfl) (by omega)) rfl ?_
  refine RG.opS rfl (op_clearI rfl rfl rfl rfl (tab_ok ty_ok rfl) rfl (fun W=>by kernel_rfl) rfl rfl (by omega) (by rw [List.length_map,hmL];omega)) rfl ?_
  refine jB ?_
  refine AW.text ?_
  refine wH rfl ?_
  refine RG.opS rfl (op_sliceR (h:=p+1) rfl (tab_ok ty_ok rfl) rfl (tab_ok ty_ok rfl) rfl rfl .no (.at_ rfl) (by omega)) rfl ?_
  refine wH rfl ?_;refine jA ?_
  rw [e1,e2,show ciB (m.toList.take (p+1)++List.replicate (n - (p+1)) 0)=[(201,⟨0,some (.row 3 1 ((m.toList.map cI).take (p+1)++List.replicate (n - (p+1)) [.i .i64 0]))⟩)] from by rw [ciB,List.map_append,List.map_take,List.map_replicate];rfl]
  exact AW.ret (retM1 rfl (Rm.rowIs rfl rfl rfl rfl) ⟨.ghost rfl rfl rfl,.row rfl rfl,trivial⟩)
 have h4:i2<n - (k+1):=by
  have:=of_decide_eq_true h4
  simp only at this
  omega
 have w2:IntKind.i64.wrap (((i2:Nat):Int) - Int.ofNat 1)=((i2 - 1:Nat):Int):=by simp only [IntKind.wrap_i64,Int.ofNat_eq_natCast];omega
 have hj1:k+1+i2<m.size:=by omega
 have hj0:k+1+(i2 - 1)<m.size:=by omega
 have a1:m[k+1+i2]! = d[k+1+i2]!:=by
  rw [getElem!_pos m _ hj1,getElem!_pos d _ (by omega)]
  have e:=congrArg (fun l=>l[1]?) hdr
  simp only [List.getElem?_drop,Array.getElem?_toList] at e
  rw [show k+i2+1=k+1+i2 by omega,Array.getElem?_eq_getElem hj1,Array.getElem?_eq_getElem (by omega)] at e
  exact Option.some.inj e
 have a0:m[k+1+(i2 - 1)]! = d[k+i2]!:=by
  rw [show k+1+(i2 - 1)=k+i2 by omega,getElem!_pos m (k+i2) (by omega),getElem!_pos d (k+i2) (by omega)]
  have e:=congrArg (fun l=>l[0]?) hdr
  simp only [List.getElem?_drop,Array.getElem?_toList,Nat.add_zero] at e
  rw [Array.getElem?_eq_getElem (by omega),Array.getElem?_eq_getElem (by omega)] at e
  exact Option.some.inj e
 have d1:d.toList[k+i2+1]'(by omega)=d[k+1+i2]!:=by rw [getElem!_pos d (k+1+i2) (by omega)];simp [show k+i2+1=k+1+i2 by omega]
 have d0:d.toList[k+i2]'(by omega)=d[k+i2]!:=by rw [getElem!_pos d (k+i2) (by omega)];simp
 have hstep:=cmpct_step (L:=d.toList) (j:=k+i2) (by omega)
 have hdr2:m.toList.drop (k+(i2+1))=d.toList.drop (k+(i2+1)):=by
  have e:=congrArg (List.drop 1) hdr
  rw [List.drop_drop,List.drop_drop] at e
  exact e
 refine jB ?_
 refine AW.draws mixed_ok ?_
 refine wH rfl ?_
 refine RG.opS rfl (op_ixO (k:=i2) rfl (tab_ok ty_ok rfl) rfl (tab_ok ty_ok rfl) rfl rfl rfl rfl h4 rfl) rfl ?_
 refine RG.opS rfl (op_ldW (k+1+i2) cI m hj1 rfl (tab_ok ty_ok rfl) rfl rfl rfl) rfl ?_
 refine wH rfl ?_
 refine RG.opS rfl (op_ixO (k:=i2 - 1) rfl (tab_ok ty_ok rfl) rfl (tab_ok ty_ok rfl) rfl rfl rfl w2 (by omega) rfl) rfl ?_
 refine RG.opS rfl (op_ldW (k+1+(i2 - 1)) cI m hj0 rfl (tab_ok ty_ok rfl) rfl rfl rfl) rfl ?_
 refine wH rfl ?_
 refine jB ?_
 refine AW.cond rfl (fun h5=>?_) (fun h5=>?_)
 ·have h5:¬d[k+1+i2]! = d[k+i2]!:=by
   rw [a1,a0] at h5
   simpa using h5
  rw [if_neg (by rw [d0,d1];exact fun e=>h5 e.symm)] at hstep
  refine jB ?_
  refine AW.text ?_
  refine wH rfl ?_
  refine RG.opS rfl (op_ixO (k:=i2) rfl (tab_ok ty_ok rfl) rfl (tab_ok ty_ok rfl) rfl rfl rfl rfl h4 rfl) rfl ?_
  refine RG.opS rfl (op_ldW (k+1+i2) cI m hj1 rfl (tab_ok ty_ok rfl) rfl rfl rfl) rfl ?_
  refine wH rfl ?_
  refine RG.opS rfl (op_ixW (k') cI (m.toList) (by omega) rfl (tab_ok ty_ok rfl) rfl (tab_ok ty_ok rfl) rfl rfl rfl jX) rfl ?_
  refine RG.opS rfl (op_stW (k') cI (m.toList) (m[k+1+i2]!) (by simp only [List.length_set,Array.length_toList];omega) rfl (tab_ok ty_ok rfl) rfl rfl rfl rfl rfl (fun _=>rfl)) rfl ?_
  refine jA ?_
  obtain ⟨p,rfl⟩:∃p,k'=p+1:=⟨k' - 1,by omega⟩
  simp only [Nat.add_sub_cancel] at hlast hf
  have hset:(m.set! (p+1) m[k+1+i2]!).toList=m.toList.set (p+1) m[k+1+i2]!:=by simp
  have hpm:m.toList[p]'(by omega)=m[p]!:=by rw [getElem!_pos m p (by omega)];simp
  refine ⟨(p+1+1,i2+1,m.set! (p+1) m[k+1+i2]!),⟨⟨⟨by simp [hm],by show 1<=p+1+1;omega,by show 1<=i2+1;omega,by show p+1+1<=k+(i2+1);omega,by show k+1+(i2+1)<=n;omega⟩,?_,?_,?_⟩,by show n - (i2+1)<n - i2;omega⟩,⟨Rn.rowTIs rfl rfl rfl (by simp [hm]),Rn.is (i64_next (show p+1<n by omega) (by omega)) rfl,Rn.rowTIs rfl rfl rfl (by simp [hm];omega),Rn.is (i64_next (show i2<n by omega) (by omega)) rfl,trivial⟩,ci_end rfl rfl (by rw [hset])⟩
  ·show (m.set! (p+1) m[k+1+i2]!).toList.drop (k+(i2+1))=d.toList.drop (k+(i2+1))
   rw [hset,List.drop_set_of_lt (by omega)]
   exact hdr2
  ·simp only [Nat.add_sub_cancel]
   rw [a1,show k+(i2+1)=k+1+i2 by omega]
   simp [show p+1<m.size by omega]
  ·simp only [Nat.add_sub_cancel]
   rw [hf,hstep,hset,List.take_set_of_le (by omega),List.take_add_one,List.getElem?_eq_getElem (by omega),hpm,hlast,<- d0,List.append_assoc]
   rfl
 ·have h5:d[k+1+i2]! = d[k+i2]!:=by
   rw [a1,a0] at h5
   simpa using h5
  rw [if_pos (by rw [d0,d1];exact h5.symm)] at hstep
  refine jA ?_
  refine ⟨(k',i2+1,m),⟨⟨⟨hm,hk',by show 1<=i2+1;omega,by show k'<=k+(i2+1);omega,by show k+1+(i2+1)<=n;omega⟩,hdr2,?_,?_⟩,by show n - (i2+1)<n - i2;omega⟩,⟨Rn.rowIs rfl rfl rfl,Rn.is rfl rfl,Rn.rowIs rfl rfl rfl,Rn.is (i64_next (show i2<n by omega) (by omega)) rfl,trivial⟩,ci_end rfl rfl rfl⟩
  ·show m[k' - 1]! = d[k+(i2+1)]!
   rw [hlast,<- h5,show k+(i2+1)=k+1+i2 by omega]
  ·show _=m.toList.take (k' - 1)++cmpct (d.toList.drop (k+(i2+1)))
   rw [hf,hstep]
   rfl
end Go.Proofs.YtoaibdbehlcnfaaGreat.Sm
end
section
namespace Go.Proofs.YtoaibdbehlcnfaaGreat.Sm
open Go.RowKit
section
variable {P : Program} {N : Nat} {o : Oper} {s : St}
theorem op_clipR {t e id ep n ty m:Nat} {ti ei:TI} {x y z:Operand} {els:List (List AV)} {k1 k2:IntKind} (ho:o.op = .slice t x none (some y) (some z)) (ht:TiOk P t ti) (hk:ti.k = .slice e) (he:TiOk P e ei) (hx:s.ev x = .row id ep 0 n) (hid:s.σ id=⟨ep,some (.row ty m els)⟩) (h0:0<n) (hy:s.ev y = .i k1 (n:Nat)) (hz:s.ev z = .i k2 (n:Nat)) :
  OpLoc P N o s ⟨.ref id ep (.sl 0 n n),[],[id]⟩:=by
 refine oploc_val [id] _ fun s' W F μ a g1 g2 hs=>?_
 have hid':=(g2 id (by simp)).trans hid
 have ex:=hs.ev x
 rw [g1 x (by rw [ho];simp [Op.operands]),hx] at ex
 have ey:=hs.ev y
 rw [g1 y (by rw [ho];simp [Op.operands]),hy] at ey
 have ez:=hs.ev z
 rw [g1 z (by rw [ho];simp [Op.operands]),hz] at ez
 obtain ⟨q1,q⟩:=row_form hs.inv ex hid'
 rcases q with ⟨e1,e2,e3⟩ | ⟨b,cap,hm,hv,q2,q3⟩
 ·subst e2
  simp at q1
  omega
 have hb:(Instr.sliceBounds true n (cap - 0) none (some (.int k1 (n:Nat))) (some (.int k2 (n:Nat)))).run P W = .ok (0,n,n) W:=by
  have e1:(0:Int)<=(n:Int)/\(n:Int)<=((cap - 0:Nat):Int):=by omega
  have e2:(0:Int)<=(n:Int)/\(n:Int)<=(n:Int):=by omega
  simp only [Instr.sliceBounds,Instr.sliceBound,asIntOf,Sem.run_bind,Sem.run_pure,Result.andThen_ok,if_pos e1,if_pos e2,Int.toNat_natCast]
 simp only [Nat.sub_zero] at hv hb
 refine ⟨.slice (some ⟨b,0,none⟩) n n,?_,.ref id ep (.sl 0 n n) _ (by rw [hid'];exact Nat.le_refl _) rfl fun bd' _=>⟨b,cap,hm,rfl⟩⟩
 simp only [execOp,ho,Instr.sliceAt,Instr.slice,hv,ey.i',ez.i',Option.map_none,Option.map_some,Sem.run_bind,Sem.run_pure,Result.andThen_ok,run_underlying (ht.slice hk),hb,he.size,Nat.sub_zero]
 have hn:¬n=0:=by omega
 simp [hn,Addr.add]
theorem append_runC {t ty e : Nat} {ti ei : TI} (ht : TiOk P t ti) (hk : ti.k = .slice e) (he : TiOk P e ei) (h0 : 0 < ei.n) {W : World} {F : Nat -> Prop} {y : Value} {g cap : Nat} {els els2 : List (List AV)} {cells : List Value} (hown : W.ownsRow 0 e ei.n (.slice (some ⟨g, 0, none⟩) els.length cap) els.length cells) (hc : RowC W F ei.n els cells) (hy : Src W F ei.n els2 y) (hpos : 0 < els2.length)
    (hb:(els.length+els2.length)*ei.sz<=140737488355328) (h63:els.length+els2.length<=9223372036854775807) :
    ∃v' W' cells',(Builtin.append_ #[t,t] ty #[.slice (some ⟨g,0,none⟩) els.length els.length,y]).run P W = .ok v' W'/\W'.ownsRow 0 e ei.n v' (els++els2).length cells'/\(∃news,cells'=cells++news/\RowC W F ei.n els2 news)/\W.grownBy W' none/\v'.ownBlock=some W.heap.size:=by
  obtain ⟨A,c,news,rfl,hn,hA⟩:=hy
  obtain ⟨inf,d,z,q1,q2,q3,q4,q5,q6,q7⟩:=he.h
  have hzl:z.cells.size=ei.n:=by rw [<- he.zl,<- Array.length_toList];exact (zsOk_rel (W:=W) (F:=F) q7).1
  rcases hA with ⟨ad,rfl,hcell⟩ | hnil
  rotate_left
  · rw [hnil] at hpos;simp at hpos
  have holds:=hown.cells (g:=g) rfl
  have hcl:cells.length=els.length*inf.size:=by rw [hown.1,q3]
  have hnl:news.length=els2.length*inf.size:=by rw [hn.n,q3]
  have hr:=run_append_grow (P:=P) W t ty e inf z (ht.slice hk) q1 q6 ⟨g,0,none⟩ els.length els.length cells hcl holds ad els2.length c news hnl hcell (by omega) (by omega) (by
    have:=Nat.mul_le_mul_right inf.bytes (show Builtin.nextslicecap (els.length+els2.length) els.length<=2*(els.length+els2.length) from nextslicecap_le (by omega))
    rw [q4] at this ⊢
    rw [Nat.mul_assoc] at this
    omega)
  have hge:=grownCap_ge W (els.length+els2.length) els.length e
  have hcm:grownCap W (els.length+els2.length) els.length e<=maxLen:=grownCap_le_maxLen W _ _ e (by unfold maxLen;omega)
  have hlen:(cells++news).length=(els.length+els2.length)*ei.n:=by rw [List.length_append,hcl,hnl,q3,Nat.add_mul]
  refine ⟨_,_,cells++news,hr,⟨by rw [hlen,List.length_append],.inr ⟨W.heap.size,_,_,by rw [List.length_append],Nat.zero_le _,heap_alloc_new W.drew _,by rw [List.length_append];exact hge,hcm,?_,?_⟩⟩,⟨news,rfl,hn⟩,⟨rfl,rfl,rfl,by simp,fun k hk _=>(Below.heap_alloc W.drew _ k hk)⟩,rfl⟩
  · simp only [Array.size_append,List.size_toArray,size_zeroCells,hzl,hcl,hnl,q3,<- Nat.add_mul]
    congr 1
    omega
  · simp only [Array.toList_append,List.append_assoc]
    rw [<- List.append_assoc,List.length_append,<- hlen]
    exact List.take_left
theorem op_appendC {c : Call} {x y : Operand} {t e id ep id2 ep2 n : Nat} {ti ei : TI} {els els2 : List (List AV)} (ho : o.op = .call c) (hc : c.callee = .builtin .append) (ha : c.args = #[x, y]) (hat : c.argTypes = #[t, t]) (ht : TiOk P t ti) (hk : ti.k = .slice e) (he : TiOk P e ei) (h0 : (ei.n == 0) = false)
    (hx:s.ev x = .ref id ep (.sl 0 n n)) (hid0:s.σ id=⟨ep,some (.row e ei.n els)⟩) (hne:els.length=n) (hn0:0<n)
    (hy:s.ev y = .row id2 ep2 0 els2.length) (hid2:s.σ id2=⟨ep2,some (.row e ei.n els2)⟩) (hpos:0<els2.length)
    (hb:(els.length+els2.length)*ei.sz<=140737488355328) (h63:els.length+els2.length<=9223372036854775807) {r:List (List AV)} (hr:els++els2=r) {m:Nat} (hm:r.length=m) :
    OpLoc P N o s ⟨.row id (ep+1) 0 m,[(id,⟨ep+1,some (.row e ei.n r)⟩)],[id2]⟩:=by
  subst hr hm hne
  intro s' g1 g2 g3 W F μ a hrs K Q hK
  have hid:s'.σ id=s.σ id:=g3 (id,⟨ep+1,some (.row e ei.n (els++els2))⟩) (by simp)
  have h0' : 0 < ei.n := by have : ¬ ei.n = 0 := by simpa using h0
                            omega
  have opers:o.op.operands.toList=[x,y]:=by rw [ho];simp [Op.operands,Call.operands,hc,ha]
  have ex:=hrs.ev x
  rw [g1 x (by rw [opers];simp),hx] at ex
  have ey:=hrs.ev y
  rw [g1 y (by rw [opers];simp),hy] at ey
  have hsrc:=src_row hrs.inv ((g2 id2 (by simp)).trans hid2) ey
  obtain ⟨b,cap,hmu,hv⟩:=(Rel.ref' ex).2.2 _ (hid.trans hid0)
  have hrow:Rel W F μ s'.σ (.row id ep 0 els.length) (.slice (some ⟨b,0,none⟩) els.length (cap - 0)):=by
    refine .row id ep 0 els.length _ (by rw [hid,hid0];exact Nat.le_refl _) rfl fun bd' m' l' hbd hL=>?_
    rw [hid,hid0] at hbd
    obtain rfl:Body.row e ei.n els=bd':=by simpa using hbd
    obtain ⟨rfl,rfl⟩:ei.n=m'/\els.length=l':=by simpa [Body.rowL] using hL
    exact ⟨by omega,by rw [hmu,Nat.zero_mul]⟩
  obtain ⟨cells,h1,h2,h3⟩:=row_owns hrs.inv (hid.trans hid0) hrow
  obtain ⟨v',W',cells',hrun,ho',⟨news,rfl,hnews⟩,hg,hatb⟩:=append_runC (P:=P) (ty:=o.type) ht hk he h0' h1 h2 hsrc hpos hb h63
  have hk':Kp (fun b=>(s'.σ id).body.isSome=true/\∃c,μ id=some (b,c)) W W':=(Kp.refl _ W).grown hg fun k hk=>(by cases hk)
  have hp : ∃ p' : Option (Nat × Nat), (∀ b c, p' = some (b, c) -> b < W'.heap.size /\ (W.heap.size <= b \/ ((s'.σ id).body.isSome = true /\ ∃ c', μ id = some (b, c')))) /\
      (∀F μ' σ',RowC W' F ei.n (els++els2) (cells++news)->BodyRel W' F μ' σ' p' (.row e ei.n (els++els2)))/\RowV p' ei.n 0 (els++els2).length (els++els2).length v'/\v'.oneCell'=true:=by
    rcases ho'.2 with ⟨rfl,hz⟩ | ⟨g,cap,cur,rfl,_,hh,r1,r2,r3,r4⟩
    · have e0:=List.eq_nil_of_length_eq_zero hz
      exact ⟨none,fun b c h=>(by cases h),fun F μ' σ' _=>.inl ⟨rfl,e0⟩,⟨by omega,rfl⟩,rfl⟩
    · refine ⟨some (g,cap),fun b c h=>?_,fun F μ' σ' hc=>hc.body hh r1 r2 r3 r4,⟨by omega,by simp⟩,rfl⟩
      obtain ⟨rfl,rfl⟩:g=b/\cap=c:=by simpa using h
      refine ⟨(Array.getElem?_eq_some_iff.1 hh).1,.inl ?_⟩
      have:W.heap.size=g:=by simp [Value.ownBlock] at hatb;exact hatb.symm
      omega
  obtain ⟨p',p1,p2,p3,p4⟩:=hp
  obtain ⟨hs,hi⟩:=inv_turn hrs.inv id p' (ep+1) (.row e ei.n (els++els2)) hk' p1 (.inl (by rw [hid,hid0];exact Nat.lt_succ_self _)) (fun hs=>p2 _ _ _ ((h2.append hnews).stp hrs.inv hs))
  unfold Oper.wp
  have hrun':(execOp a.eval o).run P W = .ok (.value v') W':=by
    simp only [execOp,ho,resolve,hc,ha,hat,List.map_toArray,List.map_cons,List.map_nil,Sem.run_bind,Sem.run_pure,Result.andThen_ok,invoke,builtin,hv,RK.val,hrun]
  rw [hrun']
  refine hK W' F (upm μ id p') _ (hrs.put hs hi (.row id _ 0 _ _ ?_ p4 fun bd' m' l' hbd hL=>?_)) hs
  · rw [up1_eq,if_pos rfl]
    exact Nat.le_refl _
  · rw [up1_eq,if_pos rfl] at hbd
    obtain rfl:Body.row e ei.n (els++els2)=bd':=by simpa using hbd
    obtain ⟨rfl,rfl⟩:ei.n=m'/\(els++els2).length=l':=by simpa only [Body.rowL,Option.some.injEq,Prod.mk.injEq] using hL
    rw [upm_eq,if_pos rfl]
    exact p3
end
end Go.Proofs.YtoaibdbehlcnfaaGreat.Sm
end
section
namespace Go.Proofs.YtoaibdbehlcnfaaGreat.Sm
open Go.RowKit
theorem o_Clone (x:Int) (l:List Int) (hl:(x::l).length<=1000000) (q:Nat->Option (Nat × Nat)):MDoes Tryz.prog 83 [.sl ((x::l).map cI)] (gl q [] []) (.row 5 0 0 (x::l).length) (gl q [] [(5,⟨0,some (.row 3 1 ((x::l).map cI))⟩)]):=by
 refine MDoes.of_body Tryz.func83 rfl (by kernel_rfl) rfl rfl ?_
 have hlen:((x::l).map cI).length=(x::l).length:=List.length_map ..
 refine jA ?_
 refine AW.condF rfl ?_;refine jA ?_
 refine RG.opS rfl (op_build0 (id:=5) rfl (tab_ok ty_ok rfl) rfl (tab_ok ty_ok rfl)) rfl ?_;refine wH rfl ?_;refine jA ?_
 refine RG.opS rfl (op_appL cI ([]:List Int) (x::l) (by simp at hl ⊢;omega) (fun _=>rfl) rfl rfl rfl rfl (tab_ok ty_ok rfl) rfl (tab_ok ty_ok rfl) rfl rfl ⟨_,rfl,rfl⟩ rfl) rfl ?_;refine wH rfl ?_;refine jA ?_
 rw [<- hlen]
 exact AW.ret (retM1 rfl (Rm.rowIs rfl rfl rfl rfl) ⟨.row rfl rfl,trivial⟩)
def risB:List Int->Bool
 | x::y::l=>decide (x<y) && risB (y::l)
 | _=>true
theorem risB_drop {L:List Int} {j:Nat} (h:j+1<L.length):risB (L.drop j)=(decide (L[j]<L[j+1]) && risB (L.drop (j+1))):=by
 rw [List.drop_eq_getElem_cons (show j<L.length by omega),List.drop_eq_getElem_cons h,risB]
theorem risB_end {L:List Int} {j:Nat} (h:L.length<=j+1):risB (L.drop j)=true:=by
 match hd:L.drop j with
 | []=>rfl
 | [x]=>rfl
 | x::y::l =>
  have:=congrArg List.length hd
  rw [List.length_drop] at this
  simp at this
  omega
theorem d_IdSound (l:List Int) (b:Bool) (hb:risB l=b):PDoes Tryz.prog 119 [.sl (l.map cI)] (.b b):=by
  refine PDoes.of_bodyN Tryz.func119 rfl (by kernel_rfl) rfl rfl ?_
  refine jB ?_
  refine AW.lens 0 rfl fun hm=>?_
  rw [List.length_map] at hm
  refine jA ?_
  refine AW.loopL (ι:=Nat) (fun k=>[(0,.sl (l.map cI)),(3,.i .i64 ((k+1:Nat):Int))]) (fun _=>[]) (fun k=>risB (l.drop k)=b) (fun k=>l.length - k) 0 (by rw [List.drop_zero];exact hb) jW trivial fun k hk=>?_
  refine jA ?_
  refine AW.cond rfl (fun h0=>?_) (fun h0=>?_)
  · have h : k + 1 < l.length := by
      have:=of_decide_eq_true h0
      rw [List.length_map] at this
      omega
    have hw:IntKind.i64.wrap (((k+1:Nat):Int) - Int.ofNat 1)=(k:Nat):=by
      rw [IntKind.wrap_i64]
      simp only [Int.ofNat_eq_natCast]
      omega
    rw [risB_drop h] at hk
    refine jB ?_
    refine AW.draws mixed_ok ?_
    refine wH rfl ?_
    refine RG.opS rfl (op_index rfl (tab_ok ty_ok rfl) rfl (tab_ok ty_ok rfl) rfl rfl (show (l.map cI)[k+1]?=some (cI l[k+1]) by rw [List.getElem?_map,List.getElem?_eq_getElem (by assumption)];rfl) rfl) rfl ?_
    refine RG.runO ty_ok 0 [(16,.i .i64 (k:Nat))] 400 rfl jD ?_
    refine RG.opS rfl (op_index rfl (tab_ok ty_ok rfl) rfl (tab_ok ty_ok rfl) rfl rfl (show (l.map cI)[k]?=some (cI (l[k]'(by omega))) by rw [List.getElem?_map,List.getElem?_eq_getElem (by omega)];rfl) rfl) rfl ?_
    refine wH rfl ?_;refine jB ?_
    refine AW.cond rfl (fun h1=>?_) (fun h1=>?_)
    · have h1 : ¬ l[k]'(by omega) < l[k + 1] := by
        have:=of_decide_eq_true h1
        omega
      rw [decide_eq_false h1,Bool.false_and] at hk
      refine jA ?_
      refine AW.ret (retQA ty_ok rfl rfl rfl ?_)
      rw [<- hk]
      rfl
    have h1:l[k]'(by omega)<l[k+1]:=by
      have:=of_decide_eq_false h1
      omega
    rw [decide_eq_true h1,Bool.true_and] at hk
    refine jA ?_
    exact ⟨k+1,⟨hk,by omega⟩,⟨Rn.is rfl rfl,Rn.is (i64_next h hm) rfl,trivial⟩,trivial⟩
  · have h : l.length <= k + 1 := by
      have:=of_decide_eq_false h0
      rw [List.length_map] at this
      omega
    rw [risB_end h] at hk
    refine jA ?_
    refine AW.exit ?_;refine Eq.mpr (if_pos rfl) ?_;refine jA ?_
    refine AW.ret (retQA ty_ok rfl rfl rfl ?_)
    rw [<- hk]
    rfl
theorem o_Clip (L:List Int) (n:Nat) (h0:0<n) (q:Nat->Option (Nat × Nat)):MDoes Tryz.prog 82 [.row 201 0 0 n] (gl q [201] (ciB L)) (.ref 201 0 (.sl 0 n n)) (gl q [201] (ciB L)):=by
 refine MDoes.of_body Tryz.func82 rfl (by kernel_rfl) rfl rfl ?_
 refine jA ?_
 refine RG.opS rfl (op_clipR rfl (tab_ok ty_ok rfl) rfl (tab_ok ty_ok rfl) rfl rfl h0 rfl rfl) rfl ?_
 refine wH rfl ?_;refine jA ?_
 exact AW.ret (retM1 rfl (Rm.refIs rfl rfl rfl rfl) (ci_end rfl rfl rfl))
def insL (l:List Int):List Int:=(Go.Sort.insertionSort ltO l.toArray 0 l.length).toList
def mkL (l:List Int):List Int:=bif risB l then l else cmpct (insL l)
theorem o_Make (x:Int) (l:List Int) (hl:(x::l).length<=12) (hp:0<(mkL (x::l)).length) (q:Nat->Option (Nat × Nat)):MDoes Tryz.prog 70 [.sl ((x::l).map cI)] (gl q [] []) (.ref 5 0 (.sl 0 (mkL (x::l)).length (mkL (x::l)).length)) (gl q [] [(5,⟨0,some (.row 3 1 ((mkL (x::l)).map cI))⟩)]):=by
  have hC:=o_Clone x l (by omega)
  have hS:=fun b hb=>d_IdSound (x::l) b hb
  generalize hL:x::l=L at *
  refine MDoes.of_body Tryz.func70 rfl (by kernel_rfl) rfl rfl ?_
  refine jA ?_
  refine RG.ownN [] [(5,5)] (fun q=>hC q) rfl rfl rfl rfl rfl rfl rfl rfl rfl rfl ?_
  refine wH rfl ?_;refine jA ?_
  have hlm:(L.map cI).length=L.length:=List.length_map ..
  cases hr:risB L
  rotate_left
  · have e1:mkL L=L:=by rw [mkL,hr];rfl
    rw [e1] at hp ⊢
    have hK:=o_Clip L L.length hp
    refine RG.callS rfl rfl rfl rfl (congrArg (fun x=>[x]) (rowAllN hlm.symm)) (hS true hr) rfl rfl ?_
    refine wH rfl ?_;refine jA ?_
    refine AW.condF rfl ?_;refine jA ?_
    refine RG.ownN [(5,201)] [(201,5)] (fun q=>hK q) rfl rfl rfl rfl rfl rfl rfl rfl rfl rfl ?_
    refine wH rfl ?_;refine jA ?_
    exact AW.ret (retM1 rfl (Rm.refIs rfl rfl rfl rfl) ⟨.row rfl rfl,trivial⟩)
  · have e1:mkL L=cmpct (insL L):=by rw [mkL,hr];rfl
    rw [e1] at hp ⊢
    have hcut:((cmpZ (insL L)).map cI).take (cmpct (insL L)).length=(cmpct (insL L)).map cI:=by rw [<- List.map_take,cmpZ,List.take_left]
    have hsz:=ins_szO L.toArray L.length (by simp)
    have hO:=fun q=>o_Sort L.length hl L.toArray (by simp) q
    have hP:=fun q=>o_Compact (Go.Sort.insertionSort ltO L.toArray 0 L.length) L.length (by rw [hsz];simp) (by omega) q
    have hK:=o_Clip (cmpZ (insL L)) (cmpct (insL L)).length hp
    have hz1:((insL L).map cI).length=(L.map cI).length:=by
      rw [List.length_map,List.length_map,insL,Array.length_toList,hsz]
      simp
    have hz2:((cmpZ (insL L)).map cI).length=((insL L).map cI).length:=by
      have:=cmpct_len (insL L)
      rw [List.length_map,List.length_map,cmpZ,List.length_append,zerosI,List.length_replicate]
      omega
    refine RG.callS rfl rfl rfl rfl (congrArg (fun x=>[x]) (rowAllN hlm.symm)) (hS false hr) rfl rfl ?_
    refine wH rfl ?_;refine jA ?_
    refine AW.condT rfl ?_;refine jA ?_
    refine RG.ownK [(5,201)] [(201,5)] 5 201 hz1 (fun q=>hO q) rfl rfl rfl rfl rfl rfl rfl rfl rfl rfl rfl rfl rfl ?_
    refine wH rfl ?_;refine jA ?_
    refine RG.ownK [(5,201)] [(201,5)] 5 201 hz2 (fun q=>hP q) rfl rfl rfl rfl rfl rfl rfl rfl rfl rfl rfl rfl rfl ?_
    refine wH rfl ?_;refine jA ?_
    refine RG.ownN [(5,201)] [(201,5)] (fun q=>hK q) rfl rfl rfl rfl rfl rfl rfl rfl rfl rfl ?_
    refine wH rfl ?_;refine jA ?_
    rw [<- hcut]
    exact AW.ret (retM1 rfl (Rm.refIs rfl rfl rfl rfl) ⟨.rowT rfl rfl,trivial⟩)
end Go.Proofs.YtoaibdbehlcnfaaGreat.Sm
end
section
namespace Go.Proofs
open Go.Shelf
def Tryz.lays189_ren:Go.Shelf.Ren:=⟨fun | 189=>120 | 125=>168 | 257=>167 | 128=>222 | 129=>223 | 294=>213 | 295=>214 | 296=>215 | 297=>216 | 298=>217 | 299=>218 | 216=>219 | 300=>220 | 301=>221 | 328=>263 | 329=>264 | 330=>265 | 331=>266 | 332=>267 | 215=>268 | 343=>286 | n=>n,fun | 28=>74 | 3=>3 | 46=>216 | 0=>0 | 51=>313 | 53=>32 | 4=>4 | 183=>306 | 182=>305 | 131=>133 | 5=>5 | 9=>9 | 218=>338 | 222=>342 | 228=>354 | 229=>355 | n=>n,fun | n=>n⟩
theorem Tryz.lays189:Go.Proofs.Lays.n189 Tryz.prog Tryz.lays189_ren:={
 mixed:=by kernel_rfl
 f125:=Tryz.func168.trans (congrArg some (by kernel_rfl))
 f128:=Tryz.func222.trans (congrArg some (by kernel_rfl))
 f129:=Tryz.func223.trans (congrArg some (by kernel_rfl))
 f189:=Tryz.func120.trans (congrArg some (by kernel_rfl))
 f215:=Tryz.func268.trans (congrArg some (by kernel_rfl))
 f216:=Tryz.func219.trans (congrArg some (by kernel_rfl))
 f257:=Tryz.func167.trans (congrArg some (by kernel_rfl))
 f294:=Tryz.func213.trans (congrArg some (by kernel_rfl))
 f295:=Tryz.func214.trans (congrArg some (by kernel_rfl))
 f296:=Tryz.func215.trans (congrArg some (by kernel_rfl))
 f297:=Tryz.func216.trans (congrArg some (by kernel_rfl))
 f298:=Tryz.func217.trans (congrArg some (by kernel_rfl))
 f299:=Tryz.func218.trans (congrArg some (by kernel_rfl))
 f300:=Tryz.func220.trans (congrArg some (by kernel_rfl))
 f301:=Tryz.func221.trans (congrArg some (by kernel_rfl))
 f328:=Tryz.func263.trans (congrArg some (by kernel_rfl))
 f329:=Tryz.func264.trans (congrArg some (by kernel_rfl))
 f330:=Tryz.func265.trans (congrArg some (by kernel_rfl))
 f331:=Tryz.func266.trans (congrArg some (by kernel_rfl))
 f332:=Tryz.func267.trans (congrArg some (by kernel_rfl))
 f343:=Tryz.func286.trans (congrArg some (by kernel_rfl))
 t0:=Tryz.underlying0
 a0:=Tryz.isAgg0
 z0:=Tryz.sizeOf0
 v0:=Tryz.zeroValue0
 t3:=Tryz.underlying3
 a3:=Tryz.isAgg3
 z3:=Tryz.sizeOf3
 v3:=Tryz.zeroValue3
 t4:=Tryz.underlying4
 a4:=Tryz.isAgg4
 z4:=Tryz.sizeOf4
 v4:=Tryz.zeroValue4
 t5:=Tryz.underlying5
 a5:=Tryz.isAgg5
 z5:=Tryz.sizeOf5
 v5:=Tryz.zeroValue5
 t9:=Tryz.underlying9
 a9:=Tryz.isAgg9
 z9:=Tryz.sizeOf9
 v9:=Tryz.zeroValue9
 t28:=Tryz.underlying74
 a28:=Tryz.isAgg74
 z28:=Tryz.sizeOf74
 v28:=Tryz.zeroValue74
 t46:=Tryz.underlying216
 a46:=Tryz.isAgg216
 z46:=Tryz.sizeOf216
 v46:=Tryz.zeroValue216
 t51:=Tryz.underlying313
 a51:=Tryz.isAgg313
 z51:=Tryz.sizeOf313
 v51:=Tryz.zeroValue313
 t53:=Tryz.underlying32
 a53:=Tryz.isAgg32
 z53:=Tryz.sizeOf32
 v53:=Tryz.zeroValue32
 t131:=Tryz.underlying133
 a131:=Tryz.isAgg133
 z131:=Tryz.sizeOf133
 v131:=Tryz.zeroValue133
 t182:=Tryz.underlying305
 a182:=Tryz.isAgg305
 z182:=Tryz.sizeOf305
 v182:=Tryz.zeroValue305
 t183:=Tryz.underlying306
 a183:=Tryz.isAgg306
 z183:=Tryz.sizeOf306
 v183:=Tryz.zeroValue306
 t218:=Tryz.underlying338
 a218:=Tryz.isAgg338
 z218:=Tryz.sizeOf338
 v218:=Tryz.zeroValue338
 t222:=Tryz.underlying342
 a222:=Tryz.isAgg342
 z222:=Tryz.sizeOf342
 v222:=Tryz.zeroValue342
 t228:=Tryz.underlying354
 a228:=Tryz.isAgg354
 z228:=Tryz.sizeOf354
 v228:=Tryz.zeroValue354
 t229:=Tryz.underlying355
 a229:=Tryz.isAgg355
 z229:=Tryz.sizeOf355
 v229:=Tryz.zeroValue355 }
end Go.Proofs
namespace Go.Proofs.YtoaibdbehlcnfaaGreat.Sm
open Go.RowKit
theorem swo_ltO:Go.Sort.SWO ltO where
 irrefl x:=decide_eq_false (by omega)
 trans x y z h1 h2:=decide_eq_true (by have:=of_decide_eq_true h1;have:=of_decide_eq_true h2;omega)
 ntrans x y z h1 h2:=decide_eq_false (by have:=of_decide_eq_false h1;have:=of_decide_eq_false h2;omega)
theorem ins_merge (d:Array Int):(Go.Sort.insertionSort ltO d 0 d.size).toList=d.toList.mergeSort fun x y=>decide (x<=y):=by
 obtain ⟨h1,h2⟩:=Go.Sort.insertionSort_holds (lt:=ltO) swo_ltO d 0 d.size (Nat.zero_le _) (Nat.le_refl _)
 have h:=Go.Sort.sorted_unique_holds (lt:=ltO) swo_ltO (fun x y g1 g2=>by have:=of_decide_eq_false g1;have:=of_decide_eq_false g2;omega) d _ h1 h2
 rw [h]
 congr 1
 funext x y
 rw [ltO,Bool.eq_iff_iff]
 simp
theorem oi_row {q:Nat->Option (Nat × Nat)} {n:Nat} {d:Array Int}:lkB (gl q [201] (oiB n d)) 201=⟨0,some (.row 3 1 (d.toList.map cI))⟩:=rfl
theorem o_SortX (d:Array Int) (n:Nat) (hn:d.size=n) (h0:0<n) (hl:n<=1000000000) (q:Nat->Option (Nat × Nat)):MDoes Tryz.prog 120 [.row 201 0 0 n] (gl q [201] (oiB n d)) (.tup []) (gl q [201] (oiB n (Go.Sort.insertionSort ltO d 0 n))):=by
  refine ⟨⟨_,_,Tryz.func120,rfl,by kernel_rfl⟩,fun W F μ vs hvl hv hi=>?_⟩
  subst hn
  match vs,hvl,hv with
  | [v],_,hv =>
  have hr:=hv 0 _ _ rfl rfl
  have hid:=oi_row (q:=q) (n:=d.size) (d:=d)
  obtain ⟨q1,hq⟩:=row_form hi hr hid
  rcases hq with ⟨_,e2,_⟩ | ⟨b,cap,hm,rfl,q2,q3⟩
  · have:=congrArg List.length e2
    simp at this
    rw [this] at h0
    simp at h0
  rw [List.length_map,Array.length_toList] at q1 q2
  rw [Nat.sub_zero,Nat.zero_mul]
  have hb:=hi.body 201 0 _ hid
  rw [hm] at hb
  rcases hb with ⟨hb,_⟩ | ⟨b',cap',cur,hb,hh,g1,g2,g3,g4,g5⟩
  · cases hb
  obtain ⟨rfl,rfl⟩:b=b'/\cap=cap':=by simpa using hb
  have hsz:d.size<=cur.size:=by rw [g3];omega
  have ht:cur.toList.take d.toList.length=d.toList.map (Value.int .i64):=by
    apply List.ext_getElem?
    intro k
    rw [Array.length_toList]
    by_cases hk:k<d.size
    · have hk':k<d.toList.length:=by rw [Array.length_toList];exact hk
      obtain ⟨_,v,e1,e2⟩:=g5 k (cI d.toList[k]) 0 (.i .i64 d.toList[k]) (by rw [List.getElem?_map,List.getElem?_eq_getElem hk'];rfl) rfl
      cases e2
      rw [List.getElem?_take_of_lt hk,Array.getElem?_toList,List.getElem?_map,List.getElem?_eq_getElem hk']
      rw [Nat.mul_one,Nat.add_zero] at e1
      exact e1
    · rw [List.getElem?_take_eq_none (by omega),List.getElem?_eq_none (by rw [List.length_map,Array.length_toList];omega)]
  have hlt:b<W.heap.size:=(Array.getElem?_eq_some_iff.1 hh).1
  have hS:=Any.slices_Sort_int Tryz.lays189 b 0 cap d.toList W (holds_of_blockI hh ht) hlt (by rw [Array.length_toList];omega)
  rw [Array.length_toList] at hS
  refine Calls.mono hS ?_
  rintro e W' ⟨rfl,k,os,rfl⟩
  rw [<- ins_merge d]
  generalize hd':Go.Sort.insertionSort ltO d 0 d.size=d'
  have hz:d'.size=d.size:=by rw [<- hd'];exact ins_szO d d.size (Nat.le_refl _)
  have hsame:d'.toList.toArray=d':=by simp
  rw [hsame]
  have hgrow:=grownBy_sortedI (w:=W) (g:=b) (n:=k) (os:=os) d'
  have hheap:=heap_sortedI (w:=W) (g:=b) (n:=k) (os:=os) d' hh
  generalize Go.Sort.grow (Go.Sort.putRow (Value.int .i64) (Go.Sort.ahead W k) b 0 d') os=W' at hgrow hheap
  have hkp:Kp (fun x=>(lkB (gl q [201] (oiB d.size d)) 201).body.isSome=true/\∃c,μ 201=some (x,c)) W W':=(Kp.refl _ W).grown hgrow fun x hx=>(by cases hx;exact .inl ⟨rfl,cap,hm⟩)
  have hupm:upm μ 201 (some (b,cap))=μ:=by
    funext j
    rw [upm_eq]
    split
    · rename_i e;rw [e,hm]
    · rfl
  have hup:up1 (lkB (gl q [201] (oiB d.size d))) 201 ⟨0,some (.row 3 1 (d'.toList.map cI))⟩=lkB (gl q [201] (oiB d.size d')):=by
    funext j
    rw [up1_eq]
    split
    · rename_i e;rw [e];rfl
    · rename_i e
      show cond (Nat.beq j 1101) _ (cond (Nat.beq j 201) _ _)=cond (Nat.beq j 1101) _ (cond (Nat.beq j 201) _ _)
      rw [show Nat.beq j 201=false from beq_f e]
      rfl
  have hcur:(Go.Sort.putCells (Value.int .i64) 0 d' cur).size=cap*1:=by simp [Go.Sort.putCells,g3]
  have htk:=take_putCellsI cur d'.toList (by rw [Array.length_toList,hz];exact hsz)
  rw [hsame,Array.length_toList,hz] at htk
  obtain ⟨hs,hi'⟩:=inv_turn hi 201 (some (b,cap)) 0 (.row 3 1 (d'.toList.map cI)) hkp (fun x c h=>by
    obtain ⟨rfl,rfl⟩:b=x/\cap=c:=by simpa using h
    exact ⟨(Array.getElem?_eq_some_iff.1 hheap).1,.inr ⟨rfl,_,hm⟩⟩) (.inr ⟨rfl,_,rfl,by simp [Body.sh,hz],hm.symm⟩) fun _=>by
    refine .inr ⟨b,cap,_,rfl,hheap,by rw [List.length_map,Array.length_toList,hz];exact q2,g2,hcur,fun k' cs hc=>?_,fun k' cs j x hc hx=>?_⟩
    · rw [List.getElem?_map] at hc
      obtain ⟨z,_,rfl⟩:=Option.map_eq_some_iff.1 hc
      rfl
    · rw [List.getElem?_map] at hc
      obtain ⟨z,hz',rfl⟩:=Option.map_eq_some_iff.1 hc
      match j,hx with
      | 0,hx =>
        obtain rfl:AV.i .i64 z=x:=by simpa [cI] using hx
        refine ⟨rfl,.int .i64 z,?_,by constructor⟩
        have hk':k'<d.size:=by
          have:=(List.getElem?_eq_some_iff.1 hz').1
          rw [Array.length_toList,hz] at this
          exact this
        have:=congrArg (fun l=>l[k']?) htk
        simp only [List.getElem?_take_of_lt hk',Array.getElem?_toList,List.getElem?_map] at this
        rw [Nat.mul_one,Nat.add_zero,this]
        rw [Array.getElem?_toList] at hz'
        rw [hz']
        rfl
      | j+1,hx=>simp [cI] at hx
  rw [hupm,hup] at hs hi'
  exact ⟨.tuple #[],F,μ,rfl,hi',hs.q,.pure (.tup [] [] rfl fun j x v h=>by simp at h)⟩
end Go.Proofs.YtoaibdbehlcnfaaGreat.Sm
end
section
namespace Go.Proofs.YtoaibdbehlcnfaaGreat.Sm
open Go.RowKit
theorem o_MakeX (x:Int) (l:List Int) (hl:(x::l).length<=1000000) (hp:0<(mkL (x::l)).length) (q:Nat->Option (Nat × Nat)):MDoes Tryz.prog 70 [.sl ((x::l).map cI)] (gl q [] []) (.ref 5 0 (.sl 0 (mkL (x::l)).length (mkL (x::l)).length)) (gl q [] [(5,⟨0,some (.row 3 1 ((mkL (x::l)).map cI))⟩)]):=by
  have hC:=o_Clone x l (by omega)
  have hS:=fun b hb=>d_IdSound (x::l) b hb
  generalize hL:x::l=L at *
  refine MDoes.of_body Tryz.func70 rfl (by kernel_rfl) rfl rfl ?_
  refine jA ?_
  refine RG.ownN [] [(5,5)] (fun q=>hC q) rfl rfl rfl rfl rfl rfl rfl rfl rfl rfl ?_
  refine wH rfl ?_;refine jA ?_
  have hlm:(L.map cI).length=L.length:=List.length_map ..
  cases hr:risB L
  rotate_left
  · have e1:mkL L=L:=by rw [mkL,hr];rfl
    rw [e1] at hp ⊢
    have hK:=o_Clip L L.length hp
    refine RG.callS rfl rfl rfl rfl (congrArg (fun x=>[x]) (rowAllN hlm.symm)) (hS true hr) rfl rfl ?_
    refine wH rfl ?_;refine jA ?_
    refine AW.condF rfl ?_;refine jA ?_
    refine RG.ownN [(5,201)] [(201,5)] (fun q=>hK q) rfl rfl rfl rfl rfl rfl rfl rfl rfl rfl ?_
    refine wH rfl ?_;refine jA ?_
    exact AW.ret (retM1 rfl (Rm.refIs rfl rfl rfl rfl) ⟨.row rfl rfl,trivial⟩)
  · have e1:mkL L=cmpct (insL L):=by rw [mkL,hr];rfl
    rw [e1] at hp ⊢
    have hcut:((cmpZ (insL L)).map cI).take (cmpct (insL L)).length=(cmpct (insL L)).map cI:=by rw [<- List.map_take,cmpZ,List.take_left]
    have hsz:=ins_szO L.toArray L.length (by simp)
    have hpos:0<L.length:=by rw [<- hL];exact Nat.succ_pos _
    have hO:=fun q=>o_SortX L.toArray L.length (by simp) hpos (by omega) q
    have hP:=fun q=>o_Compact (Go.Sort.insertionSort ltO L.toArray 0 L.length) L.length (by rw [hsz];simp) (by omega) q
    have hK:=o_Clip (cmpZ (insL L)) (cmpct (insL L)).length hp
    have hz1:((insL L).map cI).length=(L.map cI).length:=by
      rw [List.length_map,List.length_map,insL,Array.length_toList,hsz]
      simp
    have hz2:((cmpZ (insL L)).map cI).length=((insL L).map cI).length:=by
      have:=cmpct_len (insL L)
      rw [List.length_map,List.length_map,cmpZ,List.length_append,zerosI,List.length_replicate]
      omega
    refine RG.callS rfl rfl rfl rfl (congrArg (fun x=>[x]) (rowAllN hlm.symm)) (hS false hr) rfl rfl ?_
    refine wH rfl ?_;refine jA ?_
    refine AW.condT rfl ?_;refine jA ?_
    refine RG.ownK [(5,201)] [(201,5)] 5 201 hz1 (fun q=>hO q) rfl rfl rfl rfl rfl rfl rfl rfl rfl rfl rfl rfl rfl ?_
    refine wH rfl ?_;refine jA ?_
    refine RG.ownK [(5,201)] [(201,5)] 5 201 hz2 (fun q=>hP q) rfl rfl rfl rfl rfl rfl rfl rfl rfl rfl rfl rfl rfl ?_
    refine wH rfl ?_;refine jA ?_
    refine RG.ownN [(5,201)] [(201,5)] (fun q=>hK q) rfl rfl rfl rfl rfl rfl rfl rfl rfl rfl ?_
    refine wH rfl ?_;refine jA ?_
    rw [<- hcut]
    exact AW.ret (retM1 rfl (Rm.refIs rfl rfl rfl rfl) ⟨.rowT rfl rfl,trivial⟩)
theorem RG.ownQ0 {P:Program} {N:Nat} {ops:Array Oper} {rest:List Oper} {s:St} {K:St->List Eff->Prop} {o:Oper} {c:Call} {f:FuncId} {xs zs zs':List AV} {r r':AV} {π π':List (Nat × Nat)} {ks:List Nat} {B0 B0' B1 up0:List (Nat × SB)} {d:Option Nat}
  (h:∀q,MDoes P f zs (gl q ks B0) r (gl q ks B1)) (hg:gd ops s o=some true) (ho:o.op = .call c) (ha:argsA s c=some (f,xs))
  (hz:optL (xs.map (rmA π s.σ (fun _=>0)))=some zs') (hz':zs'=zs) (hb:rmS π s.σ (fun _=>0) π=some B0') (hb':B0'=B0)
  (hu:rmS π' (lkB B1) (ep2 s.σ π π' ks B1) π'=some up0) (hr':rmA π' (lkB B1) (ep2 s.σ π π' ks B1) r=some r') (hk:okO s.σ π π' B0=true) (hd:o.dst=d)
  (hr:RG P N ops rest ⟨putS N s.ts d r',ups s.σ (up0++gone s.σ π' π)⟩ fun s' Es=>K s' (⟨r',up0++gone s.σ π' π,[]⟩::Es)):RG P N ops (o::rest) s K:=by
 subst hz' hb' hd
 unfold argsA at ha
 split at ha
 case h_2=>cases ha
 rename_i fop hc
 split at ha
 case h_2=>cases ha
 rename_i f' first caps hf
 simp only [Option.some.injEq,Prod.mk.injEq] at ha
 obtain ⟨rfl,rfl⟩:=ha
 simp only [okO,Bool.and_eq_true] at hk
 obtain ⟨⟨⟨⟨⟨⟨k1,k2⟩,k3⟩,k4⟩,k5⟩,k6⟩,k7⟩:=hk
 have n1:=nodupB_ok k1
 have n3:=nodupB_ok k3
 obtain ⟨u1,u2⟩:=rmS_ok hu
 obtain ⟨b1,b2⟩:=rmS_ok hb
 have hkeys:((up0++gone s.σ π' π).map (·.1)).Nodup:=by rw [List.map_append,u1];exact nodupB_ok k7
 have hat:∀q∈up0++gone s.σ π' π,ups s.σ (up0++gone s.σ π' π) q.1=q.2:=fun q hq=>ups_at hkeys hq
 have hS0:RmS π s.σ (lkB B0') (fun _=>0):=rmS_RmS hb (fun q hq=>lkB_in (by rw [b1];exact n1) hq) n1
 have hS1:RmS π' (lkB B1) (ups s.σ (up0++gone s.σ π' π)) (ep2 s.σ π π' ks B1):=rmS_RmS hu (fun q hq=>hat q (List.mem_append_left _ hq)) n3
 obtain ⟨z1,z2⟩:=optL_ok hz
 have body2:∀id∈(up0++gone s.σ π' π).map (·.1),∀bd2,(ups s.σ (up0++gone s.σ π' π) id).body=some bd2->∃p∈π',p.2=id/\ups s.σ (up0++gone s.σ π' π) id=⟨ep2 s.σ π π' ks B1 id,some bd2⟩/\∃bd,(lkB B1 p.1).body=some bd/\rmB π' (lkB B1) (ep2 s.σ π π' ks B1) bd=some bd2:=fun id hid bd2 hb2=>by
  obtain ⟨q,hq,rfl⟩:=List.mem_map.1 hid
  rw [hat q hq] at hb2 ⊢
  rcases List.mem_append.1 hq with h1 | h1
  ·obtain ⟨p,hp,e1,bd,bd',e2,e3,e4⟩:=u2 q h1
   rw [e4] at hb2
   obtain rfl:=Option.some.inj hb2
   exact ⟨p,hp,e1,by rw [e4,e1],bd,e2,e3⟩
  ·rw [(gone_in h1).1] at hb2
   cases hb2
 refine RG.opB hg (fn_bd (h fun _=>none).fn ho hc hf) (oploc_callO (π:=π) (π':=π') (ks:=ks) ho hc hf h z1 (fun j x z hx hz=>rmA_ok hS0 (z2 j x z hx hz)) n1 (nodupB_ok k2) (fun p hp=>Nat.le_of_ble_eq_true (List.all_eq_true.1 k5 p hp)) (fun k bd' hbd=>?_) (fun p hp=>?_) n3
  (fun p hp q hq e=>?_) (fun p hp=>Nat.le_of_ble_eq_true (List.all_eq_true.1 k6 p hp)) (fun p hp=>?_) (fun id hid bd2 hb2=>?_) (fun id hid=>?_) (fun id hid he bd2 hb2=>?_) (rmA_ok hS1 hr')) hr
 ·obtain ⟨q,hq,e1,e2⟩:=lkB_some hbd
  obtain ⟨p,hp,e3,bd,bd1,e4,e5,e6⟩:=b2 q hq
  rw [<- e2,e6] at hbd
  obtain rfl:=Option.some.inj hbd
  exact ⟨p,hp,e3.trans e1,bd,e4,rmB_ok hS0 e5⟩
 ·rw [List.map_append,List.mem_append,u1]
  exact (gone_all hp).symm
 ·have:∀(l:List (Nat × Nat)),(l.map (·.1)).Nodup->p∈l->q∈l->p=q:=by
   intro l
   induction l with
   | nil=>intro _ h;cases h
   | cons a l ih =>
    intro hl h5 h6
    rw [List.map_cons,List.nodup_cons] at hl
    rcases List.mem_cons.1 h5 with g5 | g5 <;> rcases List.mem_cons.1 h6 with g6 | g6
    ·rw [g5,g6]
    ·exact (hl.1 (by rw [<- g5,e];exact List.mem_map_of_mem (f:=(·.1)) g6)).elim
    ·exact (hl.1 (by rw [<- g6,<- e];exact List.mem_map_of_mem (f:=(·.1)) g5)).elim
    ·exact ih hl.2 g5 g6
  exact this π' (nodupB_ok k4) hp hq
 ·rw [List.map_append,List.mem_append,u1]
  exact .inl (List.mem_map_of_mem (f:=(·.2)) hp)
 ·obtain ⟨p,hp,e1,_,bd,e2,e3⟩:=body2 id hid bd2 hb2
  exact ⟨p,hp,e1,bd,e2,rmB_ok hS1 e3⟩
 ·obtain ⟨q,hq,rfl⟩:=List.mem_map.1 hid
  rw [hat q hq]
  rcases List.mem_append.1 hq with h1 | h1
  ·obtain ⟨p,hp,e1,bd,bd',e2,e3,e4⟩:=u2 q h1
   rw [e4,e1]
   unfold ep2
   cases kept s.σ π π' ks B1 q.1
   ·exact Nat.le_succ _
   ·exact Nat.le_refl _
  ·rw [(gone_in h1).1];exact Nat.le_refl _
 ·obtain ⟨p,hp,e1,e0,bd,e2,e3⟩:=body2 id hid bd2 hb2
  rw [e0] at he
  have hkp:kept s.σ π π' ks B1 id=true:=by
   replace he:ep2 s.σ π π' ks B1 id=(s.σ id).ep:=he
   unfold ep2 at he
   cases hk:kept s.σ π π' ks B1 id
   ·rw [hk,cond_false] at he;omega
   ·rfl
  obtain ⟨k,hk,m1,m2,bd0,bd1,g1,g2,g3⟩:=kept_ok hkp
  have hbd:rmB π' (lkB B1) (ep2 s.σ π π' ks B1) bd1=some bd2:=by
   have:p=(k,id):=by
    have:∀(l:List (Nat × Nat)),(l.map (·.2)).Nodup->p∈l->(k,id)∈l->p=(k,id):=by
     intro l
     induction l with
     | nil=>intro _ h;cases h
     | cons a l ih =>
      intro hl h5 h6
      rw [List.map_cons,List.nodup_cons] at hl
      rcases List.mem_cons.1 h5 with g5 | g5 <;> rcases List.mem_cons.1 h6 with g6 | g6
      ·rw [g5,g6]
      ·exact (hl.1 (by rw [<- g5,e1];exact List.mem_map_of_mem (f:=(·.2)) g6)).elim
      ·exact (hl.1 (by rw [<- g6];show id∈_;rw [<- e1];exact List.mem_map_of_mem (f:=(·.2)) g5)).elim
      ·exact ih hl.2 g5 g6
    exact this π' n3 hp m2
   rw [this] at e2
   have:bd=bd1:=Option.some.inj (e2.symm.trans (by show (lkB B1 k).body=_;rw [g1]))
   rw [<- this];exact e3
  refine ⟨k,hk,m1,m2,⟨bd1,g1⟩,bd0,g2,?_⟩
  rw [<- g3]
  have hR:=rmB_ok hS1 hbd
  cases hR with
  | box hl _ _=>show (true,_,_,0)=(true,_,_,0);rw [hl]
  | row=>rfl
  | obj=>rfl
theorem RG.ownQ {P:Program} {N:Nat} {ops:Array Oper} {rest:List Oper} {ts:Nat->AV} {σ:Sto} {K:St->List Eff->Prop} {o:Oper} {c:Call} {f:FuncId} {xs zs zs':List AV} {r r':AV} (π π':List (Nat × Nat)) {ks:List Nat} {B0 B0' B1 up:List (Nat × SB)} {d:Option Nat}
  (h:∀q,MDoes P f zs (gl q ks B0) r (gl q ks B1)) (hg:gd ops ⟨ts,σ⟩ o=some true) (ho:o.op = .call c) (ha:argsA ⟨ts,σ⟩ c=some (f,xs))
  (hz:optL (xs.map (rmA π σ (fun _=>0)))=some zs') (hz':zs'=zs) (hb:rmS π σ (fun _=>0) π=some B0') (hb':B0'=B0)
  (hu:ownR σ π π' ks B1 r=some (r',up)) (hk:okO σ π π' B0=true) (hd:o.dst=d)
  (hr:RG P N ops rest ⟨putS N ts d r',ups σ up⟩ fun s' Es=>K s' (⟨r',up,[]⟩::Es)):RG P N ops (o::rest) ⟨ts,σ⟩ K:=by
 unfold ownR at hu
 split at hu
 ·rename_i up0 r1 e1 e2
  simp only [forceV_eq,forceUN_eq,Option.some.injEq,Prod.mk.injEq] at hu
  obtain ⟨rfl,rfl⟩:=hu
  exact RG.ownQ0 h hg ho ha hz hz' hb hb' e1 e2 hk hd hr
 ·cases hu
theorem m_CloneNil (q:Nat->Option (Nat × Nat)):MDoes Tryz.prog 83 [.raw (.slice none 0 0)] (gl q [] []) (.raw (.slice none 0 0)) (gl q [] []):=by
 refine MDoes.of_body Tryz.func83 rfl (by kernel_rfl) rfl rfl ?_
 refine jA ?_
 refine AW.condT rfl ?_;refine jA ?_
 exact AW.ret (retM1 rfl (Rm.is rfl rfl) trivial)
theorem rel_rawIs {W:World} {F:Nat->Prop} {μ:Mu} {σ:Sto} {u v:Value} (h:Rel W F μ σ (.raw u) v):v=u:=by
 cases h with
 | pure h=>cases h;rfl
theorem op_clipNil {P:Program} {N:Nat} {o:Oper} {s:St} {t e:Nat} {ti ei:TI} {x y z:Operand} {k1 k2:IntKind} (ho:o.op = .slice t x none (some y) (some z)) (ht:TiOk P t ti) (hk:ti.k = .slice e) (he:TiOk P e ei) (hx:s.ev x = .raw (.slice none 0 0)) (hy:s.ev y = .i k1 (0:Nat)) (hz:s.ev z = .i k2 (0:Nat)) :
  OpLoc P N o s ⟨.raw (.slice none 0 0),[],[]⟩:=by
 refine oploc_val [] _ fun s' W F μ a g1 g2 hs=>?_
 have ex:=hs.ev x
 rw [g1 x (by rw [ho];simp [Op.operands]),hx] at ex
 have ey:=hs.ev y
 rw [g1 y (by rw [ho];simp [Op.operands]),hy] at ey
 have ez:=hs.ev z
 rw [g1 z (by rw [ho];simp [Op.operands]),hz] at ez
 have hv:a.eval x = .slice none 0 0:=rel_rawIs ex
 have hb:(Instr.sliceBounds true 0 0 none (some (.int k1 (0:Nat))) (some (.int k2 (0:Nat)))).run P W = .ok (0,0,0) W:=rfl
 refine ⟨.slice none 0 0,?_,.pure (.raw _)⟩
 simp only [execOp,ho,Instr.sliceAt,Instr.slice,hv,ey.i',ez.i',Option.map_none,Option.map_some,Sem.run_bind,Sem.run_pure,Result.andThen_ok,run_underlying (ht.slice hk),hb,he.size,Nat.sub_zero]
 simp
theorem m_ClipNil (q:Nat->Option (Nat × Nat)):MDoes Tryz.prog 82 [.raw (.slice none 0 0)] (gl q [] []) (.raw (.slice none 0 0)) (gl q [] []):=by
 refine MDoes.of_body Tryz.func82 rfl (by kernel_rfl) rfl rfl ?_
 refine jA ?_
 refine RG.opS rfl (op_clipNil rfl (tab_ok ty_ok rfl) rfl (tab_ok ty_ok rfl) rfl rfl rfl) rfl ?_
 refine wH rfl ?_;refine jA ?_
 exact AW.ret (retM1 rfl (Rm.is rfl rfl) trivial)
theorem m_MakeNil (q:Nat->Option (Nat × Nat)):MDoes Tryz.prog 70 [.raw (.slice none 0 0)] (gl q [] []) (.raw (.slice none 0 0)) (gl q [] []):=by
 refine MDoes.of_body Tryz.func70 rfl (by kernel_rfl) rfl rfl ?_
 refine jA ?_
 refine RG.ownQ [] [] m_CloneNil rfl rfl rfl rfl rfl rfl rfl rfl rfl rfl ?_
 refine wH rfl ?_;refine jA ?_
 refine RG.callS rfl rfl rfl rfl rfl (d_IdSound [] true rfl) rfl rfl ?_
 refine wH rfl ?_;refine jA ?_
 refine AW.condF rfl ?_;refine jA ?_
 refine RG.ownQ [] [] m_ClipNil rfl rfl rfl rfl rfl rfl rfl rfl rfl rfl ?_
 refine wH rfl ?_;refine jA ?_
 exact AW.ret (retM1 rfl (Rm.is rfl rfl) trivial)
theorem insL_eq (L:List Int):insL L=L.mergeSort fun x y=>decide (x<=y):=by
 have h:=ins_merge L.toArray
 rw [List.size_toArray] at h
 exact h
theorem risB_up:∀{l:List Int},risB l=true->l.Pairwise (· < ·)
 | [],_=>List.Pairwise.nil
 | [x],_=>by simp
 | x::y::l,h=>by
  rw [risB,Bool.and_eq_true] at h
  have h2:=risB_up h.2
  refine List.pairwise_cons.2 ⟨fun z hz=>?_,h2⟩
  have h1:=of_decide_eq_true h.1
  rcases List.mem_cons.1 hz with rfl | hz
  ·exact h1
  ·have:=(List.pairwise_cons.1 h2).1 z hz
   omega
theorem cmpct_mem {z:Int}:∀{L:List Int},z∈cmpct L↔z∈L
 | []=>by rw [cmpct]
 | [x]=>by rw [cmpct]
 | x::y::l=>by
  rw [cmpct]
  by_cases e:x=y
  ·rw [if_pos e,cmpct_mem (L:=y::l),e]
   simp
  ·rw [if_neg e,List.mem_cons,cmpct_mem (L:=y::l),List.mem_cons]
   simp
theorem cmpct_up:∀{L:List Int},L.Pairwise (·<=·)->(cmpct L).Pairwise (· < ·)
 | [],_=>by rw [cmpct];exact List.Pairwise.nil
 | [x],_=>by rw [cmpct];simp
 | x::y::l,h=>by
  obtain ⟨h1,h2⟩:=List.pairwise_cons.1 h
  have ih:=cmpct_up h2
  rw [cmpct]
  by_cases e:x=y
  ·rw [if_pos e];exact ih
  ·rw [if_neg e]
   refine List.pairwise_cons.2 ⟨fun z hz=>?_,ih⟩
   have hz:=cmpct_mem.1 hz
   have hy:=h1 y List.mem_cons_self
   rcases List.mem_cons.1 hz with rfl | hz
   ·omega
   ·have:=(List.pairwise_cons.1 h2).1 z hz
    omega
theorem mkL_mem {z:Int} {L:List Int}:z∈mkL L↔z∈L:=by
 rw [mkL]
 cases risB L
 ·rw [cond_false,cmpct_mem,insL_eq]
  exact List.mem_mergeSort
 ·rfl
theorem mkL_up (L:List Int):(mkL L).Pairwise (· < ·):=by
 rw [mkL]
 cases h:risB L
 ·rw [cond_false]
  refine cmpct_up ?_
  rw [insL_eq]
  have:=List.pairwise_mergeSort (le:=fun x y:Int=>decide (x<=y)) (fun a b c h1 h2=>by simp at h1 h2 ⊢;omega) (fun a b=>by simp;omega) L
  exact this.imp fun h=>by simpa using h
 ·rw [cond_true];exact risB_up h
theorem mkL_pos {L:List Int} (h:L≠[]):0<(mkL L).length:=by
 cases L with
 | nil=>exact absurd rfl h
 | cons x l=>exact List.length_pos_of_mem (mkL_mem.2 (List.mem_cons_self (a:=x) (l:=l)))
theorem up_len {N:Nat}:∀{L:List Int} {a:Nat},L.Pairwise (· < ·)->(∀x∈L,(a:Int)<=x/\x<(N:Int))->L.length+a<=N\/L=[]
 | [],_,_,_=>.inr rfl
 | x::l,a,hp,hb=>by
  obtain ⟨h1,h2⟩:=List.pairwise_cons.1 hp
  obtain ⟨b1,b2⟩:=hb x List.mem_cons_self
  obtain ⟨m,rfl⟩:∃m:Nat,x=m:=⟨x.toNat,by omega⟩
  rcases up_len (N:=N) (a:=m+1) h2 (fun y hy=>⟨by have:=h1 y hy;omega,(hb y (List.mem_cons_of_mem _ hy)).2⟩) with h | h
  ·refine .inl ?_
   rw [List.length_cons]
   omega
  ·subst h
   refine .inl ?_
   simp only [List.length_cons,List.length_nil]
   omega
end Go.Proofs.YtoaibdbehlcnfaaGreat.Sm
end
section
namespace Go.Proofs.YtoaibdbehlcnfaaGreat.Sm
open Go.RowKit
def hopN (A:List (List Int)) (h:Hop):List Int:=bif decide (0<=h.rule) then [(A.getD h.sw.toNat []).getD h.table.toNat 0+h.rule] else []
def hopsN (A:List (List Int)):List Hop->List Int
 | []=>[]
 | h::l=>hopN A h++hopsN A l
def usedR (A:List (List Int)) (c:Cf) (v:Int) (s:Sp) (out:List Int) (a:Atom):List Int:=mkL (out++hopsN A (runOf c s a.head v 10800).hops)
def usedF (A:List (List Int)) (c:Cf) (v:Int) (s:Sp) (list:List Atom) (out:List Int):List Int:=list.foldl (usedR A c v s) out
def usedG (A:List (List Int)) (c:Cf) (v:Int) (list:List Atom):List Sp->List Int->List Int
 | [],out=>out
 | s::ss,out=>usedG A c v list ss (usedF A c v s list out)
def usedAll (c:Cf) (v:Int):List Int:=usedG (numAll 0 c.tables) c v (lookA c v) (edges c.topo.ports) []
def HopOk (c:Cf) (h:Hop):Prop:=∃n t:Nat,h.sw=n/\h.table=t/\At c n t/\-1<=h.rule/\h.rule<((tabOf c n t).length:Nat)
theorem hops_app {c:Cf} {n t:Nat} {r:Int} {h:Hd} {pre:List Hop} (hp:∀x∈pre,HopOk c x) (hat:At c n t) (h1:-1<=r) (h2:r<((tabOf c n t).length:Nat)):∀x∈pre++[(⟨n,t,r,h⟩:Hop)],HopOk c x:=by
 intro x hx
 rcases List.mem_append.1 hx with hx | hx
 ·exact hp x hx
 ·rw [List.mem_singleton.1 hx]
  exact ⟨n,t,rfl,rfl,hat,h1,h2⟩
theorem goF_hops {c:Cf} (hc:c.Ok):∀(f n t:Nat) (h:Hd) (pre:List Hop),At c n t->(∀x∈pre,HopOk c x)->∀x∈(goF c f n t h pre).hops,HopOk c x
 | 0,n,t,h,pre,_,hp=>hp
 | f+1,n,t,h,pre,hat,hp=>by
  rw [goF]
  cases hq:fnd (tabOf c n t) h with
  | none=>exact hops_app hp hat (by omega) (by omega)
  | some r =>
   obtain ⟨hlt,hr,_⟩:=fnd_lt hq
   have ha:=hops_app (h:=h) hp hat (show -1<=(r:Int) by omega) (Int.ofNat_lt.2 hlt)
   dsimp only
   revert hr
   generalize (tabOf c n t).getD r Rl.zero=q
   intro hr
   by_cases k4:q.act.kind=4
   ·rw [if_pos k4]
    exact goF_hops hc f _ _ _ _ (hat.goto hc hr k4) ha
   rw [if_neg k4]
   by_cases k3:q.act.kind=3
   ·rw [if_pos k3]
    exact goF_hops hc f _ _ _ _ (hat.forward hc hr k3) ha
   rw [if_neg k3]
   by_cases k2:q.act.kind=2
   ·rw [if_pos k2]
    exact ha
   rw [if_neg k2]
   exact ha
theorem runOf_hops {c:Cf} (hc:c.Ok) {s:Sp} (hs:s∈edges c.topo.ports) (h:Hd) (v:Int) (most:Nat):∀x∈(runOf c s h v most).hops,HopOk c x:=by
 rw [runOf]
 obtain ⟨n,r,a,p,hr,hp,hk,rfl⟩:=edges_mem.1 hs
 refine goF_hops hc _ _ _ _ _ (At.start hc ?_) fun x hx=>by cases hx
 have:=(List.getElem?_eq_some_iff.1 hr).1
 simp only [Int.toNat_natCast]
 omega
theorem numRow_at:∀(t:List (List Rl)) (m k:Nat),k<t.length->∃a:Nat,(numRow m t)[k]?=some (a:Int)/\m<=a/\a+(t.getD k []).length<=m+lenT t
 | [],m,k,h=>absurd h (Nat.not_lt_zero k)
 | l::t,m,0,h=>⟨m,by rw [numRow];rfl,Nat.le_refl _,by rw [lenT_cons];show m+l.length<=_;omega⟩
 | l::t,m,k+1,h=>by
  obtain ⟨a,h1,h2,h3⟩:=numRow_at t (m+l.length) k (by simpa using h)
  refine ⟨a,by rw [numRow,List.getElem?_cons_succ];exact h1,by omega,?_⟩
  rw [lenT_cons,List.getD_cons_succ]
  omega
theorem numAll_at:∀(ts:List (List (List Rl))) (m n:Nat),n<ts.length->∃b:Nat,(numAll m ts)[n]?=some (numRow b (ts.getD n []))/\m<=b/\b+lenT (ts.getD n [])<=m+(ts.map lenT).sum
 | [],m,n,h=>absurd h (Nat.not_lt_zero n)
 | t::ts,m,0,h=>⟨m,by rw [numAll];rfl,Nat.le_refl _,by rw [List.map_cons,List.sum_cons];show m+lenT t<=_;omega⟩
 | t::ts,m,n+1,h=>by
  obtain ⟨b,h1,h2,h3⟩:=numAll_at ts (m+lenT t) n (by simpa using h)
  refine ⟨b,by rw [numAll,List.getElem?_cons_succ];exact h1,by omega,?_⟩
  rw [List.map_cons,List.sum_cons,List.getD_cons_succ]
  omega
def HopA (A:List (List Int)) (h:Hop):Prop:=∃n t a:Nat,∃row,h.sw=n/\h.table=t/\A[n]?=some row/\row[t]?=some (a:Int)/\-1<=h.rule/\(a:Int)+h.rule<=1000000000
theorem HopOk.A {c:Cf} {h:Hop} (hB:(c.tables.map lenT).sum<=1000000000) (hh:HopOk c h):HopA (numAll 0 c.tables) h:=by
 obtain ⟨n,t,h1,h2,hat,h3,h4⟩:=hh
 obtain ⟨b,g1,_,g2⟩:=numAll_at c.tables 0 n hat.sw
 obtain ⟨a,g3,_,g4⟩:=numRow_at (c.tables.getD n []) b t hat.tab
 refine ⟨n,t,a,_,h1,h2,g1,g3,h3,?_⟩
 rw [tabOf] at h4
 omega
theorem HopA.num {A:List (List Int)} {h:Hop} {n t a:Nat} {row:List Int} (h1:h.sw=n) (h2:h.table=t) (g1:A[n]?=some row) (g2:row[t]?=some (a:Int)) (h0:0<=h.rule) (h3:(a:Int)+h.rule<=1000000000):hopN A h=[IntKind.i64.wrap ((a:Int)+h.rule)]:=by
 rw [hopN,decide_eq_true h0,cond_true,h1,h2,Int.toNat_natCast,Int.toNat_natCast,List.getD_eq_getElem?_getD,List.getD_eq_getElem?_getD,g1,Option.getD_some,g2,Option.getD_some]
 congr 1
 rw [IntKind.wrap_i64]
 omega
theorem hopN_len (A:List (List Int)) (h:Hop):(hopN A h).length<=1:=by
 rw [hopN]
 cases decide (0<=h.rule) <;> simp
def outV:Bool->List Int->AV
 | false,out=>.row 40 0 0 (out.map cI).length
 | true,out=>.ref 40 0 (.sl 0 out.length out.length)
def oB (fl:Bool) (out:List Int):List (Nat × SB):=[(9,⟨0,some (.box 74 [outV fl out])⟩),(40,⟨0,some (.row 3 1 (out.map cI))⟩)]
theorem oB_nof (fl:Bool) (out:List Int):(oB fl out).all nofSB=true:=by
 have h2:nofSB (40,⟨0,some (.row 3 1 (out.map cI))⟩)=true:=by
  simp only [nofSB,Body.nof]
  rw [Bool.and_eq_true]
  refine ⟨rfl,List.all_eq_true.2 fun cs hcs=>?_⟩
  obtain ⟨x,_,rfl⟩:=List.mem_map.1 hcs
  rfl
 cases fl
 ·rw [oB,List.all_cons,List.all_cons,h2]
  rfl
 ·rw [oB,List.all_cons,List.all_cons,h2]
  rfl
theorem Rn.outV {σ σ':Sto} {t m:Nat} {els:List (List AV)} {fl:Bool} {out:List Int} (h:σ 40=⟨0,some (.row t m els)⟩) (h':σ' 40=⟨0,some (.row t m els)⟩):Rn σ σ' (outV fl out) (outV fl out):=by
 cases fl
 ·exact Rn.rowIs rfl h h'
 ·exact Rn.refIs rfl h h'
theorem outV_one {fl:Bool} {out:List Int}:(outV fl out).one=true:=by
 cases fl <;> rfl
theorem outV_all {fl:Bool} {out:List Int}:[outV fl out].all AV.one=true:=by
 rw [List.all_cons,outV_one];rfl
theorem outV_fz {σ:Sto} {t m ep:Nat} {fl:Bool} {out:List Int} (h:σ 40=⟨ep,some (.row t m (out.map cI))⟩) (hep:ep=0):Fz σ (outV fl out) (.sl (out.map cI)) [40]:=by
 subst hep
 cases fl
 ·exact .row h (by rw [List.drop_zero,List.take_length])
 ·exact .rowref h (List.length_map ..)
theorem usedF_take {A:List (List Int)} {c:Cf} {v:Int} {s:Sp} {list:List Atom} {G:List Int->Prop} (hs:∀a∈list,∀o,G o->0<(usedR A c v s o a).length/\G (usedR A c v s o a)) {out:List Int} (hg:G out):∀j,j<=list.length->G (usedF A c v s (list.take j) out)/\(j≠0->0<(usedF A c v s (list.take j) out).length)
 | 0,_=>⟨hg,fun h=>absurd rfl h⟩
 | j+1,hj=>by
  obtain ⟨h1,_⟩:=usedF_take hs hg j (by omega)
  rw [List.take_add_one,List.getElem?_eq_getElem hj,usedF,List.foldl_append]
  obtain ⟨g1,g2⟩:=hs _ (List.getElem_mem hj) _ h1
  exact ⟨g2,fun _=>g1⟩
theorem op_appC1 {α:Type} (cF:α->List AV) (l:List α) (x:α) (hL:l.length<=100000000) (h0l:0<l.length) {P:Program} {N:Nat} {o:Oper} {s:St} {c:Call} {xo yo:Operand} {t e id ep id2 ep2:Nat} {ti ei:TI} (ho:o.op = .call c) (hc:c.callee = .builtin .append) (ha:c.args = #[xo,yo]) (hat:c.argTypes = #[t,t]) (ht:TiOk P t ti) (hk:ti.k = .slice e) (he:TiOk P e ei) (h0:(ei.n == 0)=false) (hsz:Nat.ble ei.sz 1000=true)
  (hx:s.ev xo = .ref id ep (.sl 0 l.length l.length)) (hid0:s.σ id=⟨ep,some (.row e ei.n (l.map cF))⟩) (hy:s.ev yo = .row id2 ep2 0 1) (hid2:s.σ id2=⟨ep2,some (.row e ei.n [cF x])⟩) :
  OpLoc P N o s ⟨.row id (ep+1) 0 ((l++[x]).map cF).length,[(id,⟨ep+1,some (.row e ei.n ((l++[x]).map cF))⟩)],[id2]⟩:=by
 have h2:=Nat.le_of_ble_eq_true hsz
 refine op_appendC (els:=l.map cF) (els2:=[cF x]) ho hc ha hat ht hk he h0 hx hid0 (List.length_map ..) h0l hy hid2 (by simp) ?_ ?_ (by simp) rfl
 ·rw [List.length_map]
  show (l.length+1)*ei.sz<=_
  exact Nat.le_trans (Nat.mul_le_mul (show l.length+1<=100000001 by omega) h2) (by decide)
 ·rw [List.length_map]
  show l.length+1<=_
  omega
theorem d_RUsed0 (c:Cf) (V:Int) (hL:c.Lens) (he:lookE c V≠0):PDoes Tryz.prog 29 [.agg (cCf c),.i .i64 V] (.tup [.sl [],.i .i64 (lookE c V)]):=by
 refine PDoes.of_bodyN Tryz.func29 rfl (by kernel_rfl) rfl rfl ?_
 have hl:=d_look c V hL
 rw [lookR,decide_eq_false he] at hl
 refine jA ?_
 refine RG.callMS rfl rfl rfl rfl rfl rfl hl rfl ?_;refine wH rfl ?_;refine jA ?_
 refine AW.cond rfl (fun h=>?_) (fun h=>?_)
 rotate_left
 ·exact absurd (by simpa using h) he
 refine jA ?_
 refine AW.ret (retQA ty_ok rfl rfl rfl ?_)
 rfl
def MakeOk (L:List Int):Prop:=∀q,MDoes Tryz.prog 70 [.sl (L.map cI)] (gl q [] []) (.ref 5 0 (.sl 0 (mkL L).length (mkL L).length)) (gl q [] [(5,⟨0,some (.row 3 1 ((mkL L).map cI))⟩)])
theorem d_RUsed (c : Cf) (V : Int) (hL : c.Lens) (he : lookE c V = 0) (hB : (c.tables.map lenT).sum <= 1000000000) (G : List Int -> Prop) (hG0 : G []) (hGs : ∀ s ∈ edges c.topo.ports, ∀ a ∈ lookA c V, ∀ out, G out -> MakeOk (out ++ hopsN (numAll 0 c.tables) (runOf c s a.head V 10800).hops) /\ 0 < (usedR (numAll 0 c.tables) c V s out a).length /\ (out ++ hopsN (numAll 0 c.tables) (runOf c s a.head V 10800).hops).length <= 1000000 /\ G (usedR (numAll 0 c.tables) c V s out a)) :
    PDoes Tryz.prog 29 [.agg (cCf c),.i .i64 V] (.tup [.sl ((usedAll c V).map cI),.i .i64 0]):=by
  refine PDoes.of_bodyN Tryz.func29 rfl (by kernel_rfl) rfl rfl ?_
  have hl:=d_look c V hL
  rw [lookR,decide_eq_true he] at hl
  obtain ⟨h0,v,rfl,hV⟩:=malE_nat (lookE_mal he)
  have hLk:=looks_any h0 hL
  have hc:=Cf.ok h0
  have hE:=edges_len hc.topo
  have hme:(edges c.topo.ports).length<=9223372036854775807:=by omega
  have htp:=topoSound_ok hc.topo
  have hN:=d_numbers c (by rw [hc.len];omega) (fun t ht=>by
    obtain ⟨n,hn⟩:=List.mem_iff_getElem?.1 ht
    have:=(tabSound_ok (hc.tabs n t hn)).2.1
    omega) hB
  refine jA ?_
  refine RG.callMS rfl rfl rfl rfl rfl rfl hl rfl ?_;refine wH rfl ?_;refine jA ?_
  refine AW.condF rfl ?_;refine jA ?_
  refine RG.callMS rfl rfl rfl rfl rfl rfl hN rfl ?_;refine wH rfl ?_;refine jA ?_
  refine RG.callMS rfl rfl rfl rfl rfl rfl (d_Edges c.topo.ports hc.topo) rfl ?_;refine wH rfl ?_;refine jA ?_
  refine AW.nilRow 40 0 3 1 [(2,.own 2 0 0),(6,.ro (cLk c v (lookA c v))),(8,.own 8 0 0),(9,.own 9 0 0),(29,.sl ((edges c.topo.ports).map cSp)),(30,.i .i64 ((edges c.topo.ports).map cSp).length),(31,.i .i64 (0:Nat))] [(2,⟨0,some (.box 31 (cCf c))⟩),(8,⟨0,some (.box 138 [.sl ((numAll 0 c.tables).map cNum)])⟩),(9,⟨0,some (.box 74 [.row 40 0 0 0])⟩),(40,⟨0,some (.row 3 1 [])⟩)] ⟨.rn (Rn.ownIs rfl rfl rfl),.rn (Rn.is rfl rfl),.rn (Rn.ownIs rfl rfl rfl),.rn (Rn.ownIs rfl rfl rfl),.rn (Rn.is rfl rfl),.rn (Rn.is rfl rfl),.rn (Rn.is rfl rfl),trivial⟩ ⟨.old (WkB1.same rfl rfl rfl),.old (WkB1.same rfl rfl rfl),.boxL rfl ⟨.nil rfl,trivial⟩ rfl,.old (.row rfl rfl),trivial⟩ ?_
  refine AW.freeze [2,8] [(6,.ro (cLk c v (lookA c v))),(8,.ro [.sl ((numAll 0 c.tables).map cNum)]),(9,.own 9 0 0),(29,.sl ((edges c.topo.ports).map cSp)),(30,.i .i64 ((edges c.topo.ports).map cSp).length),(31,.i .i64 (0:Nat))] (oB false []) ⟨.rn (Rn.is rfl rfl),.fzA rfl rfl rfl,.rn (Rn.ownIs rfl rfl rfl),.rn (Rn.is rfl rfl),.rn (Rn.is rfl rfl),.rn (Rn.is rfl rfl),trivial⟩ ⟨.boxL rfl ⟨.rn (Rn.rowIs rfl rfl rfl),trivial⟩ rfl,.old (.row rfl rfl),trivial⟩ rfl ?_
  rw [usedAll]
  have hA:∀s∈edges c.topo.ports,∀g:Hd,∀x∈(runOf c s g v 10800).hops,HopA (numAll 0 c.tables) x:=fun s hs g x hx=>(runOf_hops hc hs g v 10800 x hx).A hB
  generalize numAll 0 c.tables=A at hGs hA
  generalize lookA c v=list at hGs
  have hes:∀s∈edges c.topo.ports,s∈edges c.topo.ports:=fun s hs=>hs
  generalize hEE:edges c.topo.ports=E at hE hme hGs
  refine AW.loopL (ι:=Nat × Bool × List Int) (fun i=>[(6,.ro (cLk c v list)),(8,.ro [.sl (A.map cNum)]),(9,.own 9 0 0),(29,.sl (E.map cSp)),(30,.i .i64 (E.map cSp).length),(31,.i .i64 (i.1:Nat))]) (fun i=>oB i.2.1 i.2.2) (fun i=>i.1<=E.length/\G i.2.2/\(i.2.1=true->0<i.2.2.length)/\usedG A c v list (E.drop i.1) i.2.2=usedG A c v list E []) (fun i=>E.length - i.1) (0,false,[]) ⟨Nat.zero_le _,hG0,fun h=>(by cases h),rfl⟩ jV ⟨.boxL rfl ⟨Rn.rowIs rfl rfl rfl,trivial⟩ rfl,.row rfl rfl,trivial⟩ fun i hi=>?_
  obtain ⟨k,fl,out⟩:=i
  obtain ⟨hk,hg,hfl,hf⟩:=hi
  simp only at hk hg hfl hf
  refine jA ?_
  refine AW.cond rfl (fun h=>?_) (fun h=>?_)
  rotate_left
  · have h:¬k<E.length:=by simpa using h
    obtain rfl:k=E.length:=by omega
    rw [List.drop_length,usedG] at hf
    rw [<- hf]
    cases fl
    · refine jA ?_
      refine AW.exit ?_;refine Eq.mpr (if_pos rfl) ?_;refine jA ?_
      refine AW.ret (retQA ty_ok rfl rfl rfl ?_)
      exact congrArg (fun x=>AV.tup [x,.i .i64 0]) (rowAll rfl)
    · refine jA ?_
      refine AW.exit ?_;refine Eq.mpr (if_pos rfl) ?_
      refine AW.freeze [40] [(9,.own 9 0 0)] [(9,⟨0,some (.box 74 [.sl (out.map cI)])⟩)] ⟨.rn (Rn.ownIs rfl rfl rfl),trivial⟩ ⟨.boxL rfl ⟨.fz (Fz.rowref rfl (List.length_map ..)) (by simp),trivial⟩ rfl,trivial⟩ rfl ?_
      refine jA ?_
      refine AW.ret (retQA ty_ok rfl rfl rfl ?_)
      rfl
  have h:k<E.length:=by simpa using h
  rw [List.drop_eq_getElem_cons h,usedG] at hf
  have hs:=List.getElem_mem h
  have hGk:=hGs _ hs
  have hAk:=hA E[k] (by rw [hEE];exact hs)
  have hI:=i_runs c h0 hLk E[k] (by rw [hEE];exact hs) v hV list
  refine jA ?_
  refine RG.opS rfl (op_index rfl (tab_ok ty_ok rfl) rfl (tab_ok ty_ok rfl) rfl rfl (show (E.map cSp)[k]?=some (cSp E[k]) by rw [List.getElem?_map,List.getElem?_eq_getElem (by assumption)];rfl) rfl) rfl ?_
  generalize E[k]=s at hf hGk hAk hI
  refine wH rfl ?_;refine jA ?_
  refine RG.callMS rfl rfl rfl rfl rfl rfl (d_runs c v list s) rfl ?_;refine wH rfl ?_;refine jA ?_
  refine AW.rangeFunc hI rfl rfl (fun _=>rfl) rfl [9] [(6,.ro (cLk c v list)),(8,.ro [.sl (A.map cNum)]),(9,.own 9 0 0),(29,.sl (E.map cSp)),(30,.i .i64 (E.map cSp).length),(31,.i .i64 (k:Nat))] (fun pre=>oB (bif pre.isEmpty then fl else true) (usedF A c v s (list.take pre.length) out)) jV ?_ rfl (fun pre id hid=>?_) (fun pre=>oB_nof _ _) ?_ ?_
  · exact ⟨.boxL rfl ⟨Rn.outV rfl rfl,trivial⟩ outV_all,.row rfl rfl,trivial⟩
  · obtain rfl:=List.mem_singleton.1 hid
    exact ⟨by decide,_,rfl⟩
  · rintro q _ j ⟨rfl,hj⟩
    have hget:list.getD j ⟨[],Hd.zero,[]⟩=list[j]:=by rw [List.getD_eq_getElem?_getD,List.getElem?_eq_getElem hj];rfl
    have henc:encR c v s list j=[.agg (cHd list[j].head),.agg (cRun (runOf c s list[j].head v 10800))]:=by rw [encR,hget]
    have hstep:usedF A c v s (list.take (List.range j++[j]).length) out=usedR A c v s (usedF A c v s (list.take (List.range j).length) out) list[j]:=by
      rw [List.length_append,List.length_range,List.length_singleton,List.take_add_one,List.getElem?_eq_getElem hj,usedF,List.foldl_append]
      rfl
    have hfl':(bif (List.range j++[j]).isEmpty then fl else true)=true:=by
      cases List.range j <;> rfl
    obtain ⟨hgo,hpo⟩:=usedF_take (fun a ha o ho=>(hGk a ha o ho).2.imp_right And.right) hg j (by omega)
    have hg0:(bif (List.range j).isEmpty then fl else true)=true->0<(usedF A c v s (list.take (List.range j).length) out).length:=by
      rw [List.length_range]
      cases j with
      | zero=>exact hfl
      | succ j=>exact fun _=>hpo (by omega)
    rw [<- List.length_range (n:=j)] at hgo
    rw [hfl',hstep,henc]
    obtain ⟨hM,hpos,hlen,_⟩:=hGk _ (List.getElem_mem hj) _ hgo
    rw [usedR] at hpos ⊢
    have hAj:=hAk list[j].head
    clear hfl' hstep henc hget hpo hgo
    generalize usedF A c v s (list.take (List.range j).length) out=o at hM hpos hlen hg0
    generalize (bif (List.range j).isEmpty then fl else true)=g at hg0
    generalize list[j].head=hd at hM hpos hlen hAj
    generalize runOf c s hd v 10800=r at hM hpos hlen hAj
    refine jA ?_
    generalize r.hops=H at hM hpos hlen hAj
    refine AW.lens 41 rfl fun hmH=>?_
    rw [List.length_map] at hmH
    refine AW.loopL (ι:=Nat × Bool × List Int) (fun i=>[(8,.ro [.sl (A.map cNum)]),(9,.own 9 0 0),(41,.sl (H.map cHop)),(42,.i .i64 (H.map cHop).length),(43,.i .i64 (i.1:Nat))]) (fun i=>gl q [9] (oB i.2.1 i.2.2)) (fun i=>i.1<=H.length/\(i.2.1=true->0<i.2.2.length)/\i.2.2++hopsN A (H.drop i.1)=o++hopsN A H) (fun i=>H.length - i.1) (0,g,o) ⟨Nat.zero_le _,hg0,rfl⟩ jV ⟨.ghost rfl rfl rfl,.boxL rfl ⟨Rn.outV rfl rfl,trivial⟩ outV_all,.row rfl rfl,trivial⟩ fun i hi=>?_
    obtain ⟨m,g,u⟩:=i
    obtain ⟨hm,hg1,hfu⟩:=hi
    simp only at hm hg1 hfu
    have lH:(H.map cHop).length=H.length:=List.length_map ..
    refine jA ?_
    refine AW.cond rfl (fun h1=>?_) (fun h1=>?_)
    rotate_left
    · have h':¬m<H.length:=by simpa using h1
      obtain rfl:m=H.length:=by omega
      rw [List.drop_length,hopsN,List.append_nil] at hfu
      rw [<- hfu] at hM hpos ⊢
      refine jB ?_
      refine AW.exit ?_;refine Eq.mpr (if_pos rfl) ?_
      refine AW.freeze [40] [(9,.own 9 0 0)] (gl q [9] [(9,⟨0,some (.box 74 [.sl (u.map cI)])⟩)]) ⟨.rn (Rn.ownIs rfl rfl rfl),trivial⟩ ⟨.old (.ghost rfl rfl rfl),.boxL rfl ⟨.fz (outV_fz rfl rfl) (by simp),trivial⟩ rfl,trivial⟩ rfl ?_
      refine jA ?_
      refine RG.ownN [] [(5,40)] hM rfl rfl rfl rfl rfl rfl rfl rfl rfl rfl ?_
      refine wH rfl ?_;refine jA ?_
      exact ⟨.ghost rfl rfl rfl,.boxL rfl ⟨Rn.refIs rfl rfl rfl,trivial⟩ rfl,.row rfl rfl,trivial⟩
    have hm':m<H.length:=by simpa using h1
    have hx:=hAj _ (List.getElem_mem hm')
    have hul:u.length<=1000000:=by
      have:=congrArg List.length hfu
      rw [List.length_append] at this
      omega
    rw [List.drop_eq_getElem_cons hm',hopsN] at hfu
    have hgH:(H.map cHop)[m]?=some (cHop H[m]):=by rw [List.getElem?_map,List.getElem?_eq_getElem hm'];rfl
    generalize H[m]=x at hx hfu hgH
    obtain ⟨n,t,a,row,x1,x2,y1,y2,y0,y3⟩:=hx
    refine jB ?_
    skip;(with_reducible first|apply wF|apply wG)
    refine wH rfl ?_
    refine RG.opS rfl (op_index rfl (tab_ok ty_ok rfl) rfl (tab_ok ty_ok rfl) rfl rfl hgH rfl) rfl ?_
    refine wH rfl ?_;refine jA ?_
    refine AW.cond rfl (fun h2=>?_) (fun h2=>?_)
    rotate_left
    · have h2:¬0<=x.rule:=by simpa using h2
      rw [hopN,decide_eq_false h2,cond_false,List.nil_append] at hfu
      refine jA ?_
      exact ⟨(m+1,g,u),⟨⟨hm',hg1,hfu⟩,by show H.length - (m+1)<H.length - m;omega⟩,jV,⟨.ghost rfl rfl rfl,.boxL rfl ⟨Rn.outV rfl rfl,trivial⟩ outV_all,.row rfl rfl,trivial⟩⟩
    have h2:0<=x.rule:=by simpa using h2
    rw [HopA.num x1 x2 y1 y2 h2 y3] at hfu
    have hgA:(A.map cNum)[n]?=some (cNum row):=by rw [List.getElem?_map,y1];rfl
    have hgr:(row.map cI)[t]?=some (cI a):=by rw [List.getElem?_map,y2];rfl
    obtain ⟨sw,tb,rl,hdr⟩:=x
    simp only at x1 x2 hfu
    subst x1 x2
    have hfu':(u++[IntKind.i64.wrap ((a:Int)+rl)])++hopsN A (H.drop (m+1))=o++hopsN A H:=by rw [<- hfu,List.append_assoc]
    cases g
    · refine jB ?_
      skip;(with_reducible first|apply wF|apply wG)
      refine wH rfl ?_
      refine RG.opS rfl (op_index rfl (tab_ok ty_ok rfl) rfl (tab_ok ty_ok rfl) rfl rfl hgA rfl) rfl ?_
      refine wH rfl ?_
      refine RG.opS rfl (op_index rfl (tab_ok ty_ok rfl) rfl (tab_ok ty_ok rfl) rfl rfl hgr rfl) rfl ?_
      refine wH rfl ?_
      refine RG.opS rfl (op_app1 cI u (IntKind.i64.wrap ((a:Int)+rl)) (by omega) rfl rfl rfl rfl (tab_ok ty_ok rfl) rfl (tab_ok ty_ok rfl) rfl rfl ⟨_,rfl,rfl⟩ rfl rfl) rfl ?_;refine wH rfl ?_;refine jA ?_
      exact ⟨(m+1,false,_),⟨⟨hm',fun h=>(by cases h),hfu'⟩,by show H.length - (m+1)<H.length - m;omega⟩,jV,⟨.ghost rfl rfl rfl,.boxL rfl ⟨Rn.rowIs rfl rfl rfl,trivial⟩ rfl,.row rfl rfl,trivial⟩⟩
    · have hu0:=hg1 rfl
      refine jB ?_
      skip;(with_reducible first|apply wF|apply wG)
      refine wH rfl ?_
      refine RG.opS rfl (op_index rfl (tab_ok ty_ok rfl) rfl (tab_ok ty_ok rfl) rfl rfl hgA rfl) rfl ?_
      refine wH rfl ?_
      refine RG.opS rfl (op_index rfl (tab_ok ty_ok rfl) rfl (tab_ok ty_ok rfl) rfl rfl hgr rfl) rfl ?_
      refine wH rfl ?_
      refine RG.opS rfl (op_appC1 cI u (IntKind.i64.wrap ((a:Int)+rl)) (by omega) hu0 rfl rfl rfl rfl (tab_ok ty_ok rfl) rfl (tab_ok ty_ok rfl) rfl rfl rfl rfl rfl rfl) rfl ?_
      refine wH rfl ?_;refine jA ?_
      exact ⟨(m+1,false,_),⟨⟨hm',fun h=>(by cases h),hfu'⟩,by show H.length - (m+1)<H.length - m;omega⟩,jV,⟨.ghost rfl rfl rfl,.boxL rfl ⟨Rn.rowIs rfl rfl rfl,trivial⟩ rfl,.row rfl rfl,trivial⟩⟩
  · rintro q _ rfl
    obtain ⟨hgo,hpo⟩:=usedF_take (fun a ha o ho=>(hGk a ha o ho).2.imp_right And.right) hg list.length (Nat.le_refl _)
    have hg0:(bif (List.range list.length).isEmpty then fl else true)=true->0<(usedF A c v s list out).length:=by
      rw [List.take_length] at hpo
      cases hl:list.length with
      | zero =>
        rw [List.eq_nil_of_length_eq_zero hl]
        exact hfl
      | succ j=>exact fun _=>hpo (by omega)
    rw [List.take_length] at hgo
    have e:usedF A c v s (list.take (List.range list.length).length) out=usedF A c v s list out:=by rw [List.length_range,List.take_length]
    rw [e]
    generalize usedF A c v s list out=o at hgo hg0 hf
    generalize (bif (List.range list.length).isEmpty then fl else true)=g at hg0
    refine jA ?_
    exact ⟨(k+1,g,o),⟨⟨h,hgo,hg0,hf⟩,by show E.length - (k+1)<E.length - k;omega⟩,jV,⟨.boxL rfl ⟨Rn.outV rfl rfl,trivial⟩ outV_all,.row rfl rfl,trivial⟩⟩
end Go.Proofs.YtoaibdbehlcnfaaGreat.Sm
end
section
namespace Go.Proofs.YtoaibdbehlcnfaaGreat.Sm
open Go.RowKit
theorem makeOk_any {L:List Int} (h:L≠[]) (hl:L.length<=1000000):MakeOk L:=by
 cases L with
 | nil=>exact absurd rfl h
 | cons x l=>exact fun q=>o_MakeX x l hl (mkL_pos h) q
theorem lenT_flat (t:List (List Rl)):lenT t=t.flatten.length:=by rw [lenT,List.length_flatten]
theorem lenT_le {c:Cf} (h0:c.sound=0) (hL:c.Lens):∀t∈c.tables,lenT t<=96:=by
 intro t ht
 obtain ⟨n,hn⟩:=List.mem_iff_getElem?.1 ht
 have h3:=tabSound_ok ((Cf.ok h0).tabs n t hn)
 have h4:=Cf.small h0 hL t ht
 have h5:=countT_len t 0 (by omega)
 have h7:((0:Nat):Int)=0:=rfl
 rw [h7] at h5
 rw [lenT_flat]
 omega
theorem sum_le {l:List Nat} {m:Nat} (h:∀x∈l,x<=m):l.sum<=m*l.length:=by
 induction l with
 | nil=>exact Nat.zero_le _
 | cons x l ih =>
  have h1:=h x List.mem_cons_self
  have h2:=ih fun y hy=>h y (List.mem_cons_of_mem _ hy)
  rw [List.sum_cons,List.length_cons,Nat.mul_add]
  omega
theorem tables_sum {c:Cf} (h0:c.sound=0) (hL:c.Lens):(c.tables.map lenT).sum<=576:=by
 have hc:=Cf.ok h0
 have h1:=sum_le (l:=c.tables.map lenT) (m:=96) fun x hx=>by
  obtain ⟨t,ht,rfl⟩:=List.mem_map.1 hx
  exact lenT_le h0 hL t ht
 have h2:=topoSound_ok hc.topo
 have h3:=hc.len
 rw [List.length_map] at h1
 omega
structure UsedOk (N:Nat) (out:List Int):Prop where
 up:out.Pairwise (· < ·)
 lt:∀x∈out,0<=x/\x<(N:Int)
theorem UsedOk.len {N:Nat} {out:List Int} (h:UsedOk N out):out.length<=N:=by
 rcases up_len (N:=N) (a:=0) h.up (fun x hx=>h.lt x hx) with g | g
 ·omega
 ·rw [g];exact Nat.zero_le _
theorem hopN_in {c:Cf} {h:Hop} (hh:HopOk c h):∀x∈hopN (numAll 0 c.tables) h,0<=x/\x<((c.tables.map lenT).sum:Nat):=by
 obtain ⟨n,t,h1,h2,hat,h3,h4⟩:=hh
 obtain ⟨b,g1,_,g2⟩:=numAll_at c.tables 0 n hat.sw
 obtain ⟨a,g3,_,g4⟩:=numRow_at (c.tables.getD n []) b t hat.tab
 intro x hx
 rw [hopN] at hx
 by_cases h0:0<=h.rule
 ·rw [decide_eq_true h0,cond_true,h1,h2,Int.toNat_natCast,Int.toNat_natCast,List.getD_eq_getElem?_getD,List.getD_eq_getElem?_getD,g1,Option.getD_some,g3,Option.getD_some] at hx
  rw [List.mem_singleton.1 hx]
  rw [tabOf] at h4
  omega
 ·rw [decide_eq_false h0] at hx;cases hx
theorem hopsN_mem {A:List (List Int)} {x:Int}:∀{l:List Hop},x∈hopsN A l↔∃h∈l,x∈hopN A h
 | []=>by rw [hopsN];simp
 | h::l=>by
  rw [hopsN,List.mem_append,hopsN_mem (l:=l)]
  simp
theorem hopsN_len (A:List (List Int)):∀(l:List Hop),(hopsN A l).length<=l.length
 | []=>Nat.zero_le _
 | h::l=>by
  have:=hopN_len A h
  have:=hopsN_len A l
  rw [hopsN,List.length_append,List.length_cons]
  omega
theorem usedR_ok {c:Cf} (hc:c.Ok) {v:Int} {s:Sp} (hs:s∈edges c.topo.ports) {out:List Int} (h:UsedOk (c.tables.map lenT).sum out) (a:Atom):UsedOk (c.tables.map lenT).sum (usedR (numAll 0 c.tables) c v s out a):=by
 refine ⟨mkL_up _,fun x hx=>?_⟩
 rw [usedR,mkL_mem,List.mem_append] at hx
 rcases hx with hx | hx
 ·exact h.lt x hx
 ·obtain ⟨y,hy,hx⟩:=hopsN_mem.1 hx
  exact hopN_in (runOf_hops hc hs a.head v 10800 y hy) x hx
theorem usedF_ok {c:Cf} (hc:c.Ok) {v:Int} {s:Sp} (hs:s∈edges c.topo.ports):∀(l:List Atom) {out:List Int},UsedOk (c.tables.map lenT).sum out->UsedOk (c.tables.map lenT).sum (usedF (numAll 0 c.tables) c v s l out)
 | [],out,h=>h
 | a::l,out,h=>by
  rw [usedF,List.foldl_cons]
  exact usedF_ok hc hs l (usedR_ok hc hs h a)
theorem usedG_ok {c:Cf} (hc:c.Ok) {v:Int} {list:List Atom}:∀(ss:List Sp) {out:List Int},(∀s∈ss,s∈edges c.topo.ports)->UsedOk (c.tables.map lenT).sum out->UsedOk (c.tables.map lenT).sum (usedG (numAll 0 c.tables) c v list ss out)
 | [],out,_,h=>h
 | s::ss,out,hs,h=>by
  rw [usedG]
  exact usedG_ok hc ss (fun x hx=>hs x (List.mem_cons_of_mem _ hx)) (usedF_ok hc (hs s List.mem_cons_self) list h)
theorem usedAll_ok {c:Cf} (hc:c.Ok) (v:Int):UsedOk (c.tables.map lenT).sum (usedAll c v):=usedG_ok hc _ (fun _ h=>h) ⟨List.Pairwise.nil,fun x hx=>by cases hx⟩
def outW:List Int->AV
 | []=>.raw (.slice none 0 0)
 | x::l=>.ref 40 0 (.sl 0 (x::l).length (x::l).length)
def oW (out:List Int):List (Nat × SB):=[(9,⟨0,some (.box 74 [outW out])⟩),(40,⟨0,some (.row 3 1 (out.map cI))⟩)]
theorem outW_one {out:List Int}:(outW out).one=true:=by
 cases out <;> rfl
theorem outW_all {out:List Int}:[outW out].all AV.one=true:=by
 rw [List.all_cons,outW_one];rfl
theorem oW_nof (out:List Int):(oW out).all nofSB=true:=by
 have h2:nofSB (40,⟨0,some (.row 3 1 (out.map cI))⟩)=true:=by
  simp only [nofSB,Body.nof]
  rw [Bool.and_eq_true]
  refine ⟨rfl,List.all_eq_true.2 fun cs hcs=>?_⟩
  obtain ⟨x,_,rfl⟩:=List.mem_map.1 hcs
  rfl
 have h1:nofSB (9,⟨0,some (.box 74 [outW out])⟩)=true:=by
  cases out <;> rfl
 rw [oW,List.all_cons,List.all_cons,h1,h2]
 rfl
theorem Rn.outW {σ σ':Sto} {t m:Nat} {els:List (List AV)} {out:List Int} (h:σ 40=⟨0,some (.row t m els)⟩) (h':σ' 40=⟨0,some (.row t m els)⟩):Rn σ σ' (outW out) (outW out):=by
 cases out
 ·exact Rn.is rfl rfl
 ·exact Rn.refIs rfl h h'
theorem d_RUsedX (c : Cf) (V : Int) (hL : c.Lens) (he : lookE c V = 0) :
    PDoes Tryz.prog 29 [.agg (cCf c),.i .i64 V] (.tup [.sl ((usedAll c V).map cI),.i .i64 0]):=by
  refine PDoes.of_bodyN Tryz.func29 rfl (by kernel_rfl) rfl rfl ?_
  have hl:=d_look c V hL
  rw [lookR,decide_eq_true he] at hl
  obtain ⟨h0,v,rfl,hV⟩:=malE_nat (lookE_mal he)
  have hLk:=looks_any h0 hL
  have hc:=Cf.ok h0
  have hE:=edges_len hc.topo
  have hme:(edges c.topo.ports).length<=9223372036854775807:=by omega
  have htp:=topoSound_ok hc.topo
  have hB:(c.tables.map lenT).sum<=1000000000:=by
    have:=tables_sum h0 hL
    omega
  have hN:=d_numbers c (by rw [hc.len];omega) (fun t ht=>by
    obtain ⟨n,hn⟩:=List.mem_iff_getElem?.1 ht
    have:=(tabSound_ok (hc.tabs n t hn)).2.1
    omega) hB
  refine jA ?_
  refine RG.callMS rfl rfl rfl rfl rfl rfl hl rfl ?_;refine wH rfl ?_;refine jA ?_
  refine AW.condF rfl ?_;refine jA ?_
  refine RG.callMS rfl rfl rfl rfl rfl rfl hN rfl ?_;refine wH rfl ?_;refine jA ?_
  refine RG.callMS rfl rfl rfl rfl rfl rfl (d_Edges c.topo.ports hc.topo) rfl ?_;refine wH rfl ?_;refine jA ?_
  refine AW.nilRow 40 0 3 1 [(2,.own 2 0 0),(6,.ro (cLk c v (lookA c v))),(8,.own 8 0 0),(9,.own 9 0 0),(29,.sl ((edges c.topo.ports).map cSp)),(30,.i .i64 ((edges c.topo.ports).map cSp).length),(31,.i .i64 (0:Nat))] [(2,⟨0,some (.box 31 (cCf c))⟩),(8,⟨0,some (.box 138 [.sl ((numAll 0 c.tables).map cNum)])⟩),(9,⟨0,some (.box 74 [.raw (.slice none 0 0)])⟩),(40,⟨0,some (.row 3 1 [])⟩)] ⟨.rn (Rn.ownIs rfl rfl rfl),.rn (Rn.is rfl rfl),.rn (Rn.ownIs rfl rfl rfl),.rn (Rn.ownIs rfl rfl rfl),.rn (Rn.is rfl rfl),.rn (Rn.is rfl rfl),.rn (Rn.is rfl rfl),trivial⟩ ⟨.old (WkB1.same rfl rfl rfl),.old (WkB1.same rfl rfl rfl),.old (WkB1.same rfl rfl rfl),.old (.row rfl rfl),trivial⟩ ?_
  refine AW.freeze [2,8] [(6,.ro (cLk c v (lookA c v))),(8,.ro [.sl ((numAll 0 c.tables).map cNum)]),(9,.own 9 0 0),(29,.sl ((edges c.topo.ports).map cSp)),(30,.i .i64 ((edges c.topo.ports).map cSp).length),(31,.i .i64 (0:Nat))] (oW []) ⟨.rn (Rn.is rfl rfl),.fzA rfl rfl rfl,.rn (Rn.ownIs rfl rfl rfl),.rn (Rn.is rfl rfl),.rn (Rn.is rfl rfl),.rn (Rn.is rfl rfl),trivial⟩ ⟨.old (WkB1.same rfl rfl rfl),.old (.row rfl rfl),trivial⟩ rfl ?_
  rw [usedAll]
  have hA:∀s∈edges c.topo.ports,∀g:Hd,∀x∈(runOf c s g v 10800).hops,HopA (numAll 0 c.tables) x:=fun s hs g x hx=>(runOf_hops hc hs g v 10800 x hx).A hB
  have hR:∀s∈edges c.topo.ports,∀a out,UsedOk (c.tables.map lenT).sum out->UsedOk (c.tables.map lenT).sum (usedR (numAll 0 c.tables) c v s out a):=fun s hs a out h=>usedR_ok hc hs h a
  have hN5:=tables_sum h0 hL
  have hG0:UsedOk (c.tables.map lenT).sum []:=⟨List.Pairwise.nil,fun x hx=>by cases hx⟩
  generalize hNN:(c.tables.map lenT).sum=NN at hR hN5 hG0
  clear hN hB hNN
  generalize numAll 0 c.tables=A at hA hR
  generalize lookA c v=list
  generalize hEE:edges c.topo.ports=E at hE hme hR
  refine AW.loopL (ι:=Nat × List Int) (fun i=>[(6,.ro (cLk c v list)),(8,.ro [.sl (A.map cNum)]),(9,.own 9 0 0),(29,.sl (E.map cSp)),(30,.i .i64 (E.map cSp).length),(31,.i .i64 (i.1:Nat))]) (fun i=>oW i.2) (fun i=>i.1<=E.length/\UsedOk NN i.2/\usedG A c v list (E.drop i.1) i.2=usedG A c v list E []) (fun i=>E.length - i.1) (0,[]) ⟨Nat.zero_le _,hG0,rfl⟩ jV ⟨WkB1.same rfl rfl rfl,.row rfl rfl,trivial⟩ fun i hi=>?_
  obtain ⟨k,out⟩:=i
  obtain ⟨hk,hg,hf⟩:=hi
  simp only at hk hg hf
  refine jA ?_
  refine AW.cond rfl (fun h=>?_) (fun h=>?_)
  rotate_left
  · have h:¬k<E.length:=by simpa using h
    obtain rfl:k=E.length:=by omega
    rw [List.drop_length,usedG] at hf
    rw [<- hf]
    cases out with
    | nil =>
      refine jA ?_
      refine AW.exit ?_;refine Eq.mpr (if_pos rfl) ?_;refine jA ?_
      refine AW.ret (retQA ty_ok rfl rfl rfl ?_)
      rfl
    | cons x0 l0 =>
      generalize hout:x0::l0=out
      refine jA ?_
      refine AW.exit ?_;refine Eq.mpr (if_pos rfl) ?_
      refine AW.freeze [40] [(9,.own 9 0 0)] [(9,⟨0,some (.box 74 [.sl (out.map cI)])⟩)] ⟨.rn (Rn.ownIs rfl rfl rfl),trivial⟩ ⟨.boxL rfl ⟨.fz (by rw [<- hout];exact Fz.rowref rfl (List.length_map ..)) (by simp),trivial⟩ rfl,trivial⟩ rfl ?_
      refine jA ?_
      refine AW.ret (retQA ty_ok rfl rfl rfl ?_)
      rfl
  have h:k<E.length:=by simpa using h
  rw [List.drop_eq_getElem_cons h,usedG] at hf
  have hs:=List.getElem_mem h
  have hAk:=hA E[k] (by rw [hEE];exact hs)
  have hRk:=hR E[k] hs
  have hI:=i_runs c h0 hLk E[k] (by rw [hEE];exact hs) v hV list
  have hms:=fun (g:Hd)=>goF_most (c:=c) 10800 E[k].sw.toNat 0 (g.set (stampOf c E[k] v)) []
  have hmr:∀g:Hd,(runOf c E[k] g v 10800).hops.length<=10800:=fun g=>by
    have:=hms g
    simp only [List.length_nil,Nat.zero_add] at this
    exact this
  clear hms
  refine jA ?_
  refine RG.opS rfl (op_index rfl (tab_ok ty_ok rfl) rfl (tab_ok ty_ok rfl) rfl rfl (show (E.map cSp)[k]?=some (cSp E[k]) by rw [List.getElem?_map,List.getElem?_eq_getElem (by assumption)];rfl) rfl) rfl ?_
  generalize E[k]=s at hf hAk hRk hI hmr
  have hUF:∀j,j<=list.length->UsedOk NN (usedF A c v s (list.take j) out):=fun j hj=>by
    have:∀(l:List Atom) (o:List Int),UsedOk NN o->UsedOk NN (usedF A c v s l o):=by
      intro l
      induction l with
      | nil=>exact fun o h=>h
      | cons a l ih =>
        intro o h
        rw [usedF,List.foldl_cons]
        exact ih _ (hRk a o h)
    exact this _ _ hg
  refine wH rfl ?_;refine jA ?_
  refine RG.callMS rfl rfl rfl rfl rfl rfl (d_runs c v list s) rfl ?_;refine wH rfl ?_;refine jA ?_
  refine AW.rangeFunc hI rfl rfl (fun _=>rfl) rfl [9] [(6,.ro (cLk c v list)),(8,.ro [.sl (A.map cNum)]),(9,.own 9 0 0),(29,.sl (E.map cSp)),(30,.i .i64 (E.map cSp).length),(31,.i .i64 (k:Nat))] (fun pre=>oW (usedF A c v s (list.take pre.length) out)) jV ?_ rfl (fun pre id hid=>?_) (fun pre=>oW_nof _) ?_ ?_
  · exact ⟨.boxL rfl ⟨Rn.outW rfl rfl,trivial⟩ outW_all,.row rfl rfl,trivial⟩
  · obtain rfl:=List.mem_singleton.1 hid
    exact ⟨by decide,_,rfl⟩
  · rintro q _ j ⟨rfl,hj⟩
    have hget:list.getD j ⟨[],Hd.zero,[]⟩=list[j]:=by rw [List.getD_eq_getElem?_getD,List.getElem?_eq_getElem hj];rfl
    have henc:encR c v s list j=[.agg (cHd list[j].head),.agg (cRun (runOf c s list[j].head v 10800))]:=by rw [encR,hget]
    have hstep:usedF A c v s (list.take (List.range j++[j]).length) out=usedR A c v s (usedF A c v s (list.take (List.range j).length) out) list[j]:=by
      rw [List.length_append,List.length_range,List.length_singleton,List.take_add_one,List.getElem?_eq_getElem hj,usedF,List.foldl_append]
      rfl
    have hol:=(hUF (List.range j).length (by rw [List.length_range];omega)).len
    rw [hstep,henc,usedR]
    have hAj:=hAk list[j].head
    have hHl:=hmr list[j].head
    clear hstep henc hget hUF
    generalize usedF A c v s (list.take (List.range j).length) out=o at hol
    generalize list[j].head=hd at hAj hHl
    generalize runOf c s hd v 10800=r at hAj hHl
    cases o with
    | cons x0 l0 =>
      refine jA ?_
      generalize r.hops=H at hAj hHl
      have hlen:((x0::l0)++hopsN A H).length<=1000000:=by
        have:=hopsN_len A H
        rw [List.length_append]
        omega
      have hne:(x0::l0)++hopsN A H≠[]:=by simp
      refine AW.lens 41 rfl fun hmH=>?_
      rw [List.length_map] at hmH
      generalize hO:x0::l0=o at hlen hne
      refine AW.loopL (ι:=Nat × Bool × List Int) (fun i=>[(8,.ro [.sl (A.map cNum)]),(9,.own 9 0 0),(41,.sl (H.map cHop)),(42,.i .i64 (H.map cHop).length),(43,.i .i64 (i.1:Nat))]) (fun i=>gl q [9] (oB i.2.1 i.2.2)) (fun i=>i.1<=H.length/\(i.2.1=true->0<i.2.2.length)/\i.2.2++hopsN A (H.drop i.1)=o++hopsN A H) (fun i=>H.length - i.1) (0,true,o) ⟨Nat.zero_le _,fun _=>(by rw [<- hO];exact Nat.succ_pos _),rfl⟩ jV ⟨.ghost rfl rfl rfl,.boxL rfl ⟨(by rw [<- hO];exact Rn.refIs rfl rfl rfl),trivial⟩ rfl,.row rfl rfl,trivial⟩ fun i hi=>?_
      obtain ⟨m,g,u⟩:=i
      obtain ⟨hm,hg1,hfu⟩:=hi
      simp only at hm hg1 hfu
      have hul:u.length<=1000000:=by
        have:=congrArg List.length hfu
        rw [List.length_append] at this
        omega
      have lH:(H.map cHop).length=H.length:=List.length_map ..
      refine jA ?_
      refine AW.cond rfl (fun h1=>?_) (fun h1=>?_)
      rotate_left
      · have h':¬m<H.length:=by simpa using h1
        obtain rfl:m=H.length:=by omega
        rw [List.drop_length,hopsN,List.append_nil] at hfu
        rw [<- hfu] at hne
        have hM:=makeOk_any hne hul
        obtain ⟨y0,l0,hmk⟩:=List.exists_cons_of_length_pos (mkL_pos hne)
        rw [<- hfu]
        rw [MakeOk] at hM
        rw [hmk] at hM ⊢
        refine jB ?_
        refine AW.exit ?_;refine Eq.mpr (if_pos rfl) ?_
        refine AW.freeze [40] [(9,.own 9 0 0)] (gl q [9] [(9,⟨0,some (.box 74 [.sl (u.map cI)])⟩)]) ⟨.rn (Rn.ownIs rfl rfl rfl),trivial⟩ ⟨.old (.ghost rfl rfl rfl),.boxL rfl ⟨.fz (outV_fz rfl rfl) (by simp),trivial⟩ rfl,trivial⟩ rfl ?_
        refine jA ?_
        refine RG.ownN [] [(5,40)] hM rfl rfl rfl rfl rfl rfl rfl rfl rfl rfl ?_
        refine wH rfl ?_;refine jA ?_
        exact ⟨.ghost rfl rfl rfl,.boxL rfl ⟨Rn.refIs rfl rfl rfl,trivial⟩ rfl,.row rfl rfl,trivial⟩
      have hm':m<H.length:=by simpa using h1
      have hx:=hAj _ (List.getElem_mem hm')
      rw [List.drop_eq_getElem_cons hm',hopsN] at hfu
      have hgH:(H.map cHop)[m]?=some (cHop H[m]):=by rw [List.getElem?_map,List.getElem?_eq_getElem hm'];rfl
      generalize H[m]=x at hx hfu hgH
      obtain ⟨n,t,a,row,x1,x2,y1,y2,y0,y3⟩:=hx
      refine jB ?_
      skip;(with_reducible first|apply wF|apply wG)
      refine wH rfl ?_
      refine RG.opS rfl (op_index rfl (tab_ok ty_ok rfl) rfl (tab_ok ty_ok rfl) rfl rfl hgH rfl) rfl ?_
      refine wH rfl ?_;refine jA ?_
      refine AW.cond rfl (fun h2=>?_) (fun h2=>?_)
      rotate_left
      · have h2:¬0<=x.rule:=by simpa using h2
        rw [hopN,decide_eq_false h2,cond_false,List.nil_append] at hfu
        refine jA ?_
        exact ⟨(m+1,g,u),⟨⟨hm',hg1,hfu⟩,by show H.length - (m+1)<H.length - m;omega⟩,jV,⟨.ghost rfl rfl rfl,.boxL rfl ⟨Rn.outV rfl rfl,trivial⟩ outV_all,.row rfl rfl,trivial⟩⟩
      have h2:0<=x.rule:=by simpa using h2
      rw [HopA.num x1 x2 y1 y2 h2 y3] at hfu
      have hgA:(A.map cNum)[n]?=some (cNum row):=by rw [List.getElem?_map,y1];rfl
      have hgr:(row.map cI)[t]?=some (cI a):=by rw [List.getElem?_map,y2];rfl
      obtain ⟨sw,tb,rl,hdr⟩:=x
      simp only at x1 x2 hfu
      subst x1 x2
      have hfu':(u++[IntKind.i64.wrap ((a:Int)+rl)])++hopsN A (H.drop (m+1))=o++hopsN A H:=by rw [<- hfu,List.append_assoc]
      cases g
      · refine jB ?_
        skip;(with_reducible first|apply wF|apply wG)
        refine wH rfl ?_
        refine RG.opS rfl (op_index rfl (tab_ok ty_ok rfl) rfl (tab_ok ty_ok rfl) rfl rfl hgA rfl) rfl ?_
        refine wH rfl ?_
        refine RG.opS rfl (op_index rfl (tab_ok ty_ok rfl) rfl (tab_ok ty_ok rfl) rfl rfl hgr rfl) rfl ?_
        refine wH rfl ?_
        refine RG.opS rfl (op_app1 cI u (IntKind.i64.wrap ((a:Int)+rl)) (by omega) rfl rfl rfl rfl (tab_ok ty_ok rfl) rfl (tab_ok ty_ok rfl) rfl rfl ⟨_,rfl,rfl⟩ rfl rfl) rfl ?_;refine wH rfl ?_;refine jA ?_
        exact ⟨(m+1,false,_),⟨⟨hm',fun h=>(by cases h),hfu'⟩,by show H.length - (m+1)<H.length - m;omega⟩,jV,⟨.ghost rfl rfl rfl,.boxL rfl ⟨Rn.rowIs rfl rfl rfl,trivial⟩ rfl,.row rfl rfl,trivial⟩⟩
      · have hu0:=hg1 rfl
        refine jB ?_
        skip;(with_reducible first|apply wF|apply wG)
        refine wH rfl ?_
        refine RG.opS rfl (op_index rfl (tab_ok ty_ok rfl) rfl (tab_ok ty_ok rfl) rfl rfl hgA rfl) rfl ?_
        refine wH rfl ?_
        refine RG.opS rfl (op_index rfl (tab_ok ty_ok rfl) rfl (tab_ok ty_ok rfl) rfl rfl hgr rfl) rfl ?_
        refine wH rfl ?_
        refine RG.opS rfl (op_appC1 cI u (IntKind.i64.wrap ((a:Int)+rl)) (by omega) hu0 rfl rfl rfl rfl (tab_ok ty_ok rfl) rfl (tab_ok ty_ok rfl) rfl rfl rfl rfl rfl rfl) rfl ?_
        refine wH rfl ?_;refine jA ?_
        exact ⟨(m+1,false,_),⟨⟨hm',fun h=>(by cases h),hfu'⟩,by show H.length - (m+1)<H.length - m;omega⟩,jV,⟨.ghost rfl rfl rfl,.boxL rfl ⟨Rn.rowIs rfl rfl rfl,trivial⟩ rfl,.row rfl rfl,trivial⟩⟩
    | nil =>
      by_cases hne:[]++hopsN A r.hops=[]
      · rw [hne]
        rw [List.nil_append] at hne
        refine jA ?_
        generalize r.hops=H at hAj hHl hne
        refine AW.lens 41 rfl fun hmH=>?_
        rw [List.length_map] at hmH
        refine AW.loopL (ι:=Nat) (fun i=>[(9,.own 9 0 0),(41,.sl (H.map cHop)),(42,.i .i64 (H.map cHop).length),(43,.i .i64 (i:Nat))]) (fun i=>gl q [9] (oW [])) (fun i=>i<=H.length/\hopsN A (H.drop i)=[]) (fun i=>H.length - i) 0 ⟨Nat.zero_le _,hne⟩ jV ⟨.ghost rfl rfl rfl,WkB1.same rfl rfl rfl,.row rfl rfl,trivial⟩ fun m hm=>?_
        obtain ⟨hm,hfu⟩:=hm
        have lH:(H.map cHop).length=H.length:=List.length_map ..
        refine jA ?_
        refine AW.cond rfl (fun h1=>?_) (fun h1=>?_)
        rotate_left
        · have h':¬m<H.length:=by simpa using h1
          obtain rfl:m=H.length:=by omega
          refine jA ?_
          refine AW.exit ?_;refine Eq.mpr (if_pos rfl) ?_;refine jA ?_
          refine RG.ownQ [] [] m_MakeNil rfl rfl rfl rfl rfl rfl rfl rfl rfl rfl ?_
          refine wH rfl ?_;refine jA ?_
          exact ⟨.ghost rfl rfl rfl,.boxL rfl ⟨Rn.is rfl rfl,trivial⟩ rfl,.row rfl rfl,trivial⟩
        have hm':m<H.length:=by simpa using h1
        rw [List.drop_eq_getElem_cons hm',hopsN,List.append_eq_nil_iff] at hfu
        have hgH:(H.map cHop)[m]?=some (cHop H[m]):=by rw [List.getElem?_map,List.getElem?_eq_getElem hm'];rfl
        generalize H[m]=x at hfu hgH
        have hr:¬0<=x.rule:=fun h0=>by
          have:=hfu.1
          rw [hopN,decide_eq_true h0] at this
          cases this
        refine jB ?_
        skip;(with_reducible first|apply wF|apply wG)
        refine wH rfl ?_
        refine RG.opS rfl (op_index rfl (tab_ok ty_ok rfl) rfl (tab_ok ty_ok rfl) rfl rfl hgH rfl) rfl ?_
        refine wH rfl ?_;refine jA ?_
        refine AW.cond rfl (fun h2=>?_) (fun h2=>?_)
        · exact absurd (by simpa using h2) hr
        refine jA ?_
        exact ⟨m+1,⟨⟨hm',hfu.2⟩,by show H.length - (m+1)<H.length - m;omega⟩,jV,⟨.ghost rfl rfl rfl,WkB1.same rfl rfl rfl,.row rfl rfl,trivial⟩⟩
      · refine jA ?_
        generalize r.hops=H at hAj hHl hne
        have hlen:([]++hopsN A H).length<=1000000:=by
          have:=hopsN_len A H
          rw [List.nil_append]
          omega
        refine AW.lens 41 rfl fun hmH=>?_
        rw [List.length_map] at hmH
        refine AW.nilRow 40 1 3 1 [(8,.ro [.sl (A.map cNum)]),(9,.own 9 0 0),(41,.sl (H.map cHop)),(42,.i .i64 (H.map cHop).length),(43,.i .i64 (0:Nat))] (gl q [9] [(9,⟨0,some (.box 74 [.row 40 1 0 0])⟩),(40,⟨1,some (.row 3 1 [])⟩)]) ⟨.rn (Rn.is rfl rfl),.rn (Rn.ownIs rfl rfl rfl),.rn (Rn.is rfl rfl),.rn (Rn.is rfl rfl),.rn (Rn.is rfl rfl),trivial⟩ ⟨.old (.ghost rfl rfl rfl),.boxL rfl ⟨.nil rfl,trivial⟩ rfl,.old (.row rfl rfl),trivial⟩ ?_
        refine AW.loopL (ι:=Nat × Bool × List Int) (fun i=>[(8,.ro [.sl (A.map cNum)]),(9,.own 9 0 0),(41,.sl (H.map cHop)),(42,.i .i64 (H.map cHop).length),(43,.i .i64 (i.1:Nat))]) (fun i=>gl q [9] (oB i.2.1 i.2.2)) (fun i=>i.1<=H.length/\(i.2.1=true->0<i.2.2.length)/\i.2.2++hopsN A (H.drop i.1)=([]:List Int)++hopsN A H) (fun i=>H.length - i.1) (0,false,[]) ⟨Nat.zero_le _,fun h=>(by cases h),rfl⟩ jV ⟨.ghost rfl rfl rfl,.boxL rfl ⟨Rn.rowIs rfl rfl rfl,trivial⟩ rfl,.row rfl rfl,trivial⟩ fun i hi=>?_
        obtain ⟨m,g,u⟩:=i
        obtain ⟨hm,hg1,hfu⟩:=hi
        simp only at hm hg1 hfu
        have hul:u.length<=1000000:=by
          have:=congrArg List.length hfu
          rw [List.length_append] at this
          omega
        have lH:(H.map cHop).length=H.length:=List.length_map ..
        refine jA ?_
        refine AW.cond rfl (fun h1=>?_) (fun h1=>?_)
        rotate_left
        · have h':¬m<H.length:=by simpa using h1
          obtain rfl:m=H.length:=by omega
          rw [List.drop_length,hopsN,List.append_nil] at hfu
          rw [<- hfu] at hne
          have hM:=makeOk_any hne hul
          obtain ⟨y0,l0,hmk⟩:=List.exists_cons_of_length_pos (mkL_pos hne)
          rw [<- hfu]
          rw [MakeOk] at hM
          rw [hmk] at hM ⊢
          refine jB ?_
          refine AW.exit ?_;refine Eq.mpr (if_pos rfl) ?_
          refine AW.freeze [40] [(9,.own 9 0 0)] (gl q [9] [(9,⟨0,some (.box 74 [.sl (u.map cI)])⟩)]) ⟨.rn (Rn.ownIs rfl rfl rfl),trivial⟩ ⟨.old (.ghost rfl rfl rfl),.boxL rfl ⟨.fz (outV_fz rfl rfl) (by simp),trivial⟩ rfl,trivial⟩ rfl ?_
          refine jA ?_
          refine RG.ownN [] [(5,40)] hM rfl rfl rfl rfl rfl rfl rfl rfl rfl rfl ?_
          refine wH rfl ?_;refine jA ?_
          exact ⟨.ghost rfl rfl rfl,.boxL rfl ⟨Rn.refIs rfl rfl rfl,trivial⟩ rfl,.row rfl rfl,trivial⟩
        have hm':m<H.length:=by simpa using h1
        have hx:=hAj _ (List.getElem_mem hm')
        rw [List.drop_eq_getElem_cons hm',hopsN] at hfu
        have hgH:(H.map cHop)[m]?=some (cHop H[m]):=by rw [List.getElem?_map,List.getElem?_eq_getElem hm'];rfl
        generalize H[m]=x at hx hfu hgH
        obtain ⟨n,t,a,row,x1,x2,y1,y2,y0,y3⟩:=hx
        refine jB ?_
        skip;(with_reducible first|apply wF|apply wG)
        refine wH rfl ?_
        refine RG.opS rfl (op_index rfl (tab_ok ty_ok rfl) rfl (tab_ok ty_ok rfl) rfl rfl hgH rfl) rfl ?_
        refine wH rfl ?_;refine jA ?_
        refine AW.cond rfl (fun h2=>?_) (fun h2=>?_)
        rotate_left
        · have h2:¬0<=x.rule:=by simpa using h2
          rw [hopN,decide_eq_false h2,cond_false,List.nil_append] at hfu
          refine jA ?_
          exact ⟨(m+1,g,u),⟨⟨hm',hg1,hfu⟩,by show H.length - (m+1)<H.length - m;omega⟩,jV,⟨.ghost rfl rfl rfl,.boxL rfl ⟨Rn.outV rfl rfl,trivial⟩ outV_all,.row rfl rfl,trivial⟩⟩
        have h2:0<=x.rule:=by simpa using h2
        rw [HopA.num x1 x2 y1 y2 h2 y3] at hfu
        have hgA:(A.map cNum)[n]?=some (cNum row):=by rw [List.getElem?_map,y1];rfl
        have hgr:(row.map cI)[t]?=some (cI a):=by rw [List.getElem?_map,y2];rfl
        obtain ⟨sw,tb,rl,hdr⟩:=x
        simp only at x1 x2 hfu
        subst x1 x2
        have hfu':(u++[IntKind.i64.wrap ((a:Int)+rl)])++hopsN A (H.drop (m+1))=([]:List Int)++hopsN A H:=by rw [<- hfu,List.append_assoc]
        cases g
        · refine jB ?_
          skip;(with_reducible first|apply wF|apply wG)
          refine wH rfl ?_
          refine RG.opS rfl (op_index rfl (tab_ok ty_ok rfl) rfl (tab_ok ty_ok rfl) rfl rfl hgA rfl) rfl ?_
          refine wH rfl ?_
          refine RG.opS rfl (op_index rfl (tab_ok ty_ok rfl) rfl (tab_ok ty_ok rfl) rfl rfl hgr rfl) rfl ?_
          refine wH rfl ?_
          refine RG.opS rfl (op_app1 cI u (IntKind.i64.wrap ((a:Int)+rl)) (by omega) rfl rfl rfl rfl (tab_ok ty_ok rfl) rfl (tab_ok ty_ok rfl) rfl rfl ⟨_,rfl,rfl⟩ rfl rfl) rfl ?_;refine wH rfl ?_;refine jA ?_
          exact ⟨(m+1,false,_),⟨⟨hm',fun h=>(by cases h),hfu'⟩,by show H.length - (m+1)<H.length - m;omega⟩,jV,⟨.ghost rfl rfl rfl,.boxL rfl ⟨Rn.rowIs rfl rfl rfl,trivial⟩ rfl,.row rfl rfl,trivial⟩⟩
        · have hu0:=hg1 rfl
          refine jB ?_
          skip;(with_reducible first|apply wF|apply wG)
          refine wH rfl ?_
          refine RG.opS rfl (op_index rfl (tab_ok ty_ok rfl) rfl (tab_ok ty_ok rfl) rfl rfl hgA rfl) rfl ?_
          refine wH rfl ?_
          refine RG.opS rfl (op_index rfl (tab_ok ty_ok rfl) rfl (tab_ok ty_ok rfl) rfl rfl hgr rfl) rfl ?_
          refine wH rfl ?_
          refine RG.opS rfl (op_appC1 cI u (IntKind.i64.wrap ((a:Int)+rl)) (by omega) hu0 rfl rfl rfl rfl (tab_ok ty_ok rfl) rfl (tab_ok ty_ok rfl) rfl rfl rfl rfl rfl rfl) rfl ?_
          refine wH rfl ?_;refine jA ?_
          exact ⟨(m+1,false,_),⟨⟨hm',fun h=>(by cases h),hfu'⟩,by show H.length - (m+1)<H.length - m;omega⟩,jV,⟨.ghost rfl rfl rfl,.boxL rfl ⟨Rn.rowIs rfl rfl rfl,trivial⟩ rfl,.row rfl rfl,trivial⟩⟩
  · rintro q _ rfl
    have hgo:=hUF list.length (Nat.le_refl _)
    rw [List.take_length] at hgo
    have e:usedF A c v s (list.take (List.range list.length).length) out=usedF A c v s list out:=by rw [List.length_range,List.take_length]
    rw [e]
    generalize usedF A c v s list out=o at hgo hf
    refine jA ?_
    exact ⟨(k+1,o),⟨⟨h,hgo,hf⟩,by show E.length - (k+1)<E.length - k;omega⟩,jV,⟨.boxL rfl ⟨Rn.outW rfl rfl,trivial⟩ outW_all,.row rfl rfl,trivial⟩⟩
end Go.Proofs.YtoaibdbehlcnfaaGreat.Sm
end
section
namespace Go.Proofs.YtoaibdbehlcnfaaGreat.Sm
open Go.RowKit
theorem lookE_cases {c:Cf} {v:Nat} (hv:v<=255) (h0:c.sound=0) (h:lookE c v≠0):lookE c v=10\/lookE c v=11:=by
 have hc:=Cf.ok h0
 obtain ⟨hsnd,hask⟩:=askedOf_ok hc (v:Int)
 have hp:=sortG_perm (askedOf c (v:Int))
 rw [lookE,decide_eq_true (malE_zero h0 hv),cond_true] at h ⊢
 by_cases h1:(askedOf c (v:Int)).length>500
 ·rw [decide_eq_true h1,cond_true]
  exact .inl rfl
 rw [decide_eq_false h1,cond_false] at h ⊢
 obtain ⟨g1,_⟩:=atomsOf_ok (ps:=sortG (askedOf c (v:Int))) (fun x hx=>hsnd x (hp.mem_iff.1 hx)) (by rw [hp.length_eq];omega)
 rcases g1 with g | g | g
 ·exact absurd g h
 ·rw [g];exact .inl rfl
 ·rw [g];exact .inr rfl
theorem look_alike {c:Cf} {v:Nat} (h:lookE c v=0) {s:Sp} (hs:s∈edges c.topo.ports) (g:Hd):∃a∈lookA c v,(runOf c s g v 10800).Alike (runOf c s a.head v 10800):=by
 have h0:=malE_sound (lookE_mal h)
 have hc:=Cf.ok h0
 obtain ⟨hsnd,hask⟩:=askedOf_ok hc (v:Int)
 have hp:=sortG_perm (askedOf c (v:Int))
 rw [lookE,decide_eq_true (lookE_mal h),cond_true] at h
 rw [lookA]
 by_cases h1:(askedOf c (v:Int)).length>500
 ·rw [decide_eq_true h1,cond_true] at h
  cases h
 rw [decide_eq_false h1,cond_false] at h
 have hA:=hask (by omega)
 obtain ⟨_,g2⟩:=atomsOf_ok (ps:=sortG (askedOf c (v:Int))) (fun x hx=>hsnd x (hp.mem_iff.1 hx)) (by rw [hp.length_eq];omega)
 have hP:=g2 h
 obtain ⟨a,ha,hh⟩:=hP.all g
 have hlike:Like (askedOf c (v:Int)) g a.head:=fun p hpp=>hP.like a ha g a.head hh (hP.head a ha) p (hp.mem_iff.2 hpp)
 exact ⟨a,ha,runOf_alike hc hA hs hlike 10800⟩
end Go.Proofs.YtoaibdbehlcnfaaGreat.Sm
end
section
namespace Go.Proofs.YtoaibdbehlcnfaaGreat.Sm
open Go.RowKit
theorem d_wrong30 (c:Cf) (V:Int):PDoes Tryz.prog 22 [.agg (cCf c),.i .i64 V] (.i .i64 (malE c V)):=by
  refine PDoes.of_bodyN Tryz.func22 rfl (by kernel_rfl) rfl rfl ?_
  have hS:=d_rCSound c
  rw [malE]
  by_cases h0:c.sound=0
  · rw [if_pos h0]
    rw [h0] at hS
    refine jB ?_;refine wF ?_;refine wH rfl ?_;refine jB ?_
    refine AW.text ?_
    refine wH rfl ?_
    refine RG.callS rfl rfl rfl rfl rfl hS rfl rfl ?_
    refine wH rfl ?_;refine jB ?_
    refine AW.text ?_
    by_cases g1:V<0
    · rw [if_pos (.inl g1)]
      refine RG.runO ty_ok 0 [(12,.b true)] 400 rfl jD ?_
      refine jB ?_;refine AW.condT rfl ?_;refine jA ?_
      refine AW.ret (retQA ty_ok rfl rfl rfl ?_)
      rfl
    by_cases g2:V>255
    · rw [if_pos (.inr g2)]
      refine RG.runO ty_ok 0 [(12,.b false),(15,.b true)] 400 rfl jD ?_
      refine jB ?_;refine AW.condT rfl ?_;refine jA ?_
      refine AW.ret (retQA ty_ok rfl rfl rfl ?_)
      rfl
    · rw [if_neg (by omega)]
      refine RG.runO ty_ok 0 [(12,.b false),(15,.b false)] 400 rfl jD ?_
      refine jB ?_;refine AW.condF rfl ?_;refine jA ?_
      refine AW.ret (retQA ty_ok rfl rfl rfl ?_)
      rfl
  · rw [if_neg h0]
    refine jB ?_;refine wF ?_;refine wH rfl ?_;refine jB ?_
    refine AW.text ?_
    refine wH rfl ?_
    refine RG.callS rfl rfl rfl rfl rfl hS rfl rfl ?_
    refine wH rfl ?_;refine jB ?_
    refine AW.text ?_
    refine RG.runO ty_ok 0 [(9,.b false)] 400 rfl jD ?_
    refine jB ?_;refine AW.condF rfl ?_;refine jA ?_
    refine AW.ret (retQA ty_ok rfl rfl rfl ?_)
    rfl
theorem d_much30 (e:Int) (he:e=10\/e=11):PDoes Tryz.prog 24 [.i .i64 e] (.b true):=by
 refine PDoes.of_bodyN Tryz.func24 rfl (by kernel_rfl) rfl rfl ?_
 rcases he with rfl | rfl
 ·refine jA ?_
  refine AW.ret (retQA ty_ok rfl rfl rfl ?_)
  rfl
 ·refine jA ?_
  refine AW.ret (retQA ty_ok rfl rfl rfl ?_)
  rfl
theorem rpairsR_ok {c:Cf} {V:Int} (h:lookE c V=0):rpairsR c V = .tup [.sl ((pairsAll c V).map cPair),.i .i64 0]:=by rw [rpairsR,decide_eq_true h];rfl
theorem lookE_no {c:Cf} {V:Int} (h:malE c V≠0):lookE c V=malE c V:=by rw [lookE,decide_eq_false h];rfl
theorem rfromR_ok {c:Cf} {V:Int} {s:Sp} (h:fromE c V s=0):rfromR c V s = .tup [.sl (((pairsOf c V (lookA c V) s).map Pair.to).map cSp),.i .i64 0]:=by rw [rfromR,h];rfl
end Go.Proofs.YtoaibdbehlcnfaaGreat.Sm
end
section
namespace Go.Proofs.YtoaibdbehlcnfaaGreat.Sm
open Go.RowKit
theorem m_line30 (q:Nat->Option (Nat × Nat)):MDoes Tryz.prog 61 [] (gl q [] []) lnV (gl q [] lnB):=by
 refine MDoes.of_body Tryz.func61 rfl (by kernel_rfl) rfl rfl ?_
 refine jB ?_
 refine wF ?_;refine wH rfl ?_;refine jB ?_
 refine wF ?_;refine wH rfl ?_;refine jB ?_
 refine wF ?_;refine wH rfl ?_;refine jB ?_
 refine wF ?_;refine wH rfl ?_;refine jB ?_
 refine wF ?_;refine wH rfl ?_;refine jB ?_
 refine AW.text ?_
 refine RG.runG ty_ok 0 5 rfl ?_
 refine RG.opS rfl (op_buildRef (id:=301) rfl (tab_ok ty_ok rfl) rfl (tab_ok ty_ok rfl) rfl (by decide) rfl rfl rfl rfl rfl) rfl ?_
 refine RG.runG ty_ok 0 5 rfl ?_
 refine RG.opS rfl (op_buildRef (id:=302) rfl (tab_ok ty_ok rfl) rfl (tab_ok ty_ok rfl) rfl (by decide) rfl rfl rfl rfl rfl) rfl ?_
 refine RG.opS rfl (op_buildRef (id:=300) rfl (tab_ok ty_ok rfl) rfl (tab_ok ty_ok rfl) rfl (by decide) rfl rfl rfl rfl rfl) rfl ?_
 refine wH rfl ?_;refine jA ?_
 refine AW.ret (retMA ty_ok rfl rfl (Rm.aggL rfl ⟨⟨Rm.rowIs rfl rfl rfl rfl,rfl⟩,⟨Rm.is rfl rfl,rfl⟩,⟨.nil,rfl⟩,⟨.nil,rfl⟩,⟨Rm.refIs rfl rfl rfl rfl,rfl⟩,trivial⟩) ⟨.boxL rfl ⟨Rn.refIs rfl rfl rfl,Rn.refIs rfl rfl rfl,trivial⟩ rfl,.boxL rfl ⟨Rn.rowIs rfl rfl rfl,trivial⟩ rfl,.boxL rfl ⟨Rn.rowIs rfl rfl rfl,trivial⟩ rfl,.row rfl rfl,.row rfl rfl,.row rfl rfl,trivial⟩)
theorem lens_line:lineC.Lens:=by
 intro t ht l hl
 simp only [lineC,List.mem_cons,List.not_mem_nil,or_false] at ht
 rcases ht with rfl | rfl
 ·simp only [List.mem_cons,List.not_mem_nil,or_false] at hl
  subst hl
  exact Nat.le_of_ble_eq_true (by kernel_rfl)
 ·simp only [List.mem_cons,List.not_mem_nil,or_false] at hl
  subst hl
  exact Nat.le_of_ble_eq_true (by kernel_rfl)
theorem lookE_line:lookE lineC 0=0:=by kernel_rfl
theorem pairs_line:pairsAll lineC 0=[⟨⟨0,0⟩,⟨1,1⟩,⟨0,1⟩⟩,⟨⟨1,1⟩,⟨1,1⟩,⟨0,1⟩⟩]:=by kernel_rfl
theorem from_line:fromE lineC 0 ⟨0,0⟩=0:=by kernel_rfl
theorem to_line:(pairsOf lineC 0 (lookA lineC 0) ⟨0,0⟩).map Pair.to=[⟨1,1⟩]:=by kernel_rfl
theorem used_line:usedAll lineC 0=[0,1,2,3]:=by kernel_rfl
def lnOs:List (List Int):=[[],[0,2],[0,1,2],[0,2,3],[0,1,2,3],[1],[1,2],[1,3],[1,2,3],[2],[2,3],[3]]
def lnChk:List Int->Bool
 | []=>false
 | x::l=>Nat.ble (x::l).length 12 && (Nat.blt 0 (mkL (x::l)).length && lnOs.any fun y=>decide (y=mkL (x::l)))
theorem chk_line:(lnOs.all fun out=>(edges lineC.topo.ports).all fun s=>(lookA lineC 0).all fun a=>lnChk (out++hopsN (numAll 0 lineC.tables) (runOf lineC s a.head 0 10800).hops))=true:=by kernel_rfl
theorem chk_ok {L:List Int} (h:lnChk L=true):MakeOk L/\0<(mkL L).length/\L.length<=1000000/\mkL L∈lnOs:=by
 cases L with
 | nil=>cases h
 | cons x l =>
  rw [lnChk,Bool.and_eq_true,Bool.and_eq_true] at h
  obtain ⟨h1,h2,h3⟩:=h
  have h1:=Nat.le_of_ble_eq_true h1
  have h2:0<(mkL (x::l)).length:=Nat.le_of_ble_eq_true h2
  obtain ⟨y,hy,e⟩:=List.any_eq_true.1 h3
  exact ⟨fun q=>o_Make x l h1 h2 q,h2,by omega,of_decide_eq_true e ▸ hy⟩
theorem d_Used_line:PDoes Tryz.prog 29 [.agg (cCf lineC),.i .i64 0] (.tup [.sl (([0,1,2,3]:List Int).map cI),.i .i64 0]):=by
 rw [<- used_line]
 refine d_RUsed lineC 0 lens_line lookE_line (Nat.le_of_ble_eq_true (by kernel_rfl)) (fun out=>out∈lnOs) (List.mem_cons_self) fun s hs a ha out ho=>?_
 obtain ⟨h1,h2,h3,h4⟩:=chk_ok (List.all_eq_true.1 (List.all_eq_true.1 (List.all_eq_true.1 chk_line out ho) s hs) a ha)
 exact ⟨h1,h2,h3,h4⟩
theorem d_awake30:PDoes Tryz.prog 23 [] (.b true):=by
 refine PDoes.of_bodyN Tryz.func23 rfl (by kernel_rfl) rfl rfl ?_
 have hP:=d_RPairs lineC 0 lens_line
 rw [rpairsR_ok lookE_line,pairs_line] at hP
 have hF:=d_RFrom lineC 0 ⟨0,0⟩ lens_line
 rw [rfromR_ok from_line,to_line] at hF
 have hU:=d_Used_line
 refine jA ?_
 refine RG.ownN [] [(300,310),(301,311),(302,312),(24,324),(30,330),(12,313)] m_line30 rfl rfl rfl rfl rfl rfl rfl rfl rfl rfl ?_
 refine wH rfl ?_;refine jB ?_
 refine AW.freeze [310,311,312,324,330,313] [(1,.own 1 0 0)] [(1,⟨0,some (.box 31 (cCf lineC))⟩)] ⟨.rn (Rn.ownIs rfl rfl rfl),trivial⟩ ⟨.boxL rfl ⟨.fzA rfl rfl rfl,RnF.is rfl rfl,RnF.is rfl rfl,RnF.is rfl rfl,.fzA rfl rfl rfl,trivial⟩ rfl,trivial⟩ rfl ?_
 refine jA ?_
 refine RG.callMS rfl rfl rfl rfl rfl rfl hP rfl ?_;refine wH rfl ?_;refine jA ?_
 refine RG.callMS rfl rfl rfl rfl rfl rfl hF rfl ?_;refine wH rfl ?_;refine jA ?_
 refine RG.callMS rfl rfl rfl rfl rfl rfl hU rfl ?_;refine wH rfl ?_;refine jA ?_
 have hg:(([⟨⟨0,0⟩,⟨1,1⟩,⟨0,1⟩⟩,⟨⟨1,1⟩,⟨1,1⟩,⟨0,1⟩⟩]:List Pair).map cPair)[0]?=some (cPair ⟨⟨0,0⟩,⟨1,1⟩,⟨0,1⟩⟩):=rfl
 refine RG.opS rfl (op_index rfl (tab_ok ty_ok rfl) rfl (tab_ok ty_ok rfl) rfl rfl hg rfl) rfl ?_
 refine wH rfl ?_
 refine RG.opS rfl (op_eqG rfl ty_ok (by kernel_rfl) (by kernel_rfl) rfl rfl (eq_Sp ⟨1,1⟩ ⟨1,1⟩) (decide_eq_true rfl)) rfl ?_
 refine wH rfl ?_
 refine RG.opS rfl (op_index rfl (tab_ok ty_ok rfl) rfl (tab_ok ty_ok rfl) rfl rfl hg rfl) rfl ?_
 refine wH rfl ?_;refine jA ?_
 refine AW.ret (retQA ty_ok rfl rfl rfl ?_)
 rfl
end Go.Proofs.YtoaibdbehlcnfaaGreat.Sm
end
section
namespace Go.Proofs.YtoaibdbehlcnfaaGreat.Sm
open Go.RowKit
theorem goF_pref {c:Cf}:∀(f f' n t:Nat) (h:Hd) (pre:List Hop),f<=f'->∃m,(goF c f' n t h pre).hops=(goF c f n t h pre).hops++m
 | 0,f',n,t,h,pre,_=>by
  obtain ⟨m,hm⟩:=goF_pre (c:=c) f' n t h pre
  exact ⟨m,by rw [hm,goF]⟩
 | f+1,f',n,t,h,pre,hf=>by
  obtain ⟨g,rfl⟩:∃g,f'=g+1:=⟨f' - 1,by omega⟩
  rw [goF,goF]
  split
  ·exact ⟨[],by rw [List.append_nil]⟩
  ·split
   ·exact goF_pref f g _ _ _ _ (by omega)
   split
   ·exact goF_pref f g _ _ _ _ (by omega)
   split
   ·exact ⟨[],by rw [List.append_nil]⟩
   ·exact ⟨[],by rw [List.append_nil]⟩
theorem hopN_key {A:List (List Int)} {x y:Hop} (h:hopKey x=hopKey y):hopN A x=hopN A y:=by
 have h1:x.sw=y.sw:=congrArg (·.1) h
 have h2:x.table=y.table:=congrArg (·.2.1) h
 have h3:x.rule=y.rule:=congrArg (·.2.2) h
 rw [hopN,hopN,h1,h2,h3]
theorem usedR_keep {A:List (List Int)} {c:Cf} {v:Int} {s:Sp} {out:List Int} {a:Atom} {x:Int} (h:x∈out):x∈usedR A c v s out a:=by
 rw [usedR,mkL_mem]
 exact List.mem_append_left _ h
theorem usedF_keep {A:List (List Int)} {c:Cf} {v:Int} {s:Sp} {x:Int}:∀(l:List Atom) {out:List Int},x∈out->x∈usedF A c v s l out
 | [],out,h=>h
 | a::l,out,h=>by
  rw [usedF,List.foldl_cons]
  exact usedF_keep l (usedR_keep h)
theorem usedF_has {A:List (List Int)} {c:Cf} {v:Int} {s:Sp} {x:Int} {a:Atom} (hx:x∈hopsN A (runOf c s a.head v 10800).hops):∀(l:List Atom) {out:List Int},a∈l->x∈usedF A c v s l out
 | [],out,h=>by cases h
 | b::l,out,h=>by
  rw [usedF,List.foldl_cons]
  rcases List.mem_cons.1 h with rfl | h
  ·refine usedF_keep l ?_
   rw [usedR,mkL_mem]
   exact List.mem_append_right _ hx
  ·exact usedF_has hx l h
theorem usedG_keep {A:List (List Int)} {c:Cf} {v:Int} {list:List Atom} {x:Int}:∀(ss:List Sp) {out:List Int},x∈out->x∈usedG A c v list ss out
 | [],out,h=>h
 | s::ss,out,h=>by
  rw [usedG]
  exact usedG_keep ss (usedF_keep list h)
theorem usedG_has {A:List (List Int)} {c:Cf} {v:Int} {list:List Atom} {s:Sp} {x:Int} {a:Atom} (ha:a∈list) (hx:x∈hopsN A (runOf c s a.head v 10800).hops):∀(ss:List Sp) {out:List Int},s∈ss->x∈usedG A c v list ss out
 | [],out,h=>by cases h
 | r::ss,out,h=>by
  rw [usedG]
  rcases List.mem_cons.1 h with rfl | h
  ·exact usedG_keep ss (usedF_has hx list ha)
  ·exact usedG_has ha hx ss h
theorem used_has {c:Cf} {v:Nat} (he:lookE c v=0) {s:Sp} (hs:s∈edges c.topo.ports) (h:Hd) {most:Nat} (hm:most<=10800):∀x∈(runOf c s h v most).hops,∀y∈hopN (numAll 0 c.tables) x,y∈usedAll c v:=by
 intro x hx y hy
 obtain ⟨a,ha,hl⟩:=look_alike he hs h
 obtain ⟨m,hp⟩:=goF_pref (c:=c) most 10800 s.sw.toNat 0 (h.set (stampOf c s v)) [] hm
 have hx':x∈(runOf c s h v 10800).hops:=by
  show x∈(goF c 10800 s.sw.toNat 0 (h.set (stampOf c s v)) []).hops
  rw [hp]
  exact List.mem_append_left _ hx
 have hk:hopKey x∈(runOf c s a.head v 10800).hops.map hopKey:=by
  rw [<- hl.hops]
  exact List.mem_map_of_mem hx'
 obtain ⟨z,hz,e⟩:=List.mem_map.1 hk
 rw [<- hopN_key e] at hy
 exact usedG_has ha (hopsN_mem.2 ⟨z,hz,hy⟩) _ hs
def idN (c:Cf) (n t:Nat):Nat:=((c.tables.take n).map lenT).sum+(((c.tables.getD n []).take t).map List.length).sum
theorem numRow_is:∀(t:List (List Rl)) (m k:Nat),k<t.length->(numRow m t)[k]?=some ((m+((t.take k).map List.length).sum:Nat):Int)
 | [],m,k,h=>absurd h (Nat.not_lt_zero k)
 | l::t,m,0,h=>by rw [numRow];rfl
 | l::t,m,k+1,h=>by
  rw [numRow,List.getElem?_cons_succ,numRow_is t (m+l.length) k (by simpa using h),List.take_succ_cons,List.map_cons,List.sum_cons,Nat.add_assoc]
theorem numAll_is:∀(ts:List (List (List Rl))) (m n:Nat),n<ts.length->(numAll m ts)[n]?=some (numRow (m+((ts.take n).map lenT).sum) (ts.getD n []))
 | [],m,n,h=>absurd h (Nat.not_lt_zero n)
 | t::ts,m,0,h=>by rw [numAll];rfl
 | t::ts,m,n+1,h=>by
  rw [numAll,List.getElem?_cons_succ,numAll_is ts (m+lenT t) n (by simpa using h),List.take_succ_cons,List.map_cons,List.sum_cons,Nat.add_assoc]
  rfl
theorem hopN_is {c:Cf} {h:Hop} {n t ru:Nat} (h1:h.sw=n) (h2:h.table=t) (h3:h.rule=ru) (hat:At c n t):hopN (numAll 0 c.tables) h=[((ru+idN c n t:Nat):Int)]:=by
 have g1:=numAll_is c.tables 0 n hat.sw
 have g2:=numRow_is (c.tables.getD n []) (0+((c.tables.take n).map lenT).sum) t hat.tab
 rw [hopN,h3,decide_eq_true (by omega),cond_true,h1,h2,Int.toNat_natCast,Int.toNat_natCast,List.getD_eq_getElem?_getD,List.getD_eq_getElem?_getD,g1,Option.getD_some,g2,Option.getD_some,idN]
 congr 1
 omega
theorem take_sum {l:List Nat} (k:Nat):(l.take k).sum<=l.sum:=by
 have h:=List.take_append_drop k l
 have:=congrArg List.sum h
 rw [List.sum_append] at this
 omega
end Go.Proofs.YtoaibdbehlcnfaaGreat.Sm
end
section
namespace Go.Proofs.YtoaibdbehlcnfaaGreat.Sm
open Go.RowKit
theorem ReachUsed_d (c:Cf) (V:Int) (s:Sp) (h:Hd) (hL:c.Lens):PDoes Tryz.prog 7 [.agg (cCf c),.i .i64 V,.agg (cSp s),.agg (cHd h)] (.b true):=by
  refine PDoes.of_bodyN Tryz.func7 rfl (by kernel_rfl) rfl rfl ?_
  have hAw:=d_awake30
  have hW:=d_wrong30 c V
  by_cases h0:malE c V=0
  rotate_left
  · have hP:=d_RUsed0 c V hL (by rw [lookE_no h0];exact h0)
    rw [lookE_no h0] at hP
    generalize malE c V=m at h0 hP hW
    have hmm:m=m:=rfl
    refine jB ?_;refine wF ?_;refine wH rfl ?_;refine jB ?_
    skip;(with_reducible first|apply wF|apply wG)
    refine wH rfl ?_
    refine RG.callMS rfl rfl rfl rfl rfl rfl hP rfl ?_;refine wH rfl ?_;refine jA ?_
    refine RG.callS rfl rfl rfl rfl rfl hW rfl rfl ?_
    refine wH rfl ?_;refine jB ?_
    skip;(with_reducible first|apply wF|apply wG)
    refine RG.runO ty_ok 0 [(34,.b true)] 400 rfl jD ?_
    refine jB ?_;refine AW.condT rfl ?_;refine jB ?_
    skip;(with_reducible first|apply wF|apply wG)
    refine wH rfl ?_
    refine RG.callS rfl rfl rfl rfl rfl hAw rfl rfl ?_
    refine RG.runO ty_ok 0 [(48,.b true),(51,.b true)] 400 rfl jD ?_
    refine jB ?_
    refine AW.ret (retQA ty_ok rfl rfl rfl ?_)
    rfl
  obtain ⟨hz,v,rfl,hv⟩:=malE_nat h0
  rw [h0] at hW
  by_cases he:lookE c v=0
  rotate_left
  · have hm:=d_much30 (lookE c v) (lookE_cases hv hz he)
    have hP:=d_RUsed0 c v hL he
    rcases lookE_cases hv hz he with e | e
    · rw [e] at hP hm
      refine jB ?_;refine wF ?_;refine wH rfl ?_;refine jB ?_
      skip;(with_reducible first|apply wF|apply wG)
      refine wH rfl ?_
      refine RG.callMS rfl rfl rfl rfl rfl rfl hP rfl ?_;refine wH rfl ?_;refine jA ?_
      refine RG.callS rfl rfl rfl rfl rfl hW rfl rfl ?_;refine wH rfl ?_;refine jA ?_
      refine AW.condT rfl ?_;refine jA ?_
      refine RG.callS rfl rfl rfl rfl rfl hAw rfl rfl ?_
      refine wH rfl ?_
      refine RG.callS rfl rfl rfl rfl rfl hm rfl rfl ?_;refine wH rfl ?_;refine jA ?_
      refine AW.ret (retQA ty_ok rfl rfl rfl ?_)
      rfl
    · rw [e] at hP hm
      refine jB ?_;refine wF ?_;refine wH rfl ?_;refine jB ?_
      skip;(with_reducible first|apply wF|apply wG)
      refine wH rfl ?_
      refine RG.callMS rfl rfl rfl rfl rfl rfl hP rfl ?_;refine wH rfl ?_;refine jA ?_
      refine RG.callS rfl rfl rfl rfl rfl hW rfl rfl ?_;refine wH rfl ?_;refine jA ?_
      refine AW.condT rfl ?_;refine jA ?_
      refine RG.callS rfl rfl rfl rfl rfl hAw rfl rfl ?_
      refine wH rfl ?_
      refine RG.callS rfl rfl rfl rfl rfl hm rfl rfl ?_;refine wH rfl ?_;refine jA ?_
      refine AW.ret (retQA ty_ok rfl rfl rfl ?_)
      rfl
  have hP:=d_RUsedX c v hL he
  have hc:=Cf.ok hz
  have hok:=usedAll_ok hc (v:Int)
  have hN5:=tables_sum hz hL
  have hall:=fun (hs:s∈edges c.topo.ports)=>used_has he hs h (most:=300) (by decide)
  have hEg:=d_Edge c.topo.ports s
  have hlt:=topoSound_ok hc.topo
  have htl:c.tables.length<=6:=by have:=hc.len;omega
  have hul:=hok.len
  generalize usedAll c v=u at hP hok hall hul
  refine jB ?_;refine wF ?_;refine wH rfl ?_;refine jB ?_
  skip;(with_reducible first|apply wF|apply wG)
  refine wH rfl ?_
  refine RG.callMS rfl rfl rfl rfl rfl rfl hP rfl ?_;refine wH rfl ?_;refine jA ?_
  refine RG.callS rfl rfl rfl rfl rfl hW rfl rfl ?_;refine wH rfl ?_;refine jA ?_
  refine AW.condF rfl ?_
  refine AW.freeze [4,6,7] [(1,.i .i64 (v:Nat)),(4,.ro (cCf c)),(6,.ro (cSp s)),(7,.ro (cHd h)),(9,.sl (u.map cI))] [] ⟨.rn (Rn.is rfl rfl),.fzA rfl rfl rfl,.fzA rfl rfl rfl,.fzA rfl rfl rfl,.rn (Rn.is rfl rfl),trivial⟩ trivial rfl ?_
  refine jA ?_
  have lT:(c.tables.map cTab).length=c.tables.length:=List.length_map ..
  have lU:(u.map cI).length=u.length:=List.length_map ..
  have hmT:c.tables.length<=9223372036854775807:=by omega
  have hmU:u.length<=9223372036854775807:=by omega
  -- how many rules there are
  refine AW.loopL (ι:=Nat × Nat) (fun i=>[(1,.i .i64 (v:Nat)),(4,.ro (cCf c)),(6,.ro (cSp s)),(7,.ro (cHd h)),(9,.sl (u.map cI)),(12,.i .i64 (i.2:Nat)),(13,.i .i64 (i.1:Nat))]) (fun _=>[]) (fun i=>i.1<=c.tables.length/\i.2+((c.tables.drop i.1).map lenT).sum=(c.tables.map lenT).sum) (fun i=>c.tables.length - i.1) (0,0) ⟨Nat.zero_le _,Nat.zero_add _⟩ jV trivial fun i hi=>?_
  obtain ⟨n,m⟩:=i
  obtain ⟨hn,hsum⟩:=hi
  simp only at hn hsum
  refine jA ?_
  refine AW.cond rfl (fun h1=>?_) (fun h1=>?_)
  · have hn':n<c.tables.length:=by simpa using h1
    have hgT:(c.tables.map cTab)[n]?=some (cTab c.tables[n]):=by rw [List.getElem?_map,List.getElem?_eq_getElem hn'];rfl
    have ht3:=(tabSound_ok (hc.tabs n _ (List.getElem?_eq_getElem hn'))).2.1
    rw [List.drop_eq_getElem_cons hn',List.map_cons,List.sum_cons] at hsum
    generalize c.tables[n]=t at hgT ht3 hsum
    have lt:(t.map cRls).length=t.length:=List.length_map ..
    have hmt:t.length<=9223372036854775807:=by omega
    refine jA ?_
    refine AW.loopL (ι:=Nat × Nat) (fun i=>[(1,.i .i64 (v:Nat)),(4,.ro (cCf c)),(6,.ro (cSp s)),(7,.ro (cHd h)),(9,.sl (u.map cI)),(12,.i .i64 (i.2:Nat)),(13,.i .i64 (n:Nat)),(14,.i .i64 (i.1:Nat))]) (fun _=>[]) (fun i=>i.1<=t.length/\i.2+((t.drop i.1).map List.length).sum=m+lenT t) (fun i=>t.length - i.1) (0,m) ⟨Nat.zero_le _,rfl⟩ jV trivial fun i hi=>?_
    obtain ⟨k,w⟩:=i
    obtain ⟨hk,hw⟩:=hi
    simp only at hk hw
    refine jA ?_
    refine RG.opS rfl (op_index rfl (tab_ok ty_ok rfl) rfl (tab_ok ty_ok rfl) rfl rfl hgT rfl) rfl ?_
    refine wH rfl ?_;refine jA ?_
    refine AW.cond rfl (fun h2=>?_) (fun h2=>?_)
    rotate_left
    · have h':¬k<t.length:=by simpa using h2
      obtain rfl:k=t.length:=by omega
      rw [List.drop_length,List.map_nil,List.sum_nil,Nat.add_zero] at hw
      subst hw
      refine jA ?_
      refine AW.exit ?_;refine Eq.mpr (if_pos rfl) ?_;refine jA ?_
      exact ⟨(n+1,_),⟨⟨hn',by rw [Nat.add_assoc];exact hsum⟩,by show c.tables.length - (n+1)<c.tables.length - n;omega⟩,jV,trivial⟩
    have hk':k<t.length:=by simpa using h2
    have hgt:(t.map cRls)[k]?=some (cRls t[k]):=by rw [List.getElem?_map,List.getElem?_eq_getElem hk'];rfl
    rw [List.drop_eq_getElem_cons hk',List.map_cons,List.sum_cons] at hw
    generalize t[k]=l at hgt hw
    have ll:(l.map cRl).length=l.length:=List.length_map ..
    refine jA ?_
    refine RG.opS rfl (op_index rfl (tab_ok ty_ok rfl) rfl (tab_ok ty_ok rfl) rfl rfl hgT rfl) rfl ?_
    refine wH rfl ?_
    refine RG.opS rfl (op_index rfl (tab_ok ty_ok rfl) rfl (tab_ok ty_ok rfl) rfl rfl hgt rfl) rfl ?_
    refine wH rfl ?_;refine jA ?_
    exact ⟨(k+1,w+l.length),⟨⟨hk',by rw [Nat.add_assoc];exact hw⟩,by show t.length - (k+1)<t.length - k;omega⟩,⟨Rn.is rfl rfl,Rn.is rfl rfl,Rn.is rfl rfl,Rn.is rfl rfl,Rn.is rfl rfl,Rn.is (by rw [<- ll];exact i64_sum (by omega)) rfl,Rn.is rfl rfl,Rn.is (i64_next hk' hmt) rfl,trivial⟩,trivial⟩
  have h':¬n<c.tables.length:=by simpa using h1
  obtain rfl:n=c.tables.length:=by omega
  rw [List.drop_length,List.map_nil,List.sum_nil,Nat.add_zero] at hsum
  clear h1 h' hn
  refine jA ?_
  refine AW.exit ?_;refine Eq.mpr (if_pos rfl) ?_;refine jA ?_
  -- they rise, and are such numbers
  refine AW.loopL (ι:=Nat) (fun i=>[(1,.i .i64 (v:Nat)),(4,.ro (cCf c)),(6,.ro (cSp s)),(7,.ro (cHd h)),(9,.sl (u.map cI)),(12,.i .i64 (m:Nat)),(15,.i .i64 (i:Nat))]) (fun _=>[]) (fun i=>i<=u.length) (fun i=>u.length - i) 0 (Nat.zero_le _) jV trivial fun k hk=>?_
  refine jA ?_
  refine AW.cond rfl (fun h1=>?_) (fun h1=>?_)
  · have hk':k<u.length:=by simpa using h1
    have hgu:(u.map cI)[k]?=some (cI u[k]):=by rw [List.getElem?_map,List.getElem?_eq_getElem hk'];rfl
    obtain ⟨u1,u2⟩:=hok.lt _ (List.getElem_mem hk')
    rw [<- hsum] at u2
    cases k with
    | zero =>
      generalize u[0]=x at hgu u1 u2
      have n1:¬x<0:=by omega
      have n2:¬(m:Int)<=x:=by omega
      refine jB ?_
      skip;(with_reducible first|apply wF|apply wG)
      refine wH rfl ?_
      refine RG.opS rfl (op_index rfl (tab_ok ty_ok rfl) rfl (tab_ok ty_ok rfl) rfl rfl hgu rfl) rfl ?_
      refine RG.runO ty_ok 0 [(100,.b false)] 400 rfl jD ?_
      refine RG.opS rfl (op_index rfl (tab_ok ty_ok rfl) rfl (tab_ok ty_ok rfl) rfl rfl hgu rfl) rfl ?_
      refine RG.runO ty_ok 0 [(107,.b false)] 400 rfl jD ?_
      refine jB ?_;refine AW.condF rfl ?_;refine jA ?_
      exact ⟨1,⟨hk',by omega⟩,jV,trivial⟩
    | succ k =>
      have hk2:k<u.length:=by omega
      have hgv:(u.map cI)[k]?=some (cI u[k]):=by rw [List.getElem?_map,List.getElem?_eq_getElem hk2];rfl
      have hup:=List.pairwise_iff_getElem.1 hok.up k (k+1) hk2 hk' (Nat.lt_succ_self k)
      generalize u[k+1]=x at hgu u1 u2 hup
      generalize u[k]=y at hgv hup
      have n1:¬x<0:=by omega
      have n2:¬(m:Int)<=x:=by omega
      have n3:¬x<=y:=by omega
      have n4:(0:Int)<((k+1:Nat):Int):=by omega
      have hw:IntKind.i64.wrap (((k+1:Nat):Int) - Int.ofNat 1)=(k:Nat):=by
        rw [IntKind.wrap_i64]
        simp only [Int.ofNat_eq_natCast]
        omega
      refine jB ?_
      skip;(with_reducible first|apply wF|apply wG)
      refine wH rfl ?_
      refine RG.opS rfl (op_index rfl (tab_ok ty_ok rfl) rfl (tab_ok ty_ok rfl) rfl rfl hgu rfl) rfl ?_
      refine RG.runO ty_ok 0 [(100,.b false)] 400 rfl jD ?_
      refine RG.opS rfl (op_index rfl (tab_ok ty_ok rfl) rfl (tab_ok ty_ok rfl) rfl rfl hgu rfl) rfl ?_
      refine RG.runO ty_ok 0 [(107,.b false),(111,.b true)] 400 rfl jD ?_
      refine RG.opS rfl (op_index rfl (tab_ok ty_ok rfl) rfl (tab_ok ty_ok rfl) rfl rfl hgu rfl) rfl ?_
      refine RG.runO ty_ok 0 [(119,.i .i64 (k:Nat))] 400 rfl jD ?_
      refine RG.opS rfl (op_index rfl (tab_ok ty_ok rfl) rfl (tab_ok ty_ok rfl) rfl rfl hgv rfl) rfl ?_
      refine RG.runO ty_ok 0 [(122,.b false)] 400 rfl jD ?_
      refine jB ?_;refine AW.condF rfl ?_;refine jA ?_
      exact ⟨k+1+1,⟨hk',by omega⟩,jV,trivial⟩
  clear h1 hk
  refine jA ?_
  refine AW.exit ?_;refine Eq.mpr (if_pos rfl) ?_;refine jA ?_
  refine RG.callS rfl rfl rfl rfl rfl hEg rfl rfl ?_;refine wH rfl ?_;refine jA ?_
  refine AW.cond rfl (fun k=>?_) (fun k=>?_)
  · refine jA ?_
    refine RG.callS rfl rfl rfl rfl rfl hAw rfl rfl ?_;refine wH rfl ?_;refine jA ?_
    refine AW.ret (retQA ty_ok rfl rfl rfl ?_)
    rfl
  have hs:s∈edges c.topo.ports:=(edgeOf_iff hc.topo).1 (by simp at k;omega)
  have hRun:=d_rRun c hc s hs h v 300 hv (by decide)
  have hAll:=hall hs
  have hHops:=runOf_hops hc hs h (v:Int) 300
  have hms:=goF_most (c:=c) 300 s.sw.toNat 0 (h.set (stampOf c s v)) []
  have hmr:(runOf c s h v 300).hops.length<=300:=by
    simp only [List.length_nil,Nat.zero_add] at hms
    exact hms
  clear hms
  clear hall hEg k
  generalize runOf c s h v 300=r at hRun hAll hHops hmr
  refine jA ?_
  refine RG.callMS rfl rfl rfl rfl rfl rfl hRun rfl ?_;refine wH rfl ?_;refine jA ?_
  refine AW.freeze [16] [(4,.ro (cCf c)),(9,.sl (u.map cI)),(16,.ro (cRun r)),(17,.i .i64 (0:Nat))] [] ⟨.rn (Rn.is rfl rfl),.rn (Rn.is rfl rfl),.fzA rfl rfl rfl,.rn (Rn.is rfl rfl),trivial⟩ trivial rfl ?_
  clear hRun
  have lH:(r.hops.map cHop).length=r.hops.length:=List.length_map ..
  have hmH:r.hops.length<=9223372036854775807:=by omega
  refine AW.loopL (ι:=Nat) (fun i=>[(4,.ro (cCf c)),(9,.sl (u.map cI)),(16,.ro (cRun r)),(17,.i .i64 (i:Nat))]) (fun _=>[]) (fun i=>i<=r.hops.length) (fun i=>r.hops.length - i) 0 (Nat.zero_le _) jV trivial fun i hi=>?_
  refine jA ?_
  refine AW.cond rfl (fun h1=>?_) (fun h1=>?_)
  rotate_left
  · refine jA ?_
    refine AW.exit ?_;refine Eq.mpr (if_pos rfl) ?_;refine jA ?_
    refine RG.callS rfl rfl rfl rfl rfl hAw rfl rfl ?_;refine wH rfl ?_;refine jA ?_
    refine AW.ret (retQA ty_ok rfl rfl rfl ?_)
    rfl
  have hi':i<r.hops.length:=by simpa using h1
  have hgH:(r.hops.map cHop)[i]?=some (cHop r.hops[i]):=by rw [List.getElem?_map,List.getElem?_eq_getElem hi'];rfl
  have hx:=hHops _ (List.getElem_mem hi')
  have hin:=hAll _ (List.getElem_mem hi')
  generalize r.hops[i]=x at hgH hx hin
  refine jA ?_
  refine RG.opS rfl (op_index rfl (tab_ok ty_ok rfl) rfl (tab_ok ty_ok rfl) rfl rfl hgH rfl) rfl ?_
  refine wH rfl ?_;refine jA ?_
  refine AW.cond rfl (fun h2=>?_) (fun h2=>?_)
  · refine jA ?_
    refine AW.exit ?_;refine Eq.mpr (if_pos rfl) ?_;refine jA ?_
    exact ⟨i+1,⟨hi',by omega⟩,jV,trivial⟩
  obtain ⟨n0,t0,x1,x2,hat,x3,x4⟩:=hx
  have h2:¬x.rule<0:=by simpa using h2
  obtain ⟨ru,x5⟩:∃ru:Nat,x.rule=ru:=⟨x.rule.toNat,by omega⟩
  have hid:=hin _ (by rw [hopN_is x1 x2 x5 hat];exact List.mem_singleton.2 rfl)
  have hidl:=(hok.lt _ hid).2
  obtain ⟨sw,tb,rl,hdr⟩:=x
  simp only at x1 x2 x5
  subst x1 x2 x5
  clear hin h2 x3 x4
  have hn0:=hat.sw
  refine jA ?_
  refine AW.freeze [18] [(4,.ro (cCf c)),(9,.sl (u.map cI)),(16,.ro (cRun r)),(17,.i .i64 (i:Nat)),(18,.ro (cHop ⟨n0,t0,ru,hdr⟩)),(19,.i .i64 ((ru+0:Nat):Int)),(20,.i .i64 (0:Nat))] [] ⟨.rn (Rn.is rfl rfl),.rn (Rn.is rfl rfl),.rn (Rn.is rfl rfl),.rn (Rn.is rfl rfl),.fzA rfl rfl rfl,.rn (Rn.is rfl rfl),.rn (Rn.is rfl rfl),trivial⟩ trivial rfl ?_
  have hm0:n0+1<=9223372036854775807:=by omega
  refine AW.loopL (ι:=Nat × Nat) (fun j=>[(4,.ro (cCf c)),(9,.sl (u.map cI)),(16,.ro (cRun r)),(17,.i .i64 (i:Nat)),(18,.ro (cHop ⟨n0,t0,ru,hdr⟩)),(19,.i .i64 ((ru+j.2:Nat):Int)),(20,.i .i64 (j.1:Nat))]) (fun _=>[]) (fun j=>(j.1<=n0/\j.2=((c.tables.take j.1).map lenT).sum)\/(j.1=n0+1/\j.2=idN c n0 t0)) (fun j=>n0+1 - j.1) (0,0) (.inl ⟨Nat.zero_le _,rfl⟩) jV trivial fun j hj=>?_
  obtain ⟨n,w⟩:=j
  simp only at hj
  refine jA ?_
  refine AW.cond rfl (fun h3=>?_) (fun h3=>?_)
  · have h3:n<=n0:=by simpa using h3
    obtain ⟨_,hw⟩:n<=n0/\w=((c.tables.take n).map lenT).sum:=by
      rcases hj with hj | hj
      · exact hj
      · omega
    clear hj
    have hn':n<c.tables.length:=by omega
    have hgT:(c.tables.map cTab)[n]?=some (cTab c.tables[n]):=by rw [List.getElem?_map,List.getElem?_eq_getElem hn'];rfl
    have eT:c.tables.getD n []=c.tables[n]:=by rw [List.getD_eq_getElem?_getD,List.getElem?_eq_getElem hn'];rfl
    have ht3:=(tabSound_ok (hc.tabs n _ (List.getElem?_eq_getElem hn'))).2.1
    have hsum1:((c.tables.take (n+1)).map lenT).sum=w+lenT c.tables[n]:=by
      rw [hw,List.take_add_one,List.getElem?_eq_getElem hn',List.map_append,List.sum_append]
      simp
    have hsum2:((c.tables.take (n+1)).map lenT).sum<=576:=by
      rw [List.map_take]
      exact Nat.le_trans (take_sum _) hN5
    have hat2:n=n0->t0<c.tables[n].length/\idN c n0 t0=w+((c.tables[n].take t0).map List.length).sum:=fun e=>by
      subst e
      have:=hat.tab
      rw [eT] at this
      exact ⟨this,by rw [idN,eT,hw]⟩
    have hlm:n≠n0->n<n0:=fun e=>by omega
    generalize c.tables[n]=t at hgT ht3 hsum1 hat2
    obtain ⟨lim,hlim,hlr⟩:∃lim,lim<=t.length/\((n<n0/\lim=t.length)\/(n=n0/\lim=t0/\t0<t.length)):=by
      by_cases e:n=n0
      · exact ⟨t0,by have:=(hat2 e).1;omega,.inr ⟨e,rfl,(hat2 e).1⟩⟩
      · exact ⟨t.length,Nat.le_refl _,.inl ⟨hlm e,rfl⟩⟩
    have lt:(t.map cRls).length=t.length:=List.length_map ..
    have hmt:lim<=9223372036854775807:=by omega
    refine jA ?_
    refine AW.loopL (ι:=Nat × Nat) (fun j=>[(4,.ro (cCf c)),(9,.sl (u.map cI)),(16,.ro (cRun r)),(17,.i .i64 (i:Nat)),(18,.ro (cHop ⟨n0,t0,ru,hdr⟩)),(19,.i .i64 ((ru+j.2:Nat):Int)),(20,.i .i64 (n:Nat)),(21,.i .i64 (j.1:Nat))]) (fun _=>[]) (fun j=>j.1<=lim/\j.2=w+((t.take j.1).map List.length).sum) (fun j=>lim - j.1) (0,w) ⟨Nat.zero_le _,rfl⟩ jV trivial fun j hj=>?_
    obtain ⟨k,y⟩:=j
    obtain ⟨hk,hy⟩:=hj
    simp only at hk hy
    refine jA ?_
    refine RG.opS rfl (op_index rfl (tab_ok ty_ok rfl) rfl (tab_ok ty_ok rfl) rfl rfl hgT rfl) rfl ?_
    by_cases hkl:k<lim
    · have hk':k<t.length:=by omega
      have hkt:(k:Int)<((t.map cRls).length:Nat):=by rw [lt];omega
      have hgt:(t.map cRls)[k]?=some (cRls t[k]):=by rw [List.getElem?_map,List.getElem?_eq_getElem hk'];rfl
      have hy1:((t.take (k+1)).map List.length).sum=((t.take k).map List.length).sum+t[k].length:=by
        rw [List.take_add_one,List.getElem?_eq_getElem hk',List.map_append,List.sum_append]
        simp
      have hy2:((t.take (k+1)).map List.length).sum<=lenT t:=by
        rw [List.map_take]
        exact take_sum _
      generalize t[k]=l at hgt hy1
      have ll:(l.map cRl).length=l.length:=List.length_map ..
      have hend:AV.i .i64 (IntKind.i64.wrap (((ru+y:Nat):Int)+(((l.map cRl).length:Nat):Int))) = .i .i64 ((ru+(y+l.length):Nat):Int):=by
        rw [ll,i64_sum (by omega),Nat.add_assoc]
      rcases hlr with ⟨e1,e2⟩ | ⟨e1,e2,_⟩
      · have q1:(n:Int)<(n0:Int):=by omega
        refine RG.runO ty_ok 0 [(166,.b true),(171,.b true)] 400 rfl jD ?_
        refine jB ?_;refine AW.condT rfl ?_;refine jA ?_
        refine RG.opS rfl (op_index rfl (tab_ok ty_ok rfl) rfl (tab_ok ty_ok rfl) rfl rfl hgT rfl) rfl ?_
        refine wH rfl ?_
        refine RG.opS rfl (op_index rfl (tab_ok ty_ok rfl) rfl (tab_ok ty_ok rfl) rfl rfl hgt rfl) rfl ?_
        refine wH rfl ?_;refine jA ?_
        exact ⟨(k+1,y+l.length),⟨⟨hkl,by rw [hy1,hy];omega⟩,by show lim - (k+1)<lim - k;omega⟩,⟨Rn.is rfl rfl,Rn.is rfl rfl,Rn.is rfl rfl,Rn.is rfl rfl,Rn.is rfl rfl,Rn.is hend rfl,Rn.is rfl rfl,Rn.is (i64_next hkl hmt) rfl,trivial⟩,trivial⟩
      · have q1:¬(n:Int)<(n0:Int):=by omega
        have q2:(k:Int)<(t0:Int):=by omega
        refine RG.runO ty_ok 0 [(166,.b true),(171,.b false),(176,.b true)] 400 rfl jD ?_
        refine jB ?_;refine AW.condT rfl ?_;refine jA ?_
        refine RG.opS rfl (op_index rfl (tab_ok ty_ok rfl) rfl (tab_ok ty_ok rfl) rfl rfl hgT rfl) rfl ?_
        refine wH rfl ?_
        refine RG.opS rfl (op_index rfl (tab_ok ty_ok rfl) rfl (tab_ok ty_ok rfl) rfl rfl hgt rfl) rfl ?_
        refine wH rfl ?_;refine jA ?_
        exact ⟨(k+1,y+l.length),⟨⟨hkl,by rw [hy1,hy];omega⟩,by show lim - (k+1)<lim - k;omega⟩,⟨Rn.is rfl rfl,Rn.is rfl rfl,Rn.is rfl rfl,Rn.is rfl rfl,Rn.is rfl rfl,Rn.is hend rfl,Rn.is rfl rfl,Rn.is (i64_next hkl hmt) rfl,trivial⟩,trivial⟩
    · obtain rfl:k=lim:=by omega
      rcases hlr with ⟨e1,e2⟩ | ⟨e1,e2,e3⟩
      · have hkt:¬(k:Int)<((t.map cRls).length:Nat):=by rw [lt];omega
        refine RG.runO ty_ok 0 [(166,.b false)] 400 rfl jD ?_
        refine jB ?_;refine AW.condF rfl ?_;refine jA ?_
        refine AW.exit ?_;refine Eq.mpr (if_pos rfl) ?_;refine jA ?_
        rw [e2,List.take_length] at hy
        exact ⟨(n+1,y),⟨.inl ⟨e1,by rw [hsum1,hy,lenT]⟩,by show n0+1 - (n+1)<n0+1 - n;omega⟩,⟨Rn.is rfl rfl,Rn.is rfl rfl,Rn.is rfl rfl,Rn.is rfl rfl,Rn.is rfl rfl,Rn.is rfl rfl,Rn.is (i64_next (show n<n0+1 by omega) hm0) rfl,trivial⟩,trivial⟩
      · have hkt:(k:Int)<((t.map cRls).length:Nat):=by rw [lt];omega
        have q1:¬(n:Int)<(n0:Int):=by omega
        have q2:¬(k:Int)<(t0:Int):=by omega
        refine RG.runO ty_ok 0 [(166,.b true),(171,.b false),(176,.b false)] 400 rfl jD ?_
        refine jB ?_;refine AW.condF rfl ?_;refine jA ?_
        refine AW.exit ?_;refine Eq.mpr (if_pos rfl) ?_;refine jA ?_
        rw [e2] at hy
        exact ⟨(n+1,y),⟨.inr ⟨by show n+1=n0+1;omega,by rw [(hat2 e1).2];exact hy⟩,by show n0+1 - (n+1)<n0+1 - n;omega⟩,⟨Rn.is rfl rfl,Rn.is rfl rfl,Rn.is rfl rfl,Rn.is rfl rfl,Rn.is rfl rfl,Rn.is rfl rfl,Rn.is (i64_next (show n<n0+1 by omega) hm0) rfl,trivial⟩,trivial⟩
  have h3:¬n<=n0:=by simpa using h3
  obtain ⟨hn1,hw⟩:n=n0+1/\w=idN c n0 t0:=by
    rcases hj with hj | hj
    · omega
    · exact hj
  rw [<- hw] at hid
  clear hj h3 hidl
  refine jA ?_
  refine AW.exit ?_;refine Eq.mpr (if_pos rfl) ?_;refine jA ?_
  have hany:u.any (fun z=>decide (z=((ru+w:Nat):Int)))=true:=List.any_eq_true.2 ⟨_,hid,decide_eq_true rfl⟩
  generalize hidn:((ru+w:Nat):Int)=idn at hany
  refine AW.loopL (ι:=Nat × Bool) (fun j=>[(4,.ro (cCf c)),(9,.sl (u.map cI)),(16,.ro (cRun r)),(17,.i .i64 (i:Nat)),(19,.i .i64 idn),(22,.b j.2),(23,.i .i64 (j.1:Nat))]) (fun _=>[]) (fun j=>j.1<=u.length/\(j.2 || (u.drop j.1).any (fun z=>decide (z=idn)))=true) (fun j=>u.length - j.1) (0,false) ⟨Nat.zero_le _,hany⟩ ⟨Rn.is rfl rfl,Rn.is rfl rfl,Rn.is rfl rfl,Rn.is rfl rfl,Rn.is rfl rfl,Rn.is rfl rfl,Rn.is rfl rfl,trivial⟩ trivial fun j hj=>?_
  clear hany hidn
  obtain ⟨k,th⟩:=j
  obtain ⟨hk,hf⟩:=hj
  simp only at hk hf
  refine jA ?_
  refine AW.cond rfl (fun h4=>?_) (fun h4=>?_)
  rotate_left
  · have h':¬k<u.length:=by simpa using h4
    obtain rfl:k=u.length:=by omega
    rw [List.drop_length,List.any_nil,Bool.or_false] at hf
    subst hf
    refine jA ?_
    refine AW.exit ?_;refine Eq.mpr (if_pos rfl) ?_;refine jA ?_
    refine AW.condF rfl ?_;refine jA ?_
    exact ⟨i+1,⟨hi',by omega⟩,jV,trivial⟩
  have hk':k<u.length:=by simpa using h4
  have hgu:(u.map cI)[k]?=some (cI u[k]):=by rw [List.getElem?_map,List.getElem?_eq_getElem hk'];rfl
  rw [List.drop_eq_getElem_cons hk',List.any_cons] at hf
  generalize u[k]=z at hgu hf
  cases th
  rotate_left
  · refine jA ?_
    exact ⟨(k+1,true),⟨⟨hk',rfl⟩,by show u.length - (k+1)<u.length - k;omega⟩,jV,trivial⟩
  rw [Bool.false_or] at hf
  by_cases e:z=idn
  · refine jA ?_
    refine RG.opS rfl (op_index rfl (tab_ok ty_ok rfl) rfl (tab_ok ty_ok rfl) rfl rfl hgu rfl) rfl ?_
    refine RG.runO ty_ok 0 [(205,.b true)] 400 rfl jD ?_
    refine jA ?_
    exact ⟨(k+1,true),⟨⟨hk',rfl⟩,by show u.length - (k+1)<u.length - k;omega⟩,jV,trivial⟩
  · rw [decide_eq_false e,Bool.false_or] at hf
    refine jA ?_
    refine RG.opS rfl (op_index rfl (tab_ok ty_ok rfl) rfl (tab_ok ty_ok rfl) rfl rfl hgu rfl) rfl ?_
    refine RG.runO ty_ok 0 [(205,.b false)] 400 rfl jD ?_
    refine jA ?_
    exact ⟨(k+1,false),⟨⟨hk',hf⟩,by show u.length - (k+1)<u.length - k;omega⟩,jV,trivial⟩
end Go.Proofs.YtoaibdbehlcnfaaGreat.Sm
end
section
namespace Go.Proofs.YtoaibdbehlcnfaaGreat
open Go.RowKit Go.WideShapes Go.ChangeShapes Go.Deep Sm
theorem ReachUsed_law {H:Type} {e:TypeId × Value->H} (W:World) (b0:Nat)
  (v0:Value) (d0:DataW H) (p0:List MemPlace) (ok0:Value.okWide Tryz.prog W .any b0 31 v0) (h0:DataW.Trod e Tryz.prog W 0 (fun _=>true) true 31 v0 d0 p0)
  (v1:Value) (d1:DataW H) (p1:List MemPlace) (ok1:Value.okWide Tryz.prog W .any b0 3 v1) (h1:DataW.Trod e Tryz.prog W 0 (fun _=>true) true 3 v1 d1 p1)
  (v2:Value) (d2:DataW H) (p2:List MemPlace) (ok2:Value.okWide Tryz.prog W .any b0 42 v2) (h2:DataW.Trod e Tryz.prog W 0 (fun _=>true) true 42 v2 d2 p2)
  (v3:Value) (d3:DataW H) (p3:List MemPlace) (ok3:Value.okWide Tryz.prog W .any b0 34 v3) (h3:DataW.Trod e Tryz.prog W 0 (fun _=>true) true 34 v3 d3 p3)
  (hsz:(DataW.weightsEach Tryz.prog [31,3,42,34] [d0,d1,d2,d3]).all (·<=reachBytes)=true)
  : Calls Tryz.prog 7 #[v0,v1,v2,v3] W fun e W'=>e = .returned (.bool true)/\Kp No W W':=by
 obtain ⟨a0,r0,q0⟩:=rz_Cf.arg_struct Tryz.underlying31 hsz 0 rfl rfl ok0 h0
 obtain ⟨a1,r1⟩:=ra_int.arg_int Tryz.underlying3 ok1 h1
 obtain ⟨a2,r2⟩:=ra_Sp.arg_struct Tryz.underlying42 ok2 h2
 obtain ⟨a3,r3⟩:=ra_Hd.arg_struct Tryz.underlying34 ok3 h3
 exact (ReachUsed_d a0 a1 a2 a3 q0).law (vs:=[v0,v1,v2,v3]) rfl (pw_cons r0 (pw_cons r1 (pw_cons r2 (pw_cons r3 (pw_nil)))))
end Go.Proofs.YtoaibdbehlcnfaaGreat
end
