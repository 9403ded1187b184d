/- Contracts of the program's functions over data, and the plain laws that they meet (part 7). No condition. -/
import Derived.Test.YtdidjpohnopihaaGreatVpf
import Derived.WalkKit
import Derived.WalkSpells
import Derived.WalkLawsBesides
import Derived.Lib.Hide
import Derived.Deep.RegionHeld3
import Derived.Maps.AppendAt
import Derived.KernelRfl
import Derived.Lib.AppendStr
import Derived.Orders
import Derived.LoopTactic
import Derived.Laws.CopyRow
import Derived.Laws.Cells
import Derived.OrdersIn
import Derived.Laws.Externs
import Derived.TacticsIn
import Derived.RangeFuncLeaves
import Derived.RangeFuncRecord
import Derived.Great.BuildSlice
import Derived.Laws.ResultCell
import Derived.Laws.StructEq
import Derived.Laws.MakeOwn
import Derived.Lib.AppendZerosOnto
import Derived.RangeFuncSeq
import Derived.RangeFuncIn
import Derived.Deep.Slices
import Derived.Deep.Fields
import Derived.ChangeSame
import Derived.ProofKit
import Derived.OpenShut
import Derived.SizedLaws
import Derived.Test.YtdidjpohnopihaaGreatProg
import Derived.Shelf.Spec.BitsCarry
import Derived.Laws.AppendOwn
import Derived.DeepKeys4
import Derived.MapKept
import Derived.Maps.Own
import Derived.Maps.OwnOps
import Derived.StillTailTactics
import Derived.Laws.OwnMore
import Derived.Sort.AssemblyPlain
import Derived.Sort.LotD4
import Derived.Sort.Walk13a
import Derived.Shelf.Sort.Plain
import Derived.Sort.OwnSortedInts
import Derived.Sort.LotA
import Derived.Sort.MapsRangeIn
import Derived.Maps.RangeWalk
import Derived.Laws.IdiomRangeMap
import Derived.Shelf.SlSortCmp.WholeK
import Derived.Ground.SlsfProg
import Derived.Ground.NamesProg
import Derived.Shelf.SlSortCmp.NoneTotal
set_option linter.unusedVariables false
set_option linter.unusedSimpArgs false
set_option maxRecDepth 100000
set_option maxHeartbeats 4000000
section
namespace Go.Proofs.YtdidjpohnopihaaGreat.Sm
open Go.RowKit
def dn (id:Int):List aH->List aH->List aH × Int
 | [],out=>(out,0)
 | a::l,out=>match out.findIdx? fun b=>decide (dR a.ids [id]=b.ids) with
  | none=>dn id l (out++[⟨dR a.ids [id],a.head,a.pile⟩])
  | some i=>bif decide ((bJ (out.getD i dC).pile a.pile).2=0) then dn id l (out.set i { out.getD i dC with pile:=(bJ (out.getD i dC).pile a.pile).1 }) else ([],(bJ (out.getD i dC).pile a.pile).2)
theorem zn (b a:aH) (h:a.ids.length<=1000000):ae Tryz.prog 162 [.agg (aB b),.ro (aB a)] (.b (decide (a.ids=b.ids))):=by
 refine jb Tryz.func162 ?_
 refine jA ?_
 refine RG.callS rfl rfl rfl rfl rfl (yU a.ids b.ids _ rfl h) rfl rfl ?_;refine jH ?_
 exact zS
theorem xW (l:List aH) (id:Int) (hA:∀a∈l,aj a.pile=true/\0<a.pile.length/\a.ids.Pairwise (· < ·)/\a.ids.length<=1000) (hl:l.length<=600):ae Tryz.prog 116 [.sl (l.map aB),.i .i64 id] (qr (dn id l [])):=by
 have h1:(l.any fun a=>!aj a.pile) = !true:=by
  rw [Bool.not_true,List.any_eq_false]
  intro a ha
  rw [(hA a ha).1]
  decide
 have hm:l.length<=9223372036854775807:=by omega
 refine jb Tryz.func116 ?_
 refine jA ?_
 refine jc (rc l true h1) ?_;refine jH ?_
 refine AW.condF rfl ?_;refine jB ?_
 refine AW.text ?_
 refine RG.opS rfl (cv 6 75 4 rfl) rfl ?_
 refine jH ?_
 refine AW.loopL (ι:=Nat × List aH) (fun x=>[(1,.i .i64 id),(6,.row 6 0 0 (x.2.map aB).length),(14,.sl (l.map aB)),(15,.i .i64 (l.map aB).length),(16,.i .i64 (x.1:Nat))]) (fun x=>[(6,⟨0,some (.row 75 4 (x.2.map aB))⟩)]) (fun x=>x.1<=l.length/\x.2.length<=x.1/\dn id (l.drop x.1) x.2=dn id l []) (fun x=>l.length - x.1) (0,[]) ⟨qR _,qJ _,rfl⟩ jW jW fun x hx=>?_
 obtain ⟨k,out⟩:=x
 obtain ⟨hk,ho,hf⟩:=hx
 simp only at hk ho hf
 refine jA ?_
 refine AW.cond rfl (fun h0=>?_) (fun h0=>?_)
 ·have h:k<l.length:=by simpa using h0
  rw [qV h,dn] at hf
  have ha:=hA l[k] (vS h)
  have hx:(l.map aB)[k]?=some (aB l[k]):=by rw [qE,qA h];rfl
  generalize l[k]=a at hf ha hx
  have hL:=CK a.ids [id] ha.2.2.1 (List.pairwise_singleton _ _) (by have:=ha.2.2.2;omega) (by simp)
  refine jA ?_
  refine jx hx ?_
  refine jH ?_
  obtain ⟨J,hJ⟩:∃J,J=dR a.ids [id]:=⟨_,rfl⟩
  rw [<- hJ] at hL hf
  have hJl:J.length<=1000000:=by
   rw [hJ]
   exact vJ (List.length_filter_le _ _) (by have:=ha.2.2.2;omega)
  refine jm hL ?_;refine jH ?_
  have hI:=fR 162 (aB ⟨J,a.head,a.pile⟩) (fun b=>decide (J=b.ids)) out (fun b _=>zn b ⟨J,a.head,a.pile⟩ hJl)
  rw [pP] at hI
  have hpl:=cg ha.1
  cases hfi:out.findIdx? fun b=>decide (J=b.ids) with
  | none =>
   rw [hfi] at hI hf
   simp only at hI hf
   refine RG.callS rfl rfl rfl rfl (congrArg (fun x=>[x,_]) (bq rfl)) hI rfl rfl ?_
   refine jH ?_
   refine zT ?_
   refine RG.callMS rfl rfl rfl rfl rfl rfl (mK a.pile (by omega)) rfl ?_;refine jH ?_
   refine jm (eV a.pile) ?_;refine jH ?_
   refine RG.opS rfl (co aB out (⟨J,a.head,a.pile⟩:aH) (by omega) rfl rfl rfl rfl (tk rfl) rfl (tk rfl) rfl rfl ⟨_,rfl,rfl⟩ rfl rfl) rfl ?_;refine jH ?_
   refine jE ?_;refine jA ?_
   exact ⟨(k+1,_),⟨⟨h,by rw [qK];show out.length+1<=k+1;omega,hf⟩,by show l.length - (k+1)<l.length - k;omega⟩,⟨rI rfl rfl,rR rfl rfl rfl,rI rfl rfl,rI rfl rfl,rI (au h hm) rfl,trivial⟩,jW⟩
  | some i =>
   rw [hfi] at hI hf
   simp only [vN] at hI hf
   obtain ⟨hio,_⟩:=List.findIdx?_eq_some_iff_getElem.1 hfi
   have hgd:out.getD i dC=out[i]:=by rw [qM,qA hio];rfl
   rw [hgd] at hf
   have hb:(out.map aB)[i]?=some (aB out[i]):=by rw [qE,qA hio];rfl
   have hst:∀p:List Cb,(out.map aB).set i (ovw (aB out[i]) 3 [.sl (p.map cCb)])=(out.set i { out[i] with pile:=p }).map aB:=fun p=>by
    rw [List.map_set]
    rfl
   generalize out[i]=b at hf hb hst
   have hJn:=Dv b.pile a.pile (by have:=ha.2.1;rw [qK];omega)
   generalize bJ b.pile a.pile=R at hf hJn
   obtain ⟨rp,re⟩:=R
   simp only at hf
   refine RG.callS rfl rfl rfl rfl (congrArg (fun x=>[x,_]) (bq rfl)) hI rfl rfl ?_
   refine jH ?_
   refine AW.cond rfl (fun h2=>?_) (fun _=>?_)
   ·have:((i:Nat):Int)<0:=of_decide_eq_true h2
    omega
   refine jB ?_
   refine wF ?_;refine wH rfl ?_;refine jB ?_
   refine AW.draws aN ?_
   refine wH rfl ?_
   refine RG.opS rfl (gk i aB out (by rw [qH];exact hio) rfl (tk rfl) rfl (tk rfl) rfl rfl rfl) rfl ?_
   refine RG.opS rfl (gh rfl (tk rfl) rfl rfl (tk rfl) rfl (.el rfl hb) rfl) rfl ?_
   refine RG.opS rfl (j8 rfl (tk rfl) (.el rfl hb) rfl) rfl ?_
   refine wH rfl ?_
   refine jm hJn ?_
   refine wH rfl ?_
   refine RG.opS rfl (gk i aB out (by rw [qH];exact hio) rfl (tk rfl) rfl (tk rfl) rfl rfl rfl) rfl ?_
   refine RG.opS rfl (gh rfl (tk rfl) rfl rfl (tk rfl) rfl (.el rfl hb) rfl) rfl ?_
   refine RG.opS rfl (o5 (k:=i) (j:=3) (cs:=aB b) (ns:=[.sl (rp.map cCb)]) rfl (tk rfl) rfl rfl hb rfl rfl rfl rfl (qU (by rfl))) rfl ?_
   refine jH ?_
   by_cases hre:re=0
   ·subst hre
    rw [qF rfl,cond_true] at hf
    refine zF ?_
    have hrow:(⟨0,some (.row 75 4 ((out.map aB).set i (ovw (aB b) 3 [.sl (rp.map cCb)])))⟩:SB)=⟨0,some (.row 75 4 ((out.set i { b with pile:=rp }).map aB))⟩:=by rw [hst]
    have hlen:(out.map aB).length=((out.set i { b with pile:=rp }).map aB).length:=by rw [qH,qH,vF]
    exact ⟨(k+1,_),⟨⟨h,by rw [vF];show out.length<=k+1;omega,hf⟩,by show l.length - (k+1)<l.length - k;omega⟩,⟨rI rfl rfl,Rn.rowIs (congrArg (AV.row 6 0 0) hlen) (Eq.trans rfl hrow) rfl,rI rfl rfl,rI rfl rfl,rI (au h hm) rfl,trivial⟩,⟨.row (Eq.trans rfl hrow) rfl,trivial⟩⟩
   ·rw [qC hre,cond_false] at hf
    refine AW.cond rfl (fun _=>?_) (fun h2=>?_)
    rotate_left
    ·exact absurd (by simpa using h2) hre
    refine zR ?_
    rw [<- hf]
    rfl
 ·have h:¬k<l.length:=by simpa using h0
  obtain rfl:k=l.length:=by omega
  rw [vI,dn] at hf
  refine zE ?_
  refine RG.callMS rfl rfl rfl rfl (congrArg (fun x=>[x]) (bq rfl)) rfl (iu out) rfl ?_;refine jH ?_
  refine jR ?_
  rw [<- hf]
  rfl
structure AtQ (es:List CE) (a:aH):Prop where
 pile:aj a.pile=true
 head:av a.pile a.head=true
 up:a.ids.Pairwise (· < ·)
 ids:∀i∈a.ids,∃e∈es,e.2.1=i
 at_:∀h,av a.pile h=true->∀e∈es,(e.2.1∈a.ids↔e.1.has h=true)
structure gi (es:List CE) (l:List aH):Prop where
 all:∀h,∃a∈l,av a.pile h=true
 one:∀h,∀a∈l,∀b∈l,av a.pile h=true->av b.pile h=true->a=b
 ok:∀a∈l,AtQ es a
 dist:(l.map aH.ids).Nodup
 len:l.length<=600
theorem AtQ.pos {es:List CE} {a:aH} (h:AtQ es a):0<a.pile.length:=by
 obtain ⟨x,hx,_⟩:=bQ.1 h.head
 exact List.length_pos_of_mem hx
theorem AtQ.len {es:List CE} {a:aH} (h:AtQ es a):a.ids.length<=es.length:=by
 have:=eA (l:=a.ids) (m:=es.map (·.2.1)) (h.up.imp fun h=>Int.ne_of_lt h) fun i hi=>by
  obtain ⟨e,he,rfl⟩:=h.ids i hi
  exact qX he
 rwa [qH] at this
structure ix (es:List CE) (clk:Nat) (next:Int):Prop where
 up:(es.map (·.2.1)).Pairwise (· < ·)
 lt:∀e∈es,0<=e.2.1/\e.2.1<next
 born:(es.map (·.2.2)).Pairwise (· < ·)
 old:∀e∈es,e.2.2<clk
 keys:(es.map (·.1)).Nodup
 sound:∀e∈es,e.1.sound=true
theorem yk {es:List CE} (hu:(es.map (·.2.1)).Pairwise (· < ·)) {a b:CE} (ha:a∈es) (hb:b∈es) (h:a.2.1=b.2.1):a=b:=by
 induction es with
 | nil=>cases ha
 | cons x l ih =>
  rw [vE,List.pairwise_cons] at hu
  rcases vA.1 ha with rfl | ha' <;> rcases vA.1 hb with rfl | hb'
  ·rfl
  ·have:=hu.1 _ (qX hb');omega
  ·have:=hu.1 _ (qX ha');omega
  ·exact ih hu.2 ha' hb'
theorem eK {α β:Type} {R:β->β->Prop} (f:α->β) (p:α->Bool) {l:List α} (h:(l.map f).Pairwise R):((l.filter p).map f).Pairwise R :=
 h.sublist ((List.filter_sublist).map f)
theorem ix.filter {es:List CE} {clk:Nat} {next:Int} (h:ix es clk next) (p:CE->Bool):ix (es.filter p) clk next :=
 ⟨eK _ p h.up,fun e he=>h.lt e (List.mem_filter.1 he).1,eK _ p h.born,fun e he=>h.old e (List.mem_filter.1 he).1,eK _ p h.keys,fun e he=>h.sound e (List.mem_filter.1 he).1⟩
theorem ix.more {es:List CE} {clk:Nat} {next:Int} (h:ix es clk next) (hn:0<=next) {c:Cb} (hc:c.sound=true) (hk:jC es c=false):ix (es++[(c,next,clk)]) (clk+1) (next+1):=by
 have hk':∀e∈es,e.1≠c:=fun e he hh=>by
  have:=cH.2 ⟨e,he,hh⟩
  rw [hk] at this
  cases this
 refine ⟨?_,fun e he=>?_,?_,fun e he=>?_,?_,fun e he=>?_⟩
 ·rw [uA,List.pairwise_append]
  refine ⟨h.up,List.pairwise_singleton _ _,fun x hx y hy=>?_⟩
  obtain ⟨e,he,rfl⟩:=vH.1 hx
  rw [qO.1 hy]
  exact (h.lt e he).2
 ·rcases vB.1 he with he | he
  ·have:=h.lt e he;omega
  ·rw [qO.1 he];show 0<=next/\next<next+1;omega
 ·rw [uA,List.pairwise_append]
  refine ⟨h.born,List.pairwise_singleton _ _,fun x hx y hy=>?_⟩
  obtain ⟨e,he,rfl⟩:=vH.1 hx
  rw [qO.1 hy]
  exact h.old e he
 ·rcases vB.1 he with he | he
  ·have:=h.old e he;omega
  ·rw [qO.1 he];exact Nat.lt_succ_self _
 ·rw [uA,uO]
  refine ⟨h.keys,by simp,fun x hx y hy=>?_⟩
  obtain ⟨e,he,rfl⟩:=vH.1 hx
  rw [qO.1 hy]
  exact hk' e he
 ·rcases vB.1 he with he | he
  ·exact h.sound e he
  ·rw [qO.1 he];exact hc
theorem rL {p q:List Cb} (hp:aj p=true) (hq:aj q=true):((bJ p q).2=0\/bJ p q=([],10))/\((bJ p q).2=0->aj (bJ p q).1=true/\∀h,av (bJ p q).1 h=(av p h || av q h)):=by
 rw [bJ,hp,hq,uY,cond_true]
 refine ⟨?_,fun e=>⟨gX,fun h=>?_⟩⟩
 ·by_cases e:(cz (p++q)).2=0
  ·exact .inl e
  ·exact .inr (iU e)
 ·rw [(fV e).1]
  show av (cP _) h=_
  rw [lf,av,List.any_append]
  rfl
structure CoQ (id:Int) (done out:List aH):Prop where
 dist:(out.map aH.ids).Nodup
 snd:∀b∈out,aj b.pile=true/\av b.pile b.head=true
 has:∀b∈out,∀h,av b.pile h=true↔∃a∈done,dR a.ids [id]=b.ids/\av a.pile h=true
 from_:∀b∈out,∃a∈done,dR a.ids [id]=b.ids
 to_:∀a∈done,∃b∈out,dR a.ids [id]=b.ids
 len:out.length<=done.length
theorem nQ {id:Int}:∀(l done out:List aH),(∀a∈l,aj a.pile=true/\av a.pile a.head=true)->CoQ id done out->((dn id l out).2=0\/dn id l out=([],10))/\((dn id l out).2=0->CoQ id (done++l) (dn id l out).1)
 | [],done,out,hl,hC=>⟨.inl rfl,fun _=>by rw [vZ];exact hC⟩
 | a::l,done,out,hl,hC=>by
  obtain ⟨ha1,ha2⟩:=hl a vD
  have hl':∀a∈l,aj a.pile=true/\av a.pile a.head=true:=fun x hx=>hl x (qZ _ hx)
  have happ:done++a::l=(done++[a])++l:=by simp
  rw [dn,happ]
  cases hf:out.findIdx? fun b=>decide (dR a.ids [id]=b.ids) with
  | none =>
   have hno:∀b∈out,dR a.ids [id]≠b.ids:=fun b hb=>by
    have:=List.findIdx?_eq_none_iff.1 hf b hb
    simpa using this
   refine nQ l _ _ hl' ⟨?_,fun b hb=>?_,fun b hb h=>?_,fun b hb=>?_,fun x hx=>?_,by rw [qK,qK];have:=hC.len;simp;omega⟩
   ·rw [uA,uO]
    refine ⟨hC.dist,by simp,fun x hx y hy=>?_⟩
    obtain ⟨b,hb,rfl⟩:=vH.1 hx
    rw [qO.1 hy]
    exact fun e=>hno b hb e.symm
   ·rcases vB.1 hb with hb | hb
    ·exact hC.snd b hb
    ·rw [qO.1 hb];exact ⟨ha1,ha2⟩
   ·rcases vB.1 hb with hb | hb
    ·rw [hC.has b hb]
     constructor
     ·rintro ⟨x,hx,h1,h2⟩
      exact ⟨x,vP _ hx,h1,h2⟩
     ·rintro ⟨x,hx,h1,h2⟩
      rcases vB.1 hx with hx | hx
      ·exact ⟨x,hx,h1,h2⟩
      ·rw [qO.1 hx] at h1
       exact absurd h1 (hno b hb)
    ·rw [qO.1 hb]
     constructor
     ·intro h2
      exact ⟨a,List.mem_append_right _ (qO.2 rfl),rfl,h2⟩
     ·rintro ⟨x,hx,h1,h2⟩
      rcases vB.1 hx with hx | hx
      ·obtain ⟨b',hb',h3⟩:=hC.to_ x hx
       exact absurd (h1.symm.trans h3) (hno b' hb')
      ·rw [qO.1 hx] at h2
       exact h2
   ·rcases vB.1 hb with hb | hb
    ·obtain ⟨x,hx,h1⟩:=hC.from_ b hb
     exact ⟨x,vP _ hx,h1⟩
    ·rw [qO.1 hb]
     exact ⟨a,List.mem_append_right _ (qO.2 rfl),rfl⟩
   ·rcases vB.1 hx with hx | hx
    ·obtain ⟨b,hb,h1⟩:=hC.to_ x hx
     exact ⟨b,vP _ hb,h1⟩
    ·rw [qO.1 hx]
     exact ⟨_,List.mem_append_right _ (qO.2 rfl),rfl⟩
  | some i =>
   obtain ⟨hi,hd,_⟩:=List.findIdx?_eq_some_iff_getElem.1 hf
   have hid:dR a.ids [id]=out[i].ids:=by simpa using hd
   have hg:out.getD i dC=out[i]:=by rw [qM,qA hi];rfl
   have hmem:=vS hi
   obtain ⟨hs1,hs2⟩:=hC.snd _ hmem
   obtain ⟨j1,j2⟩:=rL hs1 ha1
   simp only [hg]
   rcases j1 with e | e
   ·rw [qF e,cond_true]
    obtain ⟨k1,k2⟩:=j2 e
    obtain ⟨nb,hnb⟩:∃nb:aH,nb = { out[i] with pile:=(bJ out[i].pile a.pile).1 }:=⟨_,rfl⟩
    rw [<- hnb]
    have n1:nb.ids=out[i].ids:=by rw [hnb]
    have n2:nb.head=out[i].head:=by rw [hnb]
    have n3:nb.pile=(bJ out[i].pile a.pile).1:=by rw [hnb]
    have hms:∀b,b∈out.set i nb↔b=nb\/(b∈out/\b.ids≠out[i].ids):=by
     intro b
     constructor
     ·intro h
      obtain ⟨j,hj,e⟩:=List.mem_iff_getElem.1 h
      rw [List.getElem_set] at e
      split at e
      ·exact .inl e.symm
      ·rename_i hne
       rw [vF] at hj
       refine .inr ⟨e ▸ vS hj,fun h'=>hne ?_⟩
       have h5:(out.map aH.ids)[i]'(by simpa using hi)=(out.map aH.ids)[j]'(by simpa using hj):=by simp [e,h']
       have hp:=List.pairwise_iff_getElem.1 hC.dist
       rcases Nat.lt_trichotomy i j with h6 | h6 | h6
       ·exact absurd h5 (hp i j _ _ h6)
       ·exact h6
       ·exact absurd h5.symm (hp j i _ _ h6)
     ·rintro (rfl | ⟨h,hne⟩)
      ·exact List.mem_iff_getElem.2 ⟨i,by simpa using hi,by simp⟩
      ·obtain ⟨j,hj,rfl⟩:=List.mem_iff_getElem.1 h
       have hij:i≠j:=fun e=>hne (by simp [e])
       exact List.mem_iff_getElem.2 ⟨j,by simpa using hj,by rw [List.getElem_set_ne hij]⟩
    have hmap:(out.set i nb).map aH.ids=out.map aH.ids:=by
     rw [List.map_set,n1]
     have:out[i].ids=(out.map aH.ids)[i]'(by simpa using hi):=by simp
     rw [this,List.set_getElem_self]
    refine nQ l _ _ hl' ⟨by rw [hmap];exact hC.dist,fun b hb=>?_,fun b hb h=>?_,fun b hb=>?_,fun x hx=>?_,by rw [vF,qK];have:=hC.len;omega⟩
    ·rcases (hms b).1 hb with rfl | ⟨hb,_⟩
     ·rw [n3,n2]
      exact ⟨k1,by rw [k2,hs2];rfl⟩
     ·exact hC.snd b hb
    ·rcases (hms b).1 hb with rfl | ⟨hb,hne⟩
     ·rw [n3,n1,k2,Bool.or_eq_true,hC.has _ hmem]
      constructor
      ·rintro (⟨x,hx,h1,h2⟩ | h2)
       ·exact ⟨x,vP _ hx,h1,h2⟩
       ·exact ⟨a,List.mem_append_right _ (qO.2 rfl),hid,h2⟩
      ·rintro ⟨x,hx,h1,h2⟩
       rcases vB.1 hx with hx | hx
       ·exact .inl ⟨x,hx,h1,h2⟩
       ·rw [qO.1 hx] at h2
        exact .inr h2
     ·rw [hC.has b hb]
      constructor
      ·rintro ⟨x,hx,h1,h2⟩
       exact ⟨x,vP _ hx,h1,h2⟩
      ·rintro ⟨x,hx,h1,h2⟩
       rcases vB.1 hx with hx | hx
       ·exact ⟨x,hx,h1,h2⟩
       ·rw [qO.1 hx,hid] at h1
        exact absurd h1.symm hne
    ·rcases (hms b).1 hb with rfl | ⟨hb,hne⟩
     ·exact ⟨a,List.mem_append_right _ (qO.2 rfl),by rw [n1];exact hid⟩
     ·obtain ⟨x,hx,h1⟩:=hC.from_ b hb
      exact ⟨x,vP _ hx,h1⟩
    ·have hnm:nb∈out.set i nb:=(hms nb).2 (.inl rfl)
     rcases vB.1 hx with hx | hx
     ·obtain ⟨b,hb,h1⟩:=hC.to_ x hx
      by_cases hne:b.ids=out[i].ids
      ·exact ⟨nb,hnm,by rw [n1,h1,hne]⟩
      ·exact ⟨b,(hms b).2 (.inr ⟨hb,hne⟩),h1⟩
     ·rw [qO.1 hx]
      exact ⟨nb,hnm,by rw [n1];exact hid⟩
   ·rw [e]
    exact ⟨.inr rfl,fun h=>by cases h⟩
theorem mm {α β:Type} {f:α->β} {l:List α} (hn:(l.map f).Nodup) {a b:α} (ha:a∈l) (hb:b∈l) (h:f a=f b):a=b:=by
 induction l with
 | nil=>cases ha
 | cons x l ih =>
  rw [vE,vU] at hn
  rcases vA.1 ha with rfl | ha' <;> rcases vA.1 hb with rfl | hb'
  ·rfl
  ·exact absurd (vH.2 ⟨b,hb',h.symm⟩) hn.1
  ·exact absurd (vH.2 ⟨a,ha',h⟩) hn.1
  ·exact ih hn.2 ha' hb'
theorem o7 {a:List Int} {i id:Int}:i∈dR a [id]↔i∈a/\i≠id:=by simp [dR]
theorem tU {id:Int}:CoQ id [] []:=⟨List.nodup_nil,fun b hb=>(by cases hb),fun b hb=>(by cases hb),fun b hb=>(by cases hb),fun a ha=>(by cases ha),qJ _⟩
theorem nc {es:List CE} {clk:Nat} {next:Int} {l:List aH} {e0:CE} (hE:ix es clk next) (hP:gi es l) (he:e0∈es):((dn e0.2.1 l []).2=0\/dn e0.2.1 l []=([],10))/\((dn e0.2.1 l []).2=0->gi (es.filter fun e=>!decide (e.1=e0.1)) (dn e0.2.1 l []).1):=by
 obtain ⟨g1,g2⟩:=nQ (id:=e0.2.1) l [] [] (fun a ha=>⟨(hP.ok a ha).pile,(hP.ok a ha).head⟩) tU
 refine ⟨g1,fun h0=>?_⟩
 have C:=g2 h0
 rw [uT] at C
 generalize (dn e0.2.1 l []).1=out at C
 have hne:∀e∈es,e.1≠e0.1->e.2.1≠e0.2.1:=fun e h1 h2 h3=>h2 (congrArg (·.1) (yk hE.up h1 he h3))
 refine ⟨fun h=>?_,fun h b hb b' hb' h1 h2=>?_,fun b hb=>⟨(C.snd b hb).1,(C.snd b hb).2,?_,fun i hi=>?_,fun h hh e he'=>?_⟩,C.dist,vJ C.len hP.len⟩
 ·obtain ⟨a,ha,hh⟩:=hP.all h
  obtain ⟨b,hb,h1⟩:=C.to_ a ha
  exact ⟨b,hb,(C.has b hb h).2 ⟨a,ha,h1,hh⟩⟩
 ·obtain ⟨a,ha,e1,hh⟩:=(C.has b hb h).1 h1
  obtain ⟨a',ha',e2,hh'⟩:=(C.has b' hb' h).1 h2
  obtain rfl:=hP.one h a ha a' ha' hh hh'
  exact mm C.dist hb hb' (e1.symm.trans e2)
 ·obtain ⟨a,ha,h1⟩:=C.from_ b hb
  rw [<- h1]
  exact y5 (hP.ok a ha).up
 ·obtain ⟨a,ha,h1⟩:=C.from_ b hb
  rw [<- h1,o7] at hi
  obtain ⟨e,h2,h3⟩:=(hP.ok a ha).ids i hi.1
  refine ⟨e,List.mem_filter.2 ⟨h2,?_⟩,h3⟩
  have:e.1≠e0.1:=fun h4=>hi.2 (by rw [<- h3,mm hE.keys h2 he h4])
  simpa using this
 ·obtain ⟨a,ha,h1,h2⟩:=(C.has b hb h).1 hh
  obtain ⟨h3,h4⟩:=List.mem_filter.1 he'
  have h4:e.1≠e0.1:=by simpa using h4
  rw [<- h1,o7,<- (hP.ok a ha).at_ h h2 e h3]
  exact ⟨fun h=>h.1,fun h=>⟨h,hne e h3 h4⟩⟩
theorem ol {a:aH} {id:Int} {c:Cb} {x:aH} (hx:x∈(br a id c).1):x.ids=a.ids++[id]\/x.ids=a.ids:=by
 rw [br] at hx
 by_cases e1:(aQ a.pile [c]).2=0
 ·by_cases e2:(aI a.pile [c]).2=0
  ·rw [qF e1,qF e2,cond_true,cond_true] at hx
   rcases vB.1 hx with hx | hx
   ·revert hx
    generalize (aQ a.pile [c]).1=p
    intro hx
    cases p with
    | nil=>cases hx
    | cons y p=>rw [qO.1 hx];exact .inl rfl
   ·revert hx
    generalize (aI a.pile [c]).1=p
    intro hx
    cases p with
    | nil=>cases hx
    | cons y p=>rw [qO.1 hx];exact .inr rfl
  ·rw [qF e1,qC e2,cond_true,cond_false] at hx
   cases hx
 ·rw [qC e1,cond_false] at hx
  cases hx
theorem ri {a:aH} {id:Int} {c:Cb} (hi:id∉a.ids):((br a id c).1.map aH.ids).Nodup:=by
 rw [br]
 by_cases e1:(aQ a.pile [c]).2=0
 ·by_cases e2:(aI a.pile [c]).2=0
  ·rw [qF e1,qF e2,cond_true,cond_true]
   generalize (aQ a.pile [c]).1=p
   generalize (aI a.pile [c]).1=q
   have hne:a.ids++[id]≠a.ids:=fun h=>hi (by rw [<- h];simp)
   cases p <;> cases q <;> simp [mD,fC,hne]
  ·rw [qF e1,qC e2,cond_true,cond_false]
   exact List.nodup_nil
 ·rw [qC e1,cond_false]
  exact List.nodup_nil
theorem oa {id:Int} {c:Cb}:∀(l out:List aH),(aT id c l out).2=0->(aT id c l out).1=out++(l.map fun a=>(br a id c).1).flatten
 | [],out,h=>by
  rw [aT] at h ⊢
  by_cases e:out.length>600
  ·rw [qF e] at h
   cases h
  ·rw [qC e,cond_false]
   simp
 | a::l,out,h=>by
  rw [aT] at h ⊢
  by_cases e:(br a id c).2=0
  ·rw [qF e,cond_true] at h ⊢
   rw [oa l _ h]
   simp
  ·rw [qC e,cond_false] at h
   exact absurd h e
theorem nE {id:Int} {c:Cb}:∀(l:List aH),(l.map aH.ids).Nodup->(∀a∈l,id∉a.ids)->(((l.map fun a=>(br a id c).1).flatten).map aH.ids).Nodup
 | [],_,_=>by simp
 | a::l,hn,hi=>by
  rw [vE,vU] at hn
  rw [vE,uL,uA,uO]
  refine ⟨ri (hi a vD),nE l hn.2 fun b hb=>hi b (qZ _ hb),fun x hx y hy=>?_⟩
  obtain ⟨u,hu,rfl⟩:=vH.1 hx
  obtain ⟨v,hv,rfl⟩:=vH.1 hy
  obtain ⟨L,hL,hv⟩:=uN.1 hv
  obtain ⟨b,hb,rfl⟩:=vH.1 hL
  have hab:a.ids≠b.ids:=fun h=>hn.1 (vH.2 ⟨b,hb,h.symm⟩)
  have ia:=hi a vD
  have ib:=hi b (qZ _ hb)
  rcases ol hu with e1 | e1 <;> rcases ol hv with e2 | e2 <;> rw [e1,e2]
  ·exact fun h=>hab (List.append_inj_left' h rfl)
  ·exact fun h=>ib (by rw [<- h];simp)
  ·exact fun h=>ia (by rw [h];simp)
  ·exact hab
theorem kX {es:List CE} {clk n:Nat} {l:List aH} {c:Cb} (hE:ix es clk n) (hP:gi es l) (hc:c.sound=true) (hk:jC es c=false):((dm l n c).2=0\/dm l n c=([],10)\/dm l n c=([],11))/\((dm l n c).2=0->gi (es++[(c,(n:Int),clk)]) (dm l n c).1):=by
 unfold dm
 obtain ⟨g1,g2⟩:=iZ (id:=(n:Int)) hc l [] fun a ha=>(hP.ok a ha).pile
 refine ⟨g1,fun h0=>?_⟩
 obtain ⟨k1,k2,k3,k4⟩:=g2 h0
 have hE':=hE.more (by omega) hc hk
 have hm:∀x∈(aT (n:Int) c l []).1,∃a∈l,(br a n c).2=0/\x∈(br a n c).1:=fun x hx=>(k2 x hx).elim (fun h=>by cases h) id
 have hni:∀a∈l,(n:Int)∉a.ids:=fun a ha h=>by
  obtain ⟨e,he,h1⟩:=(hP.ok a ha).ids _ h
  have:=(hE.lt e he).2
  omega
 have hd:(((aT (n:Int) c l []).1).map aH.ids).Nodup:=by
  rw [oa l [] h0,uT]
  exact nE l hP.dist hni
 refine ⟨fun h=>?_,fun h x hx y hy hx' hy'=>?_,fun x hx=>?_,hd,k1⟩
 ·obtain ⟨a,ha,hh⟩:=hP.all h
  obtain ⟨x,hx,hh⟩:=ox (k4 a ha).1 (hP.ok a ha).pile hc hh
  exact ⟨x,(k4 a ha).2 x hx,hh⟩
 ·obtain ⟨a,ha,h0,h1⟩:=hm x hx
  obtain ⟨b,hb,h0',h2⟩:=hm y hy
  obtain ⟨_,_,p⟩:=dZ h0 (hP.ok a ha).pile hc h1
  obtain ⟨_,_,q⟩:=dZ h0' (hP.ok b hb).pile hc h2
  have hab:a=b:=hP.one h a ha b hb
   (by rcases p with ⟨_,p⟩ | ⟨_,p⟩ <;> (rw [p,qQ] at hx';exact hx'.1))
   (by rcases q with ⟨_,q⟩ | ⟨_,q⟩ <;> (rw [q,qQ] at hy';exact hy'.1))
  subst hab
  refine mm hd hx hy ?_
  rcases p with ⟨e1,p⟩ | ⟨e1,p⟩ <;> rcases q with ⟨e2,q⟩ | ⟨e2,q⟩ <;> rw [e1,e2]
  ·rw [p,qQ] at hx'
   rw [q,qQ,hx'.2] at hy'
   exact absurd hy'.2 (by decide)
  ·rw [p,qQ] at hx'
   rw [q,qQ] at hy'
   rw [hy'.2] at hx'
   exact absurd hx'.2 (by decide)
 ·obtain ⟨a,ha,h0,h1⟩:=hm x hx
  have hA:=hP.ok a ha
  obtain ⟨h2,h3,q⟩:=dZ h0 hA.pile hc h1
  have hlt:∀i∈a.ids,i<(n:Int):=fun i hi=>by
   obtain ⟨e,he,rfl⟩:=hA.ids i hi
   exact (hE.lt e he).2
  refine ⟨h2,h3,?_,fun i hi=>?_,fun h hh e he=>?_⟩
  ·rcases q with ⟨q,_⟩ | ⟨q,_⟩
   ·rw [q,List.pairwise_append]
    exact ⟨hA.up,List.pairwise_singleton _ _,fun x hx y hy=>by rw [qO.1 hy];exact hlt x hx⟩
   ·rw [q];exact hA.up
  ·have : i ∈ a.ids \/ i = n := by
    rcases q with ⟨q,_⟩ | ⟨q,_⟩
    ·rw [q] at hi;simpa using hi
    ·rw [q] at hi;exact .inl hi
   rcases this with h4 | h4
   ·obtain ⟨e,he,h5⟩:=hA.ids i h4
    exact ⟨e,vP _ he,h5⟩
   ·exact ⟨_,List.mem_append_right _ (qO.2 rfl),h4.symm⟩
  ·rcases vB.1 he with he | he
   ·have hne:e.2.1≠(n:Int):=by have:=(hE.lt e he).2;omega
    rcases q with ⟨q1,q2⟩ | ⟨q1,q2⟩
    ·rw [q2,qQ] at hh
     rw [q1,<- hA.at_ h hh.1 e he]
     simp [hne]
    ·rw [q2,qQ] at hh
     rw [q1,<- hA.at_ h hh.1 e he]
   ·rw [qO.1 he]
    show (n:Int)∈x.ids↔c.has h=true
    rcases q with ⟨q1,q2⟩ | ⟨q1,q2⟩
    ·rw [q2,qQ] at hh
     rw [q1]
     simp [hh.2]
    ·rw [q2,qQ] at hh
     rw [q1]
     have:c.has h=false:=by simpa using hh.2
     rw [this]
     simp [hni a ha]
theorem BP:gi [] [dC]:=by
 have h:∀h,av dC.pile h=true:=fun h=>by simp [dC,av,Cb.has_zero]
 refine ⟨fun g=>⟨dC,qO.2 rfl,h g⟩,fun g a ha b hb _ _=>by rw [qO.1 ha,qO.1 hb],fun a ha=>?_,by simp,by decide⟩
 rw [qO.1 ha]
 exact ⟨by decide,h _,List.Pairwise.nil,fun i hi=>(by cases hi),fun g _ e he=>by cases he⟩
theorem Gg:ix [] 0 ((0:Nat):Int):=⟨List.Pairwise.nil,fun e he=>(by cases he),List.Pairwise.nil,fun e he=>(by cases he),List.nodup_nil,fun e he=>(by cases he)⟩
def ff:Nat->List Cb->List CE
 | _,[]=>[]
 | n,c::l=>(c,(n:Int),n)::ff (n+1) l
theorem zG:∀(n:Nat) (l:List Cb),(ff n l).length=l.length
 | _,[]=>rfl
 | n,c::l=>by rw [ff,qS,zG,qS]
theorem kf:∀(n:Nat) (l:List Cb),(ff n l).map (·.1)=l
 | _,[]=>rfl
 | n,c::l=>by rw [ff,vE,kf]
theorem rk:∀(n:Nat) (l:List Cb) (c:Cb),ff n (l++[c])=ff n l++[(c,((n+l.length:Nat):Int),n+l.length)]
 | n,[],c=>rfl
 | n,x::l,c=>by
  rw [uW,ff,ff,rk (n+1) l c,qS,show n+1+l.length=n+(l.length+1) from by omega]
  rfl
theorem su:∀(l:List Cb) (es:List CE) (n:Nat) (out:List aH),(∀c∈l,c.sound=true)->(es.map (·.1)++l).Nodup->ix es n n->gi es out->((b9 n l out).2=0\/b9 n l out=([],10)\/b9 n l out=([],11))/\((b9 n l out).2=0->gi (es++ff n l) (b9 n l out).1/\ix (es++ff n l) (n+l.length) ((n+l.length:Nat):Int))
 | [],es,n,out,hl,hn,hE,hP=>⟨.inl rfl,fun _=>by rw [ff,vZ];exact ⟨hP,hE⟩⟩
 | c::l,es,n,out,hl,hn,hE,hP=>by
  have hc:=hl c vD
  have hk:jC es c=false:=by
   rw [<- Bool.not_eq_true,cH]
   rintro ⟨e,he,h⟩
   exact (uO.1 hn).2.2 e.1 (qX he) c vD h
  rw [b9]
  obtain ⟨g1,g2⟩:=kX hE hP hc hk
  unfold dm at g1 g2
  rcases g1 with e | e | e
  ·rw [qF e,cond_true]
   have hE':=hE.more (by omega) hc hk
   have:=su l (es++[(c,(n:Int),n)]) (n+1) _ (fun d hd=>hl d (qZ _ hd)) (by simpa using hn) hE' (g2 e)
   rw [uI,show n+1+l.length=n+(l.length+1) from by omega] at this
   exact this
  ·rw [e]
   exact ⟨.inr (.inl rfl),fun h=>by cases h⟩
  ·rw [e]
   exact ⟨.inr (.inr rfl),fun h=>by cases h⟩
theorem xx {ps:List Cb} (hp:∀c∈ps,c.sound=true) (hn:ps.Nodup) (hl:ps.length<=500):((aO ps).2=0\/aO ps=([],10)\/aO ps=([],11))/\((aO ps).2=0->gi (ff 0 ps) (aO ps).1/\ix (ff 0 ps) ps.length (ps.length:Nat)):=by
 rw [aO,qC (by omega),cond_false,qW.2 hp,cond_true]
 have h:=su ps [] 0 [dC] hp (by simpa using hn) Gg BP
 rw [uT,vN] at h
 exact h
structure Kn where
 es:List CE
 clk:Nat
 next:Nat
 ats:List aH
structure gS (k:Kn):Prop where
 es:ix k.es k.clk k.next
 parts:gi k.es k.ats
def woF (list:List Cb):List CE->Kn->Kn × Int
 | [],k=>(k,0)
 | e::l,k=>bif decide (e.1∈list) then woF list l k else bif decide ((dn e.2.1 k.ats []).2=0) then woF list l ⟨k.es.filter fun x=>!decide (x.1=e.1),k.clk,k.next,(dn e.2.1 k.ats []).1⟩ else (k,(dn e.2.1 k.ats []).2)
def wiF:List Cb->Kn->Kn × Int
 | [],k=>(k,0)
 | c::l,k=>bif jC k.es c then wiF l k else bif decide ((dm k.ats k.next c).2=0) then wiF l ⟨k.es++[(c,(k.next:Int),k.clk)],k.clk+1,k.next+1,(dm k.ats k.next c).1⟩ else (k,(dm k.ats k.next c).2)
theorem pS (list:List Cb):∀(l:List CE) (k:Kn),gS k->(∀e∈l,e∈k.es)->(l.map (·.1)).Nodup ->
  ((woF list l k).2=0\/(woF list l k).2=10)/\gS (woF list l k).1/\(woF list l k).1.next=k.next/\(woF list l k).1.clk=k.clk/\(woF list l k).1.es.length<=k.es.length/\(∀e∈(woF list l k).1.es,e∈k.es) /\
   (∀e∈k.es,e.1∈list->e∈(woF list l k).1.es)/\((woF list l k).2=0->∀e∈(woF list l k).1.es,e∈l->e.1∈list)
 | [],k,hk,_,_=>⟨.inl rfl,hk,rfl,rfl,qJ _,fun e he=>he,fun e he _=>he,fun _ e _ he=>by cases he⟩
 | x::l,k,hk,hl,hn=>by
  rw [vE,vU] at hn
  have hx:=hl x vD
  rw [woF]
  by_cases h:x.1∈list
  ·rw [qF h,cond_true]
   obtain ⟨g1,g2,g3,g4,g5,g6,g7,g8⟩:=pS list l k hk (fun e he=>hl e (qZ _ he)) hn.2
   refine ⟨g1,g2,g3,g4,g5,g6,g7,fun h0 e he hm=>?_⟩
   rcases vA.1 hm with rfl | hm
   ·exact h
   ·exact g8 h0 e he hm
  ·rw [qC h,cond_false]
   obtain ⟨c1,c2⟩:=nc hk.es hk.parts hx
   rcases c1 with e | e
   ·rw [qF e,cond_true]
    obtain ⟨g1,g2,g3,g4,g5,g6,g7,g8⟩:=pS list l ⟨k.es.filter fun y=>!decide (y.1=x.1),k.clk,k.next,(dn x.2.1 k.ats []).1⟩ ⟨hk.es.filter _,c2 e⟩ (fun e he=>by
     refine List.mem_filter.2 ⟨hl e (qZ _ he),?_⟩
     have:e.1≠x.1:=fun h=>hn.1 (vH.2 ⟨e,he,h⟩)
     simpa using this) hn.2
    refine ⟨g1,g2,g3,g4,vJ g5 (List.length_filter_le _ _),fun y he=>(List.mem_filter.1 (g6 y he)).1,fun y he hm=>g7 y (List.mem_filter.2 ⟨he,?_⟩) hm,fun h0 y he hm=>?_⟩
    ·have:y.1≠x.1:=fun h'=>h (h' ▸ hm)
     simpa using this
    ·rcases vA.1 hm with hm | hm
     ·have:=(List.mem_filter.1 (g6 y he)).2
      rw [hm] at this
      simp at this
     ·exact g8 h0 y he hm
   ·rw [e]
    exact ⟨.inr rfl,hk,rfl,rfl,qJ _,fun e he=>he,fun e he _=>he,fun h0=>by cases h0⟩
theorem th:∀(l:List Cb) (k:Kn),gS k->(∀c∈l,c.sound=true) ->
  ((wiF l k).2=0\/(wiF l k).2=10\/(wiF l k).2=11)/\gS (wiF l k).1/\(wiF l k).1.next<=k.next+l.length/\(wiF l k).1.clk<=k.clk+l.length/\(wiF l k).1.es.length<=k.es.length+l.length/\(∀e∈(wiF l k).1.es,e∈k.es\/e.1∈l)/\(∀e∈k.es,e∈(wiF l k).1.es)/\((wiF l k).2=0->∀c∈l,jC (wiF l k).1.es c=true)
 | [],k,hk,_=>⟨.inl rfl,hk,qJ _,qJ _,qJ _,fun e he=>.inl he,fun e he=>he,fun _ c hc=>by cases hc⟩
 | x::l,k,hk,hl=>by
  have hx:=hl x vD
  have hl':∀c∈l,c.sound=true:=fun c hc=>hl c (qZ _ hc)
  rw [wiF,qS]
  cases h:jC k.es x with
  | true =>
   rw [cond_true]
   obtain ⟨g1,g2,g3,g4,g5,g6,g7,g8⟩:=th l k hk hl'
   refine ⟨g1,g2,by omega,by omega,by omega,fun e he=>(g6 e he).imp (fun h=>h) fun h=>qZ _ h,g7,fun h0 c hc=>?_⟩
   rcases vA.1 hc with rfl | hc
   ·obtain ⟨e,he,h1⟩:=cH.1 h
    exact cH.2 ⟨e,g7 e he,h1⟩
   ·exact g8 h0 c hc
  | false =>
   rw [cond_false]
   obtain ⟨c1,c2⟩:=kX hk.es hk.parts hx h
   rcases c1 with e | e | e
   ·rw [qF e,cond_true]
    obtain ⟨g1,g2,g3,g4,g5,g6,g7,g8⟩:=th l ⟨k.es++[(x,(k.next:Int),k.clk)],k.clk+1,k.next+1,(dm k.ats k.next x).1⟩ ⟨hk.es.more (by omega) hx h,c2 e⟩ hl'
    simp only [qK,uB] at g3 g4 g5
    refine ⟨g1,g2,by omega,by omega,by omega,fun e he=>?_,fun e he=>g7 e (vP _ he),fun h0 c hc=>?_⟩
    ·rcases g6 e he with h1 | h1
     ·rcases vB.1 h1 with h1 | h1
      ·exact .inl h1
      ·rw [qO.1 h1]
       exact .inr vD
     ·exact .inr (qZ _ h1)
    ·rcases vA.1 hc with rfl | hc
     ·exact cH.2 ⟨_,g7 _ (List.mem_append_right _ (qO.2 rfl)),rfl⟩
     ·exact g8 h0 c hc
   ·rw [e]
    exact ⟨.inr (.inl rfl),hk,by show k.next<=_;omega,by show k.clk<=_;omega,by show k.es.length<=_;omega,fun e he=>.inl he,fun e he=>he,fun h0=>by cases h0⟩
   ·rw [e]
    exact ⟨.inr (.inr rfl),hk,by show k.next<=_;omega,by show k.clk<=_;omega,by show k.es.length<=_;omega,fun e he=>.inl he,fun e he=>he,fun h0=>by cases h0⟩
def aJ (ps:List Cb):Kn × Int:=(⟨ff 0 ps,ps.length,ps.length,(aO ps).1⟩,(aO ps).2)
def mY (k:Kn) (ps:List Cb):Option Kn:=bif decide ((woF ps k.es k).2=0) then (bif decide ((wiF ps (woF ps k.es k).1).2=0) then some (wiF ps (woF ps k.es k).1).1 else none) else none
def eF (k:Kn) (ps:List Cb):Kn × Int:=match mY k ps with | some k'=>(k',0) | none=>aJ ps
structure iz (ps:List Cb) (k:Kn):Prop where
 ok:gS k
 all:∀c,c∈ps↔jC k.es c=true
theorem iz.len {ps:List Cb} {k:Kn} (h:iz ps k):k.es.length<=ps.length:=by
 have:=eA h.ok.es.keys (m:=ps) fun c hc=>by
  obtain ⟨e,he,rfl⟩:=vH.1 hc
  exact (h.all _).2 (cH.2 ⟨e,he,rfl⟩)
 rwa [qH] at this
theorem li {ps:List Cb} (hp:∀c∈ps,c.sound=true) (hn:ps.Nodup) (hl:ps.length<=500):((aJ ps).2=0\/(aJ ps).2=10\/(aJ ps).2=11)/\((aJ ps).2=0->iz ps (aJ ps).1):=by
 obtain ⟨g1,g2⟩:=xx hp hn hl
 refine ⟨g1.imp (fun h=>h) fun h=>h.imp (fun h=>by show (aO ps).2=10;rw [h]) fun h=>by show (aO ps).2=11;rw [h],fun h0=>?_⟩
 obtain ⟨h1,h2⟩:=g2 h0
 refine ⟨⟨h2,h1⟩,fun c=>?_⟩
 show _↔jC (ff 0 ps) c=true
 rw [cH]
 constructor
 ·intro hc
  have:=kf 0 ps
  rw [<- this] at hc
  obtain ⟨e,he,rfl⟩:=vH.1 hc
  exact ⟨e,he,rfl⟩
 ·rintro ⟨e,he,rfl⟩
  rw [<- kf 0 ps]
  exact qX he
theorem yG {k k':Kn} {ps:List Cb} (hk:gS k) (hp:∀c∈ps,c.sound=true) (h:mY k ps=some k'):iz ps k'/\k'.next<=k.next+ps.length/\k'.clk<=k.clk+ps.length:=by
 unfold mY at h
 obtain ⟨a1,a2,a3,a4,a5,a6,a7,a8⟩:=pS ps k.es k hk (fun e he=>he) hk.es.keys
 obtain ⟨b1,b2,b3,b4,b5,b6,b7,b8⟩:=th ps (woF ps k.es k).1 a2 hp
 by_cases e1:(woF ps k.es k).2=0
 ·rw [qF e1,cond_true] at h
  by_cases e2:(wiF ps (woF ps k.es k).1).2=0
  ·rw [qF e2,cond_true] at h
   obtain rfl:=qB h
   refine ⟨⟨b2,fun c=>⟨b8 e2 c,fun hc=>?_⟩⟩,by omega,by omega⟩
   obtain ⟨e,he,rfl⟩:=cH.1 hc
   rcases b6 e he with h1 | h1
   ·exact a8 e1 e h1 (a6 e h1)
   ·exact h1
  ·rw [qC e2,cond_false] at h
   cases h
 ·rw [qC e1,cond_false] at h
  cases h
theorem yQ {k:Kn} {ps:List Cb} (hk:gS k) (hp:∀c∈ps,c.sound=true) (hn:ps.Nodup) (hl:ps.length<=500):((eF k ps).2=0\/(eF k ps).2=10\/(eF k ps).2=11)/\((eF k ps).2=0->iz ps (eF k ps).1/\(eF k ps).1.next<=k.next+500/\(eF k ps).1.clk<=k.clk+500)/\((eF k ps).2≠0->(aO ps).2≠0):=by
 unfold eF
 cases h:mY k ps with
 | some k' =>
  obtain ⟨g1,g2,g3⟩:=yG hk hp h
  exact ⟨.inl rfl,fun _=>⟨g1,by show k'.next<=_;omega,by show k'.clk<=_;omega⟩,fun h=>absurd rfl h⟩
 | none =>
  obtain ⟨g1,g2⟩:=li hp hn hl
  exact ⟨g1,fun h0=>⟨g2 h0,by show ps.length<=_;omega,by show ps.length<=_;omega⟩,fun h0=>h0⟩
theorem yS (W:World) (b clk:Nat) (es:List CE) (hb:W.heap[b]?=some (cuO es clk)):Calls Tryz.prog 68 #[.map (some b)] W fun e w'=>e = .returned (.map (some W.heap.size))/\w'=W.alloc (cuO es clk):=by
 have hrow:(Extern.MapsClone.clone #[.iface 88 (.map (some b))]).run Tryz.prog W = .ok (.iface 88 (.map (some W.heap.size))) (W.alloc (cuO es clk)):=by
  unfold cuO at hb
  rw [show Extern.MapsClone.clone #[.iface 88 (.map (some b))] = (getObj b >>= fun o => match o with | .map e c => newObj (.map e c) >>= fun r => pure (.iface 88 (.map (some r))) | _ => stuck "maps.clone: a map expected") from rfl]
  simp only [Sem.run_bind,MapKept.run_getObj_map hb,Result.andThen_ok,newObj,Sem.run_pure,Sem.run,World.alloc]
  rfl
 have heq:∀W,(binOp .eql 88 (.map (some b)) (.map none)).run Tryz.prog W = .ok (.bool false) W:=fun W=>by kernel_rfl
 have hta:∀(W:World) (n:Nat),(Instr.typeAssert (.iface 88 (.map (some n))) 20 88 false).run Tryz.prog W = .ok (.map (some n)) W:=fun W n=>by kernel_rfl
 go_enter Tryz.func68,Tryz.ntmps68
 go_wp2_with fail
 rw [run_callFunc_extern Tryz.func111 (by kernel_rfl) (by kernel_rfl) (by kernel_rfl) (e:=Extern.MapsClone.clone) (by kernel_rfl),hrow]
 simp only [Result.andThen]
 rw [Oper.upon_value]
 go_wp2_with fail
 go_ret
 exact ⟨rfl,rfl⟩
theorem AB (id:Nat) (x:SB) (l:List (Nat × SB)):lkB ((id,x)::l)=up1 (lkB l) id x:=by
 funext j
 rw [be]
 show cond (Nat.beq j id) x (lkB l j)=_
 by_cases h:j=id
 ·rw [if_pos h,h,show Nat.beq id id=true from by simp]
  rfl
 ·rw [if_neg h,show Nat.beq j id=false from mB h]
  rfl
theorem mu {q:Nat->Option (Nat × Nat)} {id:Nat} {x:SB} {B:List (Nat × SB)}:∀(ks:List Nat),(ks.all fun k=>!Nat.beq id (900+k))=true->lkB (gl q ks ((id,x)::B))=up1 (lkB (gl q ks B)) id x
 | [],_=>AB id x B
 | k::ks,h=>by
  rw [uZ,qQ] at h
  have ih:=mu (q:=q) (x:=x) (B:=B) ks h.2
  funext j
  have ihj:=congrFun ih j
  rw [be] at ihj ⊢
  show cond (Nat.beq j (900+k)) _ (lkB (gl q ks ((id,x)::B)) j)=if j=id then x else cond (Nat.beq j (900+k)) _ (lkB (gl q ks B) j)
  rw [ihj]
  by_cases e:j=id
  ·subst e
   rw [if_pos rfl,if_pos rfl]
   have:=h.1
   cases hb:Nat.beq j (900+k) with
   | true=>rw [hb] at this;cases this
   | false=>rfl
  ·rw [if_neg e,if_neg e]
theorem sv {W W':World} {F:Nat->Prop} {μ:Mu} {q:Nat->Option (Nat × Nat)} {B:List (Nat × SB)} (ks:List Nat) (id:Nat) (hks:(ks.all fun k=>!Nat.beq id (900+k))=true) (hi:Inv W F μ (lkB (gl q ks B))) (hid:lkB (gl q ks B) id=⟨0,none⟩) (p:Option (Nat × Nat)) (bd:aD) (hk:Kp No W W') (hp:∀b c,p=some (b,c)->W.heap.size<=b/\b<W'.heap.size)
  (hb:aM W' F (upm μ id p) (lkB (gl q ks ((id,⟨1,some bd⟩)::B))) p bd):Stp W F μ (lkB (gl q ks B)) W' F (upm μ id p) (lkB (gl q ks ((id,⟨1,some bd⟩)::B)))/\Inv W' F (upm μ id p) (lkB (gl q ks ((id,⟨1,some bd⟩)::B))):=by
 rw [mu ks hks] at hb ⊢
 exact cu hi id p 1 bd (hk.mono fun _ _ h=>h.elim) (fun b c e=>⟨(hp b c e).2,.inl (hp b c e).1⟩) (.inl (by rw [hid];exact Nat.zero_lt_one)) fun _=>hb
theorem zq (es:List CE) (clk:Nat) (q:Nat->Option (Nat × Nat)):aq Tryz.prog 68 [.ref 1 0 .map] (gl q [1] [(1,⟨0,some (cd es clk)⟩)]) (.ref 30 1 .map) (gl q [1] [(30,⟨1,some (cd es clk)⟩),(1,⟨0,some (cd es clk)⟩)]):=by
 refine ⟨⟨_,_,Tryz.func68,rfl,by kernel_rfl⟩,fun W F μ vs hl hv hi=>?_⟩
 match vs,hl with
 | [v],_ =>
  have hid:lkB (gl q [1] [(1,⟨0,some (cd es clk)⟩)]) 1=⟨0,some (cd es clk)⟩:=rfl
  obtain ⟨_,_,hvv⟩:=Rel.ref' (hv 0 _ _ rfl rfl)
  obtain ⟨b,c,hm,rfl⟩:=hvv _ hid
  obtain ⟨b',c',hm',hh⟩:=hi.body _ _ _ hid
  obtain ⟨rfl,rfl⟩:b=b'/\c=c':=by rw [hm] at hm';simpa using hm'
  refine (yS W b clk es hh).mono ?_
  rintro e W' ⟨rfl,rfl⟩
  obtain ⟨hs,hi'⟩:=sv [1] 30 rfl hi rfl (some (W.heap.size,0)) (cd es clk) ((Kp.refl No W).alloc _) (fun b c e=>by
   obtain ⟨rfl,rfl⟩:W.heap.size=b/\0=c:=by simpa using e
   exact ⟨qJ _,by simp⟩) ⟨W.heap.size,0,rfl,heap_alloc_new _ _⟩
  exact ⟨_,F,_,rfl,hi',hs.q,.ref 30 1 .map _ (qJ _) rfl fun bd h=>⟨W.heap.size,0,by rw [dz,if_pos rfl],rfl⟩⟩
end Go.Proofs.YtdidjpohnopihaaGreat.Sm
end
section
namespace Go.Proofs
open Go.Shelf
def Tryz.sortQ_ren:Go.Shelf.Ren:=⟨fun | 6=>156 | 15=>105 | 14=>201 | 28=>150 | 29=>151 | 20=>181 | 21=>230 | 22=>231 | 23=>232 | 24=>233 | 25=>234 | 26=>235 | 27=>236 | 46=>247 | 47=>193 | 48=>194 | 49=>248 | 50=>249 | 57=>254 | n=>n,fun | 22=>73 | 24=>36 | 25=>175 | 3=>3 | 39=>134 | 0=>0 | 53=>242 | 55=>32 | 4=>4 | 46=>235 | 45=>234 | 50=>116 | 5=>5 | 9=>9 | 66=>276 | 70=>280 | 76=>300 | 77=>301 | n=>n,fun | n=>n⟩
theorem Tryz.sortQ:Go.Proofs.SlLaysF0.n6 Tryz.prog Tryz.sortQ_ren:={
 mixed:=by kernel_rfl
 f6:=⟨Tryz.f156.name,by decide,Tryz.func156.trans (congrArg some (by kernel_rfl))⟩
 f14:=⟨Tryz.f201.name,by decide,Tryz.func201.trans (congrArg some (by kernel_rfl))⟩
 f15:=Tryz.func105.trans (congrArg some (by kernel_rfl))
 f20:=⟨Tryz.f181.name,by decide,Tryz.func181.trans (congrArg some (by kernel_rfl))⟩
 f21:=⟨Tryz.f230.name,by decide,Tryz.func230.trans (congrArg some (by kernel_rfl))⟩
 f22:=⟨Tryz.f231.name,by decide,Tryz.func231.trans (congrArg some (by kernel_rfl))⟩
 f23:=⟨Tryz.f232.name,by decide,Tryz.func232.trans (congrArg some (by kernel_rfl))⟩
 f24:=⟨Tryz.f233.name,by decide,Tryz.func233.trans (congrArg some (by kernel_rfl))⟩
 f25:=⟨Tryz.f234.name,by decide,Tryz.func234.trans (congrArg some (by kernel_rfl))⟩
 f26:=⟨Tryz.f235.name,by decide,Tryz.func235.trans (congrArg some (by kernel_rfl))⟩
 f27:=⟨Tryz.f236.name,by decide,Tryz.func236.trans (congrArg some (by kernel_rfl))⟩
 f28:=Tryz.func150.trans (congrArg some (by kernel_rfl))
 f29:=Tryz.func151.trans (congrArg some (by kernel_rfl))
 f46:=⟨Tryz.f247.name,by decide,Tryz.func247.trans (congrArg some (by kernel_rfl))⟩
 f47:=Tryz.func193.trans (congrArg some (by kernel_rfl))
 f48:=Tryz.func194.trans (congrArg some (by kernel_rfl))
 f49:=⟨Tryz.f248.name,by decide,Tryz.func248.trans (congrArg some (by kernel_rfl))⟩
 f50:=⟨Tryz.f249.name,by decide,Tryz.func249.trans (congrArg some (by kernel_rfl))⟩
 f57:=⟨Tryz.f254.name,by decide,Tryz.func254.trans (congrArg some (by kernel_rfl))⟩
 t0:=Tryz.underlying0
 a0:=Tryz.isAgg0
 z0:=Tryz.sizeOf0
 v0:=Tryz.zeroValue0
 t3:=Tryz.underlying3
 a3:=Tryz.isAgg3
 z3:=Tryz.sizeOf3
 v3:=Tryz.zeroValue3
 t4:=Tryz.underlying4
 a4:=Tryz.isAgg4
 z4:=Tryz.sizeOf4
 v4:=Tryz.zeroValue4
 t5:=Tryz.underlying5
 a5:=Tryz.isAgg5
 z5:=Tryz.sizeOf5
 v5:=Tryz.zeroValue5
 t9:=Tryz.underlying9
 a9:=Tryz.isAgg9
 z9:=Tryz.sizeOf9
 v9:=Tryz.zeroValue9
 t22:=Tryz.underlying73
 a22:=Tryz.isAgg73
 z22:=Tryz.sizeOf73
 v22:=Tryz.zeroValue73
 t25:=Tryz.underlying175
 a25:=Tryz.isAgg175
 z25:=Tryz.sizeOf175
 v25:=Tryz.zeroValue175
 t39:=Tryz.underlying134
 a39:=Tryz.isAgg134
 z39:=Tryz.sizeOf134
 v39:=Tryz.zeroValue134
 t45:=Tryz.underlying234
 a45:=Tryz.isAgg234
 z45:=Tryz.sizeOf234
 v45:=Tryz.zeroValue234
 t46:=Tryz.underlying235
 a46:=Tryz.isAgg235
 z46:=Tryz.sizeOf235
 v46:=Tryz.zeroValue235
 t50:=Tryz.underlying116
 a50:=Tryz.isAgg116
 z50:=Tryz.sizeOf116
 v50:=Tryz.zeroValue116
 t53:=Tryz.underlying242
 a53:=Tryz.isAgg242
 z53:=Tryz.sizeOf242
 v53:=Tryz.zeroValue242
 t55:=Tryz.underlying32
 a55:=Tryz.isAgg32
 z55:=Tryz.sizeOf32
 v55:=Tryz.zeroValue32
 t66:=Tryz.underlying276
 a66:=Tryz.isAgg276
 z66:=Tryz.sizeOf276
 v66:=Tryz.zeroValue276
 t70:=Tryz.underlying280
 a70:=Tryz.isAgg280
 z70:=Tryz.sizeOf280
 v70:=Tryz.zeroValue280
 t76:=Tryz.underlying300
 a76:=Tryz.isAgg300
 z76:=Tryz.sizeOf300
 v76:=Tryz.zeroValue300
 t77:=Tryz.underlying301
 a77:=Tryz.isAgg301
 z77:=Tryz.sizeOf301
 v77:=Tryz.zeroValue301 }
end Go.Proofs
namespace Go.Proofs.YtdidjpohnopihaaGreat.Sm
open Go.RowKit
abbrev SQ (es:List CE):={ e:CE // e∈es }
def gQ {es:List CE} (x:SQ es):List Value:=[.int .u64 x.1.1.value.hi.toNat,.int .u64 x.1.1.value.lo.toNat,.int .u64 x.1.1.care.hi.toNat,.int .u64 x.1.1.care.lo.toNat]
def cfE {es:List CE} (x y:SQ es):Int:=x.1.2.1 - y.1.2.1
theorem ltE {es:List CE} (x y:SQ es):Go.Proofs.ltOf cfE x y=decide (x.1.2.1<y.1.2.1):=by
 unfold Go.Proofs.ltOf cfE
 rw [Bool.eq_iff_iff,decide_eq_true_iff,decide_eq_true_iff]
 omega
theorem GI {es:List CE}:Go.Sort.SWO (Go.Proofs.ltOf (cfE (es:=es))) where
 irrefl x:=by rw [ltE];simp
 trans x y z h1 h2:=by rw [ltE] at *;simp at *;omega
 ntrans x y z h1 h2:=by rw [ltE] at *;simp at *;omega
theorem wK {α:Type} {f:α->Int}:∀{l m:List α},l.Pairwise (fun a b=>f a<f b)->m.Pairwise (fun a b=>f a<f b)->(∀x,x∈l↔x∈m)->l=m
 | [],[],_,_,_=>rfl
 | [],y::m,_,_,h=>by have:=(h y).2 vD;cases this
 | x::l,[],_,_,h=>by have:=(h x).1 vD;cases this
 | x::l,y::m,hl,hm,h=>by
  rw [List.pairwise_cons] at hl hm
  have hxy:x=y:=by
   rcases vA.1 ((h x).1 vD) with e | e
   ·exact e
   ·rcases vA.1 ((h y).2 vD) with e' | e'
    ·exact e'.symm
    ·have:=hm.1 x e
     have:=hl.1 y e'
     omega
  subst hxy
  congr 1
  refine wK hl.2 hm.2 fun z=>?_
  constructor
  ·intro hz
   rcases vA.1 ((h z).1 (qZ _ hz)) with e | e
   ·subst e
    have:=hl.1 z hz
    omega
   ·exact e
  ·intro hz
   rcases vA.1 ((h z).2 (qZ _ hz)) with e | e
   ·subst e
    have:=hm.1 z hz
    omega
   ·exact e
theorem D1 {es:List CE}:∀{ks:List Cb},(∀k∈ks,∃e∈es,e.1=k)->∃L:List (SQ es),L.map (fun x=>x.1.1)=ks
 | [],_=>⟨[],rfl⟩
 | k::ks,h=>by
  obtain ⟨e,he,rfl⟩:=h k vD
  obtain ⟨L,hL⟩:=D1 (ks:=ks) fun k hk=>h k (qZ _ hk)
  exact ⟨⟨e,he⟩::L,by rw [vE,hL]⟩
theorem xi {es:List CE} [Inhabited (SQ es)] (hu:(es.map (·.2.1)).Pairwise (· < ·)) (hk:(es.map (·.1)).Nodup) {L:List (SQ es)} (hp:(L.map fun x=>x.1.1).Perm (es.map (·.1))) {d':Array (SQ es)} (h1:Go.Sort.PermIn 0 L.toArray.size L.toArray d') (h2:Go.Sort.SortedIn (Go.Proofs.ltOf cfE) 0 L.toArray.size d'):d'.toList.map (fun x=>x.1)=es:=by
 obtain ⟨z1,_,z2⟩:=h1
 have hpp:d'.toList.Perm L:=by
  have e1:(d'.extract 0 L.toArray.size).toList=d'.toList:=by rw [<- z1,Array.extract_size]
  have e2:(L.toArray.extract 0 L.toArray.size).toList=L:=by rw [Array.extract_size]
  rwa [e1,e2] at z2
 have hkp:(d'.toList.map fun x=>x.1.1).Perm (es.map (·.1)):=(hpp.map _).trans hp
 have hnd:(d'.toList.map fun x=>x.1.1).Nodup:=hkp.nodup_iff.2 hk
 have hes:es.Pairwise (fun a b=>a.2.1<b.2.1):=List.pairwise_map.1 hu
 refine wK (f:=fun e:CE=>e.2.1) ?_ hes fun x=>⟨fun hx=>?_,fun hx=>?_⟩
 ·rw [List.pairwise_map,List.pairwise_iff_getElem]
  intro i j hi hj hij
  have hi':i<d'.size:=by simpa using hi
  have hj':j<d'.size:=by simpa using hj
  have h3:=h2 i j (qR _) hij (by rw [<- z1];exact hj')
  rw [ltE,getElem!_pos d' i hi',getElem!_pos d' j hj'] at h3
  have h3:=of_decide_eq_false h3
  have e1:d'.toList[i]=d'[i]:=by simp
  have e2:d'.toList[j]=d'[j]:=by simp
  rw [e1,e2]
  refine Int.lt_iff_le_and_ne.2 ⟨by omega,fun h=>?_⟩
  have h4:=congrArg (fun e:CE=>e.1) (yk hu d'[i].2 d'[j].2 h)
  have h5:=(List.pairwise_iff_getElem.1 hnd) i j (by simpa using hi) (by simpa using hj) hij
  simp at h5
  exact h5 h4
 ·obtain ⟨y,_,rfl⟩:=vH.1 hx
  exact y.2
 ·have:x.1∈d'.toList.map fun x=>x.1.1:=hkp.mem_iff.2 (qX hx)
  obtain ⟨y,hy,h⟩:=vH.1 this
  exact vH.2 ⟨y,hy,mm hk y.2 hx h⟩
theorem l6 {w:World} {g:Nat} {cur:Array Value} {e:TypeId} {ss:List Value} (hb:w.heap[g]?=some (.cells cur e (0,0))) (ht:cur.toList.take ss.length=ss):Go.Sort.Holds id w g 0 ss.toArray:=by
 intro j hj
 have hj':j<ss.length:=by simpa using hj
 refine ⟨?_,by simp [World.frozen?,hb]⟩
 have h1:(cur.toList.take ss.length)[j]?=ss[j]?:=by rw [ht]
 rw [uH hj'] at h1
 simp only [World.cell?,hb,vN]
 simp only [Option.isSome_none,Bool.false_eq_true,if_false]
 rw [<- vO,h1]
 simp [hj']
theorem pB {w:World} {g n:Nat} {os:Array Obj} {cur:Array Value} {e:TypeId} {fr:Nat × Nat} (d:Array Value) (hb:w.heap[g]?=some (.cells cur e fr)) :
  (Go.Sort.grow (Go.Sort.putRow id (Go.Sort.ahead w n) g 0 d) os).heap[g]?=some (.cells (Go.Sort.putCells id 0 d cur) e fr):=by
 have hg:g<w.heap.size:=(qI.1 hb).1
 rw [Go.Sort.heap_grow_old _ _ (by simpa using hg)]
 simp [Go.Sort.putRow,Go.Sort.mapBlock,Go.Sort.ahead,Array.getElem?_modify,hb,Go.Sort.onCells]
theorem gK {w:World} {g n:Nat} {os:Array Obj} (d:Array Value):w.grownBy (Go.Sort.grow (Go.Sort.putRow id (Go.Sort.ahead w n) g 0 d) os) (some g):=by
 refine ⟨rfl,rfl,rfl,by simp,fun k hk hne=>?_⟩
 rw [Go.Sort.heap_grow_old _ _ (by simpa using hk)]
 have:g≠k:=fun e=>hne (by rw [e])
 simp [Go.Sort.putRow,Go.Sort.mapBlock,Go.Sort.ahead,Array.getElem?_modify,this]
theorem mR (cur:Array Value) (ts:List Value) (h:ts.length<=cur.size):(Go.Sort.putCells id 0 ts.toArray cur).toList.take ts.length=ts:=by
 apply List.ext_getElem?
 intro j
 by_cases hj:j<ts.length
 ·rw [uH hj,vO]
  simp [Go.Sort.putCells,hj,show j<cur.size by omega]
 ·rw [List.getElem?_take_eq_none (by omega),uK (by omega)]
def cq {es:List CE} (L:List (SQ es)):List Value:=(L.map gQ).flatten
theorem fj {es:List CE}:∀(L:List (SQ es)),(cq L).length=L.length*4
 | []=>rfl
 | x::L=>by
  have:=fj L
  unfold cq at this ⊢
  rw [vE,uL,qK,this,qS]
  show 4+L.length*4=_
  omega
theorem gm {es:List CE}:∀(L:List (SQ es)) (t:Nat),(cq L)[t]?=(L[t / 4]?).bind fun x=>(gQ x)[t % 4]?
 | [],t=>by simp [cq]
 | x::L,t=>by
  have ih:=gm L (t - 4)
  unfold cq at ih ⊢
  rw [vE,uL,vY]
  have hl:(gQ x).length=4:=rfl
  by_cases h:t<4
  ·rw [if_pos (by rw [hl];exact h),show t / 4=0 by omega,show t % 4=t by omega]
   rfl
  ·rw [if_neg (by rw [hl];exact h),hl,ih,show t / 4=(t - 4) / 4+1 by omega,show (t - 4) % 4=t % 4 by omega,uQ]
theorem un {es:List CE} [Inhabited (SQ es)] (d:Array (SQ es)):(Go.Sort.flatK gQ 4 d)=(cq d.toList).toArray:=by
 have hz:(cq d.toList).length=d.size*4:=by rw [fj,qL]
 refine Go.Sort.ext_get! (by rw [Go.Sort.size_flatK];exact hz.symm) fun t ht=>?_
 rw [Go.Sort.size_flatK] at ht
 rw [Go.Sort.get_flatK _ _ _ _ ht,getElem!_pos (cq d.toList).toArray t (by show t<(cq d.toList).length;rw [hz];exact ht)]
 have h1:=gm d.toList t
 have h4:t / 4<d.size:=by omega
 have h5:t % 4<(gQ d[t / 4]).length:=by show _<4;omega
 have h6:t / 4<d.toList.length:=by rw [qL];exact h4
 have h7:d.toList[t / 4]=d[t / 4]:=by simp
 rw [qA h6,Option.bind_some,h7,qA (show t<(cq d.toList).length by rw [hz];exact ht),qA h5] at h1
 rw [getElem!_pos d (t / 4) h4,getElem!_pos (gQ d[t / 4]) (t % 4) h5]
 rw [List.getElem_toArray]
 exact (qB h1).symm
theorem tv {W:World} {F:Nat->Prop} {es:List CE} {L:List (SQ es)} {cur:Array Value} {els:List (List AV)} (hels:els=L.map fun x=>cCb x.1.1) (hc:∀(k:Nat) (cs:List AV) (j:Nat) (x:AV),els[k]?=some cs->cs[j]?=some x->x.one=true/\∃u,cur[k*4+j]?=some u/\ar W F x u) (hz:L.length*4<=cur.size):cur.toList.take (cq L).length=cq L:=by
 subst hels
 have hl:=fj L
 apply List.ext_getElem?
 intro t
 by_cases ht:t<L.length*4
 ·rw [uH (by rw [hl];exact ht),gm]
  have h4:t / 4<L.length:=by omega
  rw [qA h4,Option.bind_some,vO]
  have key:=hc (t / 4) (cCb L[t / 4].1.1) (t % 4)
  rw [show t / 4*4+t % 4=t by omega] at key
  have hk:(L.map fun x=>cCb x.1.1)[t / 4]?=some (cCb L[t / 4].1.1):=by rw [qE,qA h4];rfl
  generalize L[t / 4]=x at key hk
  have h5:t % 4<4:=Nat.mod_lt _ (by decide)
  generalize t % 4=j at key h5
  match j,h5,key with
  | 0,_,key=>obtain ⟨_,u,e,r⟩:=key _ hk rfl;cases r;exact e
  | 1,_,key=>obtain ⟨_,u,e,r⟩:=key _ hk rfl;cases r;exact e
  | 2,_,key=>obtain ⟨_,u,e,r⟩:=key _ hk rfl;cases r;exact e
  | 3,_,key=>obtain ⟨_,u,e,r⟩:=key _ hk rfl;cases r;exact e
  | j+4,h,_=>exact absurd h (by omega)
 ·rw [List.getElem?_take_eq_none (by rw [hl];omega),uK (by rw [hl];omega)]
theorem y7 (w:World):(isAgg 36).run Tryz.prog w = .ok true w:=by kernel_rfl
theorem xT (w:World):(Go.sizeOf 36).run Tryz.prog w = .ok 4 w:=by kernel_rfl
theorem xv {W:World} {F:Nat->Prop} {es:List CE} {L:List (SQ es)} {cur:Array Value} (ht:cur.toList.take (cq L).length=cq L) (k:Nat) (cs:List AV) (j:Nat) (x:AV) (hk:(L.map fun x=>cCb x.1.1)[k]?=some cs) (hx:cs[j]?=some x):x.one=true/\∃u,cur[k*4+j]?=some u/\ar W F x u:=by
 rw [qE] at hk
 obtain ⟨y,hy,rfl⟩:=vR.1 hk
 have hkl:=(qD.1 hy).1
 have hl:=fj L
 have hj:j<4:=(qD.1 hx).1
 have h1:=congrArg (fun l=>l[k*4+j]?) ht
 simp only [uH (show k*4+j<(cq L).length by rw [hl];omega),vO,gm,show (k*4+j) / 4=k by omega,show (k*4+j) % 4=j by omega,hy,Option.bind_some] at h1
 match j,hj,hx,h1 with
 | 0,_,hx,h1=>obtain rfl:=qB hx;exact ⟨rfl,_,h1,.u _⟩
 | 1,_,hx,h1=>obtain rfl:=qB hx;exact ⟨rfl,_,h1,.u _⟩
 | 2,_,hx,h1=>obtain rfl:=qB hx;exact ⟨rfl,_,h1,.u _⟩
 | 3,_,hx,h1=>obtain rfl:=qB hx;exact ⟨rfl,_,h1,.u _⟩
 | j+4,h,_,_=>exact absurd h (by omega)
theorem C8 {W:World} {F:Nat->Prop} {μ:Mu} {σ:Sto} (hi:Inv W F μ σ) {es:List CE} {clk:Nat} {next:Int} {ks:List Cb} {nx ls:AV} (hE:ix es clk next) (hb9:next<=1000000000) (hp:ks.Perm (es.map (·.1))) (h0:0<ks.length) (hl:ks.length<=1000000000)
  (h201:σ 201=⟨1,some (.row 36 4 (ks.map cCb))⟩) (h2:σ 2=⟨0,some (.box 90 [.ref 1 0 .map,nx,ls])⟩) (h1:σ 1=⟨0,some (cd es clk)⟩) {v u:Value} (hv:Rel W F μ σ (.row 201 1 0 ks.length) v) (hu:Rel W F μ σ (.own 2 0 0) u) :
  Calls Tryz.prog 156 #[v,.func (.func 114) #[] #[u]] W fun e W'=>e = .returned (.tuple #[])/\Inv W' F μ (up1 σ 201 ⟨1,some (.row 36 4 ((es.map (·.1)).map cCb))⟩)/\Stq W F μ σ W' F μ (up1 σ 201 ⟨1,some (.row 36 4 ((es.map (·.1)).map cCb))⟩):=by
 have hne:es≠[]:=fun h=>by
  subst h
  have:=hp.length_eq
  simp at this
  rw [this] at h0
  simp at h0
 obtain ⟨e0,he0⟩:=List.exists_mem_of_ne_nil _ hne
 haveI:Inhabited (SQ es):=⟨⟨e0,he0⟩⟩
 obtain ⟨L,hL⟩:=D1 (es:=es) (ks:=ks) fun k hk=>by
  obtain ⟨e,he,h⟩:=vH.1 (hp.mem_iff.1 hk)
  exact ⟨e,he,h⟩
 have hLl:L.length=ks.length:=by rw [<- hL,qH]
 -- the row
 obtain ⟨q1,hq⟩:=fY hi hv h201
 rcases hq with ⟨_,e2,_⟩ | ⟨b,cap,hm,rfl,q2,q3⟩
 ·have:=congrArg List.length e2
  rw [qH] at this
  rw [this] at h0
  simp at h0
 rw [qH] at q1 q2
 rw [Nat.sub_zero,Nat.zero_mul]
 have hb:=hi.body 201 1 _ h201
 rw [hm] at hb
 rcases hb with ⟨hb,_⟩ | ⟨b',cap',cur,hb,hh,g1,g2,g3,g4,g5⟩
 ·cases hb
 obtain ⟨rfl,rfl⟩:b=b'/\cap=cap':=by simpa using hb
 have ht:cur.toList.take (cq L).length=cq L:=tv (F:=F) (W:=W) (els:=ks.map cCb) (by rw [<- hL,List.map_map];rfl) g5 (by rw [g3,hLl];omega)
 have hlt:b<W.heap.size:=(qI.1 hh).1
 -- the box, and the map
 have hb2:=hi.body 2 0 _ h2
 obtain ⟨bk,ck,cs,hm2,hh2,hcl,hcs⟩:=hb2
 obtain ⟨_,_,huu⟩:=Rel.own' hu
 obtain ⟨bm,cm,hm1,hh1⟩:=hi.body 1 0 _ h1
 match cs,hcl,hcs,hh2 with
 | [v0,v1,v2],_,hcs,hh2 =>
 have r0:=(hcs 0 _ _ rfl rfl).2
 obtain ⟨_,_,r0⟩:=Rel.ref' r0
 obtain ⟨bm',cm',hm1',r0⟩:=r0 _ h1
 obtain ⟨rfl,rfl⟩:bm=bm'/\cm=cm':=by rw [hm1] at hm1';simpa using hm1'
 subst r0
 obtain ⟨bk',ck',hm2',rfl⟩:=huu _ h2
 obtain ⟨rfl,rfl⟩:bk=bk'/\ck=ck':=by rw [hm2] at hm2';simpa using hm2'
 have hs201:(σ 201).body.isSome=true:=by rw [h201];rfl
 have hs2:(σ 2).body.isSome=true:=by rw [h2];rfl
 have hs1:(σ 1).body.isSome=true:=by rw [h1];rfl
 have nb2:bk≠b:=fun e=>by
  have:=hi.inj 2 201 bk ck cap hs2 hs201 hm2 (by rw [e];exact hm)
  omega
 have nb1:bm≠b:=fun e=>by
  have:=hi.inj 1 201 bm cm cap hs1 hs201 hm1 (by rw [e];exact hm)
  omega
 have eg:∀args w,(callFunc 114 args).run Tryz.prog w = .ok (.enter 114 args) w:=Go.Proofs.enters_of Tryz.func114 (by kernel_rfl) rfl
 have hcmp:CmpLays Tryz.prog 114 #[.pointer (some ⟨bk,0,none⟩)] gQ 4 (cfE (es:=es)) b 0 L.toArray.size W:=fun m os dk hs x y=>by
  have hold:∀k,k<W.heap.size->k≠b->(sortWorldK gQ 4 W b 0 m dk os).heap[k]?=W.heap[k]?:=fun k hk hne=>(gK (w:=W) (g:=b) (n:=m) (os:=os) (Go.Sort.flatK gQ 4 dk)).block k hk (by simpa using hne)
  have h:=C4 es clk bm bk x.1.1 y.1.1 v1 v2 (sortWorldK gQ 4 W b 0 m dk os) hE.keys ((hold bm (qI.1 hh1).1 nb1).trans hh1) ((hold bk (qI.1 hh2).1 nb2).trans hh2) (fun e he=>by have:=hE.lt e he;omega)
  rw [iP hE.keys x.2,iP hE.keys y.2] at h
  exact h
 have hH:Go.Sort.HoldsK gQ 4 W b 0 L.toArray:=by
  unfold Go.Sort.HoldsK
  rw [un]
  exact l6 hh ht
 have hS:=AnyQ.slices_SortFunc Tryz.sortQ 4 y7 xT gQ (fun _=>rfl) (fun x v hv=>by simp [gQ] at hv;rcases hv with rfl | rfl | rfl | rfl <;> rfl) cfE GI 114 #[.pointer (some ⟨bk,0,none⟩)] b 0 cap L.toArray W eg hcmp hH hlt (by rw [uG];omega)
 rw [uG,hLl] at hS
 refine Calls.mono hS ?_
 rintro e W' ⟨rfl,d',n,os,p1,p2,rfl⟩
 rw [<- hLl] at p1 p2
 have hsrt:=xi hE.up hE.keys (by rw [hL];exact hp) p1 p2
 have hel:(es.map (·.1)).map cCb=d'.toList.map fun x=>cCb x.1.1:=by
  have h:=congrArg (fun l:List CE=>(l.map (·.1)).map cCb) hsrt
  simp only [List.map_map] at h
  simp only [List.map_map]
  exact h.symm
 have hz:d'.toList.length=ks.length:=by rw [qL,p1.1,uG,hLl]
 rw [hel]
 have hgrow:=gK (w:=W) (g:=b) (n:=n) (os:=os) (Go.Sort.flatK gQ 4 d')
 have hheap:=pB (w:=W) (g:=b) (n:=n) (os:=os) (Go.Sort.flatK gQ 4 d') hh
 change W.grownBy (sortWorldK gQ 4 W b 0 n d' os) (some b) at hgrow
 change (sortWorldK gQ 4 W b 0 n d' os).heap[b]?=_ at hheap
 generalize sortWorldK gQ 4 W b 0 n d' os=W' at hgrow hheap
 rw [un] at hheap
 have hkp:Kp (fun x=>(σ 201).body.isSome=true/\∃c,μ 201=some (x,c)) W W':=(Kp.refl _ W).grown hgrow fun x hx=>(by cases hx;exact .inl ⟨hs201,cap,hm⟩)
 have hupm:upm μ 201 (some (b,cap))=μ:=by
  funext j
  rw [dz]
  split
  ·rename_i e;rw [e,hm]
  ·rfl
 have hcl2:(cq d'.toList).length<=cur.size:=by rw [fj,hz,g3];omega
 have htk:=mR cur (cq d'.toList) hcl2
 have hcur:(Go.Sort.putCells id 0 (cq d'.toList).toArray cur).size=cap*4:=by simp [Go.Sort.putCells,g3]
 obtain ⟨hs,hi'⟩:=cu hi 201 (some (b,cap)) 1 (.row 36 4 (d'.toList.map fun x=>cCb x.1.1)) hkp (fun x c h=>by
  obtain ⟨rfl,rfl⟩:b=x/\cap=c:=by simpa using h
  exact ⟨(qI.1 hheap).1,.inr ⟨hs201,_,hm⟩⟩) (.inr ⟨by rw [h201],_,by rw [h201],by simp [aD.sh,hz],hm.symm⟩) fun _=>by
  refine .inr ⟨b,cap,_,rfl,hheap,by rw [qH,hz];exact q2,g2,hcur,fun k' cs hc=>?_,fun k' cs j x hc hx=>xv htk k' cs j x hc hx⟩
  rw [qE] at hc
  obtain ⟨z,_,rfl⟩:=vR.1 hc
  rfl
 rw [hupm] at hs hi'
 exact ⟨rfl,hi',hs.q⟩
theorem my {l:List Cb} (h:l.Nodup) (x:Cb):(dX l x).Nodup:=by
 by_cases hx:x∈l
 ·rw [vo hx];exact h
 ·rw [rG hx,uO]
  exact ⟨h,by simp,fun a ha b hb e=>hx (by rw [qO.1 hb] at e;exact e ▸ ha)⟩
theorem ko:∀(xs l:List Cb),l.Nodup->(cJ l xs).Nodup
 | [],l,h=>h
 | x::xs,l,h=>ko xs _ (my h x)
theorem im (p:Cb):∀(sets all:List Cb),all.Nodup->(bV p sets all).Nodup
 | [],all,h=>h
 | s::sets,all,h=>by
  rw [bV]
  refine im p sets _ ?_
  cases p.hits s
  ·exact h
  ·exact my h _
theorem j5 (sets:List Cb):∀(f n:Nat) (all:List Cb),all.Nodup->(cD sets f n all).Nodup
 | 0,n,all,h=>h
 | f+1,n,all,h=>by
  rw [cD]
  cases decide (n<all.length) && decide (all.length<=500)
  ·exact h
  ·exact j5 sets f (n+1) _ (im _ _ _ h)
theorem n9 (c:Cf) (v:Int):(aK c v).Nodup:=j5 _ _ _ _ (ko _ _ List.nodup_nil)
theorem Rm.tup2 {π:List (Nat × Nat)} {σ σ':Sto} {z x y x' y':AV} (e:z = .tup [x,y]) (h:Rm π σ σ' x x') (h':Rm π σ σ' y y'):Rm π σ σ' z (.tup [x',y']):=by
 subst e
 refine .tup rfl fun j a b ha hb=>?_
 match j,ha,hb with
 | 0,ha,hb=>obtain rfl:=qB ha;obtain rfl:=qB hb;exact h
 | 1,ha,hb=>obtain rfl:=qB ha;obtain rfl:=qB hb;exact h'
 | j+2,ha,hb=>cases ha
def bp (c:Cf) (V:Nat):List Cb:=np (aK c (V:Nat))
theorem fh (c:Cf) (V:Nat):(bp c V).Nodup:=(cB _).nodup_iff.2 (n9 _ _)
theorem rr (c:Cf) (V:Nat):(bp c V).length=(aK c (V:Nat)).length:=(cB _).length_eq
theorem gC {c:Cf} (h0:c.sound=0) (V:Nat):∀p∈bp c V,p.sound=true:=fun p hp=>(jl (Cf.ok h0) (V:Nat)).1 p ((cB _).mem_iff.1 hp)
def kn0:AV:=.agg [.raw (.map none),.i .i64 0,.raw (.slice none 0 0)]
def knR (id:Nat) (k:Kn):AV:=.agg [.ref id 0 .map,.i .i64 (k.next:Nat),.sl (k.ats.map aB)]
def knT (id:Nat) (r:Kn × Int):AV:=bif decide (r.2=0) then .tup [knR id r.1,.i .i64 0] else .tup [kn0,.i .i64 r.2]
def knB (id:Nat) (r:Kn × Int):List (Nat × SB):=bif decide (r.2=0) then [(id,⟨0,some (cd r.1.es r.1.clk)⟩)] else []
def fK (c:Cf) (V:Nat):Kn × Int:=bif decide ((aK c (V:Nat)).length>500) then (⟨[],0,0,[]⟩,10) else aJ (bp c V)
theorem rm (c:Cf) (h0:c.sound=0) (hL:c.Lens) (V:Nat) (hV:V<=255) (q:Nat->Option (Nat × Nat)):aq Tryz.prog 25 [.agg (cCf c),.i .i64 (V:Nat)] (gl q [] []) (knT 31 (fK c V)) (gl q [] (knB 31 (fK c V))):=by
  refine aq.of_body Tryz.func25 rfl (by kernel_rfl) rfl rfl ?_
  have hOf:=Ea c V hV h0 hL
  rw [ofR] at hOf
  by_cases hl:(aK c (V:Nat)).length>500
  · have e:fK c V=(⟨[],0,0,[]⟩,10):=by rw [fK,qF hl];rfl
    rw [e]
    rw [qF hl,cond_true] at hOf
    refine jA ?_
    refine jm hOf ?_;refine jH ?_
    refine zT ?_
    exact AW.ret (dq af rfl rfl (Rm.tup2 rfl (Rm.aggL rfl ⟨⟨Rm.is rfl rfl,rfl⟩,⟨Rm.is rfl rfl,rfl⟩,⟨Rm.is rfl rfl,rfl⟩,trivial⟩) (Rm.is rfl rfl)) trivial)
  · have hlen:(bp c V).length<=500:=by rw [rr];omega
    have e:fK c V=aJ (bp c V):=by rw [fK,qC hl];rfl
    rw [e]
    rw [qC hl,cond_false] at hOf
    have hn:=fh c V
    change ae _ _ _ (.tup [.sl ((bp c V).map cCb),.i .i64 0]) at hOf
    generalize bp c V=ps at hOf hlen hn ⊢
    have hSp:=vc ps
    rw [qr] at hSp
    have hfs:aJ ps=(⟨ff 0 ps,ps.length,ps.length,(aO ps).1⟩,(aO ps).2):=rfl
    rw [hfs]
    generalize aO ps=A at hSp
    refine jA ?_
    refine jm hOf ?_;refine jH ?_
    refine zF ?_
    refine jm hSp ?_;refine jH ?_
    refine AW.cond rfl (fun h=>?_) (fun h=>?_)
    · have h2:A.2≠0:=by simpa using h
      rw [knT,knB,qC h2]
      refine jA ?_
      exact AW.ret (dq af rfl rfl (Rm.tup2 rfl (Rm.aggL rfl ⟨⟨Rm.is rfl rfl,rfl⟩,⟨Rm.is rfl rfl,rfl⟩,⟨Rm.is rfl rfl,rfl⟩,trivial⟩) (Rm.is rfl rfl)) trivial)
    · have h2:A.2=0:=by simpa using h
      rw [knT,knB,qF h2]
      refine zB ?_
      refine RG.opS rfl (mL (id:=31) rfl) rfl ?_
      refine jH ?_
      refine AW.loopL (ι:=Nat) (fun k=>[(4,.own 4 0 0),(9,.own 9 0 0),(36,.sl (ps.map cCb)),(37,.i .i64 (ps.map cCb).length),(38,.i .i64 (k:Nat))]) (fun k=>[(4,⟨0,some (.box 90 [.raw (.map none),.i .i64 0,.raw (.slice none 0 0)])⟩),(9,⟨0,some (.box 90 [.ref 31 0 .map,.i .i64 (ps.map cCb).length,.sl (A.1.map aB)])⟩),(31,⟨0,some (cd (ff 0 (ps.take k)) k)⟩)]) (fun k=>k<=ps.length) (fun k=>ps.length - k) 0 (qR _) jW ⟨bS rfl rfl rfl,.boxL rfl jQ rfl,.obj rfl rfl,trivial⟩ fun k hk=>?_
      refine jA ?_
      refine AW.cond rfl (fun h1=>?_) (fun h1=>?_)
      · have h3:k<ps.length:=by simpa using h1
        have hstep:ff 0 (ps.take (k+1))=ff 0 (ps.take k)++[(ps[k],(k:Int),k)]:=by
          rw [List.take_add_one,qA h3]
          show ff 0 (ps.take k++[ps[k]])=_
          rw [rk,vG,vN,Nat.min_eq_left (by omega)]
        have hno:∀e∈ff 0 (ps.take k),e.1≠ps[k]:=fun e he hh=>by
          have h5:e.1∈ps.take k:=by rw [<- kf 0 (ps.take k)];exact qX he
          rw [hh] at h5
          obtain ⟨i,hi,h6⟩:=List.mem_iff_getElem.1 h5
          rw [vG] at hi
          rw [List.getElem_take] at h6
          exact (List.pairwise_iff_getElem.1 hn i k (by omega) h3 (by omega)) h6
        generalize ff 0 (ps.take k)=es at hstep hno
        refine jA ?_
        refine RG.opS rfl (ai rfl (tk rfl) rfl (tk rfl) rfl rfl (show (ps.map cCb)[k]?=some (cCb ps[k]) by rw [qE,qA (by assumption)];rfl) rfl) rfl ?_
        refine jH ?_
        refine RG.opS rfl (v6 rfl rfl rfl rfl rfl hno) rfl ?_
        refine jH ?_
        exact ⟨k+1,⟨h3,by omega⟩,⟨rO rfl rfl rfl,rO rfl rfl rfl,rI rfl rfl,rI rfl rfl,rI (au h3 (by omega)) rfl,trivial⟩,⟨bS rfl rfl rfl,.boxL rfl jQ rfl,.obj rfl (by rw [hstep]),trivial⟩⟩
      · have h3 : k = ps.length := by have : ¬ k < ps.length := by simpa using h1
                                      omega
        subst h3
        rw [vW]
        refine jE ?_;refine jA ?_
        exact AW.ret (dq af rfl rfl (Rm.tup2 rfl (Rm.aggL rfl ⟨⟨Rm.refIs rfl rfl rfl rfl,rfl⟩,⟨Rm.is (by rw [qH]) rfl,rfl⟩,⟨Rm.is rfl rfl,rfl⟩,trivial⟩) (Rm.is rfl rfl)) ⟨.obj rfl rfl,trivial⟩)
theorem x8 (es:List CE) (clk bx b1:Nat) (next:Int) (W:World) (hE:ix es clk next) (hl:es.length<=1000000) (hx:W.heap[bx]?=some (.cells #[.map (some b1)] 88 (0,0))) (h1:W.heap[b1]?=some (cuO es clk)) :
  Calls Tryz.prog 155 #[.func (.func 157) #[] #[.pointer (some ⟨bx,0,none⟩)]] W fun e W'=>∃(pre:List Cb) (v:Value),pre.Perm (es.map (·.1))/\e = .returned v/\Kp No W W'/\∃cells,W'.ownsRow 0 36 4 v pre.length cells/\dv W' (fun _=>False) 4 (pre.map cCb) cells/\∀g,v.ownBlock=some g->W.heap.size<=g:=by
 have hxl:=(qI.1 hx).1
 have h1l:=(qI.1 h1).1
 have H:=fun W1 (hk:Kp No W W1)=>sQ (f:=157) (cs:=[.pointer (some ⟨bx,0,none⟩)]) (Nx:=fun pre _=>pre.length<es.length) (Fin:=fun pre=>pre.Perm (es.map (·.1)))
  ⟨fun b=>b=bx\/b=b1,fun b=>W.heap[b]?⟩ ⟨_,_,Tryz.func157,rfl,by kernel_rfl⟩ (fun W2 F hC hF=>B5 es clk bx b1 W2 F (hC bx (.inl rfl)).1 (hC b1 (.inr rfl)).1 ((hC bx (.inl rfl)).2.trans hx) ((hC b1 (.inr rfl)).2.trans h1) (hE.born.imp fun h=>Nat.ne_of_lt h) hE.old hF) (fun pre x h=>by omega) W1 (fun b=>b=bx\/b=b1)
  (fun b hb=>vK (hb.elim (fun e=>e ▸ hxl) fun e=>e ▸ h1l) hk.size) (fun b hb=>⟨hb,hk.block b (hb.elim (fun e=>e ▸ hxl) fun e=>e ▸ h1l) (az _)⟩)
 have HH:=Lib.hid H
 clear H hx h1 hxl h1l hE hl
 go_enter Tryz.func155,Tryz.ntmps155
 go_wp2_with (go_at_call 200;refine (HH.out _ (Kp.refl _ _)).mono ?_;rintro e W' ⟨pre,v,hp,rfl,hr⟩;(have Hr:=Lib.hid hr);clear hr)
 go_ret
 exact ⟨pre,v,hp,rfl,Hr.out⟩
def kyB (es:List CE) (clk:Nat) (nx ls:AV):List (Nat × SB):=[(77,⟨0,some (.box 88 [.ref 1 0 .map])⟩),(2,⟨0,some (.box 90 [.ref 1 0 .map,nx,ls])⟩),(1,⟨0,some (cd es clk)⟩)]
theorem De {σ:Sto} {id:Nat} {x y:SB}:up1 (up1 σ id x) id y=up1 σ id y:=by
 funext j
 rw [be,be,be]
 split <;> rfl
theorem BF {W' : World} {ks : List Cb} {v : Value} {cells : List Value} (ho : W'.ownsRow 0 36 4 v ks.length cells) (hc : dv W' (fun _ => False) 4 (ks.map cCb) cells) :
  ∃p:Option (Nat × Nat),(∀b c,p=some (b,c)->v.ownBlock=some b/\b<W'.heap.size)/\∀(F:Nat->Prop) (μ:Mu) (σ:Sto) (id:Nat),aM W' F μ σ p (.row 36 4 (ks.map cCb))/\(μ id=p->σ id=⟨1,some (.row 36 4 (ks.map cCb))⟩->Rel W' F μ σ (.row id 1 0 ks.length) v):=by
 obtain ⟨hcl,ho⟩:=ho
 rcases ho with ⟨rfl,hn⟩ | ⟨g,cap,cur,rfl,_,hh,q1,q2,q3,q4⟩
 ·have:ks=[]:=uD.1 hn
  subst this
  refine ⟨none,fun b c h=>(by cases h),fun F μ σ id=>⟨.inl ⟨rfl,rfl⟩,fun hm hs=>.row id 1 0 0 _ (by rw [hs];exact qJ _) rfl fun bd m len h1 h2=>?_⟩⟩
  rw [hs] at h1
  obtain rfl:aD.row 36 4 ([].map cCb)=bd:=by simpa using h1
  obtain ⟨rfl,rfl⟩:4=m/\0=len:=by simpa [aD.rowL] using h2
  rw [hm]
  exact ⟨qJ _,rfl⟩
 ·refine ⟨some (g,cap),fun b c h=>?_,fun F μ σ id=>⟨.inr ⟨g,cap,cur,rfl,hh,by rw [qH];exact q1,q2,q3,fun k cs h=>hc.hm k cs h,fun k cs j x h1 h2=>?_⟩,fun hm hs=>.row id 1 0 _ _ (by rw [hs];exact qJ _) rfl fun bd m len h1 h2=>?_⟩⟩
  ·obtain ⟨rfl,rfl⟩:g=b/\cap=c:=by simpa using h
   exact ⟨rfl,(qI.1 hh).1⟩
  ·obtain ⟨r1,u,r2,r3⟩:=hc.r k cs j x h1 h2
   have hkl:=(qD.1 h1).1
   rw [qH] at hkl
   have hjl:j<4:=by rw [<- hc.hm k cs h1];exact (qD.1 h2).1
   refine ⟨r1,u,?_,r3.to fun b hb=>hb.elim⟩
   rw [<- q4,uH (by omega),vO] at r2
   exact r2
  ·rw [hs] at h1
   obtain rfl:aD.row 36 4 (ks.map cCb)=bd:=by simpa using h1
   obtain ⟨rfl,rfl⟩:4=m/\(ks.map cCb).length=len:=by simpa [aD.rowL] using h2
   rw [hm]
   exact ⟨by rw [qH];omega,by simp⟩
theorem qj (es:List CE) (clk:Nat) (next:Int) (nx ls:AV) (hE:ix es clk next) (hb9:next<=1000000000) (hl:es.length<=1000000) (q:Nat->Option (Nat × Nat)):aq Tryz.prog 112 [.fn 157 [] [.own 77 0 0],.fn 114 [] [.own 2 0 0]] (gl q [1,2,77] (kyB es clk nx ls)) (.row 201 1 0 es.length) (gl q [1,2,77] ((201,⟨1,some (.row 36 4 ((es.map (·.1)).map cCb))⟩)::kyB es clk nx ls)):=by
 refine ⟨⟨_,_,Tryz.func112,rfl,by kernel_rfl⟩,fun W F μ vs hvl hv hi=>?_⟩
 have h77:lkB (gl q [1,2,77] (kyB es clk nx ls)) 77=⟨0,some (.box 88 [.ref 1 0 .map])⟩:=rfl
 have h1:lkB (gl q [1,2,77] (kyB es clk nx ls)) 1=⟨0,some (cd es clk)⟩:=rfl
 match vs,hvl,hv with
 | [v0,v1],_,hv =>
 obtain ⟨fs,cs,rfl,hf,hc,_,hc0⟩:=(hv 0 _ _ rfl rfl).fn'
 obtain ⟨fs',cs',rfl,hf',hc',_,hc1⟩:=(hv 1 _ _ rfl rfl).fn'
 match fs,hf,cs,hc,hc0 with
 | [],_,[u0],_,hc0 =>
 match fs',hf',cs',hc',hc1 with
 | [],_,[u1],_,hc1 =>
 have r0:=hc0 0 _ _ rfl rfl
 have r1:=hc1 0 _ _ rfl rfl
 obtain ⟨_,_,hu0⟩:=Rel.own' r0
 obtain ⟨bx,cx,hmx,rfl⟩:=hu0 _ h77
 obtain ⟨bx',cx',cs7,hmx',hhx,hcl,hcs⟩:=hi.body 77 0 _ h77
 obtain ⟨rfl,rfl⟩:bx=bx'/\cx=cx':=by rw [hmx] at hmx';simpa using hmx'
 match cs7,hcl,hcs,hhx with
 | [w0],_,hcs,hhx =>
 obtain ⟨bm,cm,hm1,hh1⟩:=hi.body 1 0 _ h1
 obtain ⟨_,_,hw0⟩:=Rel.ref' (hcs 0 _ _ rfl rfl).2
 obtain ⟨bm',cm',hm1',rfl⟩:=hw0 _ h1
 obtain ⟨rfl,rfl⟩:bm=bm'/\cm=cm':=by rw [hm1] at hm1';simpa using hm1'
 have HC:=Lib.hid (x8 es clk bx bm next W hE hl hhx hh1)
 have HS:∀(W1:World) (pre:List Cb) (v:Value) (cells:List Value),pre.Perm (es.map (·.1))->Kp No W W1->W1.ownsRow 0 36 4 v pre.length cells->dv W1 (fun _=>False) 4 (pre.map cCb) cells->(∀g,v.ownBlock=some g->W.heap.size<=g) ->
   Calls Tryz.prog 156 #[v,.func (.func 114) #[] #[u1]] W1 fun e W'=>e = .returned (.tuple #[])/\∃F' μ',Inv W' F' μ' (lkB (gl q [1,2,77] ((201,⟨1,some (.row 36 4 ((es.map (·.1)).map cCb))⟩)::kyB es clk nx ls)))/\Stq W F μ (lkB (gl q [1,2,77] (kyB es clk nx ls))) W' F' μ' (lkB (gl q [1,2,77] ((201,⟨1,some (.row 36 4 ((es.map (·.1)).map cCb))⟩)::kyB es clk nx ls)))/\Rel W' F' μ' (lkB (gl q [1,2,77] ((201,⟨1,some (.row 36 4 ((es.map (·.1)).map cCb))⟩)::kyB es clk nx ls))) (.row 201 1 0 es.length) v:=by
  intro W1 pre v cells hp hk ho hr hg
  have hlen:pre.length=es.length:=by rw [hp.length_eq,qH]
  obtain ⟨p,p1,p2⟩:=BF ho hr
  obtain ⟨hs,hi1⟩:=sv [1,2,77] 201 rfl hi rfl p (.row 36 4 (pre.map cCb)) hk (fun b c e=>⟨hg b (p1 b c e).1,(p1 b c e).2⟩) (p2 F _ _ 201).1
  have hrv:Rel W1 F (upm μ 201 p) (lkB (gl q [1,2,77] ((201,⟨1,some (.row 36 4 (pre.map cCb))⟩)::kyB es clk nx ls))) (.row 201 1 0 pre.length) v:=(p2 F _ _ 201).2 (by rw [dz,if_pos rfl]) rfl
  have hru:=r1.stp hi hs
  by_cases h0:es=[]
  ·subst h0
   obtain rfl:pre=[]:=uD.1 hlen
   have hz:∃p cap,v = .slice p 0 cap:=by
    rcases ho.2 with ⟨rfl,_⟩ | ⟨g,cap,_,rfl,_⟩
    ·exact ⟨_,_,rfl⟩
    ·exact ⟨_,_,rfl⟩
   obtain ⟨pv,cap,rfl⟩:=hz
   refine Calls.mono (AnyF.slices_SortFunc_none Tryz.sortQ pv cap _ W1) ?_
   rintro e W' ⟨rfl,rfl⟩
   exact ⟨rfl,F,_,hi1,hs.q,hrv⟩
  ·have h0':0<pre.length:=by
    rw [hlen]
    exact List.length_pos_iff.2 h0
   refine Calls.mono (C8 hi1 hE hb9 hp h0' (by omega) rfl rfl rfl hrv hru) ?_
   rintro e W' ⟨rfl,hi2,hs2⟩
   rw [mu _ rfl] at hi2 hs2 hs hrv
   rw [De] at hi2 hs2
   rw [mu _ rfl]
   refine ⟨rfl,F,_,hi2,hs.q.trans hs2,?_⟩
   obtain ⟨q1,q2,q3⟩:=Rel.row' hrv
   refine .row 201 1 0 _ _ (by rw [be,if_pos rfl];exact qJ _) q2 fun bd m len e1 e2=>?_
   rw [be,if_pos rfl] at e1
   obtain rfl:aD.row 36 4 ((es.map (·.1)).map cCb)=bd:=by simpa using e1
   obtain ⟨rfl,rfl⟩:4=m/\es.length=len:=by simpa [aD.rowL] using e2
   obtain ⟨h5,h6⟩:=q3 _ 4 (pre.map cCb) (by rw [be,if_pos rfl])
   rw [hlen] at h6
   exact ⟨by omega,h6⟩
 have HS:=Lib.hid HS
 clear hi hv r0 r1 hc0 hc1 hcs hhx hh1 hE
 go_enter Tryz.func112,Tryz.ntmps112
 go_wp2_with (first | (go_at_call 155;refine HC.out.mono ?_;rintro e W1 ⟨pre,v,hp,rfl,hk,cells,ho,hr,hg⟩;(have HP:=Lib.hid hp);(have HK:=Lib.hid hk);(have HO:=Lib.hid ho);(have HR:=Lib.hid hr);(have HG:=Lib.hid hg);clear hp hk ho hr hg) | (go_at_call 156;refine (HS.out _ _ _ _ HP.out HK.out HO.out HR.out HG.out).mono ?_;rintro e W2 ⟨rfl,hx⟩;(have HX:=Lib.hid hx);clear hx))
 go_ret
 obtain ⟨F',μ',g1,g2,g3⟩:=HX.out
 exact ⟨v,F',μ',rfl,g1,g2,g3⟩
theorem EC (es:List CE) (clk:Nat) (q:Nat->Option (Nat × Nat)):aq Tryz.prog 113 [.ref 100 0 .map] (gl q [100] [(100,⟨0,some (cd es clk)⟩)]) (.fn 157 [] [.own 1 0 0]) (gl q [100] [(1,⟨0,some (.box 88 [.ref 100 0 .map])⟩),(100,⟨0,some (cd es clk)⟩)]):=by
 refine aq.of_body Tryz.func113 rfl (by kernel_rfl) rfl rfl ?_
 refine jA ?_
 refine AW.ret (dq af rfl rfl (.fn rfl rfl (fun j x x' h _=>by cases h) fun j x x' h h'=>?_) ⟨.ghost rfl rfl rfl,.boxL rfl jQ rfl,.obj rfl rfl,trivial⟩)
 match j,h,h' with
 | 0,h,h' =>
  obtain rfl:=qB h
  obtain rfl:=qB h'
  exact Rm.ownIs rfl rfl rfl rfl
 | j+1,h,_=>cases h
def knM (r:Kn × Int):AV:=bif decide (r.2=0) then .tup [knR 1 r.1,.i .i64 0] else .tup [kn0,.i .i64 r.2]
def woB (q:Nat->Option (Nat × Nat)) (k:Kn):List (Nat × SB):=gl q [1] [(1,⟨0,some (cd k.es k.clk)⟩),(2,⟨0,some (.box 90 [.ref 1 0 .map,.i .i64 (k.next:Nat),.sl (k.ats.map aB)])⟩),(4,⟨0,some (.box 90 [.raw (.map none),.i .i64 0,.raw (.slice none 0 0)])⟩)]
theorem xp (list:List Cb) (k:Kn) (hk:gS k) (hn:k.next<=1000000000) (he:k.es.length<=1000) (q:Nat->Option (Nat × Nat)):aq Tryz.prog 69 [knR 1 k,.sl (list.map cCb)] (gl q [1] [(1,⟨0,some (cd k.es k.clk)⟩)]) (knM (woF list k.es k)) (gl q [1] [(1,⟨0,some (cd (woF list k.es k).1.es (woF list k.es k).1.clk)⟩)]):=by
 refine aq.of_body Tryz.func69 rfl (by kernel_rfl) rfl rfl ?_
 obtain ⟨es,clk,next,ats⟩:=k
 have hs0:∀kc:Kn,∀l:List CE,kc.es.length<=1000->gS kc->∀a∈kc.ats,aj a.pile=true/\0<a.pile.length/\a.ids.Pairwise (· < ·)/\a.ids.length<=1000:=fun kc l h1 h2 a ha=>⟨(h2.parts.ok a ha).pile,(h2.parts.ok a ha).pos,(h2.parts.ok a ha).up,vJ (h2.parts.ok a ha).len h1⟩
 refine jA ?_
 refine RG.ownN [(1,100)] [(1,77),(100,1)] (EC es clk) rfl rfl rfl rfl rfl rfl rfl rfl rfl rfl ?_
 refine wH rfl ?_
 refine RG.ownN [(77,77),(2,2),(1,1)] [(201,201),(77,77),(2,2),(1,1)] (qj es clk next (.i .i64 (next:Nat)) (.sl (ats.map aB)) hk.es (by have:next<=1000000000:=hn;omega) (by have:es.length<=1000:=he;omega)) rfl rfl rfl rfl rfl rfl rfl rfl rfl rfl ?_
 refine jH ?_
 have hks:(es.map (·.1)).length=es.length:=qH _
 have hkg:∀i (h:i<(es.map (·.1)).length),(es.map (·.1))[i]=(es[i]'(hks ▸ h)).1:=fun i h=>List.getElem_map _
 generalize es.map (·.1)=ks at hks hkg
 refine AW.freeze [201] [(1,.sl (list.map cCb)),(2,.own 2 0 0),(4,.own 4 0 0),(14,.sl (ks.map cCb)),(15,.i .i64 (es.length:Nat)),(16,.i .i64 (0:Nat))] (woB q ⟨es,clk,next,ats⟩) ⟨.is rfl rfl,.rn (rO rfl rfl rfl),.rn (rO rfl rfl rfl),.fzA rfl rfl (congrArg AV.sl (vL (by rw [uR,qH];omega))),.is rfl rfl,.is rfl rfl,trivial⟩ ⟨.old (.ghost rfl rfl rfl),.old (.obj rfl rfl),.old (.boxL rfl jQ rfl),.old (bS rfl rfl rfl),trivial⟩ rfl ?_
 generalize hR:woF list es ⟨es,clk,next,ats⟩=R
 refine AW.loopL (ι:=Nat × Kn) (fun x=>[(1,.sl (list.map cCb)),(2,.own 2 0 0),(4,.own 4 0 0),(14,.sl (ks.map cCb)),(15,.i .i64 (es.length:Nat)),(16,.i .i64 (x.1:Nat))]) (fun x=>woB q x.2) (fun x=>(x.1<=es.length/\gS x.2/\x.2.next<=1000000000/\x.2.es.length<=1000/\∀e∈es.drop x.1,e∈x.2.es)/\woF list (es.drop x.1) x.2=R) (fun x=>es.length - x.1) (0,⟨es,clk,next,ats⟩) ⟨⟨qR _,hk,hn,he,fun e h=>h⟩,hR⟩ jW ⟨.ghost rfl rfl rfl,.obj rfl rfl,.boxL rfl jQ rfl,bS rfl rfl rfl,trivial⟩ fun x hx=>?_
 have hnd:=hk.es.keys
 have hle:es.length<=1000:=he
 clear hR hk hn he
 obtain ⟨i,⟨es1,clk1,next1,ats1⟩⟩:=x
 obtain ⟨⟨hi,hk,hn,he,hm⟩,hf⟩:=hx
 simp only at hi hk hn he hm hf
 refine jA ?_
 refine AW.cond rfl (fun h1=>?_) (fun h1=>?_)
 ·have h3:i<es.length:=by simpa using h1
  have h3':i<ks.length:=by omega
  have hd:es.drop i=es[i]::es.drop (i+1):=qV h3
  rw [hd] at hm hf
  rw [woF] at hf
  have hki:=hkg i h3'
  refine jA ?_
  refine RG.opS rfl (ai rfl (tk rfl) rfl (tk rfl) rfl rfl (show (ks.map cCb)[i]?=some (cCb ks[i]) by rw [qE,qA (by assumption)];rfl) rfl) rfl ?_
  refine jH ?_
  rw [hki]
  generalize es[i]=e at hd hm hf
  refine RG.callS rfl rfl rfl rfl rfl (n5 e.1 list _ rfl) rfl rfl ?_;refine jH ?_
  refine AW.cond rfl (fun h2=>?_) (fun h2=>?_)
  ·rw [h2,cond_true] at hf
   refine AW.exit ?_;first | (refine Eq.mpr (if_pos rfl) ?_) | (refine Eq.mpr (if_neg (by decide)) ?_;refine Eq.mpr (if_pos rfl) ?_) | (refine Eq.mpr (if_neg (by decide)) ?_;refine Eq.mpr (if_neg (by decide)) ?_;refine Eq.mpr (if_pos rfl) ?_);refine jA ?_
   refine wF ?_;refine wH rfl ?_;refine jB ?_
   exact ⟨(i+1,⟨es1,clk1,next1,ats1⟩),⟨⟨⟨h3,hk,hn,he,fun x hx=>hm x (qZ _ hx)⟩,hf⟩,show es.length - (i+1)<es.length - i by omega⟩,⟨rI rfl rfl,rO rfl rfl rfl,rO rfl rfl rfl,rI rfl rfl,rI rfl rfl,rI (au h3 (by omega)) rfl,trivial⟩,⟨.ghost rfl rfl rfl,.obj rfl rfl,.boxL rfl jQ rfl,bS rfl rfl rfl,trivial⟩⟩
  ·rw [h2,cond_false] at hf
   have hme:=hm e vD
   have hC:=xW ats1 e.2.1 (hs0 ⟨es1,clk1,next1,ats1⟩ [] he hk) hk.parts.len
   rw [qr] at hC
   obtain ⟨c1,c2⟩:=nc hk.es hk.parts hme
   generalize dn e.2.1 ats1 []=r at hC hf c1 c2
   refine jA ?_
   refine RG.opS rfl (yM e.2.1 rfl rfl rfl rfl hk.es.keys (iP hk.es.keys hme)) rfl ?_
   refine jH ?_
   refine jm hC ?_;refine jH ?_
   refine AW.cond rfl (fun h4=>?_) (fun h4=>?_)
   ·have h5:r.2≠0:=by simpa using h4
    rw [qC h5,cond_false] at hf
    subst hf
    rw [knM,qC h5]
    refine jA ?_
    exact AW.ret (dq af rfl rfl (Rm.tup2 rfl (Rm.aggL rfl ⟨⟨Rm.is rfl rfl,rfl⟩,⟨Rm.is rfl rfl,rfl⟩,⟨Rm.is rfl rfl,rfl⟩,trivial⟩) (Rm.is rfl rfl)) ⟨.ghost rfl rfl rfl,.obj rfl rfl,trivial⟩)
   ·have h5:r.2=0:=by simpa using h4
    rw [qF h5,cond_true] at hf
    refine jA ?_
    refine RG.opS rfl (BH rfl rfl rfl rfl rfl rfl rfl hk.es.keys rfl) rfl ?_
    refine jH ?_
    have hno:∀x∈es.drop (i+1),x.1≠e.1:=fun x hx hh=>by
     have h6:((es.drop i).map (·.1)).Nodup:=List.Nodup.sublist ((List.drop_sublist i es).map _) hnd
     rw [hd,vE,vU] at h6
     exact h6.1 (vH.2 ⟨x,hx,hh⟩)
    exact ⟨(i+1,⟨es1.filter fun x=>!decide (x.1=e.1),clk1,next1,r.1⟩),⟨⟨⟨h3,⟨hk.es.filter _,c2 h5⟩,hn,vJ (List.length_filter_le _ _) he,fun x hx=>List.mem_filter.2 ⟨hm x (qZ _ hx),by simpa using hno x hx⟩⟩,hf⟩,show es.length - (i+1)<es.length - i by omega⟩,⟨rI rfl rfl,rO rfl rfl rfl,rO rfl rfl rfl,rI rfl rfl,rI rfl rfl,rI (au h3 (by omega)) rfl,trivial⟩,⟨.ghost rfl rfl rfl,.obj rfl rfl,.boxL rfl jQ rfl,bS rfl rfl rfl,trivial⟩⟩
 ·have h3:¬i<es.length:=by simpa using h1
  rw [List.drop_eq_nil_of_le (by omega),woF] at hf
  subst hf
  refine jE ?_;refine jA ?_
  exact AW.ret (dq af rfl rfl (Rm.tup2 rfl (Rm.aggL rfl ⟨⟨Rm.refIs rfl rfl rfl rfl,rfl⟩,⟨Rm.is rfl rfl,rfl⟩,⟨Rm.is rfl rfl,rfl⟩,trivial⟩) (Rm.is rfl rfl)) ⟨.ghost rfl rfl rfl,.obj rfl rfl,trivial⟩)
theorem AtQ.atomOk {es:List CE} {clk n:Nat} {a:aH} (hE:ix es clk n) (h:AtQ es a):nr n a :=
 ⟨h.pile,fun i hi=>by
  obtain ⟨e,he,rfl⟩:=h.ids i hi
  exact (hE.lt e he).2,h.up⟩
theorem Ff (list:List Cb) (k:Kn) (hk:gS k) (hn:k.next+list.length<=1000000000) (he:k.es.length+list.length<=1000) (hs:∀c∈list,c.sound=true) (q:Nat->Option (Nat × Nat)):aq Tryz.prog 70 [knR 1 k,.sl (list.map cCb)] (gl q [1] [(1,⟨0,some (cd k.es k.clk)⟩)]) (knM (wiF list k)) (gl q [1] [(1,⟨0,some (cd (wiF list k).1.es (wiF list k).1.clk)⟩)]):=by
 refine aq.of_body Tryz.func70 rfl (by kernel_rfl) rfl rfl ?_
 obtain ⟨es,clk,next,ats⟩:=k
 refine jA ?_
 generalize hR:wiF list ⟨es,clk,next,ats⟩=R
 refine AW.loopL (ι:=Nat × Kn) (fun x=>[(2,.own 2 0 0),(4,.own 4 0 0),(12,.sl (list.map cCb)),(13,.i .i64 (list.map cCb).length),(14,.i .i64 (x.1:Nat))]) (fun x=>woB q x.2) (fun x=>(x.1<=list.length/\gS x.2/\x.2.next+(list.length - x.1)<=1000000000/\x.2.es.length+(list.length - x.1)<=1000)/\wiF (list.drop x.1) x.2=R) (fun x=>list.length - x.1) (0,⟨es,clk,next,ats⟩) ⟨⟨qR _,hk,hn,he⟩,hR⟩ jW ⟨.ghost rfl rfl rfl,.obj rfl rfl,.boxL rfl jQ rfl,bS rfl rfl rfl,trivial⟩ fun x hx=>?_
 have hle:list.length<=1000:=by have:es.length+list.length<=1000:=he;omega
 clear hR hk hn he
 obtain ⟨i,⟨es1,clk1,next1,ats1⟩⟩:=x
 obtain ⟨⟨hi,hk,hn,he⟩,hf⟩:=hx
 simp only at hi hk hn he hf
 refine jA ?_
 refine AW.cond rfl (fun h1=>?_) (fun h1=>?_)
 ·have h3:i<list.length:=by simpa using h1
  have hd:list.drop i=list[i]::list.drop (i+1):=qV h3
  rw [hd,wiF] at hf
  have hc:=hs list[i] (vS h3)
  refine jA ?_
  refine RG.opS rfl (ai rfl (tk rfl) rfl (tk rfl) rfl rfl (show (list.map cCb)[i]?=some (cCb list[i]) by rw [qE,qA (by assumption)];rfl) rfl) rfl ?_
  refine jH ?_
  generalize list[i]=c at hd hf hc
  cases h2:jC es1 c with
  | true =>
   rw [h2,cond_true] at hf
   refine RG.opS rfl (oA true rfl rfl rfl rfl hk.es.keys h2) rfl ?_
   refine jH ?_
   refine AW.condT rfl ?_
   refine AW.exit ?_;first | (refine Eq.mpr (if_pos rfl) ?_) | (refine Eq.mpr (if_neg (by decide)) ?_;refine Eq.mpr (if_pos rfl) ?_) | (refine Eq.mpr (if_neg (by decide)) ?_;refine Eq.mpr (if_neg (by decide)) ?_;refine Eq.mpr (if_pos rfl) ?_);refine jA ?_
   refine wF ?_;refine wH rfl ?_;refine jB ?_
   exact ⟨(i+1,⟨es1,clk1,next1,ats1⟩),⟨⟨⟨h3,hk,show next1+(list.length - (i+1))<=_ by omega,show es1.length+(list.length - (i+1))<=_ by omega⟩,hf⟩,show list.length - (i+1)<list.length - i by omega⟩,⟨rO rfl rfl rfl,rO rfl rfl rfl,rI rfl rfl,rI rfl rfl,rI (au h3 (by omega)) rfl,trivial⟩,⟨.ghost rfl rfl rfl,.obj rfl rfl,.boxL rfl jQ rfl,bS rfl rfl rfl,trivial⟩⟩
  | false =>
   rw [h2,cond_false] at hf
   have hC:=zb ats1 next1 c (fun a ha=>⟨(hk.parts.ok a ha).atomOk hk.es,vJ (hk.parts.ok a ha).len (show es1.length<=1000 by omega)⟩) hc hk.parts.len
   rw [qr] at hC
   obtain ⟨c1,c2⟩:=kX hk.es hk.parts hc h2
   generalize dm ats1 next1 c=r at hC hf c1 c2
   have hno:∀e∈es1,e.1≠c:=fun e he hh=>by
    have:=cH.2 ⟨e,he,hh⟩
    rw [h2] at this
    cases this
   refine RG.opS rfl (oA false rfl rfl rfl rfl hk.es.keys h2) rfl ?_
   refine jH ?_
   refine AW.condF rfl ?_
   refine jA ?_
   refine jm hC ?_;refine jH ?_
   refine AW.cond rfl (fun h4=>?_) (fun h4=>?_)
   ·have h5:r.2≠0:=by simpa using h4
    rw [qC h5,cond_false] at hf
    subst hf
    rw [knM,qC h5]
    refine jA ?_
    exact AW.ret (dq af rfl rfl (Rm.tup2 rfl (Rm.aggL rfl ⟨⟨Rm.is rfl rfl,rfl⟩,⟨Rm.is rfl rfl,rfl⟩,⟨Rm.is rfl rfl,rfl⟩,trivial⟩) (Rm.is rfl rfl)) ⟨.ghost rfl rfl rfl,.obj rfl rfl,trivial⟩)
   ·have h5:r.2=0:=by simpa using h4
    rw [qF h5,cond_true] at hf
    refine jA ?_
    refine RG.opS rfl (v6 rfl rfl rfl rfl rfl hno) rfl ?_
    refine jH ?_
    have hw:AV.i .i64 (IntKind.i64.wrap ((next1:Int)+1))=AV.i .i64 ((next1+1:Nat):Int):=congrArg _ (by rw [IntKind.wrap_i64];omega)
    exact ⟨(i+1,⟨es1++[(c,(next1:Int),clk1)],clk1+1,next1+1,r.1⟩),⟨⟨⟨h3,⟨hk.es.more (by omega) hc h2,c2 h5⟩,show next1+1+(list.length - (i+1))<=_ by omega,show (es1++[(c,(next1:Int),clk1)]).length+(list.length - (i+1))<=_ by rw [qK,uB];omega⟩,hf⟩,show list.length - (i+1)<list.length - i by omega⟩,⟨rO rfl rfl rfl,rO rfl rfl rfl,rI rfl rfl,rI rfl rfl,rI (au h3 (by omega)) rfl,trivial⟩,⟨.ghost rfl rfl rfl,.obj rfl rfl,.boxL rfl ⟨Rn.refIs rfl rfl rfl,rI hw rfl,rI rfl rfl,trivial⟩ rfl,bS rfl rfl rfl,trivial⟩⟩
 ·have h3:¬i<list.length:=by simpa using h1
  rw [List.drop_eq_nil_of_le (by omega),wiF] at hf
  subst hf
  refine jE ?_;refine jA ?_
  exact AW.ret (dq af rfl rfl (Rm.tup2 rfl (Rm.aggL rfl ⟨⟨Rm.refIs rfl rfl rfl rfl,rfl⟩,⟨Rm.is rfl rfl,rfl⟩,⟨Rm.is rfl rfl,rfl⟩,trivial⟩) (Rm.is rfl rfl)) ⟨.ghost rfl rfl rfl,.obj rfl rfl,trivial⟩)
noncomputable def lvC (id:Nat) (c:Cf) (V:Nat) (k:Kn):List AV:=[.sl (c.topo.ports.map aL),.i .i64 c.pol.tenants,.sl (c.pol.peers.map cPr),.sl (c.pol.ways.map cWy),.sl (c.tables.map bE),.i .i64 (V:Nat),.ref id 0 .map,.i .i64 (k.next:Nat),.sl (k.ats.map aB),.ro (cA (bw (bN c)))]
noncomputable def lvB (c:Cf) (V:Nat) (k:Kn):List (Nat × SB):=[(300,⟨0,some (.box 96 (lvC 301 c V k))⟩),(301,⟨0,some (cd k.es k.clk)⟩)]
def aU (c:Cf) (V:Nat) (k:Kn):Kn × Int:=bif decide ((aK c (V:Nat)).length>500) then (⟨[],0,0,[]⟩,10) else eF k (bp c V)
theorem xV {P:Program} {N:Nat} {o:Oper} {s:St} {c:Call} {x:Operand} {t e id ep off n cap:Nat} {ti:TI} {bd:aD} (ho:o.op = .call c) (hc:c.callee = .builtin .len) (ha:c.args = #[x]) (hat:c.argTypes = #[t]) (ht:aF P t ti) (hk:ti.k = .slice e) (hx:s.ev x = .ref id ep (.sl off n cap)) (hid:s.σ id=⟨ep,some bd⟩):ay P N o s ⟨.i .i64 n,[],[id]⟩ :=
 mr ho hc ha hat ht hk [id] fun s' W F μ v hσ hi hv=>by
  rw [hx] at hv
  obtain ⟨b,c',hm,e⟩:=(Rel.ref' hv).2.2 _ ((hσ id (by simp)).trans hid)
  exact ⟨_,_,e⟩
def tuK (ps:List Cb) (k:Kn):Nat->Kn
 | 0=>k
 | 1=>(woF ps k.es k).1
 | _=>(wiF ps (woF ps k.es k).1).1
noncomputable def tuB (q:Nat->Option (Nat × Nat)) (c0 c:Cf) (V:Nat) (k0 k:Kn):List (Nat × SB):=gl q [300,301] ([(3,⟨0,some (.box 31 (cCf c))⟩),(4,⟨0,some (.box 90 [.raw (.map none),.i .i64 0,.raw (.slice none 0 0)])⟩),(8,⟨0,some (.box 90 [.ref 302 0 .map,.i .i64 (k.next:Nat),.sl (k.ats.map aB)])⟩),(41,⟨0,some (.box 154 [.fn 69 [] [],.fn 70 [] []])⟩),(302,⟨0,some (cd k.es k.clk)⟩)]++lvB c0 V k0)
theorem tO (c0 c : Cf) (V : Nat) (k : Kn) (h0 : c.sound = 0) (hL : c.Lens) (hV : V <= 255) (hk : gS k) (hn : k.next <= 100000000) (he : k.es.length <= 500) (q : Nat -> Option (Nat × Nat)) :
  aq Tryz.prog 33 [.own 300 0 0,.agg (cCf c)] (gl q [300,301] (lvB c0 V k)) (knT 302 (aU c V k)) (gl q [300,301] (knB 302 (aU c V k)++lvB c0 V k)):=by
 refine aq.of_body Tryz.func33 rfl (by kernel_rfl) rfl rfl ?_
 have hOf:=Ea c V hV h0 hL
 rw [ofR] at hOf
 have hFr:=rm c h0 hL V hV
 have hne:=gC h0 V
 obtain ⟨es,clk,next,ats⟩:=k
 by_cases hl:(aK c (V:Nat)).length>500
 ·have e:aU c V ⟨es,clk,next,ats⟩=(⟨[],0,0,[]⟩,10):=by rw [aU,qF hl];rfl
  rw [e]
  rw [qF hl,cond_true] at hOf
  refine jA ?_
  refine jm hOf ?_;refine jH ?_
  refine zT ?_
  exact AW.ret (dq af rfl rfl (Rm.tup2 rfl (Rm.aggL rfl ⟨⟨Rm.is rfl rfl,rfl⟩,⟨Rm.is rfl rfl,rfl⟩,⟨Rm.is rfl rfl,rfl⟩,trivial⟩) (Rm.is rfl rfl)) ⟨.ghost rfl rfl rfl,.ghost rfl rfl rfl,.boxL rfl jQ rfl,.obj rfl rfl,trivial⟩)
 ·have hlen:(bp c V).length<=500:=by rw [rr];omega
  have e:aU c V ⟨es,clk,next,ats⟩=eF ⟨es,clk,next,ats⟩ (bp c V):=by rw [aU,qC hl];rfl
  have e':fK c V=aJ (bp c V):=by rw [fK,qC hl];rfl
  rw [e]
  rw [e'] at hFr
  rw [qC hl,cond_false] at hOf
  have hnd:=fh c V
  change ae _ _ _ (.tup [.sl ((bp c V).map cCb),.i .i64 0]) at hOf
  generalize bp c V=ps at hOf hlen hnd hFr hne ⊢
  refine jA ?_
  refine jm hOf ?_;refine jH ?_
  refine zF ?_
  refine RG.ownN [(301,1)] [(30,302),(1,301)] (zq es clk) rfl rfl rfl rfl rfl rfl rfl rfl rfl rfl ?_
  refine jH ?_
  refine RG.opS rfl (fu (id:=41) rfl (tk rfl) rfl (tk rfl) rfl (by decide) rfl rfl rfl rfl rfl) rfl ?_
  refine wH rfl ?_
  refine RG.opS rfl (xV rfl rfl rfl rfl (tk rfl) rfl rfl rfl) rfl ?_
  refine jH ?_
  refine AW.loopL (ι:=Nat) (fun i=>[(0,.own 300 0 0),(3,.own 3 0 0),(4,.own 4 0 0),(6,.sl (ps.map cCb)),(8,.own 8 0 0),(41,.ref 41 0 (.sl 0 2 2)),(42,.i .i64 2),(43,.i .i64 (i:Nat))]) (fun i=>tuB q c0 c V ⟨es,clk,next,ats⟩ (tuK ps ⟨es,clk,next,ats⟩ i)) (fun i=>i=0\/(i=1/\(woF ps es ⟨es,clk,next,ats⟩).2=0)\/(i=2/\(woF ps es ⟨es,clk,next,ats⟩).2=0/\(wiF ps (woF ps es ⟨es,clk,next,ats⟩).1).2=0)) (fun i=>2 - i) 0 (.inl rfl) jQ ⟨.ghost rfl rfl rfl,.ghost rfl rfl rfl,bS rfl rfl rfl,bS rfl rfl rfl,.boxL rfl jQ rfl,.boxL rfl jQ rfl,.obj rfl rfl,.boxL rfl jQ rfl,.obj rfl rfl,trivial⟩ fun i hi=>?_
  rcases hi with rfl | ⟨rfl,e1⟩ | ⟨rfl,e1,e2⟩
  ·show AW _ _ _ _ _
   refine jA ?_
   refine AW.condT rfl ?_
   refine jA ?_
   refine RG.opS rfl (lK 0 rfl (tk rfl) rfl (tk rfl) rfl rfl rfl rfl (by decide)) rfl ?_
   refine jH ?_
   have hM:=xp ps ⟨es,clk,next,ats⟩ hk (by show next<=_;have:next<=100000000:=hn;omega) (by show es.length<=_;have:es.length<=500:=he;omega)
   by_cases w1:(woF ps es ⟨es,clk,next,ats⟩).2=0
   ·have hM1 : ∀ q, aq Tryz.prog 69 [knR 1 ⟨es, clk, next, ats⟩, .sl (ps.map cCb)] (gl q [1] [(1, ⟨0, some (cd es clk)⟩)]) (.tup [knR 1 (woF ps es ⟨es, clk, next, ats⟩).1, .i .i64 0]) (gl q [1] [(1, ⟨0, some (cd (woF ps es ⟨es, clk, next, ats⟩).1.es (woF ps es ⟨es, clk, next, ats⟩).1.clk)⟩)]) := fun q => by
     have:=hM q
     rw [knM,qF w1] at this
     exact this
    refine RG.ownN [(302,1)] [(1,302)] hM1 rfl rfl rfl rfl rfl rfl rfl rfl rfl rfl ?_
    refine jH ?_
    refine zF ?_
    exact ⟨1,⟨.inr (.inl ⟨rfl,w1⟩),by decide⟩,⟨rO rfl rfl rfl,rO rfl rfl rfl,rO rfl rfl rfl,rI rfl rfl,rO rfl rfl rfl,Rn.refIs rfl rfl rfl,rI rfl rfl,rI (au (show 0<2 by decide) (by decide)) rfl,trivial⟩,⟨.ghost rfl rfl rfl,.ghost rfl rfl rfl,bS rfl rfl rfl,bS rfl rfl rfl,.boxL rfl jQ rfl,.boxL rfl jQ rfl,.obj rfl rfl,.boxL rfl jQ rfl,.obj rfl rfl,trivial⟩⟩
   ·have hN : eF ⟨es, clk, next, ats⟩ ps = aJ ps := by
     unfold eF mY
     rw [qC w1]
     rfl
    have hM1:∀q,aq Tryz.prog 69 [knR 1 ⟨es,clk,next,ats⟩,.sl (ps.map cCb)] (gl q [1] [(1,⟨0,some (cd es clk)⟩)]) (.tup [kn0,.i .i64 (woF ps es ⟨es,clk,next,ats⟩).2]) (gl q [1] [(1,⟨0,some (cd (woF ps es ⟨es,clk,next,ats⟩).1.es (woF ps es ⟨es,clk,next,ats⟩).1.clk)⟩)]):=fun q=>by
     have:=hM q
     rw [knM,qC w1] at this
     exact this
    have w2:(!decide ((woF ps es ⟨es,clk,next,ats⟩).2=0))=true:=by rw [qC w1];rfl
    refine RG.ownN [(302,1)] [(1,302)] hM1 rfl rfl rfl rfl rfl rfl rfl rfl rfl rfl ?_
    refine jH ?_
    refine AW.condT (congrArg AV.b w2) ?_
    rw [hN]
    refine jA ?_
    generalize aJ ps=R2 at hFr ⊢
    by_cases f1:R2.2=0
    ·have hF1 : ∀ q, aq Tryz.prog 25 [.agg (cCf c), .i .i64 (V : Nat)] (gl q [] []) (.tup [knR 31 R2.1, .i .i64 0]) (gl q [] [(31, ⟨0, some (cd R2.1.es R2.1.clk)⟩)]) := fun q => by
      have:=hFr q
      rw [knT,knB,qF f1] at this
      exact this
     rw [knT,knB,qF f1]
     refine RG.ownN [] [(31,302)] hF1 rfl rfl rfl rfl rfl rfl rfl rfl rfl rfl ?_
     refine jH ?_
     exact AW.ret (dq af rfl rfl (Rm.tup2 rfl (Rm.aggL rfl ⟨⟨Rm.refIs rfl rfl rfl rfl,rfl⟩,⟨Rm.is rfl rfl,rfl⟩,⟨Rm.is rfl rfl,rfl⟩,trivial⟩) (Rm.is rfl rfl)) ⟨.ghost rfl rfl rfl,.ghost rfl rfl rfl,.obj rfl rfl,.boxL rfl jQ rfl,.obj rfl rfl,trivial⟩)
    ·have hF1 : ∀ q, aq Tryz.prog 25 [.agg (cCf c), .i .i64 (V : Nat)] (gl q [] []) (.tup [kn0, .i .i64 R2.2]) (gl q [] []) := fun q => by
      have:=hFr q
      rw [knT,knB,qC f1] at this
      exact this
     rw [knT,knB,qC f1]
     refine RG.ownN [] [] hF1 rfl rfl rfl rfl rfl rfl rfl rfl rfl rfl ?_
     refine jH ?_
     exact AW.ret (dq af rfl rfl (Rm.tup2 rfl (Rm.aggL rfl ⟨⟨Rm.is rfl rfl,rfl⟩,⟨Rm.is rfl rfl,rfl⟩,⟨Rm.is rfl rfl,rfl⟩,trivial⟩) (Rm.is rfl rfl)) ⟨.ghost rfl rfl rfl,.ghost rfl rfl rfl,.boxL rfl jQ rfl,.obj rfl rfl,trivial⟩)
  ·obtain ⟨g1,g2,g3,g4,g5,g6,g7,g8⟩:=pS ps es ⟨es,clk,next,ats⟩ hk (fun e he=>he) hk.es.keys
   show AW _ _ _ _ _
   refine jA ?_
   refine AW.condT rfl ?_
   refine jA ?_
   refine RG.opS rfl (lK 1 rfl (tk rfl) rfl (tk rfl) rfl rfl rfl rfl (by decide)) rfl ?_
   refine jH ?_
   have hM:=Ff ps (woF ps es ⟨es,clk,next,ats⟩).1 g2 (by rw [g3];show next+_<=_;have:next<=100000000:=hn;omega) (by have:es.length<=500:=he;have:(woF ps es ⟨es,clk,next,ats⟩).1.es.length<=es.length:=g5;omega) hne
   by_cases w1:(wiF ps (woF ps es ⟨es,clk,next,ats⟩).1).2=0
   ·have hM1 : ∀ q, aq Tryz.prog 70 [knR 1 (woF ps es ⟨es, clk, next, ats⟩).1, .sl (ps.map cCb)] (gl q [1] [(1, ⟨0, some (cd (woF ps es ⟨es, clk, next, ats⟩).1.es (woF ps es ⟨es, clk, next, ats⟩).1.clk)⟩)]) (.tup [knR 1 (wiF ps (woF ps es ⟨es, clk, next, ats⟩).1).1, .i .i64 0]) (gl q [1] [(1, ⟨0, some (cd (wiF ps (woF ps es ⟨es, clk, next, ats⟩).1).1.es (wiF ps (woF ps es ⟨es, clk, next, ats⟩).1).1.clk)⟩)]) := fun q => by
     have:=hM q
     rw [knM,qF w1] at this
     exact this
    refine RG.ownN [(302,1)] [(1,302)] hM1 rfl rfl rfl rfl rfl rfl rfl rfl rfl rfl ?_
    refine jH ?_
    refine zF ?_
    exact ⟨2,⟨.inr (.inr ⟨rfl,e1,w1⟩),by decide⟩,⟨rO rfl rfl rfl,rO rfl rfl rfl,rO rfl rfl rfl,rI rfl rfl,rO rfl rfl rfl,Rn.refIs rfl rfl rfl,rI rfl rfl,rI (au (show 1<2 by decide) (by decide)) rfl,trivial⟩,⟨.ghost rfl rfl rfl,.ghost rfl rfl rfl,bS rfl rfl rfl,bS rfl rfl rfl,.boxL rfl jQ rfl,.boxL rfl jQ rfl,.obj rfl rfl,.boxL rfl jQ rfl,.obj rfl rfl,trivial⟩⟩
   ·have hN : eF ⟨es, clk, next, ats⟩ ps = aJ ps := by
     unfold eF mY
     rw [qF e1,cond_true,qC w1]
     rfl
    have hM1:∀q,aq Tryz.prog 70 [knR 1 (woF ps es ⟨es,clk,next,ats⟩).1,.sl (ps.map cCb)] (gl q [1] [(1,⟨0,some (cd (woF ps es ⟨es,clk,next,ats⟩).1.es (woF ps es ⟨es,clk,next,ats⟩).1.clk)⟩)]) (.tup [kn0,.i .i64 (wiF ps (woF ps es ⟨es,clk,next,ats⟩).1).2]) (gl q [1] [(1,⟨0,some (cd (wiF ps (woF ps es ⟨es,clk,next,ats⟩).1).1.es (wiF ps (woF ps es ⟨es,clk,next,ats⟩).1).1.clk)⟩)]):=fun q=>by
     have:=hM q
     rw [knM,qC w1] at this
     exact this
    have w2:(!decide ((wiF ps (woF ps es ⟨es,clk,next,ats⟩).1).2=0))=true:=by rw [qC w1];rfl
    refine RG.ownN [(302,1)] [(1,302)] hM1 rfl rfl rfl rfl rfl rfl rfl rfl rfl rfl ?_
    refine jH ?_
    refine AW.condT (congrArg AV.b w2) ?_
    rw [hN]
    refine jA ?_
    generalize aJ ps=R2 at hFr ⊢
    by_cases f1:R2.2=0
    ·have hF1 : ∀ q, aq Tryz.prog 25 [.agg (cCf c), .i .i64 (V : Nat)] (gl q [] []) (.tup [knR 31 R2.1, .i .i64 0]) (gl q [] [(31, ⟨0, some (cd R2.1.es R2.1.clk)⟩)]) := fun q => by
      have:=hFr q
      rw [knT,knB,qF f1] at this
      exact this
     rw [knT,knB,qF f1]
     refine RG.ownN [] [(31,302)] hF1 rfl rfl rfl rfl rfl rfl rfl rfl rfl rfl ?_
     refine jH ?_
     exact AW.ret (dq af rfl rfl (Rm.tup2 rfl (Rm.aggL rfl ⟨⟨Rm.refIs rfl rfl rfl rfl,rfl⟩,⟨Rm.is rfl rfl,rfl⟩,⟨Rm.is rfl rfl,rfl⟩,trivial⟩) (Rm.is rfl rfl)) ⟨.ghost rfl rfl rfl,.ghost rfl rfl rfl,.obj rfl rfl,.boxL rfl jQ rfl,.obj rfl rfl,trivial⟩)
    ·have hF1 : ∀ q, aq Tryz.prog 25 [.agg (cCf c), .i .i64 (V : Nat)] (gl q [] []) (.tup [kn0, .i .i64 R2.2]) (gl q [] []) := fun q => by
      have:=hFr q
      rw [knT,knB,qC f1] at this
      exact this
     rw [knT,knB,qC f1]
     refine RG.ownN [] [] hF1 rfl rfl rfl rfl rfl rfl rfl rfl rfl rfl ?_
     refine jH ?_
     exact AW.ret (dq af rfl rfl (Rm.tup2 rfl (Rm.aggL rfl ⟨⟨Rm.is rfl rfl,rfl⟩,⟨Rm.is rfl rfl,rfl⟩,⟨Rm.is rfl rfl,rfl⟩,trivial⟩) (Rm.is rfl rfl)) ⟨.ghost rfl rfl rfl,.ghost rfl rfl rfl,.boxL rfl jQ rfl,.obj rfl rfl,trivial⟩)
  ·have hN : eF ⟨es, clk, next, ats⟩ ps = ((wiF ps (woF ps es ⟨es, clk, next, ats⟩).1).1, 0) := by
    unfold eF mY
    rw [qF e1,cond_true,qF e2]
    rfl
   rw [hN]
   show AW _ _ _ _ _
   refine jA ?_
   refine AW.condF rfl ?_
   refine jE ?_;refine jA ?_
   exact AW.ret (dq af rfl rfl (Rm.tup2 rfl (Rm.aggL rfl ⟨⟨Rm.refIs rfl rfl rfl rfl,rfl⟩,⟨Rm.is rfl rfl,rfl⟩,⟨Rm.is rfl rfl,rfl⟩,trivial⟩) (Rm.is rfl rfl)) ⟨.ghost rfl rfl rfl,.ghost rfl rfl rfl,.obj rfl rfl,.boxL rfl jQ rfl,.obj rfl rfl,trivial⟩)
abbrev Rws:=List (List AV)
section
variable {e1 e2 e3 m : Nat} {U : List (List Rws)} {P : List Rws}
def lo (k:Nat):Bool:=Nat.ble k 1000
end
theorem mg {X:List (List AV)} {n:Nat} (h:X.length=n):AV.sl ((X.drop 0).take n) = .sl X:=by
 rw [uR,<- h,vW]
section
variable {P : Program} {N : Nat} {o : Oper} {s : St}
theorem nJ {α:Type} (cF:α->List AV) (l:List α) {S:Nat} (hb:l.length*S<=140737488355328) {c:Call} {xo yo:Operand} {t e id:Nat} {ti ei:TI} (hS:ei.sz=S) (hS1:Nat.ble 1 S=true) (hcf:∀x,(cF x).length=ei.n) (ho:o.op = .call c) (hc:c.callee = .builtin .append) (ha:c.args = #[xo,yo]) (hat:c.argTypes = #[t,t]) (ht:aF P t ti) (hk:ti.k = .slice e) (he:aF P e ei) (h0:(ei.n == 0)=false)
  (hx:∃ep,s.ev xo = .row id ep 0 0/\s.σ id=⟨ep,some (.row e ei.n [])⟩) (hy:s.ev yo = .sl (l.map cF)) :
  ay P N o s ⟨.row id ((s.σ id).ep+1) 0 (l.map cF).length,[(id,⟨(s.σ id).ep+1,some (.row e ei.n (l.map cF))⟩)],[]⟩:=by
 have h1:=qU hS1
 have h2:l.length*1<=l.length*S:=Nat.mul_le_mul_left _ h1
 refine mJ (els:=[]) (els2:=l.map cF) ho hc ha hat ht hk he h0 (.inl hx) hy (fun cs h=>by
  obtain ⟨x,_,rfl⟩:=vH.1 h
  exact hcf x) ?_ ?_ (uT _) rfl
 ·rw [qH,List.length_nil,vN,hS];exact hb
 ·rw [qH,List.length_nil];omega
theorem pj {els r:List (List AV)} {cs:List AV} {S:Nat} (hr:els++[cs]=r) (hb:(els.length+1)*S<=140737488355328) {c:Call} {xo yo:Operand} {t e id id2 ep2:Nat} {cs0:List AV} {ti ei:TI} (hcs:cs0=cs) (hS:ei.sz=S) (hS1:Nat.ble 1 S=true) (ho:o.op = .call c) (hc:c.callee = .builtin .append) (ha:c.args = #[xo,yo]) (hat:c.argTypes = #[t,t]) (ht:aF P t ti) (hk:ti.k = .slice e) (he:aF P e ei) (h0:(ei.n == 0)=false)
  (hx:∃ep,s.ev xo = .row id ep 0 els.length/\s.σ id=⟨ep,some (.row e ei.n els)⟩) (hy:s.ev yo = .row id2 ep2 0 1) (hid2:s.σ id2=⟨ep2,some (.row e ei.n [cs0])⟩) :
  ay P N o s ⟨.row id ((s.σ id).ep+1) 0 r.length,[(id,⟨(s.σ id).ep+1,some (.row e ei.n r)⟩)],[id2]⟩:=by
 subst hcs
 have h1:=qU hS1
 have h2:(els.length+1)*1<=(els.length+1)*S:=Nat.mul_le_mul_left _ h1
 refine nl (els:=els) (els2:=[cs0]) ho hc ha hat ht hk he h0 (.inl hx) hy hid2 ?_ ?_ hr rfl
 ·rw [hS];exact hb
 ·simp only [uB];omega
end
structure Cf.Fit (c:Cf):Prop where
 ports:c.topo.ports.length*24<=reachBytes
 pts:∀r∈c.topo.ports,r.length*40<=reachBytes
 peers:c.pol.peers.length*16<=reachBytes
 ways:c.pol.ways.length*24<=reachBytes
 tabs:c.tables.length*24<=reachBytes
 rows:∀t∈c.tables,t.length*24<=reachBytes
 rules:∀t∈c.tables,∀l∈t,l.length*96<=reachBytes
theorem bK:reachBytes=140737488351232:=by decide
theorem nz {W:World} {F:Nat->Prop} {v:Value} (h:ar W F (.sl []) v):∃A c,v = .slice A 0 c:=by
 obtain ⟨A,k,e,_⟩:=bP h
 exact ⟨A,k,e⟩
theorem dE {W:World} {F:Nat->Prop} {A:Option Addr}:ar W F (.sl []) (.slice A 0 0) :=
 .sl [] A 0 0 0 0 (fun _ _=>undef) (qJ _) (by decide) (fun h=>absurd h (by simp)) (fun k cs h=>by simp at h) (fun k cs j x h=>by simp at h) (fun k cs j x h=>by simp at h) (fun k cs j x h=>by simp at h)
theorem qp:ae Tryz.prog 98 [.sl []] (.sl []):=by
 refine ⟨⟨_,_,Tryz.func98,rfl,by kernel_rfl⟩,fun W F vs hvl hv hF hL=>?_⟩
 match vs,hvl,hv with
 | [v],_,hv =>
 obtain ⟨A,c,rfl⟩:=nz (hv 0 _ _ rfl rfl)
 clear hv hF hL
 cases A with
 | none =>
  have heq:∀W,(binOp .eql 53 (.slice none 0 c) (.slice none 0 0)).run Tryz.prog W = .ok (.bool true) W:=fun W=>by kernel_rfl
  go_enter Tryz.func98,Tryz.ntmps98
  go_wp2_with fail
  go_ret
  exact ⟨_,rfl,Kp.refl _ _,dE⟩
 | some a =>
  have heq:∀W,(binOp .eql 53 (.slice (some a) 0 c) (.slice none 0 0)).run Tryz.prog W = .ok (.bool false) W:=fun W=>by kernel_rfl
  have happ:∀W b,(Builtin.append_ #[53,53] 53 #[.slice (some b) 0 0,.slice (some a) 0 c]).run Tryz.prog W = .ok (.slice (some b) 0 0) W:=fun W b=>by kernel_rfl
  go_enter Tryz.func98,Tryz.ntmps98
  go_wp2_with fail
  go_ret
  exact ⟨_,rfl,(Kp.refl _ _).alloc _,dE⟩
theorem tR (x:Rl) (l:List (Rl)) (hl:(x::l).length*96<=reachBytes) (q:Nat->Option (Nat × Nat)):aq Tryz.prog 98 [.sl ((x::l).map cRl)] (gl q [] []) (.row 5 0 0 (x::l).length) (gl q [] [(5,⟨0,some (.row 57 12 ((x::l).map cRl))⟩)]):=by
 refine aq.of_body Tryz.func98 rfl (by kernel_rfl) rfl rfl ?_
 have hlen:((x::l).map cRl).length=(x::l).length:=qH ..
 rw [bK] at hl
 refine jA ?_
 refine zF ?_
 refine RG.opS rfl (di (id:=5) rfl (tk rfl) rfl (tk rfl)) rfl ?_;refine jH ?_
 refine RG.opS rfl (nJ cRl (x::l) (S:=96) (by omega) rfl rfl (fun _=>rfl) rfl rfl rfl rfl (tk rfl) rfl (tk rfl) rfl ⟨_,rfl,rfl⟩ rfl) rfl ?_
 refine jH ?_
 rw [<- hlen]
 exact AW.ret (dQ rfl (Rm.rowIs rfl rfl rfl rfl) ⟨.row rfl rfl,trivial⟩)
theorem ue (l:List (Rl)) (hl:l.length*96<=reachBytes):ae Tryz.prog 98 [.sl (l.map cRl)] (.sl (l.map cRl)):=by
 match l,hl with
 | [],_=>exact qp
 | x::l,hl =>
 rw [bK] at hl
 refine jb Tryz.func98 ?_
 refine jA ?_
 refine zF ?_
 refine RG.opS rfl (di (id:=5) rfl (tk rfl) rfl (tk rfl)) rfl ?_;refine jH ?_
 refine RG.opS rfl (nJ cRl (x::l) (S:=96) (by omega) rfl rfl (fun _=>rfl) rfl rfl rfl rfl (tk rfl) rfl (tk rfl) rfl ⟨_,rfl,rfl⟩ rfl) rfl ?_
 refine zH ?_
 exact mg rfl
theorem sL:ae Tryz.prog 95 [.sl []] (.sl []):=by
 refine ⟨⟨_,_,Tryz.func95,rfl,by kernel_rfl⟩,fun W F vs hvl hv hF hL=>?_⟩
 match vs,hvl,hv with
 | [v],_,hv =>
 obtain ⟨A,c,rfl⟩:=nz (hv 0 _ _ rfl rfl)
 clear hv hF hL
 cases A with
 | none =>
  have heq:∀W,(binOp .eql 112 (.slice none 0 c) (.slice none 0 0)).run Tryz.prog W = .ok (.bool true) W:=fun W=>by kernel_rfl
  go_enter Tryz.func95,Tryz.ntmps95
  go_wp2_with fail
  go_ret
  exact ⟨_,rfl,Kp.refl _ _,dE⟩
 | some a =>
  have heq:∀W,(binOp .eql 112 (.slice (some a) 0 c) (.slice none 0 0)).run Tryz.prog W = .ok (.bool false) W:=fun W=>by kernel_rfl
  have happ:∀W b,(Builtin.append_ #[112,112] 112 #[.slice (some b) 0 0,.slice (some a) 0 c]).run Tryz.prog W = .ok (.slice (some b) 0 0) W:=fun W b=>by kernel_rfl
  go_enter Tryz.func95,Tryz.ntmps95
  go_wp2_with fail
  go_ret
  exact ⟨_,rfl,(Kp.refl _ _).alloc _,dE⟩
theorem s5 (l:List (Pt)) (hl:l.length*40<=reachBytes):ae Tryz.prog 95 [.sl (l.map cPt)] (.sl (l.map cPt)):=by
 match l,hl with
 | [],_=>exact sL
 | x::l,hl =>
 rw [bK] at hl
 refine jb Tryz.func95 ?_
 refine jA ?_
 refine zF ?_
 refine RG.opS rfl (di (id:=5) rfl (tk rfl) rfl (tk rfl)) rfl ?_;refine jH ?_
 refine RG.opS rfl (nJ cPt (x::l) (S:=40) (by omega) rfl rfl (fun _=>rfl) rfl rfl rfl rfl (tk rfl) rfl (tk rfl) rfl ⟨_,rfl,rfl⟩ rfl) rfl ?_
 refine zH ?_
 exact mg rfl
theorem rU:ae Tryz.prog 52 [.sl []] (.sl []):=by
 refine ⟨⟨_,_,Tryz.func52,rfl,by kernel_rfl⟩,fun W F vs hvl hv hF hL=>?_⟩
 match vs,hvl,hv with
 | [v],_,hv =>
 obtain ⟨A,c,rfl⟩:=nz (hv 0 _ _ rfl rfl)
 clear hv hF hL
 cases A with
 | none =>
  have heq:∀W,(binOp .eql 25 (.slice none 0 c) (.slice none 0 0)).run Tryz.prog W = .ok (.bool true) W:=fun W=>by kernel_rfl
  go_enter Tryz.func52,Tryz.ntmps52
  go_wp2_with fail
  go_ret
  exact ⟨_,rfl,Kp.refl _ _,dE⟩
 | some a =>
  have heq:∀W,(binOp .eql 25 (.slice (some a) 0 c) (.slice none 0 0)).run Tryz.prog W = .ok (.bool false) W:=fun W=>by kernel_rfl
  have happ:∀W b,(Builtin.append_ #[25,25] 25 #[.slice (some b) 0 0,.slice (some a) 0 c]).run Tryz.prog W = .ok (.slice (some b) 0 0) W:=fun W b=>by kernel_rfl
  go_enter Tryz.func52,Tryz.ntmps52
  go_wp2_with fail
  go_ret
  exact ⟨_,rfl,(Kp.refl _ _).alloc _,dE⟩
theorem nL (l:List (Int × Int)) (hl:l.length*16<=reachBytes):ae Tryz.prog 52 [.sl (l.map cPr)] (.sl (l.map cPr)):=by
 match l,hl with
 | [],_=>exact rU
 | x::l,hl =>
 rw [bK] at hl
 refine jb Tryz.func52 ?_
 refine jA ?_
 refine zF ?_
 refine RG.opS rfl (di (id:=5) rfl (tk rfl) rfl (tk rfl)) rfl ?_;refine jH ?_
 refine RG.opS rfl (nJ cPr (x::l) (S:=16) (by omega) rfl rfl (fun _=>rfl) rfl rfl rfl rfl (tk rfl) rfl (tk rfl) rfl ⟨_,rfl,rfl⟩ rfl) rfl ?_
 refine zH ?_
 exact mg rfl
theorem rC:ae Tryz.prog 54 [.sl []] (.sl []):=by
 refine ⟨⟨_,_,Tryz.func54,rfl,by kernel_rfl⟩,fun W F vs hvl hv hF hL=>?_⟩
 match vs,hvl,hv with
 | [v],_,hv =>
 obtain ⟨A,c,rfl⟩:=nz (hv 0 _ _ rfl rfl)
 clear hv hF hL
 cases A with
 | none =>
  have heq:∀W,(binOp .eql 26 (.slice none 0 c) (.slice none 0 0)).run Tryz.prog W = .ok (.bool true) W:=fun W=>by kernel_rfl
  go_enter Tryz.func54,Tryz.ntmps54
  go_wp2_with fail
  go_ret
  exact ⟨_,rfl,Kp.refl _ _,dE⟩
 | some a =>
  have heq:∀W,(binOp .eql 26 (.slice (some a) 0 c) (.slice none 0 0)).run Tryz.prog W = .ok (.bool false) W:=fun W=>by kernel_rfl
  have happ:∀W b,(Builtin.append_ #[26,26] 26 #[.slice (some b) 0 0,.slice (some a) 0 c]).run Tryz.prog W = .ok (.slice (some b) 0 0) W:=fun W b=>by kernel_rfl
  go_enter Tryz.func54,Tryz.ntmps54
  go_wp2_with fail
  go_ret
  exact ⟨_,rfl,(Kp.refl _ _).alloc _,dE⟩
theorem nv (l:List (Wy)) (hl:l.length*24<=reachBytes):ae Tryz.prog 54 [.sl (l.map cWy)] (.sl (l.map cWy)):=by
 match l,hl with
 | [],_=>exact rC
 | x::l,hl =>
 rw [bK] at hl
 refine jb Tryz.func54 ?_
 refine jA ?_
 refine zF ?_
 refine RG.opS rfl (di (id:=5) rfl (tk rfl) rfl (tk rfl)) rfl ?_;refine jH ?_
 refine RG.opS rfl (nJ cWy (x::l) (S:=24) (by omega) rfl rfl (fun _=>rfl) rfl rfl rfl rfl (tk rfl) rfl (tk rfl) rfl ⟨_,rfl,rfl⟩ rfl) rfl ?_
 refine zH ?_
 exact mg rfl
theorem xe (l:List (Rl)):ae Tryz.prog 97 [.sl (l.map cRl)] (.sl (l.map cRl)):=by
 refine jb Tryz.func97 ?_
 refine jA ?_
 refine RG.opS rfl (ew rfl (tk rfl) rfl (tk rfl) rfl rfl rfl) rfl ?_
 refine zH ?_
 rfl
theorem xE (l:List (Pt)):ae Tryz.prog 94 [.sl (l.map cPt)] (.sl (l.map cPt)):=by
 refine jb Tryz.func94 ?_
 refine jA ?_
 refine RG.opS rfl (ew rfl (tk rfl) rfl (tk rfl) rfl rfl rfl) rfl ?_
 refine zH ?_
 rfl
theorem oi (l:List (Int × Int)):ae Tryz.prog 51 [.sl (l.map cPr)] (.sl (l.map cPr)):=by
 refine jb Tryz.func51 ?_
 refine jA ?_
 refine RG.opS rfl (ew rfl (tk rfl) rfl (tk rfl) rfl rfl rfl) rfl ?_
 refine zH ?_
 rfl
theorem oy (l:List (Wy)):ae Tryz.prog 53 [.sl (l.map cWy)] (.sl (l.map cWy)):=by
 refine jb Tryz.func53 ?_
 refine jA ?_
 refine RG.opS rfl (ew rfl (tk rfl) rfl (tk rfl) rfl rfl rfl) rfl ?_
 refine zH ?_
 rfl
theorem s7 (l:List (List Pt)):ae Tryz.prog 96 [.sl (l.map aL)] (.sl (l.map aL)):=by
 refine jb Tryz.func96 ?_
 refine jA ?_
 refine RG.opS rfl (ew rfl (tk rfl) rfl (tk rfl) rfl rfl rfl) rfl ?_
 refine zH ?_
 rfl
theorem tB (l:List (List Rl)):ae Tryz.prog 99 [.sl (l.map aP)] (.sl (l.map aP)):=by
 refine jb Tryz.func99 ?_
 refine jA ?_
 refine RG.opS rfl (ew rfl (tk rfl) rfl (tk rfl) rfl rfl rfl) rfl ?_
 refine zH ?_
 rfl
theorem ua (l:List (List (List Rl))):ae Tryz.prog 56 [.sl (l.map bE)] (.sl (l.map bE)):=by
 refine jb Tryz.func56 ?_
 refine jA ?_
 refine RG.opS rfl (ew rfl (tk rfl) rfl (tk rfl) rfl rfl rfl) rfl ?_
 refine zH ?_
 rfl
theorem xJ (t:List (List Rl)) (ht:t.length*24<=reachBytes) (hr:∀l∈t,l.length*96<=reachBytes):ae Tryz.prog 55 [.sl (t.map aP)] (.sl (t.map aP)):=by
 rw [bK] at ht
 refine jb Tryz.func55 ?_
 refine jA ?_
 refine AW.nilRow 40 0 53 1 [(3,.row 40 0 0 0),(6,.sl (t.map aP)),(7,.i .i64 (t.map aP).length),(8,.i .i64 (0:Nat))] [(40,⟨0,some (.row 53 1 [])⟩)] ⟨.nil rfl,.is rfl rfl,.is rfl rfl,.is rfl rfl,trivial⟩ ⟨.old (bR rfl rfl),trivial⟩ ?_
 refine AW.loopL (ι:=Nat) (fun i=>[(3,.row 40 0 0 ((t.take i).map aP).length),(6,.sl (t.map aP)),(7,.i .i64 (t.map aP).length),(8,.i .i64 (i:Nat))]) (fun i=>[(40,⟨0,some (.row 53 1 ((t.take i).map aP))⟩)]) (fun i=>i<=t.length) (fun i=>t.length - i) 0 (qR _) jW jW fun i hi=>?_
 refine jA ?_
 refine AW.cond rfl (fun h1=>?_) (fun h1=>?_)
 ·have k:i<t.length:=by simpa using h1
  have hrk:=hr t[i] (vS k)
  have htk:(t.take i).map aP++[aP t[i]]=(t.take (i+1)).map aP:=by
   rw [List.take_add_one,qA k,uA];rfl
  have hln:((t.take i).map aP).length=i:=by rw [qH,vG];omega
  generalize hX:(t.take i).map aP=X at htk hln
  refine jA ?_
  refine RG.opS rfl (ai rfl (tk rfl) rfl (tk rfl) rfl rfl (show (t.map aP)[i]?=some (aP t[i]) by rw [qE,qA (by assumption)];rfl) rfl) rfl ?_
  refine jH ?_
  refine jm (ue t[i] hrk) ?_
  refine wH rfl ?_
  refine jm (xe t[i]) ?_
  refine wH rfl ?_
  refine RG.opS rfl (pj (S:=24) htk (by rw [hln];omega) rfl rfl rfl rfl rfl rfl rfl (tk rfl) rfl (tk rfl) rfl ⟨_,rfl,rfl⟩ rfl rfl) rfl ?_
  refine jH ?_
  subst hX
  exact ⟨i+1,⟨k,by omega⟩,⟨rR rfl rfl rfl,rI rfl rfl,rI rfl rfl,rI (au k (by omega)) rfl,trivial⟩,⟨bR rfl rfl,trivial⟩⟩
 ·have k:¬i<t.length:=by simpa using h1
  obtain rfl:i=t.length:=by omega
  rw [vW]
  refine jE ?_;refine jA ?_
  refine RG.callMS rfl rfl rfl rfl (congrArg (fun x=>[x]) (bq rfl)) rfl (tB t) rfl ?_;refine jH ?_
  exact zS
theorem oX (t:List (List Pt)) (ht:t.length*24<=reachBytes) (hr:∀l∈t,l.length*40<=reachBytes):ae Tryz.prog 50 [.sl (t.map aL)] (.sl (t.map aL)):=by
 rw [bK] at ht
 refine jb Tryz.func50 ?_
 refine jA ?_
 refine AW.nilRow 40 0 112 1 [(3,.row 40 0 0 0),(6,.sl (t.map aL)),(7,.i .i64 (t.map aL).length),(8,.i .i64 (0:Nat))] [(40,⟨0,some (.row 112 1 [])⟩)] ⟨.nil rfl,.is rfl rfl,.is rfl rfl,.is rfl rfl,trivial⟩ ⟨.old (bR rfl rfl),trivial⟩ ?_
 refine AW.loopL (ι:=Nat) (fun i=>[(3,.row 40 0 0 ((t.take i).map aL).length),(6,.sl (t.map aL)),(7,.i .i64 (t.map aL).length),(8,.i .i64 (i:Nat))]) (fun i=>[(40,⟨0,some (.row 112 1 ((t.take i).map aL))⟩)]) (fun i=>i<=t.length) (fun i=>t.length - i) 0 (qR _) jW jW fun i hi=>?_
 refine jA ?_
 refine AW.cond rfl (fun h1=>?_) (fun h1=>?_)
 ·have k:i<t.length:=by simpa using h1
  have hrk:=hr t[i] (vS k)
  have htk:(t.take i).map aL++[aL t[i]]=(t.take (i+1)).map aL:=by
   rw [List.take_add_one,qA k,uA];rfl
  have hln:((t.take i).map aL).length=i:=by rw [qH,vG];omega
  generalize hX:(t.take i).map aL=X at htk hln
  refine jA ?_
  refine RG.opS rfl (ai rfl (tk rfl) rfl (tk rfl) rfl rfl (show (t.map aL)[i]?=some (aL t[i]) by rw [qE,qA (by assumption)];rfl) rfl) rfl ?_
  refine jH ?_
  refine jm (s5 t[i] hrk) ?_
  refine wH rfl ?_
  refine jm (xE t[i]) ?_
  refine wH rfl ?_
  refine RG.opS rfl (pj (S:=24) htk (by rw [hln];omega) rfl rfl rfl rfl rfl rfl rfl (tk rfl) rfl (tk rfl) rfl ⟨_,rfl,rfl⟩ rfl rfl) rfl ?_
  refine jH ?_
  subst hX
  exact ⟨i+1,⟨k,by omega⟩,⟨rR rfl rfl rfl,rI rfl rfl,rI rfl rfl,rI (au k (by omega)) rfl,trivial⟩,⟨bR rfl rfl,trivial⟩⟩
 ·have k:¬i<t.length:=by simpa using h1
  obtain rfl:i=t.length:=by omega
  rw [vW]
  refine jE ?_;refine jA ?_
  refine RG.callMS rfl rfl rfl rfl (congrArg (fun x=>[x]) (bq rfl)) rfl (s7 t) rfl ?_;refine jH ?_
  exact zS
def zCr:List AV:=[.raw (.slice none 0 0),.i .i64 0,.raw (.slice none 0 0),.raw (.slice none 0 0),.raw (.slice none 0 0)]
theorem nh (c:Cf) (hf:c.Fit):ae Tryz.prog 26 [.agg (cCf c)] (.agg (cCf c)):=by
 refine jb Tryz.func26 ?_
 have hp:=oX c.topo.ports hf.ports hf.pts
 have hT:=hf.tabs
 rw [bK] at hT
 refine jA ?_
 refine jm hp ?_;refine jH ?_
 refine jm (nL c.pol.peers hf.peers) ?_
 refine wH rfl ?_
 refine jm (oi c.pol.peers) ?_
 refine wH rfl ?_
 refine jm (nv c.pol.ways hf.ways) ?_
 refine wH rfl ?_
 refine jm (oy c.pol.ways) ?_;refine jH ?_
 refine AW.nilRow 40 0 52 1 [(1,.own 1 0 0),(2,.own 2 0 0),(3,.row 40 0 0 0),(27,.sl (c.tables.map bE)),(28,.i .i64 (c.tables.map bE).length),(29,.i .i64 (0:Nat))] [(1,⟨0,some (.box 31 (cCf c))⟩),(2,⟨0,some (.box 31 zCr)⟩),(40,⟨0,some (.row 52 1 [])⟩)] ⟨.rn (rO rfl rfl rfl),.rn (rO rfl rfl rfl),.nil rfl,.is rfl rfl,.is rfl rfl,.is rfl rfl,trivial⟩ ⟨.old (bS rfl rfl rfl),.boxL rfl ⟨.is rfl rfl,.is rfl rfl,.is rfl rfl,.is rfl rfl,.is rfl rfl,trivial⟩ rfl,.old (bR rfl rfl),trivial⟩ ?_
 refine AW.loopL (ι:=Nat) (fun i=>[(1,.own 1 0 0),(2,.own 2 0 0),(3,.row 40 0 0 ((c.tables.take i).map bE).length),(27,.sl (c.tables.map bE)),(28,.i .i64 (c.tables.map bE).length),(29,.i .i64 (i:Nat))]) (fun i=>[(1,⟨0,some (.box 31 (cCf c))⟩),(2,⟨0,some (.box 31 zCr)⟩),(40,⟨0,some (.row 52 1 ((c.tables.take i).map bE))⟩)]) (fun i=>i<=c.tables.length) (fun i=>c.tables.length - i) 0 (qR _) jW ⟨bS rfl rfl rfl,.boxL rfl jQ rfl,bR rfl rfl,trivial⟩ fun i hi=>?_
 refine jA ?_
 refine AW.cond rfl (fun h1=>?_) (fun h1=>?_)
 ·have k:i<c.tables.length:=by simpa using h1
  have hd:=xJ c.tables[i] (hf.rows _ (vS k)) (hf.rules _ (vS k))
  have htk:(c.tables.take i).map bE++[bE c.tables[i]]=(c.tables.take (i+1)).map bE:=by
   rw [List.take_add_one,qA k,uA];rfl
  have hln:((c.tables.take i).map bE).length=i:=by rw [qH,vG];omega
  generalize hX:(c.tables.take i).map bE=X at htk hln
  refine jA ?_
  refine RG.opS rfl (ai rfl (tk rfl) rfl (tk rfl) rfl rfl (show (c.tables.map bE)[i]?=some (bE c.tables[i]) by rw [qE,qA (by assumption)];rfl) rfl) rfl ?_
  refine jH ?_
  refine jm hd ?_
  refine wH rfl ?_
  refine RG.opS rfl (pj (S:=24) htk (by rw [hln];omega) rfl rfl rfl rfl rfl rfl rfl (tk rfl) rfl (tk rfl) rfl ⟨_,rfl,rfl⟩ rfl rfl) rfl ?_
  refine jH ?_
  subst hX
  exact ⟨i+1,⟨k,by omega⟩,⟨rO rfl rfl rfl,rO rfl rfl rfl,rR rfl rfl rfl,rI rfl rfl,rI rfl rfl,rI (au k (by omega)) rfl,trivial⟩,⟨bS rfl rfl rfl,bS rfl rfl rfl,bR rfl rfl,trivial⟩⟩
 ·have k:¬i<c.tables.length:=by simpa using h1
  obtain rfl:i=c.tables.length:=by omega
  rw [vW]
  refine jE ?_;refine jA ?_
  refine RG.callMS rfl rfl rfl rfl (congrArg (fun x=>[x]) (bq rfl)) rfl (ua c.tables) rfl ?_;refine jH ?_
  exact zS
theorem pt (c:Cf):bN c=bo c:=by
 have:(fun t:List (List Rl)=>t.flatMap id)=List.flatten:=by
  funext t
  rw [List.flatMap_def,List.map_id]
 rw [bN,bo,this,List.flatMap_def,List.flatten_flatten]
theorem o8 {c:Cf} (h0:c.sound=0):∀r∈bN c,r.mat.sound=true:=by
 rw [pt]
 intro r hr
 obtain ⟨l,hl,hr⟩:=uN.1 hr
 obtain ⟨t,ht,hl⟩:=uN.1 hl
 obtain ⟨n,hn⟩:=List.mem_iff_getElem?.1 ht
 obtain ⟨i,hi⟩:=List.mem_iff_getElem?.1 hl
 exact (Rl.sound_does ((cY ((Cf.ok h0).tabs n t hn)).2.2.2 i l hi r hr).1).1
theorem wq {c:Cf} (h0:c.sound=0) (hL:c.Lens):(bN c).length<=576:=by
 rw [pt]
 exact ij (Cf.ok h0) (Cf.small h0 hL)
theorem fw {c:Cf} {V:Int} (h:(cr c V).kind=1):dy c V=0/\(∃v:Nat,V=v/\v<=255)/\c.sound=0/\(aK c V).length<=500/\(aO (np (aK c V))).2=0:=by
 unfold cr ki at h
 by_cases h1:dy c V=0
 ·rw [qF h1,cond_true] at h
  by_cases h2:(aK c V).length>500
  ·rw [qF h2,cond_true] at h
   cases h
  ·rw [qC h2,cond_false] at h
   by_cases h3:(aO (np (aK c V))).2=0
   ·obtain ⟨_,n,e,hv⟩:=zp h1
    exact ⟨h1,⟨n,e,hv⟩,dA h1,by omega,h3⟩
   ·rw [qC h3,cond_false] at h
    cases h
 ·rw [qC h1,cond_false] at h
  cases h
theorem sN (c:Cf) (h0:c.sound=0) (hL:c.Lens):ae Tryz.prog 27 [.agg (cCf c)] (.ro (cA (bw (bN c)))) :=
 B7 c (o8 h0) (by have:=wq h0 hL;omega)
noncomputable def Db (c:Cf) (V:Nat):List (Nat × SB):=[(30,⟨0,some (.box 96 (lvC 31 c V (aJ (bp c V)).1))⟩),(31,⟨0,some (cd (aJ (bp c V)).1.es (aJ (bp c V)).1.clk)⟩)]
theorem CD (c:Cf) (V:Int) (hL:c.Lens) (h:(cr c V).kind≠1):ae Tryz.prog 8 [.agg (cCf c),.i .i64 V] (.tup [.raw (.pointer none),.agg (cVd (cr c V))]):=by
 refine jb Tryz.func8 ?_
 have hJ:=r7 c V hL
 generalize cr c V=v at hJ h
 refine jA ?_
 refine jm hJ ?_;refine jH ?_
 refine AW.cond rfl (fun h2=>?_) (fun h2=>?_)
 ·refine jA ?_
  exact zS
 ·exact absurd (by simpa using h2) h
theorem D7 (c:Cf) (V:Nat) (hL:c.Lens) (hf:c.Fit) (h:(cr c (V:Nat)).kind=1) (q:Nat->Option (Nat × Nat)):aq Tryz.prog 8 [.agg (cCf c),.i .i64 (V:Nat)] (gl q [] []) (.tup [.own 30 0 0,.agg (cVd (cr c (V:Nat)))]) (gl q [] (Db c V)):=by
 refine aq.of_body Tryz.func8 rfl (by kernel_rfl) rfl rfl ?_
 have hJ:=r7 c (V:Nat) hL
 obtain ⟨_,⟨v,e,hv⟩,h0,h5,ha⟩:=fw h
 obtain rfl:V=v:=by omega
 have e0:fK c V=aJ (bp c V):=by rw [fK,qC (by omega)];rfl
 have ef:(aJ (bp c V)).2=0:=ha
 have hF:∀q,aq Tryz.prog 25 [.agg (cCf c),.i .i64 (V:Nat)] (gl q [] []) (.tup [knR 31 (aJ (bp c V)).1,.i .i64 0]) (gl q [] [(31,⟨0,some (cd (aJ (bp c V)).1.es (aJ (bp c V)).1.clk)⟩)]):=fun q=>by
  have:=rm c h0 hL V hv q
  rw [e0,knT,knB,qF ef] at this
  exact this
 have hI:=sN c h0 hL
 rw [Db]
 unfold lvC
 generalize aJ (bp c V)=R at hF ⊢
 generalize cr c (V:Nat)=v at hJ h
 generalize cA (bw (bN c))=rt at hI ⊢
 have h1:(!decide (v.kind=1))=false:=by rw [h];rfl
 refine jA ?_
 refine jm hJ ?_;refine jH ?_
 refine AW.condF (congrArg AV.b h1) ?_
 refine jA ?_
 refine RG.ownN [] [(31,31)] hF rfl rfl rfl rfl rfl rfl rfl rfl rfl rfl ?_
 refine jH ?_
 refine jm (nh c hf) ?_;refine jH ?_
 refine jm hI ?_
 refine jH ?_
 exact AW.ret (dq af rfl rfl (Rm.tup2 rfl (Rm.ownIs rfl rfl rfl rfl) (Rm.aggL rfl ⟨⟨Rm.is rfl rfl,rfl⟩,⟨Rm.is rfl rfl,rfl⟩,⟨Rm.is rfl rfl,rfl⟩,⟨Rm.is rfl rfl,rfl⟩,⟨Rm.is rfl rfl,rfl⟩,⟨Rm.is rfl rfl,rfl⟩,⟨Rm.is rfl rfl,rfl⟩,⟨Rm.is rfl rfl,rfl⟩,⟨Rm.is rfl rfl,rfl⟩,⟨Rm.is rfl rfl,rfl⟩,⟨Rm.is rfl rfl,rfl⟩,trivial⟩)) ⟨.boxL rfl jQ rfl,.obj rfl rfl,trivial⟩)
def lX (x:Cb) (l:List (Nat × Cb)):List Int:=bif x.sound then ovL x l else []
theorem ta (x:Cb) (l:List (Nat × Cb)) (hl:l.length<=100000000):ae Tryz.prog 30 [.ro (cA l),.agg (cCb x)] (.sl ((lX x l).map cI)):=by
 unfold lX
 cases hx:x.sound
 ·exact tj x l hx
 ·exact x7 x l hl hx
theorem EN (c:Cf) (V:Nat) (k:Kn) (x:Cb) (hl:(bw (bN c)).length<=100000000) (q:Nat->Option (Nat × Nat)):aq Tryz.prog 13 [.own 300 0 0,.agg (cCb x)] (gl q [300,301] (lvB c V k)) (.sl ((lX x (bw (bN c))).map cI)) (gl q [300,301] (lvB c V k)):=by
 refine aq.of_body Tryz.func13 rfl (by kernel_rfl) rfl rfl ?_
 have hO:=ta x (bw (bN c)) hl
 rw [lvB,lvC]
 generalize cA (bw (bN c))=rt at hO ⊢
 generalize lX x (bw (bN c))=r at hO ⊢
 refine jA ?_
 refine AW.condF rfl ?_
 refine zD ?_
 refine RG.runG af 0 3 rfl ?_
 refine RG.opS rfl (j8 rfl (tk rfl) (.own rfl) rfl) rfl ?_
 refine RG.runG af 0 1 rfl ?_
 refine jm hO ?_
 refine jH ?_
 exact AW.ret (dQ rfl (Rm.is rfl rfl) ⟨.ghost rfl rfl rfl,.ghost rfl rfl rfl,.boxL rfl jQ rfl,.obj rfl rfl,trivial⟩)
theorem km (c:Cf) (V:Nat) (k:Kn) (hf:c.Fit) (q:Nat->Option (Nat × Nat)):aq Tryz.prog 16 [.own 300 0 0] (gl q [300,301] (lvB c V k)) (.agg (cCf c)) (gl q [300,301] (lvB c V k)):=by
 refine aq.of_body Tryz.func16 rfl (by kernel_rfl) rfl rfl ?_
 have hC:=nh c hf
 rw [lvB,lvC]
 generalize cA (bw (bN c))=rt
 refine jA ?_
 refine AW.condF rfl ?_
 refine jA ?_
 refine jm hC ?_;refine jH ?_
 exact AW.ret (dq af rfl rfl (Rm.aggL rfl ⟨⟨Rm.is rfl rfl,rfl⟩,⟨Rm.is rfl rfl,rfl⟩,⟨Rm.is rfl rfl,rfl⟩,⟨Rm.is rfl rfl,rfl⟩,⟨Rm.is rfl rfl,rfl⟩,trivial⟩) ⟨.ghost rfl rfl rfl,.ghost rfl rfl rfl,.boxL rfl jQ rfl,.obj rfl rfl,trivial⟩)
def aw (l:List Rl):List Value:=(l.map rlV).flatten
theorem bh:∀(l:List Rl),(aw l).length=l.length*12
 | []=>rfl
 | r::l=>by
  have:=bh l
  unfold aw at this ⊢
  rw [vE,uL,qK,this,qS]
  show 12+l.length*12=_
  omega
theorem gD (l m:List Rl):aw (l++m)=aw l++aw m:=by simp [aw]
theorem fa:∀(l:List Rl) (t:Nat),(aw l)[t]?=(l[t / 12]?).bind fun r=>(rlV r)[t % 12]?
 | [],t=>by simp [aw]
 | r::l,t=>by
  have ih:=fa l (t - 12)
  unfold aw at ih ⊢
  rw [vE,uL,vY]
  have hl:(rlV r).length=12:=rfl
  by_cases h:t<12
  ·rw [if_pos (by rw [hl];exact h),show t / 12=0 by omega,show t % 12=t by omega]
   rfl
  ·rw [if_neg (by rw [hl];exact h),hl,ih,show t / 12=(t - 12) / 12+1 by omega,show (t - 12) % 12=t % 12 by omega,uQ]
def bl (W:World) (l:List Rl) (v:Value) (bs:List Nat):Prop :=
 (bs=[]/\l=[]/\∃A,v = .slice A 0 0) \/
 ∃b cap capB cur,bs=[b]/\v = .slice (some ⟨b,0,none⟩) l.length cap/\W.heap[b]?=some (.cells cur 57 (0,0))/\l.length<=cap/\cap<=capB/\capB<=maxLen/\cur.size=capB*12/\cur.toList.take (l.length*12)=aw l
def SlQ (W:World) (ty:TypeId) (v:Value) (vs:List Value) (ob:List Nat):Prop :=
 (ob=[]/\vs=[]/\∃A,v = .slice A 0 0) \/
 ∃b cap capB cur,ob=[b]/\v = .slice (some ⟨b,0,none⟩) vs.length cap/\W.heap[b]?=some (.cells cur ty (0,0))/\vs.length<=cap/\cap<=capB/\capB<=maxLen/\cur.size=capB/\cur.toList.take vs.length=vs
def bY {α:Type} (P:World->α->Value->List Nat->Prop) (ty:TypeId) (W:World) (xs:List α) (v:Value) (bs:List Nat):Prop :=
 ∃(vs:List Value) (bss:List (List Nat)) (ob:List Nat),bs=ob++bss.flatten/\vs.length=xs.length/\bss.length=xs.length/\(∀(k:Nat) (x:α) (u:Value) (b:List Nat),xs[k]?=some x->vs[k]?=some u->bss[k]?=some b->P W x u b)/\SlQ W ty v vs ob
def eT:World->List (List Rl)->Value->List Nat->Prop:=bY bl 53
def fp:World->List (List (List Rl))->Value->List Nat->Prop:=bY eT 52
section
variable {W W' : World}
theorem bl.keep {l:List Rl} {v:Value} {bs:List Nat} (h:bl W l v bs) (hk:∀b∈bs,W'.heap[b]?=W.heap[b]?):bl W' l v bs:=by
 rcases h with h | ⟨b,cap,capB,cur,rfl,e,hh,r⟩
 ·exact .inl h
 ·exact .inr ⟨b,cap,capB,cur,rfl,e,(hk b (by simp)).trans hh,r⟩
theorem bl.old {l:List Rl} {v:Value} {bs:List Nat} (h:bl W l v bs):∀b∈bs,b<W.heap.size:=by
 rcases h with ⟨rfl,_⟩ | ⟨b,cap,capB,cur,rfl,e,hh,r⟩
 ·intro b hb;cases hb
 ·intro b' hb
  rw [qO.1 hb]
  exact (qI.1 hh).1
theorem SlQ.keep {ty:TypeId} {v:Value} {vs:List Value} {ob:List Nat} (h:SlQ W ty v vs ob) (hk:∀b∈ob,W'.heap[b]?=W.heap[b]?):SlQ W' ty v vs ob:=by
 rcases h with h | ⟨b,cap,capB,cur,rfl,e,hh,r⟩
 ·exact .inl h
 ·exact .inr ⟨b,cap,capB,cur,rfl,e,(hk b (by simp)).trans hh,r⟩
theorem SlQ.old {ty:TypeId} {v:Value} {vs:List Value} {ob:List Nat} (h:SlQ W ty v vs ob):∀b∈ob,b<W.heap.size:=by
 rcases h with ⟨rfl,_⟩ | ⟨b,cap,capB,cur,rfl,e,hh,r⟩
 ·intro b hb;cases hb
 ·intro b' hb
  rw [qO.1 hb]
  exact (qI.1 hh).1
theorem bY.keep {α:Type} {P:World->α->Value->List Nat->Prop} (hP:∀x v bs,P W x v bs->(∀b∈bs,W'.heap[b]?=W.heap[b]?)->P W' x v bs) {ty:TypeId} {xs:List α} {v:Value} {bs:List Nat} (h:bY P ty W xs v bs) (hk:∀b∈bs,W'.heap[b]?=W.heap[b]?):bY P ty W' xs v bs:=by
 obtain ⟨vs,bss,ob,rfl,h1,h2,h3,h4⟩:=h
 exact ⟨vs,bss,ob,rfl,h1,h2,fun k x u b e1 e2 e3=>hP _ _ _ (h3 k x u b e1 e2 e3) fun b' hb'=>hk b' (List.mem_append_right _ (uN.2 ⟨b,qP e3,hb'⟩)),h4.keep fun b hb=>hk b (vP _ hb)⟩
theorem bY.old {α:Type} {P:World->α->Value->List Nat->Prop} (hP:∀x v bs,P W x v bs->∀b∈bs,b<W.heap.size) {ty:TypeId} {xs:List α} {v:Value} {bs:List Nat} (h:bY P ty W xs v bs):∀b∈bs,b<W.heap.size:=by
 obtain ⟨vs,bss,ob,rfl,h1,h2,h3,h4⟩:=h
 intro b hb
 rcases vB.1 hb with hb | hb
 ·exact h4.old b hb
 ·obtain ⟨bs,hbs,hb⟩:=uN.1 hb
  obtain ⟨k,hk⟩:=List.mem_iff_getElem?.1 hbs
  have hkl:=(qD.1 hk).1
  exact hP _ _ _ (h3 k _ _ bs (qA (by omega)) (qA (by omega)) hk) b hb
theorem eT.keep {t:List (List Rl)} {v:Value} {bs:List Nat} (h:eT W t v bs) (hk:∀b∈bs,W'.heap[b]?=W.heap[b]?):eT W' t v bs:=bY.keep (fun _ _ _=>bl.keep) h hk
theorem eT.old {t:List (List Rl)} {v:Value} {bs:List Nat} (h:eT W t v bs):∀b∈bs,b<W.heap.size:=bY.old (fun _ _ _=>bl.old) h
theorem fp.keep {t:List (List (List Rl))} {v:Value} {bs:List Nat} (h:fp W t v bs) (hk:∀b∈bs,W'.heap[b]?=W.heap[b]?):fp W' t v bs:=bY.keep (fun _ _ _=>eT.keep) h hk
theorem fp.old {t:List (List (List Rl))} {v:Value} {bs:List Nat} (h:fp W t v bs):∀b∈bs,b<W.heap.size:=bY.old (fun _ _ _=>eT.old) h
theorem Dx {F:Nat->Prop} (r:Rl) (j:Nat) (x:AV) (h:(cRl r)[j]?=some x):x.one=true/\∃u,(rlV r)[j]?=some u/\ar W F x u:=by
 match j,h with
 | 0,h=>obtain rfl:=qB h;exact ⟨rfl,_,rfl,.i _ _⟩
 | 1,h=>obtain rfl:=qB h;exact ⟨rfl,_,rfl,.u _⟩
 | 2,h=>obtain rfl:=qB h;exact ⟨rfl,_,rfl,.u _⟩
 | 3,h=>obtain rfl:=qB h;exact ⟨rfl,_,rfl,.u _⟩
 | 4,h=>obtain rfl:=qB h;exact ⟨rfl,_,rfl,.u _⟩
 | 5,h=>obtain rfl:=qB h;exact ⟨rfl,_,rfl,.i _ _⟩
 | 6,h=>obtain rfl:=qB h;exact ⟨rfl,_,rfl,.i _ _⟩
 | 7,h=>obtain rfl:=qB h;exact ⟨rfl,_,rfl,.i _ _⟩
 | 8,h=>obtain rfl:=qB h;exact ⟨rfl,_,rfl,.u _⟩
 | 9,h=>obtain rfl:=qB h;exact ⟨rfl,_,rfl,.u _⟩
 | 10,h=>obtain rfl:=qB h;exact ⟨rfl,_,rfl,.u _⟩
 | 11,h=>obtain rfl:=qB h;exact ⟨rfl,_,rfl,.u _⟩
 | j+12,h=>cases h
theorem lj {F:Nat->Prop} {l:List Rl} {k j:Nat} {cs:List AV} {x:AV} (hk:(l.map cRl)[k]?=some cs) (hx:cs[j]?=some x):k*12+j<l.length*12/\x.one=true/\∃u,(aw l)[k*12+j]?=some u/\ar W F x u:=by
 rw [qE] at hk
 obtain ⟨r,hr,rfl⟩:=vR.1 hk
 have hkl:=(qD.1 hr).1
 have hj:j<12:=(qD.1 hx).1
 obtain ⟨h1,u,h2,h3⟩:=Dx (W:=W) (F:=F) r j x hx
 refine ⟨by omega,h1,u,?_,h3⟩
 rw [fa,show (k*12+j) / 12=k by omega,show (k*12+j) % 12=j by omega,hr]
 exact h2
theorem bl.pr {l:List Rl} {v:Value} {bs:List Nat} {F:Nat->Prop} (h:bl W l v bs) (hF:∀b∈bs,F b):ar W F (.sl (l.map cRl)) v:=by
 rcases h with ⟨_,rfl,A,rfl⟩ | ⟨b,cap,capB,cur,rfl,rfl,hh,h1,h2,h3,h4,h5⟩
 ·exact dE
 ·have hlen:(l.map cRl).length=l.length:=qH _
  rw [<- hlen]
  refine .sl (l.map cRl) _ cap 12 b 0 (fun k j=>(aw l).getD (k*12+j) undef) (by omega) (by omega) (fun _=>⟨rfl,hF b (by simp),(qI.1 hh).1⟩) ?_ ?_ ?_ ?_
  ·intro k cs hk
   rw [qE] at hk
   obtain ⟨r,_,rfl⟩:=vR.1 hk
   rfl
  ·intro k cs j x hk hx
   exact (lj (W:=W) (F:=F) hk hx).2.1
  ·intro k cs j x hk hx
   obtain ⟨_,_,u,e,r⟩:=lj (W:=W) (F:=F) hk hx
   rw [qM,e]
   exact r
  ·intro k cs j x hk hx
   obtain ⟨e0,_,u,e,r⟩:=lj (W:=W) (F:=F) hk hx
   rw [qM,e]
   rw [<- h5,uH e0,vO] at e
   refine aa hh ?_
   rw [vN]
   exact e
theorem bY.pr {α:Type} {P:World->α->Value->List Nat->Prop} {F:Nat->Prop} (enc:α->AV) (h1:∀x,(enc x).one=true) (hP:∀x v bs,P W x v bs->(∀b∈bs,F b)->ar W F (enc x) v) {ty:TypeId} {xs:List α} {v:Value} {bs:List Nat} (h:bY P ty W xs v bs) (hF:∀b∈bs,F b):ar W F (.sl (xs.map fun x=>[enc x])) v:=by
 obtain ⟨vs,bss,ob,rfl,e1,e2,e3,h4⟩:=h
 rcases h4 with ⟨_,rfl,A,rfl⟩ | ⟨b,cap,capB,cur,rfl,rfl,hh,q1,q2,q3,q4,q5⟩
 ·have:xs=[]:=uD.1 e1.symm
  subst this
  exact dE
 ·have hlen:(xs.map fun x=>[enc x]).length=vs.length:=by rw [qH,e1]
  have key:∀(k:Nat) (cs:List AV) (j:Nat) (x:AV),(xs.map fun x=>[enc x])[k]?=some cs->cs[j]?=some x->j=0/\x.one=true/\∃u,vs[k]?=some u/\cur[k]?=some u/\ar W F x u:=fun k cs j x hk hx=>by
   rw [qE] at hk
   obtain ⟨y,hy,rfl⟩:=vR.1 hk
   have hkl:=(qD.1 hy).1
   match j,hx with
   | 0,hx =>
    obtain rfl:=qB hx
    have ev:vs[k]?=some (vs[k]'(by omega)):=qA (by omega)
    have eb:bss[k]?=some (bss[k]'(by omega)):=qA (by omega)
    refine ⟨rfl,h1 y,_,ev,?_,hP _ _ _ (e3 k y _ _ hy ev eb) fun b' hb'=>hF b' (List.mem_append_right _ (uN.2 ⟨_,qP eb,hb'⟩))⟩
    rw [<- ev,<- vO]
    have:=congrArg (fun l=>l[k]?) q5
    simp only [uH (show k<vs.length by omega)] at this
    exact this
   | j+1,hx=>cases hx
  rw [<- hlen]
  refine .sl _ _ cap 1 b 0 (fun k j=>vs.getD k undef) (by omega) (by omega) (fun _=>⟨rfl,hF b (by simp),(qI.1 hh).1⟩) ?_ ?_ ?_ ?_
  ·intro k cs hk
   rw [qE] at hk
   obtain ⟨r,_,rfl⟩:=vR.1 hk
   rfl
  ·intro k cs j x hk hx
   exact (key k cs j x hk hx).2.1
  ·intro k cs j x hk hx
   obtain ⟨_,_,u,e,_,r⟩:=key k cs j x hk hx
   rw [qM,e]
   exact r
  ·intro k cs j x hk hx
   obtain ⟨rfl,_,u,e,e',r⟩:=key k cs j x hk hx
   rw [qM,e]
   refine aa hh ?_
   rw [show 0+(k*1+0)=k by omega]
   exact e'
theorem eT.pr {t:List (List Rl)} {v:Value} {bs:List Nat} {F:Nat->Prop} (h:eT W t v bs) (hF:∀b∈bs,F b):ar W F (.sl (t.map aP)) v:=bY.pr (fun l:List Rl=>AV.sl (l.map cRl)) (fun _=>rfl) (fun _ _ _ h1 h2=>bl.pr h1 h2) h hF
theorem fp.pr {t:List (List (List Rl))} {v:Value} {bs:List Nat} {F:Nat->Prop} (h:fp W t v bs) (hF:∀b∈bs,F b):ar W F (.sl (t.map bE)) v:=bY.pr (fun l:List (List Rl)=>AV.sl (l.map aP)) (fun _=>rfl) (fun _ _ _ h1 h2=>eT.pr h1 h2) h hF
end
theorem BZ (A:Option Addr) (n c:Nat) (W:World) (hn:n<=c) (hc:c<=maxLen):Calls Tryz.prog 97 #[.slice A n c] W fun e W'=>e = .returned (.slice A n n)/\W'=W:=by
 unfold maxLen at hc
 go_enter Tryz.func97,Tryz.ntmps97
 go_wp2_with fail
 go_ret
 exact ⟨rfl,rfl⟩
theorem zV (A:Option Addr) (n c:Nat) (W:World) (hn:n<=c) (hc:c<=maxLen):Calls Tryz.prog 99 #[.slice A n c] W fun e W'=>e = .returned (.slice A n n)/\W'=W:=by
 unfold maxLen at hc
 go_enter Tryz.func99,Tryz.ntmps99
 go_wp2_with fail
 go_ret
 exact ⟨rfl,rfl⟩
theorem Aq (A:Option Addr) (n c:Nat) (W:World) (hn:n<=c) (hc:c<=maxLen):Calls Tryz.prog 56 #[.slice A n c] W fun e W'=>e = .returned (.slice A n n)/\W'=W:=by
 unfold maxLen at hc
 go_enter Tryz.func56,Tryz.ntmps56
 go_wp2_with fail
 go_ret
 exact ⟨rfl,rfl⟩
theorem CP {W:World} {F:Nat->Prop} {l:List Rl} {cells:List Value} (h:dv W F 12 (l.map cRl) cells):cells=aw l:=by
 have hn:=h.n
 rw [qH] at hn
 refine List.ext_getElem? fun t=>?_
 by_cases ht:t<l.length*12
 ·have h4:t / 12<l.length:=by omega
  rw [fa,qA h4,Option.bind_some]
  have hk:(l.map cRl)[t / 12]?=some (cRl l[t / 12]):=by rw [qE,qA h4];rfl
  have key:=h.r (t / 12) (cRl l[t / 12]) (t % 12)
  rw [show t / 12*12+t % 12=t by omega] at key
  have h5:t % 12<12:=Nat.mod_lt _ (by decide)
  obtain ⟨x,hx⟩:∃x,(cRl l[t / 12])[t % 12]?=some x:=⟨_,qA h5⟩
  obtain ⟨_,u,e1,r1⟩:=key x hk hx
  generalize l[t / 12]=r at hx
  generalize t % 12=j at hx h5
  rw [e1]
  match j,h5,hx with
  | 0,_,hx=>obtain rfl:=qB hx;exact congrArg some (aC rfl r1)
  | 1,_,hx=>obtain rfl:=qB hx;exact congrArg some (aC rfl r1)
  | 2,_,hx=>obtain rfl:=qB hx;exact congrArg some (aC rfl r1)
  | 3,_,hx=>obtain rfl:=qB hx;exact congrArg some (aC rfl r1)
  | 4,_,hx=>obtain rfl:=qB hx;exact congrArg some (aC rfl r1)
  | 5,_,hx=>obtain rfl:=qB hx;exact congrArg some (aC rfl r1)
  | 6,_,hx=>obtain rfl:=qB hx;exact congrArg some (aC rfl r1)
  | 7,_,hx=>obtain rfl:=qB hx;exact congrArg some (aC rfl r1)
  | 8,_,hx=>obtain rfl:=qB hx;exact congrArg some (aC rfl r1)
  | 9,_,hx=>obtain rfl:=qB hx;exact congrArg some (aC rfl r1)
  | 10,_,hx=>obtain rfl:=qB hx;exact congrArg some (aC rfl r1)
  | 11,_,hx=>obtain rfl:=qB hx;exact congrArg some (aC rfl r1)
  | j+12,h,_=>exact absurd h (by omega)
 ·rw [uK (by omega),uK (by rw [bh];omega)]
theorem zZ {W:World} {F:Nat->Prop} (hF:∀b,F b->b<W.heap.size):Inv W F (fun _=>none) (lkB []) :=
 ⟨fun _ _ _ h=>(by cases h),fun b ⟨_,_,_,_,h,_⟩=>(by cases h),fun _ _ _ _ _ h=>(by cases h),hF,eI _ _⟩
theorem Bh (l:List Rl) (hl:l.length*96<=reachBytes) (W:World) (F:Nat->Prop) (v:Value) (hv:ar W F (.sl (l.map cRl)) v) (hF:∀b,F b->b<W.heap.size):Calls Tryz.prog 98 #[v] W fun e W'=>∃A c bs,e = .returned (.slice A l.length c)/\l.length<=c/\c<=maxLen/\Kp No W W'/\bl W' l (.slice A l.length c) bs/\∀b∈bs,W.heap.size<=b:=by
 match l,hl,hv with
 | [],_,hv =>
  obtain ⟨A,c,rfl⟩:=nz hv
  clear hv hF
  cases A with
  | none =>
   have heq:∀W,(binOp .eql 53 (.slice none 0 c) (.slice none 0 0)).run Tryz.prog W = .ok (.bool true) W:=fun W=>by kernel_rfl
   go_enter Tryz.func98,Tryz.ntmps98
   go_wp2_with fail
   go_ret
   exact ⟨_,_,[],rfl,qJ _,by decide,Kp.refl _ _,.inl ⟨rfl,rfl,_,rfl⟩,fun b hb=>by cases hb⟩
  | some a =>
   have heq:∀W,(binOp .eql 53 (.slice (some a) 0 c) (.slice none 0 0)).run Tryz.prog W = .ok (.bool false) W:=fun W=>by kernel_rfl
   have happ:∀W b,(Builtin.append_ #[53,53] 53 #[.slice (some b) 0 0,.slice (some a) 0 c]).run Tryz.prog W = .ok (.slice (some b) 0 0) W:=fun W b=>by kernel_rfl
   go_enter Tryz.func98,Tryz.ntmps98
   go_wp2_with fail
   go_ret
   exact ⟨_,_,[],rfl,qJ _,by decide,(Kp.refl _ _).alloc _,.inl ⟨rfl,rfl,_,rfl⟩,fun b hb=>by cases hb⟩
 | x::l,hl,hv =>
  refine ((tR x l hl fun _=>none).calls W F (fun _=>none) [v] rfl (fun j y u hy hu=>?_) (zZ hF)).mono ?_
  ·match j,hy,hu with
   | 0,hy,hu =>
    obtain rfl:=qB hy
    obtain rfl:=qB hu
    exact .pure hv
   | j+1,hy,_=>cases hy
  ·rintro e W' ⟨v',F',μ',rfl,hi,hs,hr⟩
   have hid:lkB (gl (fun _=>none) [] [(5,⟨0,some (.row 57 12 ((x::l).map cRl))⟩)]) 5=⟨0,some (.row 57 12 ((x::l).map cRl))⟩:=rfl
   have hln:((x::l).map cRl).length=(x::l).length:=qH _
   obtain ⟨_,hq⟩:=fY hi hr hid
   rcases hq with ⟨_,e2,_⟩ | ⟨b,cap,hm,rfl,q2,q3⟩
   ·cases e2
   have hb:=hi.body 5 0 _ hid
   rw [hm] at hb
   rcases hb with ⟨hb,_⟩ | ⟨b',cap',cur,hb,hh,g1,g2,g3,g4,g5⟩
   ·cases hb
   obtain ⟨rfl,rfl⟩:b=b'/\cap=cap':=by simpa using hb
   rw [hln] at q2
   have hkp:Kp No W W':=hs.kp.mono fun b _ ⟨_,_,_,_,h,_⟩=>by cases h
   have hnew:W.heap.size<=b:=(hs.own b ⟨5,0,_,cap,hid,hm⟩).resolve_left fun ⟨_,_,_,_,h,_⟩=>by cases h
   refine ⟨some ⟨b,0,none⟩,cap,[b],by simp,q2,q3,hkp,.inr ⟨b,cap,cap,cur,rfl,rfl,hh,q2,qJ _,q3,g3,?_⟩,fun b' hb'=>by rw [qO.1 hb'];exact hnew⟩
   refine CP (W:=W') (F:=F') ⟨g4,?_,fun k cs j y hk hy=>?_⟩
   ·have e1:cur.toList.length=cap*12:=by rw [qL,g3]
    rw [vG,e1,hln]
    exact Nat.min_eq_left (Nat.mul_le_mul_right 12 q2)
   ·obtain ⟨r1,u,r2,r3⟩:=g5 k cs j y hk hy
    have hkl:=(qD.1 hk).1
    rw [hln] at hkl
    have hj:j<12:=by rw [<- g4 k cs hk];exact (qD.1 hy).1
    exact ⟨r1,u,by rw [uH (by omega),vO];exact r2,r3⟩
theorem bl.clip {W:World} {l:List Rl} {A:Option Addr} {c:Nat} {bs:List Nat} (h:bl W l (.slice A l.length c) bs):bl W l (.slice A l.length l.length) bs:=by
 rcases h with ⟨rfl,rfl,A',e⟩ | ⟨b,cap,capB,cur,rfl,e,hh,h1,h2,h3,h4,h5⟩
 ·exact .inl ⟨rfl,rfl,A,rfl⟩
 ·obtain ⟨rfl,_,rfl⟩:A=some ⟨b,0,none⟩/\True/\c=cap:=by simpa using e
  exact .inr ⟨b,l.length,capB,cur,rfl,rfl,hh,qJ _,by omega,h3,h4,h5⟩
theorem bl.nodup {W:World} {l:List Rl} {v:Value} {bs:List Nat} (h:bl W l v bs):bs.Nodup:=by
 rcases h with ⟨rfl,_⟩ | ⟨b,cap,capB,cur,rfl,_⟩
 ·exact List.nodup_nil
 ·simp
theorem bl.one {W:World} {l:List Rl} {v:Value} {bs:List Nat} (h:bl W l v bs):v.oneCell'=true:=by
 rcases h with ⟨_,_,A,rfl⟩ | ⟨b,cap,capB,cur,rfl,rfl,_⟩ <;> rfl
theorem rq {w w':World} {B:Nat} {ty:TypeId} {m:Nat} {v:Value} {n:Nat} {xs:List Value} (h:w.ownsRow B ty m v n xs) (hk:∀g,v.ownBlock=some g->w'.heap[g]?=w.heap[g]?):w'.ownsRow B ty m v n xs:=by
 refine ⟨h.1,?_⟩
 rcases h.2 with hn | ⟨g,cap,cur,rfl,hb,hgg,rest⟩
 ·exact .inl hn
 ·exact .inr ⟨g,cap,cur,rfl,hb,(hk g rfl).trans hgg,rest⟩
structure BM {α:Type} (P:World->α->Value->List Nat->Prop) (ty:TypeId) (W0:World) (t:List α) (i:Nat) (o:Value) (W:World) (vs:List Value) (bss:List (List Nat)):Prop where
 own:W.ownsRow W0.heap.size ty 1 o i vs
 len:bss.length=i
 at_:∀(k:Nat) (x:α) (u:Value) (b:List Nat),k<i->t[k]?=some x->vs[k]?=some u->bss[k]?=some b->P W x u b
 nd:bss.flatten.Nodup
 new:∀b∈bss.flatten,W0.heap.size<=b/\b<W.heap.size/\o.ownBlock≠some b
structure xc {α:Type} (P:World->α->Value->List Nat->Prop) (ty:TypeId) (W0:World) (t:List α) (i:Nat) (o:Value) (W:World):Prop where
 kp:Kp No W0 W
 ex:∃(vs:List Value) (bss:List (List Nat)),BM P ty W0 t i o W vs bss
theorem xc.step {α : Type} {P : World -> α -> Value -> List Nat -> Prop} (hP : ∀ {W W' : World} {x : α} {v : Value} {bs : List Nat}, P W x v bs -> (∀ b ∈ bs, W'.heap[b]? = W.heap[b]?) -> P W' x v bs) (hO : ∀ {W : World} {x : α} {v : Value} {bs : List Nat}, P W x v bs -> ∀ b ∈ bs, b < W.heap.size) {ty ty2 : TypeId} {W0 W W2 W5 : World} {t : List α} {k : Nat} {o v v' : Value} {x : α} {bs : List Nat} {vs : List Value} {bss : List (List Nat)} (h : Kp No W0 W) (hc : BM P ty W0 t k o W vs bss) (hk : Kp No W W2) (hx : t[k]? = some x) (hq : P W2 x v bs) (hn : ∀ b ∈ bs, W.heap.size <= b) (hnd : bs.Nodup)
  (ob:Obj) (hown:W5.ownsRow W0.heap.size ty 1 v' (k+1) (vs++[v])) (hg:(W2.alloc ob).grownBy W5 o.ownBlock) (hb:v'.ownBlock=o.ownBlock\/v'.ownBlock=some (W2.heap.size+1)):xc P ty W0 t (k+1) v' W5:=by
 obtain ⟨h1,h2,h3,h4,h5⟩:=hc
 have hvl:vs.length=k:=by have:=h1.1;omega
 have hoW:∀b,o.ownBlock=some b->b<W.heap.size:=fun b hb=>(h1.lt b hb).2
 have hWW2:=hk.size
 have hW5:∀b,b<W2.heap.size->o.ownBlock≠some b->W5.heap[b]?=W2.heap[b]?:=fun b h1 h2=>(hg.block b (by simp;omega) fun e=>h2 e.symm).trans (heap_alloc_old _ _ h1)
 have hbsO:=hO hq
 have hsz:W2.heap.size<W5.heap.size:=by have:=hg.size;simp at this;omega
 have hkp:Kp No W0 W5:=by
  have hb0:=(h.trans hk)
  refine ⟨hg.os.trans hb0.os,hg.tape.trans hb0.tape,hg.output.trans hb0.output,by have:=hb0.size;omega,fun b hb _=>?_⟩
  have:=h.size
  exact (hW5 b (by omega) fun e=>by have:=(h1.lt b e).1;omega).trans (hb0.block b hb (az _))
 refine ⟨hkp,vs++[v],bss++[bs],hown,by rw [qK,h2];rfl,fun j y u b hj e1 e2 e3=>?_,?_,fun b hb'=>?_⟩
 ·by_cases hjk:j<k
  ·rw [List.getElem?_append_left (by omega)] at e2 e3
   have hm:∀b'∈b,b'∈bss.flatten:=fun b' hb'=>uN.2 ⟨b,qP e3,hb'⟩
   refine hP (h3 j y u b hjk e1 e2 e3) fun b' hb'=>?_
   obtain ⟨g1,g2,g3⟩:=h5 b' (hm b' hb')
   exact (hW5 b' (by omega) g3).trans (hk.block b' g2 (az _))
  ·obtain rfl:j=k:=by omega
   rw [List.getElem?_append_right (by omega),hvl,Nat.sub_self] at e2
   rw [List.getElem?_append_right (by omega),h2,Nat.sub_self] at e3
   obtain rfl:=qB e2
   obtain rfl:=qB e3
   obtain rfl:x=y:=qB (hx.symm.trans e1)
   refine hP hq fun b' hb'=>hW5 b' (hbsO b' hb') fun e=>?_
   have:=hoW b' e
   have:=hn b' hb'
   omega
 ·rw [List.flatten_append,uO]
  refine ⟨h4,by simpa using hnd,fun a ha c hc=>?_⟩
  have:=(h5 a ha).2.1
  have:=hn c (by simpa using hc)
  omega
 ·rw [List.flatten_append,vB] at hb'
  have hv':∀b,v'.ownBlock=some b->o.ownBlock=some b\/W2.heap.size+1=b:=fun b e=>by
   rcases hb with h | h
   ·exact .inl (h ▸ e)
   ·rw [h] at e
    exact .inr (by simpa using e)
  rcases hb' with hb' | hb'
  ·obtain ⟨g1,g2,g3⟩:=h5 b hb'
   refine ⟨g1,by omega,fun e=>?_⟩
   rcases hv' b e with e | e
   ·exact g3 e
   ·omega
  ·have hb':b∈bs:=by simpa using hb'
   have g1:=hn b hb'
   have g2:=hbsO b hb'
   refine ⟨by have:=h.size;omega,by omega,fun e=>?_⟩
   rcases hv' b e with e | e
   ·have:=hoW b e;omega
   ·omega
theorem BM.done {α:Type} {P:World->α->Value->List Nat->Prop} {ty:TypeId} {W0 W:World} {t:List α} {A:Option Addr} {c:Nat} {vs:List Value} {bss:List (List Nat)} (h:BM P ty W0 t t.length (.slice A t.length c) W vs bss):∃bs,bY P ty W t (.slice A t.length t.length) bs/\bs.Nodup/\∀b∈bs,W0.heap.size<=b:=by
 obtain ⟨h1,h2,h3,h4,h5⟩:=h
 have hvl:vs.length=t.length:=by have:=h1.1;omega
 have hat:∀(k:Nat) (x:α) (u:Value) (b:List Nat),t[k]?=some x->vs[k]?=some u->bss[k]?=some b->P W x u b:=fun k x u b e1 e2 e3=>h3 k x u b (qD.1 e1).1 e1 e2 e3
 rcases h1.2 with ⟨e,h0⟩ | ⟨g,cap,cur,e,hb,hh,q1,q2,q3,q4⟩
 ·refine ⟨[]++bss.flatten,⟨vs,bss,[],rfl,hvl,h2,hat,.inl ⟨rfl,uD.1 (hvl.trans h0),A,by rw [h0]⟩⟩,by simpa using h4,fun b hb=>(h5 b (by simpa using hb)).1⟩
 ·obtain ⟨rfl,_,rfl⟩:A=some ⟨g,0,none⟩/\True/\c=cap:=by simpa using e
  refine ⟨[g]++bss.flatten,⟨vs,bss,[g],rfl,hvl,h2,hat,.inr ⟨g,t.length,c,cur,rfl,by rw [hvl],hh,by omega,q1,q2,by rw [q3];omega,by rw [hvl];rw [Nat.mul_one] at q4;exact q4⟩⟩,?_,fun b hb'=>?_⟩
  ·rw [uO]
   refine ⟨by simp,h4,fun a ha b' hb' e=>?_⟩
   rw [qO.1 ha] at e
   exact (h5 b' hb').2.2 (by rw [e];rfl)
  ·rcases vB.1 hb' with hb' | hb'
   ·rw [qO.1 hb'];exact hb
   ·exact (h5 b hb').1
theorem E2:∃i0,Tryz.prog.info? 53=some i0/\i0.zero=some (.slice none 0 0)/\i0.size=1/\i0.bytes=24:=info_parts (show (Tryz.prog.info? 53).map (fun i=>(i.zero,i.size,i.bytes))=some (some (.slice none 0 0),1,24) by kernel_rfl)
theorem Dg:Tryz.prog.underlying 52=some (.slice 53):=by kernel_rfl
theorem CG (t : List (List Rl)) (ht : t.length * 24 <= reachBytes) (hr : ∀ l ∈ t, l.length * 96 <= reachBytes) (W : World) (F : Nat -> Prop) (A : Option Addr) (c : Nat) (hv : ar W F (.sl (t.map aP)) (.slice A t.length c)) (hF : ∀ b, F b -> b < W.heap.size) :
  Calls Tryz.prog 55 #[.slice A t.length c] W fun e W'=>∃v bs,e = .returned v/\Kp No W W'/\eT W' t v bs/\bs.Nodup/\∀b∈bs,W.heap.size<=b:=by
 have m1:=tT hv
 rw [qH] at m1
 unfold maxLen at m1
 rw [bK] at ht
 have Hv:=Lib.hid hv
 have HF:=Lib.hid hF
 have Hr:=Lib.hid hr
 clear hv hF hr
 go_enter Tryz.func55,Tryz.ntmps55
 go_wp2_with fail
 go_loopw [3,8] (fun o i wr=>∃k,k<=t.length/\i = .int .i64 (k:Nat)/\xc bl 53 W t k o wr) (fun _ i _=>t.length - (intOf i).toNat)
 case atStart=>exact ⟨0,qR _,rfl,Kp.refl _ _,[],[],World.ownsRow_nil _ _ _ _,rfl,fun k x u b h=>absurd h (uS k),List.nodup_nil,fun b hb=>by cases hb⟩
 case round =>
  obtain ⟨k,hk,rfl,hD⟩:=hrel
  have HD:=Lib.hid hD
  clear hD
  by_cases hlt:k<t.length
  ·have hkt:t[k]?=some t[k]:=qA hlt
   have hl96:=Hr.out t[k] (vS hlt)
   generalize t[k]=l at hkt hl96
   obtain ⟨b,off,v,rfl,hFb,ck,hv⟩:=nD Hv.out (by rw [qE,hkt];rfl)
   replace ck:wr.cell? ⟨b,off+k,none⟩=some v:=(World.cell?_of_block (a:=⟨b,off+k,none⟩) (HD.out.kp.block b (HF.out b hFb) (az _))).trans ck
   have q1:(k:Int)<(t.length:Int):=by omega
   have HC:=Lib.hid (Bh l hl96 wr F v (hv.keep (fun b hb _=>HD.out.kp.block b (HF.out b hb) (az _)) fun b hb _=>hb) fun b hb=>vK (HF.out b hb) HD.out.kp.size)
   have Hkt:=Lib.hid hkt
   clear hv hkt hFb hl96
   go_wp2_with (go_at_call 98;refine HC.out.mono ?_;rintro e W1 ⟨A1,c1,bs1,rfl,hc1,hc2,hk1,hq1,hn1⟩)
   have Hk1:=Lib.hid hk1
   have Hq1:=Lib.hid hq1
   have Hn1:=Lib.hid hn1
   have HP:=Lib.hid (BZ A1 l.length c1 W1 hc1 hc2)
   clear ck hk1 hq1 hn1 hc1 hc2
   obtain ⟨vs,bss,hcc⟩:=HD.out.ex
   have Hcc:=Lib.hid hcc
   clear hcc
   obtain ⟨i0,hi,hz0,hz1,hz2⟩:=E2
   have Hown:=Lib.hid (rq (w':=W1) Hcc.out.own fun g hg=>Hk1.out.block g (Hcc.out.own.lt g hg).2 (az _))
   go_wp2_with (first | (go_at_call 97;refine HP.out.mono ?_;rintro e W2 ⟨rfl,rfl⟩) | (at_builtin;refine dV rfl _ _ 52 rfl W.heap.size 53 i0 (.slice none 0 0) 1 24 Dg hi hz0 hz1 hz2 rfl (by decide) u3 _ _ rfl (Hown.out.alloc _) ⟨W2.heap.size,0,none⟩ 1 1 [.slice A1 l.length l.length] rfl rfl ?c1 ?c2 ?c3 ?c4 ?c5 ?_))
   case c1 =>
    intro j u hj
    match j,hj with
    | 0,hj=>simp at hj;subst hj;simp [Addr.add]
   case c2=>intro u hu;simp at hu;subst hu;rfl
   case c3=>unfold maxLen;omega
   case c4=>omega
   case c5=>have:=HD.out.kp.size;have:=Hk1.out.size;simp;omega
   intro v' W5 hown5 hgrow5 hnew5
   have HS:=Lib.hid (xc.step (P:=bl) (fun h hk=>bl.keep h hk) (fun h=>bl.old h) (ty2:=0) HD.out.kp Hcc.out Hk1.out Hkt.out Hq1.out.clip Hn1.out Hq1.out.clip.nodup _ hown5 hgrow5 hnew5)
   clear hown5 hgrow5 hnew5
   go_wp2_with fail
   go_roundw
   case rel=>exact ⟨k+1,hlt,by go_num,HS.out⟩
   case measure=>simp [intOf];omega
  ·obtain rfl:k=t.length:=by omega
   obtain ⟨vs,bss,hcc⟩:=HD.out.ex
   have hne:¬(t.length:Int)<(t.length:Int):=by omega
   have hform:∃A2 c2,u3 = .slice A2 t.length c2/\t.length<=c2/\c2<=maxLen:=by
    rcases hcc.own.2 with ⟨rfl,h0⟩ | ⟨g,cap,cur,rfl,_,_,h1,h2,_⟩
    ·exact ⟨none,0,by rw [h0],by omega,by decide⟩
    ·exact ⟨_,cap,rfl,h1,h2⟩
   obtain ⟨A2,c2,rfl,hc1,hc2⟩:=hform
   have HP:=Lib.hid (zV A2 t.length c2 wr hc1 hc2)
   have Hcc:=Lib.hid hcc
   clear hcc hc1 hc2 hlt
   go_wp2_with (go_at_call 99;refine HP.out.mono ?_;rintro e W2 ⟨rfl,rfl⟩)
   go_ret
   obtain ⟨bs,g1,g2,g3⟩:=Hcc.out.done
   exact ⟨_,bs,rfl,HD.out.kp,g1,g2,g3⟩
def WPY (P:Program) (N:Nat) (W0:World) (F0:Nat->Prop) (c:Code) (Q:Exit->Act->World->Prop) (s:St):Prop :=
 ∀W F μ a,RS N W F μ s a->Stq W0 F0 (fun _=>none) (fun _=>⟨0,none⟩) W F μ s.σ->(∀d∈a.defers,∃D,d = { target:=.collected D,args:=#[] }/\W0.heap.size<=D)->Code.wp P c Q a W
theorem WPY.fst {P:Program} {N:Nat} {W0:World} {F0:Nat->Prop} {x y:Code} {Q:Exit->Act->World->Prop} {s:St} (h:AW P N x (AT (WPY P N W0 F0 y Q)) s):WPY P N W0 F0 (.seq x y) Q s:=by
 intro W F μ a hr hs hd
 refine wp_seq (wpIn_wide.1 (wpIn_mono (h W F μ a hr none fun _=>rfl) ?_))
 rintro e a' W' ⟨F',μ',s',hq,hr',hs'⟩
 cases e with
 | normal =>
  refine hq W' F' μ' a' hr' (hs.trans hs'.toStq) fun d hd'=>?_
  rcases hs'.nw d hd' with h1 | ⟨D,e,hD⟩
  ·exact hd d h1
  ·exact ⟨D,e,vJ hs.kp.size hD⟩
 | _=>exact hq.elim
def GO (P:Program) (fn:Func) (W0:World) (R:Ending->World->Prop) (e:Exit) (a:Act) (W:World):Prop :=
 (e = .normal\/e = .ret)/\∃Ds:List Nat,Ds.Nodup/\a.defers=Ds.map (fun D=>{ target:=.collected D,args:=#[] })/\(∀D∈Ds,W.heap[D]?=some (.deferred (some [])))/\∃v,(results fn a.tmps).run P (na Ds W) = .ok v (na Ds W)/\R (.returned v) (na Ds W)
theorem xy {P : Program} {f : FuncId} {fn : Func} {c : Code} {args : List AV} {N : Nat} {R : Ending -> World -> Prop} (hf : P.funcs[f]? = some fn) (hb : fn.body = some c) (hN : fn.ntmps = N) (hlen : Nat.ble args.length N = true)
  (W:World) (F:Nat->Prop) (vs:List Value) (hl:vs.length=args.length) (hv:∀(j:Nat) (x:AV) (v:Value),args[j]?=some x->vs[j]?=some v->ar W F x v) (hF:∀b,F b->b<W.heap.size) (hL:jZ W F)
  (h:WPY P N W F c (GO P fn W R) (st0 args)):Calls P f vs.toArray W R:=by
 subst hN
 have hlen:=qU hlen
 have hi:Inv W F (fun _=>none) (fun _=>⟨0,none⟩):=⟨fun _ _ _ h=>(by cases h),fun b ⟨_,_,_,_,h,_⟩=>(by cases h),fun _ _ _ _ _ h=>(by cases h),hF,hL⟩
 have hr:RS fn.ntmps W F (fun _=>none) (st0 args) { tmps:=vs.toArray++Array.replicate (fn.ntmps - vs.toArray.size) undef,defers:=[] }:=by
  refine ⟨fun t=>?_,.nil,by simp;omega,hi⟩
  show Rel W F _ _ (args.getD t (.tup [])) _
  rw [vT,Array.getElem?_append,qM]
  by_cases ht:t<args.length
  ·have h1:args[t]?=some args[t]:=qA ht
   have h2:vs[t]?=some vs[t]:=qA (by omega)
   rw [if_pos (by simp;omega),uF,h1,h2]
   exact .pure (hv t _ _ h1 h2)
  ·rw [if_neg (by simp;omega),uK (by omega)]
   have:(Array.replicate (fn.ntmps - vs.toArray.size) undef)[t - vs.toArray.size]?.getD undef=undef:=by
    rw [Array.getElem?_replicate]
    split <;> rfl
   rw [this]
   exact .pure (.tup [] [] rfl (by simp))
 refine (callsIn_wide (n:=0)).1 (callsIn_of_wp_marks hf hb trivial (wpIn_mono (wpIn_wide.2 (h W F _ _ hr (Stq.refl _ _ _ _) fun d hd=>by cases hd)) ?_))
 rintro e a' W' ⟨he,Ds,h1,h2,h3,h4⟩
 have key:LeavesInM Fence.wide 0 P fn a'.tmps R a'.defers .returning W':=by
  rw [h2]
  exact gy Ds W' h1 h3 h4
 rcases he with rfl | rfl <;> exact key
theorem Gi (a:Array Value) (h:a.size=43):∃u0 u1 u2 u3 u4 u5 u6 u7 u8 u9 u10 u11 u12 u13 u14 u15 u16 u17 u18 u19 u20 u21 u22 u23 u24 u25 u26 u27 u28 u29 u30 u31 u32 u33 u34 u35 u36 u37 u38 u39 u40 u41 u42:Value,a = #[u0,u1,u2,u3,u4,u5,u6,u7,u8,u9,u10,u11,u12,u13,u14,u15,u16,u17,u18,u19,u20,u21,u22,u23,u24,u25,u26,u27,u28,u29,u30,u31,u32,u33,u34,u35,u36,u37,u38,u39,u40,u41,u42]:=by
 obtain ⟨l⟩:=a
 have h:l.length=43:=h
 obtain ⟨u0,l,rfl⟩:∃u m,l=u::m:=qN (by omega)
 rw [qS] at h
 obtain ⟨u1,l,rfl⟩:∃u m,l=u::m:=qN (by omega)
 rw [qS] at h
 obtain ⟨u2,l,rfl⟩:∃u m,l=u::m:=qN (by omega)
 rw [qS] at h
 obtain ⟨u3,l,rfl⟩:∃u m,l=u::m:=qN (by omega)
 rw [qS] at h
 obtain ⟨u4,l,rfl⟩:∃u m,l=u::m:=qN (by omega)
 rw [qS] at h
 obtain ⟨u5,l,rfl⟩:∃u m,l=u::m:=qN (by omega)
 rw [qS] at h
 obtain ⟨u6,l,rfl⟩:∃u m,l=u::m:=qN (by omega)
 rw [qS] at h
 obtain ⟨u7,l,rfl⟩:∃u m,l=u::m:=qN (by omega)
 rw [qS] at h
 obtain ⟨u8,l,rfl⟩:∃u m,l=u::m:=qN (by omega)
 rw [qS] at h
 obtain ⟨u9,l,rfl⟩:∃u m,l=u::m:=qN (by omega)
 rw [qS] at h
 obtain ⟨u10,l,rfl⟩:∃u m,l=u::m:=qN (by omega)
 rw [qS] at h
 obtain ⟨u11,l,rfl⟩:∃u m,l=u::m:=qN (by omega)
 rw [qS] at h
 obtain ⟨u12,l,rfl⟩:∃u m,l=u::m:=qN (by omega)
 rw [qS] at h
 obtain ⟨u13,l,rfl⟩:∃u m,l=u::m:=qN (by omega)
 rw [qS] at h
 obtain ⟨u14,l,rfl⟩:∃u m,l=u::m:=qN (by omega)
 rw [qS] at h
 obtain ⟨u15,l,rfl⟩:∃u m,l=u::m:=qN (by omega)
 rw [qS] at h
 obtain ⟨u16,l,rfl⟩:∃u m,l=u::m:=qN (by omega)
 rw [qS] at h
 obtain ⟨u17,l,rfl⟩:∃u m,l=u::m:=qN (by omega)
 rw [qS] at h
 obtain ⟨u18,l,rfl⟩:∃u m,l=u::m:=qN (by omega)
 rw [qS] at h
 obtain ⟨u19,l,rfl⟩:∃u m,l=u::m:=qN (by omega)
 rw [qS] at h
 obtain ⟨u20,l,rfl⟩:∃u m,l=u::m:=qN (by omega)
 rw [qS] at h
 obtain ⟨u21,l,rfl⟩:∃u m,l=u::m:=qN (by omega)
 rw [qS] at h
 obtain ⟨u22,l,rfl⟩:∃u m,l=u::m:=qN (by omega)
 rw [qS] at h
 obtain ⟨u23,l,rfl⟩:∃u m,l=u::m:=qN (by omega)
 rw [qS] at h
 obtain ⟨u24,l,rfl⟩:∃u m,l=u::m:=qN (by omega)
 rw [qS] at h
 obtain ⟨u25,l,rfl⟩:∃u m,l=u::m:=qN (by omega)
 rw [qS] at h
 obtain ⟨u26,l,rfl⟩:∃u m,l=u::m:=qN (by omega)
 rw [qS] at h
 obtain ⟨u27,l,rfl⟩:∃u m,l=u::m:=qN (by omega)
 rw [qS] at h
 obtain ⟨u28,l,rfl⟩:∃u m,l=u::m:=qN (by omega)
 rw [qS] at h
 obtain ⟨u29,l,rfl⟩:∃u m,l=u::m:=qN (by omega)
 rw [qS] at h
 obtain ⟨u30,l,rfl⟩:∃u m,l=u::m:=qN (by omega)
 rw [qS] at h
 obtain ⟨u31,l,rfl⟩:∃u m,l=u::m:=qN (by omega)
 rw [qS] at h
 obtain ⟨u32,l,rfl⟩:∃u m,l=u::m:=qN (by omega)
 rw [qS] at h
 obtain ⟨u33,l,rfl⟩:∃u m,l=u::m:=qN (by omega)
 rw [qS] at h
 obtain ⟨u34,l,rfl⟩:∃u m,l=u::m:=qN (by omega)
 rw [qS] at h
 obtain ⟨u35,l,rfl⟩:∃u m,l=u::m:=qN (by omega)
 rw [qS] at h
 obtain ⟨u36,l,rfl⟩:∃u m,l=u::m:=qN (by omega)
 rw [qS] at h
 obtain ⟨u37,l,rfl⟩:∃u m,l=u::m:=qN (by omega)
 rw [qS] at h
 obtain ⟨u38,l,rfl⟩:∃u m,l=u::m:=qN (by omega)
 rw [qS] at h
 obtain ⟨u39,l,rfl⟩:∃u m,l=u::m:=qN (by omega)
 rw [qS] at h
 obtain ⟨u40,l,rfl⟩:∃u m,l=u::m:=qN (by omega)
 rw [qS] at h
 obtain ⟨u41,l,rfl⟩:∃u m,l=u::m:=qN (by omega)
 rw [qS] at h
 obtain ⟨u42,l,rfl⟩:∃u m,l=u::m:=qN (by omega)
 rw [qS] at h
 obtain rfl:l=[]:=uD.1 (by omega)
 exact ⟨_,_,_,_,_,_,_,_,_,_,_,_,_,_,_,_,_,_,_,_,_,_,_,_,_,_,_,_,_,_,_,_,_,_,_,_,_,_,_,_,_,_,_,rfl⟩
theorem Dw {N:Nat} {W:World} {F:Nat->Prop} {μ:Mu} {s:St} {a:Act} (T:List (Nat × AV)) (B:List (Nat × SB)) (hr:RS N W F μ s a) (hT:WkT s (lkB B) T) (hB:WkB s (lkB B) B):RS N W F μ (stL T B) a/\∀b,Own μ (lkB B) b->Own μ s.σ b :=
 have h:Wk s (stL T B):=⟨fun t=>mI hT t,fN hB⟩
 ⟨h.rs hr,fun b hb=>h.own hb⟩
def Fc (W:World) (F:Nat->Prop) (c:Cf) (e:Ending) (W':World):Prop :=
 ∃(tp pe wy tb:Value) (bs:List Nat) (F':Nat->Prop),e = .returned (.agg #[tp,.int .i64 c.pol.tenants,pe,wy,tb])/\Kp No W W'/\ar W' F' (.sl (c.topo.ports.map aL)) tp/\ar W' F' (.sl (c.pol.peers.map cPr)) pe/\ar W' F' (.sl (c.pol.ways.map cWy)) wy/\fp W' c.tables tb bs/\bs.Nodup/\(∀b∈bs,W.heap.size<=b/\¬F' b)/\(∀b,F' b->b<W'.heap.size)/\∀b,F' b->F b\/W.heap.size<=b
theorem da {W:World} {b j:Nat} {cs:Array Value} {t:TypeId} {fr:Nat × Nat} {v:Value} (h:W.heap[b]?=some (.cells cs t fr)):(W.setCell ⟨b,j,none⟩ v).heap[b]?=some (.cells (cs.setIfInBounds j v) t fr):=by
 rw [Go.Sort.setCell_eq]
 simp [Go.Sort.mapBlock,Array.getElem?_modify,h,Go.Sort.onCells]
theorem ct {W:World} {b b' j:Nat} {v:Value} (h:b'≠b):(W.setCell ⟨b,j,none⟩ v).heap[b']?=W.heap[b']?:=by
 rw [Go.Sort.setCell_eq]
 simp [Go.Sort.mapBlock,Array.getElem?_modify,Ne.symm h]
def fQ (W W':World):Prop:=W'.os=W.os/\W'.tape=W.tape/\W'.output=W.output/\W'.heap.size=W.heap.size
theorem fQ.set (W:World) (a:Addr) (v:Value):fQ W (W.setCell a v):=⟨rfl,rfl,rfl,by simp⟩
theorem fQ.trans {W W' W'':World} (h:fQ W W') (k:fQ W' W''):fQ W W'':=⟨k.1.trans h.1,k.2.1.trans h.2.1,k.2.2.1.trans h.2.2.1,k.2.2.2.trans h.2.2.2⟩
theorem bY.one {α:Type} {P:World->α->Value->List Nat->Prop} {ty:TypeId} {W:World} {xs:List α} {v:Value} {bs:List Nat} (h:bY P ty W xs v bs):v.oneCell'=true:=by
 obtain ⟨_,_,_,_,_,_,_,⟨_,_,A,rfl⟩ | ⟨b,cap,capB,cur,_,rfl,_⟩⟩:=h <;> rfl
theorem bY.form {α:Type} {P:World->α->Value->List Nat->Prop} {ty:TypeId} {W:World} {xs:List α} {v:Value} {bs:List Nat} (h:bY P ty W xs v bs):∃A c,v = .slice A xs.length c/\xs.length<=c/\c<=maxLen:=by
 obtain ⟨vs,_,_,_,h1,_,_,⟨_,rfl,A,rfl⟩ | ⟨b,cap,capB,cur,_,rfl,_,h2,h3,h4,_⟩⟩:=h
 ·exact ⟨A,0,by rw [<- h1];rfl,by rw [<- h1];exact qJ _,by decide⟩
 ·exact ⟨_,cap,by rw [h1],by omega,by omega⟩
theorem eT.form {W:World} {t:List (List Rl)} {v:Value} {bs:List Nat} (h:eT W t v bs):∃A c,v = .slice A t.length c/\t.length<=c/\c<=maxLen:=bY.form h
theorem fp.form {W:World} {t:List (List (List Rl))} {v:Value} {bs:List Nat} (h:fp W t v bs):∃A c,v = .slice A t.length c/\t.length<=c/\c<=maxLen:=bY.form h
theorem eT.one {W:World} {t:List (List Rl)} {v:Value} {bs:List Nat} (h:eT W t v bs):v.oneCell'=true:=bY.one h
theorem En:∃i0,Tryz.prog.info? 52=some i0/\i0.zero=some (.slice none 0 0)/\i0.size=1/\i0.bytes=24:=info_parts (show (Tryz.prog.info? 52).map (fun i=>(i.zero,i.size,i.bytes))=some (some (.slice none 0 0),1,24) by kernel_rfl)
theorem CS:Tryz.prog.underlying 29=some (.slice 52):=by kernel_rfl
def GM:TypeDesc->Bool
 | .struct _=>true
 | _=>false
theorem oY:∃fs,Tryz.prog.underlying 31=some (.struct fs):=by
 have h:(Tryz.prog.underlying 31).map GM=some true:=by kernel_rfl
 cases e:Tryz.prog.underlying 31 with
 | none=>rw [e] at h;cases h
 | some d =>
  rw [e] at h
  cases d with
  | struct fs=>exact ⟨fs,rfl⟩
  | _=>cases h
theorem zu (c:Cf) (hf:c.Fit) (W:World) (F:Nat->Prop) (v:Value) (hv:ar W F (.agg (cCf c)) v) (hF:∀b,F b->b<W.heap.size):Calls Tryz.prog 26 #[v] W (Fc W F c):=by
 have hp:=oX c.topo.ports hf.ports hf.pts
 refine xy (args:=[.agg (cCf c)]) Tryz.func26 rfl rfl rfl W F [v] rfl (aS hv cN) hF (eI _ _) ?_
 refine WPY.fst ?_
 refine jA ?_
 refine WPY.fst ?_
 refine jA ?_
 refine jm hp ?_;refine jH ?_
 refine WPY.fst ?_
 refine jA ?_
 refine jm (nL c.pol.peers hf.peers) ?_
 refine wH rfl ?_
 refine jm (oi c.pol.peers) ?_
 refine wH rfl ?_
 refine jm (nv c.pol.ways hf.ways) ?_
 refine wH rfl ?_
 refine jm (oy c.pol.ways) ?_;refine jH ?_
 intro W1 F1 μ1 a1 hr hs hd
 obtain ⟨hr1,hot⟩:=Dw [(1,.own 1 0 0),(2,.own 2 0 0)] [(1,⟨0,some (.box 31 (cCf c))⟩),(2,⟨0,some (.box 31 zCr)⟩)] hr jQ ⟨bS rfl rfl rfl,bS rfl rfl rfl,trivial⟩
 have hk1:Kp No W W1:=hs.kp.mono fun b _ ⟨_,_,_,_,h,_⟩=>by cases h
 have hnew:=hs.new
 have hno:∀b,¬Own (fun _=>none) (fun _=>(⟨0,none⟩:SB)) b:=fun b ⟨_,_,_,_,h,_⟩=>(by cases h)
 have hown:∀b,Own μ1 (lkB [(1,⟨0,some (.box 31 (cCf c))⟩),(2,⟨0,some (.box 31 zCr)⟩)]) b->W.heap.size<=b:=fun b hb=>(hs.own b (hot b hb)).resolve_left (hno b)
 clear hr hs hv hp
 obtain ⟨tm,ds⟩:=a1
 obtain ⟨u0,u1,u2,u3,u4,u5,u6,u7,u8,u9,u10,u11,u12,u13,u14,u15,u16,u17,u18,u19,u20,u21,u22,u23,u24,u25,u26,u27,u28,u29,u30,u31,u32,u33,u34,u35,u36,u37,u38,u39,u40,u41,u42,rfl⟩:=Gi tm hr1.n
 obtain ⟨Ds,hD1,rfl,hD3⟩:=hr1.defers
 have t1:Rel W1 F1 μ1 _ (.own 1 0 0) u1:=hr1.ts 1
 have t2:Rel W1 F1 μ1 _ (.own 2 0 0) u2:=hr1.ts 2
 have hi:=hr1.inv
 clear hr1
 obtain ⟨b1,q1,vs1,hm1,hh1,hl1,hv1⟩:=hi.body 1 0 _ rfl
 obtain ⟨b2,q2,vs2,hm2,hh2,hl2,_⟩:=hi.body 2 0 _ rfl
 have hb12:b2≠b1:=fun e=>by
  have:=hi.inj 2 1 b2 q2 q1 rfl rfl hm2 (by rw [e];exact hm1)
  omega
 have o1:W.heap.size<=b1:=hown b1 ⟨1,0,_,q1,rfl,hm1⟩
 have o2:W.heap.size<=b2:=hown b2 ⟨2,0,_,q2,rfl,hm2⟩
 obtain ⟨_,_,h1⟩:=Rel.own' t1
 obtain ⟨b1',_,e1,rfl⟩:=h1 _ rfl
 obtain ⟨rfl,_⟩:b1=b1'/\True:=⟨by rw [hm1] at e1;simpa using (congrArg (fun x=>x.map (·.1)) e1),trivial⟩
 obtain ⟨_,_,h2⟩:=Rel.own' t2
 obtain ⟨b2',_,e2,rfl⟩:=h2 _ rfl
 obtain ⟨rfl,_⟩:b2=b2'/\True:=⟨by rw [hm2] at e2;simpa using (congrArg (fun x=>x.map (·.1)) e2),trivial⟩
 match vs1,hl1,hv1,hh1 with
 | [tp,vt,pe,wy,tb],_,hv1,hh1 =>
 match vs2,hl2,hh2 with
 | [z0,z1,z2,z3,z4],_,hh2 =>
 have r0:=((hv1 0 _ _ rfl rfl).2).sl'
 have r2:=((hv1 2 _ _ rfl rfl).2).sl'
 have r3:=((hv1 3 _ _ rfl rfl).2).sl'
 have r4:=((hv1 4 _ _ rfl rfl).2).sl'
 obtain rfl:vt = .int .i64 c.pol.tenants:=(hv1 1 _ _ rfl rfl).2.i'
 obtain ⟨A,cp,rfl,m1,m2⟩:=bP r4
 have hln:(c.tables.map bE).length=c.tables.length:=qH _
 rw [hln] at r4 m1 hh1
 obtain ⟨A0,k0,rfl,_,_⟩:=bP r0
 obtain ⟨A1,k1,rfl,_,_⟩:=bP r2
 obtain ⟨A2,k2,rfl,_,_⟩:=bP r3
 generalize (c.topo.ports.map aL).length=n0 at r0 hh1
 generalize (c.pol.peers.map cPr).length=n1 at r2 hh1
 generalize (c.pol.ways.map cWy).length=n2 at r3 hh1
 have mT:=hf.tabs
 rw [bK] at mT
 have HT:=Lib.hid r4
 have HP:=Lib.hid (show ar W1 F1 (.sl (c.topo.ports.map aL)) (.slice A0 n0 k0)/\ar W1 F1 (.sl (c.pol.peers.map cPr)) (.slice A1 n1 k1)/\ar W1 F1 (.sl (c.pol.ways.map cWy)) (.slice A2 n2 k2) from ⟨r0,r2,r3⟩)
 have HF1:=Lib.hid hi.old
 have HNew:=Lib.hid (show ∀b,F1 b->F b\/W.heap.size<=b from fun b hb=>(hnew b hb).imp id fun h=>h.resolve_left (hno b))
 have Hb1:=Lib.hid (show ¬F1 b1 from (hi.apart b1 ⟨1,0,_,q1,rfl,hm1⟩).2)
 have Hk1:=Lib.hid hk1
 have HD:=Lib.hid (show ∀D∈Ds,W1.heap[D]?=some (Obj.deferred (some [])) from fun D h=>(hD3 D h).1)
 have HDn:=Lib.hid hD1
 have HDF:=Lib.hid (show ∀D∈Ds,¬F1 D from fun D h=>(hD3 D h).2.1)
 have Hb2:=Lib.hid (show ¬F1 b2 from (hi.apart b2 ⟨2,0,_,q2,rfl,hm2⟩).2)
 have HDW:=Lib.hid (show ∀D∈Ds,W.heap.size<=D from fun D h=>by
  obtain ⟨D',e,h'⟩:=hd _ (qX (f:=fun D=>({ target:=.collected D,args:=#[] }:Deferred)) h)
  obtain rfl:D=D':=by simpa using e
  exact h')
 have Hh1:=Lib.hid hh1
 have Hh2:=Lib.hid hh2
 have Hf:=Lib.hid hf
 have Ho:=Lib.hid (show W.heap.size<=b1/\W.heap.size<=b2 from ⟨o1,o2⟩)
 have Hb12:=Lib.hid hb12
 have cT:W1.cell? ⟨b1,4,none⟩=some (.slice A c.tables.length cp):=aa hh1 rfl
 generalize hds:(List.map (fun D=>({ target:=.collected D,args:=#[] }:Deferred)) Ds)=ds at *
 have Hds:=Lib.hid hds
 clear hds hd hD1 hD3 hi hm1 hm2 hh1 hh2 r0 r2 r3 r4 h1 h2 e1 e2 t1 t2 hv1 hown hot hnew hno hF hk1 o1 o2 hb12 hf hln
 go_wp2_with fail
 clear cT
 go_loopw [3,29] (fun o i wr=>∃k,k<=c.tables.length/\i = .int .i64 (k:Nat)/\xc eT 52 W1 c.tables k o wr) (fun _ i _=>c.tables.length - (intOf i).toNat)
 case atStart=>exact ⟨0,qR _,rfl,Kp.refl _ _,[],[],World.ownsRow_nil _ _ _ _,rfl,fun k x u b h=>absurd h (uS k),List.nodup_nil,fun b hb=>by cases hb⟩
 case round =>
  obtain ⟨k,hk,rfl,hD⟩:=hrel
  have HQ:=Lib.hid hD
  clear hD
  by_cases hlt:k<c.tables.length
  ·have hkt:c.tables[k]?=some c.tables[k]:=qA hlt
   have hl24:=Hf.out.rows c.tables[k] (vS hlt)
   have hl96:=Hf.out.rules c.tables[k] (vS hlt)
   generalize c.tables[k]=t at hkt hl24 hl96
   obtain ⟨b,off,v,rfl,hFb,ck,hv⟩:=nD HT.out (by rw [qE,hkt];rfl)
   obtain ⟨B2,c2,rfl,_,_⟩:=bP hv
   rw [qH] at hv ck
   replace ck:wr.cell? ⟨b,off+k,none⟩=some (.slice B2 t.length c2):=(World.cell?_of_block (a:=⟨b,off+k,none⟩) (HQ.out.kp.block b (HF1.out b hFb) (az _))).trans ck
   have q1:(k:Int)<(c.tables.length:Int):=by omega
   have HC:=Lib.hid (CG t hl24 hl96 wr F1 B2 c2 (hv.keep (fun b hb _=>HQ.out.kp.block b (HF1.out b hb) (az _)) fun b hb _=>hb) fun b hb=>vK (HF1.out b hb) HQ.out.kp.size)
   have Hkt:=Lib.hid hkt
   clear hv hkt hFb hl96 hl24
   obtain ⟨vs,bss,hcc⟩:=HQ.out.ex
   have Hcc:=Lib.hid hcc
   clear hcc
   obtain ⟨i0,hi,hz0,hz1,hz2⟩:=En
   go_wp2_with (first | (go_at_call 55;refine HC.out.mono ?_;rintro e W2 ⟨v1,bs1,rfl,hk1,hq1,hn1,hn2⟩;obtain ⟨A3,c3,rfl,_,_⟩:=hq1.form;(have Hk2:=Lib.hid hk1);(have Hq1:=Lib.hid hq1);(have Hn1:=Lib.hid hn1);(have Hn2:=Lib.hid hn2);(have Hown:=Lib.hid (rq (w':=W2) Hcc.out.own fun g hg=>Hk2.out.block g (Hcc.out.own.lt g hg).2 (az _)));(have H1c:=Lib.hid hq1.one);clear hk1 hq1 hn1 hn2 ck) | (at_builtin;refine dV rfl _ _ 29 rfl W1.heap.size 52 i0 (.slice none 0 0) 1 24 CS hi hz0 hz1 hz2 rfl (by decide) u3 _ _ rfl (Hown.out.alloc _) ⟨W2.heap.size,0,none⟩ 1 1 [.slice A3 t.length c3] rfl rfl ?c1 ?c2 ?c3 ?c4 ?c5 ?_))
   case c1 =>
    intro j u hj
    match j,hj with
    | 0,hj=>simp at hj;subst hj;simp [Addr.add]
   case c2=>intro u hu;simp at hu;subst hu;exact H1c.out
   case c3=>unfold maxLen;omega
   case c4=>omega
   case c5=>have:=HQ.out.kp.size;have:=Hk2.out.size;simp;omega
   intro v' W5 hown5 hgrow5 hnew5
   have HS:=Lib.hid (xc.step (P:=eT) (fun h hk=>eT.keep h hk) (fun h=>eT.old h) (ty2:=0) HQ.out.kp Hcc.out Hk2.out Hkt.out Hq1.out Hn2.out Hn1.out _ hown5 hgrow5 hnew5)
   clear hown5 hgrow5 hnew5
   go_wp2_with fail
   go_roundw
   case rel=>exact ⟨k+1,hlt,by go_num,HS.out⟩
   case measure=>simp [intOf];omega
  ·obtain rfl:k=c.tables.length:=by omega
   obtain ⟨vs,bss,hcc⟩:=HQ.out.ex
   have hne:¬(c.tables.length:Int)<(c.tables.length:Int):=by omega
   have hform:∃B2 c2,u3 = .slice B2 c.tables.length c2/\c.tables.length<=c2/\c2<=maxLen:=by
    rcases hcc.own.2 with ⟨rfl,h0⟩ | ⟨g,cap,cur,rfl,_,_,h1,h2,_⟩
    ·exact ⟨none,0,by rw [h0],by omega,by decide⟩
    ·exact ⟨_,cap,rfl,h1,h2⟩
   obtain ⟨B2,c2,rfl,hc1,hc2⟩:=hform
   have HP2:=Lib.hid (Aq B2 c.tables.length c2 wr hc1 hc2)
   have Hcc:=Lib.hid hcc
   clear hcc hc1 hc2 hlt
   have hb1w:=(HQ.out.kp.block b1 (qI.1 Hh1.out).1 (az _)).trans Hh1.out
   have hb2w:=(HQ.out.kp.block b2 (qI.1 Hh2.out).1 (az _)).trans Hh2.out
   have p0:wr.cell? ⟨b1,0,none⟩=some (.slice A0 n0 k0):=aa hb1w rfl
   have p1:wr.cell? ⟨b1,1,none⟩=some (.int .i64 c.pol.tenants):=aa hb1w rfl
   have p2:wr.cell? ⟨b1,2,none⟩=some (.slice A1 n1 k1):=aa hb1w rfl
   have p3:wr.cell? ⟨b1,3,none⟩=some (.slice A2 n2 k2):=aa hb1w rfl
   have p4:wr.cell? ⟨b1,4,none⟩=some (.slice A c.tables.length cp):=aa hb1w rfl
   have f4:wr.frozen? ⟨b1,4,none⟩=false:=by simp [World.frozen?,hb1w]
   have z0':wr.cell? ⟨b2,0,none⟩=some z0:=aa hb2w rfl
   have z1':wr.cell? ⟨b2,1,none⟩=some z1:=aa hb2w rfl
   have z2':wr.cell? ⟨b2,2,none⟩=some z2:=aa hb2w rfl
   have z3':wr.cell? ⟨b2,3,none⟩=some z3:=aa hb2w rfl
   have z4':wr.cell? ⟨b2,4,none⟩=some z4:=aa hb2w rfl
   have y0:wr.frozen? ⟨b2,0,none⟩=false:=by simp [World.frozen?,hb2w]
   have y1:wr.frozen? ⟨b2,1,none⟩=false:=by simp [World.frozen?,hb2w]
   have y2:wr.frozen? ⟨b2,2,none⟩=false:=by simp [World.frozen?,hb2w]
   have y3:wr.frozen? ⟨b2,3,none⟩=false:=by simp [World.frozen?,hb2w]
   have y4:wr.frozen? ⟨b2,4,none⟩=false:=by simp [World.frozen?,hb2w]
   have hne2:b2≠b1:=Hb12.out
   have hne1:b1≠b2:=fun e=>Hb12.out e.symm
   have Hw1:=Lib.hid hb1w
   have Hw2:=Lib.hid hb2w
   clear hb1w hb2w hh1 hh2 hv1
   go_wp2_with (go_at_call 56;refine HP2.out.mono ?_;rintro e W2 ⟨rfl,rfl⟩)
   obtain ⟨W5,hW5⟩:∃W5,W5=((((((W2.setCell ⟨b1,4,none⟩ (.slice B2 c.tables.length c.tables.length)).setCell ⟨b2,0,none⟩ (.slice A0 n0 k0)).setCell ⟨b2,1,none⟩ (.int .i64 c.pol.tenants)).setCell ⟨b2,2,none⟩ (.slice A1 n1 k1)).setCell ⟨b2,3,none⟩ (.slice A2 n2 k2)).setCell ⟨b2,4,none⟩ (.slice B2 c.tables.length c.tables.length)):=⟨_,rfl⟩
   rw [<- hW5]
   have hoth:∀k,k≠b1->k≠b2->W5.heap[k]?=W2.heap[k]?:=fun k h1 h2=>by
    rw [hW5,ct h2,ct h2,ct h2,ct h2,ct h2,ct h1]
   have hres:W5.heap[b2]?=some (.cells #[.slice A0 n0 k0,.int .i64 c.pol.tenants,.slice A1 n1 k1,.slice A2 n2 k2,.slice B2 c.tables.length c.tables.length] 31 (0,0)):=by
    rw [hW5]
    have h0:(W2.setCell ⟨b1,4,none⟩ (.slice B2 c.tables.length c.tables.length)).heap[b2]?=_:=(ct hne2).trans Hw2.out
    exact da (da (da (da (da h0))))
   have hrest:fQ W2 W5:=by
    rw [hW5]
    exact (((((fQ.set _ _ _).trans (fQ.set _ _ _)).trans (fQ.set _ _ _)).trans (fQ.set _ _ _)).trans (fQ.set _ _ _)).trans (fQ.set _ _ _)
   obtain ⟨ho1,ho2,ho3,hsz⟩:=hrest
   clear hW5
   have hDl:∀D∈Ds,D<W1.heap.size/\D≠b1/\D≠b2:=fun D hD=>by
    have h:=HD.out D hD
    refine ⟨(qI.1 h).1,fun e=>?_,fun e=>?_⟩
    ·rw [e,Hh1.out] at h;cases h
    ·rw [e,Hh2.out] at h;cases h
   have hb2D:b2∉Ds:=fun h=>(hDl b2 h).2.2 rfl
   have hks:=pN Ds W5
   have hl1:b1<W1.heap.size:=(qI.1 Hh1.out).1
   have hl2:b2<W1.heap.size:=(qI.1 Hh2.out).1
   have hq:=HQ.out.kp
   have hfin:∀k,k<W2.heap.size->k≠b1->k≠b2->k∉Ds->(na Ds W5).heap[k]?=W2.heap[k]?:=fun k h0 h1 h2 h3=>(hks.block k (by rw [hsz];exact h0) h3).trans (hoth k h1 h2)
   refine ⟨.inr rfl,Ds,HDn.out,Hds.out.symm,fun D hD=>?_,.agg #[.slice A0 n0 k0,.int .i64 c.pol.tenants,.slice A1 n1 k1,.slice A2 n2 k2,.slice B2 c.tables.length c.tables.length],?_,?_⟩
   ·obtain ⟨h1,h2,h3⟩:=hDl D hD
    exact (hoth D h2 h3).trans ((hq.block D h1 (az _)).trans (HD.out D hD))
   ·obtain ⟨fs,hfs⟩:=oY
    exact results_cell_row rfl _ _ b2 _ _ _ _ rfl ((hks.block b2 (by rw [hsz];have:=hq.size;omega) hb2D).trans hres) hfs rfl (by kernel_rfl)
   ·obtain ⟨bs,g1,g2,g3⟩:=Hcc.out.done
    have hbs:∀b∈bs,(na Ds W5).heap[b]?=W2.heap[b]?:=fun b hb=>by
     have:=g3 b hb
     exact hfin b (g1.old (fun _ _ _ h=>eT.old h) b hb) (by omega) (by omega) fun h=>by have:=(hDl b h).1;omega
    have hF:∀b,F1 b->b<W1.heap.size->(na Ds W5).heap[b]?=W1.heap[b]?:=fun b hb _=>by
     have hlt:=HF1.out b hb
     exact (hfin b (by have:=hq.size;omega) (fun e=>Hb1.out (e ▸ hb)) (fun e=>Hb2.out (e ▸ hb)) fun h=>HDF.out b h hb).trans (hq.block b hlt (az _))
    have hsz6:=hks.size
    refine ⟨_,_,_,_,bs,F1,rfl,⟨?_,?_,?_,?_,fun b hb _=>?_⟩,HP.out.1.keep hF fun b hb _=>hb,HP.out.2.1.keep hF fun b hb _=>hb,HP.out.2.2.keep hF fun b hb _=>hb,fp.keep g1 hbs,g2,fun b hb=>⟨by have:=g3 b hb;have:=Hk1.out.size;omega,fun h=>by have:=g3 b hb;have:=HF1.out b h;omega⟩,fun b hb=>by have:=HF1.out b hb;have:=hq.size;omega,HNew.out⟩
    ·exact hks.os.trans (ho1.trans (hq.os.trans Hk1.out.os))
    ·exact hks.tape.trans (ho2.trans (hq.tape.trans Hk1.out.tape))
    ·exact hks.output.trans (ho3.trans (hq.output.trans Hk1.out.output))
    ·have:=hq.size;have:=Hk1.out.size;omega
    ·have h1:=Hk1.out.size
     have h2:=Ho.out
     refine (hfin b (by have:=hq.size;omega) (by omega) (by omega) fun h=>?_).trans ((hq.block b (by omega) (az _)).trans (Hk1.out.block b hb (az _)))
     have:=HDW.out b h
     omega
theorem D4:∃i0,Tryz.prog.info? 57=some i0/\i0.size=12:=by
 have h:(Tryz.prog.info? 57).map (fun i=>i.size)=some 12:=by kernel_rfl
 cases e:Tryz.prog.info? 57 with
 | none=>rw [e] at h;cases h
 | some i=>rw [e] at h;exact ⟨i,rfl,by simpa using h⟩
theorem fl:Tryz.prog.underlying 53=some (.slice 57):=by kernel_rfl
theorem iC {w:World} {ops:Array Oper} {rest:List Oper} {o:Oper} {a:Act} {Q:Exit->Act->World->Prop} (hgd:o.guard=none) (s x:Operand)
  (ho:o.op = .call { callee:=.builtin .append,args:=#[s,x],argTypes:=#[53,53] }) (g n cap:Nat) (cur:Array Value) (hs:a.eval s = .slice (some ⟨g,0,none⟩) n cap) (hg:w.heap[g]?=some (.cells cur 57 (0,0)))
  (ad:Addr) (m c:Nat) (news:List Value) (hx:a.eval x = .slice (some ad) m c) (hl:news.length=m*12) (hnews:∀j u,news[j]?=some u->w.cell? (ad.add j)=some u) (h1:∀u∈news,u.oneCell'=true) (hroom:n+m<=cap) (hfit:n*12+news.length<=cur.size) (r:Nat) (hnr:n+m=r)
  (h:∀w',w'=w.setRow g (cur.toList.take (n*12)++news++cur.toList.drop (n*12+news.length)).toArray->wpList Tryz.prog ops Q rest (a.put o.dst (.slice (some ⟨g,0,none⟩) r cap)) w'):wpList Tryz.prog ops Q (o::rest) a w :=
 wpList_plain hgd fun K hK=>by
  subst hnr
  obtain ⟨i0,hi,hsz⟩:=D4
  have hr:=run_append_room (P:=Tryz.prog) w 53 o.type 57 i0 fl hi g n cap cur hg ad m c news (by rw [hsz];exact hl) hnews h1 hroom (by rw [hsz];exact hfit)
  rw [hsz] at hr
  unfold Oper.wp execOp
  simp only [ho,resolve,invoke,builtin,Sem.run_bind,Sem.run_pure,Result.andThen_ok,List.map_toArray,vE,List.map_nil,hs,hx,hr]
  exact hK _ _ (h _ rfl)
def sU:List Value:=rlV Rl.zero
theorem zK {w : World} (ty : TypeId) (g n c : Nat) (cur : Array Value) (hg : w.heap[g]? = some (.cells cur 57 (0, 0))) (hfit : n * 12 + 12 <= cur.size) :
    (Builtin.clear_ #[53] ty #[.slice (some ⟨g,n*12,none⟩) 1 c]).run Tryz.prog w = .ok (.tuple #[]) (w.setRow g (cur.toList.take (n*12)++sU++cur.toList.drop (n*12+12)).toArray):=by
  have hz:∀W:World,(zeroValue 57).run Tryz.prog W = .ok (.agg (rlV Rl.zero).toArray) W:=fun W=>by kernel_rfl
  have hc:(Builtin.zeroCells (Value.agg (rlV Rl.zero).toArray).cells 1).toList=sU:=by kernel_rfl
  have hr:=run_storeCells_at (P:=Tryz.prog) g (n*12) 57 sU 0 cur w hg (by show n*12+0+12<=_;omega) (fun v hv=>by
    simp only [sU,rlV,vA,List.not_mem_nil,or_false] at hv
    rcases hv with rfl | rfl | rfl | rfl | rfl | rfl | rfl | rfl | rfl | rfl | rfl | rfl <;> rfl)
  simp only [Nat.add_zero] at hr
  simp only [Builtin.clear_,Sem.run_bind,Sem.run_pure,Result.andThen_ok,uF,List.getElem?_cons_zero,run_underlying fl,hz,hc,hr]
  rfl
theorem mi (r:Rl):∀u∈rlV r,u.oneCell'=true:=fun u hu=>by
 simp only [rlV,vA,List.not_mem_nil,or_false] at hu
 rcases hu with rfl | rfl | rfl | rfl | rfl | rfl | rfl | rfl | rfl | rfl | rfl | rfl <;> rfl
theorem gp (l:List Rl):∀u∈aw l,u.oneCell'=true:=fun u hu=>by
 obtain ⟨L,hL,hu⟩:=uN.1 hu
 obtain ⟨r,_,rfl⟩:=vH.1 hL
 exact mi r u hu
theorem lE (l:List Rl) (k:Nat):(aw l).drop (k*12)=aw (l.drop k):=by
 apply List.ext_getElem?
 intro t
 rw [uC,fa,fa,uC,show (k*12+t) / 12=k+t / 12 by omega,show (k*12+t) % 12=t % 12 by omega]
theorem lU (l:List Rl) (k:Nat) (hk:k<=l.length):(aw l).take (k*12)=aw (l.take k):=by
 have h:aw l=aw (l.take k)++aw (l.drop k):=by rw [<- gD,uU]
 rw [h,List.take_append_of_le_length (by rw [bh,vG];omega),vL (by rw [bh,vG];omega)]
theorem Cz {W2 W3 W4:World} {b cap capB i n:Nat} {cur cur3:Array Value} {l:List Rl} (hh:W2.heap[b]?=some (.cells cur 57 (0,0))) (hn:l.length=n+1) (hi:i<n+1) (h1:n+1<=cap) (h2:cap<=capB) (h3:capB<=maxLen) (h4:cur.size=capB*12) (h5:cur.toList.take ((n+1)*12)=aw l)
  (h6:cur3=(cur.toList.take (i*12)++aw (l.drop (i+1))++cur.toList.drop (i*12+(aw (l.drop (i+1))).length)).toArray) (hW3:W3=W2.setRow b cur3) (hW4:W4=W3.setRow b (cur3.toList.take (n*12)++sU++cur3.toList.drop (n*12+12)).toArray) :
  bl W4 (l.eraseIdx i) (.slice (some ⟨b,0,none⟩) n cap) [b]/\Kp (·∈[b]) W2 W4:=by
 have hdl:(aw (l.drop (i+1))).length=(n - i)*12:=by rw [bh,vV,hn];omega
 have hcl:cur.toList.length=capB*12:=by rw [qL,h4]
 have hel:(l.eraseIdx i).length=n:=by rw [List.length_eraseIdx,if_pos (by omega),hn];rfl
 have h3l:cur3.toList.length=capB*12:=by
  rw [h6]
  show (cur.toList.take (i*12)++aw (l.drop (i+1))++cur.toList.drop (i*12+(aw (l.drop (i+1))).length)).length=_
  rw [qK,qK,vG,vV,hdl,hcl]
  omega
 have hk3:Kp (·∈[b]) W2 W3:=by rw [hW3];exact (Kp.refl _ W2).setRow' (by simp) _
 have hk4:Kp (·∈[b]) W3 W4:=by rw [hW4];exact (Kp.refl _ W3).setRow' (by simp) _
 refine ⟨.inr ⟨b,cap,capB,_,rfl,by rw [hel],by rw [hW4];exact setRow_heap W3 b cur3 _ _ _ (by rw [hW3];exact setRow_heap W2 b cur _ _ _ hh),by rw [hel];omega,h2,h3,?_,?_⟩,hk3.trans hk4⟩
 ·have hz:sU.length=12:=rfl
  rw [uG,qK,qK,vG,vV,h3l,hz]
  omega
 ·have hz:sU.length=12:=rfl
  have ht:(cur.toList.take (i*12)++aw (l.drop (i+1))).length=n*12:=by
   rw [qK,vG,hdl,hcl]
   omega
  rw [hel]
  show (cur3.toList.take (n*12)++sU++cur3.toList.drop (n*12+12)).take (n*12)=_
  rw [uI,List.take_append_of_le_length (by rw [vG,h3l];omega),List.take_take,Nat.min_self,h6]
  show (cur.toList.take (i*12)++aw (l.drop (i+1))++cur.toList.drop (i*12+(aw (l.drop (i+1))).length)).take (n*12)=_
  rw [List.take_append_of_le_length (by omega),vL (by omega),List.eraseIdx_eq_take_drop_succ,gD]
  congr 1
  have h8:cur.toList.take (i*12)=(cur.toList.take ((n+1)*12)).take (i*12):=by rw [List.take_take,Nat.min_eq_left (by omega)]
  rw [h8,h5,lU _ _ (by omega)]
theorem ur (c:Nat) {W2 W3:World} {b cap capB i n:Nat} {cur:Array Value} {l:List Rl} (hh:W2.heap[b]?=some (.cells cur 57 (0,0))) (hn:l.length=n+1) (hi:i<n+1) (h1:n+1<=cap) (h2:cap<=capB) (h3:capB<=maxLen) (h4:cur.size=capB*12) (h5:cur.toList.take ((n+1)*12)=aw l)
  (hW3:W3=W2.setRow b (cur.toList.take (i*12)++aw (l.drop (i+1))++cur.toList.drop (i*12+(aw (l.drop (i+1))).length)).toArray) :
  ∃W4,(Builtin.clear_ #[53] 0 #[.slice (some ⟨b,n*12,none⟩) 1 c]).run Tryz.prog W3 = .ok (.tuple #[]) W4/\bl W4 (l.eraseIdx i) (.slice (some ⟨b,0,none⟩) n cap) [b]/\Kp (·∈[b]) W2 W4:=by
 have hdl:(aw (l.drop (i+1))).length=(n - i)*12:=by rw [bh,vV,hn];omega
 have hcl:cur.toList.length=capB*12:=by rw [qL,h4]
 refine ⟨_,zK 0 b n c _ (by rw [hW3];exact setRow_heap W2 b cur _ _ _ hh) ?_,Cz hh hn hi h1 h2 h3 h4 h5 rfl hW3 rfl⟩
 rw [uG,qK,qK,vG,vV,hdl,hcl]
 omega
theorem Ah (l:List Rl) (v:Value) (bs:List Nat) (W:World) (i:Nat) (hq:bl W l v bs) (hi:i<l.length):Calls Tryz.prog 106 #[v,.int .i64 (i:Nat),.int .i64 ((i+1:Nat):Int)] W fun e W'=>∃v',e = .returned v'/\bl W' (l.eraseIdx i) v' bs/\Kp (·∈bs) W W':=by
 rcases hq with ⟨_,rfl,_⟩ | ⟨b,cap,capB,cur,rfl,rfl,hh,h1,h2,h3,h4,h5⟩
 ·simp at hi
 have h3':=h3
 unfold maxLen at h3'
 obtain ⟨n,hn⟩:∃n,l.length=n+1:=⟨l.length - 1,by omega⟩
 rw [hn] at hi h1 h5 ⊢
 have Hn:=Lib.hid hn
 have Hh:=Lib.hid hh
 have H4:=Lib.hid h4
 have H5:=Lib.hid h5
 have H3:=Lib.hid h3
 clear hh h4 h5 h3 hn
 go_enter Tryz.func106,Tryz.ntmps106
 go_wp2_with fail
 refine gn 6 (by kernel_rfl) (by kernel_rfl) fun W2 hk2=>?_
 have Hk2:=Lib.hid hk2
 have Hh2:=Lib.hid (hk2.heap Hh.out (az _))
 clear hk2
 simp only [List.take_succ_cons,List.take_zero,List.drop_succ_cons,uR]
 have hic:i<=cap:=by omega
 have hi1:i+1<=n+1:=by omega
 have hi5:i<=n:=by omega
 have hi2:(i:Int)+1<=((n+1:Nat):Int):=by omega
 have hi3:(0:Int)<=(i:Int)+1:=by omega
 have hi4:((i:Int)+1).toNat=i+1:=by omega
 -- the cells behind
 have hsrc:∀ad:Addr,((cap=i+1/\ad=⟨b,0,none⟩)\/ad=⟨b,(i+1)*12,none⟩)->∀(j:Nat) (u:Value),(aw (l.drop (i+1)))[j]?=some u->W2.cell? (ad.add j)=some u:=by
  have hn:=Hn.out
  rintro ad (⟨hc,rfl⟩ | rfl) j u hj
  ·rw [List.drop_eq_nil_of_le (by omega)] at hj
   cases hj
  ·have hjl:=(qD.1 hj).1
   rw [bh,vV] at hjl
   rw [<- lE,uC,<- H5.out,uH (by omega),vO] at hj
   have hc:=aa Hh2.out hj
   rw [Addr.add_lit]
   exact hc
 have Hsrc:=Lib.hid hsrc
 clear hsrc
 have hnl:(aw (l.drop (i+1))).length=(n+1 - (i+1))*12:=by rw [bh,vV,Hn.out]
 have hnl2:(aw (l.drop (i+1))).length=(n - i)*12:=by rw [hnl];omega
 have hfit:i*12+(aw (l.drop (i+1))).length<=cur.size:=by rw [hnl,H4.out];omega
 have Hfit:=Lib.hid (And.intro hnl2 hfit)
 clear hnl hnl2 hfit
 by_cases hcap:cap=i+1
 ·subst hcap
  obtain rfl:n=i:=by omega
  have hx1:n<=n+1:=by omega
  have hx2:(n:Int)<=(n:Int)+1:=by omega
  repeat still_step
  refine wpStill_nil ?_
  go_wp2_with (at_builtin;refine iC rfl _ _ rfl b n (n+1) cur rfl Hh2.out ⟨b,0,none⟩ 0 0 (aw (l.drop (n+1))) rfl (by rw [Hfit.out.1,Nat.sub_self]) (Hsrc.out _ (.inl ⟨rfl,rfl⟩)) (gp _) (by omega) Hfit.out.2 n (by omega) ?_;intro W3 hW3;(have HW3:=Lib.hid hW3);(obtain ⟨W4,hclr,hfin⟩:=ur 1 Hh2.out Hn.out hi h1 h2 H3.out H4.out H5.out hW3);(have HF:=Lib.hid hfin);clear hW3 hfin)
  go_ret
  exact ⟨_,rfl,HF.out.1,((Hk2.out.mono (S':=fun x=>x∈[b]) fun _ _ h=>h.elim).trans HF.out.2).mono fun _ _ h=>by simpa using h⟩
 ·repeat still_step
  refine wpStill_nil ?_
  go_wp2_with (at_builtin;refine iC rfl _ _ rfl b i cap cur rfl Hh2.out ⟨b,(i+1)*12,none⟩ (n - i) (cap - (i+1)) (aw (l.drop (i+1))) rfl Hfit.out.1 (Hsrc.out _ (.inr rfl)) (gp _) (by omega) Hfit.out.2 n (by omega) ?_;intro W3 hW3;(have HW3:=Lib.hid hW3);(obtain ⟨W4,hclr,hfin⟩:=ur (cap - n) Hh2.out Hn.out hi h1 h2 H3.out H4.out H5.out hW3);(have HF:=Lib.hid hfin);clear hW3 hfin)
  go_ret
  exact ⟨_,rfl,HF.out.1,((Hk2.out.mono (S':=fun x=>x∈[b]) fun _ _ h=>h.elim).trans HF.out.2).mono fun _ _ h=>by simpa using h⟩
set_option pp.maxSteps 200000
structure Ed where
 sw:Int
 tab:Int
 at_:Int
 gone:Bool
 rule:Rl
def cEd (x:Ed):List AV:=[.i .i64 x.sw,.i .i64 x.tab,.i .i64 x.at_,.b x.gone]++cRl x.rule
structure zz (W:World) (bx:Nat) (tp pe wy tb:Value) (ten:Int) (b0 c0 N sw:Nat) (b1 c1 M tab:Nat) (v:Value) (A:Option Addr) (n c:Nat) (cur1:Array Value):Prop where
 box:W.heap[bx]?=some (.cells #[tp,.int .i64 ten,pe,wy,tb] 31 (0,0))
 top:tb = .slice (some ⟨b0,0,none⟩) N c0
 mid:W.cell? ⟨b0,sw,none⟩=some (.slice (some ⟨b1,0,none⟩) M c1)
 blk:W.heap[b1]?=some (.cells cur1 53 (0,0))
 leaf:cur1[tab]?=some v
 val:v = .slice A n c
theorem bl.form {W:World} {l:List Rl} {v:Value} {bs:List Nat} (h:bl W l v bs):∃A c,v = .slice A l.length c:=by
 rcases h with ⟨_,rfl,A,rfl⟩ | ⟨b,cap,_,_,_,rfl,_⟩
 ·exact ⟨A,0,rfl⟩
 ·exact ⟨_,cap,rfl⟩
def zEd (sw tab at_:Int) (gone:Bool) (r:Rl):Value:=.agg ((.int .i64 sw::.int .i64 tab::.int .i64 at_::.bool gone::rlV r:List Value).toArray)
theorem Fr (W:World) (bx:Nat) (tp pe wy tb:Value) (ten:Int) (b0 c0 N sw b1 c1 M tab at_:Nat) (v:Value) (A:Option Addr) (n c:Nat) (cur1:Array Value) (l:List Rl) (bs:List Nat) (hq:bl W l v bs) (hln:l.length=n) (h:zz W bx tp pe wy tb ten b0 c0 N sw b1 c1 M tab v A n c cur1) (h1:sw<N) (h2:tab<M) (h3:at_<n) (hN:N<=9223372036854775807) (hM:M<=9223372036854775807) (hn:n<=9223372036854775807) (hnb:b1∉bs) :
  Calls Tryz.prog 63 #[.pointer (some ⟨bx,0,none⟩),zEd sw tab at_ true Rl.zero] W fun e W'=>e = .returned (.int .i64 0)/\∃v' W1,bl W1 (l.eraseIdx at_) v' bs/\Kp (·∈bs) W W1/\W'=W1.setCell ⟨b1,tab,none⟩ v':=by
 have h6:zEd sw tab at_ true Rl.zero = .agg #[.int .i64 (sw:Nat),.int .i64 (tab:Nat),.int .i64 (at_:Nat),.bool true,.int .i64 0,.int .u64 0,.int .u64 0,.int .u64 0,.int .u64 0,.int .i64 0,.int .i64 0,.int .i64 0,.int .u64 0,.int .u64 0,.int .u64 0,.int .u64 0]:=rfl
 rw [h6]
 clear h6
 obtain ⟨hb,rfl,hm,hbl,hll,rfl⟩:=h
 have hl:W.cell? ⟨b1,tab,none⟩=some (.slice A n c):=aa hbl hll
 have Hbl:=Lib.hid hbl
 clear hbl hll
 have Hq:=Lib.hid hq
 have Hl:=Lib.hid hln
 have Hnb:=Lib.hid hnb
 have p4:W.cell? ⟨bx,4,none⟩=some (.slice (some ⟨b0,0,none⟩) N c0):=aa hb rfl
 have Hb:=Lib.hid hb
 clear hb hq hln hnb
 go_enter Tryz.func63,Tryz.ntmps63
 go_wp2_with fail
 have q1:(sw:Int)<(N:Int):=by omega
 have q2:(tab:Int)<(M:Int):=by omega
 have q3:(at_:Int)<(n:Int):=by omega
 refine et (by kernel_rfl) (by kernel_rfl) fun W2 hW2=>?_
 obtain ⟨We,hWe⟩:∃We,We=W.alloc (.cells #[.int .i64 (sw:Nat),.int .i64 (tab:Nat),.int .i64 (at_:Nat),.bool true,.int .i64 0,.int .u64 0,.int .u64 0,.int .u64 0,.int .u64 0,.int .i64 0,.int .i64 0,.int .i64 0,.int .u64 0,.int .u64 0,.int .u64 0,.int .u64 0] 63):=⟨_,rfl⟩
 rw [<- hWe] at hW2
 have he:W2.heap[W.heap.size]?=some (.cells #[.int .i64 (sw:Nat),.int .i64 (tab:Nat),.int .i64 (at_:Nat),.bool true,.int .i64 0,.int .u64 0,.int .u64 0,.int .u64 0,.int .u64 0,.int .i64 0,.int .i64 0,.int .i64 0,.int .u64 0,.int .u64 0,.int .u64 0,.int .u64 0] 63 (0,0)):=by rw [hW2,hWe];exact heap_alloc_new _ _
 have hk2:Kp No W W2:=by rw [hW2,hWe];exact ((Kp.refl No W).alloc _).drewN _
 have d0:W2.cell? ⟨W.heap.size,0,none⟩=some (.int .i64 (sw:Nat)):=aa he rfl
 have d1:W2.cell? ⟨W.heap.size,1,none⟩=some (.int .i64 (tab:Nat)):=aa he rfl
 have d2:W2.cell? ⟨W.heap.size,2,none⟩=some (.int .i64 (at_:Nat)):=aa he rfl
 have d3:W2.cell? ⟨W.heap.size,3,none⟩=some (.bool true):=aa he rfl
 have Hk2:=Lib.hid hk2
 have ca:∀(a:Addr) (u:Value),W.cell? a=some u->W2.cell? a=some u:=fun a u h=>(World.cell?_of_block (Hk2.out.block a.block (block_lt_of_cell h) (az _))).trans h
 have p4':=ca _ _ p4
 have hm':=ca _ _ hm
 have hl':=ca _ _ hl
 have hl0:=hl
 have He:=Lib.hid he
 clear hW2 hWe hk2 he p4 hm hl
 repeat still_step
 refine wpStill_nil ?_
 have z1:decide ((sw:Int)<0)=false:=qC (by omega)
 have z2:decide (N<=sw)=false:=qC (by omega)
 have z3:decide ((tab:Int)<0)=false:=qC (by omega)
 have z4:decide (M<=tab)=false:=qC (by omega)
 have z5:decide ((at_:Int)<0)=false:=qC (by omega)
 have z6:decide (n<at_)=false:=qC (by omega)
 simp only [z1,z2,z3,z4,Bool.or_false]
 go_wp2_with fail
 refine et (by kernel_rfl) (by kernel_rfl) fun W3 hW3=>?_
 have e3:∀a,W3.cell? a=W2.cell? a:=fun a=>by rw [hW3];rfl
 have hh3:W3.heap=W2.heap:=by rw [hW3];rfl
 have he:=He.out
 have hk2:=Hk2.out
 have hk3:Kp No W W3:=by rw [hW3];exact hk2.drewN _
 rw [<- e3] at d0 d1 d2 d3 p4' hm' hl'
 rw [<- hh3] at he
 have He3:=Lib.hid he
 have Hk3:=Lib.hid hk3
 clear hW3 he hk2 hk3 hh3 e3 He Hk2 ca
 repeat still_step
 refine wpStill_nil ?_
 go_wp2_with fail
 refine et (by kernel_rfl) (by kernel_rfl) fun W4 hW4=>?_
 have e4:∀a,W4.cell? a=W3.cell? a:=fun a=>by rw [hW4];rfl
 have hh4:W4.heap=W3.heap:=by rw [hW4];rfl
 have he:=He3.out
 have hk3:=Hk3.out
 have hk4:Kp No W W4:=by rw [hW4];exact hk3.drewN _
 rw [<- e4] at d0 d1 d2 d3 p4' hm' hl'
 rw [<- hh4] at he
 have He4:=Lib.hid he
 have Hk4:=Lib.hid hk4
 have d4:W4.cell? ⟨W.heap.size,4,none⟩=some (.int .i64 0):=aa he rfl
 have d5:W4.cell? ⟨W.heap.size,5,none⟩=some (.int .u64 0):=aa he rfl
 have d6:W4.cell? ⟨W.heap.size,6,none⟩=some (.int .u64 0):=aa he rfl
 have d7:W4.cell? ⟨W.heap.size,7,none⟩=some (.int .u64 0):=aa he rfl
 have d8:W4.cell? ⟨W.heap.size,8,none⟩=some (.int .u64 0):=aa he rfl
 have d9:W4.cell? ⟨W.heap.size,9,none⟩=some (.int .i64 0):=aa he rfl
 have d10:W4.cell? ⟨W.heap.size,10,none⟩=some (.int .i64 0):=aa he rfl
 have d11:W4.cell? ⟨W.heap.size,11,none⟩=some (.int .i64 0):=aa he rfl
 have d12:W4.cell? ⟨W.heap.size,12,none⟩=some (.int .u64 0):=aa he rfl
 have d13:W4.cell? ⟨W.heap.size,13,none⟩=some (.int .u64 0):=aa he rfl
 have d14:W4.cell? ⟨W.heap.size,14,none⟩=some (.int .u64 0):=aa he rfl
 have d15:W4.cell? ⟨W.heap.size,15,none⟩=some (.int .u64 0):=aa he rfl
 clear hW4 he hk3 hk4 hh4 e4 He3 Hk3
 repeat still_step
 refine wpStill_nil ?_
 have z7:decide ((at_:Int)=(n:Int))=false:=qC (by omega)
 go_wp2_with fail
 have hdel:∀w',Kp No W w'->Calls Tryz.prog 106 #[.slice A n c,.int .i64 (at_:Nat),.int .i64 ((at_:Nat)+1:Int)] w' fun e W'=>∃v',e = .returned v'/\bl W' (l.eraseIdx at_) v' bs/\Kp (·∈bs) w' W':=fun w' hk=>by
  have h:=Ah l _ bs w' at_ (Hq.out.keep fun b hb=>hk.block b (Hq.out.old b hb) (az _)) (by rw [Hl.out];exact h3)
  rw [Int.natCast_add] at h
  exact h
 have Hdel:=Lib.hid hdel
 have hw:IntKind.i64.wrap ((at_:Int)+1)=(at_:Int)+1:=by rw [IntKind.wrap_i64];omega
 have Hlt:=Lib.hid (And.intro (block_lt_of_cell hl') (qI.1 He4.out).1)
 have Hbn:=Lib.hid (show b1<W.heap.size from block_lt_of_cell (a:=⟨b1,tab,none⟩) hl0)
 clear hl0
 have Hne:=Lib.hid (show ∀b∈bs,b<W.heap.size from fun b hb=>Hq.out.old b hb)
 clear hdel d0 d1 d3 d4 d5 d6 d7 d8 d9 d10 d11 d12 d13 d14 d15 hm' p4' He4 z1 z2 z3 z4 z5 z6 z7
 go_region_with (go_at_call 106;refine (Hdel.out _ Hk4.out.drew).mono ?_;rintro e W6 ⟨v',rfl,hq6,hk6⟩;obtain ⟨A',c',rfl⟩:=hq6.form;have Hq6:=Lib.hid hq6;have Hk6:=Lib.hid hk6;have hl3:W6.cell? ⟨b1,tab,none⟩=some (.slice A n c):=(World.cell?_of_block (a:=⟨b1,tab,none⟩) (hk6.block _ Hlt.out.1 Hnb.out)).trans hl';have hfz:W6.frozen? ⟨b1,tab,none⟩=false:=(by simp [World.frozen?,(hk6.block _ Hlt.out.1 Hnb.out).trans ((Hk4.out.block _ (qI.1 Hbl.out).1 (az _)).trans Hbl.out)]);clear hq6 hk6)
 all_goals
  clear d2 hl' hw
  go_wp2_with fail
  go_ret
  exact ⟨rfl,_,W6,Hq6.out,((Hk4.out.drew.mono (S':=fun x=>x∈bs) fun _ _ h=>h.elim).trans Hk6.out).mono fun _ _ h=>by simpa using h,rfl⟩
theorem SlQ.at {W:World} {ty:TypeId} {v:Value} {vs:List Value} {ob:List Nat} {k:Nat} {u:Value} (h:SlQ W ty v vs ob) (hk:vs[k]?=some u) :
  ∃b cap cur,ob=[b]/\v = .slice (some ⟨b,0,none⟩) vs.length cap/\W.heap[b]?=some (.cells cur ty (0,0))/\cur[k]?=some u/\vs.length<=maxLen /\
   ∀(W':World) (u':Value),W'.heap[b]?=some (.cells (cur.setIfInBounds k u') ty (0,0))->SlQ W' ty v (vs.set k u') [b]:=by
 rcases h with ⟨_,rfl,_⟩ | ⟨b,cap,capB,cur,rfl,rfl,hh,h1,h2,h3,h4,h5⟩
 ·cases hk
 ·have hkl:=(qD.1 hk).1
  refine ⟨b,cap,cur,rfl,rfl,hh,?_,by omega,fun W' u' hW=>.inr ⟨b,cap,capB,_,rfl,by rw [vF],hW,by rw [vF];exact h1,h2,h3,by rw [Array.size_setIfInBounds];exact h4,?_⟩⟩
  ·rw [<- h5,uH hkl,vO] at hk
   exact hk
  ·rw [vF,Array.toList_setIfInBounds,List.take_set,h5]
theorem bY.at {α:Type} {P:World->α->Value->List Nat->Prop} {ty:TypeId} {W:World} {xs:List α} {v:Value} {bs:List Nat} {k:Nat} {x:α} (h:bY P ty W xs v bs) (hn:bs.Nodup) (hk:xs[k]?=some x)
  (hP:∀(W':World) x v bs,P W x v bs->(∀b∈bs,W'.heap[b]?=W.heap[b]?)->P W' x v bs) :
  ∃b0 cap cur u b,v = .slice (some ⟨b0,0,none⟩) xs.length cap/\W.heap[b0]?=some (.cells cur ty (0,0))/\cur[k]?=some u/\P W x u b/\xs.length<=maxLen/\b0∈bs/\b0∉b/\b.Nodup/\(∀z∈b,z∈bs) /\
   ∀(W':World) (x':α) (u':Value) (b':List Nat),P W' x' u' b'->b'.Nodup->(∀z∈b',z∈b\/z∉bs)->W'.heap[b0]?=some (.cells (cur.setIfInBounds k u') ty (0,0))->(∀z∈bs,z≠b0->z∉b->W'.heap[z]?=W.heap[z]?) ->
    ∃bs',bY P ty W' (xs.set k x') v bs'/\bs'.Nodup/\∀z∈bs',z∈bs\/z∈b':=by
 obtain ⟨vs,bss,ob,rfl,h1,h2,h3,h4⟩:=h
 have hkl:=(qD.1 hk).1
 have hu:vs[k]?=some vs[k]:=qA (by omega)
 have hb:bss[k]?=some bss[k]:=qA (by omega)
 obtain ⟨b0,cap,cur,rfl,rfl,hh,hc,hm,hset⟩:=h4.at hu
 generalize vs[k]=u at hu hc
 generalize bss[k]=b at hb
 have hbm:∀z∈b,z∈bss.flatten:=fun z hz=>uN.2 ⟨b,qP hb,hz⟩
 rw [List.singleton_append,vU] at hn
 obtain ⟨hn0,hnf⟩:=hn
 have hnb:b.Nodup:=(List.pairwise_flatten.1 hnf).1 b (qP hb)
 refine ⟨b0,cap,cur,u,b,by rw [h1],hh,hc,h3 k x u b hk hu hb,by omega,by simp,fun h=>hn0 (hbm _ h),hnb,fun z hz=>by simp [hbm z hz],?_⟩
 intro W' x' u' b' hP' hb' hnew hW' hkeep
 have hsp:bss.flatten=(bss.take k).flatten++(b++(bss.drop (k+1)).flatten):=by
  have hkb:k<bss.length:=by omega
  have hbe:bss[k]=b:=qB ((qA hkb).symm.trans hb)
  have:bss=bss.take k++(b::bss.drop (k+1)):=by
   rw [<- hbe,<- qV hkb,uU]
  conv=>lhs;rw [this]
  simp
 have hsp':(bss.set k b').flatten=(bss.take k).flatten++(b'++(bss.drop (k+1)).flatten):=by
  rw [List.set_eq_take_append_cons_drop,if_pos (by omega)]
  simp
 rw [hsp,uO,uO] at hnf
 obtain ⟨n1,⟨_,n2,n3⟩,n4⟩:=hnf
 have hmem:∀z,z∈(bss.take k).flatten\/z∈(bss.drop (k+1)).flatten->z∈bss.flatten/\z∉b/\z≠b0/\z∉b':=fun z hz=>by
  have hin:z∈bss.flatten:=by
   rw [hsp]
   rcases hz with h | h <;> simp [h]
  have hnb2:z∉b:=fun hzb=>by
   rcases hz with h | h
   ·exact n4 z h z (vP _ hzb) rfl
   ·exact n3 z hzb z h rfl
  refine ⟨hin,hnb2,fun e=>hn0 (e ▸ hin),fun hzb=>?_⟩
  rcases hnew z hzb with h | h
  ·exact hnb2 h
  ·exact h (by simp [hin])
 have hb0':b0∉b':=fun h=>by
  rcases hnew b0 h with h | h
  ·exact hn0 (hbm _ h)
  ·exact h (by simp)
 refine ⟨[b0]++(bss.set k b').flatten,⟨vs.set k u',bss.set k b',[b0],rfl,by simp [h1],by simp [h2],?_,hset W' u' hW'⟩,?_,?_⟩
 ·intro j y w c e1 e2 e3
  by_cases hj:k=j
  ·subst hj
   rw [List.getElem?_set_self (by omega)] at e1 e2 e3
   obtain rfl:=qB e1
   obtain rfl:=qB e2
   obtain rfl:=qB e3
   exact hP'
  ·rw [List.getElem?_set_ne hj] at e1 e2 e3
   refine hP W' _ _ _ (h3 j y w c e1 e2 e3) fun z hz=>?_
   have hz2:z∈(bss.take k).flatten\/z∈(bss.drop (k+1)).flatten:=by
    rcases Nat.lt_or_ge j k with h | h
    ·exact .inl (uN.2 ⟨c,qP (i:=j) (by rw [uH h];exact e3),hz⟩)
    ·exact .inr (uN.2 ⟨c,qP (i:=j - (k+1)) (by rw [uC,show k+1+(j - (k+1))=j by omega];exact e3),hz⟩)
   obtain ⟨q1,q2,q3,_⟩:=hmem z hz2
   exact hkeep z (by simp [q1]) q3 q2
 ·rw [List.singleton_append,vU,hsp']
  refine ⟨?_,?_⟩
  ·intro h
   rcases vB.1 h with h | h
   ·exact (hmem _ (.inl h)).2.2.1 rfl
   ·rcases vB.1 h with h | h
    ·exact hb0' h
    ·exact (hmem _ (.inr h)).2.2.1 rfl
  ·rw [uO,uO]
   refine ⟨n1,⟨hb',n2,fun x hx y hy e=>?_⟩,fun x hx y hy e=>?_⟩
   ·subst e
    exact (hmem x (.inr hy)).2.2.2 hx
   ·subst e
    rcases vB.1 hy with h | h
    ·exact (hmem x (.inl hx)).2.2.2 h
    ·exact n4 x hx x (List.mem_append_right _ h) rfl
 ·intro z hz
  rw [hsp'] at hz
  rcases vB.1 hz with h | h
  ·simp at h;simp [h]
  ·rcases vB.1 h with h | h
   ·exact .inl (by simp [(hmem z (.inl h)).1])
   ·rcases vB.1 h with h | h
    ·exact .inr h
    ·exact .inl (by simp [(hmem z (.inr h)).1])
abbrev bW:=List (List (List Rl))
def fq (t:bW) (x:Ed):Option (List Rl):=if x.sw<0\/x.tab<0 then none else (t[x.sw.toNat]?).bind fun m=>m[x.tab.toNat]?
def nY (t:bW) (x:Ed) (l:List Rl):bW:=t.set x.sw.toNat ((t.getD x.sw.toNat []).set x.tab.toNat l)
def bM (t:bW) (x:Ed):Int × bW :=
 match fq t x with
 | none=>(4,t)
 | some l =>
  if x.at_<0\/(l.length:Int)<x.at_\/(x.gone=true/\x.at_=l.length) then (4,t)
  else if x.gone=true then (if x.rule=Rl.zero then (0,nY t x (l.eraseIdx x.at_.toNat)) else (1,t))
  else (0,nY t x (l.insertIdx x.at_.toNat x.rule))
def vEd (x:Ed):Value:=zEd x.sw x.tab x.at_ x.gone x.rule
def pM (x:Ed) (t:bW):Prop :=
 ∀(W:World) (bx:Nat) (tp pe wy tb:Value) (ten:Int) (bs:List Nat),W.heap[bx]?=some (.cells #[tp,.int .i64 ten,pe,wy,tb] 31 (0,0))->fp W t tb bs->bs.Nodup->bx∉bs ->
  (∀m∈t,∀l∈m,l.length<=1500000000000) ->
  Calls Tryz.prog 63 #[.pointer (some ⟨bx,0,none⟩),vEd x] W fun e W'=>e = .returned (.int .i64 (bM t x).1)/\Kp (·∈bs) W W'/\((bM t x).1=0->∃bs',fp W' (bM t x).2 tb bs'/\bs'.Nodup/\∀z∈bs',z∈bs\/W.heap.size<=z)
theorem Fv {α:Type} {cs:Array α} {k:Nat} {u:α} (h:cs[k]?=some u):cs.setIfInBounds k u=cs:=by
 apply Array.ext_getElem?
 intro i
 rw [Array.getElem?_setIfInBounds]
 split
 ·rename_i e
  subst e
  rw [h]
  rw [if_pos (qI.1 h).1]
 ·rfl
theorem de {t:bW} {x:Ed} {l:List Rl} (h:fq t x=some l):∃(sw tab:Nat) (m:List (List Rl)),x.sw=sw/\x.tab=tab/\t[sw]?=some m/\m[tab]?=some l:=by
 unfold fq at h
 split at h
 ·cases h
 ·rename_i hn
  obtain ⟨m,h1,h2⟩:=Option.bind_eq_some_iff.1 h
  exact ⟨x.sw.toNat,x.tab.toNat,m,by omega,by omega,h1,h2⟩
theorem fp.at {W:World} {t:bW} {tb:Value} {bs:List Nat} {sw tab:Nat} {m:List (List Rl)} {l:List Rl} (h:fp W t tb bs) (hn:bs.Nodup) (h1:t[sw]?=some m) (h2:m[tab]?=some l) :
  ∃b0 c0 b1 c1 cur1 v lb,tb = .slice (some ⟨b0,0,none⟩) t.length c0/\W.cell? ⟨b0,sw,none⟩=some (.slice (some ⟨b1,0,none⟩) m.length c1)/\W.heap[b1]?=some (.cells cur1 53 (0,0))/\cur1[tab]?=some v/\bl W l v lb/\lb.Nodup/\t.length<=maxLen/\m.length<=maxLen/\b1∈bs/\b1∉lb/\(∀z∈lb,z∈bs) /\
   ∀(W1:World) (l':List Rl) (v':Value) (lb':List Nat),bl W1 l' v' lb'->lb'.Nodup->(∀z∈lb',z∈lb\/W.heap.size<=z)->Kp (·∈lb) W W1->∃bs',fp (W1.setCell ⟨b1,tab,none⟩ v') (t.set sw (m.set tab l')) tb bs'/\bs'.Nodup/\∀z∈bs',z∈bs\/W.heap.size<=z:=by
 have hold:=h.old
 obtain ⟨b0,c0,cur0,u0,mb,rfl,hh0,hc0,hm,ht,hb0,hb0m,hmb,hms,hset0⟩:=bY.at h hn h1 fun W' x v bs=>eT.keep
 obtain ⟨b1,c1,cur1,v,lb,rfl,hh1,hc1,hl,hml,hb1,hb1l,hlb,hls,hset1⟩:=bY.at hm hmb h2 fun W' x v bs=>bl.keep
 refine ⟨b0,c0,b1,c1,cur1,v,lb,rfl,aa hh0 hc0,hh1,hc1,hl,hlb,ht,hml,hms _ hb1,hb1l,fun z hz=>hms _ (hls z hz),?_⟩
 intro W1 l' v' lb' hl' hlb' hnew hk
 have hmo:∀z∈mb,z<W.heap.size:=fun z hz=>hold z (hms z hz)
 have hb1n:b1∉lb':=fun hz=>by
  rcases hnew b1 hz with h | h
  ·exact hb1l h
  ·have:=hmo b1 hb1;omega
 have hq1:W1.heap[b1]?=some (.cells cur1 53 (0,0)):=(hk.block b1 (hmo b1 hb1) hb1l).trans hh1
 obtain ⟨mb',hm',hmn',hmnew⟩:=hset1 (W1.setCell ⟨b1,tab,none⟩ v') l' v' lb' (hl'.keep fun b hb=>ct fun e=>hb1n (e ▸ hb)) hlb' (fun z hz=>(hnew z hz).imp id fun h hz2=>by have:=hmo z hz2;omega) (da hq1) (fun z hz hne hzl=>(ct hne).trans (hk.block z (hmo z hz) hzl))
 have hnew2:∀z∈mb',z∈mb\/W.heap.size<=z:=fun z hz=>by
  rcases hmnew z hz with h | h
  ·exact .inl h
  ·rcases hnew z h with h | h
   ·exact .inl (hls z h)
   ·exact .inr h
 have hb01:b0≠b1:=fun e=>hb0m (e ▸ hb1)
 have hq0:(W1.setCell ⟨b1,tab,none⟩ v').heap[b0]?=some (.cells (cur0.setIfInBounds sw (.slice (some ⟨b1,0,none⟩) m.length c1)) 52 (0,0)):=by
  rw [Fv hc0,ct hb01,hk.block b0 (hold b0 hb0) (fun h=>hb0m (hls b0 h)),hh0]
 have hm2:eT (W1.setCell ⟨b1,tab,none⟩ v') (m.set tab l') (.slice (some ⟨b1,0,none⟩) m.length c1) mb':=hm'
 obtain ⟨bs',hT,hTn,hTnew⟩:=hset0 (W1.setCell ⟨b1,tab,none⟩ v') (m.set tab l') _ mb' hm2 hmn' (fun z hz=>(hnew2 z hz).imp id fun h hz2=>by have:=hold z hz2;omega) hq0 (fun z hz hne hzl=>(ct (b:=b1) (b':=z) fun e=>hzl (by rw [e];exact hb1)).trans (hk.block z (hold z hz) fun h=>hzl (hls z h)))
 exact ⟨bs',hT,hTn,fun z hz=>(hTnew z hz).elim .inl fun h=>(hnew2 z h).imp (hms z) id⟩
theorem kz {t:bW} {x:Ed} {sw tab:Nat} {m:List (List Rl)} {l:List Rl} (e1:x.sw=sw) (e2:x.tab=tab) (h1:t[sw]?=some m):nY t x l=t.set sw (m.set tab l):=by
 unfold nY
 rw [e1,e2,vQ,vQ,qM,h1]
 rfl
theorem Ba (x:Ed) (t:bW) (l:List Rl) (hl:fq t x=some l) (h0:0<=x.at_) (h1:x.at_<l.length) (hg:x.gone=true) (hz:x.rule=Rl.zero):pM x t:=by
 intro W bx tp pe wy tb ten bs hb hq hn hbx hlen
 obtain ⟨sw,tab,m,e1,e2,g1,g2⟩:=de hl
 have ho:bM t x=(0,t.set sw (m.set tab (l.eraseIdx x.at_.toNat))):=by
  unfold bM
  simp only [hl]
  rw [if_neg (by rintro (h | h | ⟨_,h⟩) <;> omega),if_pos hg,if_pos hz,kz e1 e2 g1]
 have hv:vEd x=zEd sw tab (x.at_.toNat:Nat) true Rl.zero:=by
  unfold vEd
  rw [e1,e2,hg,hz,Int.toNat_of_nonneg h0]
 obtain ⟨b0,c0,b1,c1,cur1,v,lb,rfl,hm,hh1,hc1,hlq,hlb,ht,hml,hb1,hb1l,hls,hset⟩:=fp.at hq hn g1 g2
 obtain ⟨A,c,rfl⟩:=hlq.form
 have hlen:=hlen m (qP g1) l (qP g2)
 rw [ho,hv]
 unfold maxLen at ht hml
 refine (Fr W bx tp pe wy _ ten b0 c0 t.length sw b1 c1 m.length tab x.at_.toNat _ A l.length c cur1 l lb hlq rfl ⟨hb,rfl,hm,hh1,hc1,rfl⟩ (qD.1 g1).1 (qD.1 g2).1 (by omega) (by omega) (by omega) (by omega) hb1l).mono ?_
 rintro e W' ⟨rfl,v',W1,hl1,hk1,rfl⟩
 refine ⟨rfl,?_,fun _=>?_⟩
 ·exact (hk1.mono fun z _ hz=>hls z hz).setCell (p:=⟨b1,tab,none⟩) (.inl hb1) v'
 ·exact hset W1 _ v' lb hl1 hlb (fun z hz=>.inl hz) hk1
def ax:bW->List Ed->Int × bW
 | t,[]=>(0,t)
 | t,x::E=>if (bM t x).1=0 then ax (bM t x).2 E else bM t x
theorem jj:∀(t:bW) (E D:List Ed),(ax t E).1=0->ax t (E++D)=ax (ax t E).2 D
 | t,[],D,_=>rfl
 | t,x::E,D,h=>by
  unfold ax at h
  split at h
  ·rename_i h0
   have ih:=jj (bM t x).2 E D h
   have e1:ax t (x::E++D)=ax (bM t x).2 (E++D):=by
    rw [uW]
    conv=>lhs;unfold ax
    rw [if_pos h0]
   have e2:ax t (x::E)=ax (bM t x).2 E:=by
    conv=>lhs;unfold ax
    rw [if_pos h0]
   rw [e1,e2,ih]
  ·rename_i h0
   exact absurd h h0
theorem Dp {W:World} {F:Nat->Prop} {xs:List Ed} {A:Option Addr} {n c k:Nat} {x:Ed} (h:ar W F (.sl (xs.map cEd)) (.slice A n c)) (hx:xs[k]?=some x) :
  ∃b off,A=some ⟨b,off,none⟩/\W.cell? ⟨b,off+k*16,none⟩=some (.int .i64 x.sw)/\W.cell? ⟨b,off+k*16+1,none⟩=some (.int .i64 x.tab)/\W.cell? ⟨b,off+k*16+2,none⟩=some (.int .i64 x.at_)/\W.cell? ⟨b,off+k*16+3,none⟩=some (.bool x.gone)/\W.cell? ⟨b,off+k*16+4,none⟩=some (.int .i64 x.rule.prio)/\W.cell? ⟨b,off+k*16+5,none⟩=some (.int .u64 x.rule.mat.value.hi.toNat)/\W.cell? ⟨b,off+k*16+6,none⟩=some (.int .u64 x.rule.mat.value.lo.toNat)/\W.cell? ⟨b,off+k*16+7,none⟩=some (.int .u64 x.rule.mat.care.hi.toNat)/\W.cell? ⟨b,off+k*16+8,none⟩=some (.int .u64 x.rule.mat.care.lo.toNat)/\W.cell? ⟨b,off+k*16+9,none⟩=some (.int .i64 x.rule.act.kind)/\W.cell? ⟨b,off+k*16+10,none⟩=some (.int .i64 x.rule.act.port)/\W.cell? ⟨b,off+k*16+11,none⟩=some (.int .i64 x.rule.act.table)/\W.cell? ⟨b,off+k*16+12,none⟩=some (.int .u64 x.rule.act.set.value.hi.toNat)/\W.cell? ⟨b,off+k*16+13,none⟩=some (.int .u64 x.rule.act.set.value.lo.toNat)/\W.cell? ⟨b,off+k*16+14,none⟩=some (.int .u64 x.rule.act.set.care.hi.toNat)/\W.cell? ⟨b,off+k*16+15,none⟩=some (.int .u64 x.rule.act.set.care.lo.toNat):=by
 generalize hels:xs.map cEd=els at h
 cases h with
 | sl _ _ _ m b off cell hc hm hA hl h1 hr hw =>
  have hk:els[k]?=some (cEd x):=by rw [<- hels,qE,hx];rfl
  have hp:0<els.length:=by have:=(qD.1 hk).1;omega
  obtain ⟨rfl,hF,hb⟩:=hA hp
  obtain rfl:m=16:=(hl k _ hk).symm
  have g:∀(j:Nat) (y:AV) (u:Value),(cEd x)[j]?=some y->y.val?=some u->W.cell? ⟨b,off+(k*16+j),none⟩=some u:=fun j y u hj hv=>by
   rw [hw k _ j y hk hj]
   congr 1
   have h:=hr k _ j y hk hj
   generalize cell k j=z at h ⊢
   cases h <;> first | (cases hv;rfl) | cases hv
  refine ⟨b,off,rfl,by have:=g 0 _ _ rfl rfl;simpa [Nat.add_assoc] using this,by have:=g 1 _ _ rfl rfl;simpa [Nat.add_assoc] using this,by have:=g 2 _ _ rfl rfl;simpa [Nat.add_assoc] using this,by have:=g 3 _ _ rfl rfl;simpa [Nat.add_assoc] using this,by have:=g 4 _ _ rfl rfl;simpa [Nat.add_assoc] using this,by have:=g 5 _ _ rfl rfl;simpa [Nat.add_assoc] using this,by have:=g 6 _ _ rfl rfl;simpa [Nat.add_assoc] using this,by have:=g 7 _ _ rfl rfl;simpa [Nat.add_assoc] using this,by have:=g 8 _ _ rfl rfl;simpa [Nat.add_assoc] using this,by have:=g 9 _ _ rfl rfl;simpa [Nat.add_assoc] using this,by have:=g 10 _ _ rfl rfl;simpa [Nat.add_assoc] using this,by have:=g 11 _ _ rfl rfl;simpa [Nat.add_assoc] using this,by have:=g 12 _ _ rfl rfl;simpa [Nat.add_assoc] using this,by have:=g 13 _ _ rfl rfl;simpa [Nat.add_assoc] using this,by have:=g 14 _ _ rfl rfl;simpa [Nat.add_assoc] using this,by have:=g 15 _ _ rfl rfl;simpa [Nat.add_assoc] using this⟩
theorem Cn {W:World} {F:Nat->Prop} {xs:List Ed} {v:Value} (h:ar W F (.sl (xs.map cEd)) v):∃A c,v = .slice A xs.length c:=by
 have hl:(xs.map cEd).length=xs.length:=qH ..
 generalize xs.map cEd=els at h hl
 cases h with
 | sl _ A c=>exact ⟨A,c,by rw [hl]⟩
set_option pp.maxSteps 200000
structure ApW (W wr:World) (c:Cf) (F':Nat->Prop) (bx rb:Nat) (tp pe wy tb:Value) (t:bW):Prop where
 kp:Kp No W wr
 box:wr.heap[bx]?=some (.cells #[tp,.int .i64 c.pol.tenants,pe,wy,tb] 31 (0,0))
 res:wr.heap[rb]?=some (.cells #[.slice none 0 0,.int .i64 0,.slice none 0 0,.slice none 0 0,.slice none 0 0] 31 (0,0))
 ne:W.heap.size<=bx/\W.heap.size<=rb/\bx≠rb/\¬F' bx
 top:∃bs,fp wr t tb bs/\bs.Nodup/\∀z∈bs,W.heap.size<=z/\z≠bx/\z≠rb/\¬F' z
 f1:ar wr F' (.sl (c.topo.ports.map aL)) tp
 f2:ar wr F' (.sl (c.pol.peers.map cPr)) pe
 f3:ar wr F' (.sl (c.pol.ways.map cWy)) wy
 hF:∀b,F' b->b<wr.heap.size
theorem ApW.grow {W wr w2:World} {c:Cf} {F':Nat->Prop} {bx rb:Nat} {tp pe wy tb:Value} {t:bW} (h:ApW W wr c F' bx rb tp pe wy tb t) (hk:Kp No wr w2):ApW W w2 c F' bx rb tp pe wy tb t where
 kp:=h.kp.trans hk
 box:=hk.heap h.box (az _)
 res:=hk.heap h.res (az _)
 ne:=h.ne
 top:=by
  obtain ⟨bs,h1,h2,h3⟩:=h.top
  exact ⟨bs,h1.keep fun b hb=>hk.block b (h1.old b hb) (az _),h2,h3⟩
 f1:=h.f1.keep (fun b _ hb=>hk.block b hb (az _)) fun b h1 _=>h1
 f2:=h.f2.keep (fun b _ hb=>hk.block b hb (az _)) fun b h1 _=>h1
 f3:=h.f3.keep (fun b _ hb=>hk.block b hb (az _)) fun b h1 _=>h1
 hF b hb:=vK (h.hF b hb) hk.size
theorem ApW.one {W wr:World} {c:Cf} {F':Nat->Prop} {bx rb:Nat} {tp pe wy tb:Value} {t:bW} {x:Ed} (h:ApW W wr c F' bx rb tp pe wy tb t) (hx:pM x t) (hl:∀m∈t,∀l∈m,l.length<=1500000000000) :
  Calls Tryz.prog 63 #[.pointer (some ⟨bx,0,none⟩),vEd x] wr fun e W'=>e = .returned (.int .i64 (bM t x).1)/\Kp No W W'/\W'.heap[rb]?=wr.heap[rb]?/\((bM t x).1=0->ApW W W' c F' bx rb tp pe wy tb (bM t x).2):=by
 obtain ⟨bs,h1,h2,h3⟩:=h.top
 refine (hx wr bx tp pe wy tb c.pol.tenants bs h.box h1 h2 (fun hb=>(h3 bx hb).2.1 rfl) hl).mono ?_
 rintro e W' ⟨rfl,hk,hok⟩
 have hkp:Kp No W W':=h.kp.trans2 hk fun g hg hb=>absurd hg (Nat.not_lt.2 (h3 g hb).1)
 have hres:W'.heap[rb]?=wr.heap[rb]?:=hk.block rb (qI.1 h.res).1 fun hb=>(h3 rb hb).2.2.1 rfl
 refine ⟨rfl,hkp,hres,fun h0=>?_⟩
 obtain ⟨bs',t1,t2,t3⟩:=hok h0
 have hkeep:∀b,F' b->b<wr.heap.size->W'.heap[b]?=wr.heap[b]?:=fun b hb hlt=>hk.block b hlt fun hbs=>(h3 b hbs).2.2.2 hb
 have hbx:=(qI.1 h.box).1
 have hrb:=(qI.1 h.res).1
 exact {
  kp:=hkp
  box:=(hk.block bx hbx fun hb=>(h3 bx hb).2.1 rfl).trans h.box
  res:=hres.trans h.res
  ne:=h.ne
  top:=⟨bs',t1,t2,fun z hz=>(t3 z hz).elim (h3 z) fun hz2=>⟨vJ h.kp.size hz2,by omega,by omega,fun hf=>by have:=h.hF z hf;omega⟩⟩
  f1:=h.f1.keep hkeep fun b h1 _=>h1
  f2:=h.f2.keep hkeep fun b h1 _=>h1
  f3:=h.f3.keep hkeep fun b h1 _=>h1
  hF:=fun b hb=>vK (h.hF b hb) hk.size }
theorem sm {W:World} {F:Nat->Prop} {c:Cf} {v:Value} (h:ar W F (.agg (cCf c)) v):∃A0 n0 k0 A1 n1 k1 A2 n2 k2 A3 n3 k3,v = .agg #[.slice A0 n0 k0,.int .i64 c.pol.tenants,.slice A1 n1 k1,.slice A2 n2 k2,.slice A3 n3 k3]:=by
 have sf:∀{els:List (List AV)} {u:Value},ar W F (.sl els) u->∃A n k,u = .slice A n k:=fun h=>by
  generalize hx:AV.sl _=x at h
  cases h <;> first | exact ⟨_,_,_,rfl⟩ | cases hx
 cases h with
 | agg cs vs hl h1 hr =>
  match vs,hl with
  | [a,b,d,e,f],_ =>
   obtain ⟨A0,n0,k0,rfl⟩:=sf (hr 0 _ a rfl rfl)
   obtain ⟨A1,n1,k1,rfl⟩:=sf (hr 2 _ d rfl rfl)
   obtain ⟨A2,n2,k2,rfl⟩:=sf (hr 3 _ e rfl rfl)
   obtain ⟨A3,n3,k3,rfl⟩:=sf (hr 4 _ f rfl rfl)
   have hb:=hr 1 _ b rfl rfl
   cases hb
   exact ⟨_,_,_,_,_,_,_,_,_,_,_,_,rfl⟩
def cO (c:Cf) (r:Int × bW):AV:=.tup [.agg (if r.1=0 then cCf { c with tables:=r.2 } else [.sl [],.i .i64 0,.sl [],.sl [],.sl []]),.i .i64 r.1]
theorem Gr {W:World} {b:Nat} {a0 a1 a2 a3 a4:Value} {t:TypeId} (h:W.heap[b]?=some (.cells #[a0,a1,a2,a3,a4] t (0,0))) (v0 v1 v2 v3 v4:Value) :
  (((((W.setCell ⟨b,0,none⟩ v0).setCell ⟨b,1,none⟩ v1).setCell ⟨b,2,none⟩ v2).setCell ⟨b,3,none⟩ v3).setCell ⟨b,4,none⟩ v4).heap[b]?=some (.cells #[v0,v1,v2,v3,v4] t (0,0)) /\
  Kp (fun x=>x=b) W (((((W.setCell ⟨b,0,none⟩ v0).setCell ⟨b,1,none⟩ v1).setCell ⟨b,2,none⟩ v2).setCell ⟨b,3,none⟩ v3).setCell ⟨b,4,none⟩ v4) :=
 ⟨da (da (da (da (da h)))),((((Kp.set1 W b 0 v0).setCell (p:=⟨b,1,none⟩) (.inl rfl) v1).setCell (p:=⟨b,2,none⟩) (.inl rfl) v2).setCell (p:=⟨b,3,none⟩) (.inl rfl) v3).setCell (p:=⟨b,4,none⟩) (.inl rfl) v4⟩
theorem oq {tmps:Array Value} {W:World} {b:Nat} {e:Int} {cs:Array Value} (h4:tmps.getD 4 undef = .pointer (some ⟨b,0,none⟩)) (h5:tmps.getD 5 undef = .int .i64 e) (hh:W.heap[b]?=some (.cells cs 31 (0,0))) (hs:cs.size=5) :
  (results Tryz.f31 tmps).run Tryz.prog W = .ok (.tuple #[.agg cs,.int .i64 e]) W:=by
 obtain ⟨fs,hfs⟩:=oY
 have hi:(Tryz.prog.info? 31).map (·.size)=some cs.size:=by rw [hs];kernel_rfl
 rw [results_cell_tmp (p:=4) (u:=5) (ty:=31) rfl,h4,h5]
 simp only [asAddr,Sem.run_pure,Result.andThen_ok,run_loadVar_row (P:=Tryz.prog) W b _ _ _ _ _ hh hfs rfl hi]
theorem tC {W:World} {F:Nat->Prop} {c:Cf} {r:Int × bW} (h:¬r.1=0):ar W F (cO c r) (.tuple #[.agg #[.slice none 0 0,.int .i64 0,.slice none 0 0,.slice none 0 0,.slice none 0 0],.int .i64 r.1]):=by
 unfold cO
 rw [if_neg h]
 refine .tup _ [_,_] rfl fun j x v hx hv=>?_
 match j,hx,hv with
 | 0,hx,hv =>
  obtain rfl:=qB hx
  obtain rfl:=qB hv
  refine .agg _ [_,_,_,_,_] rfl (fun j x hx=>?_) fun j x v hx hv=>?_
  ·match j,hx with
   | 0,hx=>obtain rfl:=qB hx;rfl
   | 1,hx=>obtain rfl:=qB hx;rfl
   | 2,hx=>obtain rfl:=qB hx;rfl
   | 3,hx=>obtain rfl:=qB hx;rfl
   | 4,hx=>obtain rfl:=qB hx;rfl
  ·match j,hx,hv with
   | 0,hx,hv=>obtain rfl:=qB hx;obtain rfl:=qB hv;exact dE
   | 1,hx,hv=>obtain rfl:=qB hx;obtain rfl:=qB hv;exact .i _ _
   | 2,hx,hv=>obtain rfl:=qB hx;obtain rfl:=qB hv;exact dE
   | 3,hx,hv=>obtain rfl:=qB hx;obtain rfl:=qB hv;exact dE
   | 4,hx,hv=>obtain rfl:=qB hx;obtain rfl:=qB hv;exact dE
 | 1,hx,hv =>
  obtain rfl:=qB hx
  obtain rfl:=qB hv
  exact .i _ _
theorem xP {W:World} {F:Nat->Prop} {c:Cf} {r:Int × bW} {v:Value} (h:r.1=0) (hv:ar W F (.agg (cCf { c with tables:=r.2 })) v):ar W F (cO c r) (.tuple #[v,.int .i64 0]):=by
 unfold cO
 rw [if_pos h,h]
 refine .tup _ [_,_] rfl fun j x v hx hv=>?_
 match j,hx,hv with
 | 0,hx,hv =>
  obtain rfl:=qB hx
  obtain rfl:=qB hv
  assumption
 | 1,hx,hv =>
  obtain rfl:=qB hx
  obtain rfl:=qB hv
  exact .i _ _
theorem Ef {W:World} {F:Nat->Prop} {c:Cf} {tp pe wy tb:Value} (h0:ar W F (.sl (c.topo.ports.map aL)) tp) (h2:ar W F (.sl (c.pol.peers.map cPr)) pe) (h3:ar W F (.sl (c.pol.ways.map cWy)) wy) (h4:ar W F (.sl (c.tables.map bE)) tb):ar W F (.agg (cCf c)) (.agg #[tp,.int .i64 c.pol.tenants,pe,wy,tb]):=by
 refine .agg _ [_,_,_,_,_] rfl (fun j x hx=>?_) fun j x v hx hv=>?_
 ·match j,hx with
  | 0,hx=>obtain rfl:=qB hx;rfl
  | 1,hx=>obtain rfl:=qB hx;rfl
  | 2,hx=>obtain rfl:=qB hx;rfl
  | 3,hx=>obtain rfl:=qB hx;rfl
  | 4,hx=>obtain rfl:=qB hx;rfl
 ·match j,hx,hv with
  | 0,hx,hv=>obtain rfl:=qB hx;obtain rfl:=qB hv;exact h0
  | 1,hx,hv=>obtain rfl:=qB hx;obtain rfl:=qB hv;exact .i _ _
  | 2,hx,hv=>obtain rfl:=qB hx;obtain rfl:=qB hv;exact h2
  | 3,hx,hv=>obtain rfl:=qB hx;obtain rfl:=qB hv;exact h3
  | 4,hx,hv=>obtain rfl:=qB hx;obtain rfl:=qB hv;exact h4
theorem BK (c : Cf) (E : List Ed) (hf : c.Fit) (hE : ∀ (k : Nat) (x : Ed) (t : bW), E[k]? = some x -> ax c.tables (E.take k) = (0, t) -> pM x t) (hT : ∀ k t, k <= E.length -> ax c.tables (E.take k) = (0, t) -> Cf.Fit { c with tables := t }) (W : World) (F : Nat -> Prop) (v u : Value) (hv : ar W F (.agg (cCf c)) v) (hu : ar W F (.sl (E.map cEd)) u) (hF : ∀ b, F b -> b < W.heap.size) :
  Calls Tryz.prog 31 #[v,u] W fun e W'=>∃v,e = .returned v/\Kp No W W'/\ar W' (fun b=>F b\/(W.heap.size<=b/\b<W'.heap.size)) (cO c (ax c.tables E)) v:=by
 obtain ⟨A0,n0,k0,A1,n1,k1,A2,n2,k2,A3,n3,k3,rfl⟩:=sm hv
 have hEl:E.length<=9223372036854775807:=by
  obtain ⟨_,_,_,h1,h2⟩:=bP hu
  rw [qH] at h1
  unfold maxLen at h2
  omega
 obtain ⟨A,cp,rfl⟩:=Cn hu
 have Hv:=Lib.hid hv
 have Hu:=Lib.hid hu
 have HE:=Lib.hid hE
 have HT:=Lib.hid hT
 have Hf:=Lib.hid hf
 have HF:=Lib.hid hF
 clear hv hu hE hT hf hF
 go_enter Tryz.func31,Tryz.ntmps31
 go_wp2_with fail
 obtain ⟨WA,hWA⟩:∃WA,WA=(W.alloc (.cells #[.slice A0 n0 k0,.int .i64 c.pol.tenants,.slice A1 n1 k1,.slice A2 n2 k2,.slice A3 n3 k3] 31)).alloc (.cells #[.slice none 0 0,.int .i64 0,.slice none 0 0,.slice none 0 0,.slice none 0 0] 31):=⟨_,rfl⟩
 rw [<- hWA]
 have hkA:Kp No W WA:=by rw [hWA];exact ((Kp.refl No W).alloc _).alloc _
 have hsA:WA.heap.size=W.heap.size+2:=by rw [hWA];simp
 have hrA:WA.heap[W.heap.size+1]?=some (.cells #[.slice none 0 0,.int .i64 0,.slice none 0 0,.slice none 0 0,.slice none 0 0] 31 (0,0)):=by
  rw [hWA]
  have:=heap_alloc_new (W.alloc (.cells #[.slice A0 n0 k0,.int .i64 c.pol.tenants,.slice A1 n1 k1,.slice A2 n2 k2,.slice A3 n3 k3] 31)) (.cells #[.slice none 0 0,.int .i64 0,.slice none 0 0,.slice none 0 0,.slice none 0 0] 31)
  simpa using this
 refine (zu c Hf.out WA F _ (Hv.out.keep (fun b hb h2=>hkA.block b h2 (az _)) fun b h1 _=>h1) (fun b hb=>vK (HF.out b hb) hkA.size)).mono ?_
 rintro e W2 ⟨tp,pe,wy,tb,bs,F',rfl,hk2,hp1,hp2,hp3,htop,hnd,hnew,hF',hFn⟩
 obtain ⟨B0,m0,j0,rfl⟩:∃A n k,tp = .slice A n k:=by obtain ⟨A,c,h,_⟩:=bP hp1;exact ⟨_,_,_,h⟩
 obtain ⟨B1,m1,j1,rfl⟩:∃A n k,pe = .slice A n k:=by obtain ⟨A,c,h,_⟩:=bP hp2;exact ⟨_,_,_,h⟩
 obtain ⟨B2,m2,j2,rfl⟩:∃A n k,wy = .slice A n k:=by obtain ⟨A,c,h,_⟩:=bP hp3;exact ⟨_,_,_,h⟩
 obtain ⟨B3,j3,rfl,_⟩:=htop.form
 obtain ⟨W3,hW3⟩:∃W3,W3=W2.alloc (.cells #[.slice B0 m0 j0,.int .i64 c.pol.tenants,.slice B1 m1 j1,.slice B2 m2 j2,.slice B3 c.tables.length j3] 31):=⟨_,rfl⟩
 have hs2:W.heap.size+2<=W2.heap.size:=by have:=hk2.size;omega
 have ha:ApW W W3 c F' W2.heap.size (W.heap.size+1) (.slice B0 m0 j0) (.slice B1 m1 j1) (.slice B2 m2 j2) (.slice B3 c.tables.length j3) c.tables:=by
  have hk3:Kp No W2 W3:=by rw [hW3];exact (Kp.refl No W2).alloc _
  exact {
   kp:=(hkA.trans hk2).trans hk3
   box:=by rw [hW3];exact heap_alloc_new _ _
   res:=hk3.heap (hk2.heap hrA (az _)) (az _)
   ne:=⟨by omega,by omega,by omega,fun h=>Nat.lt_irrefl _ (hF' _ h)⟩
   top:=⟨bs,htop.keep fun b hb=>hk3.block b (htop.old b hb) (az _),hnd,fun z hz=>⟨by have:=(hnew z hz).1;omega,by have:=htop.old z hz;omega,by have:=(hnew z hz).1;omega,(hnew z hz).2⟩⟩
   f1:=hp1.keep (fun b _ hb=>hk3.block b hb (az _)) fun b h1 _=>h1
   f2:=hp2.keep (fun b _ hb=>hk3.block b hb (az _)) fun b h1 _=>h1
   f3:=hp3.keep (fun b _ hb=>hk3.block b hb (az _)) fun b h1 _=>h1
   hF:=fun b hb=>vK (hF' b hb) hk3.size }
 have Ha:=Lib.hid ha
 have HFn:=Lib.hid (show ∀b,F' b->F b\/W.heap.size+2<=b from fun b hb=>(hFn b hb).imp id fun h=>hsA ▸ h)
 have HW3:=Lib.hid hW3
 clear hWA hkA hsA hrA hk2 hp1 hp2 hp3 htop hnd hnew hF' hW3 hs2 ha hFn
 go_wp2_with fail
 rw [<- HW3.out]
 clear HW3
 go_loopw [14] (fun i wr=>∃(k:Nat) (t:bW),k<=E.length/\i = .int .i64 k/\ax c.tables (E.take k)=(0,t)/\ApW W wr c F' W2.heap.size (W.heap.size+1) (.slice B0 m0 j0) (.slice B1 m1 j1) (.slice B2 m2 j2) (.slice B3 c.tables.length j3) t) (fun i _=>E.length - (intOf i).toNat)
 case atStart=>exact ⟨0,c.tables,qR _,rfl,rfl,Ha.out⟩
 case round =>
  obtain ⟨k,t,hk,rfl,ht,hI⟩:=hrel
  by_cases hlt:k<E.length
  ·have hx:E[k]?=some E[k]:=qA hlt
   have hxo:=HE.out k _ t hx ht
   have hsn:E.take (k+1)=E.take k++[E[k]]:=(List.take_append_getElem hlt).symm
   have hdr:E=E.take k++(E[k]::E.drop (k+1)):=by rw [<- qV hlt,uU]
   generalize E[k]=x at hx hxo hsn hdr
   have hs:ar wr F (.sl (E.map cEd)) (.slice A E.length cp):=Hu.out.keep (fun b hb' _=>hI.kp.block b (HF.out b hb') (az _)) (fun b h1 _=>h1)
   obtain ⟨b,off,rfl,c0,c1,c2,c3,c4,c5,c6,c7,c8,c9,c10,c11,c12,c13,c14,c15⟩:=Dp hs hx
   obtain ⟨wx,hwx⟩:∃wx,wx=wr.alloc (.cells #[.int .i64 x.sw,.int .i64 x.tab,.int .i64 x.at_,.bool x.gone,.int .i64 x.rule.prio,.int .u64 x.rule.mat.value.hi.toNat,.int .u64 x.rule.mat.value.lo.toNat,.int .u64 x.rule.mat.care.hi.toNat,.int .u64 x.rule.mat.care.lo.toNat,.int .i64 x.rule.act.kind,.int .i64 x.rule.act.port,.int .i64 x.rule.act.table,.int .u64 x.rule.act.set.value.hi.toNat,.int .u64 x.rule.act.set.value.lo.toNat,.int .u64 x.rule.act.set.care.hi.toNat,.int .u64 x.rule.act.set.care.lo.toNat] 63):=⟨_,rfl⟩
   have hb:=hI.box
   have b0:wr.cell? ⟨W2.heap.size,0,none⟩=some (.slice B0 m0 j0):=aa hb rfl
   have Hwx:=Lib.hid hwx
   have HI:=Lib.hid hI
   have Ht:=Lib.hid ht
   have Hx:=Lib.hid hx
   have Hxo:=Lib.hid hxo
   have Hsn:=Lib.hid hsn
   have Hdr:=Lib.hid hdr
   have q1:(k:Int)<(E.length:Int):=by omega
   have Hlt:=Lib.hid hlt
   clear hwx hI ht hs hx hxo hsn hdr hlt hb
   go_wp2_with fail
   rw [<- Hwx.out]
   have hl:∀m∈t,∀l∈m,l.length<=1500000000000:=fun m hm l hl=>by
    have:=(HT.out k t hk Ht.out).rules m hm l hl
    rw [bK] at this
    omega
   refine Calls.mono ((HI.out.grow (w2:=wx) (by rw [Hwx.out];exact (Kp.refl No wr).alloc _)).one Hxo.out hl) ?_
   rintro e W4 ⟨rfl,hk4,hr4,hok⟩
   have hres:W4.heap[W.heap.size+1]?=some (.cells #[.slice none 0 0,.int .i64 0,.slice none 0 0,.slice none 0 0,.slice none 0 0] 31 (0,0)):=by
    rw [hr4,Hwx.out,heap_alloc_old _ _ (qI.1 HI.out.res).1]
    exact HI.out.res
   have Hk4:=Lib.hid hk4
   have Hok:=Lib.hid hok
   have Hres:=Lib.hid hres
   have Hkl:=Lib.hid hk
   clear hl hk4 hr4 hok hres c0 c1 c2 c3 c4 c5 c6 c7 c8 c9 c10 c11 c12 c13 c14 c15 b0 q1
   by_cases h0:(bM t x).1=0
   ·have Hn:=Lib.hid (Hok.out h0)
    have Ht1:=Lib.hid (show ax c.tables (E.take (k+1))=(0,(bM t x).2) by
     rw [Hsn.out,jj _ _ _ (by rw [Ht.out]),Ht.out]
     unfold ax
     rw [if_pos h0]
     rfl)
    have hw:IntKind.i64.wrap ((k:Int)+1)=(k:Int)+1:=by have:=Hlt.out;rw [IntKind.wrap_i64];omega
    rw [h0]
    clear h0
    go_wp2_with fail
    go_roundw
    case rel=>exact ⟨k+1,(bM t x).2,Hlt.out,by rw [Int.natCast_add];rfl,Ht1.out,Hn.out⟩
    case measure =>
     have:=Hlt.out
     simp only [intOf]
     trace_state
     simp
     omega
   ·have Hr := Lib.hid (show ax c.tables E = bM t x by
     rw [Hdr.out,jj _ _ _ (by rw [Ht.out]),Ht.out]
     unfold ax
     rw [if_neg h0])
    have Hr0:=Lib.hid h0
    have r0:W4.cell? ⟨W.heap.size+1,0,none⟩=some (.slice none 0 0):=aa Hres.out rfl
    have r1:W4.cell? ⟨W.heap.size+1,1,none⟩=some (.int .i64 0):=aa Hres.out rfl
    have r2:W4.cell? ⟨W.heap.size+1,2,none⟩=some (.slice none 0 0):=aa Hres.out rfl
    have r3:W4.cell? ⟨W.heap.size+1,3,none⟩=some (.slice none 0 0):=aa Hres.out rfl
    have r4:W4.cell? ⟨W.heap.size+1,4,none⟩=some (.slice none 0 0):=aa Hres.out rfl
    have fz:∀j,W4.frozen? ⟨W.heap.size+1,j,none⟩=false:=fun j=>by simp [World.frozen?,Hres.out]
    obtain ⟨e1,he1⟩:∃e1,(bM t x).1=e1:=⟨_,rfl⟩
    have He1:=Lib.hid he1
    rw [he1] at h0
    simp only [he1]
    clear he1
    clear Hok
    go_wp2_with fail
    have h5:=Gr Hres.out (.slice none 0 0) (.int .i64 0) (.slice none 0 0) (.slice none 0 0) (.slice none 0 0)
    refine bodyPost_ret (oq rfl rfl h5.1 rfl) rfl ⟨_,rfl,?_,?_⟩
    ·exact Hk4.out.trans2 h5.2 fun g hg hb=>absurd hg (by omega)
    ·rw [Hr.out]
     exact He1.out ▸ tC Hr0.out
  ·obtain rfl:k=E.length:=by omega
   rw [vW] at ht
   have hfit:=HT.out E.length t (qJ _) (by rw [vW];exact ht)
   have hb:=hI.box
   have b0:wr.cell? ⟨W2.heap.size,0,none⟩=some (.slice B0 m0 j0):=aa hb rfl
   have b1:wr.cell? ⟨W2.heap.size,1,none⟩=some (.int .i64 c.pol.tenants):=aa hb rfl
   have b2:wr.cell? ⟨W2.heap.size,2,none⟩=some (.slice B1 m1 j1):=aa hb rfl
   have b3:wr.cell? ⟨W2.heap.size,3,none⟩=some (.slice B2 m2 j2):=aa hb rfl
   have b4:wr.cell? ⟨W2.heap.size,4,none⟩=some (.slice B3 c.tables.length j3):=aa hb rfl
   have HI:=Lib.hid hI
   have Ht:=Lib.hid ht
   have Hfit:=Lib.hid hfit
   clear hI ht hfit hb hlt hk
   go_wp2_with fail
   have hres:=HI.out.res
   obtain ⟨bs2,hT,_,hbs2⟩:=HI.out.top
   have hold:∀b,(F' b\/b∈bs2)->b<wr.heap.size:=fun b hb=>hb.elim (HI.out.hF b) (hT.old b)
   have harg:ar wr (fun b=>F' b\/b∈bs2) (.agg (cCf { c with tables:=t })) (.agg #[.slice B0 m0 j0,.int .i64 c.pol.tenants,.slice B1 m1 j1,.slice B2 m2 j2,.slice B3 c.tables.length j3]) :=
    Ef (c:={ c with tables:=t }) (HI.out.f1.to fun b hb=>.inl hb) (HI.out.f2.to fun b hb=>.inl hb) (HI.out.f3.to fun b hb=>.inl hb) (hT.pr fun b hb=>.inr hb)
   refine ((nh { c with tables:=t } Hfit.out).calls wr (fun b=>F' b\/b∈bs2) [_] rfl (aS harg cN) hold (eI _ _)).mono ?_
   rintro e W5 ⟨u,rfl,hk5,hp5⟩
   have hres5:W5.heap[W.heap.size+1]?=some (.cells #[.slice none 0 0,.int .i64 0,.slice none 0 0,.slice none 0 0,.slice none 0 0] 31 (0,0)):=hk5.heap hres (az _)
   obtain ⟨C0,p0,l0,C1,p1,l1,C2,p2,l2,C3,p3,l3,rfl⟩:=sm hp5
   have Hbs:=Lib.hid hbs2
   have Hold:=Lib.hid hold
   have Hk5:=Lib.hid hk5
   have Hp5:=Lib.hid hp5
   have Hres5:=Lib.hid hres5
   have r0:W5.cell? ⟨W.heap.size+1,0,none⟩=some (.slice none 0 0):=aa hres5 rfl
   have r1:W5.cell? ⟨W.heap.size+1,1,none⟩=some (.int .i64 0):=aa hres5 rfl
   have r2:W5.cell? ⟨W.heap.size+1,2,none⟩=some (.slice none 0 0):=aa hres5 rfl
   have r3:W5.cell? ⟨W.heap.size+1,3,none⟩=some (.slice none 0 0):=aa hres5 rfl
   have r4:W5.cell? ⟨W.heap.size+1,4,none⟩=some (.slice none 0 0):=aa hres5 rfl
   have fz:∀j,W5.frozen? ⟨W.heap.size+1,j,none⟩=false:=fun j=>by simp [World.frozen?,hres5]
   clear hres hT hbs2 hold harg hk5 hp5 hres5 b0 b1 b2 b3 b4
   go_wp2_with fail
   have h5:=Gr Hres5.out (.slice C0 p0 l0) (.int .i64 c.pol.tenants) (.slice C1 p1 l1) (.slice C2 p2 l2) (.slice C3 p3 l3)
   refine bodyPost_ret (oq rfl rfl h5.1 rfl) rfl ⟨_,rfl,?_,?_⟩
   ·exact (HI.out.kp.trans Hk5.out).trans2 h5.2 fun g hg hb=>absurd hg (by omega)
   ·rw [Ht.out]
    refine xP rfl ?_
    have hsz:=HI.out.kp.size
    have hr:=(qI.1 HI.out.res).1
    have h5s:=h5.2.size
    have h5k:=Hk5.out.size
    have hcase:∀b,((F' b\/b∈bs2)\/(wr.heap.size<=b/\b<W5.heap.size))->b<W5.heap.size/\b≠W.heap.size+1/\(F b\/W.heap.size<=b):=fun b hb=>by
     rcases hb with (hb | hb) | hb
     ·have h1:=HI.out.hF b hb
      rcases HFn.out b hb with h | h
      ·have:=HF.out b h
       exact ⟨by omega,by omega,.inl h⟩
      ·exact ⟨by omega,by omega,.inr (by omega)⟩
     ·have h1:=Hold.out b (.inr hb)
      have h2:=Hbs.out b hb
      exact ⟨by omega,h2.2.2.1,.inr h2.1⟩
     ·exact ⟨hb.2,by omega,.inr (by omega)⟩
    refine Hp5.out.keep (fun b hb _=>h5.2.block b (hcase b hb).1 (hcase b hb).2.1) fun b hb h2=>?_
    exact (hcase b hb).2.2.imp id fun h=>⟨h,by have:=(hcase b hb).1;omega⟩
theorem vi (c:Cf) (E:List Ed) (hf:c.Fit) (hE:∀(k:Nat) (x:Ed) (t:bW),E[k]?=some x->ax c.tables (E.take k)=(0,t)->pM x t) (hT:∀k t,k<=E.length->ax c.tables (E.take k)=(0,t)->Cf.Fit { c with tables:=t }):ae Tryz.prog 31 [.agg (cCf c),.sl (E.map cEd)] (cO c (ax c.tables E)) :=
 ae.mk2 ⟨_,_,Tryz.func31,rfl,rfl⟩ fun W F v u hv hu hF=>BK c E hf hE hT W F v u hv hu hF
end Go.Proofs.YtdidjpohnopihaaGreat.Sm
end
