/- Contracts of the program's functions over data, and the plain laws that they meet (part 8). No condition. -/
import Derived.Test.YtdidjpohnopihaaGreatVqg
import Derived.WalkKit
import Derived.WalkSpells
import Derived.WalkLawsBesides
import Derived.Lib.Hide
import Derived.Deep.RegionHeld3
import Derived.Maps.AppendAt
import Derived.KernelRfl
import Derived.Lib.AppendStr
import Derived.Orders
import Derived.LoopTactic
import Derived.Laws.CopyRow
import Derived.Laws.Cells
import Derived.OrdersIn
import Derived.Laws.Externs
import Derived.TacticsIn
import Derived.RangeFuncLeaves
import Derived.RangeFuncRecord
import Derived.Great.BuildSlice
import Derived.Laws.ResultCell
import Derived.Laws.StructEq
import Derived.Laws.MakeOwn
import Derived.Lib.AppendZerosOnto
import Derived.RangeFuncSeq
import Derived.RangeFuncIn
import Derived.Deep.Slices
import Derived.Deep.Fields
import Derived.ChangeSame
import Derived.ProofKit
import Derived.OpenShut
import Derived.SizedLaws
import Derived.Test.YtdidjpohnopihaaGreatProg
import Derived.Shelf.Spec.BitsCarry
import Derived.Laws.AppendOwn
import Derived.DeepKeys4
import Derived.MapKept
import Derived.Maps.Own
import Derived.Maps.OwnOps
import Derived.StillTailTactics
import Derived.Laws.OwnMore
import Derived.Sort.AssemblyPlain
import Derived.Sort.LotD4
import Derived.Sort.Walk13a
import Derived.Shelf.Sort.Plain
import Derived.Sort.OwnSortedInts
import Derived.Sort.LotA
import Derived.Sort.MapsRangeIn
import Derived.Maps.RangeWalk
import Derived.Laws.IdiomRangeMap
import Derived.Shelf.SlSortCmp.WholeK
import Derived.Ground.SlsfProg
import Derived.Ground.NamesProg
import Derived.Shelf.SlSortCmp.NoneTotal
import Derived.Lib.Overlaps
import Derived.BigQuiet
set_option linter.unusedVariables false
set_option linter.unusedSimpArgs false
set_option maxRecDepth 100000
set_option maxHeartbeats 4000000
section
namespace Go.Proofs.YtdidjpohnopihaaGreat.Sm
open Go.RowKit
def aA (l:List Rl):List Value:=(l.map rlV).flatten
theorem bo:∀(l:List Rl),(aA l).length=l.length*12
 |[]=>rfl
 |r::l=>by
  have:=bo l
  unfold aA at this ⊢
  rw [vE,uN,qK,this,qS]
  show 12+l.length*12=_
  omega
theorem gT (l m:List Rl):aA (l++m)=aA l++aA m:=by simp [aA]
theorem fu:∀(l:List Rl) (t:Nat),(aA l)[t]?=(l[t / 12]?).bind fun r=>(rlV r)[t % 12]?
 |[],t=>by simp [aA]
 |r::l,t=>by
  have ih:=fu l (t-12)
  unfold aA at ih ⊢
  rw [vE,uN,vZ]
  have hl:(rlV r).length=12:=rfl
  by_cases h:t<12
  ·rw [if_pos (by rw [hl];exact h),show t / 12=0 by omega,show t % 12=t by omega]
   rfl
  ·rw [if_neg (by rw [hl];exact h),hl,ih,show t / 12=(t-12) / 12+1 by omega,show (t-12) % 12=t % 12 by omega,uS]
def bt (W:World)(l:List Rl)(v:Value)(bs:List Nat):Prop :=
 (bs=[]/\l=[]/\∃A,v = .slice A 0 0) \/
 ∃b cap capB cur,bs=[b]/\v = .slice (some ⟨b,0,none⟩) l.length cap/\W.heap[b]?=some (.cells cur 57 (0,0))/\l.length<=cap/\cap<=capB/\capB<=maxLen/\cur.size=capB*12/\cur.toList.take (l.length*12)=aA l
def SlQ (W:World)(ty:TypeId)(v:Value)(vs:List Value)(ob:List Nat):Prop :=
 (ob=[]/\vs=[]/\∃A,v = .slice A 0 0) \/
 ∃b cap capB cur,ob=[b]/\v = .slice (some ⟨b,0,none⟩) vs.length cap/\W.heap[b]?=some (.cells cur ty (0,0))/\vs.length<=cap/\cap<=capB/\capB<=maxLen/\cur.size=capB/\cur.toList.take vs.length=vs
def cd {α:Type}(P:World->α->Value->List Nat->Prop)(ty:TypeId)(W:World)(xs:List α)(v:Value)(bs:List Nat):Prop :=
 ∃(vs:List Value) (bss:List (List Nat)) (ob:List Nat),bs=ob++bss.flatten/\vs.length=xs.length/\bss.length=xs.length/\(∀(k:Nat) (x:α) (u:Value) (b:List Nat),xs[k]?=some x->vs[k]?=some u->bss[k]?=some b->P W x u b)/\SlQ W ty v vs ob
def eX:World->List (List Rl)->Value->List Nat->Prop:=cd bt 53
def fH:World->List (List (List Rl))->Value->List Nat->Prop:=cd eX 52
section
variable {W W':World}
theorem bt.keep {l:List Rl}{v:Value}{bs:List Nat}(h:bt W l v bs)(hk:∀b∈bs,W'.heap[b]?=W.heap[b]?):bt W' l v bs:=by
 rcases h with h|⟨b,cap,capB,cur,rfl,e,hh,r⟩
 ·exact .inl h
 ·exact .inr ⟨b,cap,capB,cur,rfl,e,(hk b (by simp)).trans hh,r⟩
theorem bt.old {l:List Rl}{v:Value}{bs:List Nat}(h:bt W l v bs):∀b∈bs,b<W.heap.size:=by
 rcases h with⟨rfl,_⟩|⟨b,cap,capB,cur,rfl,e,hh,r⟩
 ·intro b hb;cases hb
 ·intro b' hb
  rw [qP.1 hb]
  exact (qI.1 hh).1
theorem SlQ.keep {ty:TypeId}{v:Value}{vs:List Value}{ob:List Nat}(h:SlQ W ty v vs ob)(hk:∀b∈ob,W'.heap[b]?=W.heap[b]?):SlQ W' ty v vs ob:=by
 rcases h with h|⟨b,cap,capB,cur,rfl,e,hh,r⟩
 ·exact .inl h
 ·exact .inr ⟨b,cap,capB,cur,rfl,e,(hk b (by simp)).trans hh,r⟩
theorem SlQ.old {ty:TypeId}{v:Value}{vs:List Value}{ob:List Nat}(h:SlQ W ty v vs ob):∀b∈ob,b<W.heap.size:=by
 rcases h with⟨rfl,_⟩|⟨b,cap,capB,cur,rfl,e,hh,r⟩
 ·intro b hb;cases hb
 ·intro b' hb
  rw [qP.1 hb]
  exact (qI.1 hh).1
theorem cd.keep {α:Type}{P:World->α->Value->List Nat->Prop}(hP:∀x v bs,P W x v bs->(∀b∈bs,W'.heap[b]?=W.heap[b]?)->P W' x v bs){ty:TypeId}{xs:List α}{v:Value}{bs:List Nat}(h:cd P ty W xs v bs)(hk:∀b∈bs,W'.heap[b]?=W.heap[b]?):cd P ty W' xs v bs:=by
 obtain⟨vs,bss,ob,rfl,h1,h2,h3,h4⟩:=h
 exact⟨vs,bss,ob,rfl,h1,h2,fun k x u b e1 e2 e3=>hP _ _ _ (h3 k x u b e1 e2 e3) fun b' hb'=>hk b' (List.mem_append_right _ (uP.2 ⟨b,qN e3,hb'⟩)),h4.keep fun b hb=>hk b (vS _ hb)⟩
theorem cd.old {α:Type}{P:World->α->Value->List Nat->Prop}(hP:∀x v bs,P W x v bs->∀b∈bs,b<W.heap.size){ty:TypeId}{xs:List α}{v:Value}{bs:List Nat}(h:cd P ty W xs v bs):∀b∈bs,b<W.heap.size:=by
 obtain⟨vs,bss,ob,rfl,h1,h2,h3,h4⟩:=h
 intro b hb
 rcases vB.1 hb with hb|hb
 ·exact h4.old b hb
 ·obtain⟨bs,hbs,hb⟩:=uP.1 hb
  obtain⟨k,hk⟩:=List.mem_iff_getElem?.1 hbs
  have hkl:=(qD.1 hk).1
  exact hP _ _ _ (h3 k _ _ bs (qA (by omega)) (qA (by omega)) hk) b hb
theorem eX.keep {t:List (List Rl)}{v:Value}{bs:List Nat}(h:eX W t v bs)(hk:∀b∈bs,W'.heap[b]?=W.heap[b]?):eX W' t v bs:=cd.keep (fun _ _ _=>bt.keep) h hk
theorem eX.old {t:List (List Rl)}{v:Value}{bs:List Nat}(h:eX W t v bs):∀b∈bs,b<W.heap.size:=cd.old (fun _ _ _=>bt.old) h
theorem fH.keep {t:List (List (List Rl))}{v:Value}{bs:List Nat}(h:fH W t v bs)(hk:∀b∈bs,W'.heap[b]?=W.heap[b]?):fH W' t v bs:=cd.keep (fun _ _ _=>eX.keep) h hk
theorem fH.old {t:List (List (List Rl))}{v:Value}{bs:List Nat}(h:fH W t v bs):∀b∈bs,b<W.heap.size:=cd.old (fun _ _ _=>eX.old) h
theorem DC {F:Nat->Prop}(r:Rl)(j:Nat)(x:AV)(h:(cRl r)[j]?=some x):x.one=true/\∃u,(rlV r)[j]?=some u/\au W F x u:=by
 match j,h with
 |0,h=>obtain rfl:=qB h;exact⟨rfl,_,rfl,.i _ _⟩
 |1,h=>obtain rfl:=qB h;exact⟨rfl,_,rfl,.u _⟩
 |2,h=>obtain rfl:=qB h;exact⟨rfl,_,rfl,.u _⟩
 |3,h=>obtain rfl:=qB h;exact⟨rfl,_,rfl,.u _⟩
 |4,h=>obtain rfl:=qB h;exact⟨rfl,_,rfl,.u _⟩
 |5,h=>obtain rfl:=qB h;exact⟨rfl,_,rfl,.i _ _⟩
 |6,h=>obtain rfl:=qB h;exact⟨rfl,_,rfl,.i _ _⟩
 |7,h=>obtain rfl:=qB h;exact⟨rfl,_,rfl,.i _ _⟩
 |8,h=>obtain rfl:=qB h;exact⟨rfl,_,rfl,.u _⟩
 |9,h=>obtain rfl:=qB h;exact⟨rfl,_,rfl,.u _⟩
 |10,h=>obtain rfl:=qB h;exact⟨rfl,_,rfl,.u _⟩
 |11,h=>obtain rfl:=qB h;exact⟨rfl,_,rfl,.u _⟩
 |j+12,h=>cases h
theorem kT {F:Nat->Prop}{l:List Rl}{k j:Nat}{cs:List AV}{x:AV}(hk:(l.map cRl)[k]?=some cs)(hx:cs[j]?=some x):k*12+j<l.length*12/\x.one=true/\∃u,(aA l)[k*12+j]?=some u/\au W F x u:=by
 rw [qF] at hk
 obtain⟨r,hr,rfl⟩:=vT.1 hk
 have hkl:=(qD.1 hr).1
 have hj:j<12:=(qD.1 hx).1
 obtain⟨h1,u,h2,h3⟩:=DC (W:=W) (F:=F) r j x hx
 refine⟨by omega,h1,u,?_,h3⟩
 rw [fu,show (k*12+j) / 12=k by omega,show (k*12+j) % 12=j by omega,hr]
 exact h2
theorem bt.pr {l:List Rl}{v:Value}{bs:List Nat}{F:Nat->Prop}(h:bt W l v bs)(hF:∀b∈bs,F b):au W F (.sl (l.map cRl)) v:=by
 rcases h with⟨_,rfl,A,rfl⟩|⟨b,cap,capB,cur,rfl,rfl,hh,h1,h2,h3,h4,h5⟩
 ·exact dX
 ·have hlen:(l.map cRl).length=l.length:=qG _
  rw [<- hlen]
  refine .sl (l.map cRl) _ cap 12 b 0 (fun k j=>(aA l).getD (k*12+j) undef) (by omega) (by omega) (fun _=>⟨rfl,hF b (by simp),(qI.1 hh).1⟩) ?_ ?_ ?_ ?_
  ·intro k cs hk
   rw [qF] at hk
   obtain⟨r,_,rfl⟩:=vT.1 hk
   rfl
  ·intro k cs j x hk hx
   exact (kT (W:=W) (F:=F) hk hx).2.1
  ·intro k cs j x hk hx
   obtain⟨_,_,u,e,r⟩:=kT (W:=W) (F:=F) hk hx
   rw [qM,e]
   exact r
  ·intro k cs j x hk hx
   obtain⟨e0,_,u,e,r⟩:=kT (W:=W) (F:=F) hk hx
   rw [qM,e]
   rw [<- h5,uJ e0,vO] at e
   refine af hh ?_
   rw [vN]
   exact e
theorem cd.pr {α:Type}{P:World->α->Value->List Nat->Prop}{F:Nat->Prop}(enc:α->AV)(h1:∀x,(enc x).one=true)(hP:∀x v bs,P W x v bs->(∀b∈bs,F b)->au W F (enc x) v){ty:TypeId}{xs:List α}{v:Value}{bs:List Nat}(h:cd P ty W xs v bs)(hF:∀b∈bs,F b):au W F (.sl (xs.map fun x=>[enc x])) v:=by
 obtain⟨vs,bss,ob,rfl,e1,e2,e3,h4⟩:=h
 rcases h4 with⟨_,rfl,A,rfl⟩|⟨b,cap,capB,cur,rfl,rfl,hh,q1,q2,q3,q4,q5⟩
 ·have:xs=[]:=uD.1 e1.symm
  subst this
  exact dX
 ·have hlen:(xs.map fun x=>[enc x]).length=vs.length:=by rw [qG,e1]
  have key:∀(k:Nat) (cs:List AV) (j:Nat) (x:AV),(xs.map fun x=>[enc x])[k]?=some cs->cs[j]?=some x->j=0/\x.one=true/\∃u,vs[k]?=some u/\cur[k]?=some u/\au W F x u:=fun k cs j x hk hx=>by
   rw [qF] at hk
   obtain⟨y,hy,rfl⟩:=vT.1 hk
   have hkl:=(qD.1 hy).1
   match j,hx with
   |0,hx=>
    obtain rfl:=qB hx
    have ev:vs[k]?=some (vs[k]'(by omega)):=qA (by omega)
    have eb:bss[k]?=some (bss[k]'(by omega)):=qA (by omega)
    refine⟨rfl,h1 y,_,ev,?_,hP _ _ _ (e3 k y _ _ hy ev eb) fun b' hb'=>hF b' (List.mem_append_right _ (uP.2 ⟨_,qN eb,hb'⟩))⟩
    rw [<- ev,<- vO]
    have:=congrArg (fun l=>l[k]?) q5
    simp only [uJ (show k<vs.length by omega)] at this
    exact this
   |j+1,hx=>cases hx
  rw [<- hlen]
  refine .sl _ _ cap 1 b 0 (fun k j=>vs.getD k undef) (by omega) (by omega) (fun _=>⟨rfl,hF b (by simp),(qI.1 hh).1⟩) ?_ ?_ ?_ ?_
  ·intro k cs hk
   rw [qF] at hk
   obtain⟨r,_,rfl⟩:=vT.1 hk
   rfl
  ·intro k cs j x hk hx
   exact (key k cs j x hk hx).2.1
  ·intro k cs j x hk hx
   obtain⟨_,_,u,e,_,r⟩:=key k cs j x hk hx
   rw [qM,e]
   exact r
  ·intro k cs j x hk hx
   obtain⟨rfl,_,u,e,e',r⟩:=key k cs j x hk hx
   rw [qM,e]
   refine af hh ?_
   rw [show 0+(k*1+0)=k by omega]
   exact e'
theorem eX.pr {t:List (List Rl)}{v:Value}{bs:List Nat}{F:Nat->Prop}(h:eX W t v bs)(hF:∀b∈bs,F b):au W F (.sl (t.map bp)) v:=cd.pr (fun l:List Rl=>AV.sl (l.map cRl)) (fun _=>rfl) (fun _ _ _ h1 h2=>bt.pr h1 h2) h hF
theorem fH.pr {t:List (List (List Rl))}{v:Value}{bs:List Nat}{F:Nat->Prop}(h:fH W t v bs)(hF:∀b∈bs,F b):au W F (.sl (t.map bY)) v:=cd.pr (fun l:List (List Rl)=>AV.sl (l.map bp)) (fun _=>rfl) (fun _ _ _ h1 h2=>eX.pr h1 h2) h hF
end
theorem Cr (A:Option Addr)(n c:Nat)(W:World)(hn:n<=c)(hc:c<=maxLen):Calls Tryz.prog 97 #[.slice A n c] W fun e W'=>e = .returned (.slice A n n)/\W'=W:=by
 unfold maxLen at hc
 go_enter Tryz.func97,Tryz.ntmps97
 go_wp2_with fail
 go_ret
 exact⟨rfl,rfl⟩
theorem zW (A:Option Addr)(n c:Nat)(W:World)(hn:n<=c)(hc:c<=maxLen):Calls Tryz.prog 99 #[.slice A n c] W fun e W'=>e = .returned (.slice A n n)/\W'=W:=by
 unfold maxLen at hc
 go_enter Tryz.func99,Tryz.ntmps99
 go_wp2_with fail
 go_ret
 exact⟨rfl,rfl⟩
theorem AK (A:Option Addr)(n c:Nat)(W:World)(hn:n<=c)(hc:c<=maxLen):Calls Tryz.prog 56 #[.slice A n c] W fun e W'=>e = .returned (.slice A n n)/\W'=W:=by
 unfold maxLen at hc
 go_enter Tryz.func56,Tryz.ntmps56
 go_wp2_with fail
 go_ret
 exact⟨rfl,rfl⟩
theorem DZ {W:World}{F:Nat->Prop}{l:List Rl}{cells:List Value}(h:dz W F 12 (l.map cRl) cells):cells=aA l:=by
 have hn:=h.n
 rw [qG] at hn
 refine List.ext_getElem? fun t=>?_
 by_cases ht:t<l.length*12
 ·have h4:t / 12<l.length:=by omega
  rw [fu,qA h4,Option.bind_some]
  have hk:(l.map cRl)[t / 12]?=some (cRl l[t / 12]):=by rw [qF,qA h4];rfl
  have key:=h.r (t / 12) (cRl l[t / 12]) (t % 12)
  rw [show t / 12*12+t % 12=t by omega] at key
  have h5:t % 12<12:=kB2 _ (by decide)
  obtain⟨x,hx⟩:∃x,(cRl l[t / 12])[t % 12]?=some x:=⟨_,qA h5⟩
  obtain⟨_,u,e1,r1⟩:=key x hk hx
  generalize l[t / 12]=r at hx
  generalize t % 12=j at hx h5
  rw [e1]
  match j,h5,hx with
  |0,_,hx=>obtain rfl:=qB hx;exact congrArg some (aD rfl r1)
  |1,_,hx=>obtain rfl:=qB hx;exact congrArg some (aD rfl r1)
  |2,_,hx=>obtain rfl:=qB hx;exact congrArg some (aD rfl r1)
  |3,_,hx=>obtain rfl:=qB hx;exact congrArg some (aD rfl r1)
  |4,_,hx=>obtain rfl:=qB hx;exact congrArg some (aD rfl r1)
  |5,_,hx=>obtain rfl:=qB hx;exact congrArg some (aD rfl r1)
  |6,_,hx=>obtain rfl:=qB hx;exact congrArg some (aD rfl r1)
  |7,_,hx=>obtain rfl:=qB hx;exact congrArg some (aD rfl r1)
  |8,_,hx=>obtain rfl:=qB hx;exact congrArg some (aD rfl r1)
  |9,_,hx=>obtain rfl:=qB hx;exact congrArg some (aD rfl r1)
  |10,_,hx=>obtain rfl:=qB hx;exact congrArg some (aD rfl r1)
  |11,_,hx=>obtain rfl:=qB hx;exact congrArg some (aD rfl r1)
  |j+12,h,_=>exact absurd h (by omega)
 ·rw [vX (by omega),vX (by rw [bo];omega)]
theorem BO {W:World}{F:Nat->Prop}(hF:∀b,F b->b<W.heap.size):Inv W F (fun _=>none) (lkB []) :=
 ⟨fun _ _ _ h=>(by cases h),fun b ⟨_,_,_,_,h,_⟩=>(by cases h),fun _ _ _ _ _ h=>(by cases h),hF,eT _ _⟩
theorem zu (l:List Rl)(hl:l.length*96<=reachBytes)(W:World)(F:Nat->Prop)(v:Value)(hv:au W F (.sl (l.map cRl)) v)(hF:∀b,F b->b<W.heap.size):Calls Tryz.prog 98 #[v] W fun e W'=>∃A c bs,e = .returned (.slice A l.length c)/\l.length<=c/\c<=maxLen/\Kp No W W'/\bt W' l (.slice A l.length c) bs/\∀b∈bs,W.heap.size<=b:=by
 match l,hl,hv with
 |[],_,hv=>
  obtain⟨A,c,rfl⟩:=nZ hv
  clear hv hF
  cases A with
  |none=>
   have heq:∀W,(binOp .eql 53 (.slice none 0 c) (.slice none 0 0)).run Tryz.prog W = .ok (.bool true) W:=fun W=>by kernel_rfl
   go_enter Tryz.func98,Tryz.ntmps98
   go_wp2_with fail
   go_ret
   exact⟨_,_,[],rfl,qJ _,by decide,Kp.refl _ _,.inl ⟨rfl,rfl,_,rfl⟩,fun b hb=>by cases hb⟩
  |some a=>
   have heq:∀W,(binOp .eql 53 (.slice (some a) 0 c) (.slice none 0 0)).run Tryz.prog W = .ok (.bool false) W:=fun W=>by kernel_rfl
   have happ:∀W b,(Builtin.append_ #[53,53] 53 #[.slice (some b) 0 0,.slice (some a) 0 c]).run Tryz.prog W = .ok (.slice (some b) 0 0) W:=fun W b=>by kernel_rfl
   go_enter Tryz.func98,Tryz.ntmps98
   go_wp2_with fail
   go_ret
   exact⟨_,_,[],rfl,qJ _,by decide,(Kp.refl _ _).alloc _,.inl ⟨rfl,rfl,_,rfl⟩,fun b hb=>by cases hb⟩
 |x::l,hl,hv=>
  refine ((ut x l hl fun _=>none).calls W F (fun _=>none) [v] rfl (fun j y u hy hu=>?_) (BO hF)).mono ?_
  ·match j,hy,hu with
   |0,hy,hu=>
    obtain rfl:=qB hy
    obtain rfl:=qB hu
    exact .pure hv
   |j+1,hy,_=>cases hy
  ·rintro e W' ⟨v',F',μ',rfl,hi,hs,hr⟩
   have hid:lkB (gl (fun _=>none) [] [(5,⟨0,some (.row 57 12 ((x::l).map cRl))⟩)]) 5=⟨0,some (.row 57 12 ((x::l).map cRl))⟩:=rfl
   have hln:((x::l).map cRl).length=(x::l).length:=qG _
   obtain⟨_,hq⟩:=gb hi hr hid
   rcases hq with⟨_,e2,_⟩|⟨b,cap,hm,rfl,q2,q3⟩
   ·cases e2
   have hb:=hi.body 5 0 _ hid
   rw [hm] at hb
   rcases hb with⟨hb,_⟩|⟨b',cap',cur,hb,hh,g1,g2,g3,g4,g5⟩
   ·cases hb
   obtain⟨rfl,rfl⟩:b=b'/\cap=cap':=by simpa using hb
   rw [hln] at q2
   have hkp:Kp No W W':=hs.kp.mono fun b _ ⟨_,_,_,_,h,_⟩=>by cases h
   have hnew:W.heap.size<=b:=(hs.own b ⟨5,0,_,cap,hid,hm⟩).resolve_left fun ⟨_,_,_,_,h,_⟩=>by cases h
   refine⟨some ⟨b,0,none⟩,cap,[b],by simp,q2,q3,hkp,.inr ⟨b,cap,cap,cur,rfl,rfl,hh,q2,qJ _,q3,g3,?_⟩,fun b' hb'=>by rw [qP.1 hb'];exact hnew⟩
   refine DZ (W:=W') (F:=F') ⟨g4,?_,fun k cs j y hk hy=>?_⟩
   ·have e1:cur.toList.length=cap*12:=by rw [qL,g3]
    rw [vG,e1,hln]
    exact kB3 (Nat.mul_le_mul_right 12 q2)
   ·obtain⟨r1,u,r2,r3⟩:=g5 k cs j y hk hy
    have hkl:=(qD.1 hk).1
    rw [hln] at hkl
    have hj:j<12:=by rw [<- g4 k cs hk];exact (qD.1 hy).1
    exact⟨r1,u,by rw [uJ (by omega),vO];exact r2,r3⟩
theorem bt.clip {W:World}{l:List Rl}{A:Option Addr}{c:Nat}{bs:List Nat}(h:bt W l (.slice A l.length c) bs):bt W l (.slice A l.length l.length) bs:=by
 rcases h with⟨rfl,rfl,A',e⟩|⟨b,cap,capB,cur,rfl,e,hh,h1,h2,h3,h4,h5⟩
 ·exact .inl ⟨rfl,rfl,A,rfl⟩
 ·obtain⟨rfl,_,rfl⟩:A=some ⟨b,0,none⟩/\True/\c=cap:=by simpa using e
  exact .inr ⟨b,l.length,capB,cur,rfl,rfl,hh,qJ _,by omega,h3,h4,h5⟩
theorem bt.nodup {W:World}{l:List Rl}{v:Value}{bs:List Nat}(h:bt W l v bs):bs.Nodup:=by
 rcases h with⟨rfl,_⟩|⟨b,cap,capB,cur,rfl,_⟩
 ·exact List.nodup_nil
 ·simp
theorem bt.one {W:World}{l:List Rl}{v:Value}{bs:List Nat}(h:bt W l v bs):v.oneCell'=true:=by
 rcases h with⟨_,_,A,rfl⟩|⟨b,cap,capB,cur,rfl,rfl,_⟩ <;> rfl
theorem tt {w w':World}{B:Nat}{ty:TypeId}{m:Nat}{v:Value}{n:Nat}{xs:List Value}(h:w.ownsRow B ty m v n xs)(hk:∀g,v.ownBlock=some g->w'.heap[g]?=w.heap[g]?):w'.ownsRow B ty m v n xs:=by
 refine⟨h.1,?_⟩
 rcases h.2 with hn|⟨g,cap,cur,rfl,hb,hgg,rest⟩
 ·exact .inl hn
 ·exact .inr ⟨g,cap,cur,rfl,hb,(hk g rfl).trans hgg,rest⟩
structure CU {α:Type}(P:World->α->Value->List Nat->Prop)(ty:TypeId)(W0:World)(t:List α)(i:Nat)(o:Value)(W:World)(vs:List Value)(bss:List (List Nat)):Prop where
 own:W.ownsRow W0.heap.size ty 1 o i vs
 len:bss.length=i
 at_:∀(k:Nat) (x:α) (u:Value) (b:List Nat),k<i->t[k]?=some x->vs[k]?=some u->bss[k]?=some b->P W x u b
 nd:bss.flatten.Nodup
 new:∀b∈bss.flatten,W0.heap.size<=b/\b<W.heap.size/\o.ownBlock≠some b
structure xZ {α:Type}(P:World->α->Value->List Nat->Prop)(ty:TypeId)(W0:World)(t:List α)(i:Nat)(o:Value)(W:World):Prop where
 kp:Kp No W0 W
 ex:∃(vs:List Value) (bss:List (List Nat)),CU P ty W0 t i o W vs bss
theorem xZ.step {α:Type}{P:World -> α -> Value -> List Nat -> Prop}(hP:∀ {W W':World} {x:α} {v:Value} {bs:List Nat},P W x v bs -> (∀ b ∈ bs,W'.heap[b]? = W.heap[b]?) -> P W' x v bs)(hO:∀ {W:World} {x:α} {v:Value} {bs:List Nat},P W x v bs -> ∀ b ∈ bs,b < W.heap.size){ty ty2:TypeId}{W0 W W2 W5:World}{t:List α}{k:Nat}{o v v':Value}{x:α}{bs:List Nat}{vs:List Value}{bss:List (List Nat)}(h:Kp No W0 W)(hc:CU P ty W0 t k o W vs bss)(hk:Kp No W W2)(hx:t[k]? = some x)(hq:P W2 x v bs)(hn:∀ b ∈ bs,W.heap.size <= b)(hnd:bs.Nodup)
  (ob:Obj) (hown:W5.ownsRow W0.heap.size ty 1 v' (k+1) (vs++[v])) (hg:(W2.alloc ob).grownBy W5 o.ownBlock) (hb:v'.ownBlock=o.ownBlock\/v'.ownBlock=some (W2.heap.size+1)):xZ P ty W0 t (k+1) v' W5:=by
 obtain⟨h1,h2,h3,h4,h5⟩:=hc
 have hvl:vs.length=k:=by have:=h1.1;omega
 have hoW:∀b,o.ownBlock=some b->b<W.heap.size:=fun b hb=>(h1.lt b hb).2
 have hWW2:=hk.size
 have hW5:∀b,b<W2.heap.size->o.ownBlock≠some b->W5.heap[b]?=W2.heap[b]?:=fun b h1 h2=>(hg.block b (by simp;omega) fun e=>h2 e.symm).trans (heap_alloc_old _ _ h1)
 have hbsO:=hO hq
 have hsz:W2.heap.size<W5.heap.size:=by have:=hg.size;simp at this;omega
 have hkp:Kp No W0 W5:=by
  have hb0:=(h.trans hk)
  refine⟨hg.os.trans hb0.os,hg.tape.trans hb0.tape,hg.output.trans hb0.output,by have:=hb0.size;omega,fun b hb _=>?_⟩
  have:=h.size
  exact (hW5 b (by omega) fun e=>by have:=(h1.lt b e).1;omega).trans (hb0.block b hb (aF _))
 refine⟨hkp,vs++[v],bss++[bs],hown,by rw [qK,h2];rfl,fun j y u b hj e1 e2 e3=>?_,?_,fun b hb'=>?_⟩
 ·by_cases hjk:j<k
  ·rw [List.getElem?_append_left (by omega)] at e2 e3
   have hm:∀b'∈b,b'∈bss.flatten:=fun b' hb'=>uP.2 ⟨b,qN e3,hb'⟩
   refine hP (h3 j y u b hjk e1 e2 e3) fun b' hb'=>?_
   obtain⟨g1,g2,g3⟩:=h5 b' (hm b' hb')
   exact (hW5 b' (by omega) g3).trans (hk.block b' g2 (aF _))
  ·obtain rfl:j=k:=by omega
   rw [List.getElem?_append_right (by omega),hvl,Nat.sub_self] at e2
   rw [List.getElem?_append_right (by omega),h2,Nat.sub_self] at e3
   obtain rfl:=qB e2
   obtain rfl:=qB e3
   obtain rfl:x=y:=qB (hx.symm.trans e1)
   refine hP hq fun b' hb'=>hW5 b' (hbsO b' hb') fun e=>?_
   have:=hoW b' e
   have:=hn b' hb'
   omega
 ·rw [List.flatten_append,uQ]
  refine⟨h4,by simpa using hnd,fun a ha c hc=>?_⟩
  have:=(h5 a ha).2.1
  have:=hn c (by simpa using hc)
  omega
 ·rw [List.flatten_append,vB] at hb'
  have hv':∀b,v'.ownBlock=some b->o.ownBlock=some b\/W2.heap.size+1=b:=fun b e=>by
   rcases hb with h|h
   ·exact .inl (h ▸ e)
   ·rw [h] at e
    exact .inr (by simpa using e)
  rcases hb' with hb'|hb'
  ·obtain⟨g1,g2,g3⟩:=h5 b hb'
   refine⟨g1,by omega,fun e=>?_⟩
   rcases hv' b e with e|e
   ·exact g3 e
   ·omega
  ·have hb':b∈bs:=by simpa using hb'
   have g1:=hn b hb'
   have g2:=hbsO b hb'
   refine⟨by have:=h.size;omega,by omega,fun e=>?_⟩
   rcases hv' b e with e|e
   ·have:=hoW b e;omega
   ·omega
theorem CU.done {α:Type}{P:World->α->Value->List Nat->Prop}{ty:TypeId}{W0 W:World}{t:List α}{A:Option Addr}{c:Nat}{vs:List Value}{bss:List (List Nat)}(h:CU P ty W0 t t.length (.slice A t.length c) W vs bss):∃bs,cd P ty W t (.slice A t.length t.length) bs/\bs.Nodup/\∀b∈bs,W0.heap.size<=b:=by
 obtain⟨h1,h2,h3,h4,h5⟩:=h
 have hvl:vs.length=t.length:=by have:=h1.1;omega
 have hat:∀(k:Nat) (x:α) (u:Value) (b:List Nat),t[k]?=some x->vs[k]?=some u->bss[k]?=some b->P W x u b:=fun k x u b e1 e2 e3=>h3 k x u b (qD.1 e1).1 e1 e2 e3
 rcases h1.2 with⟨e,h0⟩|⟨g,cap,cur,e,hb,hh,q1,q2,q3,q4⟩
 ·refine⟨[]++bss.flatten,⟨vs,bss,[],rfl,hvl,h2,hat,.inl ⟨rfl,uD.1 (hvl.trans h0),A,by rw [h0]⟩⟩,by simpa using h4,fun b hb=>(h5 b (by simpa using hb)).1⟩
 ·obtain⟨rfl,_,rfl⟩:A=some ⟨g,0,none⟩/\True/\c=cap:=by simpa using e
  refine⟨[g]++bss.flatten,⟨vs,bss,[g],rfl,hvl,h2,hat,.inr ⟨g,t.length,c,cur,rfl,by rw [hvl],hh,by omega,q1,q2,by rw [q3];omega,by rw [hvl];rw [Nat.mul_one] at q4;exact q4⟩⟩,?_,fun b hb'=>?_⟩
  ·rw [uQ]
   refine⟨by simp,h4,fun a ha b' hb' e=>?_⟩
   rw [qP.1 ha] at e
   exact (h5 b' hb').2.2 (by rw [e];rfl)
  ·rcases vB.1 hb' with hb'|hb'
   ·rw [qP.1 hb'];exact hb
   ·exact (h5 b hb').1
theorem Fb:∃i0,Tryz.prog.info? 53=some i0/\i0.zero=some (.slice none 0 0)/\i0.size=1/\i0.bytes=24:=info_parts (show (Tryz.prog.info? 53).map (fun i=>(i.zero,i.size,i.bytes))=some (some (.slice none 0 0),1,24) by kernel_rfl)
theorem Eh:Tryz.prog.underlying 52=some (.slice 53):=by kernel_rfl
theorem CY (t:List (List Rl))(ht:t.length * 24 <= reachBytes)(hr:∀ l ∈ t,l.length * 96 <= reachBytes)(W:World)(F:Nat -> Prop)(A:Option Addr)(c:Nat)(hv:au W F (.sl (t.map bp)) (.slice A t.length c))(hF:∀ b,F b -> b < W.heap.size) :
  Calls Tryz.prog 55 #[.slice A t.length c] W fun e W'=>∃v bs,e = .returned v/\Kp No W W'/\eX W' t v bs/\bs.Nodup/\∀b∈bs,W.heap.size<=b:=by
 have m1:=va hv
 rw [qG] at m1
 unfold maxLen at m1
 rw [bK] at ht
 have Hv:=kA4 hv
 have HF:=kA4 hF
 have Hr:=kA4 hr
 clear hv hF hr
 go_enter Tryz.func55,Tryz.ntmps55
 go_wp2_with fail
 go_loopw [3,8] (fun o i wr=>∃k,k<=t.length/\i = .int .i64 (k:Nat)/\xZ bt 53 W t k o wr) (fun _ i _=>t.length-(intOf i).toNat)
 case atStart=>exact⟨0,qR _,rfl,Kp.refl _ _,[],[],World.ownsRow_nil _ _ _ _,rfl,fun k x u b h=>absurd h (uO k),List.nodup_nil,fun b hb=>by cases hb⟩
 case round=>
  obtain⟨k,hk,rfl,hD⟩:=hrel
  have HD:=kA4 hD
  clear hD
  by_cases hlt:k<t.length
  ·have hkt:t[k]?=some t[k]:=qA hlt
   have hl96:=Hr.out t[k] (vR hlt)
   generalize t[k]=l at hkt hl96
   obtain⟨b,off,v,rfl,hFb,ck,hv⟩:=mZ Hv.out (by rw [qF,hkt];rfl)
   replace ck:wr.cell? ⟨b,off+k,none⟩=some v:=(kA7 (a:=⟨b,off+k,none⟩) (HD.out.kp.block b (HF.out b hFb) (aF _))).trans ck
   have q1:(k:Int)<(t.length:Int):=by omega
   have HC:=kA4 (zu l hl96 wr F v (hv.keep (fun b hb _=>HD.out.kp.block b (HF.out b hb) (aF _)) fun b hb _=>hb) fun b hb=>vK (HF.out b hb) HD.out.kp.size)
   have Hkt:=kA4 hkt
   clear hv hkt hFb hl96
   go_wp2_with (go_at_call 98;refine HC.out.mono ?_;rintro e W1 ⟨A1,c1,bs1,rfl,hc1,hc2,hk1,hq1,hn1⟩)
   have Hk1:=kA4 hk1
   have Hq1:=kA4 hq1
   have Hn1:=kA4 hn1
   have HP:=kA4 (Cr A1 l.length c1 W1 hc1 hc2)
   clear ck hk1 hq1 hn1 hc1 hc2
   obtain⟨vs,bss,hcc⟩:=HD.out.ex
   have Hcc:=kA4 hcc
   clear hcc
   obtain⟨i0,hi,hz0,hz1,hz2⟩:=Fb
   have Hown:=kA4 (tt (w':=W1) Hcc.out.own fun g hg=>Hk1.out.block g (Hcc.out.own.lt g hg).2 (aF _))
   go_wp2_with (first|(go_at_call 97;refine HP.out.mono ?_;rintro e W2 ⟨rfl,rfl⟩)|(at_builtin;refine eD rfl _ _ 52 rfl W.heap.size 53 i0 (.slice none 0 0) 1 24 Eh hi hz0 hz1 hz2 rfl (by decide) u3 _ _ rfl (Hown.out.alloc _) ⟨W2.heap.size,0,none⟩ 1 1 [.slice A1 l.length l.length] rfl rfl ?c1 ?c2 ?c3 ?c4 ?c5 ?_))
   case c1=>
    intro j u hj
    match j,hj with
    |0,hj=>simp at hj;subst hj;simp [Addr.add]
   case c2=>intro u hu;simp at hu;subst hu;rfl
   case c3=>unfold maxLen;omega
   case c4=>omega
   case c5=>have:=HD.out.kp.size;have:=Hk1.out.size;simp;omega
   intro v' W5 hown5 hgrow5 hnew5
   have HS:=kA4 (xZ.step (P:=bt) (fun h hk=>bt.keep h hk) (fun h=>bt.old h) (ty2:=0) HD.out.kp Hcc.out Hk1.out Hkt.out Hq1.out.clip Hn1.out Hq1.out.clip.nodup _ hown5 hgrow5 hnew5)
   clear hown5 hgrow5 hnew5
   go_wp2_with fail
   go_roundw
   case rel=>exact⟨k+1,hlt,by go_num,HS.out⟩
   case measure=>simp [intOf];omega
  ·obtain rfl:k=t.length:=by omega
   obtain⟨vs,bss,hcc⟩:=HD.out.ex
   have hne:¬(t.length:Int)<(t.length:Int):=by omega
   have hform:∃A2 c2,u3 = .slice A2 t.length c2/\t.length<=c2/\c2<=maxLen:=by
    rcases hcc.own.2 with⟨rfl,h0⟩|⟨g,cap,cur,rfl,_,_,h1,h2,_⟩
    ·exact⟨none,0,by rw [h0],by omega,by decide⟩
    ·exact⟨_,cap,rfl,h1,h2⟩
   obtain⟨A2,c2,rfl,hc1,hc2⟩:=hform
   have HP:=kA4 (zW A2 t.length c2 wr hc1 hc2)
   have Hcc:=kA4 hcc
   clear hcc hc1 hc2 hlt
   go_wp2_with (go_at_call 99;refine HP.out.mono ?_;rintro e W2 ⟨rfl,rfl⟩)
   go_ret
   obtain⟨bs,g1,g2,g3⟩:=Hcc.out.done
   exact⟨_,bs,rfl,HD.out.kp,g1,g2,g3⟩
def WPY (P:Program)(N:Nat)(W0:World)(F0:Nat->Prop)(c:Code)(Q:Exit->Act->World->Prop)(s:St):Prop :=
 ∀W F μ a,RS N W F μ s a->Stq W0 F0 (fun _=>none) (fun _=>⟨0,none⟩) W F μ s.σ->(∀d∈a.defers,∃D,d = { target:=.collected D,args:=#[] }/\W0.heap.size<=D)->Code.wp P c Q a W
theorem WPY.fst {P:Program}{N:Nat}{W0:World}{F0:Nat->Prop}{x y:Code}{Q:Exit->Act->World->Prop}{s:St}(h:AW P N x (By (WPY P N W0 F0 y Q)) s):WPY P N W0 F0 (.seq x y) Q s:=by
 intro W F μ a hr hs hd
 refine wp_seq (wpIn_wide.1 (wpIn_mono (h W F μ a hr none fun _=>rfl) ?_))
 rintro e a' W' ⟨F',μ',s',hq,hr',hs'⟩
 cases e with
 |normal=>
  refine hq W' F' μ' a' hr' (hs.trans hs'.toStq) fun d hd'=>?_
  rcases hs'.nw d hd' with h1|⟨D,e,hD⟩
  ·exact hd d h1
  ·exact⟨D,e,vH hs.kp.size hD⟩
 |_=>exact hq.elim
def IG (P:Program)(fn:Func)(W0:World)(R:Ending->World->Prop)(e:Exit)(a:Act)(W:World):Prop :=
 (e = .normal\/e = .ret)/\∃Ds:List Nat,Ds.Nodup/\a.defers=Ds.map (fun D=>{ target:=.collected D,args:=#[] })/\(∀D∈Ds,W.heap[D]?=some (.deferred (some [])))/\∃v,(results fn a.tmps).run P (nP Ds W) = .ok v (nP Ds W)/\R (.returned v) (nP Ds W)
theorem yw {P:Program}{f:FuncId}{fn:Func}{c:Code}{args:List AV}{N:Nat}{R:Ending -> World -> Prop}(hf:P.funcs[f]? = some fn)(hb:fn.body = some c)(hN:fn.ntmps = N)(hlen:Nat.ble args.length N = true)
  (W:World) (F:Nat->Prop) (vs:List Value) (hl:vs.length=args.length) (hv:∀(j:Nat) (x:AV) (v:Value),args[j]?=some x->vs[j]?=some v->au W F x v) (hF:∀b,F b->b<W.heap.size) (hL:kR W F)
  (h:WPY P N W F c (IG P fn W R) (st0 args)):Calls P f vs.toArray W R:=by
 subst hN
 have hlen:=qW hlen
 have hi:Inv W F (fun _=>none) (fun _=>⟨0,none⟩):=⟨fun _ _ _ h=>(by cases h),fun b ⟨_,_,_,_,h,_⟩=>(by cases h),fun _ _ _ _ _ h=>(by cases h),hF,hL⟩
 have hr:RS fn.ntmps W F (fun _=>none) (st0 args) { tmps:=vs.toArray++Array.replicate (fn.ntmps-vs.toArray.size) undef,defers:=[] }:=by
  refine⟨fun t=>?_,.nil,by simp;omega,hi⟩
  show Rel W F _ _ (args.getD t (.tup [])) _
  rw [vU,Array.getElem?_append,qM]
  by_cases ht:t<args.length
  ·have h1:args[t]?=some args[t]:=qA ht
   have h2:vs[t]?=some vs[t]:=qA (by omega)
   rw [if_pos (by simp;omega),uG,h1,h2]
   exact .pure (hv t _ _ h1 h2)
  ·rw [if_neg (by simp;omega),vX (by omega)]
   have:(Array.replicate (fn.ntmps-vs.toArray.size) undef)[t-vs.toArray.size]?.getD undef=undef:=by
    rw [Array.getElem?_replicate]
    split <;> rfl
   rw [this]
   exact .pure (.tup [] [] rfl (by simp))
 refine (callsIn_wide (n:=0)).1 (callsIn_of_wp_marks hf hb trivial (wpIn_mono (wpIn_wide.2 (h W F _ _ hr (Stq.refl _ _ _ _) fun d hd=>by cases hd)) ?_))
 rintro e a' W' ⟨he,Ds,h1,h2,h3,h4⟩
 have key:LeavesInM Fence.wide 0 P fn a'.tmps R a'.defers .returning W':=by
  rw [h2]
  exact gC Ds W' h1 h3 h4
 rcases he with rfl|rfl <;> exact key
theorem GZ (a:Array Value)(h:a.size=43):∃u0 u1 u2 u3 u4 u5 u6 u7 u8 u9 u10 u11 u12 u13 u14 u15 u16 u17 u18 u19 u20 u21 u22 u23 u24 u25 u26 u27 u28 u29 u30 u31 u32 u33 u34 u35 u36 u37 u38 u39 u40 u41 u42:Value,a = #[u0,u1,u2,u3,u4,u5,u6,u7,u8,u9,u10,u11,u12,u13,u14,u15,u16,u17,u18,u19,u20,u21,u22,u23,u24,u25,u26,u27,u28,u29,u30,u31,u32,u33,u34,u35,u36,u37,u38,u39,u40,u41,u42]:=by
 obtain⟨l⟩:=a
 have h:l.length=43:=h
 obtain⟨u0,l,rfl⟩:∃u m,l=u::m:=qO (by omega)
 rw [qS] at h
 obtain⟨u1,l,rfl⟩:∃u m,l=u::m:=qO (by omega)
 rw [qS] at h
 obtain⟨u2,l,rfl⟩:∃u m,l=u::m:=qO (by omega)
 rw [qS] at h
 obtain⟨u3,l,rfl⟩:∃u m,l=u::m:=qO (by omega)
 rw [qS] at h
 obtain⟨u4,l,rfl⟩:∃u m,l=u::m:=qO (by omega)
 rw [qS] at h
 obtain⟨u5,l,rfl⟩:∃u m,l=u::m:=qO (by omega)
 rw [qS] at h
 obtain⟨u6,l,rfl⟩:∃u m,l=u::m:=qO (by omega)
 rw [qS] at h
 obtain⟨u7,l,rfl⟩:∃u m,l=u::m:=qO (by omega)
 rw [qS] at h
 obtain⟨u8,l,rfl⟩:∃u m,l=u::m:=qO (by omega)
 rw [qS] at h
 obtain⟨u9,l,rfl⟩:∃u m,l=u::m:=qO (by omega)
 rw [qS] at h
 obtain⟨u10,l,rfl⟩:∃u m,l=u::m:=qO (by omega)
 rw [qS] at h
 obtain⟨u11,l,rfl⟩:∃u m,l=u::m:=qO (by omega)
 rw [qS] at h
 obtain⟨u12,l,rfl⟩:∃u m,l=u::m:=qO (by omega)
 rw [qS] at h
 obtain⟨u13,l,rfl⟩:∃u m,l=u::m:=qO (by omega)
 rw [qS] at h
 obtain⟨u14,l,rfl⟩:∃u m,l=u::m:=qO (by omega)
 rw [qS] at h
 obtain⟨u15,l,rfl⟩:∃u m,l=u::m:=qO (by omega)
 rw [qS] at h
 obtain⟨u16,l,rfl⟩:∃u m,l=u::m:=qO (by omega)
 rw [qS] at h
 obtain⟨u17,l,rfl⟩:∃u m,l=u::m:=qO (by omega)
 rw [qS] at h
 obtain⟨u18,l,rfl⟩:∃u m,l=u::m:=qO (by omega)
 rw [qS] at h
 obtain⟨u19,l,rfl⟩:∃u m,l=u::m:=qO (by omega)
 rw [qS] at h
 obtain⟨u20,l,rfl⟩:∃u m,l=u::m:=qO (by omega)
 rw [qS] at h
 obtain⟨u21,l,rfl⟩:∃u m,l=u::m:=qO (by omega)
 rw [qS] at h
 obtain⟨u22,l,rfl⟩:∃u m,l=u::m:=qO (by omega)
 rw [qS] at h
 obtain⟨u23,l,rfl⟩:∃u m,l=u::m:=qO (by omega)
 rw [qS] at h
 obtain⟨u24,l,rfl⟩:∃u m,l=u::m:=qO (by omega)
 rw [qS] at h
 obtain⟨u25,l,rfl⟩:∃u m,l=u::m:=qO (by omega)
 rw [qS] at h
 obtain⟨u26,l,rfl⟩:∃u m,l=u::m:=qO (by omega)
 rw [qS] at h
 obtain⟨u27,l,rfl⟩:∃u m,l=u::m:=qO (by omega)
 rw [qS] at h
 obtain⟨u28,l,rfl⟩:∃u m,l=u::m:=qO (by omega)
 rw [qS] at h
 obtain⟨u29,l,rfl⟩:∃u m,l=u::m:=qO (by omega)
 rw [qS] at h
 obtain⟨u30,l,rfl⟩:∃u m,l=u::m:=qO (by omega)
 rw [qS] at h
 obtain⟨u31,l,rfl⟩:∃u m,l=u::m:=qO (by omega)
 rw [qS] at h
 obtain⟨u32,l,rfl⟩:∃u m,l=u::m:=qO (by omega)
 rw [qS] at h
 obtain⟨u33,l,rfl⟩:∃u m,l=u::m:=qO (by omega)
 rw [qS] at h
 obtain⟨u34,l,rfl⟩:∃u m,l=u::m:=qO (by omega)
 rw [qS] at h
 obtain⟨u35,l,rfl⟩:∃u m,l=u::m:=qO (by omega)
 rw [qS] at h
 obtain⟨u36,l,rfl⟩:∃u m,l=u::m:=qO (by omega)
 rw [qS] at h
 obtain⟨u37,l,rfl⟩:∃u m,l=u::m:=qO (by omega)
 rw [qS] at h
 obtain⟨u38,l,rfl⟩:∃u m,l=u::m:=qO (by omega)
 rw [qS] at h
 obtain⟨u39,l,rfl⟩:∃u m,l=u::m:=qO (by omega)
 rw [qS] at h
 obtain⟨u40,l,rfl⟩:∃u m,l=u::m:=qO (by omega)
 rw [qS] at h
 obtain⟨u41,l,rfl⟩:∃u m,l=u::m:=qO (by omega)
 rw [qS] at h
 obtain⟨u42,l,rfl⟩:∃u m,l=u::m:=qO (by omega)
 rw [qS] at h
 obtain rfl:l=[]:=uD.1 (by omega)
 exact⟨_,_,_,_,_,_,_,_,_,_,_,_,_,_,_,_,_,_,_,_,_,_,_,_,_,_,_,_,_,_,_,_,_,_,_,_,_,_,_,_,_,_,_,rfl⟩
theorem CV {N:Nat}{W:World}{F:Nat->Prop}{μ:Mu}{s:St}{a:Act}(T:List (Nat × AV))(B:List (Nat × SB))(hr:RS N W F μ s a)(hT:WkT s (lkB B) T)(hB:WkB s (lkB B) B):RS N W F μ (stL T B) a/\∀b,Own μ (lkB B) b->Own μ s.σ b :=
 have h:Wk s (stL T B):=⟨fun t=>mU hT t,fm hB⟩
 ⟨h.rs hr,fun b hb=>h.own hb⟩
def FW (W:World)(F:Nat->Prop)(c:Cf)(e:Ending)(W':World):Prop :=
 ∃(tp pe wy tb:Value) (bs:List Nat) (F':Nat->Prop),e = .returned (.agg #[tp,.int .i64 c.pol.tenants,pe,wy,tb])/\Kp No W W'/\au W' F' (.sl (c.topo.ports.map aP)) tp/\au W' F' (.sl (c.pol.peers.map cPr)) pe/\au W' F' (.sl (c.pol.ways.map cWy)) wy/\fH W' c.tables tb bs/\bs.Nodup/\(∀b∈bs,W.heap.size<=b/\¬F' b)/\(∀b,F' b->b<W'.heap.size)/\∀b,F' b->F b\/W.heap.size<=b
theorem dd {W:World}{b j:Nat}{cs:Array Value}{t:TypeId}{fr:Nat × Nat}{v:Value}(h:W.heap[b]?=some (.cells cs t fr)):(W.setCell ⟨b,j,none⟩ v).heap[b]?=some (.cells (cs.setIfInBounds j v) t fr):=by
 rw [Go.Sort.setCell_eq]
 simp [Go.Sort.mapBlock,Array.getElem?_modify,h,Go.Sort.onCells]
theorem cC {W:World}{b b' j:Nat}{v:Value}(h:b'≠b):(W.setCell ⟨b,j,none⟩ v).heap[b']?=W.heap[b']?:=by
 rw [Go.Sort.setCell_eq]
 simp [Go.Sort.mapBlock,Array.getElem?_modify,Ne.symm h]
def ga (W W':World):Prop:=W'.os=W.os/\W'.tape=W.tape/\W'.output=W.output/\W'.heap.size=W.heap.size
theorem ga.set (W:World)(a:Addr)(v:Value):ga W (W.setCell a v):=⟨rfl,rfl,rfl,by simp⟩
theorem ga.trans {W W' W'':World}(h:ga W W')(k:ga W' W''):ga W W'':=⟨k.1.trans h.1,k.2.1.trans h.2.1,k.2.2.1.trans h.2.2.1,k.2.2.2.trans h.2.2.2⟩
theorem cd.one {α:Type}{P:World->α->Value->List Nat->Prop}{ty:TypeId}{W:World}{xs:List α}{v:Value}{bs:List Nat}(h:cd P ty W xs v bs):v.oneCell'=true:=by
 obtain⟨_,_,_,_,_,_,_,⟨_,_,A,rfl⟩|⟨b,cap,capB,cur,_,rfl,_⟩⟩:=h <;> rfl
theorem cd.form {α:Type}{P:World->α->Value->List Nat->Prop}{ty:TypeId}{W:World}{xs:List α}{v:Value}{bs:List Nat}(h:cd P ty W xs v bs):∃A c,v = .slice A xs.length c/\xs.length<=c/\c<=maxLen:=by
 obtain⟨vs,_,_,_,h1,_,_,⟨_,rfl,A,rfl⟩|⟨b,cap,capB,cur,_,rfl,_,h2,h3,h4,_⟩⟩:=h
 ·exact⟨A,0,by rw [<- h1];rfl,by rw [<- h1];exact qJ _,by decide⟩
 ·exact⟨_,cap,by rw [h1],by omega,by omega⟩
theorem eX.form {W:World}{t:List (List Rl)}{v:Value}{bs:List Nat}(h:eX W t v bs):∃A c,v = .slice A t.length c/\t.length<=c/\c<=maxLen:=cd.form h
theorem fH.form {W:World}{t:List (List (List Rl))}{v:Value}{bs:List Nat}(h:fH W t v bs):∃A c,v = .slice A t.length c/\t.length<=c/\c<=maxLen:=cd.form h
theorem eX.one {W:World}{t:List (List Rl)}{v:Value}{bs:List Nat}(h:eX W t v bs):v.oneCell'=true:=cd.one h
theorem Gi:∃i0,Tryz.prog.info? 52=some i0/\i0.zero=some (.slice none 0 0)/\i0.size=1/\i0.bytes=24:=info_parts (show (Tryz.prog.info? 52).map (fun i=>(i.zero,i.size,i.bytes))=some (some (.slice none 0 0),1,24) by kernel_rfl)
theorem CQ:Tryz.prog.underlying 29=some (.slice 52):=by kernel_rfl
def Iw:TypeDesc->Bool
 | .struct _=>true
 |_=>false
theorem oX:∃fs,Tryz.prog.underlying 31=some (.struct fs):=by
 have h:(Tryz.prog.underlying 31).map Iw=some true:=by kernel_rfl
 cases e:Tryz.prog.underlying 31 with
 |none=>rw [e] at h;cases h
 |some d=>
  rw [e] at h
  cases d with
  |struct fs=>exact⟨fs,rfl⟩
  |_=>cases h
theorem Ak (c:Cf)(hf:c.Fit)(W:World)(F:Nat->Prop)(v:Value)(hv:au W F (.agg (cCf c)) v)(hF:∀b,F b->b<W.heap.size):Calls Tryz.prog 26 #[v] W (FW W F c):=by
 have hp:=oT c.topo.ports hf.ports hf.pts
 refine yw (args:=[.agg (cCf c)]) Tryz.func26 rfl rfl rfl W F [v] rfl (aQ hv cP) hF (eT _ _) ?_
 refine WPY.fst ?_
 refine jA ?_
 refine WPY.fst ?_
 refine jA ?_
 refine jm hp ?_;refine jH ?_
 refine WPY.fst ?_
 refine jA ?_
 refine jm (nI c.pol.peers hf.peers) ?_
 refine wH rfl ?_
 refine jm (oP c.pol.peers) ?_
 refine wH rfl ?_
 refine jm (nU c.pol.ways hf.ways) ?_
 refine wH rfl ?_
 refine jm (pq c.pol.ways) ?_;refine jH ?_
 intro W1 F1 μ1 a1 hr hs hd
 obtain⟨hr1,hot⟩:=CV [(1,.own 1 0 0),(2,.own 2 0 0)] [(1,⟨0,some (.box 31 (cCf c))⟩),(2,⟨0,some (.box 31 zCr)⟩)] hr jQ ⟨bS rfl rfl rfl,bS rfl rfl rfl,trivial⟩
 have hk1:Kp No W W1:=hs.kp.mono fun b _ ⟨_,_,_,_,h,_⟩=>by cases h
 have hnew:=hs.new
 have hno:∀b,¬Own (fun _=>none) (fun _=>(⟨0,none⟩:SB)) b:=fun b ⟨_,_,_,_,h,_⟩=>(by cases h)
 have hown:∀b,Own μ1 (lkB [(1,⟨0,some (.box 31 (cCf c))⟩),(2,⟨0,some (.box 31 zCr)⟩)]) b->W.heap.size<=b:=fun b hb=>(hs.own b (hot b hb)).resolve_left (hno b)
 clear hr hs hv hp
 obtain⟨tm,ds⟩:=a1
 obtain⟨u0,u1,u2,u3,u4,u5,u6,u7,u8,u9,u10,u11,u12,u13,u14,u15,u16,u17,u18,u19,u20,u21,u22,u23,u24,u25,u26,u27,u28,u29,u30,u31,u32,u33,u34,u35,u36,u37,u38,u39,u40,u41,u42,rfl⟩:=GZ tm hr1.n
 obtain⟨Ds,hD1,rfl,hD3⟩:=hr1.defers
 have t1:Rel W1 F1 μ1 _ (.own 1 0 0) u1:=hr1.ts 1
 have t2:Rel W1 F1 μ1 _ (.own 2 0 0) u2:=hr1.ts 2
 have hi:=hr1.inv
 clear hr1
 obtain⟨b1,q1,vs1,hm1,hh1,hl1,hv1⟩:=hi.body 1 0 _ rfl
 obtain⟨b2,q2,vs2,hm2,hh2,hl2,_⟩:=hi.body 2 0 _ rfl
 have hb12:b2≠b1:=fun e=>by
  have:=hi.inj 2 1 b2 q2 q1 rfl rfl hm2 (by rw [e];exact hm1)
  omega
 have o1:W.heap.size<=b1:=hown b1 ⟨1,0,_,q1,rfl,hm1⟩
 have o2:W.heap.size<=b2:=hown b2 ⟨2,0,_,q2,rfl,hm2⟩
 obtain⟨_,_,h1⟩:=Rel.own' t1
 obtain⟨b1',_,e1,rfl⟩:=h1 _ rfl
 obtain⟨rfl,_⟩:b1=b1'/\True:=⟨by rw [hm1] at e1;simpa using (congrArg (fun x=>x.map (·.1)) e1),trivial⟩
 obtain⟨_,_,h2⟩:=Rel.own' t2
 obtain⟨b2',_,e2,rfl⟩:=h2 _ rfl
 obtain⟨rfl,_⟩:b2=b2'/\True:=⟨by rw [hm2] at e2;simpa using (congrArg (fun x=>x.map (·.1)) e2),trivial⟩
 match vs1,hl1,hv1,hh1 with
 |[tp,vt,pe,wy,tb],_,hv1,hh1=>
 match vs2,hl2,hh2 with
 |[z0,z1,z2,z3,z4],_,hh2=>
 have r0:=((hv1 0 _ _ rfl rfl).2).sl'
 have r2:=((hv1 2 _ _ rfl rfl).2).sl'
 have r3:=((hv1 3 _ _ rfl rfl).2).sl'
 have r4:=((hv1 4 _ _ rfl rfl).2).sl'
 obtain rfl:vt = .int .i64 c.pol.tenants:=(hv1 1 _ _ rfl rfl).2.i'
 obtain⟨A,cp,rfl,m1,m2⟩:=b9 r4
 have hln:(c.tables.map bY).length=c.tables.length:=qG _
 rw [hln] at r4 m1 hh1
 obtain⟨A0,k0,rfl,_,_⟩:=b9 r0
 obtain⟨A1,k1,rfl,_,_⟩:=b9 r2
 obtain⟨A2,k2,rfl,_,_⟩:=b9 r3
 generalize (c.topo.ports.map aP).length=n0 at r0 hh1
 generalize (c.pol.peers.map cPr).length=n1 at r2 hh1
 generalize (c.pol.ways.map cWy).length=n2 at r3 hh1
 have mT:=hf.tabs
 rw [bK] at mT
 have HT:=kA4 r4
 have HP:=kA4 (show au W1 F1 (.sl (c.topo.ports.map aP)) (.slice A0 n0 k0)/\au W1 F1 (.sl (c.pol.peers.map cPr)) (.slice A1 n1 k1)/\au W1 F1 (.sl (c.pol.ways.map cWy)) (.slice A2 n2 k2) from ⟨r0,r2,r3⟩)
 have HF1:=kA4 hi.old
 have HNew:=kA4 (show ∀b,F1 b->F b\/W.heap.size<=b from fun b hb=>(hnew b hb).imp id fun h=>h.resolve_left (hno b))
 have Hb1:=kA4 (show ¬F1 b1 from (hi.apart b1 ⟨1,0,_,q1,rfl,hm1⟩).2)
 have Hk1:=kA4 hk1
 have HD:=kA4 (show ∀D∈Ds,W1.heap[D]?=some (Obj.deferred (some [])) from fun D h=>(hD3 D h).1)
 have HDn:=kA4 hD1
 have HDF:=kA4 (show ∀D∈Ds,¬F1 D from fun D h=>(hD3 D h).2.1)
 have Hb2:=kA4 (show ¬F1 b2 from (hi.apart b2 ⟨2,0,_,q2,rfl,hm2⟩).2)
 have HDW:=kA4 (show ∀D∈Ds,W.heap.size<=D from fun D h=>by
  obtain⟨D',e,h'⟩:=hd _ (qX (f:=fun D=>({ target:=.collected D,args:=#[] }:Deferred)) h)
  obtain rfl:D=D':=by simpa using e
  exact h')
 have Hh1:=kA4 hh1
 have Hh2:=kA4 hh2
 have Hf:=kA4 hf
 have Ho:=kA4 (show W.heap.size<=b1/\W.heap.size<=b2 from ⟨o1,o2⟩)
 have Hb12:=kA4 hb12
 have cT:W1.cell? ⟨b1,4,none⟩=some (.slice A c.tables.length cp):=af hh1 rfl
 generalize hds:(List.map (fun D=>({ target:=.collected D,args:=#[] }:Deferred)) Ds)=ds at *
 have Hds:=kA4 hds
 clear hds hd hD1 hD3 hi hm1 hm2 hh1 hh2 r0 r2 r3 r4 h1 h2 e1 e2 t1 t2 hv1 hown hot hnew hno hF hk1 o1 o2 hb12 hf hln
 go_wp2_with fail
 clear cT
 go_loopw [3,29] (fun o i wr=>∃k,k<=c.tables.length/\i = .int .i64 (k:Nat)/\xZ eX 52 W1 c.tables k o wr) (fun _ i _=>c.tables.length-(intOf i).toNat)
 case atStart=>exact⟨0,qR _,rfl,Kp.refl _ _,[],[],World.ownsRow_nil _ _ _ _,rfl,fun k x u b h=>absurd h (uO k),List.nodup_nil,fun b hb=>by cases hb⟩
 case round=>
  obtain⟨k,hk,rfl,hD⟩:=hrel
  have HQ:=kA4 hD
  clear hD
  by_cases hlt:k<c.tables.length
  ·have hkt:c.tables[k]?=some c.tables[k]:=qA hlt
   have hl24:=Hf.out.rows c.tables[k] (vR hlt)
   have hl96:=Hf.out.rules c.tables[k] (vR hlt)
   generalize c.tables[k]=t at hkt hl24 hl96
   obtain⟨b,off,v,rfl,hFb,ck,hv⟩:=mZ HT.out (by rw [qF,hkt];rfl)
   obtain⟨B2,c2,rfl,_,_⟩:=b9 hv
   rw [qG] at hv ck
   replace ck:wr.cell? ⟨b,off+k,none⟩=some (.slice B2 t.length c2):=(kA7 (a:=⟨b,off+k,none⟩) (HQ.out.kp.block b (HF1.out b hFb) (aF _))).trans ck
   have q1:(k:Int)<(c.tables.length:Int):=by omega
   have HC:=kA4 (CY t hl24 hl96 wr F1 B2 c2 (hv.keep (fun b hb _=>HQ.out.kp.block b (HF1.out b hb) (aF _)) fun b hb _=>hb) fun b hb=>vK (HF1.out b hb) HQ.out.kp.size)
   have Hkt:=kA4 hkt
   clear hv hkt hFb hl96 hl24
   obtain⟨vs,bss,hcc⟩:=HQ.out.ex
   have Hcc:=kA4 hcc
   clear hcc
   obtain⟨i0,hi,hz0,hz1,hz2⟩:=Gi
   go_wp2_with (first|(go_at_call 55;refine HC.out.mono ?_;rintro e W2 ⟨v1,bs1,rfl,hk1,hq1,hn1,hn2⟩;obtain⟨A3,c3,rfl,_,_⟩:=hq1.form;(have Hk2:=kA4 hk1);(have Hq1:=kA4 hq1);(have Hn1:=kA4 hn1);(have Hn2:=kA4 hn2);(have Hown:=kA4 (tt (w':=W2) Hcc.out.own fun g hg=>Hk2.out.block g (Hcc.out.own.lt g hg).2 (aF _)));(have H1c:=kA4 hq1.one);clear hk1 hq1 hn1 hn2 ck)|(at_builtin;refine eD rfl _ _ 29 rfl W1.heap.size 52 i0 (.slice none 0 0) 1 24 CQ hi hz0 hz1 hz2 rfl (by decide) u3 _ _ rfl (Hown.out.alloc _) ⟨W2.heap.size,0,none⟩ 1 1 [.slice A3 t.length c3] rfl rfl ?c1 ?c2 ?c3 ?c4 ?c5 ?_))
   case c1=>
    intro j u hj
    match j,hj with
    |0,hj=>simp at hj;subst hj;simp [Addr.add]
   case c2=>intro u hu;simp at hu;subst hu;exact H1c.out
   case c3=>unfold maxLen;omega
   case c4=>omega
   case c5=>have:=HQ.out.kp.size;have:=Hk2.out.size;simp;omega
   intro v' W5 hown5 hgrow5 hnew5
   have HS:=kA4 (xZ.step (P:=eX) (fun h hk=>eX.keep h hk) (fun h=>eX.old h) (ty2:=0) HQ.out.kp Hcc.out Hk2.out Hkt.out Hq1.out Hn2.out Hn1.out _ hown5 hgrow5 hnew5)
   clear hown5 hgrow5 hnew5
   go_wp2_with fail
   go_roundw
   case rel=>exact⟨k+1,hlt,by go_num,HS.out⟩
   case measure=>simp [intOf];omega
  ·obtain rfl:k=c.tables.length:=by omega
   obtain⟨vs,bss,hcc⟩:=HQ.out.ex
   have hne:¬(c.tables.length:Int)<(c.tables.length:Int):=by omega
   have hform:∃B2 c2,u3 = .slice B2 c.tables.length c2/\c.tables.length<=c2/\c2<=maxLen:=by
    rcases hcc.own.2 with⟨rfl,h0⟩|⟨g,cap,cur,rfl,_,_,h1,h2,_⟩
    ·exact⟨none,0,by rw [h0],by omega,by decide⟩
    ·exact⟨_,cap,rfl,h1,h2⟩
   obtain⟨B2,c2,rfl,hc1,hc2⟩:=hform
   have HP2:=kA4 (AK B2 c.tables.length c2 wr hc1 hc2)
   have Hcc:=kA4 hcc
   clear hcc hc1 hc2 hlt
   have hb1w:=(HQ.out.kp.block b1 (qI.1 Hh1.out).1 (aF _)).trans Hh1.out
   have hb2w:=(HQ.out.kp.block b2 (qI.1 Hh2.out).1 (aF _)).trans Hh2.out
   have p0:wr.cell? ⟨b1,0,none⟩=some (.slice A0 n0 k0):=af hb1w rfl
   have p1:wr.cell? ⟨b1,1,none⟩=some (.int .i64 c.pol.tenants):=af hb1w rfl
   have p2:wr.cell? ⟨b1,2,none⟩=some (.slice A1 n1 k1):=af hb1w rfl
   have p3:wr.cell? ⟨b1,3,none⟩=some (.slice A2 n2 k2):=af hb1w rfl
   have p4:wr.cell? ⟨b1,4,none⟩=some (.slice A c.tables.length cp):=af hb1w rfl
   have f4:wr.frozen? ⟨b1,4,none⟩=false:=by simp [World.frozen?,hb1w]
   have z0':wr.cell? ⟨b2,0,none⟩=some z0:=af hb2w rfl
   have z1':wr.cell? ⟨b2,1,none⟩=some z1:=af hb2w rfl
   have z2':wr.cell? ⟨b2,2,none⟩=some z2:=af hb2w rfl
   have z3':wr.cell? ⟨b2,3,none⟩=some z3:=af hb2w rfl
   have z4':wr.cell? ⟨b2,4,none⟩=some z4:=af hb2w rfl
   have y0:wr.frozen? ⟨b2,0,none⟩=false:=by simp [World.frozen?,hb2w]
   have y1:wr.frozen? ⟨b2,1,none⟩=false:=by simp [World.frozen?,hb2w]
   have y2:wr.frozen? ⟨b2,2,none⟩=false:=by simp [World.frozen?,hb2w]
   have y3:wr.frozen? ⟨b2,3,none⟩=false:=by simp [World.frozen?,hb2w]
   have y4:wr.frozen? ⟨b2,4,none⟩=false:=by simp [World.frozen?,hb2w]
   have hne2:b2≠b1:=Hb12.out
   have hne1:b1≠b2:=fun e=>Hb12.out e.symm
   have Hw1:=kA4 hb1w
   have Hw2:=kA4 hb2w
   clear hb1w hb2w hh1 hh2 hv1
   go_wp2_with (go_at_call 56;refine HP2.out.mono ?_;rintro e W2 ⟨rfl,rfl⟩)
   obtain⟨W5,hW5⟩:∃W5,W5=((((((W2.setCell ⟨b1,4,none⟩ (.slice B2 c.tables.length c.tables.length)).setCell ⟨b2,0,none⟩ (.slice A0 n0 k0)).setCell ⟨b2,1,none⟩ (.int .i64 c.pol.tenants)).setCell ⟨b2,2,none⟩ (.slice A1 n1 k1)).setCell ⟨b2,3,none⟩ (.slice A2 n2 k2)).setCell ⟨b2,4,none⟩ (.slice B2 c.tables.length c.tables.length)):=⟨_,rfl⟩
   rw [<- hW5]
   have hoth:∀k,k≠b1->k≠b2->W5.heap[k]?=W2.heap[k]?:=fun k h1 h2=>by
    rw [hW5,cC h2,cC h2,cC h2,cC h2,cC h2,cC h1]
   have hres:W5.heap[b2]?=some (.cells #[.slice A0 n0 k0,.int .i64 c.pol.tenants,.slice A1 n1 k1,.slice A2 n2 k2,.slice B2 c.tables.length c.tables.length] 31 (0,0)):=by
    rw [hW5]
    have h0:(W2.setCell ⟨b1,4,none⟩ (.slice B2 c.tables.length c.tables.length)).heap[b2]?=_:=(cC hne2).trans Hw2.out
    exact dd (dd (dd (dd (dd h0))))
   have hrest:ga W2 W5:=by
    rw [hW5]
    exact (((((ga.set _ _ _).trans (ga.set _ _ _)).trans (ga.set _ _ _)).trans (ga.set _ _ _)).trans (ga.set _ _ _)).trans (ga.set _ _ _)
   obtain⟨ho1,ho2,ho3,hsz⟩:=hrest
   clear hW5
   have hDl:∀D∈Ds,D<W1.heap.size/\D≠b1/\D≠b2:=fun D hD=>by
    have h:=HD.out D hD
    refine⟨(qI.1 h).1,fun e=>?_,fun e=>?_⟩
    ·rw [e,Hh1.out] at h;cases h
    ·rw [e,Hh2.out] at h;cases h
   have hb2D:b2∉Ds:=fun h=>(hDl b2 h).2.2 rfl
   have hks:=rz Ds W5
   have hl1:b1<W1.heap.size:=(qI.1 Hh1.out).1
   have hl2:b2<W1.heap.size:=(qI.1 Hh2.out).1
   have hq:=HQ.out.kp
   have hfin:∀k,k<W2.heap.size->k≠b1->k≠b2->k∉Ds->(nP Ds W5).heap[k]?=W2.heap[k]?:=fun k h0 h1 h2 h3=>(hks.block k (by rw [hsz];exact h0) h3).trans (hoth k h1 h2)
   refine⟨.inr rfl,Ds,HDn.out,Hds.out.symm,fun D hD=>?_,.agg #[.slice A0 n0 k0,.int .i64 c.pol.tenants,.slice A1 n1 k1,.slice A2 n2 k2,.slice B2 c.tables.length c.tables.length],?_,?_⟩
   ·obtain⟨h1,h2,h3⟩:=hDl D hD
    exact (hoth D h2 h3).trans ((hq.block D h1 (aF _)).trans (HD.out D hD))
   ·obtain⟨fs,hfs⟩:=oX
    exact results_cell_row rfl _ _ b2 _ _ _ _ rfl ((hks.block b2 (by rw [hsz];have:=hq.size;omega) hb2D).trans hres) hfs rfl (by kernel_rfl)
   ·obtain⟨bs,g1,g2,g3⟩:=Hcc.out.done
    have hbs:∀b∈bs,(nP Ds W5).heap[b]?=W2.heap[b]?:=fun b hb=>by
     have:=g3 b hb
     exact hfin b (g1.old (fun _ _ _ h=>eX.old h) b hb) (by omega) (by omega) fun h=>by have:=(hDl b h).1;omega
    have hF:∀b,F1 b->b<W1.heap.size->(nP Ds W5).heap[b]?=W1.heap[b]?:=fun b hb _=>by
     have hlt:=HF1.out b hb
     exact (hfin b (by have:=hq.size;omega) (fun e=>Hb1.out (e ▸ hb)) (fun e=>Hb2.out (e ▸ hb)) fun h=>HDF.out b h hb).trans (hq.block b hlt (aF _))
    have hsz6:=hks.size
    refine⟨_,_,_,_,bs,F1,rfl,⟨?_,?_,?_,?_,fun b hb _=>?_⟩,HP.out.1.keep hF fun b hb _=>hb,HP.out.2.1.keep hF fun b hb _=>hb,HP.out.2.2.keep hF fun b hb _=>hb,fH.keep g1 hbs,g2,fun b hb=>⟨by have:=g3 b hb;have:=Hk1.out.size;omega,fun h=>by have:=g3 b hb;have:=HF1.out b h;omega⟩,fun b hb=>by have:=HF1.out b hb;have:=hq.size;omega,HNew.out⟩
    ·exact hks.os.trans (ho1.trans (hq.os.trans Hk1.out.os))
    ·exact hks.tape.trans (ho2.trans (hq.tape.trans Hk1.out.tape))
    ·exact hks.output.trans (ho3.trans (hq.output.trans Hk1.out.output))
    ·have:=hq.size;have:=Hk1.out.size;omega
    ·have h1:=Hk1.out.size
     have h2:=Ho.out
     refine (hfin b (by have:=hq.size;omega) (by omega) (by omega) fun h=>?_).trans ((hq.block b (by omega) (aF _)).trans (Hk1.out.block b hb (aF _)))
     have:=HDW.out b h
     omega
theorem EP:∃i0,Tryz.prog.info? 57=some i0/\i0.size=12:=by
 have h:(Tryz.prog.info? 57).map (fun i=>i.size)=some 12:=by kernel_rfl
 cases e:Tryz.prog.info? 57 with
 |none=>rw [e] at h;cases h
 |some i=>rw [e] at h;exact⟨i,rfl,by simpa using h⟩
theorem fE:Tryz.prog.underlying 53=some (.slice 57):=by kernel_rfl
theorem iY {w:World}{ops:Array Oper}{rest:List Oper}{o:Oper}{a:Act}{Q:Exit->Act->World->Prop}(hgd:o.guard=none)(s x:Operand)
  (ho:o.op = .call { callee:=.builtin .append,args:=#[s,x],argTypes:=#[53,53] }) (g n cap:Nat) (cur:Array Value) (hs:a.eval s = .slice (some ⟨g,0,none⟩) n cap) (hg:w.heap[g]?=some (.cells cur 57 (0,0)))
  (ad:Addr) (m c:Nat) (news:List Value) (hx:a.eval x = .slice (some ad) m c) (hl:news.length=m*12) (hnews:∀j u,news[j]?=some u->w.cell? (ad.add j)=some u) (h1:∀u∈news,u.oneCell'=true) (hroom:n+m<=cap) (hfit:n*12+news.length<=cur.size) (r:Nat) (hnr:n+m=r)
  (h:∀w',w'=w.setRow g (cur.toList.take (n*12)++news++cur.toList.drop (n*12+news.length)).toArray->wpList Tryz.prog ops Q rest (a.put o.dst (.slice (some ⟨g,0,none⟩) r cap)) w'):wpList Tryz.prog ops Q (o::rest) a w :=
 kB1 hgd fun K hK=>by
  subst hnr
  obtain⟨i0,hi,hsz⟩:=EP
  have hr:=run_append_room (P:=Tryz.prog) w 53 o.type 57 i0 fE hi g n cap cur hg ad m c news (by rw [hsz];exact hl) hnews h1 hroom (by rw [hsz];exact hfit)
  rw [hsz] at hr
  unfold Oper.wp execOp
  simp only [ho,resolve,invoke,builtin,kA2,kA3,kA1,List.map_toArray,vE,List.map_nil,hs,hx,hr]
  exact hK _ _ (h _ rfl)
def r8:List Value:=rlV Rl.zero
theorem Ar {w : World} (ty : TypeId) (g n c : Nat) (cur : Array Value) (hg : w.heap[g]? = some (.cells cur 57 (0, 0))) (hfit : n * 12 + 12 <= cur.size) :
    (Builtin.clear_ #[53] ty #[.slice (some ⟨g,n*12,none⟩) 1 c]).run Tryz.prog w = .ok (.tuple #[]) (w.setRow g (cur.toList.take (n*12)++r8++cur.toList.drop (n*12+12)).toArray):=by
  have hz:∀W:World,(zeroValue 57).run Tryz.prog W = .ok (.agg (rlV Rl.zero).toArray) W:=fun W=>by kernel_rfl
  have hc:(Builtin.zeroCells (Value.agg (rlV Rl.zero).toArray).cells 1).toList=r8:=by kernel_rfl
  have hr:=run_storeCells_at (P:=Tryz.prog) g (n*12) 57 r8 0 cur w hg (by show n*12+0+12<=_;omega) (fun v hv=>by
    simp only [r8,rlV,vA,List.not_mem_nil,or_false] at hv
    rcases hv with rfl|rfl|rfl|rfl|rfl|rfl|rfl|rfl|rfl|rfl|rfl|rfl <;> rfl)
  simp only [Nat.add_zero] at hr
  simp only [Builtin.clear_,kA2,kA3,kA1,uG,List.getElem?_cons_zero,kA9 fE,hz,hc,hr]
  rfl
theorem mP (r:Rl):∀u∈rlV r,u.oneCell'=true:=fun u hu=>by
 simp only [rlV,vA,List.not_mem_nil,or_false] at hu
 rcases hu with rfl|rfl|rfl|rfl|rfl|rfl|rfl|rfl|rfl|rfl|rfl|rfl <;> rfl
theorem gx (l:List Rl):∀u∈aA l,u.oneCell'=true:=fun u hu=>by
 obtain⟨L,hL,hu⟩:=uP.1 hu
 obtain⟨r,_,rfl⟩:=vI.1 hL
 exact mP r u hu
theorem lR (l:List Rl)(k:Nat):(aA l).drop (k*12)=aA (l.drop k):=by
 apply List.ext_getElem?
 intro t
 rw [uC,fu,fu,uC,show (k*12+t) / 12=k+t / 12 by omega,show (k*12+t) % 12=t % 12 by omega]
theorem mi (l:List Rl)(k:Nat)(hk:k<=l.length):(aA l).take (k*12)=aA (l.take k):=by
 have h:aA l=aA (l.take k)++aA (l.drop k):=by rw [<- gT,uU]
 rw [h,List.take_append_of_le_length (by rw [bo,vG];omega),vL (by rw [bo,vG];omega)]
theorem DS {W2 W3 W4:World}{b cap capB i n:Nat}{cur cur3:Array Value}{l:List Rl}(hh:W2.heap[b]?=some (.cells cur 57 (0,0)))(hn:l.length=n+1)(hi:i<n+1)(h1:n+1<=cap)(h2:cap<=capB)(h3:capB<=maxLen)(h4:cur.size=capB*12)(h5:cur.toList.take ((n+1)*12)=aA l)
  (h6:cur3=(cur.toList.take (i*12)++aA (l.drop (i+1))++cur.toList.drop (i*12+(aA (l.drop (i+1))).length)).toArray) (hW3:W3=W2.setRow b cur3) (hW4:W4=W3.setRow b (cur3.toList.take (n*12)++r8++cur3.toList.drop (n*12+12)).toArray) :
  bt W4 (l.eraseIdx i) (.slice (some ⟨b,0,none⟩) n cap) [b]/\Kp (·∈[b]) W2 W4:=by
 have hdl:(aA (l.drop (i+1))).length=(n-i)*12:=by rw [bo,vW,hn];omega
 have hcl:cur.toList.length=capB*12:=by rw [qL,h4]
 have hel:(l.eraseIdx i).length=n:=by rw [List.length_eraseIdx,if_pos (by omega),hn];rfl
 have h3l:cur3.toList.length=capB*12:=by
  rw [h6]
  show (cur.toList.take (i*12)++aA (l.drop (i+1))++cur.toList.drop (i*12+(aA (l.drop (i+1))).length)).length=_
  rw [qK,qK,vG,vW,hdl,hcl]
  omega
 have hk3:Kp (·∈[b]) W2 W3:=by rw [hW3];exact (Kp.refl _ W2).setRow' (by simp) _
 have hk4:Kp (·∈[b]) W3 W4:=by rw [hW4];exact (Kp.refl _ W3).setRow' (by simp) _
 refine⟨.inr ⟨b,cap,capB,_,rfl,by rw [hel],by rw [hW4];exact kA8 W3 b cur3 _ _ _ (by rw [hW3];exact kA8 W2 b cur _ _ _ hh),by rw [hel];omega,h2,h3,?_,?_⟩,hk3.trans hk4⟩
 ·have hz:r8.length=12:=rfl
  rw [uH,qK,qK,vG,vW,h3l,hz]
  omega
 ·have hz:r8.length=12:=rfl
  have ht:(cur.toList.take (i*12)++aA (l.drop (i+1))).length=n*12:=by
   rw [qK,vG,hdl,hcl]
   omega
  rw [hel]
  show (cur3.toList.take (n*12)++r8++cur3.toList.drop (n*12+12)).take (n*12)=_
  rw [uK,List.take_append_of_le_length (by rw [vG,h3l];omega),List.take_take,Nat.min_self,h6]
  show (cur.toList.take (i*12)++aA (l.drop (i+1))++cur.toList.drop (i*12+(aA (l.drop (i+1))).length)).take (n*12)=_
  rw [List.take_append_of_le_length (by omega),vL (by omega),List.eraseIdx_eq_take_drop_succ,gT]
  congr 1
  have h8:cur.toList.take (i*12)=(cur.toList.take ((n+1)*12)).take (i*12):=by rw [List.take_take,kB3 (by omega)]
  rw [h8,h5,mi _ _ (by omega)]
theorem xN (c:Nat){W2 W3:World}{b cap capB i n:Nat}{cur:Array Value}{l:List Rl}(hh:W2.heap[b]?=some (.cells cur 57 (0,0)))(hn:l.length=n+1)(hi:i<n+1)(h1:n+1<=cap)(h2:cap<=capB)(h3:capB<=maxLen)(h4:cur.size=capB*12)(h5:cur.toList.take ((n+1)*12)=aA l)
  (hW3:W3=W2.setRow b (cur.toList.take (i*12)++aA (l.drop (i+1))++cur.toList.drop (i*12+(aA (l.drop (i+1))).length)).toArray) :
  ∃W4,(Builtin.clear_ #[53] 0 #[.slice (some ⟨b,n*12,none⟩) 1 c]).run Tryz.prog W3 = .ok (.tuple #[]) W4/\bt W4 (l.eraseIdx i) (.slice (some ⟨b,0,none⟩) n cap) [b]/\Kp (·∈[b]) W2 W4:=by
 have hdl:(aA (l.drop (i+1))).length=(n-i)*12:=by rw [bo,vW,hn];omega
 have hcl:cur.toList.length=capB*12:=by rw [qL,h4]
 refine⟨_,Ar 0 b n c _ (by rw [hW3];exact kA8 W2 b cur _ _ _ hh) ?_,DS hh hn hi h1 h2 h3 h4 h5 rfl hW3 rfl⟩
 rw [uH,qK,qK,vG,vW,hdl,hcl]
 omega
theorem yZ (l:List Rl)(v:Value)(bs:List Nat)(W:World)(i:Nat)(hq:bt W l v bs)(hi:i<l.length):Calls Tryz.prog 106 #[v,.int .i64 (i:Nat),.int .i64 ((i+1:Nat):Int)] W fun e W'=>∃v',e = .returned v'/\bt W' (l.eraseIdx i) v' bs/\Kp (·∈bs) W W':=by
 rcases hq with⟨_,rfl,_⟩|⟨b,cap,capB,cur,rfl,rfl,hh,h1,h2,h3,h4,h5⟩
 ·simp at hi
 have h3':=h3
 unfold maxLen at h3'
 obtain⟨n,hn⟩:∃n,l.length=n+1:=⟨l.length-1,by omega⟩
 rw [hn] at hi h1 h5 ⊢
 have Hn:=kA4 hn
 have Hh:=kA4 hh
 have H4:=kA4 h4
 have H5:=kA4 h5
 have H3:=kA4 h3
 clear hh h4 h5 h3 hn
 go_enter Tryz.func106,Tryz.ntmps106
 go_wp2_with fail
 refine gP 6 (by kernel_rfl) (by kernel_rfl) fun W2 hk2=>?_
 have Hk2:=kA4 hk2
 have Hh2:=kA4 (hk2.heap Hh.out (aF _))
 clear hk2
 simp only [List.take_succ_cons,List.take_zero,List.drop_succ_cons,uR]
 have hic:i<=cap:=by omega
 have hi1:i+1<=n+1:=by omega
 have hi5:i<=n:=by omega
 have hi2:(i:Int)+1<=((n+1:Nat):Int):=by omega
 have hi3:(0:Int)<=(i:Int)+1:=by omega
 have hi4:((i:Int)+1).toNat=i+1:=by omega
 -- the cells behind
 have hsrc:∀ad:Addr,((cap=i+1/\ad=⟨b,0,none⟩)\/ad=⟨b,(i+1)*12,none⟩)->∀(j:Nat) (u:Value),(aA (l.drop (i+1)))[j]?=some u->W2.cell? (ad.add j)=some u:=by
  have hn:=Hn.out
  rintro ad (⟨hc,rfl⟩|rfl) j u hj
  ·rw [List.drop_eq_nil_of_le (by omega)] at hj
   cases hj
  ·have hjl:=(qD.1 hj).1
   rw [bo,vW] at hjl
   rw [<- lR,uC,<- H5.out,uJ (by omega),vO] at hj
   have hc:=af Hh2.out hj
   rw [Addr.add_lit]
   exact hc
 have Hsrc:=kA4 hsrc
 clear hsrc
 have hnl:(aA (l.drop (i+1))).length=(n+1-(i+1))*12:=by rw [bo,vW,Hn.out]
 have hnl2:(aA (l.drop (i+1))).length=(n-i)*12:=by rw [hnl];omega
 have hfit:i*12+(aA (l.drop (i+1))).length<=cur.size:=by rw [hnl,H4.out];omega
 have Hfit:=kA4 (And.intro hnl2 hfit)
 clear hnl hnl2 hfit
 by_cases hcap:cap=i+1
 ·subst hcap
  obtain rfl:n=i:=by omega
  have hx1:n<=n+1:=by omega
  have hx2:(n:Int)<=(n:Int)+1:=by omega
  repeat still_step
  refine wpStill_nil ?_
  go_wp2_with (at_builtin;refine iY rfl _ _ rfl b n (n+1) cur rfl Hh2.out ⟨b,0,none⟩ 0 0 (aA (l.drop (n+1))) rfl (by rw [Hfit.out.1,Nat.sub_self]) (Hsrc.out _ (.inl ⟨rfl,rfl⟩)) (gx _) (by omega) Hfit.out.2 n (by omega) ?_;intro W3 hW3;(have HW3:=kA4 hW3);(obtain⟨W4,hclr,hfin⟩:=xN 1 Hh2.out Hn.out hi h1 h2 H3.out H4.out H5.out hW3);(have HF:=kA4 hfin);clear hW3 hfin)
  go_ret
  exact⟨_,rfl,HF.out.1,((Hk2.out.mono (S':=fun x=>x∈[b]) fun _ _ h=>h.elim).trans HF.out.2).mono fun _ _ h=>by simpa using h⟩
 ·repeat still_step
  refine wpStill_nil ?_
  go_wp2_with (at_builtin;refine iY rfl _ _ rfl b i cap cur rfl Hh2.out ⟨b,(i+1)*12,none⟩ (n-i) (cap-(i+1)) (aA (l.drop (i+1))) rfl Hfit.out.1 (Hsrc.out _ (.inr rfl)) (gx _) (by omega) Hfit.out.2 n (by omega) ?_;intro W3 hW3;(have HW3:=kA4 hW3);(obtain⟨W4,hclr,hfin⟩:=xN (cap-n) Hh2.out Hn.out hi h1 h2 H3.out H4.out H5.out hW3);(have HF:=kA4 hfin);clear hW3 hfin)
  go_ret
  exact⟨_,rfl,HF.out.1,((Hk2.out.mono (S':=fun x=>x∈[b]) fun _ _ h=>h.elim).trans HF.out.2).mono fun _ _ h=>by simpa using h⟩
set_option pp.maxSteps 200000
structure Ed where
 sw:Int
 tab:Int
 at_:Int
 gone:Bool
 rule:Rl
def cEd (x:Ed):List AV:=[.i .i64 x.sw,.i .i64 x.tab,.i .i64 x.at_,.b x.gone]++cRl x.rule
structure zz (W:World)(bx:Nat)(tp pe wy tb:Value)(ten:Int)(b0 c0 N sw:Nat)(b1 c1 M tab:Nat)(v:Value)(A:Option Addr)(n c:Nat)(cur1:Array Value):Prop where
 box:W.heap[bx]?=some (.cells #[tp,.int .i64 ten,pe,wy,tb] 31 (0,0))
 top:tb = .slice (some ⟨b0,0,none⟩) N c0
 mid:W.cell? ⟨b0,sw,none⟩=some (.slice (some ⟨b1,0,none⟩) M c1)
 blk:W.heap[b1]?=some (.cells cur1 53 (0,0))
 leaf:cur1[tab]?=some v
 val:v = .slice A n c
theorem bt.form {W:World}{l:List Rl}{v:Value}{bs:List Nat}(h:bt W l v bs):∃A c,v = .slice A l.length c:=by
 rcases h with⟨_,rfl,A,rfl⟩|⟨b,cap,_,_,_,rfl,_⟩
 ·exact⟨A,0,rfl⟩
 ·exact⟨_,cap,rfl⟩
def zEd (sw tab at_:Int)(gone:Bool)(r:Rl):Value:=.agg ((.int .i64 sw::.int .i64 tab::.int .i64 at_::.bool gone::rlV r:List Value).toArray)
theorem FC (W:World)(bx:Nat)(tp pe wy tb:Value)(ten:Int)(b0 c0 N sw b1 c1 M tab at_:Nat)(v:Value)(A:Option Addr)(n c:Nat)(cur1:Array Value)(l:List Rl)(bs:List Nat)(hq:bt W l v bs)(hln:l.length=n)(h:zz W bx tp pe wy tb ten b0 c0 N sw b1 c1 M tab v A n c cur1)(h1:sw<N)(h2:tab<M)(h3:at_<n)(hN:N<=9223372036854775807)(hM:M<=9223372036854775807)(hn:n<=9223372036854775807)(hnb:b1∉bs) :
  Calls Tryz.prog 63 #[.pointer (some ⟨bx,0,none⟩),zEd sw tab at_ true Rl.zero] W fun e W'=>e = .returned (.int .i64 0)/\∃v' W1,bt W1 (l.eraseIdx at_) v' bs/\Kp (·∈bs) W W1/\W'=W1.setCell ⟨b1,tab,none⟩ v':=by
 have h6:zEd sw tab at_ true Rl.zero = .agg #[.int .i64 (sw:Nat),.int .i64 (tab:Nat),.int .i64 (at_:Nat),.bool true,.int .i64 0,.int .u64 0,.int .u64 0,.int .u64 0,.int .u64 0,.int .i64 0,.int .i64 0,.int .i64 0,.int .u64 0,.int .u64 0,.int .u64 0,.int .u64 0]:=rfl
 rw [h6]
 clear h6
 obtain⟨hb,rfl,hm,hbl,hll,rfl⟩:=h
 have hl:W.cell? ⟨b1,tab,none⟩=some (.slice A n c):=af hbl hll
 have Hbl:=kA4 hbl
 clear hbl hll
 have Hq:=kA4 hq
 have Hl:=kA4 hln
 have Hnb:=kA4 hnb
 have p4:W.cell? ⟨bx,4,none⟩=some (.slice (some ⟨b0,0,none⟩) N c0):=af hb rfl
 have Hb:=kA4 hb
 clear hb hq hln hnb
 go_enter Tryz.func63,Tryz.ntmps63
 go_wp2_with fail
 have q1:(sw:Int)<(N:Int):=by omega
 have q2:(tab:Int)<(M:Int):=by omega
 have q3:(at_:Int)<(n:Int):=by omega
 refine eL (by kernel_rfl) (by kernel_rfl) fun W2 hW2=>?_
 obtain⟨We,hWe⟩:∃We,We=W.alloc (.cells #[.int .i64 (sw:Nat),.int .i64 (tab:Nat),.int .i64 (at_:Nat),.bool true,.int .i64 0,.int .u64 0,.int .u64 0,.int .u64 0,.int .u64 0,.int .i64 0,.int .i64 0,.int .i64 0,.int .u64 0,.int .u64 0,.int .u64 0,.int .u64 0] 63):=⟨_,rfl⟩
 rw [<- hWe] at hW2
 have he:W2.heap[W.heap.size]?=some (.cells #[.int .i64 (sw:Nat),.int .i64 (tab:Nat),.int .i64 (at_:Nat),.bool true,.int .i64 0,.int .u64 0,.int .u64 0,.int .u64 0,.int .u64 0,.int .i64 0,.int .i64 0,.int .i64 0,.int .u64 0,.int .u64 0,.int .u64 0,.int .u64 0] 63 (0,0)):=by rw [hW2,hWe];exact kA5 _ _
 have hk2:Kp No W W2:=by rw [hW2,hWe];exact ((Kp.refl No W).alloc _).drewN _
 have d0:W2.cell? ⟨W.heap.size,0,none⟩=some (.int .i64 (sw:Nat)):=af he rfl
 have d1:W2.cell? ⟨W.heap.size,1,none⟩=some (.int .i64 (tab:Nat)):=af he rfl
 have d2:W2.cell? ⟨W.heap.size,2,none⟩=some (.int .i64 (at_:Nat)):=af he rfl
 have d3:W2.cell? ⟨W.heap.size,3,none⟩=some (.bool true):=af he rfl
 have Hk2:=kA4 hk2
 have ca:∀(a:Addr) (u:Value),W.cell? a=some u->W2.cell? a=some u:=fun a u h=>(kA7 (Hk2.out.block a.block (kA6 h) (aF _))).trans h
 have p4':=ca _ _ p4
 have hm':=ca _ _ hm
 have hl':=ca _ _ hl
 have hl0:=hl
 have He:=kA4 he
 clear hW2 hWe hk2 he p4 hm hl
 repeat still_step
 refine wpStill_nil ?_
 have z1:decide ((sw:Int)<0)=false:=qC (by omega)
 have z2:decide (N<=sw)=false:=qC (by omega)
 have z3:decide ((tab:Int)<0)=false:=qC (by omega)
 have z4:decide (M<=tab)=false:=qC (by omega)
 have z5:decide ((at_:Int)<0)=false:=qC (by omega)
 have z6:decide (n<at_)=false:=qC (by omega)
 simp only [z1,z2,z3,z4,Bool.or_false]
 go_wp2_with fail
 refine eL (by kernel_rfl) (by kernel_rfl) fun W3 hW3=>?_
 have e3:∀a,W3.cell? a=W2.cell? a:=fun a=>by rw [hW3];rfl
 have hh3:W3.heap=W2.heap:=by rw [hW3];rfl
 have he:=He.out
 have hk2:=Hk2.out
 have hk3:Kp No W W3:=by rw [hW3];exact hk2.drewN _
 rw [<- e3] at d0 d1 d2 d3 p4' hm' hl'
 rw [<- hh3] at he
 have He3:=kA4 he
 have Hk3:=kA4 hk3
 clear hW3 he hk2 hk3 hh3 e3 He Hk2 ca
 repeat still_step
 refine wpStill_nil ?_
 go_wp2_with fail
 refine eL (by kernel_rfl) (by kernel_rfl) fun W4 hW4=>?_
 have e4:∀a,W4.cell? a=W3.cell? a:=fun a=>by rw [hW4];rfl
 have hh4:W4.heap=W3.heap:=by rw [hW4];rfl
 have he:=He3.out
 have hk3:=Hk3.out
 have hk4:Kp No W W4:=by rw [hW4];exact hk3.drewN _
 rw [<- e4] at d0 d1 d2 d3 p4' hm' hl'
 rw [<- hh4] at he
 have He4:=kA4 he
 have Hk4:=kA4 hk4
 have d4:W4.cell? ⟨W.heap.size,4,none⟩=some (.int .i64 0):=af he rfl
 have d5:W4.cell? ⟨W.heap.size,5,none⟩=some (.int .u64 0):=af he rfl
 have d6:W4.cell? ⟨W.heap.size,6,none⟩=some (.int .u64 0):=af he rfl
 have d7:W4.cell? ⟨W.heap.size,7,none⟩=some (.int .u64 0):=af he rfl
 have d8:W4.cell? ⟨W.heap.size,8,none⟩=some (.int .u64 0):=af he rfl
 have d9:W4.cell? ⟨W.heap.size,9,none⟩=some (.int .i64 0):=af he rfl
 have d10:W4.cell? ⟨W.heap.size,10,none⟩=some (.int .i64 0):=af he rfl
 have d11:W4.cell? ⟨W.heap.size,11,none⟩=some (.int .i64 0):=af he rfl
 have d12:W4.cell? ⟨W.heap.size,12,none⟩=some (.int .u64 0):=af he rfl
 have d13:W4.cell? ⟨W.heap.size,13,none⟩=some (.int .u64 0):=af he rfl
 have d14:W4.cell? ⟨W.heap.size,14,none⟩=some (.int .u64 0):=af he rfl
 have d15:W4.cell? ⟨W.heap.size,15,none⟩=some (.int .u64 0):=af he rfl
 clear hW4 he hk3 hk4 hh4 e4 He3 Hk3
 repeat still_step
 refine wpStill_nil ?_
 have z7:decide ((at_:Int)=(n:Int))=false:=qC (by omega)
 go_wp2_with fail
 have hdel:∀w',Kp No W w'->Calls Tryz.prog 106 #[.slice A n c,.int .i64 (at_:Nat),.int .i64 ((at_:Nat)+1:Int)] w' fun e W'=>∃v',e = .returned v'/\bt W' (l.eraseIdx at_) v' bs/\Kp (·∈bs) w' W':=fun w' hk=>by
  have h:=yZ l _ bs w' at_ (Hq.out.keep fun b hb=>hk.block b (Hq.out.old b hb) (aF _)) (by rw [Hl.out];exact h3)
  rw [Int.natCast_add] at h
  exact h
 have Hdel:=kA4 hdel
 have hw:IntKind.i64.wrap ((at_:Int)+1)=(at_:Int)+1:=by rw [kA0];omega
 have Hlt:=kA4 (And.intro (kA6 hl') (qI.1 He4.out).1)
 have Hbn:=kA4 (show b1<W.heap.size from kA6 (a:=⟨b1,tab,none⟩) hl0)
 clear hl0
 have Hne:=kA4 (show ∀b∈bs,b<W.heap.size from fun b hb=>Hq.out.old b hb)
 clear hdel d0 d1 d3 d4 d5 d6 d7 d8 d9 d10 d11 d12 d13 d14 d15 hm' p4' He4 z1 z2 z3 z4 z5 z6 z7
 go_region_with (go_at_call 106;refine (Hdel.out _ Hk4.out.drew).mono ?_;rintro e W6 ⟨v',rfl,hq6,hk6⟩;obtain⟨A',c',rfl⟩:=hq6.form;have Hq6:=kA4 hq6;have Hk6:=kA4 hk6;have hl3:W6.cell? ⟨b1,tab,none⟩=some (.slice A n c):=(kA7 (a:=⟨b1,tab,none⟩) (hk6.block _ Hlt.out.1 Hnb.out)).trans hl';have hfz:W6.frozen? ⟨b1,tab,none⟩=false:=(by simp [World.frozen?,(hk6.block _ Hlt.out.1 Hnb.out).trans ((Hk4.out.block _ (qI.1 Hbl.out).1 (aF _)).trans Hbl.out)]);clear hq6 hk6)
 all_goals
  clear d2 hl' hw
  go_wp2_with fail
  go_ret
  exact⟨rfl,_,W6,Hq6.out,((Hk4.out.drew.mono (S':=fun x=>x∈bs) fun _ _ h=>h.elim).trans Hk6.out).mono fun _ _ h=>by simpa using h,rfl⟩
theorem SlQ.at {W:World}{ty:TypeId}{v:Value}{vs:List Value}{ob:List Nat}{k:Nat}{u:Value}(h:SlQ W ty v vs ob)(hk:vs[k]?=some u) :
  ∃b cap cur,ob=[b]/\v = .slice (some ⟨b,0,none⟩) vs.length cap/\W.heap[b]?=some (.cells cur ty (0,0))/\cur[k]?=some u/\vs.length<=maxLen /\
   ∀(W':World) (u':Value),W'.heap[b]?=some (.cells (cur.setIfInBounds k u') ty (0,0))->SlQ W' ty v (vs.set k u') [b]:=by
 rcases h with⟨_,rfl,_⟩|⟨b,cap,capB,cur,rfl,rfl,hh,h1,h2,h3,h4,h5⟩
 ·cases hk
 ·have hkl:=(qD.1 hk).1
  refine⟨b,cap,cur,rfl,rfl,hh,?_,by omega,fun W' u' hW=>.inr ⟨b,cap,capB,_,rfl,by rw [vF],hW,by rw [vF];exact h1,h2,h3,by rw [Array.size_setIfInBounds];exact h4,?_⟩⟩
  ·rw [<- h5,uJ hkl,vO] at hk
   exact hk
  ·rw [vF,Array.toList_setIfInBounds,List.take_set,h5]
theorem cd.at {α:Type}{P:World->α->Value->List Nat->Prop}{ty:TypeId}{W:World}{xs:List α}{v:Value}{bs:List Nat}{k:Nat}{x:α}(h:cd P ty W xs v bs)(hn:bs.Nodup)(hk:xs[k]?=some x)
  (hP:∀(W':World) x v bs,P W x v bs->(∀b∈bs,W'.heap[b]?=W.heap[b]?)->P W' x v bs) :
  ∃b0 cap cur u b,v = .slice (some ⟨b0,0,none⟩) xs.length cap/\W.heap[b0]?=some (.cells cur ty (0,0))/\cur[k]?=some u/\P W x u b/\xs.length<=maxLen/\b0∈bs/\b0∉b/\b.Nodup/\(∀z∈b,z∈bs) /\
   ∀(W':World) (x':α) (u':Value) (b':List Nat),P W' x' u' b'->b'.Nodup->(∀z∈b',z∈b\/z∉bs)->W'.heap[b0]?=some (.cells (cur.setIfInBounds k u') ty (0,0))->(∀z∈bs,z≠b0->z∉b->W'.heap[z]?=W.heap[z]?) ->
    ∃bs',cd P ty W' (xs.set k x') v bs'/\bs'.Nodup/\∀z∈bs',z∈bs\/z∈b':=by
 obtain⟨vs,bss,ob,rfl,h1,h2,h3,h4⟩:=h
 have hkl:=(qD.1 hk).1
 have hu:vs[k]?=some vs[k]:=qA (by omega)
 have hb:bss[k]?=some bss[k]:=qA (by omega)
 obtain⟨b0,cap,cur,rfl,rfl,hh,hc,hm,hset⟩:=h4.at hu
 generalize vs[k]=u at hu hc
 generalize bss[k]=b at hb
 have hbm:∀z∈b,z∈bss.flatten:=fun z hz=>uP.2 ⟨b,qN hb,hz⟩
 rw [List.singleton_append,vV] at hn
 obtain⟨hn0,hnf⟩:=hn
 have hnb:b.Nodup:=(List.pairwise_flatten.1 hnf).1 b (qN hb)
 refine⟨b0,cap,cur,u,b,by rw [h1],hh,hc,h3 k x u b hk hu hb,by omega,by simp,fun h=>hn0 (hbm _ h),hnb,fun z hz=>by simp [hbm z hz],?_⟩
 intro W' x' u' b' hP' hb' hnew hW' hkeep
 have hsp:bss.flatten=(bss.take k).flatten++(b++(bss.drop (k+1)).flatten):=by
  have hkb:k<bss.length:=by omega
  have hbe:bss[k]=b:=qB ((qA hkb).symm.trans hb)
  have:bss=bss.take k++(b::bss.drop (k+1)):=by
   rw [<- hbe,<- qT hkb,uU]
  conv=>lhs;rw [this]
  simp
 have hsp':(bss.set k b').flatten=(bss.take k).flatten++(b'++(bss.drop (k+1)).flatten):=by
  rw [List.set_eq_take_append_cons_drop,if_pos (by omega)]
  simp
 rw [hsp,uQ,uQ] at hnf
 obtain⟨n1,⟨_,n2,n3⟩,n4⟩:=hnf
 have hmem:∀z,z∈(bss.take k).flatten\/z∈(bss.drop (k+1)).flatten->z∈bss.flatten/\z∉b/\z≠b0/\z∉b':=fun z hz=>by
  have hin:z∈bss.flatten:=by
   rw [hsp]
   rcases hz with h|h <;> simp [h]
  have hnb2:z∉b:=fun hzb=>by
   rcases hz with h|h
   ·exact n4 z h z (vS _ hzb) rfl
   ·exact n3 z hzb z h rfl
  refine⟨hin,hnb2,fun e=>hn0 (e ▸ hin),fun hzb=>?_⟩
  rcases hnew z hzb with h|h
  ·exact hnb2 h
  ·exact h (by simp [hin])
 have hb0':b0∉b':=fun h=>by
  rcases hnew b0 h with h|h
  ·exact hn0 (hbm _ h)
  ·exact h (by simp)
 refine⟨[b0]++(bss.set k b').flatten,⟨vs.set k u',bss.set k b',[b0],rfl,by simp [h1],by simp [h2],?_,hset W' u' hW'⟩,?_,?_⟩
 ·intro j y w c e1 e2 e3
  by_cases hj:k=j
  ·subst hj
   rw [List.getElem?_set_self (by omega)] at e1 e2 e3
   obtain rfl:=qB e1
   obtain rfl:=qB e2
   obtain rfl:=qB e3
   exact hP'
  ·rw [List.getElem?_set_ne hj] at e1 e2 e3
   refine hP W' _ _ _ (h3 j y w c e1 e2 e3) fun z hz=>?_
   have hz2:z∈(bss.take k).flatten\/z∈(bss.drop (k+1)).flatten:=by
    rcases Nat.lt_or_ge j k with h|h
    ·exact .inl (uP.2 ⟨c,qN (i:=j) (by rw [uJ h];exact e3),hz⟩)
    ·exact .inr (uP.2 ⟨c,qN (i:=j-(k+1)) (by rw [uC,show k+1+(j-(k+1))=j by omega];exact e3),hz⟩)
   obtain⟨q1,q2,q3,_⟩:=hmem z hz2
   exact hkeep z (by simp [q1]) q3 q2
 ·rw [List.singleton_append,vV,hsp']
  refine⟨?_,?_⟩
  ·intro h
   rcases vB.1 h with h|h
   ·exact (hmem _ (.inl h)).2.2.1 rfl
   ·rcases vB.1 h with h|h
    ·exact hb0' h
    ·exact (hmem _ (.inr h)).2.2.1 rfl
  ·rw [uQ,uQ]
   refine⟨n1,⟨hb',n2,fun x hx y hy e=>?_⟩,fun x hx y hy e=>?_⟩
   ·subst e
    exact (hmem x (.inr hy)).2.2.2 hx
   ·subst e
    rcases vB.1 hy with h|h
    ·exact (hmem x (.inl hx)).2.2.2 h
    ·exact n4 x hx x (List.mem_append_right _ h) rfl
 ·intro z hz
  rw [hsp'] at hz
  rcases vB.1 hz with h|h
  ·simp at h;simp [h]
  ·rcases vB.1 h with h|h
   ·exact .inl (by simp [(hmem z (.inl h)).1])
   ·rcases vB.1 h with h|h
    ·exact .inr h
    ·exact .inl (by simp [(hmem z (.inr h)).1])
abbrev cz:=List (List (List Rl))
def kq (t:cz)(x:Ed):Option (List Rl):=if x.sw<0\/x.tab<0 then none else (t[x.sw.toNat]?).bind fun m=>m[x.tab.toNat]?
def Bk (t:cz)(x:Ed)(l:List Rl):cz:=t.set x.sw.toNat ((t.getD x.sw.toNat []).set x.tab.toNat l)
def dQ (t:cz)(x:Ed):Int × cz :=
 match kq t x with
 |none=>(4,t)
 |some l=>
  if x.at_<0\/(l.length:Int)<x.at_\/(x.gone=true/\x.at_=l.length) then (4,t)
  else if x.gone=true then (if x.rule=Rl.zero then (0,Bk t x (l.eraseIdx x.at_.toNat)) else (1,t))
  else (0,Bk t x (l.insertIdx x.at_.toNat x.rule))
def vEd (x:Ed):Value:=zEd x.sw x.tab x.at_ x.gone x.rule
def rq (x:Ed)(t:cz):Prop :=
 ∀(W:World) (bx:Nat) (tp pe wy tb:Value) (ten:Int) (bs:List Nat),W.heap[bx]?=some (.cells #[tp,.int .i64 ten,pe,wy,tb] 31 (0,0))->fH W t tb bs->bs.Nodup->bx∉bs ->
  (∀m∈t,∀l∈m,l.length<=1500000000000) ->
  Calls Tryz.prog 63 #[.pointer (some ⟨bx,0,none⟩),vEd x] W fun e W'=>e = .returned (.int .i64 (dQ t x).1)/\Kp (·∈bs) W W'/\((dQ t x).1=0->∃bs',fH W' (dQ t x).2 tb bs'/\bs'.Nodup/\∀z∈bs',z∈bs\/W.heap.size<=z)
theorem GF {α:Type}{cs:Array α}{k:Nat}{u:α}(h:cs[k]?=some u):cs.setIfInBounds k u=cs:=by
 apply Array.ext_getElem?
 intro i
 rw [Array.getElem?_setIfInBounds]
 split
 ·rename_i e
  subst e
  rw [h]
  rw [if_pos (qI.1 h).1]
 ·rfl
theorem eh {t:cz}{x:Ed}{l:List Rl}(h:kq t x=some l):∃(sw tab:Nat) (m:List (List Rl)),x.sw=sw/\x.tab=tab/\t[sw]?=some m/\m[tab]?=some l:=by
 unfold kq at h
 split at h
 ·cases h
 ·rename_i hn
  obtain⟨m,h1,h2⟩:=Option.bind_eq_some_iff.1 h
  exact⟨x.sw.toNat,x.tab.toNat,m,by omega,by omega,h1,h2⟩
theorem fH.at {W:World}{t:cz}{tb:Value}{bs:List Nat}{sw tab:Nat}{m:List (List Rl)}{l:List Rl}(h:fH W t tb bs)(hn:bs.Nodup)(h1:t[sw]?=some m)(h2:m[tab]?=some l) :
  ∃b0 c0 b1 c1 cur1 v lb,tb = .slice (some ⟨b0,0,none⟩) t.length c0/\W.cell? ⟨b0,sw,none⟩=some (.slice (some ⟨b1,0,none⟩) m.length c1)/\W.heap[b1]?=some (.cells cur1 53 (0,0))/\cur1[tab]?=some v/\bt W l v lb/\lb.Nodup/\t.length<=maxLen/\m.length<=maxLen/\b1∈bs/\b1∉lb/\(∀z∈lb,z∈bs) /\
   ∀(W1:World) (l':List Rl) (v':Value) (lb':List Nat),bt W1 l' v' lb'->lb'.Nodup->(∀z∈lb',z∈lb\/W.heap.size<=z)->Kp (·∈lb) W W1->∃bs',fH (W1.setCell ⟨b1,tab,none⟩ v') (t.set sw (m.set tab l')) tb bs'/\bs'.Nodup/\∀z∈bs',z∈bs\/W.heap.size<=z:=by
 have hold:=h.old
 obtain⟨b0,c0,cur0,u0,mb,rfl,hh0,hc0,hm,ht,hb0,hb0m,hmb,hms,hset0⟩:=cd.at h hn h1 fun W' x v bs=>eX.keep
 obtain⟨b1,c1,cur1,v,lb,rfl,hh1,hc1,hl,hml,hb1,hb1l,hlb,hls,hset1⟩:=cd.at hm hmb h2 fun W' x v bs=>bt.keep
 refine⟨b0,c0,b1,c1,cur1,v,lb,rfl,af hh0 hc0,hh1,hc1,hl,hlb,ht,hml,hms _ hb1,hb1l,fun z hz=>hms _ (hls z hz),?_⟩
 intro W1 l' v' lb' hl' hlb' hnew hk
 have hmo:∀z∈mb,z<W.heap.size:=fun z hz=>hold z (hms z hz)
 have hb1n:b1∉lb':=fun hz=>by
  rcases hnew b1 hz with h|h
  ·exact hb1l h
  ·have:=hmo b1 hb1;omega
 have hq1:W1.heap[b1]?=some (.cells cur1 53 (0,0)):=(hk.block b1 (hmo b1 hb1) hb1l).trans hh1
 obtain⟨mb',hm',hmn',hmnew⟩:=hset1 (W1.setCell ⟨b1,tab,none⟩ v') l' v' lb' (hl'.keep fun b hb=>cC fun e=>hb1n (e ▸ hb)) hlb' (fun z hz=>(hnew z hz).imp id fun h hz2=>by have:=hmo z hz2;omega) (dd hq1) (fun z hz hne hzl=>(cC hne).trans (hk.block z (hmo z hz) hzl))
 have hnew2:∀z∈mb',z∈mb\/W.heap.size<=z:=fun z hz=>by
  rcases hmnew z hz with h|h
  ·exact .inl h
  ·rcases hnew z h with h|h
   ·exact .inl (hls z h)
   ·exact .inr h
 have hb01:b0≠b1:=fun e=>hb0m (e ▸ hb1)
 have hq0:(W1.setCell ⟨b1,tab,none⟩ v').heap[b0]?=some (.cells (cur0.setIfInBounds sw (.slice (some ⟨b1,0,none⟩) m.length c1)) 52 (0,0)):=by
  rw [GF hc0,cC hb01,hk.block b0 (hold b0 hb0) (fun h=>hb0m (hls b0 h)),hh0]
 have hm2:eX (W1.setCell ⟨b1,tab,none⟩ v') (m.set tab l') (.slice (some ⟨b1,0,none⟩) m.length c1) mb':=hm'
 obtain⟨bs',hT,hTn,hTnew⟩:=hset0 (W1.setCell ⟨b1,tab,none⟩ v') (m.set tab l') _ mb' hm2 hmn' (fun z hz=>(hnew2 z hz).imp id fun h hz2=>by have:=hold z hz2;omega) hq0 (fun z hz hne hzl=>(cC (b:=b1) (b':=z) fun e=>hzl (by rw [e];exact hb1)).trans (hk.block z (hold z hz) fun h=>hzl (hls z h)))
 exact⟨bs',hT,hTn,fun z hz=>(hTnew z hz).elim .inl fun h=>(hnew2 z h).imp (hms z) id⟩
theorem qu {t:cz}{x:Ed}{sw tab:Nat}{m:List (List Rl)}{l:List Rl}(e1:x.sw=sw)(e2:x.tab=tab)(h1:t[sw]?=some m):Bk t x l=t.set sw (m.set tab l):=by
 unfold Bk
 rw [e1,e2,vQ,vQ,qM,h1]
 rfl
theorem AG (x:Ed)(t:cz)(l:List Rl)(hl:kq t x=some l)(h0:0<=x.at_)(h1:x.at_<l.length)(hg:x.gone=true)(hz:x.rule=Rl.zero):rq x t:=by
 intro W bx tp pe wy tb ten bs hb hq hn hbx hlen
 obtain⟨sw,tab,m,e1,e2,g1,g2⟩:=eh hl
 have ho:dQ t x=(0,t.set sw (m.set tab (l.eraseIdx x.at_.toNat))):=by
  unfold dQ
  simp only [hl]
  rw [if_neg (by rintro (h|h|⟨_,h⟩) <;> omega),if_pos hg,if_pos hz,qu e1 e2 g1]
 have hv:vEd x=zEd sw tab (x.at_.toNat:Nat) true Rl.zero:=by
  unfold vEd
  rw [e1,e2,hg,hz,Int.toNat_of_nonneg h0]
 obtain⟨b0,c0,b1,c1,cur1,v,lb,rfl,hm,hh1,hc1,hlq,hlb,ht,hml,hb1,hb1l,hls,hset⟩:=fH.at hq hn g1 g2
 obtain⟨A,c,rfl⟩:=hlq.form
 have hlen:=hlen m (qN g1) l (qN g2)
 rw [ho,hv]
 unfold maxLen at ht hml
 refine (FC W bx tp pe wy _ ten b0 c0 t.length sw b1 c1 m.length tab x.at_.toNat _ A l.length c cur1 l lb hlq rfl ⟨hb,rfl,hm,hh1,hc1,rfl⟩ (qD.1 g1).1 (qD.1 g2).1 (by omega) (by omega) (by omega) (by omega) hb1l).mono ?_
 rintro e W' ⟨rfl,v',W1,hl1,hk1,rfl⟩
 refine⟨rfl,?_,fun _=>?_⟩
 ·exact (hk1.mono fun z _ hz=>hls z hz).setCell (p:=⟨b1,tab,none⟩) (.inl hb1) v'
 ·exact hset W1 _ v' lb hl1 hlb (fun z hz=>.inl hz) hk1
def aC:cz->List Ed->Int × cz
 |t,[]=>(0,t)
 |t,x::E=>if (dQ t x).1=0 then aC (dQ t x).2 E else dQ t x
theorem j6:∀(t:cz) (E D:List Ed),(aC t E).1=0->aC t (E++D)=aC (aC t E).2 D
 |t,[],D,_=>rfl
 |t,x::E,D,h=>by
  unfold aC at h
  split at h
  ·rename_i h0
   have ih:=j6 (dQ t x).2 E D h
   have e1:aC t (x::E++D)=aC (dQ t x).2 (E++D):=by
    rw [uX]
    conv=>lhs;unfold aC
    rw [if_pos h0]
   have e2:aC t (x::E)=aC (dQ t x).2 E:=by
    conv=>lhs;unfold aC
    rw [if_pos h0]
   rw [e1,e2,ih]
  ·rename_i h0
   exact absurd h h0
theorem EK {W:World}{F:Nat->Prop}{xs:List Ed}{A:Option Addr}{n c k:Nat}{x:Ed}(h:au W F (.sl (xs.map cEd)) (.slice A n c))(hx:xs[k]?=some x) :
  ∃b off,A=some ⟨b,off,none⟩/\W.cell? ⟨b,off+k*16,none⟩=some (.int .i64 x.sw)/\W.cell? ⟨b,off+k*16+1,none⟩=some (.int .i64 x.tab)/\W.cell? ⟨b,off+k*16+2,none⟩=some (.int .i64 x.at_)/\W.cell? ⟨b,off+k*16+3,none⟩=some (.bool x.gone)/\W.cell? ⟨b,off+k*16+4,none⟩=some (.int .i64 x.rule.prio)/\W.cell? ⟨b,off+k*16+5,none⟩=some (.int .u64 x.rule.mat.value.hi.toNat)/\W.cell? ⟨b,off+k*16+6,none⟩=some (.int .u64 x.rule.mat.value.lo.toNat)/\W.cell? ⟨b,off+k*16+7,none⟩=some (.int .u64 x.rule.mat.care.hi.toNat)/\W.cell? ⟨b,off+k*16+8,none⟩=some (.int .u64 x.rule.mat.care.lo.toNat)/\W.cell? ⟨b,off+k*16+9,none⟩=some (.int .i64 x.rule.act.kind)/\W.cell? ⟨b,off+k*16+10,none⟩=some (.int .i64 x.rule.act.port)/\W.cell? ⟨b,off+k*16+11,none⟩=some (.int .i64 x.rule.act.table)/\W.cell? ⟨b,off+k*16+12,none⟩=some (.int .u64 x.rule.act.set.value.hi.toNat)/\W.cell? ⟨b,off+k*16+13,none⟩=some (.int .u64 x.rule.act.set.value.lo.toNat)/\W.cell? ⟨b,off+k*16+14,none⟩=some (.int .u64 x.rule.act.set.care.hi.toNat)/\W.cell? ⟨b,off+k*16+15,none⟩=some (.int .u64 x.rule.act.set.care.lo.toNat):=by
 generalize hels:xs.map cEd=els at h
 cases h with
 |sl _ _ _ m b off cell hc hm hA hl h1 hr hw=>
  have hk:els[k]?=some (cEd x):=by rw [<- hels,qF,hx];rfl
  have hp:0<els.length:=by have:=(qD.1 hk).1;omega
  obtain⟨rfl,hF,hb⟩:=hA hp
  obtain rfl:m=16:=(hl k _ hk).symm
  have g:∀(j:Nat) (y:AV) (u:Value),(cEd x)[j]?=some y->y.val?=some u->W.cell? ⟨b,off+(k*16+j),none⟩=some u:=fun j y u hj hv=>by
   rw [hw k _ j y hk hj]
   congr 1
   have h:=hr k _ j y hk hj
   generalize cell k j=z at h ⊢
   cases h <;> first|(cases hv;rfl)|cases hv
  refine⟨b,off,rfl,by have:=g 0 _ _ rfl rfl;simpa [Nat.add_assoc] using this,by have:=g 1 _ _ rfl rfl;simpa [Nat.add_assoc] using this,by have:=g 2 _ _ rfl rfl;simpa [Nat.add_assoc] using this,by have:=g 3 _ _ rfl rfl;simpa [Nat.add_assoc] using this,by have:=g 4 _ _ rfl rfl;simpa [Nat.add_assoc] using this,by have:=g 5 _ _ rfl rfl;simpa [Nat.add_assoc] using this,by have:=g 6 _ _ rfl rfl;simpa [Nat.add_assoc] using this,by have:=g 7 _ _ rfl rfl;simpa [Nat.add_assoc] using this,by have:=g 8 _ _ rfl rfl;simpa [Nat.add_assoc] using this,by have:=g 9 _ _ rfl rfl;simpa [Nat.add_assoc] using this,by have:=g 10 _ _ rfl rfl;simpa [Nat.add_assoc] using this,by have:=g 11 _ _ rfl rfl;simpa [Nat.add_assoc] using this,by have:=g 12 _ _ rfl rfl;simpa [Nat.add_assoc] using this,by have:=g 13 _ _ rfl rfl;simpa [Nat.add_assoc] using this,by have:=g 14 _ _ rfl rfl;simpa [Nat.add_assoc] using this,by have:=g 15 _ _ rfl rfl;simpa [Nat.add_assoc] using this⟩
theorem Co {W:World}{F:Nat->Prop}{xs:List Ed}{v:Value}(h:au W F (.sl (xs.map cEd)) v):∃A c,v = .slice A xs.length c:=by
 have hl:(xs.map cEd).length=xs.length:=qG ..
 generalize xs.map cEd=els at h hl
 cases h with
 |sl _ A c=>exact⟨A,c,by rw [hl]⟩
set_option pp.maxSteps 200000
structure ApW (W wr:World)(c:Cf)(F':Nat->Prop)(bx rb:Nat)(tp pe wy tb:Value)(t:cz):Prop where
 kp:Kp No W wr
 box:wr.heap[bx]?=some (.cells #[tp,.int .i64 c.pol.tenants,pe,wy,tb] 31 (0,0))
 res:wr.heap[rb]?=some (.cells #[.slice none 0 0,.int .i64 0,.slice none 0 0,.slice none 0 0,.slice none 0 0] 31 (0,0))
 ne:W.heap.size<=bx/\W.heap.size<=rb/\bx≠rb/\¬F' bx
 top:∃bs,fH wr t tb bs/\bs.Nodup/\∀z∈bs,W.heap.size<=z/\z≠bx/\z≠rb/\¬F' z
 f1:au wr F' (.sl (c.topo.ports.map aP)) tp
 f2:au wr F' (.sl (c.pol.peers.map cPr)) pe
 f3:au wr F' (.sl (c.pol.ways.map cWy)) wy
 hF:∀b,F' b->b<wr.heap.size
theorem ApW.grow {W wr w2:World}{c:Cf}{F':Nat->Prop}{bx rb:Nat}{tp pe wy tb:Value}{t:cz}(h:ApW W wr c F' bx rb tp pe wy tb t)(hk:Kp No wr w2):ApW W w2 c F' bx rb tp pe wy tb t where
 kp:=h.kp.trans hk
 box:=hk.heap h.box (aF _)
 res:=hk.heap h.res (aF _)
 ne:=h.ne
 top:=by
  obtain⟨bs,h1,h2,h3⟩:=h.top
  exact⟨bs,h1.keep fun b hb=>hk.block b (h1.old b hb) (aF _),h2,h3⟩
 f1:=h.f1.keep (fun b _ hb=>hk.block b hb (aF _)) fun b h1 _=>h1
 f2:=h.f2.keep (fun b _ hb=>hk.block b hb (aF _)) fun b h1 _=>h1
 f3:=h.f3.keep (fun b _ hb=>hk.block b hb (aF _)) fun b h1 _=>h1
 hF b hb:=vK (h.hF b hb) hk.size
theorem ApW.one {W wr:World}{c:Cf}{F':Nat->Prop}{bx rb:Nat}{tp pe wy tb:Value}{t:cz}{x:Ed}(h:ApW W wr c F' bx rb tp pe wy tb t)(hx:rq x t)(hl:∀m∈t,∀l∈m,l.length<=1500000000000) :
  Calls Tryz.prog 63 #[.pointer (some ⟨bx,0,none⟩),vEd x] wr fun e W'=>e = .returned (.int .i64 (dQ t x).1)/\Kp No W W'/\W'.heap[rb]?=wr.heap[rb]?/\((dQ t x).1=0->ApW W W' c F' bx rb tp pe wy tb (dQ t x).2):=by
 obtain⟨bs,h1,h2,h3⟩:=h.top
 refine (hx wr bx tp pe wy tb c.pol.tenants bs h.box h1 h2 (fun hb=>(h3 bx hb).2.1 rfl) hl).mono ?_
 rintro e W' ⟨rfl,hk,hok⟩
 have hkp:Kp No W W':=h.kp.trans2 hk fun g hg hb=>absurd hg (Nat.not_lt.2 (h3 g hb).1)
 have hres:W'.heap[rb]?=wr.heap[rb]?:=hk.block rb (qI.1 h.res).1 fun hb=>(h3 rb hb).2.2.1 rfl
 refine⟨rfl,hkp,hres,fun h0=>?_⟩
 obtain⟨bs',t1,t2,t3⟩:=hok h0
 have hkeep:∀b,F' b->b<wr.heap.size->W'.heap[b]?=wr.heap[b]?:=fun b hb hlt=>hk.block b hlt fun hbs=>(h3 b hbs).2.2.2 hb
 have hbx:=(qI.1 h.box).1
 have hrb:=(qI.1 h.res).1
 exact {
  kp:=hkp
  box:=(hk.block bx hbx fun hb=>(h3 bx hb).2.1 rfl).trans h.box
  res:=hres.trans h.res
  ne:=h.ne
  top:=⟨bs',t1,t2,fun z hz=>(t3 z hz).elim (h3 z) fun hz2=>⟨vH h.kp.size hz2,by omega,by omega,fun hf=>by have:=h.hF z hf;omega⟩⟩
  f1:=h.f1.keep hkeep fun b h1 _=>h1
  f2:=h.f2.keep hkeep fun b h1 _=>h1
  f3:=h.f3.keep hkeep fun b h1 _=>h1
  hF:=fun b hb=>vK (h.hF b hb) hk.size }
theorem sH {W:World}{F:Nat->Prop}{c:Cf}{v:Value}(h:au W F (.agg (cCf c)) v):∃A0 n0 k0 A1 n1 k1 A2 n2 k2 A3 n3 k3,v = .agg #[.slice A0 n0 k0,.int .i64 c.pol.tenants,.slice A1 n1 k1,.slice A2 n2 k2,.slice A3 n3 k3]:=by
 have sf:∀{els:List (List AV)} {u:Value},au W F (.sl els) u->∃A n k,u = .slice A n k:=fun h=>by
  generalize hx:AV.sl _=x at h
  cases h <;> first|exact⟨_,_,_,rfl⟩|cases hx
 cases h with
 |agg cs vs hl h1 hr=>
  match vs,hl with
  |[a,b,d,e,f],_=>
   obtain⟨A0,n0,k0,rfl⟩:=sf (hr 0 _ a rfl rfl)
   obtain⟨A1,n1,k1,rfl⟩:=sf (hr 2 _ d rfl rfl)
   obtain⟨A2,n2,k2,rfl⟩:=sf (hr 3 _ e rfl rfl)
   obtain⟨A3,n3,k3,rfl⟩:=sf (hr 4 _ f rfl rfl)
   have hb:=hr 1 _ b rfl rfl
   cases hb
   exact⟨_,_,_,_,_,_,_,_,_,_,_,_,rfl⟩
def cR (c:Cf)(r:Int × cz):AV:=.tup [.agg (if r.1=0 then cCf { c with tables:=r.2 } else [.sl [],.i .i64 0,.sl [],.sl [],.sl []]),.i .i64 r.1]
theorem G4 {W:World}{b:Nat}{a0 a1 a2 a3 a4:Value}{t:TypeId}(h:W.heap[b]?=some (.cells #[a0,a1,a2,a3,a4] t (0,0)))(v0 v1 v2 v3 v4:Value) :
  (((((W.setCell ⟨b,0,none⟩ v0).setCell ⟨b,1,none⟩ v1).setCell ⟨b,2,none⟩ v2).setCell ⟨b,3,none⟩ v3).setCell ⟨b,4,none⟩ v4).heap[b]?=some (.cells #[v0,v1,v2,v3,v4] t (0,0)) /\
  Kp (fun x=>x=b) W (((((W.setCell ⟨b,0,none⟩ v0).setCell ⟨b,1,none⟩ v1).setCell ⟨b,2,none⟩ v2).setCell ⟨b,3,none⟩ v3).setCell ⟨b,4,none⟩ v4) :=
 ⟨dd (dd (dd (dd (dd h)))),((((Kp.set1 W b 0 v0).setCell (p:=⟨b,1,none⟩) (.inl rfl) v1).setCell (p:=⟨b,2,none⟩) (.inl rfl) v2).setCell (p:=⟨b,3,none⟩) (.inl rfl) v3).setCell (p:=⟨b,4,none⟩) (.inl rfl) v4⟩
theorem pJ {tmps:Array Value}{W:World}{b:Nat}{e:Int}{cs:Array Value}(h4:tmps.getD 4 undef = .pointer (some ⟨b,0,none⟩))(h5:tmps.getD 5 undef = .int .i64 e)(hh:W.heap[b]?=some (.cells cs 31 (0,0)))(hs:cs.size=5) :
  (results Tryz.f31 tmps).run Tryz.prog W = .ok (.tuple #[.agg cs,.int .i64 e]) W:=by
 obtain⟨fs,hfs⟩:=oX
 have hi:(Tryz.prog.info? 31).map (·.size)=some cs.size:=by rw [hs];kernel_rfl
 rw [results_cell_tmp (p:=4) (u:=5) (ty:=31) rfl,h4,h5]
 simp only [asAddr,kA3,kA1,run_loadVar_row (P:=Tryz.prog) W b _ _ _ _ _ hh hfs rfl hi]
theorem uq {W:World}{F:Nat->Prop}{c:Cf}{r:Int × cz}(h:¬r.1=0):au W F (cR c r) (.tuple #[.agg #[.slice none 0 0,.int .i64 0,.slice none 0 0,.slice none 0 0,.slice none 0 0],.int .i64 r.1]):=by
 unfold cR
 rw [if_neg h]
 refine .tup _ [_,_] rfl fun j x v hx hv=>?_
 match j,hx,hv with
 |0,hx,hv=>
  obtain rfl:=qB hx
  obtain rfl:=qB hv
  refine .agg _ [_,_,_,_,_] rfl (fun j x hx=>?_) fun j x v hx hv=>?_
  ·match j,hx with
   |0,hx=>obtain rfl:=qB hx;rfl
   |1,hx=>obtain rfl:=qB hx;rfl
   |2,hx=>obtain rfl:=qB hx;rfl
   |3,hx=>obtain rfl:=qB hx;rfl
   |4,hx=>obtain rfl:=qB hx;rfl
  ·match j,hx,hv with
   |0,hx,hv=>obtain rfl:=qB hx;obtain rfl:=qB hv;exact dX
   |1,hx,hv=>obtain rfl:=qB hx;obtain rfl:=qB hv;exact .i _ _
   |2,hx,hv=>obtain rfl:=qB hx;obtain rfl:=qB hv;exact dX
   |3,hx,hv=>obtain rfl:=qB hx;obtain rfl:=qB hv;exact dX
   |4,hx,hv=>obtain rfl:=qB hx;obtain rfl:=qB hv;exact dX
 |1,hx,hv=>
  obtain rfl:=qB hx
  obtain rfl:=qB hv
  exact .i _ _
theorem yg {W:World}{F:Nat->Prop}{c:Cf}{r:Int × cz}{v:Value}(h:r.1=0)(hv:au W F (.agg (cCf { c with tables:=r.2 })) v):au W F (cR c r) (.tuple #[v,.int .i64 0]):=by
 unfold cR
 rw [if_pos h,h]
 refine .tup _ [_,_] rfl fun j x v hx hv=>?_
 match j,hx,hv with
 |0,hx,hv=>
  obtain rfl:=qB hx
  obtain rfl:=qB hv
  assumption
 |1,hx,hv=>
  obtain rfl:=qB hx
  obtain rfl:=qB hv
  exact .i _ _
theorem Fe {W:World}{F:Nat->Prop}{c:Cf}{tp pe wy tb:Value}(h0:au W F (.sl (c.topo.ports.map aP)) tp)(h2:au W F (.sl (c.pol.peers.map cPr)) pe)(h3:au W F (.sl (c.pol.ways.map cWy)) wy)(h4:au W F (.sl (c.tables.map bY)) tb):au W F (.agg (cCf c)) (.agg #[tp,.int .i64 c.pol.tenants,pe,wy,tb]):=by
 refine .agg _ [_,_,_,_,_] rfl (fun j x hx=>?_) fun j x v hx hv=>?_
 ·match j,hx with
  |0,hx=>obtain rfl:=qB hx;rfl
  |1,hx=>obtain rfl:=qB hx;rfl
  |2,hx=>obtain rfl:=qB hx;rfl
  |3,hx=>obtain rfl:=qB hx;rfl
  |4,hx=>obtain rfl:=qB hx;rfl
 ·match j,hx,hv with
  |0,hx,hv=>obtain rfl:=qB hx;obtain rfl:=qB hv;exact h0
  |1,hx,hv=>obtain rfl:=qB hx;obtain rfl:=qB hv;exact .i _ _
  |2,hx,hv=>obtain rfl:=qB hx;obtain rfl:=qB hv;exact h2
  |3,hx,hv=>obtain rfl:=qB hx;obtain rfl:=qB hv;exact h3
  |4,hx,hv=>obtain rfl:=qB hx;obtain rfl:=qB hv;exact h4
theorem Cu (c:Cf)(E:List Ed)(hf:c.Fit)(hE:∀ (k:Nat) (x:Ed) (t:cz),E[k]? = some x -> aC c.tables (E.take k) = (0,t) -> rq x t)(hT:∀ k t,k <= E.length -> aC c.tables (E.take k) = (0,t) -> Cf.Fit { c with tables := t })(W:World)(F:Nat -> Prop)(v u:Value)(hv:au W F (.agg (cCf c)) v)(hu:au W F (.sl (E.map cEd)) u)(hF:∀ b,F b -> b < W.heap.size) :
  Calls Tryz.prog 31 #[v,u] W fun e W'=>∃v,e = .returned v/\Kp No W W'/\au W' (fun b=>F b\/(W.heap.size<=b/\b<W'.heap.size)) (cR c (aC c.tables E)) v:=by
 obtain⟨A0,n0,k0,A1,n1,k1,A2,n2,k2,A3,n3,k3,rfl⟩:=sH hv
 have hEl:E.length<=9223372036854775807:=by
  obtain⟨_,_,_,h1,h2⟩:=b9 hu
  rw [qG] at h1
  unfold maxLen at h2
  omega
 obtain⟨A,cp,rfl⟩:=Co hu
 have Hv:=kA4 hv
 have Hu:=kA4 hu
 have HE:=kA4 hE
 have HT:=kA4 hT
 have Hf:=kA4 hf
 have HF:=kA4 hF
 clear hv hu hE hT hf hF
 go_enter Tryz.func31,Tryz.ntmps31
 go_wp2_with fail
 obtain⟨WA,hWA⟩:∃WA,WA=(W.alloc (.cells #[.slice A0 n0 k0,.int .i64 c.pol.tenants,.slice A1 n1 k1,.slice A2 n2 k2,.slice A3 n3 k3] 31)).alloc (.cells #[.slice none 0 0,.int .i64 0,.slice none 0 0,.slice none 0 0,.slice none 0 0] 31):=⟨_,rfl⟩
 rw [<- hWA]
 have hkA:Kp No W WA:=by rw [hWA];exact ((Kp.refl No W).alloc _).alloc _
 have hsA:WA.heap.size=W.heap.size+2:=by rw [hWA];simp
 have hrA:WA.heap[W.heap.size+1]?=some (.cells #[.slice none 0 0,.int .i64 0,.slice none 0 0,.slice none 0 0,.slice none 0 0] 31 (0,0)):=by
  rw [hWA]
  have:=kA5 (W.alloc (.cells #[.slice A0 n0 k0,.int .i64 c.pol.tenants,.slice A1 n1 k1,.slice A2 n2 k2,.slice A3 n3 k3] 31)) (.cells #[.slice none 0 0,.int .i64 0,.slice none 0 0,.slice none 0 0,.slice none 0 0] 31)
  simpa using this
 refine (Ak c Hf.out WA F _ (Hv.out.keep (fun b hb h2=>hkA.block b h2 (aF _)) fun b h1 _=>h1) (fun b hb=>vK (HF.out b hb) hkA.size)).mono ?_
 rintro e W2 ⟨tp,pe,wy,tb,bs,F',rfl,hk2,hp1,hp2,hp3,htop,hnd,hnew,hF',hFn⟩
 obtain⟨B0,m0,j0,rfl⟩:∃A n k,tp = .slice A n k:=by obtain⟨A,c,h,_⟩:=b9 hp1;exact⟨_,_,_,h⟩
 obtain⟨B1,m1,j1,rfl⟩:∃A n k,pe = .slice A n k:=by obtain⟨A,c,h,_⟩:=b9 hp2;exact⟨_,_,_,h⟩
 obtain⟨B2,m2,j2,rfl⟩:∃A n k,wy = .slice A n k:=by obtain⟨A,c,h,_⟩:=b9 hp3;exact⟨_,_,_,h⟩
 obtain⟨B3,j3,rfl,_⟩:=htop.form
 obtain⟨W3,hW3⟩:∃W3,W3=W2.alloc (.cells #[.slice B0 m0 j0,.int .i64 c.pol.tenants,.slice B1 m1 j1,.slice B2 m2 j2,.slice B3 c.tables.length j3] 31):=⟨_,rfl⟩
 have hs2:W.heap.size+2<=W2.heap.size:=by have:=hk2.size;omega
 have ha:ApW W W3 c F' W2.heap.size (W.heap.size+1) (.slice B0 m0 j0) (.slice B1 m1 j1) (.slice B2 m2 j2) (.slice B3 c.tables.length j3) c.tables:=by
  have hk3:Kp No W2 W3:=by rw [hW3];exact (Kp.refl No W2).alloc _
  exact {
   kp:=(hkA.trans hk2).trans hk3
   box:=by rw [hW3];exact kA5 _ _
   res:=hk3.heap (hk2.heap hrA (aF _)) (aF _)
   ne:=⟨by omega,by omega,by omega,fun h=>Nat.lt_irrefl _ (hF' _ h)⟩
   top:=⟨bs,htop.keep fun b hb=>hk3.block b (htop.old b hb) (aF _),hnd,fun z hz=>⟨by have:=(hnew z hz).1;omega,by have:=htop.old z hz;omega,by have:=(hnew z hz).1;omega,(hnew z hz).2⟩⟩
   f1:=hp1.keep (fun b _ hb=>hk3.block b hb (aF _)) fun b h1 _=>h1
   f2:=hp2.keep (fun b _ hb=>hk3.block b hb (aF _)) fun b h1 _=>h1
   f3:=hp3.keep (fun b _ hb=>hk3.block b hb (aF _)) fun b h1 _=>h1
   hF:=fun b hb=>vK (hF' b hb) hk3.size }
 have Ha:=kA4 ha
 have HFn:=kA4 (show ∀b,F' b->F b\/W.heap.size+2<=b from fun b hb=>(hFn b hb).imp id fun h=>hsA ▸ h)
 have HW3:=kA4 hW3
 clear hWA hkA hsA hrA hk2 hp1 hp2 hp3 htop hnd hnew hF' hW3 hs2 ha hFn
 go_wp2_with fail
 rw [<- HW3.out]
 clear HW3
 go_loopw [14] (fun i wr=>∃(k:Nat) (t:cz),k<=E.length/\i = .int .i64 k/\aC c.tables (E.take k)=(0,t)/\ApW W wr c F' W2.heap.size (W.heap.size+1) (.slice B0 m0 j0) (.slice B1 m1 j1) (.slice B2 m2 j2) (.slice B3 c.tables.length j3) t) (fun i _=>E.length-(intOf i).toNat)
 case atStart=>exact⟨0,c.tables,qR _,rfl,rfl,Ha.out⟩
 case round=>
  obtain⟨k,t,hk,rfl,ht,hI⟩:=hrel
  by_cases hlt:k<E.length
  ·have hx:E[k]?=some E[k]:=qA hlt
   have hxo:=HE.out k _ t hx ht
   have hsn:E.take (k+1)=E.take k++[E[k]]:=(List.take_append_getElem hlt).symm
   have hdr:E=E.take k++(E[k]::E.drop (k+1)):=by rw [<- qT hlt,uU]
   generalize E[k]=x at hx hxo hsn hdr
   have hs:au wr F (.sl (E.map cEd)) (.slice A E.length cp):=Hu.out.keep (fun b hb' _=>hI.kp.block b (HF.out b hb') (aF _)) (fun b h1 _=>h1)
   obtain⟨b,off,rfl,c0,c1,c2,c3,c4,c5,c6,c7,c8,c9,c10,c11,c12,c13,c14,c15⟩:=EK hs hx
   obtain⟨wx,hwx⟩:∃wx,wx=wr.alloc (.cells #[.int .i64 x.sw,.int .i64 x.tab,.int .i64 x.at_,.bool x.gone,.int .i64 x.rule.prio,.int .u64 x.rule.mat.value.hi.toNat,.int .u64 x.rule.mat.value.lo.toNat,.int .u64 x.rule.mat.care.hi.toNat,.int .u64 x.rule.mat.care.lo.toNat,.int .i64 x.rule.act.kind,.int .i64 x.rule.act.port,.int .i64 x.rule.act.table,.int .u64 x.rule.act.set.value.hi.toNat,.int .u64 x.rule.act.set.value.lo.toNat,.int .u64 x.rule.act.set.care.hi.toNat,.int .u64 x.rule.act.set.care.lo.toNat] 63):=⟨_,rfl⟩
   have hb:=hI.box
   have b0:wr.cell? ⟨W2.heap.size,0,none⟩=some (.slice B0 m0 j0):=af hb rfl
   have Hwx:=kA4 hwx
   have HI:=kA4 hI
   have Ht:=kA4 ht
   have Hx:=kA4 hx
   have Hxo:=kA4 hxo
   have Hsn:=kA4 hsn
   have Hdr:=kA4 hdr
   have q1:(k:Int)<(E.length:Int):=by omega
   have Hlt:=kA4 hlt
   clear hwx hI ht hs hx hxo hsn hdr hlt hb
   go_wp2_with fail
   rw [<- Hwx.out]
   have hl:∀m∈t,∀l∈m,l.length<=1500000000000:=fun m hm l hl=>by
    have:=(HT.out k t hk Ht.out).rules m hm l hl
    rw [bK] at this
    omega
   refine Calls.mono ((HI.out.grow (w2:=wx) (by rw [Hwx.out];exact (Kp.refl No wr).alloc _)).one Hxo.out hl) ?_
   rintro e W4 ⟨rfl,hk4,hr4,hok⟩
   have hres:W4.heap[W.heap.size+1]?=some (.cells #[.slice none 0 0,.int .i64 0,.slice none 0 0,.slice none 0 0,.slice none 0 0] 31 (0,0)):=by
    rw [hr4,Hwx.out,heap_alloc_old _ _ (qI.1 HI.out.res).1]
    exact HI.out.res
   have Hk4:=kA4 hk4
   have Hok:=kA4 hok
   have Hres:=kA4 hres
   have Hkl:=kA4 hk
   clear hl hk4 hr4 hok hres c0 c1 c2 c3 c4 c5 c6 c7 c8 c9 c10 c11 c12 c13 c14 c15 b0 q1
   by_cases h0:(dQ t x).1=0
   ·have Hn:=kA4 (Hok.out h0)
    have Ht1:=kA4 (show aC c.tables (E.take (k+1))=(0,(dQ t x).2) by
     rw [Hsn.out,j6 _ _ _ (by rw [Ht.out]),Ht.out]
     unfold aC
     rw [if_pos h0]
     rfl)
    have hw:IntKind.i64.wrap ((k:Int)+1)=(k:Int)+1:=by have:=Hlt.out;rw [kA0];omega
    rw [h0]
    clear h0
    go_wp2_with fail
    go_roundw
    case rel=>exact⟨k+1,(dQ t x).2,Hlt.out,by rw [Int.natCast_add];rfl,Ht1.out,Hn.out⟩
    case measure=>
     have:=Hlt.out
     simp only [intOf]
     trace_state
     simp
     omega
   ·have Hr := kA4 (show aC c.tables E = dQ t x by
     rw [Hdr.out,j6 _ _ _ (by rw [Ht.out]),Ht.out]
     unfold aC
     rw [if_neg h0])
    have Hr0:=kA4 h0
    have r0:W4.cell? ⟨W.heap.size+1,0,none⟩=some (.slice none 0 0):=af Hres.out rfl
    have r1:W4.cell? ⟨W.heap.size+1,1,none⟩=some (.int .i64 0):=af Hres.out rfl
    have r2:W4.cell? ⟨W.heap.size+1,2,none⟩=some (.slice none 0 0):=af Hres.out rfl
    have r3:W4.cell? ⟨W.heap.size+1,3,none⟩=some (.slice none 0 0):=af Hres.out rfl
    have r4:W4.cell? ⟨W.heap.size+1,4,none⟩=some (.slice none 0 0):=af Hres.out rfl
    have fz:∀j,W4.frozen? ⟨W.heap.size+1,j,none⟩=false:=fun j=>by simp [World.frozen?,Hres.out]
    obtain⟨e1,he1⟩:∃e1,(dQ t x).1=e1:=⟨_,rfl⟩
    have He1:=kA4 he1
    rw [he1] at h0
    simp only [he1]
    clear he1
    clear Hok
    go_wp2_with fail
    have h5:=G4 Hres.out (.slice none 0 0) (.int .i64 0) (.slice none 0 0) (.slice none 0 0) (.slice none 0 0)
    refine bodyPost_ret (pJ rfl rfl h5.1 rfl) rfl ⟨_,rfl,?_,?_⟩
    ·exact Hk4.out.trans2 h5.2 fun g hg hb=>absurd hg (by omega)
    ·rw [Hr.out]
     exact He1.out ▸ uq Hr0.out
  ·obtain rfl:k=E.length:=by omega
   rw [uM] at ht
   have hfit:=HT.out E.length t (qJ _) (by rw [uM];exact ht)
   have hb:=hI.box
   have b0:wr.cell? ⟨W2.heap.size,0,none⟩=some (.slice B0 m0 j0):=af hb rfl
   have b1:wr.cell? ⟨W2.heap.size,1,none⟩=some (.int .i64 c.pol.tenants):=af hb rfl
   have b2:wr.cell? ⟨W2.heap.size,2,none⟩=some (.slice B1 m1 j1):=af hb rfl
   have b3:wr.cell? ⟨W2.heap.size,3,none⟩=some (.slice B2 m2 j2):=af hb rfl
   have b4:wr.cell? ⟨W2.heap.size,4,none⟩=some (.slice B3 c.tables.length j3):=af hb rfl
   have HI:=kA4 hI
   have Ht:=kA4 ht
   have Hfit:=kA4 hfit
   clear hI ht hfit hb hlt hk
   go_wp2_with fail
   have hres:=HI.out.res
   obtain⟨bs2,hT,_,hbs2⟩:=HI.out.top
   have hold:∀b,(F' b\/b∈bs2)->b<wr.heap.size:=fun b hb=>hb.elim (HI.out.hF b) (hT.old b)
   have harg:au wr (fun b=>F' b\/b∈bs2) (.agg (cCf { c with tables:=t })) (.agg #[.slice B0 m0 j0,.int .i64 c.pol.tenants,.slice B1 m1 j1,.slice B2 m2 j2,.slice B3 c.tables.length j3]) :=
    Fe (c:={ c with tables:=t }) (HI.out.f1.to fun b hb=>.inl hb) (HI.out.f2.to fun b hb=>.inl hb) (HI.out.f3.to fun b hb=>.inl hb) (hT.pr fun b hb=>.inr hb)
   refine ((nr { c with tables:=t } Hfit.out).calls wr (fun b=>F' b\/b∈bs2) [_] rfl (aQ harg cP) hold (eT _ _)).mono ?_
   rintro e W5 ⟨u,rfl,hk5,hp5⟩
   have hres5:W5.heap[W.heap.size+1]?=some (.cells #[.slice none 0 0,.int .i64 0,.slice none 0 0,.slice none 0 0,.slice none 0 0] 31 (0,0)):=hk5.heap hres (aF _)
   obtain⟨C0,p0,l0,C1,p1,l1,C2,p2,l2,C3,p3,l3,rfl⟩:=sH hp5
   have Hbs:=kA4 hbs2
   have Hold:=kA4 hold
   have Hk5:=kA4 hk5
   have Hp5:=kA4 hp5
   have Hres5:=kA4 hres5
   have r0:W5.cell? ⟨W.heap.size+1,0,none⟩=some (.slice none 0 0):=af hres5 rfl
   have r1:W5.cell? ⟨W.heap.size+1,1,none⟩=some (.int .i64 0):=af hres5 rfl
   have r2:W5.cell? ⟨W.heap.size+1,2,none⟩=some (.slice none 0 0):=af hres5 rfl
   have r3:W5.cell? ⟨W.heap.size+1,3,none⟩=some (.slice none 0 0):=af hres5 rfl
   have r4:W5.cell? ⟨W.heap.size+1,4,none⟩=some (.slice none 0 0):=af hres5 rfl
   have fz:∀j,W5.frozen? ⟨W.heap.size+1,j,none⟩=false:=fun j=>by simp [World.frozen?,hres5]
   clear hres hT hbs2 hold harg hk5 hp5 hres5 b0 b1 b2 b3 b4
   go_wp2_with fail
   have h5:=G4 Hres5.out (.slice C0 p0 l0) (.int .i64 c.pol.tenants) (.slice C1 p1 l1) (.slice C2 p2 l2) (.slice C3 p3 l3)
   refine bodyPost_ret (pJ rfl rfl h5.1 rfl) rfl ⟨_,rfl,?_,?_⟩
   ·exact (HI.out.kp.trans Hk5.out).trans2 h5.2 fun g hg hb=>absurd hg (by omega)
   ·rw [Ht.out]
    refine yg rfl ?_
    have hsz:=HI.out.kp.size
    have hr:=(qI.1 HI.out.res).1
    have h5s:=h5.2.size
    have h5k:=Hk5.out.size
    have hcase:∀b,((F' b\/b∈bs2)\/(wr.heap.size<=b/\b<W5.heap.size))->b<W5.heap.size/\b≠W.heap.size+1/\(F b\/W.heap.size<=b):=fun b hb=>by
     rcases hb with (hb|hb)|hb
     ·have h1:=HI.out.hF b hb
      rcases HFn.out b hb with h|h
      ·have:=HF.out b h
       exact⟨by omega,by omega,.inl h⟩
      ·exact⟨by omega,by omega,.inr (by omega)⟩
     ·have h1:=Hold.out b (.inr hb)
      have h2:=Hbs.out b hb
      exact⟨by omega,h2.2.2.1,.inr h2.1⟩
     ·exact⟨hb.2,by omega,.inr (by omega)⟩
    refine Hp5.out.keep (fun b hb _=>h5.2.block b (hcase b hb).1 (hcase b hb).2.1) fun b hb h2=>?_
    exact (hcase b hb).2.2.imp id fun h=>⟨h,by have:=(hcase b hb).1;omega⟩
theorem xv (c:Cf)(E:List Ed)(hf:c.Fit)(hE:∀(k:Nat) (x:Ed) (t:cz),E[k]?=some x->aC c.tables (E.take k)=(0,t)->rq x t)(hT:∀k t,k<=E.length->aC c.tables (E.take k)=(0,t)->Cf.Fit { c with tables:=t }):aa Tryz.prog 31 [.agg (cCf c),.sl (E.map cEd)] (cR c (aC c.tables E)) :=
 aa.mk2 ⟨_,_,Tryz.func31,rfl,rfl⟩ fun W F v u hv hu hF=>Cu c E hf hE hT W F v u hv hu hF
def Cf.put (c:Cf)(t:cz):Cf:=⟨c.topo,c.pol,t⟩
def il (c:Cf)(E:List Ed):Int:=if (aC c.tables E).1=0 then (c.put (aC c.tables E).2).sound else (aC c.tables E).1
theorem kM {c:Cf}{E:List Ed}(h:(aC c.tables E).1=0):cR c (aC c.tables E) = .tup [.agg (cCf (c.put (aC c.tables E).2)),.i .i64 0]:=by
 unfold cR
 rw [if_pos h,h]
 rfl
theorem yU {c:Cf}{E:List Ed}(h:¬(aC c.tables E).1=0):cR c (aC c.tables E) = .tup [.agg [.sl [],.i .i64 0,.sl [],.sl [],.sl []],.i .i64 (aC c.tables E).1]:=by
 unfold cR
 rw [if_neg h]
theorem Bq (c:Cf)(V:Nat)(k:Kn)(E:List Ed)(hA:aa Tryz.prog 31 [.agg (cCf c),.sl (E.map cEd)] (cR c (aC c.tables E)))(h:il c E≠0)(q:Nat->Option (Nat × Nat)) :
  aj Tryz.prog 14 [.own 300 0 0,.sl (E.map cEd)] (gl q [300,301] (lvB c V k)) (.agg (cVd (vdE 3 (il c E)))) (gl q [300,301] (lvB c V k)):=by
 refine aj.of_body Tryz.func14 rfl (by kernel_rfl) rfl rfl ?_
 unfold il at h ⊢
 by_cases h0:(aC c.tables E).1=0
 ·rw [kM h0] at hA
  rw [if_pos h0] at h ⊢
  have hS:=dR (c.put (aC c.tables E).2)
  generalize c.put (aC c.tables E).2=c1 at hA hS h ⊢
  rw [lvB,lvC]
  generalize dL (bP (cG c))=rt
  generalize c1.sound=e at hS h ⊢
  have h1:(!decide (e=0))=true:=by rw [qC h];rfl
  refine jA ?_
  refine AW.condF rfl ?_
  refine jA ?_
  refine jm hA ?_;refine jH ?_
  refine AW.condT rfl ?_
  refine jA ?_
  refine jc hS ?_
  refine jH ?_
  refine AW.condT (congrArg AV.b h1) ?_
  refine jA ?_
  exact AW.ret (dw ae rfl rfl (Rm.aggL rfl ⟨⟨Rm.is rfl rfl,rfl⟩,⟨Rm.is rfl rfl,rfl⟩,⟨Rm.is rfl rfl,rfl⟩,⟨Rm.is rfl rfl,rfl⟩,⟨Rm.is rfl rfl,rfl⟩,⟨Rm.is rfl rfl,rfl⟩,⟨Rm.is rfl rfl,rfl⟩,⟨Rm.is rfl rfl,rfl⟩,⟨Rm.is rfl rfl,rfl⟩,⟨Rm.is rfl rfl,rfl⟩,⟨Rm.nil,rfl⟩,trivial⟩) ⟨.ghost rfl rfl rfl,.ghost rfl rfl rfl,.boxL rfl jQ rfl,.obj rfl rfl,trivial⟩)
 ·rw [yU h0] at hA
  rw [if_neg h0] at h ⊢
  rw [lvB,lvC]
  generalize dL (bP (cG c))=rt
  generalize (aC c.tables E).1=e at hA h ⊢
  have h1:(!decide (e=0))=true:=by rw [qC h];rfl
  have h2:decide (e=0)=false:=qC h
  refine jA ?_
  refine AW.condF rfl ?_
  refine jA ?_
  refine jm hA ?_;refine jH ?_
  refine AW.condF (congrArg AV.b h2) ?_
  refine jA ?_
  refine AW.condT (congrArg AV.b h1) ?_
  refine jA ?_
  exact AW.ret (dw ae rfl rfl (Rm.aggL rfl ⟨⟨Rm.is rfl rfl,rfl⟩,⟨Rm.is rfl rfl,rfl⟩,⟨Rm.is rfl rfl,rfl⟩,⟨Rm.is rfl rfl,rfl⟩,⟨Rm.is rfl rfl,rfl⟩,⟨Rm.is rfl rfl,rfl⟩,⟨Rm.is rfl rfl,rfl⟩,⟨Rm.is rfl rfl,rfl⟩,⟨Rm.is rfl rfl,rfl⟩,⟨Rm.is rfl rfl,rfl⟩,⟨Rm.nil,rfl⟩,trivial⟩) ⟨.ghost rfl rfl rfl,.ghost rfl rfl rfl,.boxL rfl jQ rfl,.obj rfl rfl,trivial⟩)
theorem Aw (c:Cf)(V:Nat)(k:Kn)(E:List Ed)(hA:aa Tryz.prog 31 [.agg (cCf c),.sl (E.map cEd)] (cR c (aC c.tables E)))(h:il c E=0)(c1:Cf)(hc1:c1=c.put (aC c.tables E).2)(hL:c1.Lens)(hV:V<=255)(hk:gM k)(hn:k.next<=100000000)(he:k.es.length<=500)
  (ht:(aU c1 V k).2≠0) (q:Nat->Option (Nat × Nat)) :
  aj Tryz.prog 14 [.own 300 0 0,.sl (E.map cEd)] (gl q [300,301] (lvB c V k)) (.agg (cVd (vdE 4 (aU c1 V k).2))) (gl q [300,301] (lvB c V k)):=by
 refine aj.of_body Tryz.func14 rfl (by kernel_rfl) rfl rfl ?_
 unfold il at h
 have h0:(aC c.tables E).1=0:=by
  split at h
  ·assumption
  ·assumption
 rw [if_pos h0,<- hc1] at h
 rw [kM h0,<- hc1] at hA
 have hS:=dR c1
 rw [h] at hS
 have hT:=uk c c1 V k h hL hV hk hn he
 have hT2:∀q,aj Tryz.prog 33 [.own 300 0 0,.agg (cCf c1)] (gl q [300,301] (lvB c V k)) (.tup [.agg [.raw (.map none),.i .i64 0,.raw (.slice none 0 0)],.i .i64 (aU c1 V k).2]) (gl q [300,301] (lvB c V k)):=fun q=>by
  have:=hT q
  rw [knT,knB,qC ht,cond_false,cond_false] at this
  exact this
 clear hT
 unfold lvB lvC at hT2 ⊢
 generalize dL (bP (cG c))=rt at hT2 ⊢
 generalize (aU c1 V k).2=e at hT2 ht ⊢
 have h1:(!decide (e=0))=true:=by rw [qC ht];rfl
 refine jA ?_
 refine AW.condF rfl ?_
 refine jA ?_
 refine jm hA ?_;refine jH ?_
 refine AW.condT rfl ?_
 refine jA ?_
 refine jc hS ?_
 refine jH ?_
 refine AW.condF rfl ?_
 refine jA ?_
 refine RG.ownN [(300,300),(301,301)] [(300,300),(301,301)] hT2 rfl rfl rfl rfl rfl rfl rfl rfl rfl rfl ?_
 refine jH ?_
 refine AW.condT (congrArg AV.b h1) ?_
 refine jA ?_
 exact AW.ret (dw ae rfl rfl (Rm.aggL rfl ⟨⟨Rm.is rfl rfl,rfl⟩,⟨Rm.is rfl rfl,rfl⟩,⟨Rm.is rfl rfl,rfl⟩,⟨Rm.is rfl rfl,rfl⟩,⟨Rm.is rfl rfl,rfl⟩,⟨Rm.is rfl rfl,rfl⟩,⟨Rm.is rfl rfl,rfl⟩,⟨Rm.is rfl rfl,rfl⟩,⟨Rm.is rfl rfl,rfl⟩,⟨Rm.is rfl rfl,rfl⟩,⟨Rm.nil,rfl⟩,trivial⟩) ⟨.ghost rfl rfl rfl,.ghost rfl rfl rfl,.boxL rfl jQ rfl,.obj rfl rfl,trivial⟩)
theorem wV (c:Cf)(V:Nat)(k:Kn)(E:List Ed)(hA:aa Tryz.prog 31 [.agg (cCf c),.sl (E.map cEd)] (cR c (aC c.tables E)))(h:il c E=0)(c1:Cf)(hc1:c1=c.put (aC c.tables E).2)(hL:c1.Lens)(hV:V<=255)(hk:gM k)(hn:k.next<=100000000)(he:k.es.length<=500)
  (ht:(aU c1 V k).2=0) (hv:(dg c1 (V:Nat) (aU c1 V k).1.ats).kind≠1) (q:Nat->Option (Nat × Nat)) :
  aj Tryz.prog 14 [.own 300 0 0,.sl (E.map cEd)] (gl q [300,301] (lvB c V k)) (.agg (cVd (dg c1 (V:Nat) (aU c1 V k).1.ats))) (gl q [300,301] (lvB c V k)):=by
 refine aj.of_body Tryz.func14 rfl (by kernel_rfl) rfl rfl ?_
 unfold il at h
 have h0:(aC c.tables E).1=0:=by
  split at h
  ·assumption
  ·assumption
 rw [if_pos h0,<- hc1] at h
 rw [kM h0,<- hc1] at hA
 have hS:=dR c1
 rw [h] at hS
 have hT:=uk c c1 V k h hL hV hk hn he
 have hT2:∀q,aj Tryz.prog 33 [.own 300 0 0,.agg (cCf c1)] (gl q [300,301] (lvB c V k)) (.tup [knR 302 (aU c1 V k).1,.i .i64 0]) (gl q [300,301] ((302,⟨0,some (bH (aU c1 V k).1.es (aU c1 V k).1.clk)⟩)::lvB c V k)):=fun q=>by
  have:=hT q
  rw [knT,knB,qE ht,cond_true,cond_true] at this
  exact this
 clear hT
 have hO:=tL c1 (V:Nat) (aU c1 V k).1.ats (fun h=>ll (dH h) hL)
 unfold lvB lvC at hT2 ⊢
 generalize dL (bP (cG c))=rt at hT2 ⊢
 generalize (aU c1 V k).1=k1 at hT2 hO hv ⊢
 generalize dg c1 (V:Nat) k1.ats=v at hO hv ⊢
 have h1:decide (v.kind=1)=false:=qC hv
 refine jA ?_
 refine AW.condF rfl ?_
 refine jA ?_
 refine jm hA ?_;refine jH ?_
 refine AW.condT rfl ?_
 refine jA ?_
 refine jc hS ?_
 refine jH ?_
 refine AW.condF rfl ?_
 refine jA ?_
 refine RG.ownN [(300,300),(301,301)] [(302,302),(300,300),(301,301)] hT2 rfl rfl rfl rfl rfl rfl rfl rfl rfl rfl ?_
 refine jH ?_
 refine AW.condF rfl ?_
 refine jA ?_
 refine jm hO ?_
 refine jH ?_
 refine AW.condF (congrArg AV.b h1) ?_
 refine jA ?_
 exact AW.ret (dw ae rfl rfl (Rm.aggL rfl ⟨⟨Rm.is rfl rfl,rfl⟩,⟨Rm.is rfl rfl,rfl⟩,⟨Rm.is rfl rfl,rfl⟩,⟨Rm.is rfl rfl,rfl⟩,⟨Rm.is rfl rfl,rfl⟩,⟨Rm.is rfl rfl,rfl⟩,⟨Rm.is rfl rfl,rfl⟩,⟨Rm.is rfl rfl,rfl⟩,⟨Rm.is rfl rfl,rfl⟩,⟨Rm.is rfl rfl,rfl⟩,⟨Rm.is rfl rfl,rfl⟩,trivial⟩) ⟨.ghost rfl rfl rfl,.ghost rfl rfl rfl,.boxL rfl jQ rfl,.obj rfl rfl,trivial⟩)
theorem rL (c:Cf)(V:Nat)(k:Kn)(E:List Ed)(hA:aa Tryz.prog 31 [.agg (cCf c),.sl (E.map cEd)] (cR c (aC c.tables E)))(h:il c E=0)(c1:Cf)(hc1:c1=c.put (aC c.tables E).2)(hL:c1.Lens)(hV:V<=255)(hk:gM k)(hn:k.next<=100000000)(he:k.es.length<=500)
  (ht:(aU c1 V k).2=0) (hv:(dg c1 (V:Nat) (aU c1 V k).1.ats).kind=1) (q:Nat->Option (Nat × Nat)) :
  aj Tryz.prog 14 [.own 300 0 0,.sl (E.map cEd)] (gl q [300] (lvB c V k)) (.agg (cVd (dg c1 (V:Nat) (aU c1 V k).1.ats))) (gl q [300] [(300,⟨0,some (.box 96 (lvC 302 c1 V (aU c1 V k).1))⟩),(302,⟨0,some (bH (aU c1 V k).1.es (aU c1 V k).1.clk)⟩)]):=by
 refine aj.of_body Tryz.func14 rfl (by kernel_rfl) rfl rfl ?_
 unfold il at h
 have h0:(aC c.tables E).1=0:=by
  split at h
  ·assumption
  ·assumption
 rw [if_pos h0,<- hc1] at h
 rw [kM h0,<- hc1] at hA
 have hS:=dR c1
 rw [h] at hS
 have hT:=uk c c1 V k h hL hV hk hn he
 have hT2:∀q,aj Tryz.prog 33 [.own 300 0 0,.agg (cCf c1)] (gl q [300,301] (lvB c V k)) (.tup [knR 302 (aU c1 V k).1,.i .i64 0]) (gl q [300,301] ((302,⟨0,some (bH (aU c1 V k).1.es (aU c1 V k).1.clk)⟩)::lvB c V k)):=fun q=>by
  have:=hT q
  rw [knT,knB,qE ht,cond_true,cond_true] at this
  exact this
 clear hT
 have hO:=tL c1 (V:Nat) (aU c1 V k).1.ats (fun h=>ll (dH h) hL)
 have hI:=tv c1 h hL
 unfold lvB lvC at hT2 ⊢
 generalize dL (bP (cG c))=rt at hT2 ⊢
 generalize dL (bP (cG c1))=rt1 at hI ⊢
 generalize (aU c1 V k).1=k1 at hT2 hO hv ⊢
 generalize dg c1 (V:Nat) k1.ats=v at hO hv ⊢
 have h1:decide (v.kind=1)=true:=qE hv
 refine jA ?_
 refine AW.condF rfl ?_
 refine jA ?_
 refine jm hA ?_;refine jH ?_
 refine AW.condT rfl ?_
 refine jA ?_
 refine jc hS ?_
 refine jH ?_
 refine AW.condF rfl ?_
 refine jA ?_
 refine RG.ownN [(300,300),(301,301)] [(302,302),(300,300),(301,301)] hT2 rfl rfl rfl rfl rfl rfl rfl rfl rfl rfl ?_
 refine jH ?_
 refine AW.condF rfl ?_
 refine jA ?_
 refine jm hO ?_
 refine jH ?_
 refine AW.condT (congrArg AV.b h1) ?_
 refine jA ?_
 refine jm hI ?_
 refine jH ?_
 exact AW.ret (dw ae rfl rfl (Rm.aggL rfl ⟨⟨Rm.is rfl rfl,rfl⟩,⟨Rm.is rfl rfl,rfl⟩,⟨Rm.is rfl rfl,rfl⟩,⟨Rm.is rfl rfl,rfl⟩,⟨Rm.is rfl rfl,rfl⟩,⟨Rm.is rfl rfl,rfl⟩,⟨Rm.is rfl rfl,rfl⟩,⟨Rm.is rfl rfl,rfl⟩,⟨Rm.is rfl rfl,rfl⟩,⟨Rm.is rfl rfl,rfl⟩,⟨Rm.is rfl rfl,rfl⟩,trivial⟩) ⟨.ghost rfl rfl rfl,.boxL rfl jQ rfl,.obj rfl rfl,trivial⟩)
theorem zK:aa Tryz.prog 28 [] (.agg (cCf br)):=by
 refine jb Tryz.func28 ?_
 refine jB ?_
 refine wF ?_;refine wH rfl ?_;refine jB ?_
 refine wF ?_;refine wH rfl ?_;refine jB ?_
 refine wF ?_;refine wH rfl ?_;refine jB ?_
 refine wF ?_;refine wH rfl ?_;refine jB ?_
 refine wF ?_;refine wH rfl ?_;refine jB ?_
 refine AW.text ?_
 refine RG.runG ae 0 5 rfl ?_
 refine RG.opS rfl (fN (id:=301) rfl (tk rfl) rfl (tk rfl) rfl (by decide) rfl rfl rfl rfl rfl) rfl ?_
 refine RG.runG ae 0 5 rfl ?_
 refine RG.opS rfl (fN (id:=302) rfl (tk rfl) rfl (tk rfl) rfl (by decide) rfl rfl rfl rfl rfl) rfl ?_
 refine RG.opS rfl (fN (id:=300) rfl (tk rfl) rfl (tk rfl) rfl (by decide) rfl rfl rfl rfl rfl) rfl ?_
 refine zH ?_
 rfl
def AX:List Ed:=[⟨0,0,1,true,Rl.zero⟩]
def AZ:List Ed:=[⟨0,0,0,true,Rl.zero⟩]
def oz:Cf:=⟨⟨qq⟩,⟨1,[],[]⟩,[[sB.take 1],[F6]]⟩
def jt:Cf:=⟨⟨qq⟩,⟨1,[],[]⟩,[[sB.drop 1],[F6]]⟩
theorem G1:aC br.tables AX=(0,oz.tables):=by kernel_rfl
theorem G7:aC br.tables AZ=(0,jt.tables):=by kernel_rfl
theorem H9:dJ br (0:Nat)=vdE 1 0:=by kernel_rfl
theorem IC:(aU oz 0 (aO (bC br 0)).1).2=0:=by kernel_rfl
theorem IB:(aU jt 0 (aO (bC br 0)).1).2=0:=by kernel_rfl
theorem GV:(dg oz (0:Nat) (aU oz 0 (aO (bC br 0)).1).1.ats).kind=2:=by kernel_rfl
theorem Ix:(dg oz (0:Nat) (aU oz 0 (aO (bC br 0)).1).1.ats).why=1:=by kernel_rfl
theorem Hj:(dg jt (0:Nat) (aU jt 0 (aO (bC br 0)).1).1.ats).kind=1:=by kernel_rfl
theorem Iz:il br AX=0:=by kernel_rfl
theorem Iy:il br AZ=0:=by kernel_rfl
theorem It:Nat.ble (bC br 0).length 500=true:=by kernel_rfl
def Dq (x:Cb)(l:List (Nat × Cb)):List Int:=(l.filter fun e=>x.sound && e.2.meets x).map fun e=>((e.1:Nat):Int)
theorem Dr (l:List Rl):(bP l).Pairwise fun a b=>a.1<b.1:=by
 unfold bP
 rw [List.pairwise_map]
 refine List.pairwise_iff_getElem.2 fun i j hi hj hij=>?_
 simp only [List.getElem_zipIdx]
 omega
theorem Gm (x:Cb)(l:List Rl)(hx:x.sound=true)(hs:∀r∈l,r.mat.sound=true):ovL x (bP l)=Dq x (bP l):=by
 unfold ovL Dq
 have hf:((bP l).filter fun e=>x.sound && e.2.meets x)=(bP l).filter fun e=>gQ x 128 e.2:=by
  refine List.filter_congr fun e he=>?_
  have hm:e.2.sound=true:=by
   unfold bP at he
   obtain⟨y,hy,rfl⟩:=vI.1 he
   have:=List.mem_zipIdx hy
   simp only
   rw [this.2.2]
   exact hs _ (vR _)
  rw [uz x e.2 hx hm,hx]
  rfl
 rw [hf]
 have hp:=(List.mergeSort_perm ((ec x (gk (bP l)) 128).map fun n=>((n:Nat):Int)) fun a b=>decide (a<=b)).trans ((sV x (bP l)).map fun n=>((n:Nat):Int))
 rw [List.map_map] at hp
 have h1:=List.pairwise_mergeSort (le:=fun (a b:Int)=>decide (a<=b)) (fun a b c h1 h2=>by simp only [vM] at *;omega) (fun a b=>by simp only [Bool.or_eq_true,vM];omega) ((ec x (gk (bP l)) 128).map fun n=>((n:Nat):Int))
 have h2:(((bP l).filter fun e=>gQ x 128 e.2).map ((fun n=>((n:Nat):Int)) ∘ fun e=>e.1)).Pairwise fun a b=>decide (a<=b)=true:=by
  rw [List.pairwise_map]
  refine ((Dr l).filter _).imp fun {a b} h=>?_
  simp only [Function.comp,vM]
  omega
 refine hp.eq_of_pairwise (le:=fun a b=>decide (a<=b)=true) (fun a b _ _ g1 g2=>by simp only [vM] at *;omega) h1 h2
theorem Cc (x:Cb)(l:List Rl)(hs:∀r∈l,r.mat.sound=true):mh x (bP l)=Dq x (bP l):=by
 unfold mh
 cases hx:x.sound
 ·unfold Dq
  simp [hx]
 ·exact Gm x l hx hs
theorem Id:jt.sound=0:=by kernel_rfl
theorem IE:(mh Cb.zero (bP (cG jt))).length=3:=by
 rw [Cc _ _ (pK Id)]
 kernel_rfl
inductive r6 (l:List Nat)(σ σ':Sto):aE->aE->Prop where
 |rn {b b':aE} (h:RnB σ σ' b b'):r6 l σ σ' b b'
 |box {t:TypeId} {cs cs':List AV} (hl:cs'.length=cs.length) (h1:∀(j:Nat) (x:AV),cs'[j]?=some x->x.one=true) (h:∀(j:Nat) (x x':AV),cs[j]?=some x->cs'[j]?=some x'->RnF l σ σ' x x'):r6 l σ σ' (.box t cs) (.box t cs')
 |nest {t:TypeId} {cs cs':List AV} (hl:cs'.length=cs.length) (h1:∀(j:Nat) (x:AV),cs'[j]?=some x->x.one=true) (h:∀(j:Nat) (x x':AV),cs[j]?=some x->cs'[j]?=some x'->RnF l σ σ' x x'):r6 l σ σ' (.nest t cs) (.nest t cs')
theorem r6.rel {W:World}{F:Nat->Prop}{μ:Mu}{l:List Nat}{σ σ':Sto}(hi:Inv W F μ σ){bd bd':aE}(hR:r6 l σ σ' bd bd'){p:Option (Nat × Nat)}(hB:aM W F μ σ p bd):aM W (fun b=>F b\/Beh μ σ l b) μ σ' p bd':=by
 have up:∀{σ:Sto} {bd:aE},aM W F μ σ p bd->aM W (fun b=>F b\/Beh μ σ' l b\/Beh μ σ l b) μ σ p bd->True:=fun _ _=>trivial
 cases hR with
 |rn hR=>
  have h:=hR.rel hB
  cases bd' with
  |box t cs=>
   obtain⟨b,c,vs,h1,h2,h3,h4⟩:=h
   exact⟨b,c,vs,h1,h2,h3,fun j x v hj hv=>⟨(h4 j x v hj hv).1,(h4 j x v hj hv).2.toF fun b hb=>.inl hb⟩⟩
  |row t m els=>
   rcases h with h|⟨b,cap,cur,h1,h2,h3,h4,h5,h6,h7⟩
   ·exact .inl h
   ·exact .inr ⟨b,cap,cur,h1,h2,h3,h4,h5,h6,fun k cs j x hk hj=>by obtain⟨q1,v,q2,q3⟩:=h7 k cs j x hk hj;exact⟨q1,v,q2,q3.to fun b hb=>.inl hb⟩⟩
  |ghost id ep q=>exact h
  |obj o=>exact h
  |nest t els=>
   rcases h with h|⟨b,cap,cur,h1,h2,h3,h4,h5,h6⟩
   ·exact .inl h
   ·exact .inr ⟨b,cap,cur,h1,h2,h3,h4,h5,fun k x hk=>by obtain⟨q1,v,q2,q3⟩:=h6 k x hk;exact⟨q1,v,q2,q3.toF fun b hb=>.inl hb⟩⟩
 |@box t cs cs' hl h1 hrn=>
  obtain⟨b,c,vs,hm,hw,hlv,hv⟩:=hB
  refine⟨b,c,vs,hm,hw,by rw [hlv,hl],fun j x' v hj hvj=>⟨h1 j x' hj,?_⟩⟩
  obtain⟨x,hxj⟩:∃x,cs[j]?=some x:=⟨_,qA (by rw [<- hl];exact (qD.1 hj).1)⟩
  exact (hrn j x x' hxj hj).rel hi (hv j x v hxj hvj).2
 |@nest t els els' hl h1 hrn=>
  rcases hB with⟨hn,rfl⟩|⟨b,cap,cur,hp,hh,q1,q2,q3,q4⟩
  ·exact .inl ⟨hn,uD.1 hl⟩
  ·refine .inr ⟨b,cap,cur,hp,hh,by omega,q2,q3,fun k x' hk=>⟨h1 k x' hk,?_⟩⟩
   obtain⟨x,hx⟩:∃x,els[k]?=some x:=⟨_,qA (by rw [<- hl];exact (qD.1 hk).1)⟩
   obtain⟨_,v,hv,hr'⟩:=q4 k x hx
   exact⟨v,hv,(hrn k x x' hx hk).rel hi hr'⟩
theorem n9 {W:World}{F:Nat -> Prop}{μ:Mu}{σ σ':Sto}(hi:Inv W F μ σ){l:List Nat}(hB:∀ id bd',(σ' id).body = some bd' -> ∃ bd,(σ id).body = some bd /\ r6 l σ σ' bd bd')(hd:∀ i ∈ l,(σ' i).body = none) :
  Inv W (fun b=>F b\/Beh μ σ l b) μ σ'/\Stq W F μ σ W (fun b=>F b\/Beh μ σ l b) μ σ':=by
 have own:∀x,Own μ σ' x->Own μ σ x/\¬Beh μ σ l x:=fun x ⟨id,ep,bd,c,h1,h2⟩=>by
  obtain⟨bd0,h3,_⟩:=hB id bd (by rw [h1])
  refine⟨⟨id,(σ id).ep,bd0,c,by rw [<- h3],h2⟩,fun ⟨id',g1,ep',bd',c',g2,g3⟩=>?_⟩
  have:=hi.inj id id' x c c' (by rw [h3];rfl) (by rw [g2];rfl) h2 g3
  subst this
  have:=hd _ g1
  rw [h1] at this
  cases this
 refine⟨⟨fun id ep bd hb=>?_,fun x hx=>⟨(hi.apart x (own x hx).1).1,fun hF=>hF.elim (hi.apart x (own x hx).1).2 (own x hx).2⟩,fun id id' x c c' h1 h2=>?_,fun x hx=>hx.elim (hi.old x) fun ⟨id,_,ep,bd,c,h1,h2⟩=>(hi.apart x ⟨id,ep,bd,c,h1,h2⟩).1,hi.lay.go (fun _ h=>.inl h) fun _ _=>rfl⟩,
  Kp.refl _ _,fun _ h=>.inl h,fun x hx=>hx.imp (fun h=>h) fun ⟨id,_,ep,bd,c,h1,h2⟩=>.inl ⟨id,ep,bd,c,h1,h2⟩,fun x hx=>.inl (own x hx).1⟩
 ·obtain⟨bd0,h3,hR⟩:=hB id bd (by rw [hb])
  exact hR.rel hi (hi.body id (σ id).ep bd0 (by rw [<- h3]))
 ·have g:∀ id,(σ' id).body.isSome = true -> (σ id).body.isSome = true := fun id hb=>by
   obtain⟨bd',e⟩:=vY.1 hb
   obtain⟨bd,e',_⟩:=hB id bd' e
   rw [e'];rfl
  exact hi.inj id id' x c c' (g id h1) (g id' h2)
theorem FzL.mk {σ:Sto}{ys:List AV}:∀{xs:List AV},ys.length=xs.length->(∀(j:Nat) (x y:AV),xs[j]?=some x->ys[j]?=some y->∃l,Fz σ x y l/\∀i∈l,1000<=i)->∃l,FzL σ xs ys l/\∀i∈l,1000<=i:=by
 induction ys with
 |nil=>
  intro xs hl _
  obtain rfl:xs=[]:=uD.1 hl.symm
  exact⟨[],.nil,fun i h=>by cases h⟩
 |cons y ys ih=>
  intro xs hl h
  cases xs with
  |nil=>cases hl
  |cons x xs=>
   obtain⟨l1,g1,g2⟩:=h 0 x y rfl rfl
   obtain⟨l2,g3,g4⟩:=ih (xs:=xs) (by simpa using hl) fun j a b ha hb=>h (j+1) a b (by simpa using ha) (by simpa using hb)
   refine⟨l1++l2,.cons g1 g3,fun i hi=>?_⟩
   rcases vB.1 hi with h|h
   ·exact g2 i h
   ·exact g4 i h
theorem nt {c:Cf}(h:(c.tables.all fun t=>t.all fun l=>Nat.ble l.length 10)=true):c.Lens:=by
 intro t ht l hl
 have:=qW (qV.1 (qV.1 h t ht) l hl)
 rw [bK]
 omega
theorem p6 {c:Cf}(h1:Nat.ble c.topo.ports.length 10=true)(h2:(c.topo.ports.all fun r=>Nat.ble r.length 10)=true)(h3:Nat.ble c.pol.peers.length 10=true)(h4:Nat.ble c.pol.ways.length 10=true)(h5:Nat.ble c.tables.length 10=true)(h6:(c.tables.all fun t=>Nat.ble t.length 10 && t.all fun l=>Nat.ble l.length 10)=true):c.Fit:=by
 have a1:=qW h1
 have a3:=qW h3
 have a4:=qW h4
 have a5:=qW h5
 have hb:=bK
 refine⟨by omega,fun r hr=>?_,by omega,by omega,by omega,fun t ht=>?_,fun t ht l hl=>?_⟩
 ·have:=qW (qV.1 h2 r hr);omega
 ·have:=qV.1 h6 t ht
  rw [qQ] at this
  have:=qW this.1;omega
 ·have:=qV.1 h6 t ht
  rw [qQ] at this
  have:=qW (qV.1 this.2 l hl);omega
theorem Aa:br.Fit:=p6 rfl rfl rfl rfl rfl rfl
theorem If:oz.Fit:=p6 rfl rfl rfl rfl rfl rfl
theorem EZ:jt.Fit:=p6 rfl rfl rfl rfl rfl rfl
theorem aj.frz {P:Program}{f:FuncId}{args args':List AV}{b0 b0' b1:List (Nat × SB)}{r:AV}(l:List Nat)(h:aj P f args' b0' r b1)(hl:args'.length = args.length)(ha:∀ (j:Nat) (x x':AV),args[j]? = some x -> args'[j]? = some x' -> RnF l (lkB b0) (lkB b0') x x')
  (hB:WkB ⟨fun _=>.any,lkB b0⟩ (lkB b0') b0') (hd:(l.all fun i=>(lkB b0' i).body.isNone)=true):aj P f args b0 r b1:=by
 refine⟨h.fn,fun W F μ vs hv hr hi=>?_⟩
 have hb:∀id bd',(lkB b0' id).body=some bd'->∃bd,(lkB b0 id).body=some bd/\r6 l (lkB b0) (lkB b0') bd bd':=fun id bd' e=>by
  obtain⟨bd,h1,h2⟩:=fm hB id bd' e
  exact⟨bd,h1,.rn h2⟩
 obtain⟨hi',hs⟩:=n9 hi hb fun i hi2=>by simpa using qV.1 hd i hi2
 refine (h.calls W _ μ vs (hv.trans hl.symm) (fun j x' v hx' hvj=>?_) hi').mono ?_
 ·obtain⟨x,hx⟩:∃x,args[j]?=some x:=⟨_,qA (by rw [<- hl];exact (qD.1 hx').1)⟩
  exact (ha j x x' hx hx').rel hi (hr j x v hx hvj)
 ·rintro e W' ⟨v,F',μ',e1,e2,e3,e4⟩
  exact⟨v,F',μ',e1,e2,hs.trans e3,e4⟩
def edB (E:List Ed):List (Nat × SB):=[(200,⟨0,some (.row 63 16 (E.map cEd))⟩)]
theorem zp {c:Cf}{V:Nat}{k:Kn}{x:Ed}{q:Nat->Option (Nat × Nat)}{r:AV}{b1:List (Nat × SB)}(h:aj Tryz.prog 14 [.own 300 0 0,.sl ([x].map cEd)] (gl q [300,301] (lvB c V k)) r b1) :
  aj Tryz.prog 14 [.own 300 0 0,.row 200 0 0 1] (gl q [300,301] (lvB c V k++edB [x])) r b1:=by
 unfold lvB lvC at h ⊢
 generalize dL (bP (cG c))=rt at h ⊢
 refine aj.frz [200] h rfl (fun j y y' hy hy'=>?_) ⟨.ghost rfl rfl rfl,.ghost rfl rfl rfl,.boxL rfl jQ rfl,.obj rfl rfl,trivial⟩ rfl
 match j,hy,hy' with
 |0,hy,hy'=>
  obtain rfl:=qB hy
  obtain rfl:=qB hy'
  exact .rn (Rn.ownIs rfl rfl rfl)
 |1,hy,hy'=>
  obtain rfl:=qB hy
  obtain rfl:=qB hy'
  exact .fzA rfl rfl rfl
theorem yl {c:Cf}{V:Nat}{k:Kn}{x:Ed}{q:Nat->Option (Nat × Nat)}{r:AV}{b1:List (Nat × SB)}(h:aj Tryz.prog 14 [.own 300 0 0,.sl ([x].map cEd)] (gl q [300] (lvB c V k)) r b1) :
  aj Tryz.prog 14 [.own 300 0 0,.row 200 0 0 1] (gl q [300] (lvB c V k++edB [x])) r b1:=by
 unfold lvB lvC at h ⊢
 generalize dL (bP (cG c))=rt at h ⊢
 refine aj.frz [200] h rfl (fun j y y' hy hy'=>?_) ⟨.ghost rfl rfl rfl,.boxL rfl jQ rfl,.obj rfl rfl,trivial⟩ rfl
 match j,hy,hy' with
 |0,hy,hy'=>
  obtain rfl:=qB hy
  obtain rfl:=qB hy'
  exact .rn (Rn.ownIs rfl rfl rfl)
 |1,hy,hy'=>
  obtain rfl:=qB hy
  obtain rfl:=qB hy'
  exact .fzA rfl rfl rfl
theorem EF:gM (aO (bC br 0)).1/\(aO (bC br 0)).1.next<=100000000/\(aO (bC br 0)).1.es.length<=500:=by
 have hl:(bC br 0).length<=500:=qW It
 have h:=(lF (gG ub 0) (et br 0) hl).2 (by kernel_rfl)
 exact⟨h.ok,by show (bC br 0).length<=_;omega,by have:=h.len;omega⟩
theorem wY (sw tab at_:Int)(t:cz)(l:List Rl)(h:kq t ⟨sw,tab,at_,true,Rl.zero⟩=some l)(h0:0<=at_)(h1:at_<l.length):rq ⟨sw,tab,at_,true,Rl.zero⟩ t:=AG _ _ _ h h0 h1 rfl rfl
theorem Aq {c:Cf}{x:Ed}{t:cz}(hf:c.Fit)(hx:rq x c.tables)(ha:aC c.tables [x]=(0,t))(ht:Cf.Fit { c with tables:=t }):aa Tryz.prog 31 [.agg (cCf c),.sl ([x].map cEd)] (cR c (aC c.tables [x])) :=
 xv c [x] hf (fun k y u hy hu=>by
  match k,hy with
  |0,hy=>
   obtain rfl:=qB hy
   obtain rfl:c.tables=u:=congrArg Prod.snd hu
   exact hx) fun k u hk hu=>by
  match k,hk with
  |0,_=>
   obtain rfl:c.tables=u:=congrArg Prod.snd hu
   exact hf
  |1,_=>
   obtain rfl:t=u:=congrArg Prod.snd (ha.symm.trans hu)
   exact ht
theorem apA:aa Tryz.prog 31 [.agg (cCf br),.sl (AX.map cEd)] (cR br (aC br.tables AX)) :=
 Aq Aa (wY 0 0 1 br.tables sB rfl (by decide) (by decide)) G1 If
theorem apB:aa Tryz.prog 31 [.agg (cCf br),.sl (AZ.map cEd)] (cR br (aC br.tables AZ)) :=
 Aq Aa (wY 0 0 0 br.tables sB rfl (by decide) (by decide)) G7 EZ
theorem ln:aa Tryz.prog 9 [] (.b true):=by
 refine jb Tryz.func9 ?_
 obtain⟨hk1,hk2,hk3⟩:=EF
 have hN:=ET br 0 (nt rfl) Aa (by rw [H9];rfl)
 rw [H9] at hN
 have hT1:=wV br 0 (aO (bC br 0)).1 AX apA Iz oz (by rw [G1];rfl) (nt rfl) (by decide) hk1 hk2 hk3 IC (by rw [GV];decide)
 have hT2:=rL br 0 (aO (bC br 0)).1 AZ apB Iy jt (by rw [G7];rfl) (nt rfl) (by decide) hk1 hk2 hk3 IB Hj
 have o1:=GV
 have o2:=Ix
 have o3:=Hj
 have hn:=IE
 unfold Ec at hN
 generalize dg oz (0:Nat) (aU oz 0 (aO (bC br 0)).1).1.ats=v1 at hT1 o1 o2
 generalize dg jt (0:Nat) (aU jt 0 (aO (bC br 0)).1).1.ats=v2 at hT2 o3
 generalize (aU jt 0 (aO (bC br 0)).1).1=k2 at hT2
 generalize (aO (bC br 0)).1=k1 at hN hT1 hT2
 have hC:=tf jt 0 k2 EZ
 have hR:=Fq jt 0 k2 Cb.zero (by rw [tD];exact qW (by kernel_rfl))
 generalize mh Cb.zero (bP (cG jt))=ns at hR hn
 obtain⟨n1,n2,n3,rfl⟩:∃a b d,ns=[a,b,d]:=by
  match ns,hn with
  |[a,b,d],_=>exact⟨a,b,d,rfl⟩
 have hT1:=fun q=>zp (hT1 q)
 have hT2:=fun q=>yl (hT2 q)
 unfold edB at hT1 hT2
 unfold lvB lvC at hT1 hC hR
 unfold lvB lvC at hT2
 unfold lvC at hN
 generalize dL (bP (cG br))=r0 at hN hT1 hT2
 generalize dL (bP (cG jt))=r2 at hT2 hC hR
 obtain⟨vk1,ve1,vw1,vf1,vh1,vr1⟩:=v1
 obtain⟨vk2,ve2,vw2,vf2,vh2,vr2⟩:=v2
 obtain rfl:vk1=2:=o1
 obtain rfl:vw1=1:=o2
 obtain rfl:vk2=1:=o3
 refine jA ?_
 refine jm zK ?_
 refine RG.ownN [] [(30,500),(31,501)] hN rfl rfl rfl rfl rfl rfl rfl rfl rfl rfl ?_
 refine jH ?_
 refine AW.condF rfl ?_
 refine jA ?_
 refine RG.ownN [(500,300),(501,301),(19,200)] [(300,500),(301,501)] hT1 rfl rfl rfl rfl rfl rfl rfl rfl rfl rfl ?_
 refine jH ?_
 refine RG.ownN [(500,300),(501,301),(23,200)] [(300,500),(302,502)] hT2 rfl rfl rfl rfl rfl rfl rfl rfl rfl rfl ?_
 refine jH ?_
 refine RG.ownN [(500,300),(502,301)] [(300,500),(301,502)] hC rfl rfl rfl rfl rfl rfl rfl rfl rfl rfl ?_
 refine jH ?_
 have hg0:(jt.tables.map bY)[0]?=some (bY [sB.drop 1]):=rfl
 have hg1:([sB.drop 1].map bp)[0]?=some (bp (sB.drop 1)):=rfl
 refine jx hg0 ?_
 refine wH rfl ?_
 refine jx hg1 ?_
 refine wH rfl ?_
 refine RG.ownN [(500,300),(502,301)] [(300,500),(301,502)] hR rfl rfl rfl rfl rfl rfl rfl rfl rfl rfl ?_
 refine zH ?_
 rfl
theorem mD (a b:List Int)(q:Bool)(hq:decide (a=b)=q)(hal:a.length<=1000000000):aa Tryz.prog 12 [.sl (a.map cI),.sl (b.map cI)] (.b q):=by
 refine jb Tryz.func12 ?_
 have hm:a.length<=9223372036854775807:=by omega
 refine jA ?_
 have hlen:((a.map cI).length:Int)=a.length/\((b.map cI).length:Int)=b.length:=by simp
 refine AW.cond rfl (fun h0=>?_) (fun h0=>?_)
 ·have hne:a.length ≠ b.length := fun e=>by
   have:¬((a.map cI).length:Int)=((b.map cI).length:Int):=by simpa using h0
   exact this (by rw [hlen.1,hlen.2,e])
  refine zR ?_
  exact congrArg AV.b ((qC fun e:a=b=>hne (congrArg List.length e)).symm.trans hq)
 ·have heq:a.length = b.length := by
   have:((a.map cI).length:Int)=((b.map cI).length:Int):=by simpa using h0
   rw [hlen.1,hlen.2] at this
   omega
  refine jA ?_
  refine AW.loopL (ι:=Nat) (fun k=>[(0,.sl (a.map cI)),(1,.sl (b.map cI)),(5,.i .i64 (k:Nat))]) (fun _=>[]) (fun k=>k<=a.length/\a.take k=b.take k) (fun k=>a.length-k) 0 ⟨qR _,rfl⟩ jW trivial fun k hk=>?_
  obtain⟨hk,hf⟩:=hk
  refine jA ?_
  refine AW.cond rfl (fun h1=>?_) (fun h1=>?_)
  ·have h:k<a.length:=by simpa using h1
   have h':k<b.length:=by omega
   refine zD ?_
   refine wH rfl ?_
   refine RG.opS rfl (aq rfl (tk rfl) rfl (tk rfl) rfl rfl (show (a.map cI)[k]?=some (cI a[k]) by rw [qF,qA (by assumption)];rfl) rfl) rfl ?_
   refine wH rfl ?_
   refine RG.opS rfl (aq rfl (tk rfl) rfl (tk rfl) rfl rfl (show (b.map cI)[k]?=some (cI b[k]) by rw [qF,qA (by assumption)];rfl) rfl) rfl ?_
   refine jH ?_
   refine AW.cond rfl (fun h2=>?_) (fun h2=>?_)
   ·have hne:¬a[k]=b[k]:=by simpa using h2
    refine zR ?_
    exact congrArg AV.b ((qC fun e:a=b=>hne (by subst e;rfl)).symm.trans hq)
   ·have he:a[k]=b[k]:=by simpa using h2
    refine jA ?_
    exact⟨k+1,⟨⟨h,by rw [jg (qA h),jg (qA h'),hf,he]⟩,by omega⟩,⟨rI rfl rfl,rI rfl rfl,rI (ay h hm) rfl,trivial⟩,trivial⟩
  ·have h:¬k<a.length:=by simpa using h1
   obtain rfl:k=a.length:=by omega
   refine zE ?_
   refine zR ?_
   rw [uM,heq,uM] at hf
   exact congrArg AV.b ((qE hf).symm.trans hq)
theorem HJ:bz Tryz.prog 63 16 (α:=Ed) cEd:=by
 refine⟨fun _=>rfl,fun a=>qV.1 rfl,fun H e w base spare held fuel cs x hx=>?_⟩
 obtain⟨m,hl,hp⟩:=cD Tryz.underlying63 hx
 have hl:cs.length=16:=hl.trans (by kernel_rfl)
 obtain⟨a0,h0⟩:=cA.part (hp 0 3 0 1 rfl (by kernel_rfl))
 obtain⟨a1,h1⟩:=cA.part (hp 1 3 1 1 rfl (by kernel_rfl))
 obtain⟨a2,h2⟩:=cA.part (hp 2 3 2 1 rfl (by kernel_rfl))
 obtain⟨a3,h3⟩:=Ck.part (hp 3 4 3 1 rfl (by kernel_rfl))
 obtain⟨a4,h4⟩:=E4.part (hp 4 57 4 12 rfl (by kernel_rfl))
 refine⟨⟨a0,a1,a2,a3,a4⟩,PWs.all ?_⟩
 exact h0.join rfl (h1.join rfl (h2.join rfl (h3.join rfl (h4.join rfl (PWs.nil hl)))))
theorem y7:∃i0 z,Tryz.prog.info? 57=some i0/\i0.size=12/\i0.bytes=96/\i0.zero=some z/\z.cells.size=12:=by
 have h:(Tryz.prog.info? 57).map (fun i=>(i.size,i.bytes,i.zero.map fun z=>z.cells.size))=some (12,96,some 12):=by kernel_rfl
 cases e:Tryz.prog.info? 57 with
 |none=>rw [e] at h;cases h
 |some i=>
  rw [e] at h
  have h:=qB h
  have h3:i.zero.map (fun z=>z.cells.size)=some 12:=congrArg (fun p=>p.2.2) h
  obtain⟨z,hz,hs⟩:=vT.1 h3
  exact⟨i,z,rfl,congrArg (fun p=>p.1) h,congrArg (fun p=>p.2.1) h,hz,hs⟩
theorem kG {w:World}(ty:TypeId)(g o n dCap:Nat)(a:Addr)(m sCap:Nat)(cur:Array Value)(cs:List Value)(hg:w.heap[g]?=some (.cells cur 57 (0,0)))(hn:cs.length=Nat.min m n*12)(hsrc:∀j v,cs[j]?=some v->w.cell? (a.add j)=some v)(hfit:o+cs.length<=cur.size)(h1:∀v∈cs,v.oneCell'=true) :
  (Builtin.copy_ #[53,53] ty #[.slice (some ⟨g,o,none⟩) n dCap,.slice (some a) m sCap]).run Tryz.prog w = .ok (goInt (Nat.min m n)) (w.setRow g (cur.toList.take o++cs++cur.toList.drop (o+cs.length)).toArray):=by
 obtain⟨i0,hi,hsz⟩:=EP
 have hl:=run_loadCells_list (P:=Tryz.prog) w a cs hsrc
 have hst:=run_storeCells_at (P:=Tryz.prog) g o 57 cs 0 cur w hg (by simpa using hfit) h1
 simp [Builtin.copy_,kA9 fE,Builtin.lenOf,Builtin.firstCells,sizeOf,typeInfo,hi,hsz,<- hn,hl,hst]
structure uj (w w':World)(cells:List Value)(cap:Nat):Prop where
 kp:Kp No w w'
 blk:w'.heap[w.heap.size]?=some (.cells cells.toArray 57 (0,0))
 len:cells.length=cap*12
 le:cap<=maxLen
theorem uj.mk' {w:World}{cs:Array Value}{cells:List Value}{cap:Nat}(h:cs=cells.toArray)(h1:cells.length=cap*12)(h2:cap<=maxLen):uj w (w.drew.alloc (.cells cs 57)) cells cap:=by
 subst h
 exact⟨((Kp.refl No w).drew).alloc _,kA5 _ _,h1,h2⟩
theorem lX {w:World}{ops:Array Oper}{rest:List Oper}{o:Oper}{a:Act}{Q:Exit->Act->World->Prop}(hgd:o.guard=none)(s x:Operand)
  (ho:o.op = .call { callee:=.builtin .append,args:=#[s,x],argTypes:=#[53,53] }) (b:Addr) (n cap:Nat) (olds:List Value) (hs:a.eval s = .slice (some b) n cap) (hlo:olds.length=n*12) (holds:∀j v,olds[j]?=some v->w.cell? (b.add j)=some v)
  (ad:Addr) (c:Nat) (news:List Value) (hx:a.eval x = .slice (some ad) 1 c) (hl:news.length=12) (hnews:∀j u,news[j]?=some u->w.cell? (ad.add j)=some u) (hg:cap<n+1) (hn:n<=1000000000) (hc:cap=n)
  (h:∀w' cells cap',uj w w' cells cap'->n+1<=cap'->cells.take ((n+1)*12)=olds++news->wpList Tryz.prog ops Q rest (a.put o.dst (.slice (some ⟨w.heap.size,0,none⟩) (n+1) cap')) w'):wpList Tryz.prog ops Q (o::rest) a w :=
 kB1 hgd fun K hK=>by
  obtain⟨i0,z,hi,hsz,hby,hz,hzs⟩:=y7
  have h2:=nextslicecap_le (need:=n+1) (old:=cap) hg
  have hr:=run_append_grow (P:=Tryz.prog) w 53 o.type 57 i0 z fE hi hz b n cap olds (by rw [hsz];exact hlo) holds ad 1 c news (by rw [hsz];exact hl) hnews hg (by omega) (by rw [hby];omega)
  have hge:=grownCap_ge w (n+1) cap 57
  have hle:=grownCap_le_maxLen w (n+1) cap 57 (by unfold maxLen;omega)
  generalize grownCap w (n+1) cap 57=cap' at hr hge hle
  unfold Oper.wp execOp
  simp only [ho,resolve,invoke,builtin,kA2,kA3,kA1,List.map_toArray,vE,List.map_nil,hs,hx,hr]
  have hzl:(Builtin.zeroCells z.cells (cap'-(n+1))).toList.length=(cap'-(n+1))*12:=by rw [qL,size_zeroCells,hzs]
  refine hK _ _ (h _ (olds++news++(Builtin.zeroCells z.cells (cap'-(n+1))).toList) cap' (uj.mk' ?_ ?_ hle) hge ?_)
  ·apply Array.ext'
   simp
  ·rw [qK,qK,hlo,hl,hzl]
   omega
  ·rw [List.take_append_of_le_length (by rw [qK,hlo,hl];omega),vL (by rw [qK,hlo,hl];omega)]
theorem sS {w:World}{ops:Array Oper}{rest:List Oper}{o:Oper}{a:Act}{Q:Exit->Act->World->Prop}(hgd:o.guard=none)(s x:Operand)
  (ho:o.op = .call { callee:=.builtin .append,args:=#[s,x],argTypes:=#[53,53] }) (hs:a.eval s = .slice none 0 0)
  (ad:Addr) (c:Nat) (news:List Value) (hx:a.eval x = .slice (some ad) 1 c) (hl:news.length=12) (hnews:∀j u,news[j]?=some u->w.cell? (ad.add j)=some u)
  (h:∀w' cells cap',uj w w' cells cap'->1<=cap'->cells.take 12=news->wpList Tryz.prog ops Q rest (a.put o.dst (.slice (some ⟨w.heap.size,0,none⟩) 1 cap')) w'):wpList Tryz.prog ops Q (o::rest) a w :=
 kB1 hgd fun K hK=>by
  obtain⟨i0,z,hi,hsz,hby,hz,hzs⟩:=y7
  have hr:=run_append_nil (P:=Tryz.prog) w 53 o.type 57 i0 z fE hi hz ad 1 c news (by rw [hsz];exact hl) hnews (by omega) (by omega) (by rw [hby];omega)
  have hge:=grownCap_ge w 1 0 57
  have hle:=grownCap_le_maxLen w 1 0 57 (by unfold maxLen;omega)
  generalize grownCap w 1 0 57=cap' at hr hge hle
  unfold Oper.wp execOp
  simp only [ho,resolve,invoke,builtin,kA2,kA3,kA1,List.map_toArray,vE,List.map_nil,hs,hx,hr]
  have hzl:(Builtin.zeroCells z.cells (cap'-1)).toList.length=(cap'-1)*12:=by rw [qL,size_zeroCells,hzs]
  refine hK _ _ (h _ (news++(Builtin.zeroCells z.cells (cap'-1)).toList) cap' (uj.mk' ?_ ?_ hle) hge ?_)
  ·apply Array.ext'
   simp
  ·rw [qK,hl,hzl]
   omega
  ·rw [List.take_append_of_le_length (by omega),vL (by omega)]
theorem FA {α:Type}(L R D:List α)(a b:Nat)(hR:R.length=b)(hL:a+b+D.length<=L.length) :
  ((L.take (a+b)++D++L.drop (a+b+D.length)).take a++R++(L.take (a+b)++D++L.drop (a+b+D.length)).drop (a+R.length)).take (a+b+D.length)=L.take a++R++D /\
  ((L.take (a+b)++D++L.drop (a+b+D.length)).take a++R++(L.take (a+b)++D++L.drop (a+b+D.length)).drop (a+R.length)).length=L.length:=by
 have h1:(L.take (a+b)).length=a+b:=by rw [vG];omega
 have e1:(L.take (a+b)++D++L.drop (a+b+D.length)).take a=L.take a:=by
  rw [uK,List.take_append_of_le_length (by omega),List.take_take,kB3 (by omega)]
 have e2:(L.take (a+b)++D++L.drop (a+b+D.length)).drop (a+R.length)=D++L.drop (a+b+D.length):=by
  rw [hR,uK,List.drop_append_of_le_length (by omega),List.drop_eq_nil_of_le (by omega),uT]
 rw [e1,e2]
 constructor
 ·rw [<- uK,List.take_append_of_le_length (by rw [qK,qK,vG,hR];omega),vL (by rw [qK,qK,vG,hR];omega)]
 ·rw [qK,qK,qK,vG,vW,hR]
  omega
theorem GD {α:Type}(L R D:List α)(a b:Nat)(hR:R.length=b)(hL:a+b+D.length<=L.length) :
  ((L.take a++R++L.drop (a+R.length)).take (a+b)++D++(L.take a++R++L.drop (a+R.length)).drop (a+b+D.length)).take (a+b+D.length)=L.take a++R++D /\
  ((L.take a++R++L.drop (a+R.length)).take (a+b)++D++(L.take a++R++L.drop (a+R.length)).drop (a+b+D.length)).length=L.length:=by
 have h1:(L.take a++R).length=a+b:=by rw [qK,vG,hR];omega
 have e1:(L.take a++R++L.drop (a+R.length)).take (a+b)=L.take a++R:=by
  rw [List.take_append_of_le_length (by omega),vL (by omega)]
 have h2:(L.take a++R++L.drop (a+R.length)).length=L.length:=by
  rw [qK,h1,vW,hR]
  omega
 rw [e1]
 constructor
 ·rw [List.take_append_of_le_length (by rw [qK,h1];omega),vL (by rw [qK,h1];omega)]
 ·rw [qK,qK,h1,vW,h2]
  omega
theorem zx (r:Rl):∀(i:Nat) (l:List Rl),i<=l.length->l.insertIdx i r=l.take i++r::l.drop i
 |0,l,_=>by simp
 |i+1,[],h=>by simp at h
 |i+1,x::l,h=>by
  rw [List.insertIdx_succ_cons,zx r i l (by simpa using h)]
  rfl
theorem i9 (l:List Rl)(i:Nat)(r:Rl)(hi:i<=l.length):aA (l.insertIdx i r)=aA (l.take i)++rlV r++aA (l.drop i):=by
 have h:l.insertIdx i r=l.take i++([r]++l.drop i):=zx r i l hi
 rw [h,gT,gT,uK]
 simp [aA]
theorem fc (r:Rl):(rlV r).length=12:=rfl
theorem i5 {w:World}{bv:Nat}{r:Rl}(h:w.heap[bv]?=some (.cells (rlV r).toArray 57 (0,0))):∀(j:Nat) (u:Value),(rlV r)[j]?=some u->w.cell? ((⟨bv,0,none⟩:Addr).add j)=some u:=fun j u hj=>by
 rw [Addr.add_lit,vN]
 exact af h (by rw [uG];exact hj)
def ld (W W':World)(l:List Rl)(bs:List Nat)(v:Value):Prop:=∃bs',bt W' l v bs'/\Kp (·∈bs) W W'/\∀z∈bs',z∈bs\/W.heap.size<=z
theorem lh {W w w':World}{l:List Rl}{bs:List Nat}{cells:List Value}{cap n:Nat}(hk:Kp No W w)(hg:uj w w' cells cap)(hl:l.length=n)(hn:n<=cap)(hc:cells.take (n*12)=aA l):ld W w' l bs (.slice (some ⟨w.heap.size,0,none⟩) n cap):=by
 subst hl
 refine⟨[w.heap.size],.inr ⟨w.heap.size,cap,cap,_,rfl,rfl,hg.blk,hn,qJ _,hg.le,by rw [uH];exact hg.len,hc⟩,(hk.trans hg.kp).mono fun _ _ h=>h.elim,fun z hz=>.inr ?_⟩
 rw [qP.1 hz]
 exact hk.size
theorem Ft (W:World)(r:Rl)(bv:Nat)(hb:W.heap[bv]?=some (.cells (rlV r).toArray 57 (0,0)))(bs:List Nat):Calls Tryz.prog 107 #[.slice none 0 0,.int .i64 0,.slice (some ⟨bv,0,none⟩) 1 1] W fun e W'=>∃v',e = .returned v'/\ld W W' [r] bs v':=by
 have Hb:=kA4 hb
 clear hb
 go_enter Tryz.func107,Tryz.ntmps107
 go_wp2_with (at_builtin;refine sS rfl _ _ rfl rfl ⟨bv,0,none⟩ 1 (rlV r) rfl rfl (i5 Hb.out) ?_;intro W3 cells cap' hg hc ht;(have HG:=kA4 hg);(have HC:=kA4 hc);(have HT:=kA4 ht);clear hg hc ht)
 go_ret
 exact⟨_,rfl,lh (Kp.refl _ _) HG.out rfl HC.out (HT.out.trans (by simp [aA]))⟩
theorem DY (W:World)(A:Addr)(r:Rl)(bv:Nat)(hb:W.heap[bv]?=some (.cells (rlV r).toArray 57 (0,0)))(bs:List Nat):Calls Tryz.prog 107 #[.slice (some A) 0 0,.int .i64 0,.slice (some ⟨bv,0,none⟩) 1 1] W fun e W'=>∃v',e = .returned v'/\ld W W' [r] bs v':=by
 have Hb:=kA4 hb
 clear hb
 go_enter Tryz.func107,Tryz.ntmps107
 go_wp2_with (at_builtin;refine lX rfl _ _ rfl A 0 0 [] rfl rfl (fun j v h=>by simp at h) ⟨bv,0,none⟩ 1 (rlV r) rfl rfl (i5 Hb.out) (by decide) (by decide) rfl ?_;intro W3 cells cap' hg hc ht;(have HG:=kA4 hg);(have HC:=kA4 hc);(have HT:=kA4 ht);clear hg hc ht)
 go_ret
 exact⟨_,rfl,lh (Kp.refl _ _) HG.out rfl HC.out (HT.out.trans (by simp [aA]))⟩
structure mW (W:World)(l:List Rl)(b n cap capB:Nat)(cur:Array Value):Prop where
 len:l.length=n
 blk:W.heap[b]?=some (.cells cur 57 (0,0))
 le:n<=cap
 cap_:cap<=capB
 max:capB<=maxLen
 size:cur.size=capB*12
 at_:cur.toList.take (n*12)=aA l
theorem mW.take {W:World}{l:List Rl}{b n cap capB:Nat}{cur:Array Value}(h:mW W l b n cap capB cur){i:Nat}(hi:i<=n):cur.toList.take (i*12)=aA (l.take i):=by
 have:=congrArg (fun x=>x.take (i*12)) h.at_
 simp only [List.take_take] at this
 rw [kB3 (by omega)] at this
 rw [this,mi _ _ (by rw [h.len];exact hi)]
theorem mW.src {W w:World}{l:List Rl}{b n cap capB:Nat}{cur:Array Value}(h:mW W l b n cap capB cur)(hw:w.heap[b]?=W.heap[b]?)(i:Nat):∀(j:Nat) (u:Value),(aA (l.drop i))[j]?=some u->w.cell? ((⟨b,i*12,none⟩:Addr).add j)=some u:=fun j u hj=>by
 have hjl:=(qD.1 hj).1
 rw [bo,vW,h.len] at hjl
 rw [<- lR,uC,<- h.at_,uJ (by omega),vO] at hj
 rw [Addr.add_lit]
 exact af (hw.trans h.blk) hj
theorem mW.src0 {W w:World}{l:List Rl}{b n cap capB:Nat}{cur:Array Value}(h:mW W l b n cap capB cur)(hw:w.heap[b]?=W.heap[b]?){i:Nat}(hi:i<=n):∀(j:Nat) (u:Value),(aA (l.take i))[j]?=some u->w.cell? ((⟨b,0,none⟩:Addr).add j)=some u:=fun j u hj=>by
 have hjl:=(qD.1 hj).1
 rw [bo,vG,h.len] at hjl
 rw [<- h.take hi,uJ (by omega),vO] at hj
 rw [Addr.add_lit,vN]
 exact af (hw.trans h.blk) hj
theorem DH (W:World)(l:List Rl)(b n cap capB:Nat)(cur:Array Value)(h:mW W l b n cap capB cur)(hc:n+1<=cap)(r:Rl)(bv:Nat)(hb:W.heap[bv]?=some (.cells (rlV r).toArray 57 (0,0))):Calls Tryz.prog 107 #[.slice (some ⟨b,0,none⟩) n cap,.int .i64 (n:Nat),.slice (some ⟨bv,0,none⟩) 1 1] W fun e W'=>∃v',e = .returned v'/\ld W W' (l.insertIdx n r) [b] v':=by
 have hcm:cap<=9223372036854775807:=by have:=h.cap_;have:=h.max;unfold maxLen at this;omega
 have hfit:n*12+(rlV r).length<=cur.size:=by rw [h.size,fc];have:=h.cap_;omega
 have Hfit:=kA4 hfit
 have Hb:=kA4 hb
 have H:=kA4 h
 clear hb h hfit
 have h1:n<=cap:=by omega
 go_enter Tryz.func107,Tryz.ntmps107
 go_wp2_with (at_builtin;refine iY rfl _ _ rfl b n cap cur rfl H.out.blk ⟨bv,0,none⟩ 1 1 (rlV r) rfl rfl (i5 Hb.out) (mP r) hc Hfit.out (n+1) rfl ?_;intro W3 hW3;(have HW:=kA4 hW3);clear hW3)
 go_ret
 have h:=H.out
 have hln:(l.insertIdx n r).length=n+1:=by rw [List.length_insertIdx,if_pos (by rw [h.len];exact qJ _),h.len]
 have hcl:cur.toList.length=capB*12:=by rw [qL,h.size]
 have hcb:=h.cap_
 refine⟨_,rfl,[b],.inr ⟨b,cap,capB,_,rfl,by rw [hln];rfl,by rw [HW.out];exact kA8 W b cur _ _ _ h.blk,by rw [hln];exact hc,h.cap_,h.max,?_,?_⟩,by rw [HW.out];exact (Kp.refl _ W).setRow' (by simp) _,fun z hz=>.inl hz⟩
 ·rw [uH,qK,qK,vG,vW,hcl,fc]
  omega
 ·rw [hln]
  show (cur.toList.take (n*12)++rlV r++cur.toList.drop (n*12+(rlV r).length)).take ((n+1)*12)=_
  rw [List.take_append_of_le_length (by rw [qK,vG,hcl,fc];omega),vL (by rw [qK,vG,hcl,fc];omega),h.at_,i9 _ _ _ (by rw [h.len];exact qJ _),vL (by rw [h.len];exact qJ _),List.drop_eq_nil_of_le (by rw [h.len];exact qJ _)]
  simp [aA]
theorem CS (W:World)(l:List Rl)(b n capB:Nat)(cur:Array Value)(h:mW W l b n n capB cur)(hn:n<=1000000000)(r:Rl)(bv:Nat)(hb:W.heap[bv]?=some (.cells (rlV r).toArray 57 (0,0))):Calls Tryz.prog 107 #[.slice (some ⟨b,0,none⟩) n n,.int .i64 (n:Nat),.slice (some ⟨bv,0,none⟩) 1 1] W fun e W'=>∃v',e = .returned v'/\ld W W' (l.insertIdx n r) [b] v':=by
 have Hb:=kA4 hb
 have H:=kA4 h
 have Ho:=kA4 (show (aA l).length=n*12 by rw [bo,h.len])
 clear hb h
 have h2:n<n+1:=by omega
 go_enter Tryz.func107,Tryz.ntmps107
 go_wp2_with (at_builtin;refine lX rfl _ _ rfl ⟨b,0,none⟩ n n (aA l) rfl Ho.out (H.out.src rfl 0) ⟨bv,0,none⟩ 1 (rlV r) rfl rfl (i5 Hb.out) h2 hn rfl ?_;intro W3 cells cap' hg hc ht;(have HG:=kA4 hg);(have HC:=kA4 hc);(have HT:=kA4 ht);clear hg hc ht)
 go_ret
 have h:=H.out
 refine⟨_,rfl,lh (Kp.refl _ _) HG.out (by rw [List.length_insertIdx,if_pos (by rw [h.len];exact qJ _),h.len]) HC.out (HT.out.trans ?_)⟩
 rw [i9 _ _ _ (by rw [h.len];exact qJ _),vL (by rw [h.len];exact qJ _),List.drop_eq_nil_of_le (by rw [h.len];exact qJ _)]
 simp [aA]
theorem Cx (W:World)(l:List Rl)(b n cap capB i:Nat)(cur:Array Value)(h:mW W l b n cap capB cur)(hi:i<n)(hc:n+1<=cap)(r:Rl)(bv:Nat)(hb:W.heap[bv]?=some (.cells (rlV r).toArray 57 (0,0)))(hne:bv≠b):Calls Tryz.prog 107 #[.slice (some ⟨b,0,none⟩) n cap,.int .i64 (i:Nat),.slice (some ⟨bv,0,none⟩) 1 1] W fun e W'=>∃v',e = .returned v'/\ld W W' (l.insertIdx i r) [b] v':=by
  have hcm:cap<=9223372036854775807:=by have:=h.cap_;have:=h.max;unfold maxLen at this;omega
  have hcb:=h.cap_
  have hcs:cur.size≠0:=by rw [h.size];omega
  have hz:∀w,(Go.sizeOf 57).run Tryz.prog w = .ok 12 w:=fun w=>by kernel_rfl
  have hov:∀lb cb,(callFunc 152 #[.slice (some ⟨bv,0,none⟩) 1 1,.slice (some ⟨b,(i+1)*12,none⟩) lb cb]).run Tryz.prog W = .ok (.value (.bool false)) W:=fun lb cb=>by
    rw [run_callFunc_extern Tryz.func152 (by kernel_rfl) (by kernel_rfl) (by kernel_rfl) (e:=Extern.SlicesOverlaps.overlaps #[53,53] #[4]) (by kernel_rfl),
      Lib.run_overlaps_apart W 53 4 57 fE 12 hz ⟨bv,0,none⟩ ⟨b,(i+1)*12,none⟩ 1 1 lb cb hne 57 57 12 cur.size (by simp [World.shape?,hb,rlV]) (by simp [World.shape?,h.blk]) hcs (by simp [World.frozen?,hb]) (by simp [World.frozen?,hb])]
    rfl
  have hdl:(aA (l.drop i)).length=(n-i)*12:=by rw [bo,vW,h.len]
  have hcl:cur.toList.length=capB*12:=by rw [qL,h.size]
  obtain⟨L1,hL1⟩:∃L1,L1=cur.toList.take ((i+1)*12)++aA (l.drop i)++cur.toList.drop ((i+1)*12+(aA (l.drop i)).length):=⟨_,rfl⟩
  obtain⟨W1,hW1⟩:∃W1,W1=W.drew.setRow b L1.toArray:=⟨_,rfl⟩
  have hcp1:∀ty dc sc,(Builtin.copy_ #[53,53] ty #[.slice (some ⟨b,(i+1)*12,none⟩) (n-i) dc,.slice (some ⟨b,i*12,none⟩) (n+1-i) sc]).run Tryz.prog W.drew = .ok (goInt (Nat.min (n+1-i) (n-i))) W1:=fun ty dc sc=>by
    rw [hW1,hL1]
    exact kG (w:=W.drew) ty b ((i+1)*12) (n-i) dc ⟨b,i*12,none⟩ (n+1-i) sc cur (aA (l.drop i)) h.blk (by rw [hdl];simp only [Nat.min_def];split <;> omega) (h.src rfl i) (by rw [hdl,h.size];omega) (gx _)
  have hk1:Kp (·∈[b]) W W1:=by rw [hW1];exact ((Kp.refl _ W).drew).setRow' (by simp) _
  have hb1:W1.heap[b]?=some (.cells L1.toArray 57 (0,0)):=by rw [hW1];exact kA8 W.drew b cur _ _ _ h.blk
  have hv1:W1.heap[bv]?=some (.cells (rlV r).toArray 57 (0,0)):=(hk1.block bv (qI.1 hb).1 (by simpa using hne)).trans hb
  have h1l:L1.length=capB*12:=by
    rw [hL1,qK,qK,vG,vW,hcl,hdl]
    omega
  obtain⟨L2,hL2⟩:∃L2,L2=L1.take (i*12)++rlV r++L1.drop (i*12+(rlV r).length):=⟨_,rfl⟩
  have hcp2:∀(w:World),w.heap=W1.heap->∀ty dc,(Builtin.copy_ #[53,53] ty #[.slice (some ⟨b,i*12,none⟩) (n+1-i) dc,.slice (some ⟨bv,0,none⟩) 1 1]).run Tryz.prog w = .ok (goInt (Nat.min 1 (n+1-i))) (w.setRow b L2.toArray):=fun w hw ty dc=>by
    rw [hL2]
    exact kG (w:=w) ty b (i*12) (n+1-i) dc ⟨bv,0,none⟩ 1 1 L1.toArray (rlV r) (by rw [hw];exact hb1) (by rw [fc];simp only [Nat.min_def];split <;> omega) (i5 (by rw [hw];exact hv1)) (by rw [fc,uH,h1l];omega) (mP r)
  have hseg:=FA cur.toList (rlV r) (aA (l.drop i)) (i*12) 12 rfl (by rw [hdl,hcl];omega)
  have e12:i*12+12=(i+1)*12:=by omega
  have e13:(i+1)*12+(aA (l.drop i)).length=(n+1)*12:=by rw [hdl];omega
  rw [e12,<- hL1,<- hL2,e13,hcl,h.take (Nat.le_of_lt hi),<- i9 l i r (by rw [h.len];omega)] at hseg
  have hln:(l.insertIdx i r).length=n+1:=by rw [List.length_insertIdx,if_pos (by rw [h.len];omega),h.len]
  have hfin:∀w:World,w.heap=W1.heap->Kp (·∈[b]) W w->ld W (w.setRow b L2.toArray) (l.insertIdx i r) [b] (.slice (some ⟨b,0,none⟩) (n+1) cap):=fun w hw hk=>
    ⟨[b],.inr ⟨b,cap,capB,_,rfl,by rw [hln],kA8 w b L1.toArray _ _ _ (by rw [hw];exact hb1),by rw [hln];exact hc,h.cap_,h.max,by rw [uH];exact hseg.2,by rw [hln];exact hseg.1⟩,hk.setRow' (by simp) _,fun z hz=>.inl hz⟩
  have Hfin:=kA4 hfin
  have Hk1:=kA4 hk1
  have hz2:¬((i:Int)=(n:Int)):=by omega
  have hw1:IntKind.i64.wrap ((i:Int)+1)=(i:Int)+1:=by rw [kA0];omega
  have hw2:IntKind.i64.wrap ((n:Int)+1)=(n:Int)+1:=by rw [kA0];omega
  have hz3:¬((cap:Int)<(n:Int)+1):=by omega
  have hb0:(0:Int)<=(n:Int)+1:=by omega
  have hb1':(0:Int)<=(i:Int)+1:=by omega
  have hin:i<=n:=by omega
  have hin2:i<=n+1:=by omega
  have hin3:i+1<=n+1:=by omega
  have hnc:n<=cap:=by omega
  have htn:((i:Int)+1).toNat=i+1:=by omega
  have htm:((n:Int)+1).toNat=n+1:=by omega
  have hb2:¬(cap=i+1):=by omega
  have hb3:(i:Int)<=(n:Int)+1:=by omega
  have hb5:(n:Int)+1<=(cap:Int):=by omega
  have hb4:¬(cap=i):=by omega
  clear hfin hk1 hb1 hv1 h1l hL1 hL2 hseg e12 e13 hln hW1 hdl hcl hcs hz h hb
  have mixed:Tryz.prog.follows Departure.mixedOrders=true:=aJ
  go_enter Tryz.func107,Tryz.ntmps107
  go_wp2_with (simp only [hov])
  go_region_law_o (fail)
  go_wp2_with fail
  go_ret
  exact⟨_,rfl,Hfin.out _ rfl Hk1.out⟩
theorem Eu {w:World}(b:Addr)(i cap k:Nat)(olds:List Value)(hlo:olds.length=i*12)(holds:∀j v,olds[j]?=some v->w.cell? (b.add j)=some v)(h0:0<k)(hg:cap<i+k)(hn:i+k<=1000000001) :
  ∃(G:Nat) (L0:List Value),(∀ty,(Builtin.append_ #[53,3] ty #[.slice (some b) i cap,.int .i64 (k:Nat)]).run Tryz.prog w = .ok (.slice (some ⟨w.heap.size,0,none⟩) (i+k) G) (w.drew.alloc (.cells L0.toArray 57)))/\i+k<=G/\G<=maxLen/\L0.length=G*12/\L0.take (i*12)=olds:=by
 obtain⟨i0,z,hi,hsz,hby,hz,hzs⟩:=y7
 have h2:=nextslicecap_le (need:=i+k) (old:=cap) hg
 have hfc:=run_firstCells_some (P:=Tryz.prog) w.drew i0.size i b i cap olds (by rw [hsz];exact hlo) (by simpa using holds)
 have hr:=fun ty=>Lib.run_append_grow_zeros (P:=Tryz.prog) w 53 3 ty 57 i0 z .i64 .i64 fE (by kernel_rfl) hi hz (some b) i cap olds hfc k h0 (by omega) hg (by omega) (by rw [hby];omega) (by rw [hby];omega)
 have hge:=grownCap_ge w (i+k) cap 57
 have hle:=grownCap_le_maxLen w (i+k) cap 57 (by unfold maxLen;omega)
 generalize grownCap w (i+k) cap 57=cap' at hr hge hle
 refine⟨cap',olds++(Builtin.zeroCells z.cells k).toList++(Builtin.zeroCells z.cells (cap'-(i+k))).toList,fun ty=>?_,hge,hle,?_,?_⟩
 ·rw [hr ty]
  congr 3
  apply Array.ext'
  simp
 ·rw [qK,qK,hlo,qL,qL,size_zeroCells,size_zeroCells,hzs]
  omega
 ·rw [uK,List.take_append_of_le_length (by omega),vL (by omega)]
theorem DX (W:World)(l:List Rl)(b n capB i:Nat)(cur:Array Value)(h:mW W l b n n capB cur)(hi:i<n)(hn:n<=1000000000)(r:Rl)(bv:Nat)(hb:W.heap[bv]?=some (.cells (rlV r).toArray 57 (0,0)))(bs:List Nat):Calls Tryz.prog 107 #[.slice (some ⟨b,0,none⟩) n n,.int .i64 (i:Nat),.slice (some ⟨bv,0,none⟩) 1 1] W fun e W'=>∃v',e = .returned v'/\ld W W' (l.insertIdx i r) bs v':=by
 have hbw:b<W.heap.size:=(qI.1 h.blk).1
 have hvw:bv<W.heap.size:=(qI.1 hb).1
 have hdl:(aA (l.drop i)).length=(n-i)*12:=by rw [bo,vW,h.len]
 obtain⟨G,L0,hrz,hGn,hGm,h0l,h0t⟩:=Eu (w:=W) ⟨b,0,none⟩ i n (n+1-i) (aA (l.take i)) (by rw [bo,vG,h.len,kB3 (by omega)]) (h.src0 rfl (Nat.le_of_lt hi)) (by omega) (by omega) (by omega)
 rw [show i+(n+1-i)=n+1 by omega] at hrz hGn
 have hkk:(n:Int)+1-(i:Int)=((n+1-i:Nat):Int):=by omega
 rw [<- hkk] at hrz
 obtain⟨g,hg⟩:∃g,g=W.heap.size:=⟨_,rfl⟩
 rw [<- hg] at hrz hbw hvw
 obtain⟨W1,hW1⟩:∃W1,W1=W.drew.alloc (.cells L0.toArray 57):=⟨_,rfl⟩
 rw [<- hW1] at hrz
 have hk1:Kp No W W1:=by rw [hW1];exact ((Kp.refl _ W).drew).alloc _
 have hg1:W1.heap[g]?=some (.cells L0.toArray 57 (0,0)):=by rw [hW1,hg];exact kA5 _ _
 obtain⟨L1,hL1⟩:∃L1,L1=L0.take (i*12)++rlV r++L0.drop (i*12+(rlV r).length):=⟨_,rfl⟩
 have hcpA:∀(w:World),w.heap=W1.heap->∀ty dc,(Builtin.copy_ #[53,53] ty #[.slice (some ⟨g,i*12,none⟩) (n+1-i) dc,.slice (some ⟨bv,0,none⟩) 1 1]).run Tryz.prog w = .ok (goInt (Nat.min 1 (n+1-i))) (w.setRow g L1.toArray):=fun w hw ty dc=>by
  rw [hL1]
  exact kG (w:=w) ty g (i*12) (n+1-i) dc ⟨bv,0,none⟩ 1 1 L0.toArray (rlV r) (by rw [hw];exact hg1) (by rw [fc];simp only [Nat.min_def];split <;> omega) (i5 (by rw [hw];exact (hk1.block bv (hg ▸ hvw) (aF _)).trans hb)) (by rw [fc,uH,h0l];omega) (mP r)
 have h1l:L1.length=G*12:=by
  rw [hL1,qK,qK,vG,vW,h0l,fc]
  omega
 obtain⟨L2,hL2⟩:∃L2,L2=L1.take ((i+1)*12)++aA (l.drop i)++L1.drop ((i+1)*12+(aA (l.drop i)).length):=⟨_,rfl⟩
 have hcpB:∀(w:World),w.heap=(W1.setRow g L1.toArray).heap->∀ty dc sc,(Builtin.copy_ #[53,53] ty #[.slice (some ⟨g,(i+1)*12,none⟩) (n-i) dc,.slice (some ⟨b,i*12,none⟩) (n-i) sc]).run Tryz.prog w = .ok (goInt (Nat.min (n-i) (n-i))) (w.setRow g L2.toArray):=fun w hw ty dc sc=>by
  rw [hL2]
  have hbb:w.heap[b]?=W.heap[b]?:=by
   rw [hw]
   exact (((Kp.refl (fun x=>x=g) W1).setRow' (g:=g) rfl L1.toArray).block b (vK (hg ▸ hbw) hk1.size) (by omega)).trans (hk1.block b (hg ▸ hbw) (aF _))
  exact kG (w:=w) ty g ((i+1)*12) (n-i) dc ⟨b,i*12,none⟩ (n-i) sc L1.toArray (aA (l.drop i)) (by rw [hw];exact kA8 W1 g L0.toArray _ _ _ hg1) (by rw [hdl];simp only [Nat.min_def];split <;> omega) (h.src hbb i) (by rw [hdl,uH,h1l];omega) (gx _)
 have hseg:=GD L0 (rlV r) (aA (l.drop i)) (i*12) 12 rfl (by rw [hdl,h0l];omega)
 have e12:i*12+12=(i+1)*12:=by omega
 have e13:(i+1)*12+(aA (l.drop i)).length=(n+1)*12:=by rw [hdl];omega
 rw [e12,<- hL1,<- hL2,e13,h0l,h0t,<- i9 l i r (by rw [h.len];omega)] at hseg
 have hln:(l.insertIdx i r).length=n+1:=by rw [List.length_insertIdx,if_pos (by rw [h.len];omega),h.len]
 have hfin:∀w:World,w.heap[g]?=some (.cells L1.toArray 57 (0,0))->Kp (fun x=>x=g) W w->ld W (w.setRow g L2.toArray) (l.insertIdx i r) bs (.slice (some ⟨g,0,none⟩) (n+1) G):=fun w hw hk=>
  ⟨[g],.inr ⟨g,G,G,_,rfl,by rw [hln],kA8 w g L1.toArray _ _ _ hw,by rw [hln];exact hGn,qJ _,hGm,by rw [uH];exact hseg.2,by rw [hln];exact hseg.1⟩,(hk.setRow' (g:=g) rfl _).mono fun k h1 h2=>absurd h1 (by rw [h2,hg];exact Nat.lt_irrefl _),fun z hz=>.inr (by rw [qP.1 hz,hg];exact qJ _)⟩
 have Hfin:=kA4 hfin
 have Hk1:=kA4 (And.intro hg1 (hk1.mono (S':=fun x=>x=g) fun _ _ h=>h.elim))
 have hz2:¬((i:Int)=(n:Int)):=by omega
 have hw1:IntKind.i64.wrap ((i:Int)+1)=(i:Int)+1:=by rw [kA0];omega
 have hw2:IntKind.i64.wrap ((n:Int)+1)=(n:Int)+1:=by rw [kA0];omega
 have hw3:IntKind.i64.wrap ((n:Int)+1-(i:Int))=(n:Int)+1-(i:Int):=by rw [kA0];omega
 have hz3:(n:Int)<(n:Int)+1:=by omega
 have hb1':(0:Int)<=(i:Int)+1:=by omega
 have hin:i<=n:=by omega
 have hin2:i<=n+1:=by omega
 have hin3:i+1<=n+1:=by omega
 have htn:((i:Int)+1).toNat=i+1:=by omega
 have hG63:G<=9223372036854775807:=by unfold maxLen at hGm;omega
 have hGi:¬(G=i):=by omega
 have hGi1:¬(G=i+1):=by omega
 have hb3:(i:Int)<=(n:Int)+1:=by omega
 have hb5:(i:Int)+1<=(n:Int)+1:=by omega
 have hb4:¬(n=i):=by omega
 clear hfin hk1 hg1 h1l hL1 hL2 hseg e12 e13 hln hW1 hdl h hb h0l h0t hGn hGm hkk hbw hvw hg
 have mixed:Tryz.prog.follows Departure.mixedOrders=true:=aJ
 go_enter Tryz.func107,Tryz.ntmps107
 go_wp2_with (at_builtin;refine Lib.wpList_append_run _ rfl _ _ _ _ rfl _ _ rfl rfl _ _ (hrz _) ?_)
 have hB:=hcpB (W1.setRow g L1.toArray).drew rfl
 go_region_law_o (fail)
 go_wp2_with fail
 go_ret
 exact⟨_,rfl,Hfin.out _ (kA8 W1 g L0.toArray _ _ _ Hk1.out.1) ((Hk1.out.2.setRow' (g:=g) rfl _).drew)⟩
theorem Bt (l:List Rl)(v:Value)(bs:List Nat)(W:World)(i:Nat)(r:Rl)(bv:Nat)(hq:bt W l v bs)(hi:i<=l.length)(hb:W.heap[bv]?=some (.cells (rlV r).toArray 57 (0,0)))(hbv:bv∉bs)(hlen:l.length<=1000000000):Calls Tryz.prog 107 #[v,.int .i64 (i:Nat),.slice (some ⟨bv,0,none⟩) 1 1] W fun e W'=>∃v',e = .returned v'/\ld W W' (l.insertIdx i r) bs v':=by
 rcases hq with⟨rfl,rfl,A,rfl⟩|⟨b,cap,capB,cur,rfl,rfl,hh,h1,h2,h3,h4,h5⟩
 ·obtain rfl:i=0:=by simpa using hi
  cases A with
  |none=>exact Ft W r bv hb []
  |some A=>exact DY W A r bv hb []
 ·have h:mW W l b l.length cap capB cur:=⟨rfl,hh,h1,h2,h3,h4,h5⟩
  have hne:bv≠b:=fun e=>hbv (by simp [e])
  generalize l.length=n at *
  rcases Nat.lt_or_ge i n with g|g
  ·rcases Nat.lt_or_ge n cap with g2|g2
   ·exact Cx W l b _ cap capB i cur h g g2 r bv hb hne
   ·obtain rfl:cap=n:=by omega
    exact DX W l b _ capB i cur h g hlen r bv hb [b]
  ·obtain rfl:i=n:=by omega
   rcases Nat.lt_or_ge i cap with g2|g2
   ·exact DH W l b _ cap capB cur h g2 r bv hb
   ·obtain rfl:cap=i:=by omega
    exact CS W l b _ capB cur h hlen r bv hb
set_option pp.maxSteps 200000
abbrev rlA (r:Rl):Array Value:=#[.int .i64 r.prio,.int .u64 r.mat.value.hi.toNat,.int .u64 r.mat.value.lo.toNat,.int .u64 r.mat.care.hi.toNat,.int .u64 r.mat.care.lo.toNat,.int .i64 r.act.kind,.int .i64 r.act.port,.int .i64 r.act.table,.int .u64 r.act.set.value.hi.toNat,.int .u64 r.act.set.value.lo.toNat,.int .u64 r.act.set.care.hi.toNat,.int .u64 r.act.set.care.lo.toNat]
abbrev edA (x:Ed):Array Value:=#[.int .i64 x.sw,.int .i64 x.tab,.int .i64 x.at_,.bool x.gone,.int .i64 x.rule.prio,.int .u64 x.rule.mat.value.hi.toNat,.int .u64 x.rule.mat.value.lo.toNat,.int .u64 x.rule.mat.care.hi.toNat,.int .u64 x.rule.mat.care.lo.toNat,.int .i64 x.rule.act.kind,.int .i64 x.rule.act.port,.int .i64 x.rule.act.table,.int .u64 x.rule.act.set.value.hi.toNat,.int .u64 x.rule.act.set.value.lo.toNat,.int .u64 x.rule.act.set.care.hi.toNat,.int .u64 x.rule.act.set.care.lo.toNat]
theorem iV (x:Ed):vEd x = .agg #[.int .i64 x.sw,.int .i64 x.tab,.int .i64 x.at_,.bool x.gone,.int .i64 x.rule.prio,.int .u64 x.rule.mat.value.hi.toNat,.int .u64 x.rule.mat.value.lo.toNat,.int .u64 x.rule.mat.care.hi.toNat,.int .u64 x.rule.mat.care.lo.toNat,.int .i64 x.rule.act.kind,.int .i64 x.rule.act.port,.int .i64 x.rule.act.table,.int .u64 x.rule.act.set.value.hi.toNat,.int .u64 x.rule.act.set.value.lo.toNat,.int .u64 x.rule.act.set.care.hi.toNat,.int .u64 x.rule.act.set.care.lo.toNat]:=rfl
structure EdW (W We:World)(x:Ed):Prop where
 he:We.heap[W.heap.size]?=some (.cells (edA x) 63 (0,0))
 kp:Kp No W We
 ca:∀(a:Addr) (u:Value),W.cell? a=some u->We.cell? a=some u
 c0:We.cell? ⟨W.heap.size,0,none⟩=some (.int .i64 x.sw)
 c1:We.cell? ⟨W.heap.size,1,none⟩=some (.int .i64 x.tab)
 c2:We.cell? ⟨W.heap.size,2,none⟩=some (.int .i64 x.at_)
 c3:We.cell? ⟨W.heap.size,3,none⟩=some (.bool x.gone)
 c4:We.cell? ⟨W.heap.size,4,none⟩=some (.int .i64 x.rule.prio)
 c5:We.cell? ⟨W.heap.size,5,none⟩=some (.int .u64 x.rule.mat.value.hi.toNat)
 c6:We.cell? ⟨W.heap.size,6,none⟩=some (.int .u64 x.rule.mat.value.lo.toNat)
 c7:We.cell? ⟨W.heap.size,7,none⟩=some (.int .u64 x.rule.mat.care.hi.toNat)
 c8:We.cell? ⟨W.heap.size,8,none⟩=some (.int .u64 x.rule.mat.care.lo.toNat)
 c9:We.cell? ⟨W.heap.size,9,none⟩=some (.int .i64 x.rule.act.kind)
 c10:We.cell? ⟨W.heap.size,10,none⟩=some (.int .i64 x.rule.act.port)
 c11:We.cell? ⟨W.heap.size,11,none⟩=some (.int .i64 x.rule.act.table)
 c12:We.cell? ⟨W.heap.size,12,none⟩=some (.int .u64 x.rule.act.set.value.hi.toNat)
 c13:We.cell? ⟨W.heap.size,13,none⟩=some (.int .u64 x.rule.act.set.value.lo.toNat)
 c14:We.cell? ⟨W.heap.size,14,none⟩=some (.int .u64 x.rule.act.set.care.hi.toNat)
 c15:We.cell? ⟨W.heap.size,15,none⟩=some (.int .u64 x.rule.act.set.care.lo.toNat)
theorem edw (W:World)(x:Ed):EdW W (W.alloc (.cells (edA x) 63)) x:=by
 have he:=kA5 W (.cells (edA x) 63)
 have hk:Kp No W (W.alloc (.cells (edA x) 63)):=(Kp.refl No W).alloc _
 exact⟨he,hk,fun a u h=>(kA7 (hk.block a.block (kA6 h) (aF _))).trans h,af he rfl,af he rfl,af he rfl,af he rfl,af he rfl,af he rfl,af he rfl,af he rfl,af he rfl,af he rfl,af he rfl,af he rfl,af he rfl,af he rfl,af he rfl,af he rfl⟩
theorem Fj (W:World)(bx:Nat)(tp pe wy tb:Value)(ten:Int)(b0 c0 N sw b1 c1 M tab at_:Nat)(v:Value)(A:Option Addr)(n c:Nat)(cur1:Array Value)(l:List Rl)(bs:List Nat)(hq:bt W l v bs)(hln:l.length=n)(h:zz W bx tp pe wy tb ten b0 c0 N sw b1 c1 M tab v A n c cur1)(h1:sw<N)(h2:tab<M)(h3:at_<=n)(hN:N<=9223372036854775807)(hM:M<=9223372036854775807)(hn:n<=1000000000)(hnb:b1∉bs)(r:Rl) :
  Calls Tryz.prog 63 #[.pointer (some ⟨bx,0,none⟩),zEd sw tab at_ false r] W fun e W'=>e = .returned (.int .i64 0)/\∃v' W1,ld W W1 (l.insertIdx at_ r) bs v'/\W'=W1.setCell ⟨b1,tab,none⟩ v':=by
 have h6:zEd sw tab at_ false r = .agg #[.int .i64 (sw:Nat),.int .i64 (tab:Nat),.int .i64 (at_:Nat),.bool false,.int .i64 r.prio,.int .u64 r.mat.value.hi.toNat,.int .u64 r.mat.value.lo.toNat,.int .u64 r.mat.care.hi.toNat,.int .u64 r.mat.care.lo.toNat,.int .i64 r.act.kind,.int .i64 r.act.port,.int .i64 r.act.table,.int .u64 r.act.set.value.hi.toNat,.int .u64 r.act.set.value.lo.toNat,.int .u64 r.act.set.care.hi.toNat,.int .u64 r.act.set.care.lo.toNat]:=rfl
 rw [h6]
 clear h6
 obtain⟨hb,rfl,hm,hbl,hll,rfl⟩:=h
 have hl:W.cell? ⟨b1,tab,none⟩=some (.slice A n c):=af hbl hll
 have hl1:=hll
 have Hbl:=kA4 hbl
 clear hbl hll
 have Hq:=kA4 hq
 have Hl:=kA4 hln
 have Hnb:=kA4 hnb
 have p4:W.cell? ⟨bx,4,none⟩=some (.slice (some ⟨b0,0,none⟩) N c0):=af hb rfl
 have Hb:=kA4 hb
 clear hb hq hln hnb
 go_enter Tryz.func63,Tryz.ntmps63
 go_wp2_with fail
 have q1:(sw:Int)<(N:Int):=by omega
 have q2:(tab:Int)<(M:Int):=by omega
 have q3:(at_:Int)<=(n:Int):=by omega
 have hE:=edw W ⟨(sw:Nat),(tab:Nat),(at_:Nat),false,r⟩
 generalize W.alloc (.cells (edA ⟨(sw:Nat),(tab:Nat),(at_:Nat),false,r⟩) 63)=We at hE ⊢
 have HE:=kA4 hE
 have d0:=hE.c0
 have d1:=hE.c1
 have d2:=hE.c2
 have d3:=hE.c3
 have Hk:=kA4 hE.kp
 have ca:=hE.ca
 have p4':=ca _ _ p4
 have hm':=ca _ _ hm
 have hl':=ca _ _ hl
 have Hbn:=kA4 (show b1<W.heap.size from kA6 (a:=⟨b1,tab,none⟩) hl)
 have Hne:=kA4 (show ∀b∈bs,b<W.heap.size from fun b hb=>Hq.out.old b hb)
 clear hE p4 hm hl ca
 have z1:decide ((sw:Int)<0)=false:=qC (by omega)
 have z2:decide ((N:Int)<=(sw:Int))=false:=qC (by omega)
 have z3:decide ((tab:Int)<0)=false:=qC (by omega)
 have z4:decide ((M:Int)<=(tab:Int))=false:=qC (by omega)
 have z5:decide ((at_:Int)<0)=false:=qC (by omega)
 have z6:decide ((n:Int)<(at_:Int))=false:=qC (by omega)
 have y2:decide (N<=sw)=false:=qC (by omega)
 have y4:decide (M<=tab)=false:=qC (by omega)
 have y6:decide (n<at_)=false:=qC (by omega)
 go_quiet (fail)
 go_wp2_with fail
 go_quiet (fail)
 go_wp2_with fail
 go_quiet (fail)
 go_wp2_with fail
 clear z1 z2 z3 z4 z5 z6 y2 y4 y6 d0 d1 d3
 have d4:=HE.out.c4
 have d5:=HE.out.c5
 have d6:=HE.out.c6
 have d7:=HE.out.c7
 have d8:=HE.out.c8
 have d9:=HE.out.c9
 have d10:=HE.out.c10
 have d11:=HE.out.c11
 have d12:=HE.out.c12
 have d13:=HE.out.c13
 have d14:=HE.out.c14
 have d15:=HE.out.c15
 have hins:∀k,Calls Tryz.prog 107 #[.slice A n c,.int .i64 (at_:Nat),.slice (some ⟨We.heap.size,0,none⟩) 1 1] ((We.drewN k).alloc (.cells (rlA r) 57)) fun e W'=>∃A' n' c',e = .returned (.slice A' n' c')/\ld W W' (l.insertIdx at_ r) bs (.slice A' n' c'):=fun k=>by
  have hk:Kp No W ((We.drewN k).alloc (.cells (rlA r) 57)):=(Hk.out.drewN k).alloc _
  have hb:((We.drewN k).alloc (.cells (rlA r) 57)).heap[We.heap.size]?=some (.cells (rlV r).toArray 57 (0,0)):=kA5 (We.drewN k) _
  refine (Bt l _ bs _ at_ r We.heap.size (Hq.out.keep fun b hb=>hk.block b (Hq.out.old b hb) (aF _)) (by rw [Hl.out];exact h3) hb (fun h=>by have:=Hne.out _ h;have:=Hk.out.size;omega) (by rw [Hl.out];exact hn)).mono ?_
  rintro e W' ⟨v',rfl,bs',hq',hk',hn'⟩
  obtain⟨A',c',rfl⟩:=hq'.form
  exact⟨_,_,_,rfl,bs',hq',((hk.mono (S':=fun x=>x∈bs) fun _ _ h=>h.elim).trans hk').mono fun _ _ h=>h,fun z hz=>(hn' z hz).imp id fun h=>vH hk.size h⟩
 have Hins:=kA4 hins
 have hA:∀(a:Addr) (u:Value) (k:Nat),We.cell? a=some u->((We.drewN k).alloc (.cells (rlA r) 57)).cell? a=some u:=fun a u k h=>(kA7 (((Kp.refl No We).drewN k).alloc _ |>.block a.block (kA6 h) (aF _))).trans h
 have d2a:=fun k=>hA _ _ k d2
 have hla:=fun k=>hA _ _ k hl'
 clear hA
 have hfb:∀W6 A' n' c',ld W W6 (l.insertIdx at_ r) bs (.slice A' n' c')->W6.heap[b1]?=some (.cells cur1 53 (0,0)):=fun W6 A' n' c' h=>by
  obtain⟨bs',_,hk',_⟩:=h
  exact (hk'.block b1 Hbn.out Hnb.out).trans Hbl.out
 have Hfb:=kA4 hfb
 have Hll:=kA4 hl1
 clear hins hfb hl1
 go_region_with (go_at_call 107;refine (Hins.out _).mono ?_;rintro e W6 ⟨A',n',c',rfl,hq6⟩;have Hq6:=kA4 hq6;have hl6:W6.cell? ⟨b1,tab,none⟩=some (.slice A n c):=af (Hfb.out _ _ _ _ hq6) Hll.out;have hfz:W6.frozen? ⟨b1,tab,none⟩=false:=(by simp [World.frozen?,Hfb.out _ _ _ _ hq6]);clear hq6)
 all_goals
  go_wp2_with fail
  go_ret
  exact⟨rfl,_,W6,Hq6.out,rfl⟩
theorem mn {x:UInt64}(h:x.toNat=0):x=0:=UInt64.toNat_inj.1 (by rw [h];rfl)
theorem CG {r:Rl}(h0:r.prio=0)(h1:r.mat.value.hi.toNat=0)(h2:r.mat.value.lo.toNat=0)(h3:r.mat.care.hi.toNat=0)(h4:r.mat.care.lo.toNat=0)(h5:r.act.kind=0)(h6:r.act.port=0)(h7:r.act.table=0)(h8:r.act.set.value.hi.toNat=0)(h9:r.act.set.value.lo.toNat=0)(h10:r.act.set.care.hi.toNat=0)(h11:r.act.set.care.lo.toNat=0):r=Rl.zero:=by
 obtain⟨p,⟨⟨a,b⟩,⟨c,d⟩⟩,⟨k,q,t,⟨⟨e,f⟩,⟨g,h⟩⟩⟩⟩:=r
 obtain rfl:p=0:=h0
 obtain rfl:a=0:=mn h1
 obtain rfl:b=0:=mn h2
 obtain rfl:c=0:=mn h3
 obtain rfl:d=0:=mn h4
 obtain rfl:k=0:=h5
 obtain rfl:q=0:=h6
 obtain rfl:t=0:=h7
 obtain rfl:e=0:=mn h8
 obtain rfl:f=0:=mn h9
 obtain rfl:g=0:=mn h10
 obtain rfl:h=0:=mn h11
 rfl
theorem Dx (W:World)(bx:Nat)(tp pe wy tb:Value)(ten:Int)(r:Rl)(hb:W.heap[bx]?=some (.cells #[tp,.int .i64 ten,pe,wy,tb] 31 (0,0)))(sw tab a:Int)(gone:Bool)(h1:sw<0):Calls Tryz.prog 63 #[.pointer (some ⟨bx,0,none⟩),vEd ⟨sw,tab,a,gone,r⟩] W fun e W'=>e = .returned (.int .i64 4)/\Kp No W W':=by
 rw [iV]
 have p4:W.cell? ⟨bx,4,none⟩=some tb:=af hb rfl
 clear hb
 go_enter Tryz.func63,Tryz.ntmps63
 go_wp2_with fail
 have hE:=edw W ⟨sw,tab,a,gone,r⟩
 generalize W.alloc (.cells (edA ⟨sw,tab,a,gone,r⟩) 63)=We at hE ⊢
 have d0:=hE.c0
 have d1:=hE.c1
 have d2:=hE.c2
 have d3:=hE.c3
 have Hk:=kA4 hE.kp
 have ca:=hE.ca
 have p4':=ca _ _ p4
 clear hE p4 ca
 have z1:decide (sw<0)=true:=qE (by omega)
 go_quiet (fail)
 go_wp2_with fail
 all_goals (go_ret;exact⟨rfl,(by repeat (first|exact Hk.out|refine Kp.drewN ?_ _))⟩)
theorem EJ (W:World)(bx:Nat)(tp pe wy tb:Value)(ten:Int)(r:Rl)(hb:W.heap[bx]?=some (.cells #[tp,.int .i64 ten,pe,wy,tb] 31 (0,0)))(sw tab a:Int)(gone:Bool)(A:Option Addr)(N c0:Nat)(ht:tb = .slice A N c0)(h0:0<=sw)(h1:(N:Int)<=sw):Calls Tryz.prog 63 #[.pointer (some ⟨bx,0,none⟩),vEd ⟨sw,tab,a,gone,r⟩] W fun e W'=>e = .returned (.int .i64 4)/\Kp No W W':=by
 rw [iV]
 have p4:W.cell? ⟨bx,4,none⟩=some tb:=af hb rfl
 clear hb
 subst ht
 go_enter Tryz.func63,Tryz.ntmps63
 go_wp2_with fail
 have hE:=edw W ⟨sw,tab,a,gone,r⟩
 generalize W.alloc (.cells (edA ⟨sw,tab,a,gone,r⟩) 63)=We at hE ⊢
 have d0:=hE.c0
 have d1:=hE.c1
 have d2:=hE.c2
 have d3:=hE.c3
 have Hk:=kA4 hE.kp
 have ca:=hE.ca
 have p4':=ca _ _ p4
 clear hE p4 ca
 have z1:decide (sw<0)=false:=qC (by omega)
 have z2:decide ((N:Int)<=sw)=true:=qE (by omega)
 go_quiet (fail)
 go_wp2_with fail
 all_goals (go_ret;exact⟨rfl,(by repeat (first|exact Hk.out|refine Kp.drewN ?_ _))⟩)
theorem C5 (W:World)(bx:Nat)(tp pe wy tb:Value)(ten:Int)(r:Rl)(hb:W.heap[bx]?=some (.cells #[tp,.int .i64 ten,pe,wy,tb] 31 (0,0)))(sw:Nat)(tab a:Int)(gone:Bool)(b0 N c0:Nat)(ht:tb = .slice (some ⟨b0,0,none⟩) N c0)(hlt:sw<N)(hN:N<=9223372036854775807)(A1:Option Addr)(M c1:Nat)(hm:W.cell? ⟨b0,sw,none⟩=some (.slice A1 M c1))(h1:tab<0):Calls Tryz.prog 63 #[.pointer (some ⟨bx,0,none⟩),vEd ⟨(sw:Nat),tab,a,gone,r⟩] W fun e W'=>e = .returned (.int .i64 4)/\Kp No W W':=by
 rw [iV]
 have p4:W.cell? ⟨bx,4,none⟩=some tb:=af hb rfl
 clear hb
 subst ht
 go_enter Tryz.func63,Tryz.ntmps63
 go_wp2_with fail
 have hE:=edw W ⟨(sw:Nat),tab,a,gone,r⟩
 generalize W.alloc (.cells (edA ⟨(sw:Nat),tab,a,gone,r⟩) 63)=We at hE ⊢
 have d0:=hE.c0
 have d1:=hE.c1
 have d2:=hE.c2
 have d3:=hE.c3
 have Hk:=kA4 hE.kp
 have ca:=hE.ca
 have p4':=ca _ _ p4
 have hm':=ca _ _ hm
 clear hm
 clear hE p4 ca
 have q1:(sw:Int)<(N:Int):=by omega
 have z1:decide ((sw:Int)<0)=false:=qC (by omega)
 have z2:decide ((N:Int)<=(sw:Int))=false:=qC (by omega)
 have y2:decide (N<=sw)=false:=qC (by omega)
 have z3:decide (tab<0)=true:=qE (by omega)
 go_quiet (fail)
 go_wp2_with fail
 all_goals (go_ret;exact⟨rfl,(by repeat (first|exact Hk.out|refine Kp.drewN ?_ _))⟩)
theorem Ey (W:World)(bx:Nat)(tp pe wy tb:Value)(ten:Int)(r:Rl)(hb:W.heap[bx]?=some (.cells #[tp,.int .i64 ten,pe,wy,tb] 31 (0,0)))(sw:Nat)(tab a:Int)(gone:Bool)(b0 N c0:Nat)(ht:tb = .slice (some ⟨b0,0,none⟩) N c0)(hlt:sw<N)(hN:N<=9223372036854775807)(A1:Option Addr)(M c1:Nat)(hm:W.cell? ⟨b0,sw,none⟩=some (.slice A1 M c1))(h0:0<=tab)(h1:(M:Int)<=tab):Calls Tryz.prog 63 #[.pointer (some ⟨bx,0,none⟩),vEd ⟨(sw:Nat),tab,a,gone,r⟩] W fun e W'=>e = .returned (.int .i64 4)/\Kp No W W':=by
 rw [iV]
 have p4:W.cell? ⟨bx,4,none⟩=some tb:=af hb rfl
 clear hb
 subst ht
 go_enter Tryz.func63,Tryz.ntmps63
 go_wp2_with fail
 have hE:=edw W ⟨(sw:Nat),tab,a,gone,r⟩
 generalize W.alloc (.cells (edA ⟨(sw:Nat),tab,a,gone,r⟩) 63)=We at hE ⊢
 have d0:=hE.c0
 have d1:=hE.c1
 have d2:=hE.c2
 have d3:=hE.c3
 have Hk:=kA4 hE.kp
 have ca:=hE.ca
 have p4':=ca _ _ p4
 have hm':=ca _ _ hm
 clear hm
 clear hE p4 ca
 have q1:(sw:Int)<(N:Int):=by omega
 have z1:decide ((sw:Int)<0)=false:=qC (by omega)
 have z2:decide ((N:Int)<=(sw:Int))=false:=qC (by omega)
 have y2:decide (N<=sw)=false:=qC (by omega)
 have z3:decide (tab<0)=false:=qC (by omega)
 have z4:decide ((M:Int)<=tab)=true:=qE (by omega)
 go_quiet (fail)
 go_wp2_with fail
 all_goals (go_ret;exact⟨rfl,(by repeat (first|exact Hk.out|refine Kp.drewN ?_ _))⟩)
theorem Dm (W:World)(bx:Nat)(tp pe wy tb:Value)(ten:Int)(r:Rl)(hb:W.heap[bx]?=some (.cells #[tp,.int .i64 ten,pe,wy,tb] 31 (0,0)))(sw tab:Nat)(a:Int)(gone:Bool)(b0 N c0:Nat)(ht:tb = .slice (some ⟨b0,0,none⟩) N c0)(hlt:sw<N)(hN:N<=9223372036854775807)(b1 M c1:Nat)(hm:W.cell? ⟨b0,sw,none⟩=some (.slice (some ⟨b1,0,none⟩) M c1))(hlt2:tab<M)(hM:M<=9223372036854775807)(A:Option Addr)(n c:Nat)(hl:W.cell? ⟨b1,tab,none⟩=some (.slice A n c))(hn:n<=9223372036854775807)(h1:a<0):Calls Tryz.prog 63 #[.pointer (some ⟨bx,0,none⟩),vEd ⟨(sw:Nat),(tab:Nat),a,gone,r⟩] W fun e W'=>e = .returned (.int .i64 4)/\Kp No W W':=by
 rw [iV]
 have p4:W.cell? ⟨bx,4,none⟩=some tb:=af hb rfl
 clear hb
 subst ht
 go_enter Tryz.func63,Tryz.ntmps63
 go_wp2_with fail
 have hE:=edw W ⟨(sw:Nat),(tab:Nat),a,gone,r⟩
 generalize W.alloc (.cells (edA ⟨(sw:Nat),(tab:Nat),a,gone,r⟩) 63)=We at hE ⊢
 have d0:=hE.c0
 have d1:=hE.c1
 have d2:=hE.c2
 have d3:=hE.c3
 have Hk:=kA4 hE.kp
 have ca:=hE.ca
 have p4':=ca _ _ p4
 have hm':=ca _ _ hm
 have hl':=ca _ _ hl
 clear hm hl
 clear hE p4 ca
 have q1:(sw:Int)<(N:Int):=by omega
 have z1:decide ((sw:Int)<0)=false:=qC (by omega)
 have z2:decide ((N:Int)<=(sw:Int))=false:=qC (by omega)
 have y2:decide (N<=sw)=false:=qC (by omega)
 have q2:(tab:Int)<(M:Int):=by omega
 have z3:decide ((tab:Int)<0)=false:=qC (by omega)
 have z4:decide ((M:Int)<=(tab:Int))=false:=qC (by omega)
 have y4:decide (M<=tab)=false:=qC (by omega)
 have z5:decide (a<0)=true:=qE (by omega)
 go_quiet (fail)
 go_wp2_with fail
 go_quiet (fail)
 go_wp2_with fail
 go_quiet (fail)
 go_wp2_with fail
 all_goals (go_ret;exact⟨rfl,(by repeat (first|exact Hk.out|refine Kp.drewN ?_ _))⟩)
theorem CJ (W:World)(bx:Nat)(tp pe wy tb:Value)(ten:Int)(r:Rl)(hb:W.heap[bx]?=some (.cells #[tp,.int .i64 ten,pe,wy,tb] 31 (0,0)))(sw tab:Nat)(a:Int)(gone:Bool)(b0 N c0:Nat)(ht:tb = .slice (some ⟨b0,0,none⟩) N c0)(hlt:sw<N)(hN:N<=9223372036854775807)(b1 M c1:Nat)(hm:W.cell? ⟨b0,sw,none⟩=some (.slice (some ⟨b1,0,none⟩) M c1))(hlt2:tab<M)(hM:M<=9223372036854775807)(A:Option Addr)(n c:Nat)(hl:W.cell? ⟨b1,tab,none⟩=some (.slice A n c))(hn:n<=9223372036854775807)(h0:0<=a)(h1:(n:Int)<a):Calls Tryz.prog 63 #[.pointer (some ⟨bx,0,none⟩),vEd ⟨(sw:Nat),(tab:Nat),a,gone,r⟩] W fun e W'=>e = .returned (.int .i64 4)/\Kp No W W':=by
 rw [iV]
 have p4:W.cell? ⟨bx,4,none⟩=some tb:=af hb rfl
 clear hb
 subst ht
 go_enter Tryz.func63,Tryz.ntmps63
 go_wp2_with fail
 have hE:=edw W ⟨(sw:Nat),(tab:Nat),a,gone,r⟩
 generalize W.alloc (.cells (edA ⟨(sw:Nat),(tab:Nat),a,gone,r⟩) 63)=We at hE ⊢
 have d0:=hE.c0
 have d1:=hE.c1
 have d2:=hE.c2
 have d3:=hE.c3
 have Hk:=kA4 hE.kp
 have ca:=hE.ca
 have p4':=ca _ _ p4
 have hm':=ca _ _ hm
 have hl':=ca _ _ hl
 clear hm hl
 clear hE p4 ca
 have q1:(sw:Int)<(N:Int):=by omega
 have z1:decide ((sw:Int)<0)=false:=qC (by omega)
 have z2:decide ((N:Int)<=(sw:Int))=false:=qC (by omega)
 have y2:decide (N<=sw)=false:=qC (by omega)
 have q2:(tab:Int)<(M:Int):=by omega
 have z3:decide ((tab:Int)<0)=false:=qC (by omega)
 have z4:decide ((M:Int)<=(tab:Int))=false:=qC (by omega)
 have y4:decide (M<=tab)=false:=qC (by omega)
 have z5:decide (a<0)=false:=qC (by omega)
 have z6:decide ((n:Int)<a)=true:=qE (by omega)
 go_quiet (fail)
 go_wp2_with fail
 go_quiet (fail)
 go_wp2_with fail
 go_quiet (fail)
 go_wp2_with fail
 all_goals (go_ret;exact⟨rfl,(by repeat (first|exact Hk.out|refine Kp.drewN ?_ _))⟩)
theorem D1 (W:World)(bx:Nat)(tp pe wy tb:Value)(ten:Int)(r:Rl)(hb:W.heap[bx]?=some (.cells #[tp,.int .i64 ten,pe,wy,tb] 31 (0,0)))(sw tab:Nat)(b0 N c0:Nat)(ht:tb = .slice (some ⟨b0,0,none⟩) N c0)(hlt:sw<N)(hN:N<=9223372036854775807)(b1 M c1:Nat)(hm:W.cell? ⟨b0,sw,none⟩=some (.slice (some ⟨b1,0,none⟩) M c1))(hlt2:tab<M)(hM:M<=9223372036854775807)(A:Option Addr)(n c:Nat)(hl:W.cell? ⟨b1,tab,none⟩=some (.slice A n c))(hn:n<=9223372036854775807):Calls Tryz.prog 63 #[.pointer (some ⟨bx,0,none⟩),vEd ⟨(sw:Nat),(tab:Nat),(n:Nat),true,r⟩] W fun e W'=>e = .returned (.int .i64 4)/\Kp No W W':=by
 rw [iV]
 have p4:W.cell? ⟨bx,4,none⟩=some tb:=af hb rfl
 clear hb
 subst ht
 go_enter Tryz.func63,Tryz.ntmps63
 go_wp2_with fail
 have hE:=edw W ⟨(sw:Nat),(tab:Nat),(n:Nat),true,r⟩
 generalize W.alloc (.cells (edA ⟨(sw:Nat),(tab:Nat),(n:Nat),true,r⟩) 63)=We at hE ⊢
 have d0:=hE.c0
 have d1:=hE.c1
 have d2:=hE.c2
 have d3:=hE.c3
 have Hk:=kA4 hE.kp
 have ca:=hE.ca
 have p4':=ca _ _ p4
 have hm':=ca _ _ hm
 have hl':=ca _ _ hl
 clear hm hl
 clear hE p4 ca
 have q1:(sw:Int)<(N:Int):=by omega
 have z1:decide ((sw:Int)<0)=false:=qC (by omega)
 have z2:decide ((N:Int)<=(sw:Int))=false:=qC (by omega)
 have y2:decide (N<=sw)=false:=qC (by omega)
 have q2:(tab:Int)<(M:Int):=by omega
 have z3:decide ((tab:Int)<0)=false:=qC (by omega)
 have z4:decide ((M:Int)<=(tab:Int))=false:=qC (by omega)
 have y4:decide (M<=tab)=false:=qC (by omega)
 have z5:decide ((n:Int)<0)=false:=qC (by omega)
 have z6:decide ((n:Int)<(n:Int))=false:=qC (by omega)
 go_quiet (fail)
 go_wp2_with fail
 go_quiet (fail)
 go_wp2_with fail
 go_quiet (fail)
 go_wp2_with fail
 all_goals (go_ret;exact⟨rfl,(by repeat (first|exact Hk.out|refine Kp.drewN ?_ _))⟩)
theorem D5 (W:World)(bx:Nat)(tp pe wy tb:Value)(ten:Int)(r:Rl)(hb:W.heap[bx]?=some (.cells #[tp,.int .i64 ten,pe,wy,tb] 31 (0,0)))(sw tab a:Nat)(b0 N c0:Nat)(ht:tb = .slice (some ⟨b0,0,none⟩) N c0)(hlt:sw<N)(hN:N<=9223372036854775807)(b1 M c1:Nat)(hm:W.cell? ⟨b0,sw,none⟩=some (.slice (some ⟨b1,0,none⟩) M c1))(hlt2:tab<M)(hM:M<=9223372036854775807)(A:Option Addr)(n c:Nat)(hl:W.cell? ⟨b1,tab,none⟩=some (.slice A n c))(hn:n<=9223372036854775807)(h3:a<n)(hz:r≠Rl.zero):Calls Tryz.prog 63 #[.pointer (some ⟨bx,0,none⟩),vEd ⟨(sw:Nat),(tab:Nat),(a:Nat),true,r⟩] W fun e W'=>e = .returned (.int .i64 1)/\Kp No W W':=by
 rw [iV]
 have p4:W.cell? ⟨bx,4,none⟩=some tb:=af hb rfl
 clear hb
 subst ht
 go_enter Tryz.func63,Tryz.ntmps63
 go_wp2_with fail
 have hE:=edw W ⟨(sw:Nat),(tab:Nat),(a:Nat),true,r⟩
 generalize W.alloc (.cells (edA ⟨(sw:Nat),(tab:Nat),(a:Nat),true,r⟩) 63)=We at hE ⊢
 have d0:=hE.c0
 have d1:=hE.c1
 have d2:=hE.c2
 have d3:=hE.c3
 have d4:=hE.c4
 have d5:=hE.c5
 have d6:=hE.c6
 have d7:=hE.c7
 have d8:=hE.c8
 have d9:=hE.c9
 have d10:=hE.c10
 have d11:=hE.c11
 have d12:=hE.c12
 have d13:=hE.c13
 have d14:=hE.c14
 have d15:=hE.c15
 have Hk:=kA4 hE.kp
 have ca:=hE.ca
 have p4':=ca _ _ p4
 have hm':=ca _ _ hm
 have hl':=ca _ _ hl
 clear hm hl
 clear hE p4 ca
 have q1:(sw:Int)<(N:Int):=by omega
 have z1:decide ((sw:Int)<0)=false:=qC (by omega)
 have z2:decide ((N:Int)<=(sw:Int))=false:=qC (by omega)
 have y2:decide (N<=sw)=false:=qC (by omega)
 have q2:(tab:Int)<(M:Int):=by omega
 have z3:decide ((tab:Int)<0)=false:=qC (by omega)
 have z4:decide ((M:Int)<=(tab:Int))=false:=qC (by omega)
 have y4:decide (M<=tab)=false:=qC (by omega)
 have z5:decide ((a:Int)<0)=false:=qC (by omega)
 have z6:decide ((n:Int)<(a:Int))=false:=qC (by omega)
 have y6:decide (n<a)=false:=qC (by omega)
 have z7:decide ((a:Int)=(n:Int))=false:=qC (by omega)
 go_quiet (fail)
 go_wp2_with fail
 go_quiet (fail)
 go_wp2_with fail
 go_quiet (fail)
 go_wp2_with fail
 all_goals first|exact absurd (CG (by assumption) (by assumption) (by assumption) (by assumption) (by assumption) (by assumption) (by assumption) (by assumption) (by assumption) (by assumption) (by assumption) (by assumption)) hz|skip
 all_goals (go_ret;exact⟨rfl,(by repeat (first|exact Hk.out|refine Kp.drewN ?_ _))⟩)
theorem Gw (x:Ed)(t:cz)(l:List Rl)(hl:kq t x=some l)(h0:0<=x.at_)(h1:x.at_<=l.length)(hg:x.gone=false)(hsm:l.length<=1000000000):rq x t:=by
 intro W bx tp pe wy tb ten bs hb hq hn hbx hlen
 obtain⟨sw,tab,m,e1,e2,g1,g2⟩:=eh hl
 have ho:dQ t x=(0,t.set sw (m.set tab (l.insertIdx x.at_.toNat x.rule))):=by
  unfold dQ
  simp only [hl]
  rw [if_neg (by rintro (h|h|⟨h,_⟩) <;> first|omega|(rw [hg] at h;cases h)),if_neg (by rw [hg];decide),qu e1 e2 g1]
 have hv:vEd x=zEd sw tab (x.at_.toNat:Nat) false x.rule:=by
  unfold vEd
  rw [e1,e2,hg,Int.toNat_of_nonneg h0]
 obtain⟨b0,c0,b1,c1,cur1,v,lb,rfl,hm,hh1,hc1,hlq,hlb,ht,hml,hb1,hb1l,hls,hset⟩:=fH.at hq hn g1 g2
 obtain⟨A,c,rfl⟩:=hlq.form
 rw [ho,hv]
 unfold maxLen at ht hml
 refine (Fj W bx tp pe wy _ ten b0 c0 t.length sw b1 c1 m.length tab x.at_.toNat _ A l.length c cur1 l lb hlq rfl ⟨hb,rfl,hm,hh1,hc1,rfl⟩ (qD.1 g1).1 (qD.1 g2).1 (by omega) (by omega) (by omega) hsm hb1l x.rule).mono ?_
 rintro e W' ⟨rfl,v',W1,⟨lb',hl1,hk1,hn1⟩,rfl⟩
 refine⟨rfl,?_,fun _=>?_⟩
 ·exact (hk1.mono fun z _ hz=>hls z hz).setCell (p:=⟨b1,tab,none⟩) (.inl hb1) v'
 ·exact hset W1 _ v' lb' hl1 hl1.nodup hn1 hk1
theorem qb {x:Ed}{t:cz}{e:Int}(he:(dQ t x).1=e)(hne:e≠0)(h:∀(W:World) (bx:Nat) (tp pe wy tb:Value) (ten:Int) (bs:List Nat),W.heap[bx]?=some (.cells #[tp,.int .i64 ten,pe,wy,tb] 31 (0,0))->fH W t tb bs->bs.Nodup->Calls Tryz.prog 63 #[.pointer (some ⟨bx,0,none⟩),vEd x] W fun e' W'=>e' = .returned (.int .i64 e)/\Kp No W W'):rq x t:=by
 intro W bx tp pe wy tb ten bs hb hq hn hbx hlen
 refine (h W bx tp pe wy tb ten bs hb hq hn).mono ?_
 rintro e' W' ⟨rfl,hk⟩
 exact⟨by rw [he],hk.mono fun _ _ h=>h.elim,fun h0=>absurd (he.symm.trans h0) hne⟩
theorem x6 {x:Ed}{t:cz}(h:kq t x=none):(dQ t x).1=4:=by
 unfold dQ
 simp only [h]
theorem vo {x:Ed}{t:cz}{l:List Rl}(h:kq t x=some l)(hr:x.at_<0\/(l.length:Int)<x.at_\/(x.gone=true/\x.at_=l.length)):(dQ t x).1=4:=by
 unfold dQ
 simp only [h]
 rw [if_pos hr]
theorem Ai {x:Ed}{t:cz}{l:List Rl}(h:kq t x=some l)(hr:¬(x.at_<0\/(l.length:Int)<x.at_\/(x.gone=true/\x.at_=l.length)))(hg:x.gone=true)(hz:x.rule≠Rl.zero):(dQ t x).1=1:=by
 unfold dQ
 simp only [h]
 rw [if_neg hr,if_pos hg,if_neg hz]
theorem Bm (x:Ed)(t:cz)(hsm:∀m∈t,∀l∈m,l.length<=1000000000):rq x t:=by
 cases hl:kq t x with
 |none=>
  refine qb (x6 hl) (by decide) fun W bx tp pe wy tb ten bs hb hq hn=>?_
  rcases Int.lt_or_le x.sw 0 with s0|s0
  ·exact Dx W bx tp pe wy tb ten x.rule hb x.sw x.tab x.at_ x.gone s0
  ·obtain⟨A,c0,rfl,_,_⟩:=hq.form
   rcases Int.lt_or_le x.sw t.length with s1|s1
   ·obtain⟨sw,hs⟩:∃sw:Nat,x.sw=sw:=⟨x.sw.toNat,by omega⟩
    have hlt:sw<t.length:=by omega
    have g1:t[sw]?=some t[sw]:=qA hlt
    obtain⟨b0,c0',cur0,u0,mb,e0,hh0,hc0,hm,ht,_⟩:=cd.at hq hn g1 fun W' x v bs=>eX.keep
    obtain⟨A1,c1,rfl,_,_⟩:=hm.form
    injection e0 with e1 _ e2
    subst e1 e2
    unfold maxLen at ht
    obtain⟨xs,xt,xa,xg,xr⟩:=x
    obtain rfl:xs=((sw:Nat):Int):=hs
    rcases Int.lt_or_le xt 0 with a0|a0
    ·exact C5 W bx tp pe wy _ ten xr hb sw xt xa xg b0 t.length c0 rfl hlt (by omega) A1 t[sw].length c1 (af hh0 hc0) a0
    ·rcases Int.lt_or_le xt t[sw].length with a1|a1
     ·exfalso
      have h2:xt.toNat<t[sw].length:=by omega
      unfold kq at hl
      simp only at hl
      rw [if_neg (by omega),vQ,g1,Option.bind_some,qA h2] at hl
      cases hl
     ·exact Ey W bx tp pe wy _ ten xr hb sw xt xa xg b0 t.length c0 rfl hlt (by omega) A1 t[sw].length c1 (af hh0 hc0) a0 a1
   ·exact EJ W bx tp pe wy _ ten x.rule hb x.sw x.tab x.at_ x.gone A t.length c0 rfl s0 s1
 |some l=>
  by_cases hr:x.at_<0\/(l.length:Int)<x.at_\/(x.gone=true/\x.at_=l.length)
  ·refine qb (vo hl hr) (by decide) fun W bx tp pe wy tb ten bs hb hq hn=>?_
   obtain⟨sw,tab,m,e1,e2,g1,g2⟩:=eh hl
   obtain⟨b0,c0,b1,c1,cur1,v,lb,rfl,hm,hh1,hc1,hlq,hlb,ht,hml,_⟩:=fH.at hq hn g1 g2
   obtain⟨A,c,rfl⟩:=hlq.form
   unfold maxLen at ht hml
   have hsl:=hsm m (qN g1) l (qN g2)
   have l1:=(qD.1 g1).1
   have l2:=(qD.1 g2).1
   obtain⟨xs,xt,xa,xg,xr⟩:=x
   obtain rfl:xs=((sw:Nat):Int):=e1
   obtain rfl:xt=((tab:Nat):Int):=e2
   simp only at hr
   by_cases r1:xa<0
   ·exact Dm W bx tp pe wy _ ten xr hb sw tab xa xg b0 t.length c0 rfl l1 (by omega) b1 m.length c1 hm l2 (by omega) A l.length c (af hh1 hc1) (by omega) r1
   ·by_cases r2:(l.length:Int)<xa
    ·exact CJ W bx tp pe wy _ ten xr hb sw tab xa xg b0 t.length c0 rfl l1 (by omega) b1 m.length c1 hm l2 (by omega) A l.length c (af hh1 hc1) (by omega) (by omega) r2
    ·obtain⟨r3,r4⟩:=(hr.resolve_left r1).resolve_left r2
     subst r3 r4
     exact D1 W bx tp pe wy _ ten xr hb sw tab b0 t.length c0 rfl l1 (by omega) b1 m.length c1 hm l2 (by omega) A l.length c (af hh1 hc1) (by omega)
  ·have r1:0 <= x.at_ := by
    rcases Int.lt_or_le x.at_ 0 with h|h
    ·exact absurd (.inl h) hr
    ·exact h
   have r2:x.at_<=l.length:=by
    rcases Int.lt_or_le (l.length:Int) x.at_ with h|h
    ·exact absurd (.inr (.inl h)) hr
    ·exact h
   cases hg:x.gone with
   |false=>
    obtain⟨sw,tab,m,e1,e2,g1,g2⟩:=eh hl
    exact Gw x t l hl r1 r2 hg (hsm m (qN g1) l (qN g2))
   |true=>
    have r3:x.at_<l.length:=by
     rcases Int.lt_or_le x.at_ l.length with h|h
     ·exact h
     ·exact absurd (.inr (.inr ⟨hg,by omega⟩)) hr
    by_cases hz:x.rule=Rl.zero
    ·exact AG x t l hl r1 r3 hg hz
    ·refine qb (Ai hl hr hg hz) (by decide) fun W bx tp pe wy tb ten bs hb hq hn=>?_
     obtain⟨sw,tab,m,e1,e2,g1,g2⟩:=eh hl
     obtain⟨b0,c0,b1,c1,cur1,v,lb,rfl,hm,hh1,hc1,hlq,hlb,ht,hml,_⟩:=fH.at hq hn g1 g2
     obtain⟨A,c,rfl⟩:=hlq.form
     unfold maxLen at ht hml
     have hsl:=hsm m (qN g1) l (qN g2)
     have l1:=(qD.1 g1).1
     have l2:=(qD.1 g2).1
     obtain⟨xs,xt,xa,xg,xr⟩:=x
     obtain rfl:xs=((sw:Nat):Int):=e1
     obtain rfl:xt=((tab:Nat):Int):=e2
     obtain rfl:xg=true:=hg
     simp only at r1 r3
     obtain⟨an,rfl⟩:∃an:Nat,xa=an:=⟨xa.toNat,by omega⟩
     exact D5 W bx tp pe wy _ ten xr hb sw tab an b0 t.length c0 rfl l1 (by omega) b1 m.length c1 hm l2 (by omega) A l.length c (af hh1 hc1) (by omega) (by omega) hz
structure fX (t0 t:cz)(B:Nat):Prop where
 len:t.length=t0.length
 mid:∀m∈t,∃m0∈t0,m.length=m0.length
 leaf:∀m∈t,∀l∈m,l.length<=B
theorem fX.mono {t0 t:cz}{B B':Nat}(h:fX t0 t B)(hB:B<=B'):fX t0 t B':=⟨h.len,h.mid,fun m hm l hl=>vH (h.leaf m hm l hl) hB⟩
theorem fX.set {t0 t:cz}{B:Nat}{x:Ed}{l l':List Rl}(h:fX t0 t B)(hl:kq t x=some l)(hl':l'.length<=B+1):fX t0 (Bk t x l') (B+1):=by
 obtain⟨sw,tab,m,e1,e2,g1,g2⟩:=eh hl
 rw [qu e1 e2 g1]
 have key:∀m'∈t.set sw (m.set tab l'),m'∈t\/m'=m.set tab l':=fun m' hm'=>List.mem_or_eq_of_mem_set hm'
 refine⟨by rw [vF];exact h.len,fun m' hm'=>?_,fun m' hm' a ha=>?_⟩
 ·rcases key m' hm' with h1|rfl
  ·exact h.mid m' h1
  ·obtain⟨m0,h0,h2⟩:=h.mid m (qN g1)
   exact⟨m0,h0,by rw [vF];exact h2⟩
 ·rcases key m' hm' with h1|rfl
  ·exact Nat.le_succ_of_le (h.leaf m' h1 a ha)
  ·rcases List.mem_or_eq_of_mem_set ha with h1|rfl
   ·exact Nat.le_succ_of_le (h.leaf m (qN g1) a h1)
   ·exact hl'
theorem Ax {t:cz}{x:Ed}{l:List Rl}(hl:kq t x=some l):∃m∈t,l∈m:=by
 obtain⟨sw,tab,m,e1,e2,g1,g2⟩:=eh hl
 exact⟨m,qN g1,qN g2⟩
theorem fX.one {t0 t:cz}{B:Nat}(x:Ed)(h:fX t0 t B):fX t0 (dQ t x).2 (B+1):=by
 unfold dQ
 cases hl:kq t x with
 |none=>exact h.mono (Nat.le_succ _)
 |some l=>
  obtain⟨m,hm,hlm⟩:=Ax hl
  have hb:=h.leaf m hm l hlm
  simp only
  split
  ·exact h.mono (Nat.le_succ _)
  ·split
   ·split
    ·refine h.set hl ?_
     have:=List.length_eraseIdx_le l x.at_.toNat
     omega
    ·exact h.mono (Nat.le_succ _)
   ·refine h.set hl ?_
    rw [List.length_insertIdx]
    split <;> omega
theorem fX.app {t0:cz}:∀(E:List Ed) (t:cz) (B:Nat),fX t0 t B->fX t0 (aC t E).2 (B+E.length)
 |[],t,B,h=>h
 |x::E,t,B,h=>by
  unfold aC
  split
  ·have:=fX.app E _ _ (h.one x)
   rw [qS]
   exact this.mono (by omega)
  ·exact (h.one x).mono (by rw [qS];omega)
theorem lm {c:Cf}(h0:c.sound=0)(hL:c.Lens):fX c.tables c.tables 576:=by
 refine⟨rfl,fun m hm=>⟨m,hm,rfl⟩,fun m hm l hl=>?_⟩
 have h:=xA h0 hL
 rw [qo] at h
 refine vH ?_ h
 obtain⟨a,b,e⟩:=List.append_of_mem hm
 obtain⟨a2,b2,e2⟩:=List.append_of_mem hl
 unfold bu
 rw [e,e2]
 simp only [List.flatten_append,uN,qK]
 omega
theorem fX.fit {c:Cf}{t:cz}{B:Nat}(hf:c.Fit)(h:fX c.tables t B)(hB:B<=1000000):Cf.Fit { c with tables:=t }:=by
 have hb:=bK
 obtain⟨f1,f2,f3,f4,f5,f6,f7⟩:=hf
 refine⟨f1,f2,f3,f4,by show t.length*_<=_;rw [h.len];exact f5,fun m hm=>?_,fun m hm l hl=>?_⟩
 ·obtain⟨m0,h1,h2⟩:=h.mid m hm
  rw [h2]
  exact f6 m0 h1
 ·have:=h.leaf m hm l hl
  omega
theorem fX.lens {c:Cf}{t:cz}{B:Nat}(h:fX c.tables t B)(hB:B<=1000000):(c.put t).Lens:=by
 intro m hm l hl
 have:=h.leaf m hm l hl
 rw [bK]
 omega
theorem fX.fitp {c:Cf}{t:cz}{B:Nat}(hf:c.Fit)(h:fX c.tables t B)(hB:B<=1000000):(c.put t).Fit:=h.fit hf hB
theorem zd (c:Cf)(E:List Ed)(h0:c.sound=0)(hL:c.Lens)(hf:c.Fit)(hE:E.length<=1000):aa Tryz.prog 31 [.agg (cCf c),.sl (E.map cEd)] (cR c (aC c.tables E)):=by
 have hs:=lm h0 hL
 have key:∀k t,k<=E.length->aC c.tables (E.take k)=(0,t)->fX c.tables t 1576:=fun k t hk ht=>by
  have:=hs.app (E.take k)
  rw [ht] at this
  exact this.mono (by rw [vG];omega)
 refine xv c E hf (fun k x t hx ht=>?_) fun k t hk ht=>(key k t hk ht).fit hf (by omega)
 have hk:k<=E.length:=Nat.le_of_lt (qD.1 hx).1
 exact Bm x t fun m hm l hl=>vH ((key k t hk ht).leaf m hm l hl) (by omega)
theorem ze {c:Cf}{E:List Ed}(h0:c.sound=0)(hL:c.Lens)(hE:E.length<=1000):(c.put (aC c.tables E).2).Lens:=((lm h0 hL).app E).lens (by omega)
theorem Cv {c:Cf}{E:List Ed}(h0:c.sound=0)(hL:c.Lens)(hf:c.Fit)(hE:E.length<=1000):(c.put (aC c.tables E).2).Fit:=((lm h0 hL).app E).fitp hf (by omega)
theorem iu.like {ps:List Cb}{k:Kn}(hk:iu ps k){a:aG}(ha:a∈k.ats){h g:Hd}(hh:ar a.pile h=true)(hg:ar a.pile g=true):rM ps h g:=fun p hp=>by
 obtain⟨e,he,rfl⟩:=cw.1 ((hk.all p).1 hp)
 have q:=hk.ok.parts.ok a ha
 have h1:=q.at_ h hh e he
 have h2:=q.at_ g hg e he
 rw [Bool.eq_iff_iff]
 exact h1.symm.trans h2
theorem sg (c:Cf)(v:Nat)(hv:v<=255)(h0:c.sound=0)(hl:(aL c (v:Int)).length<=500){k:Kn}(hk:iu (bC c v) k) :
  (dg c (v:Int) k.ats=vdE 1 0/\∀s∈aI c.topo.ports,∀h,cv c s (bD c s h v 10800)=0) \/
  (∃s h,s∈aI c.topo.ports/\cv c s (bD c s h v 10800)≠0/\dg c (v:Int) k.ats=⟨2,0,cv c s (bD c s h v 10800),s,h,bD c s h v 10800⟩):=by
 have hc:=Cf.ok h0
 obtain⟨hsnd,hask⟩:=j5 hc (v:Int)
 have hp:=cH (aL c (v:Int))
 have hA:=hask (by omega)
 rw [dg,qE (x7 h0 hv),cond_true]
 rcases lM c v k.ats (aI c.topo.ports) with⟨h3,h4⟩|⟨s,hs,a,ha,h3,h4⟩
 ·refine .inl ⟨h3,fun s hs h=>?_⟩
  obtain⟨a,ha,hh⟩:=hk.ok.parts.all h
  have hlike:rM (aL c (v:Int)) h a.head:=fun p hpp=>hk.like ha hh (hk.ok.parts.ok a ha).head p (hp.mem_iff.2 hpp)
  rw [(lS hc hA hs hlike 10800).wrong c s,<- po h0 hs]
  exact h4 s hs a ha
 ·rw [po h0 hs] at h3 h4
  exact .inr ⟨s,a.head,hs,h3,h4⟩
theorem Al {c:Cf}{v:Nat}{k:Kn}(h0:c.sound=0)(hk:gM k):((aU c v k).2=0\/(aU c v k).2=10\/(aU c v k).2=11)/\((aU c v k).2=0->(aL c (v:Int)).length<=500/\iu (bC c v) (aU c v k).1/\(aU c v k).1.next<=k.next+500/\(aU c v k).1.es.length<=500):=by
 unfold aU
 by_cases h1:(aL c (v:Int)).length>500
 ·rw [qE h1]
  exact⟨.inr (.inl rfl),fun h=>by cases h⟩
 ·rw [qC h1,cond_false]
  have hl:(bC c v).length<=500:=by
   rw [bC,(cH _).length_eq]
   omega
  obtain⟨g1,g2,g3⟩:=BP hk (gG h0 v) (et c v) hl
  refine⟨g1,fun h=>?_⟩
  obtain⟨g4,g5,_⟩:=g2 h
  exact⟨by omega,g4,g5,vH g4.len hl⟩
theorem zv {c:Cf}{v:Nat}(h:(dJ c (v:Nat)).kind=1):iu (bC c v) (aO (bC c v)).1/\(aO (bC c v)).1.next<=500/\(aO (bC c v)).1.es.length<=500:=by
 obtain⟨_,_,h0,h5,ha⟩:=iG h
 have hl:(bC c v).length<=500:=by
  rw [bC,(cH _).length_eq]
  exact h5
 have g:=(lF (gG h0 v) (et c v) hl).2 ha
 exact⟨g,hl,vH g.len hl⟩
def dK (c:Cf)(E:List Ed):Cf:=c.put (aC c.tables E).2
structure mq (c:Cf)(V:Nat)(k:Kn)(B:Nat):Prop where
 v:V<=255
 sound:c.sound=0
 lens:c.Lens
 fit:c.Fit
 kn:iu (bC c V) k
 next:k.next<=B
 len:k.es.length<=500
def NoV (c:Cf)(V:Nat)(E:List Ed)(v:Vd):Prop :=
 (il c E≠0/\v=vdE 3 (il c E))\/(il c E=0/\(v=vdE 4 10\/v=vdE 4 11)) \/
 (il c E=0/\∃s h,s∈aI (dK c E).topo.ports/\cv (dK c E) s (bD (dK c E) s h V 10800)≠0/\v=⟨2,0,cv (dK c E) s (bD (dK c E) s h V 10800),s,h,bD (dK c E) s h V 10800⟩)
theorem yL (c:Cf)(V:Nat)(k:Kn)(B:Nat)(E:List Ed)(h:mq c V k B)(hB:B <= 1000000)(hE:E.length <= 1000) :
  (∃v,NoV c V E v/\∀q,aj Tryz.prog 14 [.own 300 0 0,.sl (E.map cEd)] (gl q [300,301] (lvB c V k)) (.agg (cVd v)) (gl q [300,301] (lvB c V k))) \/
  (il c E=0/\(∀s∈aI (dK c E).topo.ports,∀h,cv (dK c E) s (bD (dK c E) s h V 10800)=0)/\∃k1,mq (dK c E) V k1 (B+500) /\
   ∀q,aj Tryz.prog 14 [.own 300 0 0,.sl (E.map cEd)] (gl q [300] (lvB c V k)) (.agg (cVd (vdE 1 0))) (gl q [300] [(300,⟨0,some (.box 96 (lvC 302 (dK c E) V k1))⟩),(302,⟨0,some (bH k1.es k1.clk)⟩)])):=by
 have hA:=zd c E h.sound h.lens h.fit hE
 have hL:=ze (E:=E) h.sound h.lens hE
 have hf:=Cv (E:=E) h.sound h.lens h.fit hE
 by_cases ht:il c E=0
 ·have hs:(dK c E).sound = 0 := by
   have h2:=ht
   unfold il at h2
   split at h2
   ·exact h2
   ·rename_i h3
    exact absurd h2 h3
  obtain⟨g1,g2⟩:=Al (v:=V) hs h.kn.ok
  have hn:=h.next
  have hkn:k.next<=100000000:=by omega
  by_cases hr:(aU (dK c E) V k).2=0
  ·obtain⟨g3,g4,g5,g6⟩:=g2 hr
   rcases sg (dK c E) V h.v hs g3 g4 with⟨o1,o2⟩|⟨s,hd,o1,o2,o3⟩
   ·refine .inr ⟨ht,o2,(aU (dK c E) V k).1,⟨h.v,hs,hL,hf,g4,by omega,g6⟩,fun q=>?_⟩
    have:=rL c V k E hA ht (dK c E) rfl hL h.v h.kn.ok hkn h.len hr (by rw [o1];rfl) q
    rw [o1] at this
    exact this
   ·refine .inl ⟨_,.inr (.inr ⟨ht,s,hd,o1,o2,rfl⟩),fun q=>?_⟩
    have:=wV c V k E hA ht (dK c E) rfl hL h.v h.kn.ok hkn h.len hr (by rw [o3];exact fun h=>absurd (show (2:Int)=1 from h) (by decide)) q
    rw [o3] at this
    exact this
  ·refine .inl ⟨vdE 4 (aU (dK c E) V k).2,.inr (.inl ⟨ht,?_⟩),fun q=>Aw c V k E hA ht (dK c E) rfl hL h.v h.kn.ok hkn h.len hr q⟩
   rcases g1 with g|g|g
   ·exact absurd g hr
   ·rw [g];exact .inl rfl
   ·rw [g];exact .inr rfl
 ·exact .inl ⟨_,.inl ⟨ht,rfl⟩,fun q=>Bq c V k E hA ht q⟩
theorem Gy {c:Cf}{V:Nat}(hL:c.Lens)(hf:c.Fit)(hj:(dJ c (V:Nat)).kind=1):mq c V (aO (bC c V)).1 500:=by
 obtain⟨g1,g2,g3⟩:=zv hj
 obtain⟨_,⟨v',e,hv⟩,h0,_,_⟩:=iG hj
 exact⟨by omega,h0,hL,hf,g1,g2,g3⟩
theorem aj.frzR {P:Program}{f:FuncId}{args:List AV}{b0 b1 b1':List (Nat × SB)}{r r':AV}(l:List Nat)(h:aj P f args b0 r b1)(hr:RnF l (lkB b1) (lkB b1') r r')
  (hB:WkB ⟨fun _=>.any,lkB b1⟩ (lkB b1') b1') (hd:(l.all fun i=>(lkB b1' i).body.isNone)=true):aj P f args b0 r' b1':=by
 refine⟨h.fn,fun W F μ vs hv hra hi=>(h.calls W F μ vs hv hra hi).mono ?_⟩
 rintro e W' ⟨v,F',μ',e1,e2,e3,e4⟩
 have hb:∀id bd',(lkB b1' id).body=some bd'->∃bd,(lkB b1 id).body=some bd/\r6 l (lkB b1) (lkB b1') bd bd':=fun id bd' e=>by
  obtain⟨bd,h1,h2⟩:=fm hB id bd' e
  exact⟨bd,h1,.rn h2⟩
 obtain⟨hi',hs⟩:=n9 e2 hb fun i hi2=>by simpa using qV.1 hd i hi2
 exact⟨v,_,μ',e1,hi',e3.trans hs,hr.rel e2 e4⟩
theorem AtQ.plen {es:List CE}{a:aG}(h:AtQ es a):a.pile.length<=200:=by
 have:=h.pile
 rw [ai,qQ,vM] at this
 exact this.1
theorem DQ (c:Cf)(V:Nat)(k:Kn)(hk:gM k)(he:k.es.length<=500)(q:Nat->Option (Nat × Nat)):aj Tryz.prog 17 [.own 300 0 0] (gl q [300,301] (lvB c V k)) (.sl (k.ats.map av)) (gl q [300,301] (lvB c V k)):=by
 have key:aj Tryz.prog 17 [.own 300 0 0] (gl q [300,301] (lvB c V k)) (.row 3 0 0 (k.ats.map av).length) (gl q [300,301] (lvB c V k++[(3,⟨0,some (.row 75 4 (k.ats.map av))⟩)])):=by
  refine aj.of_body Tryz.func17 rfl (by kernel_rfl) rfl rfl ?_
  have hat:=hk.parts.ok
  have hal:=hk.parts.len
  rw [lvB,lvC]
  generalize dL (bP (cG c))=rt
  refine jA ?_
  refine AW.condF rfl ?_
  refine zB ?_
  refine RG.opS rfl (bT 3 75 4 rfl) rfl ?_
  refine jH ?_
  refine AW.loopL (ι:=Nat) (fun i=>[(0,.own 300 0 0),(3,.row 3 0 0 ((k.ats.take i).map av).length),(12,.sl (k.ats.map av)),(13,.i .i64 (k.ats.map av).length),(14,.i .i64 (i:Nat))]) (fun i=>gl q [300,301] ([(300,⟨0,some (.box 96 [.sl (c.topo.ports.map aP),.i .i64 c.pol.tenants,.sl (c.pol.peers.map cPr),.sl (c.pol.ways.map cWy),.sl (c.tables.map bY),.i .i64 (V:Nat),.ref 301 0 .map,.i .i64 (k.next:Nat),.sl (k.ats.map av),.ro rt])⟩),(301,⟨0,some (bH k.es k.clk)⟩),(3,⟨0,some (.row 75 4 ((k.ats.take i).map av))⟩)])) (fun i=>i<=k.ats.length) (fun i=>k.ats.length-i) 0 (qR _) jW ⟨.ghost rfl rfl rfl,.ghost rfl rfl rfl,.boxL rfl jQ rfl,.obj rfl rfl,bR rfl rfl,trivial⟩ fun i hi=>?_
  refine jA ?_
  refine AW.cond rfl (fun h0=>?_) (fun h0=>?_)
  ·have h:i<k.ats.length:=by simpa using h0
   have hx:k.ats[i]?=some k.ats[i]:=qA h
   have hsn:k.ats.take (i+1)=k.ats.take i++[k.ats[i]]:=(List.take_append_getElem h).symm
   have ha:=hat k.ats[i] (vR h)
   have hkx:(k.ats.map av)[i]?=some (av k.ats[i]):=by rw [qF,hx];rfl
   have hol:(k.ats.take i).length<=600:=by rw [vG];omega
   generalize k.ats[i]=a at hsn ha hkx
   have h1:=iy a.ids (by have:=ha.len;omega)
   have h2:=gF a.ids
   have h3:=jP a.pile (by have:=ha.plen;omega)
   have h4:=eI a.pile
   have hm:k.ats.length<=9223372036854775807:=by omega
   refine jA ?_
   refine jx hkx ?_
   refine jH ?_
   refine jm h1 ?_
   refine jH ?_
   refine jm h2 ?_
   refine jH ?_
   refine jm h3 ?_
   refine jH ?_
   refine jm h4 ?_
   refine jH ?_
   refine RG.opS rfl (bI av (k.ats.take i) a (by omega) rfl rfl rfl rfl (tk rfl) rfl (tk rfl) rfl rfl ⟨_,rfl,rfl⟩ rfl rfl) rfl ?_;refine jH ?_
   refine⟨i+1,⟨h,by show k.ats.length-(i+1)<k.ats.length-i;omega⟩,?_,?_⟩
   ·rw [hsn]
    exact jV
   ·rw [hsn]
    exact⟨.ghost rfl rfl rfl,.ghost rfl rfl rfl,.boxL rfl jQ rfl,.obj rfl rfl,bR rfl rfl,trivial⟩
  ·have h:¬i<k.ats.length:=by simpa using h0
   obtain rfl:i=k.ats.length:=by omega
   refine zE ?_
   refine jA ?_
   rw [uM]
   exact AW.ret (dW rfl (Rm.rowIs rfl rfl rfl rfl) ⟨.ghost rfl rfl rfl,.ghost rfl rfl rfl,.boxL rfl jQ rfl,.obj rfl rfl,.row rfl rfl,trivial⟩)
 rw [lvB,lvC] at key ⊢
 generalize dL (bP (cG c))=rt at key ⊢
 exact aj.frzR [3] key (.fzA rfl rfl (by rw [uR,uM])) ⟨.ghost rfl rfl rfl,.ghost rfl rfl rfl,.boxL rfl jQ rfl,.obj rfl rfl,trivial⟩ rfl
theorem BQ (p:List Cb)(h:Hd)(q:Bool)(hq:ar p h=q)(hp:p.length<=1000000):aa Tryz.prog 18 [.sl (p.map cCb),.agg (cHd h)] (.b q):=by
 subst hq
 refine jb Tryz.func18 ?_
 refine jA ?_
 refine AW.loopL (ι:=Nat) (fun k=>[(0,.sl (p.map cCb)),(3,.own 3 0 0),(5,.i .i64 (k:Nat))]) (fun _=>[(3,⟨0,some (.box 34 (cHd h))⟩)]) (fun k=>k<=p.length/\ar p h=ar (p.drop k) h) (fun k=>p.length-k) 0 ⟨qR _,rfl⟩ jW jW fun k hk=>?_
 obtain⟨hk,hf⟩:=hk
 have hm:p.length<=9223372036854775807:=by omega
 refine jA ?_
 refine AW.cond rfl (fun g=>?_) (fun g=>?_)
 ·have hl:k<p.length:=by simpa using g
  have hx:(p.map cCb)[k]?=some (cCb p[k]):=by rw [qF,qA hl];rfl
  rw [qT hl] at hf
  generalize p[k]=c at hx hf
  rw [show ar (c::p.drop (k+1)) h=(c.has h || ar (p.drop (k+1)) h) from List.any_cons] at hf
  cases hs:c.sound
  ·have hno:c.has h=false:=by rw [Cb.has,hs,uI]
   rw [hno,Bool.false_or] at hf
   refine jA ?_
   refine jx hx ?_
   refine jH ?_
   refine jc (rh c false hs) ?_
   refine jH ?_
   refine AW.condF rfl ?_
   refine jA ?_
   exact⟨k+1,⟨⟨hl,hf⟩,by omega⟩,jV,jW⟩
  ·have hH:=rr c h hs _ rfl
   refine jA ?_
   refine jx hx ?_
   refine jH ?_
   refine jc (rh c true hs) ?_
   refine jH ?_
   generalize c.has h=b at hH hf
   refine jc hH ?_
   cases b
   ·rw [Bool.false_or] at hf
    refine jH ?_
    refine AW.condF rfl ?_
    refine jA ?_
    exact⟨k+1,⟨⟨hl,hf⟩,by omega⟩,jV,jW⟩
   ·rw [Bool.true_or] at hf
    refine jH ?_
    refine AW.condT rfl ?_
    refine zR ?_
    rw [hf]
    rfl
 ·have hl:¬k<p.length:=by simpa using g
  obtain rfl:k=p.length:=by omega
  rw [vJ] at hf
  refine zE ?_
  refine zR ?_
  rw [hf]
  rfl
end Go.Proofs.YtdidjpohnopihaaGreat.Sm
end
