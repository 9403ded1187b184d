/- Contracts of the program's functions over data, and the plain laws that they meet (part 8). No condition. -/
import Derived.Test.YtdidjpohnopihaaGreatVng
import Derived.WalkKit
import Derived.WalkSpells
import Derived.WalkLawsBesides
import Derived.Lib.Hide
import Derived.Deep.RegionHeld3
import Derived.Maps.AppendAt
import Derived.KernelRfl
import Derived.Lib.AppendStr
import Derived.Orders
import Derived.LoopTactic
import Derived.Laws.CopyRow
import Derived.Laws.Cells
import Derived.OrdersIn
import Derived.Laws.Externs
import Derived.TacticsIn
import Derived.RangeFuncLeaves
import Derived.RangeFuncRecord
import Derived.Great.BuildSlice
import Derived.Laws.ResultCell
import Derived.Laws.StructEq
import Derived.Laws.MakeOwn
import Derived.Lib.AppendZerosOnto
import Derived.RangeFuncSeq
import Derived.RangeFuncIn
import Derived.Deep.Slices
import Derived.Deep.Fields
import Derived.ChangeSame
import Derived.ProofKit
import Derived.OpenShut
import Derived.SizedLaws
import Derived.Test.YtdidjpohnopihaaGreatProg
import Derived.Shelf.Spec.BitsCarry
import Derived.Laws.AppendOwn
import Derived.DeepKeys4
import Derived.MapKept
import Derived.Maps.Own
import Derived.Maps.OwnOps
import Derived.StillTailTactics
import Derived.Laws.OwnMore
import Derived.Sort.AssemblyPlain
import Derived.Sort.LotD4
import Derived.Sort.Walk13a
import Derived.Shelf.Sort.Plain
import Derived.Sort.OwnSortedInts
import Derived.Sort.LotA
import Derived.Sort.MapsRangeIn
import Derived.Maps.RangeWalk
import Derived.Laws.IdiomRangeMap
import Derived.Shelf.SlSortCmp.WholeK
import Derived.Ground.SlsfProg
import Derived.Ground.NamesProg
import Derived.Shelf.SlSortCmp.NoneTotal
set_option linter.unusedVariables false
set_option linter.unusedSimpArgs false
set_option maxRecDepth 100000
set_option maxHeartbeats 4000000
section
namespace Go.Proofs.YtdidjpohnopihaaGreat.Sm
open Go.RowKit
inductive RnBG (l:List Nat) (σ σ':Sto):Body->Body->Prop where
 | rn {b b':Body} (h:RnB σ σ' b b'):RnBG l σ σ' b b'
 | box {t:TypeId} {cs cs':List AV} (hl:cs'.length=cs.length) (h1:∀(j:Nat) (x:AV),cs'[j]?=some x->x.one=true) (h:∀(j:Nat) (x x':AV),cs[j]?=some x->cs'[j]?=some x'->RnF l σ σ' x x'):RnBG l σ σ' (.box t cs) (.box t cs')
 | nest {t:TypeId} {cs cs':List AV} (hl:cs'.length=cs.length) (h1:∀(j:Nat) (x:AV),cs'[j]?=some x->x.one=true) (h:∀(j:Nat) (x x':AV),cs[j]?=some x->cs'[j]?=some x'->RnF l σ σ' x x'):RnBG l σ σ' (.nest t cs) (.nest t cs')
theorem RnBG.rel {W:World} {F:Nat->Prop} {μ:Mu} {l:List Nat} {σ σ':Sto} (hi:Inv W F μ σ) {bd bd':Body} (hR:RnBG l σ σ' bd bd') {p:Option (Nat × Nat)} (hB:BodyRel W F μ σ p bd):BodyRel W (fun b=>F b\/Beh μ σ l b) μ σ' p bd':=by
 have up:∀{σ:Sto} {bd:Body},BodyRel W F μ σ p bd->BodyRel W (fun b=>F b\/Beh μ σ' l b\/Beh μ σ l b) μ σ p bd->True:=fun _ _=>trivial
 cases hR with
 | rn hR =>
  have h:=hR.rel hB
  cases bd' with
  | box t cs =>
   obtain ⟨b,c,vs,h1,h2,h3,h4⟩:=h
   exact ⟨b,c,vs,h1,h2,h3,fun j x v hj hv=>⟨(h4 j x v hj hv).1,(h4 j x v hj hv).2.toF fun b hb=>.inl hb⟩⟩
  | row t m els =>
   rcases h with h | ⟨b,cap,cur,h1,h2,h3,h4,h5,h6,h7⟩
   ·exact .inl h
   ·exact .inr ⟨b,cap,cur,h1,h2,h3,h4,h5,h6,fun k cs j x hk hj=>by obtain ⟨q1,v,q2,q3⟩:=h7 k cs j x hk hj;exact ⟨q1,v,q2,q3.to fun b hb=>.inl hb⟩⟩
  | ghost id ep q=>exact h
  | obj o=>exact h
  | nest t els =>
   rcases h with h | ⟨b,cap,cur,h1,h2,h3,h4,h5,h6⟩
   ·exact .inl h
   ·exact .inr ⟨b,cap,cur,h1,h2,h3,h4,h5,fun k x hk=>by obtain ⟨q1,v,q2,q3⟩:=h6 k x hk;exact ⟨q1,v,q2,q3.toF fun b hb=>.inl hb⟩⟩
 | @box t cs cs' hl h1 hrn =>
  obtain ⟨b,c,vs,hm,hw,hlv,hv⟩:=hB
  refine ⟨b,c,vs,hm,hw,by rw [hlv,hl],fun j x' v hj hvj=>⟨h1 j x' hj,?_⟩⟩
  obtain ⟨x,hxj⟩:∃x,cs[j]?=some x:=⟨_,List.getElem?_eq_getElem (by rw [<- hl];exact (List.getElem?_eq_some_iff.1 hj).1)⟩
  exact (hrn j x x' hxj hj).rel hi (hv j x v hxj hvj).2
 | @nest t els els' hl h1 hrn =>
  rcases hB with ⟨hn,rfl⟩ | ⟨b,cap,cur,hp,hh,q1,q2,q3,q4⟩
  ·exact .inl ⟨hn,List.length_eq_zero_iff.1 hl⟩
  ·refine .inr ⟨b,cap,cur,hp,hh,by omega,q2,q3,fun k x' hk=>⟨h1 k x' hk,?_⟩⟩
   obtain ⟨x,hx⟩:∃x,els[k]?=some x:=⟨_,List.getElem?_eq_getElem (by rw [<- hl];exact (List.getElem?_eq_some_iff.1 hk).1)⟩
   obtain ⟨_,v,hv,hr'⟩:=q4 k x hx
   exact ⟨v,hv,(hrn k x x' hx hk).rel hi hr'⟩
theorem freeze_inv {W : World} {F : Nat -> Prop} {μ : Mu} {σ σ' : Sto} (hi : Inv W F μ σ) {l : List Nat} (hB : ∀ id bd', (σ' id).body = some bd' -> ∃ bd, (σ id).body = some bd /\ RnBG l σ σ' bd bd') (hd : ∀ i ∈ l, (σ' i).body = none) :
  Inv W (fun b=>F b\/Beh μ σ l b) μ σ'/\Stq W F μ σ W (fun b=>F b\/Beh μ σ l b) μ σ':=by
 have own:∀x,Own μ σ' x->Own μ σ x/\¬Beh μ σ l x:=fun x ⟨id,ep,bd,c,h1,h2⟩=>by
  obtain ⟨bd0,h3,_⟩:=hB id bd (by rw [h1])
  refine ⟨⟨id,(σ id).ep,bd0,c,by rw [<- h3],h2⟩,fun ⟨id',g1,ep',bd',c',g2,g3⟩=>?_⟩
  have:=hi.inj id id' x c c' (by rw [h3];rfl) (by rw [g2];rfl) h2 g3
  subst this
  have:=hd _ g1
  rw [h1] at this
  cases this
 refine ⟨⟨fun id ep bd hb=>?_,fun x hx=>⟨(hi.apart x (own x hx).1).1,fun hF=>hF.elim (hi.apart x (own x hx).1).2 (own x hx).2⟩,fun id id' x c c' h1 h2=>?_,fun x hx=>hx.elim (hi.old x) fun ⟨id,_,ep,bd,c,h1,h2⟩=>(hi.apart x ⟨id,ep,bd,c,h1,h2⟩).1,hi.lay.go (fun _ h=>.inl h) fun _ _=>rfl⟩,
  Kp.refl _ _,fun _ h=>.inl h,fun x hx=>hx.imp (fun h=>h) fun ⟨id,_,ep,bd,c,h1,h2⟩=>.inl ⟨id,ep,bd,c,h1,h2⟩,fun x hx=>.inl (own x hx).1⟩
 ·obtain ⟨bd0,h3,hR⟩:=hB id bd (by rw [hb])
  exact hR.rel hi (hi.body id (σ id).ep bd0 (by rw [<- h3]))
 ·have g : ∀ id, (σ' id).body.isSome = true -> (σ id).body.isSome = true := fun id hb => by
   obtain ⟨bd',e⟩:=Option.isSome_iff_exists.1 hb
   obtain ⟨bd,e',_⟩:=hB id bd' e
   rw [e'];rfl
  exact hi.inj id id' x c c' (g id h1) (g id' h2)
theorem FzL.mk {σ:Sto} {ys:List AV}:∀{xs:List AV},ys.length=xs.length->(∀(j:Nat) (x y:AV),xs[j]?=some x->ys[j]?=some y->∃l,Fz σ x y l/\∀i∈l,1000<=i)->∃l,FzL σ xs ys l/\∀i∈l,1000<=i:=by
 induction ys with
 | nil =>
  intro xs hl _
  obtain rfl:xs=[]:=List.length_eq_zero_iff.1 hl.symm
  exact ⟨[],.nil,fun i h=>by cases h⟩
 | cons y ys ih =>
  intro xs hl h
  cases xs with
  | nil=>cases hl
  | cons x xs =>
   obtain ⟨l1,g1,g2⟩:=h 0 x y rfl rfl
   obtain ⟨l2,g3,g4⟩:=ih (xs:=xs) (by simpa using hl) fun j a b ha hb=>h (j+1) a b (by simpa using ha) (by simpa using hb)
   refine ⟨l1++l2,.cons g1 g3,fun i hi=>?_⟩
   rcases List.mem_append.1 hi with h | h
   ·exact g2 i h
   ·exact g4 i h
theorem lens_any {c:Cf} (h:(c.tables.all fun t=>t.all fun l=>Nat.ble l.length 10)=true):c.Lens:=by
 intro t ht l hl
 have:=Nat.le_of_ble_eq_true (List.all_eq_true.1 (List.all_eq_true.1 h t ht) l hl)
 rw [reach_eq]
 omega
theorem fit_few {c:Cf} (h1:Nat.ble c.topo.ports.length 10=true) (h2:(c.topo.ports.all fun r=>Nat.ble r.length 10)=true) (h3:Nat.ble c.pol.peers.length 10=true) (h4:Nat.ble c.pol.ways.length 10=true) (h5:Nat.ble c.tables.length 10=true) (h6:(c.tables.all fun t=>Nat.ble t.length 10 && t.all fun l=>Nat.ble l.length 10)=true):c.Fit:=by
 have a1:=Nat.le_of_ble_eq_true h1
 have a3:=Nat.le_of_ble_eq_true h3
 have a4:=Nat.le_of_ble_eq_true h4
 have a5:=Nat.le_of_ble_eq_true h5
 have hb:=reach_eq
 refine ⟨by omega,fun r hr=>?_,by omega,by omega,by omega,fun t ht=>?_,fun t ht l hl=>?_⟩
 ·have:=Nat.le_of_ble_eq_true (List.all_eq_true.1 h2 r hr);omega
 ·have:=List.all_eq_true.1 h6 t ht
  rw [Bool.and_eq_true] at this
  have:=Nat.le_of_ble_eq_true this.1;omega
 ·have:=List.all_eq_true.1 h6 t ht
  rw [Bool.and_eq_true] at this
  have:=Nat.le_of_ble_eq_true (List.all_eq_true.1 this.2 l hl);omega
theorem fit_0:lineC.Fit:=fit_few rfl rfl rfl rfl rfl rfl
theorem fit_1:lnC1.Fit:=fit_few rfl rfl rfl rfl rfl rfl
theorem fit_2:lnC2.Fit:=fit_few rfl rfl rfl rfl rfl rfl
theorem MDoes.frz {P : Program} {f : FuncId} {args args' : List AV} {b0 b0' b1 : List (Nat × SB)} {r : AV} (l : List Nat) (h : MDoes P f args' b0' r b1) (hl : args'.length = args.length) (ha : ∀ (j : Nat) (x x' : AV), args[j]? = some x -> args'[j]? = some x' -> RnF l (lkB b0) (lkB b0') x x')
  (hB:WkB ⟨fun _=>.any,lkB b0⟩ (lkB b0') b0') (hd:(l.all fun i=>(lkB b0' i).body.isNone)=true):MDoes P f args b0 r b1:=by
 refine ⟨h.fn,fun W F μ vs hv hr hi=>?_⟩
 have hb:∀id bd',(lkB b0' id).body=some bd'->∃bd,(lkB b0 id).body=some bd/\RnBG l (lkB b0) (lkB b0') bd bd':=fun id bd' e=>by
  obtain ⟨bd,h1,h2⟩:=wkB_ok hB id bd' e
  exact ⟨bd,h1,.rn h2⟩
 obtain ⟨hi',hs⟩:=freeze_inv hi hb fun i hi2=>by simpa using List.all_eq_true.1 hd i hi2
 refine (h.calls W _ μ vs (hv.trans hl.symm) (fun j x' v hx' hvj=>?_) hi').mono ?_
 ·obtain ⟨x,hx⟩:∃x,args[j]?=some x:=⟨_,List.getElem?_eq_getElem (by rw [<- hl];exact (List.getElem?_eq_some_iff.1 hx').1)⟩
  exact (ha j x x' hx hx').rel hi (hr j x v hx hvj)
 ·rintro e W' ⟨v,F',μ',e1,e2,e3,e4⟩
  exact ⟨v,F',μ',e1,e2,hs.trans e3,e4⟩
def edB (E:List Ed):List (Nat × SB):=[(200,⟨0,some (.row 63 16 (E.map cEd))⟩)]
theorem m_frzTry {c:Cf} {V:Nat} {k:Kn} {x:Ed} {q:Nat->Option (Nat × Nat)} {r:AV} {b1:List (Nat × SB)} (h:MDoes Tryz.prog 14 [.own 300 0 0,.sl ([x].map cEd)] (gl q [300,301] (lvB c V k)) r b1) :
  MDoes Tryz.prog 14 [.own 300 0 0,.row 200 0 0 1] (gl q [300,301] (lvB c V k++edB [x])) r b1:=by
 unfold lvB lvC at h ⊢
 generalize rootC (numL (rlsC c))=rt at h ⊢
 refine MDoes.frz [200] h rfl (fun j y y' hy hy'=>?_) ⟨.ghost rfl rfl rfl,.ghost rfl rfl rfl,.boxL rfl ⟨rI rfl rfl,rI rfl rfl,rI rfl rfl,rI rfl rfl,rI rfl rfl,rI rfl rfl,Rn.refIs rfl rfl rfl,rI rfl rfl,rI rfl rfl,rI rfl rfl,trivial⟩ rfl,.obj rfl rfl,trivial⟩ rfl
 match j,hy,hy' with
 | 0,hy,hy' =>
  obtain rfl:=Option.some.inj hy
  obtain rfl:=Option.some.inj hy'
  exact .rn (Rn.ownIs rfl rfl rfl)
 | 1,hy,hy' =>
  obtain rfl:=Option.some.inj hy
  obtain rfl:=Option.some.inj hy'
  exact .fzA rfl rfl rfl
theorem m_frzTry1 {c:Cf} {V:Nat} {k:Kn} {x:Ed} {q:Nat->Option (Nat × Nat)} {r:AV} {b1:List (Nat × SB)} (h:MDoes Tryz.prog 14 [.own 300 0 0,.sl ([x].map cEd)] (gl q [300] (lvB c V k)) r b1) :
  MDoes Tryz.prog 14 [.own 300 0 0,.row 200 0 0 1] (gl q [300] (lvB c V k++edB [x])) r b1:=by
 unfold lvB lvC at h ⊢
 generalize rootC (numL (rlsC c))=rt at h ⊢
 refine MDoes.frz [200] h rfl (fun j y y' hy hy'=>?_) ⟨.ghost rfl rfl rfl,.boxL rfl ⟨rI rfl rfl,rI rfl rfl,rI rfl rfl,rI rfl rfl,rI rfl rfl,rI rfl rfl,Rn.refIs rfl rfl rfl,rI rfl rfl,rI rfl rfl,rI rfl rfl,trivial⟩ rfl,.obj rfl rfl,trivial⟩ rfl
 match j,hy,hy' with
 | 0,hy,hy' =>
  obtain rfl:=Option.some.inj hy
  obtain rfl:=Option.some.inj hy'
  exact .rn (Rn.ownIs rfl rfl rfl)
 | 1,hy,hy' =>
  obtain rfl:=Option.some.inj hy
  obtain rfl:=Option.some.inj hy'
  exact .fzA rfl rfl rfl
theorem kn_line:KnOk (freshK (askG lineC 0)).1/\(freshK (askG lineC 0)).1.next<=100000000/\(freshK (askG lineC 0)).1.es.length<=500:=by
 have hl:(askG lineC 0).length<=500:=Nat.le_of_ble_eq_true as_0
 have h:=(freshK_ok (askG_sound sound_line 0) (askG_nodup lineC 0) hl).2 (by kernel_rfl)
 exact ⟨h.ok,by show (askG lineC 0).length<=_;omega,by have:=h.len;omega⟩
theorem ed_gone (sw tab at_:Int) (t:Tabs) (l:List Rl) (h:getT t ⟨sw,tab,at_,true,Rl.zero⟩=some l) (h0:0<=at_) (h1:at_<l.length):OneQ ⟨sw,tab,at_,true,Rl.zero⟩ t:=w_oneG _ _ _ h h0 h1 rfl rfl
theorem ap_one {c:Cf} {x:Ed} {t:Tabs} (hf:c.Fit) (hx:OneQ x c.tables) (ha:applyF c.tables [x]=(0,t)) (ht:Cf.Fit { c with tables:=t }):PDoes Tryz.prog 31 [.agg (cCf c),.sl ([x].map cEd)] (applyR c (applyF c.tables [x])) :=
 d_Apply c [x] hf (fun k y u hy hu=>by
  match k,hy with
  | 0,hy =>
   obtain rfl:=Option.some.inj hy
   obtain rfl:c.tables=u:=congrArg Prod.snd hu
   exact hx) fun k u hk hu=>by
  match k,hk with
  | 0,_ =>
   obtain rfl:c.tables=u:=congrArg Prod.snd hu
   exact hf
  | 1,_ =>
   obtain rfl:t=u:=congrArg Prod.snd (ha.symm.trans hu)
   exact ht
theorem apA:PDoes Tryz.prog 31 [.agg (cCf lineC),.sl (lnE1.map cEd)] (applyR lineC (applyF lineC.tables lnE1)) :=
 ap_one fit_0 (ed_gone 0 0 1 lineC.tables lnR0 rfl (by decide) (by decide)) ap_1 fit_1
theorem apB:PDoes Tryz.prog 31 [.agg (cCf lineC),.sl (lnE2.map cEd)] (applyR lineC (applyF lineC.tables lnE2)) :=
 ap_one fit_0 (ed_gone 0 0 0 lineC.tables lnR0 rfl (by decide) (by decide)) ap_2 fit_2
theorem d_awake17:PDoes Tryz.prog 9 [] (.b true):=by
 refine PDoes.of_bodyN Tryz.func9 rfl (by kernel_rfl) rfl rfl ?_
 obtain ⟨hk1,hk2,hk3⟩:=kn_line
 have hN:=m_New lineC 0 (lens_any rfl) fit_0 (by rw [jd_0];rfl)
 rw [jd_0] at hN
 have hT1:=m_TryNo lineC 0 (freshK (askG lineC 0)).1 lnE1 apA so_1 lnC1 (by rw [ap_1];rfl) (lens_any rfl) (by decide) hk1 hk2 hk3 tn_1 (by rw [ov_1];decide)
 have hT2:=m_TryYes lineC 0 (freshK (askG lineC 0)).1 lnE2 apB so_2 lnC2 (by rw [ap_2];rfl) (lens_any rfl) (by decide) hk1 hk2 hk3 tn_2 ov_2
 have o1:=ov_1
 have o2:=ow_1
 have o3:=ov_2
 have hn:=nr_2
 unfold newB at hN
 generalize overOf lnC1 (0:Nat) (turnG lnC1 0 (freshK (askG lineC 0)).1).1.ats=v1 at hT1 o1 o2
 generalize overOf lnC2 (0:Nat) (turnG lnC2 0 (freshK (askG lineC 0)).1).1.ats=v2 at hT2 o3
 generalize (turnG lnC2 0 (freshK (askG lineC 0)).1).1=k2 at hT2
 generalize (freshK (askG lineC 0)).1=k1 at hN hT1 hT2
 have hC:=m_Config lnC2 0 k2 fit_2
 have hR:=m_Near lnC2 0 k2 Cb.zero (by rw [numL_len];exact Nat.le_of_ble_eq_true (by kernel_rfl))
 generalize nearF Cb.zero (numL (rlsC lnC2))=ns at hR hn
 obtain ⟨n1,n2,n3,rfl⟩:∃a b d,ns=[a,b,d]:=by
  match ns,hn with
  | [a,b,d],_=>exact ⟨a,b,d,rfl⟩
 have hT1:=fun q=>m_frzTry (hT1 q)
 have hT2:=fun q=>m_frzTry1 (hT2 q)
 unfold edB at hT1 hT2
 unfold lvB lvC at hT1 hC hR
 unfold lvB lvC at hT2
 unfold lvC at hN
 generalize rootC (numL (rlsC lineC))=r0 at hN hT1 hT2
 generalize rootC (numL (rlsC lnC2))=r2 at hT2 hC hR
 obtain ⟨vk1,ve1,vw1,vf1,vh1,vr1⟩:=v1
 obtain ⟨vk2,ve2,vw2,vf2,vh2,vr2⟩:=v2
 obtain rfl:vk1=2:=o1
 obtain rfl:vw1=1:=o2
 obtain rfl:vk2=1:=o3
 refine jA ?_
 refine RG.callMS rfl rfl rfl rfl rfl rfl d_line17 rfl ?_
 refine RG.ownN [] [(30,500),(31,501)] hN rfl rfl rfl rfl rfl rfl rfl rfl rfl rfl ?_
 refine jH ?_
 refine AW.condF rfl ?_
 refine jA ?_
 refine RG.ownN [(500,300),(501,301),(19,200)] [(300,500),(301,501)] hT1 rfl rfl rfl rfl rfl rfl rfl rfl rfl rfl ?_
 refine jH ?_
 refine RG.ownN [(500,300),(501,301),(23,200)] [(300,500),(302,502)] hT2 rfl rfl rfl rfl rfl rfl rfl rfl rfl rfl ?_
 refine jH ?_
 refine RG.ownN [(500,300),(502,301)] [(300,500),(301,502)] hC rfl rfl rfl rfl rfl rfl rfl rfl rfl rfl ?_
 refine jH ?_
 have hg0:(lnC2.tables.map cTab)[0]?=some (cTab [lnR0.drop 1]):=rfl
 have hg1:([lnR0.drop 1].map cRls)[0]?=some (cRls (lnR0.drop 1)):=rfl
 refine RG.opS rfl (op_index rfl (tk rfl) rfl (tk rfl) rfl rfl hg0 rfl) rfl ?_
 refine wH rfl ?_
 refine RG.opS rfl (op_index rfl (tk rfl) rfl (tk rfl) rfl rfl hg1 rfl) rfl ?_
 refine wH rfl ?_
 refine RG.ownN [(500,300),(502,301)] [(300,500),(301,502)] hR rfl rfl rfl rfl rfl rfl rfl rfl rfl rfl ?_
 refine jH ?_
 refine jR ?_
 rfl
theorem d_RRules (a b:List (List Rl)) (q:Bool) (hq:decide (a=b)=q):PDoes Tryz.prog 36 [.sl (a.map cRls),.sl (b.map cRls)] (.b q):=by
 refine PDoes.of_bodyN Tryz.func36 rfl (by kernel_rfl) rfl rfl ?_
 have hlen:((a.map cRls).length:Int)=a.length/\((b.map cRls).length:Int)=b.length:=by simp
 refine jA ?_
 refine AW.lens 7 rfl fun hm=>?_
 have hm:a.length<=9223372036854775807:=by rw [List.length_map] at hm;omega
 refine AW.cond rfl (fun h0=>?_) (fun h0=>?_)
 ·have hne : a.length ≠ b.length := fun e => by
   have:¬((a.map cRls).length:Int)=((b.map cRls).length:Int):=by simpa using h0
   exact this (by rw [hlen.1,hlen.2,e])
  refine jA ?_
  refine jR ?_
  exact congrArg AV.b ((decide_eq_false fun e:a=b=>hne (congrArg List.length e)).symm.trans hq)
 ·have heq : a.length = b.length := by
   have:((a.map cRls).length:Int)=((b.map cRls).length:Int):=by simpa using h0
   rw [hlen.1,hlen.2] at this
   omega
  refine jA ?_
  refine AW.loopL (ι:=Nat) (fun k=>[(0,.sl (a.map cRls)),(1,.sl (b.map cRls)),(5,.i .i64 (k:Nat))]) (fun _=>[]) (fun k=>k<=a.length/\a.take k=b.take k) (fun k=>a.length - k) 0 ⟨Nat.zero_le _,rfl⟩ jW trivial fun k hk=>?_
  obtain ⟨hk,hf⟩:=hk
  refine jA ?_
  refine AW.cond rfl (fun h1=>?_) (fun h1=>?_)
  ·have h:k<a.length:=by simpa using h1
   have h':k<b.length:=by omega
   refine jB ?_
   refine AW.draws mixed_ok ?_
   refine wH rfl ?_
   refine RG.opS rfl (op_index rfl (tk rfl) rfl (tk rfl) rfl rfl (show (a.map cRls)[k]?=some (cRls a[k]) by rw [List.getElem?_map,List.getElem?_eq_getElem (by assumption)];rfl) rfl) rfl ?_
   refine wH rfl ?_
   refine RG.opS rfl (op_index rfl (tk rfl) rfl (tk rfl) rfl rfl (show (b.map cRls)[k]?=some (cRls b[k]) by rw [List.getElem?_map,List.getElem?_eq_getElem (by assumption)];rfl) rfl) rfl ?_
   refine jH ?_
   refine AW.lens 21 rfl fun hm2=>?_
   have hm2:a[k].length<=9223372036854775807:=by rw [List.length_map] at hm2;omega
   have hlk:((a[k].map cRl).length:Int)=a[k].length/\((b[k].map cRl).length:Int)=b[k].length:=by simp
   refine AW.cond rfl (fun h2=>?_) (fun h2=>?_)
   ·have hne : a[k].length ≠ b[k].length := fun e => by
     have:¬((a[k].map cRl).length:Int)=((b[k].map cRl).length:Int):=by simpa using h2
     exact this (by rw [hlk.1,hlk.2,e])
    refine jA ?_
    refine jR ?_
    exact congrArg AV.b ((decide_eq_false fun e:a=b=>hne (by subst e;rfl)).symm.trans hq)
   ·have hek : a[k].length = b[k].length := by
     have:((a[k].map cRl).length:Int)=((b[k].map cRl).length:Int):=by simpa using h2
     rw [hlk.1,hlk.2] at this
     omega
    refine jA ?_
    refine AW.loopL (ι:=Nat) (fun j=>[(0,.sl (a.map cRls)),(1,.sl (b.map cRls)),(5,.i .i64 (k:Nat)),(6,.i .i64 (j:Nat))]) (fun _=>[]) (fun j=>j<=a[k].length/\a[k].take j=b[k].take j) (fun j=>a[k].length - j) 0 ⟨Nat.zero_le _,rfl⟩ jW trivial fun j hj=>?_
    obtain ⟨hj,hg⟩:=hj
    refine jB ?_
    refine AW.text ?_
    refine wH rfl ?_
    refine RG.opS rfl (op_index rfl (tk rfl) rfl (tk rfl) rfl rfl (show (a.map cRls)[k]?=some (cRls a[k]) by rw [List.getElem?_map,List.getElem?_eq_getElem (by assumption)];rfl) rfl) rfl ?_
    refine jH ?_
    refine AW.cond rfl (fun h3=>?_) (fun h3=>?_)
    ·have hjl:j<a[k].length:=by simpa using h3
     have hjl':j<b[k].length:=by omega
     refine jB ?_
     refine AW.draws mixed_ok ?_
     refine wH rfl ?_
     refine RG.opS rfl (op_index rfl (tk rfl) rfl (tk rfl) rfl rfl (show (a.map cRls)[k]?=some (cRls a[k]) by rw [List.getElem?_map,List.getElem?_eq_getElem (by assumption)];rfl) rfl) rfl ?_
     refine wH rfl ?_
     refine RG.opS rfl (op_index rfl (tk rfl) rfl (tk rfl) rfl rfl (show (a[k].map cRl)[j]?=some (cRl (a[k][j])) by rw [List.getElem?_map,List.getElem?_eq_getElem hjl];rfl) rfl) rfl ?_
     refine wH rfl ?_
     refine RG.opS rfl (op_index rfl (tk rfl) rfl (tk rfl) rfl rfl (show (b.map cRls)[k]?=some (cRls b[k]) by rw [List.getElem?_map,List.getElem?_eq_getElem (by assumption)];rfl) rfl) rfl ?_
     refine wH rfl ?_
     refine RG.opS rfl (op_index rfl (tk rfl) rfl (tk rfl) rfl rfl (show (b[k].map cRl)[j]?=some (cRl (b[k][j])) by rw [List.getElem?_map,List.getElem?_eq_getElem hjl'];rfl) rfl) rfl ?_
     refine wH rfl ?_
     by_cases he:a[k][j]=b[k][j]
     ·refine RG.opS rfl (op_neG rfl ty_ok (by kernel_rfl) (by kernel_rfl) rfl rfl (eq_Rl a[k][j] b[k][j]) rfl) rfl ?_
      refine jH ?_
      refine AW.condF (congrArg AV.b (by rw [decide_eq_true he];rfl)) ?_
      refine jA ?_
      exact ⟨j+1,⟨⟨hjl,by rw [take_snoc (List.getElem?_eq_getElem hjl),take_snoc (List.getElem?_eq_getElem hjl'),hg,he]⟩,by omega⟩,⟨rI rfl rfl,rI rfl rfl,rI rfl rfl,rI (i64_next hjl hm2) rfl,trivial⟩,trivial⟩
     ·refine RG.opS rfl (op_neG rfl ty_ok (by kernel_rfl) (by kernel_rfl) rfl rfl (eq_Rl a[k][j] b[k][j]) rfl) rfl ?_
      refine jH ?_
      refine AW.condT (congrArg AV.b (by rw [decide_eq_false he];rfl)) ?_
      refine jA ?_
      refine jR ?_
      exact congrArg AV.b ((decide_eq_false fun e:a=b=>he (by subst e;rfl)).symm.trans hq)
    ·have hjl:¬j<a[k].length:=by simpa using h3
     obtain rfl:j=a[k].length:=by omega
     have he:a[k]=b[k]:=by rw [List.take_length,hek,List.take_length] at hg;exact hg
     refine jA ?_
     refine jE ?_;refine jA ?_
     refine jA ?_
     exact ⟨k+1,⟨⟨h,by rw [take_snoc (List.getElem?_eq_getElem h),take_snoc (List.getElem?_eq_getElem h'),hf,he]⟩,by omega⟩,⟨rI rfl rfl,rI rfl rfl,rI (i64_next h hm) rfl,trivial⟩,trivial⟩
  ·have h:¬k<a.length:=by simpa using h1
   obtain rfl:k=a.length:=by omega
   refine jA ?_
   refine jE ?_;refine jA ?_
   refine jA ?_
   refine jR ?_
   rw [List.take_length,heq,List.take_length] at hf
   exact congrArg AV.b ((decide_eq_true hf).symm.trans hq)
theorem d_RPorts (a b:List (List Pt)) (q:Bool) (hq:decide (a=b)=q):PDoes Tryz.prog 35 [.agg (cTopo ⟨a⟩),.agg (cTopo ⟨b⟩)] (.b q):=by
 refine PDoes.of_bodyN Tryz.func35 rfl (by kernel_rfl) rfl rfl ?_
 have hlen:((a.map cPts).length:Int)=a.length/\((b.map cPts).length:Int)=b.length:=by simp
 refine jA ?_
 refine AW.lens 8 rfl fun hm=>?_
 have hm:a.length<=9223372036854775807:=by rw [List.length_map] at hm;omega
 refine AW.cond rfl (fun h0=>?_) (fun h0=>?_)
 ·have hne : a.length ≠ b.length := fun e => by
   have:¬((a.map cPts).length:Int)=((b.map cPts).length:Int):=by simpa using h0
   exact this (by rw [hlen.1,hlen.2,e])
  refine jA ?_
  refine jR ?_
  exact congrArg AV.b ((decide_eq_false fun e:a=b=>hne (congrArg List.length e)).symm.trans hq)
 ·have heq : a.length = b.length := by
   have:((a.map cPts).length:Int)=((b.map cPts).length:Int):=by simpa using h0
   rw [hlen.1,hlen.2] at this
   omega
  refine jA ?_
  refine AW.loopL (ι:=Nat) (fun k=>[(2,.own 2 0 0),(3,.own 3 0 0),(5,.i .i64 (k:Nat))]) (fun _=>[(2,⟨0,some (.box 24 [.sl (a.map cPts)])⟩),(3,⟨0,some (.box 24 [.sl (b.map cPts)])⟩)]) (fun k=>k<=a.length/\a.take k=b.take k) (fun k=>a.length - k) 0 ⟨Nat.zero_le _,rfl⟩ jW ⟨bS rfl rfl rfl,bS rfl rfl rfl,trivial⟩ fun k hk=>?_
  obtain ⟨hk,hf⟩:=hk
  refine jA ?_
  refine AW.cond rfl (fun h1=>?_) (fun h1=>?_)
  ·have h:k<a.length:=by simpa using h1
   have h':k<b.length:=by omega
   refine jB ?_
   refine AW.draws mixed_ok ?_
   refine wH rfl ?_
   refine RG.opS rfl (op_index rfl (tk rfl) rfl (tk rfl) rfl rfl (show (a.map cPts)[k]?=some (cPts a[k]) by rw [List.getElem?_map,List.getElem?_eq_getElem (by assumption)];rfl) rfl) rfl ?_
   refine wH rfl ?_
   refine RG.opS rfl (op_index rfl (tk rfl) rfl (tk rfl) rfl rfl (show (b.map cPts)[k]?=some (cPts b[k]) by rw [List.getElem?_map,List.getElem?_eq_getElem (by assumption)];rfl) rfl) rfl ?_
   refine jH ?_
   refine AW.lens 25 rfl fun hm2=>?_
   have hm2:a[k].length<=9223372036854775807:=by rw [List.length_map] at hm2;omega
   have hlk:((a[k].map cPt).length:Int)=a[k].length/\((b[k].map cPt).length:Int)=b[k].length:=by simp
   refine AW.cond rfl (fun h2=>?_) (fun h2=>?_)
   ·have hne : a[k].length ≠ b[k].length := fun e => by
     have:¬((a[k].map cPt).length:Int)=((b[k].map cPt).length:Int):=by simpa using h2
     exact this (by rw [hlk.1,hlk.2,e])
    refine jA ?_
    refine jR ?_
    exact congrArg AV.b ((decide_eq_false fun e:a=b=>hne (by subst e;rfl)).symm.trans hq)
   ·have hek : a[k].length = b[k].length := by
     have:((a[k].map cPt).length:Int)=((b[k].map cPt).length:Int):=by simpa using h2
     rw [hlk.1,hlk.2] at this
     omega
    refine jA ?_
    refine AW.loopL (ι:=Nat) (fun j=>[(2,.own 2 0 0),(3,.own 3 0 0),(5,.i .i64 (k:Nat)),(6,.i .i64 (j:Nat))]) (fun _=>[(2,⟨0,some (.box 24 [.sl (a.map cPts)])⟩),(3,⟨0,some (.box 24 [.sl (b.map cPts)])⟩)]) (fun j=>j<=a[k].length/\a[k].take j=b[k].take j) (fun j=>a[k].length - j) 0 ⟨Nat.zero_le _,rfl⟩ jW ⟨bS rfl rfl rfl,bS rfl rfl rfl,trivial⟩ fun j hj=>?_
    obtain ⟨hj,hg⟩:=hj
    refine jB ?_
    refine AW.text ?_
    refine wH rfl ?_
    refine RG.opS rfl (op_index rfl (tk rfl) rfl (tk rfl) rfl rfl (show (a.map cPts)[k]?=some (cPts a[k]) by rw [List.getElem?_map,List.getElem?_eq_getElem (by assumption)];rfl) rfl) rfl ?_
    refine jH ?_
    refine AW.cond rfl (fun h3=>?_) (fun h3=>?_)
    ·have hjl:j<a[k].length:=by simpa using h3
     have hjl':j<b[k].length:=by omega
     refine jB ?_
     refine AW.draws mixed_ok ?_
     refine wH rfl ?_
     refine RG.opS rfl (op_index rfl (tk rfl) rfl (tk rfl) rfl rfl (show (a.map cPts)[k]?=some (cPts a[k]) by rw [List.getElem?_map,List.getElem?_eq_getElem (by assumption)];rfl) rfl) rfl ?_
     refine wH rfl ?_
     refine RG.opS rfl (op_index rfl (tk rfl) rfl (tk rfl) rfl rfl (show (a[k].map cPt)[j]?=some (cPt (a[k][j])) by rw [List.getElem?_map,List.getElem?_eq_getElem hjl];rfl) rfl) rfl ?_
     refine wH rfl ?_
     refine RG.opS rfl (op_index rfl (tk rfl) rfl (tk rfl) rfl rfl (show (b.map cPts)[k]?=some (cPts b[k]) by rw [List.getElem?_map,List.getElem?_eq_getElem (by assumption)];rfl) rfl) rfl ?_
     refine wH rfl ?_
     refine RG.opS rfl (op_index rfl (tk rfl) rfl (tk rfl) rfl rfl (show (b[k].map cPt)[j]?=some (cPt (b[k][j])) by rw [List.getElem?_map,List.getElem?_eq_getElem hjl'];rfl) rfl) rfl ?_
     refine wH rfl ?_
     by_cases he:a[k][j]=b[k][j]
     ·refine RG.opS rfl (op_neG rfl ty_ok (by kernel_rfl) (by kernel_rfl) rfl rfl (eq_Pt a[k][j] b[k][j]) rfl) rfl ?_
      refine jH ?_
      refine AW.condF (congrArg AV.b (by rw [decide_eq_true he];rfl)) ?_
      refine jA ?_
      exact ⟨j+1,⟨⟨hjl,by rw [take_snoc (List.getElem?_eq_getElem hjl),take_snoc (List.getElem?_eq_getElem hjl'),hg,he]⟩,by omega⟩,⟨rO rfl rfl rfl,rO rfl rfl rfl,rI rfl rfl,rI (i64_next hjl hm2) rfl,trivial⟩,⟨bS rfl rfl rfl,bS rfl rfl rfl,trivial⟩⟩
     ·refine RG.opS rfl (op_neG rfl ty_ok (by kernel_rfl) (by kernel_rfl) rfl rfl (eq_Pt a[k][j] b[k][j]) rfl) rfl ?_
      refine jH ?_
      refine AW.condT (congrArg AV.b (by rw [decide_eq_false he];rfl)) ?_
      refine jA ?_
      refine jR ?_
      exact congrArg AV.b ((decide_eq_false fun e:a=b=>he (by subst e;rfl)).symm.trans hq)
    ·have hjl:¬j<a[k].length:=by simpa using h3
     obtain rfl:j=a[k].length:=by omega
     have he:a[k]=b[k]:=by rw [List.take_length,hek,List.take_length] at hg;exact hg
     refine jA ?_
     refine jE ?_;refine jA ?_
     refine jA ?_
     exact ⟨k+1,⟨⟨h,by rw [take_snoc (List.getElem?_eq_getElem h),take_snoc (List.getElem?_eq_getElem h'),hf,he]⟩,by omega⟩,⟨rO rfl rfl rfl,rO rfl rfl rfl,rI (i64_next h hm) rfl,trivial⟩,⟨bS rfl rfl rfl,bS rfl rfl rfl,trivial⟩⟩
  ·have h:¬k<a.length:=by simpa using h1
   obtain rfl:k=a.length:=by omega
   refine jA ?_
   refine jE ?_;refine jA ?_
   refine jA ?_
   refine jR ?_
   rw [List.take_length,heq,List.take_length] at hf
   exact congrArg AV.b ((decide_eq_true hf).symm.trans hq)
theorem cf_eq {c d:Cf}:c=d↔c.topo.ports=d.topo.ports/\c.pol.tenants=d.pol.tenants/\c.pol.peers=d.pol.peers/\c.pol.ways=d.pol.ways/\c.tables=d.tables:=by
 obtain ⟨⟨a1⟩,⟨a2,a3,a4⟩,a5⟩:=c
 obtain ⟨⟨b1⟩,⟨b2,b3,b4⟩,b5⟩:=d
 constructor
 ·intro h;cases h;exact ⟨rfl,rfl,rfl,rfl,rfl⟩
 ·rintro ⟨rfl,h,rfl,rfl,rfl⟩
  obtain rfl:a2=b2:=h
  rfl
theorem d_RSame (c d:Cf) (q:Bool) (hq:(q=true)↔c=d):PDoes Tryz.prog 15 [.agg (cCf c),.agg (cCf d)] (.b q):=by
 refine PDoes.of_bodyN Tryz.func15 rfl (by kernel_rfl) rfl rfl ?_
 have no:¬c=d->AV.b false=AV.b q:=fun h=>by
  cases q
  ·rfl
  ·exact absurd (hq.1 rfl) h
 by_cases h0:c.topo.ports=d.topo.ports
 ·have hP:=d_RPorts c.topo.ports d.topo.ports true (decide_eq_true h0)
  refine jA ?_
  refine RG.callS rfl rfl rfl rfl rfl hP rfl rfl ?_
  by_cases h1:c.pol.tenants=d.pol.tenants
  ·by_cases h2:(((c.pol.peers.map cPr).length:Nat):Int)=(((d.pol.peers.map cPr).length:Nat):Int)
   ·by_cases h3:(((c.pol.ways.map cWy).length:Nat):Int)=(((d.pol.ways.map cWy).length:Nat):Int)
    ·by_cases h4:(((c.tables.map cTab).length:Nat):Int)=(((d.tables.map cTab).length:Nat):Int)
     ·refine RG.runO ty_ok 0 [(25,.b false),(34,.b false),(43,.b false),(52,.b false)] 400 rfl jD ?_
      refine jH ?_
      refine AW.condF rfl ?_
      refine jA ?_
      have l2:c.pol.peers.length=d.pol.peers.length:=by have g:=h2;rw [List.length_map,List.length_map] at g;omega
      have l3:c.pol.ways.length=d.pol.ways.length:=by have g:=h3;rw [List.length_map,List.length_map] at g;omega
      have l4:c.tables.length=d.tables.length:=by have g:=h4;rw [List.length_map,List.length_map] at g;omega
      clear h2 h3 h4
      refine AW.loopL (ι:=Nat) (fun k=>[(2,.own 2 0 0),(3,.own 3 0 0),(5,.own 5 0 0),(6,.own 6 0 0),(7,.i .i64 (k:Nat))]) (fun _=>[(2,⟨0,some (.box 31 (cCf c))⟩),(3,⟨0,some (.box 31 (cCf d))⟩),(5,⟨0,some (.box 28 (cPol c.pol))⟩),(6,⟨0,some (.box 28 (cPol d.pol))⟩)]) (fun k=>k<=c.pol.peers.length/\c.pol.peers.take k=d.pol.peers.take k) (fun k=>c.pol.peers.length - k) 0 ⟨Nat.zero_le _,rfl⟩ jW ⟨bS rfl rfl rfl,bS rfl rfl rfl,bS rfl rfl rfl,bS rfl rfl rfl,trivial⟩ fun k hk=>?_
      obtain ⟨hk,hf⟩:=hk
      refine jA ?_
      refine AW.lens 56 rfl fun hm=>?_
      have hm:c.pol.peers.length<=9223372036854775807:=by rw [List.length_map] at hm;omega
      refine AW.cond rfl (fun g1=>?_) (fun g1=>?_)
      ·have h:k<c.pol.peers.length:=by simpa using g1
       have h':k<d.pol.peers.length:=by omega
       refine jB ?_
       refine AW.draws mixed_ok ?_
       refine wH rfl ?_
       refine RG.opS rfl (op_index rfl (tk rfl) rfl (tk rfl) rfl rfl (show (c.pol.peers.map cPr)[k]?=some (cPr c.pol.peers[k]) by rw [List.getElem?_map,List.getElem?_eq_getElem (by assumption)];rfl) rfl) rfl ?_
       refine wH rfl ?_
       refine RG.opS rfl (op_index rfl (tk rfl) rfl (tk rfl) rfl rfl (show (d.pol.peers.map cPr)[k]?=some (cPr d.pol.peers[k]) by rw [List.getElem?_map,List.getElem?_eq_getElem (by assumption)];rfl) rfl) rfl ?_
       refine wH rfl ?_
       by_cases he:c.pol.peers[k]=d.pol.peers[k]
       ·refine RG.opS rfl (op_neG rfl ty_ok (by kernel_rfl) (by kernel_rfl) rfl rfl (eq_Pr c.pol.peers[k] d.pol.peers[k]) rfl) rfl ?_
        refine jH ?_
        refine AW.condF (congrArg AV.b (by rw [decide_eq_true he];rfl)) ?_
        refine jA ?_
        exact ⟨k+1,⟨⟨h,by rw [take_snoc (List.getElem?_eq_getElem h),take_snoc (List.getElem?_eq_getElem h'),hf,he]⟩,by omega⟩,⟨rO rfl rfl rfl,rO rfl rfl rfl,rO rfl rfl rfl,rO rfl rfl rfl,rI (i64_next h hm) rfl,trivial⟩,⟨bS rfl rfl rfl,bS rfl rfl rfl,bS rfl rfl rfl,bS rfl rfl rfl,trivial⟩⟩
       ·refine RG.opS rfl (op_neG rfl ty_ok (by kernel_rfl) (by kernel_rfl) rfl rfl (eq_Pr c.pol.peers[k] d.pol.peers[k]) rfl) rfl ?_
        refine jH ?_
        refine AW.condT (congrArg AV.b (by rw [decide_eq_false he];rfl)) ?_
        refine jA ?_
        refine jR ?_
        exact no fun e=>he (by subst e;rfl)
      ·have h:¬k<c.pol.peers.length:=by simpa using g1
       obtain rfl:k=c.pol.peers.length:=by omega
       have e2:c.pol.peers=d.pol.peers:=by rw [List.take_length] at hf;rw [hf,List.take_of_length_le (by omega)]
       clear hf hk h g1 hm
       refine jA ?_
       refine jE ?_;refine jA ?_
       refine jA ?_
       refine AW.loopL (ι:=Nat) (fun k=>[(2,.own 2 0 0),(3,.own 3 0 0),(5,.own 5 0 0),(6,.own 6 0 0),(8,.i .i64 (k:Nat))]) (fun _=>[(2,⟨0,some (.box 31 (cCf c))⟩),(3,⟨0,some (.box 31 (cCf d))⟩),(5,⟨0,some (.box 28 (cPol c.pol))⟩),(6,⟨0,some (.box 28 (cPol d.pol))⟩)]) (fun k=>k<=c.pol.ways.length/\c.pol.ways.take k=d.pol.ways.take k) (fun k=>c.pol.ways.length - k) 0 ⟨Nat.zero_le _,rfl⟩ jW ⟨bS rfl rfl rfl,bS rfl rfl rfl,bS rfl rfl rfl,bS rfl rfl rfl,trivial⟩ fun k hk=>?_
       obtain ⟨hk,hf⟩:=hk
       refine jA ?_
       refine AW.lens 74 rfl fun hm=>?_
       have hm:c.pol.ways.length<=9223372036854775807:=by rw [List.length_map] at hm;omega
       refine AW.cond rfl (fun g1=>?_) (fun g1=>?_)
       ·have h:k<c.pol.ways.length:=by simpa using g1
        have h':k<d.pol.ways.length:=by omega
        refine jB ?_
        refine AW.draws mixed_ok ?_
        refine wH rfl ?_
        refine RG.opS rfl (op_index rfl (tk rfl) rfl (tk rfl) rfl rfl (show (c.pol.ways.map cWy)[k]?=some (cWy c.pol.ways[k]) by rw [List.getElem?_map,List.getElem?_eq_getElem (by assumption)];rfl) rfl) rfl ?_
        refine wH rfl ?_
        refine RG.opS rfl (op_index rfl (tk rfl) rfl (tk rfl) rfl rfl (show (d.pol.ways.map cWy)[k]?=some (cWy d.pol.ways[k]) by rw [List.getElem?_map,List.getElem?_eq_getElem (by assumption)];rfl) rfl) rfl ?_
        refine wH rfl ?_
        by_cases he:c.pol.ways[k]=d.pol.ways[k]
        ·refine RG.opS rfl (op_neG rfl ty_ok (by kernel_rfl) (by kernel_rfl) rfl rfl (eq_Wy c.pol.ways[k] d.pol.ways[k]) rfl) rfl ?_
         refine jH ?_
         refine AW.condF (congrArg AV.b (by rw [decide_eq_true he];rfl)) ?_
         refine jA ?_
         exact ⟨k+1,⟨⟨h,by rw [take_snoc (List.getElem?_eq_getElem h),take_snoc (List.getElem?_eq_getElem h'),hf,he]⟩,by omega⟩,⟨rO rfl rfl rfl,rO rfl rfl rfl,rO rfl rfl rfl,rO rfl rfl rfl,rI (i64_next h hm) rfl,trivial⟩,⟨bS rfl rfl rfl,bS rfl rfl rfl,bS rfl rfl rfl,bS rfl rfl rfl,trivial⟩⟩
        ·refine RG.opS rfl (op_neG rfl ty_ok (by kernel_rfl) (by kernel_rfl) rfl rfl (eq_Wy c.pol.ways[k] d.pol.ways[k]) rfl) rfl ?_
         refine jH ?_
         refine AW.condT (congrArg AV.b (by rw [decide_eq_false he];rfl)) ?_
         refine jA ?_
         refine jR ?_
         exact no fun e=>he (by subst e;rfl)
       ·have h:¬k<c.pol.ways.length:=by simpa using g1
        obtain rfl:k=c.pol.ways.length:=by omega
        have e3:c.pol.ways=d.pol.ways:=by rw [List.take_length] at hf;rw [hf,List.take_of_length_le (by omega)]
        clear hf hk h g1 hm
        refine jA ?_
        refine jE ?_;refine jA ?_
        refine jA ?_
        refine AW.loopL (ι:=Nat) (fun k=>[(2,.own 2 0 0),(3,.own 3 0 0),(5,.own 5 0 0),(6,.own 6 0 0),(9,.i .i64 (k:Nat))]) (fun _=>[(2,⟨0,some (.box 31 (cCf c))⟩),(3,⟨0,some (.box 31 (cCf d))⟩),(5,⟨0,some (.box 28 (cPol c.pol))⟩),(6,⟨0,some (.box 28 (cPol d.pol))⟩)]) (fun k=>k<=c.tables.length/\c.tables.take k=d.tables.take k) (fun k=>c.tables.length - k) 0 ⟨Nat.zero_le _,rfl⟩ jW ⟨bS rfl rfl rfl,bS rfl rfl rfl,bS rfl rfl rfl,bS rfl rfl rfl,trivial⟩ fun k hk=>?_
        obtain ⟨hk,hf⟩:=hk
        refine jA ?_
        refine AW.lens 92 rfl fun hm=>?_
        have hm:c.tables.length<=9223372036854775807:=by rw [List.length_map] at hm;omega
        refine AW.cond rfl (fun g1=>?_) (fun g1=>?_)
        ·have h:k<c.tables.length:=by simpa using g1
         have h':k<d.tables.length:=by omega
         refine jB ?_
         refine AW.draws mixed_ok ?_
         refine wH rfl ?_
         refine RG.opS rfl (op_index rfl (tk rfl) rfl (tk rfl) rfl rfl (show (c.tables.map cTab)[k]?=some (cTab c.tables[k]) by rw [List.getElem?_map,List.getElem?_eq_getElem (by assumption)];rfl) rfl) rfl ?_
         refine wH rfl ?_
         refine RG.opS rfl (op_index rfl (tk rfl) rfl (tk rfl) rfl rfl (show (d.tables.map cTab)[k]?=some (cTab d.tables[k]) by rw [List.getElem?_map,List.getElem?_eq_getElem (by assumption)];rfl) rfl) rfl ?_
         refine wH rfl ?_
         by_cases he:c.tables[k]=d.tables[k]
         ·refine RG.callS rfl rfl rfl rfl rfl (d_RRules c.tables[k] d.tables[k] true (decide_eq_true he)) rfl rfl ?_
          refine jH ?_
          refine AW.condF rfl ?_
          refine jA ?_
          exact ⟨k+1,⟨⟨h,by rw [take_snoc (List.getElem?_eq_getElem h),take_snoc (List.getElem?_eq_getElem h'),hf,he]⟩,by omega⟩,⟨rO rfl rfl rfl,rO rfl rfl rfl,rO rfl rfl rfl,rO rfl rfl rfl,rI (i64_next h hm) rfl,trivial⟩,⟨bS rfl rfl rfl,bS rfl rfl rfl,bS rfl rfl rfl,bS rfl rfl rfl,trivial⟩⟩
         ·refine RG.callS rfl rfl rfl rfl rfl (d_RRules c.tables[k] d.tables[k] false (decide_eq_false he)) rfl rfl ?_
          refine jH ?_
          refine AW.condT rfl ?_
          refine jA ?_
          refine jR ?_
          exact no fun e=>he (by subst e;rfl)
        ·have h:¬k<c.tables.length:=by simpa using g1
         obtain rfl:k=c.tables.length:=by omega
         have e4:c.tables=d.tables:=by rw [List.take_length] at hf;rw [hf,List.take_of_length_le (by omega)]
         clear hf hk h g1 hm
         refine jA ?_
         refine jE ?_;refine jA ?_
         refine jA ?_
         refine jR ?_
         exact congrArg AV.b (hq.2 (cf_eq.2 ⟨h0,h1,e2,e3,e4⟩)).symm
     ·refine RG.runO ty_ok 0 [(25,.b false),(34,.b false),(43,.b false),(52,.b true)] 400 rfl jD ?_
      refine jH ?_
      refine AW.condT rfl ?_
      refine jA ?_
      refine jR ?_
      first
       | exact no fun e=>h1 (by rw [e])
       | exact no fun e=>h2 (by rw [e])
       | exact no fun e=>h3 (by rw [e])
       | exact no fun e=>h4 (by rw [e])
    ·refine RG.runO ty_ok 0 [(25,.b false),(34,.b false),(43,.b true)] 400 rfl jD ?_
     refine jH ?_
     refine AW.condT rfl ?_
     refine jA ?_
     refine jR ?_
     first
      | exact no fun e=>h1 (by rw [e])
      | exact no fun e=>h2 (by rw [e])
      | exact no fun e=>h3 (by rw [e])
      | exact no fun e=>h4 (by rw [e])
   ·refine RG.runO ty_ok 0 [(25,.b false),(34,.b true)] 400 rfl jD ?_
    refine jH ?_
    refine AW.condT rfl ?_
    refine jA ?_
    refine jR ?_
    first
     | exact no fun e=>h1 (by rw [e])
     | exact no fun e=>h2 (by rw [e])
     | exact no fun e=>h3 (by rw [e])
     | exact no fun e=>h4 (by rw [e])
  ·refine RG.runO ty_ok 0 [(25,.b true)] 400 rfl jD ?_
   refine jH ?_
   refine AW.condT rfl ?_
   refine jA ?_
   refine jR ?_
   first
    | exact no fun e=>h1 (by rw [e])
    | exact no fun e=>h2 (by rw [e])
    | exact no fun e=>h3 (by rw [e])
    | exact no fun e=>h4 (by rw [e])
 ·have hP:=d_RPorts c.topo.ports d.topo.ports false (decide_eq_false h0)
  refine jA ?_
  refine RG.callS rfl rfl rfl rfl rfl hP rfl rfl ?_
  refine jH ?_
  refine AW.condT rfl ?_
  refine jA ?_
  refine jR ?_
  exact no fun e=>h0 (by rw [e])
theorem ra_Ed:ReadA Tryz.prog 63 16 (α:=Ed) cEd:=by
 refine ⟨fun _=>rfl,fun a=>List.all_eq_true.1 rfl,fun H e w base spare held fuel cs x hx=>?_⟩
 obtain ⟨m,hl,hp⟩:=struct_part Tryz.underlying63 hx
 have hl:cs.length=16:=hl.trans (by kernel_rfl)
 obtain ⟨a0,h0⟩:=ra_int.part (hp 0 3 0 1 rfl (by kernel_rfl))
 obtain ⟨a1,h1⟩:=ra_int.part (hp 1 3 1 1 rfl (by kernel_rfl))
 obtain ⟨a2,h2⟩:=ra_int.part (hp 2 3 2 1 rfl (by kernel_rfl))
 obtain ⟨a3,h3⟩:=ra_bool.part (hp 3 4 3 1 rfl (by kernel_rfl))
 obtain ⟨a4,h4⟩:=ra_Rl.part (hp 4 57 4 12 rfl (by kernel_rfl))
 refine ⟨⟨a0,a1,a2,a3,a4⟩,PWs.all ?_⟩
 exact h0.join rfl (h1.join rfl (h2.join rfl (h3.join rfl (h4.join rfl (PWs.nil hl)))))
theorem LiveNone_d (x:Ed) (c:Cb):PDoes Tryz.prog 6 [.agg (cEd x),.agg (cCb c)] (.b true):=by
 refine PDoes.of_bodyN Tryz.func6 rfl (by kernel_rfl) rfl rfl ?_
 refine jA ?_
 refine RG.callMS rfl rfl rfl rfl rfl rfl (d_TryNil [cEd x]) rfl ?_
 refine jH ?_
 refine RG.callS rfl rfl rfl rfl rfl d_awake17 rfl rfl ?_
 refine jH ?_
 refine RG.callMS rfl rfl rfl rfl rfl rfl d_ConfigNil rfl ?_
 refine wH rfl ?_
 refine RG.callMS rfl rfl rfl rfl rfl rfl (d_RSame zeroCfg zeroCfg true ⟨fun _=>rfl,fun _=>rfl⟩) rfl ?_
 refine jH ?_
 refine RG.callMS rfl rfl rfl rfl rfl rfl d_AtomsNil rfl ?_
 refine jH ?_
 refine RG.callMS rfl rfl rfl rfl rfl rfl (d_NearNil c) rfl ?_
 refine jH ?_
 refine jR ?_
 rfl
end Go.Proofs.YtdidjpohnopihaaGreat.Sm
end
section
namespace Go.Proofs.YtdidjpohnopihaaGreat
open Go.RowKit Go.WideShapes Go.ChangeShapes Go.Deep Sm
theorem LiveNone_law {H:Type} {e:TypeId × Value->H} (W:World) (b0:Nat)
  (v0:Value) (d0:DataW H) (p0:List MemPlace) (ok0:Value.okWide Tryz.prog W .any b0 63 v0) (h0:DataW.Trod e Tryz.prog W 0 (fun _=>true) true 63 v0 d0 p0)
  (v1:Value) (d1:DataW H) (p1:List MemPlace) (ok1:Value.okWide Tryz.prog W .any b0 36 v1) (h1:DataW.Trod e Tryz.prog W 0 (fun _=>true) true 36 v1 d1 p1)
  : Calls Tryz.prog 6 #[v0,v1] W fun e W'=>e = .returned (.bool true)/\Kp No W W':=by
 obtain ⟨a0,r0⟩:=ra_Ed.arg_struct Tryz.underlying63 ok0 h0
 obtain ⟨a1,r1⟩:=ra_Cb.arg_struct Tryz.underlying36 ok1 h1
 exact (LiveNone_d a0 a1).law (vs:=[v0,v1]) rfl (pw_cons r0 (pw_cons r1 (pw_nil)))
end Go.Proofs.YtdidjpohnopihaaGreat
end
