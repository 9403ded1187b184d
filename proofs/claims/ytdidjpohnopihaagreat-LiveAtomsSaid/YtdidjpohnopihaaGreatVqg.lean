/- Contracts of the program's functions over data, and the plain laws that they meet (part 7). No condition. -/
import Derived.Test.YtdidjpohnopihaaGreatVqf
import Derived.WalkKit
import Derived.WalkSpells
import Derived.WalkLawsBesides
import Derived.Lib.Hide
import Derived.Deep.RegionHeld3
import Derived.Maps.AppendAt
import Derived.KernelRfl
import Derived.Lib.AppendStr
import Derived.Orders
import Derived.LoopTactic
import Derived.Laws.CopyRow
import Derived.Laws.Cells
import Derived.OrdersIn
import Derived.Laws.Externs
import Derived.TacticsIn
import Derived.RangeFuncLeaves
import Derived.RangeFuncRecord
import Derived.Great.BuildSlice
import Derived.Laws.ResultCell
import Derived.Laws.StructEq
import Derived.Laws.MakeOwn
import Derived.Lib.AppendZerosOnto
import Derived.RangeFuncSeq
import Derived.RangeFuncIn
import Derived.Deep.Slices
import Derived.Deep.Fields
import Derived.ChangeSame
import Derived.ProofKit
import Derived.OpenShut
import Derived.SizedLaws
import Derived.Test.YtdidjpohnopihaaGreatProg
import Derived.Shelf.Spec.BitsCarry
import Derived.Laws.AppendOwn
import Derived.DeepKeys4
import Derived.MapKept
import Derived.Maps.Own
import Derived.Maps.OwnOps
import Derived.StillTailTactics
import Derived.Laws.OwnMore
import Derived.Sort.AssemblyPlain
import Derived.Sort.LotD4
import Derived.Sort.Walk13a
import Derived.Shelf.Sort.Plain
import Derived.Sort.OwnSortedInts
import Derived.Sort.LotA
import Derived.Sort.MapsRangeIn
import Derived.Maps.RangeWalk
import Derived.Laws.IdiomRangeMap
import Derived.Shelf.SlSortCmp.WholeK
import Derived.Ground.SlsfProg
import Derived.Ground.NamesProg
import Derived.Shelf.SlSortCmp.NoneTotal
set_option linter.unusedVariables false
set_option linter.unusedSimpArgs false
set_option maxRecDepth 100000
set_option maxHeartbeats 4000000
section
namespace Go.Proofs.YtdidjpohnopihaaGreat.Sm
open Go.RowKit
def fnV (x:Cb):Value:=.func (.func 61) #[cbV x] #[]
structure kZ (w:World)(out:Value)(r:List Nat)(w':World)(out':Value):Prop where
 own:w'.ownsRow 0 3 1 out' r.length (idC r)
 grow:w.grownBy w' out.ownBlock
 new:out'.ownBlock=out.ownBlock\/∀g,out'.ownBlock=some g->w.heap.size<=g
def CF (x:Cb)(d:Int)(t:Tr)(r:List Nat):Prop:=∀(w:World) (F:Nat->Prop) (v out:Value) (l:List Nat),au w F (trA t) v->(∀b,F b->b<w.heap.size)->(∀g,out.ownBlock=some g->¬F g)->w.ownsRow 0 3 1 out l.length (idC l)->l.length+r.length<=100000000 ->
 Calls Tryz.prog 60 #[v,.int .i64 d,fnV x,out] w fun e w'=>∃out',e = .returned out'/\kZ w out (l++r) w' out'
theorem kZ.lt {w w':World}{out out':Value}{r:List Nat}(h:kZ w out r w' out'){k:Nat}(hk:k<w.heap.size)(hn:∀g,out.ownBlock=some g->g≠k):out'.ownBlock≠some k:=fun e=>by
 rcases h.new with h1|h1
 ·rw [h1] at e
  exact hn k e rfl
 ·have:=h1 k e
  omega
theorem kZ.trans {w w1 w2:World}{out o1 o2:Value}{r1 r2:List Nat}(h:kZ w out r1 w1 o1)(k:kZ w1 o1 r2 w2 o2):kZ w out r2 w2 o2:=by
 refine⟨k.own,⟨k.grow.os.trans h.grow.os,k.grow.tape.trans h.grow.tape,k.grow.output.trans h.grow.output,vH h.grow.size k.grow.size,fun b hb hn=>?_⟩,?_⟩
 ·rw [k.grow.block b (vK hb h.grow.size) (fun e=>?_),h.grow.block b hb hn]
  rcases h.new with h1|h1
  ·exact hn (e.trans h1)
  ·have:=h1 b e.symm
   omega
 ·rcases k.new with k1|k1
  ·rw [k1]
   exact h.new
  ·exact .inr fun g hg=>vH h.grow.size (k1 g hg)
theorem kZ.kp {w w1 w2:World}{out o1:Value}{r1:List Nat}(h:kZ w out r1 w1 o1)(k:Kp No w1 w2):kZ w out r1 w2 o1 :=
 ⟨gi h.own fun g hg=>k.block g (h.own.lt g hg).2 (aF _),⟨k.os.trans h.grow.os,k.tape.trans h.grow.tape,k.output.trans h.grow.output,vH h.grow.size k.size,fun b hb hn=>(k.block b (vK hb h.grow.size) (aF _)).trans (h.grow.block b hb hn)⟩,h.new⟩
theorem qy {W:World}{F:Nat->Prop}{t:Tr}{v:Value}(h:au W F (trA t) v):∃p,v = .pointer p:=by
 cases t with
 |nil=>exact⟨none,aD rfl h⟩
 |node a b c ids=>
  unfold trA at h
  cases h with
  |ro cs b off=>exact⟨_,rfl⟩
theorem G5 (x:Cb)(d:Int):CF x d .nil []:=by
 intro w F v out l hv hF ho hown hl
 obtain rfl:v = .pointer none:=aD rfl hv
 unfold fnV cbV
 rw [uA]
 go_enter Tryz.func60,Tryz.ntmps60
 go_wp2_with fail
 go_ret
 exact⟨out,rfl,hown,⟨rfl,rfl,rfl,qJ _,fun _ _ _=>rfl⟩,.inl rfl⟩
set_option maxHeartbeats 4000000 in
theorem B8 (x:Cb)(d d':Int)(a b c:Tr)(ids ws:List Nat)(g:Nat -> List Nat)(hw:aa Tryz.prog 61 [.agg (cCb x),.i .i64 d] (.sl (ws.map cI1)))(hd:IntKind.i64.wrap (d-1) = d')
  (hws:∀k∈ws,k<3) (H:∀k∈ws,CF x d' (BH (.node a b c ids) k) (g k)):CF x d (.node a b c ids) (ids++ws.flatMap g):=by
 intro w F v out l hv hF ho hown hl
 unfold trA at hv
 cases hv with
 |ro cs b0 off cell hFb hb h1 hr hc=>
  have k0:au w F (trA a) (cell 0):=hr 0 _ rfl
  have k1:au w F (trA b) (cell 1):=hr 1 _ rfl
  have k2:au w F (trA c) (cell 2):=hr 2 _ rfl
  have k3:au w F (.sl (ids.map cI1)) (cell 3):=hr 3 _ rfl
  have c0:=hc 0 _ rfl
  have c1:=hc 1 _ rfl
  have c2:=hc 2 _ rfl
  have c3:=hc 3 _ rfl
  obtain⟨p0,e0⟩:=qy k0
  obtain⟨p1,e1⟩:=qy k1
  obtain⟨p2,e2⟩:=qy k2
  obtain⟨A3,n3,e3,_,_⟩:=b9 k3
  rw [e0] at k0 c0
  rw [e1] at k1 c1
  rw [e2] at k2 c2
  rw [e3,qG] at k3 c3
  clear e0 e1 e2 e3 h1 hr hc
  rw [Nat.add_zero] at c0
  have K0:=kA4 k0
  have K1:=kA4 k1
  have K2:=kA4 k2
  have K3:=kA4 k3
  have HF:=kA4 hF
  have Ho:=kA4 ho
  have Hown:=kA4 hown
  have Hl:=kA4 hl
  have Hb:=kA4 hb
  have HFb:=kA4 hFb
  have Hw:=kA4 hw
  have Hd:=kA4 hd
  have HH:=kA4 H
  have Hws:=kA4 hws
  clear k0 k1 k2 k3 hF ho hown hl hb hFb hw hd H hws
  unfold fnV cbV
  go_enter Tryz.func60,Tryz.ntmps60
  go_wp2_with (at_builtin;refine nL rfl _ _ rfl out l ids rfl Hown.out F _ rfl K3.out (by have:=Hl.out;rw [qK] at this;omega) ?_)
  intro out1 w1 hown1 hgrow1 hnew1
  rw [<- qK] at hown1
  have H1:=kA4 (show kZ w out (l++ids) w1 out1 from ⟨hown1,hgrow1,hnew1.imp id fun e g hg=>by rw [e] at hg;exact Nat.le_of_eq (qB hg)⟩)
  clear hown1 hgrow1 hnew1 c3
  go_wp2_with fail
  refine (Hw.out.calls w1 (fun _=>False) [cbV x,.int .i64 d] rfl (aQ (gN _ _ _) (aQ (.i _ _) cP)) (fun _ h=>h.elim) (eT _ _)).mono ?_
  rintro e W2 ⟨u,rfl,hk2,hp⟩
  obtain⟨A4,n4,rfl,_,hmx⟩:=b9 hp
  rw [qG] at hp
  have hm4:=va hp
  rw [qG]
  rw [qG] at hm4
  unfold maxLen at hm4
  have H2:=kA4 (H1.out.kp hk2)
  have Hk2:=kA4 hk2
  have Hp:=kA4 hp
  clear hk2 hp hmx
  -- what the loop keeps
  have KF:=kA4 (fun (wr:World) (o:Value) (r:List Nat) (h:kZ W2 out1 r wr o) (b:Nat) (hb:F b)=>show wr.heap[b]?=w.heap[b]? from by
   have h0:=HF.out b hb
   rw [h.grow.block b (vK h0 H2.out.grow.size) (fun e=>H2.out.lt h0 (fun g hg e=>Ho.out g hg (e ▸ hb)) e.symm),H2.out.grow.block b h0 (fun e=>Ho.out b e.symm hb)])
  go_wp2_with fail
  go_loopw [3,24] (fun o i wr=>∃j,j<=ws.length/\i = .int .i64 (j:Nat)/\kZ W2 out1 (l++ids++(ws.take j).flatMap g) wr o) (fun _ i _=>ws.length-(intOf i).toNat)
  case atStart=>exact⟨0,qR _,rfl,by simpa using H2.out.own,⟨rfl,rfl,rfl,qJ _,fun _ _ _=>rfl⟩,.inl rfl⟩
  case round=>
   obtain⟨j,hj,rfl,hG⟩:=hrel
   have HG:=kA4 hG
   clear hG
   by_cases hlt:j<ws.length
   ·have hkj:ws[j]?=some ws[j]:=qA hlt
    have hmem:ws[j]∈ws:=vR hlt
    generalize ws[j]=k at hkj hmem
    have hk3:=Hws.out k hmem
    obtain⟨b4,off4,v4,rfl,hFb4,ck,hv4⟩:=mZ Hp.out (by rw [qF,hkj];rfl)
    obtain rfl:=aD rfl hv4
    have hb4:w1.heap.size<=b4/\b4<W2.heap.size:=hFb4.elim (fun h=>h.elim) id
    replace ck:wr.cell? ⟨b4,off4+j,none⟩=some (.int .i64 ((k:Nat):Int)):=by
     rw [<- ck]
     exact kA7 (a:=⟨b4,off4+j,none⟩) (HG.out.grow.block b4 hb4.2 (fun e=>by
      have:=(H1.out.own.lt b4 e.symm).2
      omega))
    obtain⟨pk,cp,hpk⟩:∃pk,w.cell? ⟨b0,off+k,none⟩=some (.pointer pk)/\au w F (trA (BH (.node a b c ids) k)) (.pointer pk):=by
     have:k=0\/k=1\/k=2:=by omega
     rcases this with rfl|rfl|rfl
     ·exact⟨p0,c0,K0.out⟩
     ·exact⟨p1,c1,K1.out⟩
     ·exact⟨p2,c2,K2.out⟩
    replace cp:wr.cell? ⟨b0,off+k,none⟩=some (.pointer pk):=(kA7 (a:=⟨b0,off+k,none⟩) (KF.out _ _ _ HG.out b0 HFb.out)).trans cp
    have Hpk:=kA4 hpk
    have Hkj:=kA4 hkj
    have Hmem:=kA4 hmem
    have q1:(j:Int)<(ws.length:Int):=by omega
    have q2:(k:Int)<3:=by omega
    clear hv4 hb4 hFb4 hkj hmem hpk c0 c1 c2 hlt
    have hdd:=Hd.out
    go_wp2_with fail
    have hst:(ws.take (j+1)).flatMap g=(ws.take j).flatMap g++g k:=i3 g Hkj.out
    have hlen:(l++ids++(ws.take j).flatMap g).length+(g k).length<=100000000:=by
     obtain⟨r,hr⟩:=pP g Hkj.out
     have:=Hl.out
     rw [hr] at this
     simp only [qK] at this ⊢
     omega
    have Hst:=kA4 hst
    clear hst
    refine (HH.out k Hmem.out wr F (.pointer pk) u3 _ (Hpk.out.keep (fun b hb _=>KF.out _ _ _ HG.out b hb) fun b h _=>h) (fun b hb=>vK (HF.out b hb) (vH H2.out.grow.size HG.out.grow.size)) (fun g' hg' hFg=>by
     have h0:=HF.out g' hFg
     have h1:out1.ownBlock≠some g':=H1.out.lt h0 fun g'' hg'' e=>Ho.out g'' hg'' (e ▸ hFg)
     exact HG.out.lt (vK h0 H2.out.grow.size) (fun g'' hg'' e=>h1 (e ▸ hg'')) hg') HG.out.own hlen).mono ?_
    rintro e W3 ⟨out3,rfl,h3⟩
    have H3:=kA4 (HG.out.trans h3)
    clear h3 hlen ck cp
    go_wp2_with fail
    go_roundw
    case rel=>
     refine⟨j+1,by omega,by go_num,?_⟩
     rw [Hst.out,<- uK]
     exact H3.out
    case measure=>simp [intOf];omega
   ·have q1:¬(j:Int)<(ws.length:Int):=by omega
    obtain rfl:j=ws.length:=by omega
    rw [vL (qJ _)] at HG
    go_wp2_with fail
    go_ret
    refine⟨u3,rfl,?_⟩
    rw [<- uK]
    exact H2.out.trans HG.out
theorem pm (x:Cb):∀(n:Nat) (t:Tr),n<=128->CF x ((n:Int)-1) t (ec x t n)
 |n,.nil,hn=>by
  have e:ec x .nil n=[]:=by cases n <;> rfl
  rw [e]
  exact G5 x _
 |0,.node a b c ids,hn=>by
  have h:=B8 x (((0:Nat):Int)-1) (-2) a b c ids [] (fun _=>[]) (En x) (by decide) (fun k hk=>by cases hk) (fun k hk=>by cases hk)
  rw [List.flatMap_nil,uA] at h
  exact h
 |n+1,.node a b c ids,hn=>by
  rw [ym]
  have e:(((n+1:Nat):Int)-1)=(n:Int):=by omega
  rw [e]
  exact B8 x (n:Int) ((n:Int)-1) a b c ids (gg x n) (fun k=>ec x (BH (.node a b c ids) k) n) (GA x n (by omega)) (by rw [kA0];omega) (fun k hk=>DK hk) (fun k hk=>pm x n (BH (.node a b c ids) k) (by omega))
theorem FT:aa Tryz.prog 141 [.sl [],.i .i64 0,.i .i64 0] (.tup []):=by
 refine jb Tryz.func141 ?_
 refine jA ?_
 refine AW.loopL (ι:=Unit) (fun _=>[(0,.sl []),(1,.i .i64 0),(2,.i .i64 0),(6,.i .i64 1)]) (fun _=>[]) (fun _=>True) (fun _=>0) () trivial jW jW fun _ _=>?_
 refine jA ?_
 refine zF ?_
 refine jE ?_;refine jA ?_
 exact (oJ rfl (.inl rfl))
theorem Gf (lim:Int):aa Tryz.prog 104 [.sl [],.i .i64 0,.i .i64 0,.i .i64 lim] (.tup []):=by
 refine jb Tryz.func104 ?_
 refine jA ?_
 refine AW.loopL (ι:=Unit) (fun _=>[(0,.sl []),(1,.i .i64 0),(2,.i .i64 0),(3,.i .i64 lim)]) (fun _=>[]) (fun _=>True) (fun _=>0) () trivial jW jW fun _ _=>?_
 refine jA ?_
 refine zT ?_
 refine jc FT ?_;refine jH ?_
 exact AW.ret (oJ rfl (.inr rfl))
theorem Du:aa Tryz.prog 62 [.sl []] (.tup []):=by
 refine jb Tryz.func62 ?_
 have hL:=uf (bQ ((0:Nat):Int)) (by rw [kJ (by omega)];omega)
 refine jA ?_
 refine jc hL ?_
 refine wH rfl ?_
 refine RG.callS rfl rfl rfl rfl rfl (Gf _) rfl rfl ?_
 refine jH ?_
 exact (oJ rfl (.inl rfl))
def ovL (x:Cb)(l:List (Nat × Cb)):List Int:=((ec x (gk l) 128).map fun n=>((n:Nat):Int)).mergeSort fun a b=>decide (a<=b)
theorem GC (w:World)(out:Value)(r:List Nat)(h:w.ownsRow 0 3 1 out r.length (idC r))(hl:r.length<=1000000000) :
  Calls Tryz.prog 62 #[out] w fun e w'=>e = .returned (.tuple #[])/\w'.ownsRow 0 3 1 out r.length (((r.map fun n=>((n:Nat):Int)).mergeSort fun a b=>decide (a<=b)).map (Value.int .i64))/\w.grownBy w' out.ownBlock:=by
 rcases h.2 with⟨rfl,h0⟩|⟨g,cap,cur,rfl,_,hg,h1,h2,h3,h4⟩
 ·obtain rfl:r=[]:=List.eq_nil_of_length_eq_zero h0
  have hc:=Du.calls w (fun _=>False) [.slice none 0 0] rfl (aQ (.sl [] none 0 1 0 0 (fun _ _=>undef) (qJ _) (qR _) (fun h=>absurd h (Nat.lt_irrefl 0)) (fun _ _ h=>by simp at h) (fun _ _ _ _ h=>by simp at h) (fun _ _ _ _ h=>by simp at h) (fun _ _ _ _ h=>by simp at h)) cP) (fun _ h=>h.elim) (eT _ _)
  refine hc.mono ?_
  rintro e w' ⟨v,rfl,hk,hp⟩
  have hv:v = .tuple #[]:=by
   cases hp with
   |tup cs vs hl hr=>
    obtain rfl:vs=[]:=List.eq_nil_of_length_eq_zero hl
    rfl
  subst hv
  exact⟨rfl,⟨by simp,.inl ⟨rfl,rfl⟩⟩,⟨hk.os,hk.tape,hk.output,hk.size,fun k hk' _=>hk.block k hk' (aF _)⟩⟩
 ·have hlt:=(qI.1 hg).1
  have hll:(r.map fun n=>((n:Nat):Int)).length=r.length:=qG ..
  rw [Nat.mul_one] at h4
  have ht:cur.toList.take (r.map fun n=>((n:Nat):Int)).length=(r.map fun n=>((n:Nat):Int)).map (Value.int .i64):=by
   rw [hll,h4,idC,List.map_map]
   rfl
  have hS:=Any.slices_Sort_int Tryz.lays189 g 0 cap (r.map fun n=>((n:Nat):Int)) w (holds_of_blockI hg ht) hlt (by omega)
  rw [hll] at hS
  refine hS.mono ?_
  rintro e w' ⟨rfl,n,os,rfl⟩
  refine⟨rfl,?_,grownBy_sortedI _⟩
  have:=ownsRow_sortedI (w:=w) (base:=0) (g:=g) (cap:=cap) (n:=n) (e:=3) (os:=os) (cur:=cur) (ss:=r.map fun n=>((n:Nat):Int)) (ts:=(r.map fun n=>((n:Nat):Int)).mergeSort fun a b=>decide (a<=b)) (by rw [List.length_mergeSort]) (qR _) hg (by omega) h2 h3
  rw [hll] at this
  exact this
theorem Ao (w:World)(A:Option Addr)(n c:Nat)(h:n<=c)(hA:A=none->c=0)(hn:n<=1000000000):Calls Tryz.prog 37 #[.slice A n c] w fun e w'=>e = .returned (.slice A n n)/\Kp No w w':=by
 have q1:(n:Int)<=(c:Int):=by omega
 go_enter Tryz.func37,Tryz.ntmps37
 cases A with
 |none=>
  obtain rfl:=hA rfl
  obtain rfl:n=0:=by omega
  go_wp2_with fail
  go_ret
  exact⟨rfl,Kp.refl _ _⟩
 |some ad=>
  go_wp2_with fail
  go_ret
  exact⟨rfl,Kp.refl _ _⟩
noncomputable def dL (l:List (Nat × Cb)):List AV:=[trA (trL 127 (atN l 127 [0])),trA (trL 127 (atN l 127 [1])),trA (trL 127 (atN l 127 [2])),.sl ((jr l []).map cI1)]
theorem AR {W:World}{F:Nat->Prop}{g n:Nat}(xs:List Int)(hn:xs.length=n)(hm:n<=maxLen)(hF:F g)(hg:g<W.heap.size)(hc:∀k (h:k<xs.length),W.cell? ⟨g,k,none⟩=some (.int .i64 xs[k])):au W F (.sl (xs.map cI)) (.slice (some ⟨g,0,none⟩) n n):=by
  have hlen:(xs.map cI).length=n:=by rw [qG,hn]
  have hat:∀(k:Nat) (cs:List AV),(xs.map cI)[k]?=some cs->∃h:k<xs.length,cs=cI xs[k]:=fun k cs hk=>by
    rw [qF] at hk
    obtain⟨i,hi,rfl⟩:=vT.1 hk
    obtain⟨h,e⟩:=qD.1 hi
    exact⟨h,by rw [e]⟩
  have hj0:∀{i:Int} {j:Nat} {x:AV},(cI i)[j]?=some x->j=0/\x = .i .i64 i:=fun {i j x} hx=>by
    match j,hx with
    |0,hx=>exact⟨rfl,(qB hx).symm⟩
    |j+1,hx=>simp [cI] at hx
  have hs:=au.sl (W:=W) (F:=F) (xs.map cI) (some ⟨g,0,none⟩) n 1 g 0 (fun k _=>.int .i64 (xs.getD k 0)) (by omega) hm (fun _=>⟨rfl,hF,hg⟩)
    (fun k cs hk=>by obtain⟨_,rfl⟩:=hat k cs hk;rfl)
    (fun k cs j x hk hx=>by obtain⟨_,rfl⟩:=hat k cs hk;obtain⟨_,rfl⟩:=hj0 hx;rfl)
    (fun k cs j x hk hx=>by
      obtain⟨h,rfl⟩:=hat k cs hk
      obtain⟨_,rfl⟩:=hj0 hx
      rw [qM,qA h]
      exact .i _ _)
    (fun k cs j x hk hx=>by
      obtain⟨h,rfl⟩:=hat k cs hk
      obtain⟨rfl,rfl⟩:=hj0 hx
      rw [vN,Nat.mul_one,Nat.add_zero,hc k h,qM,qA h]
      rfl)
  rw [hlen] at hs
  exact hs
theorem aa.mkT2 {P : Program} {f : FuncId} {x y r : AV} (hf : ∃ fn c, P.funcs[f]? = some fn /\ fn.body = some c /\ (fn.name == "runtime.NumGoroutine") = false) (h : ∀ (W : World) (F : Nat -> Prop) (v u : Value), au W F x v -> au W F y u -> (∀ b, F b -> b < W.heap.size) -> kR W F ->
  Calls P f #[v,u] W fun e W'=>∃v,e = .returned v/\Kp No W W'/\au W' (fun b=>F b\/(W.heap.size<=b/\b<W'.heap.size)) r v):aa P f [x,y] r :=
 ⟨hf,fun W F vs hl hv hF hL=>by
  match vs,hl with
  |[v,u],_=>exact h W F v u (hv 0 _ _ rfl rfl) (hv 1 _ _ rfl rfl) hF hL⟩
theorem CT (x:Cb)(l:List (Nat × Cb)):(ovL x l).length=(ec x (gk l) 128).length:=by rw [ovL,List.length_mergeSort,qG]
theorem Dd (x:Cb)(l:List (Nat × Cb)):(ec x (gk l) 128).length<=l.length:=by
 rw [(sV x l).length_eq,qG]
 exact List.length_filter_le _ _
set_option maxHeartbeats 4000000 in
theorem xX (x:Cb)(l:List (Nat × Cb))(hl:l.length<=100000000)(hx:x.sound=true):aa Tryz.prog 30 [.ro (dL l),.agg (cCb x)] (.sl ((ovL x l).map cI)):=by
 refine aa.mkT2 ⟨_,_,Tryz.func30,rfl,by kernel_rfl⟩ fun w F v u hv hu hF hL=>?_
 obtain⟨b0,off,rfl⟩:∃b off,v = .pointer (some ⟨b,off,none⟩):=by
  cases hv with
  |ro cs b off=>exact⟨_,_,rfl⟩
 obtain rfl:u=cbV x:=by
  cases hu with
  |agg cs vs hlen h1 hr=>
   match vs,hlen with
   |[v0,v1,v2,v3],_=>
    rw [aD rfl (hr 0 _ v0 rfl rfl),aD rfl (hr 1 _ v1 rfl rfl),aD rfl (hr 2 _ v2 rfl rfl),aD rfl (hr 3 _ v3 rfl rfl)]
    rfl
 have Hsnd:=kA4 (fun (W:World)=>(aV x true hx).calls W (fun _=>False) [cbV x] rfl (aQ (gN _ _ _) cP) (fun _ h=>h.elim) (eT _ _))
 have Hv:=kA4 hv
 have HF:=kA4 hF
 have Hlen:=kA4 (vH (Dd x l) hl)
 clear hv hF hu hx
 unfold cbV
 go_enter Tryz.func30,Tryz.ntmps30
 go_wp2_with fail
 refine (Hsnd.out _).mono ?_
 rintro e W1 ⟨v,rfl,hk1,hp⟩
 obtain rfl:v = .bool true:=aD rfl hp
 have Hk1:=kA4 (((Kp.refl No w).alloc _).trans hk1)
 have Hbox:=kA4 ((hk1.block _ (by simp) (aF _)).trans (kA5 w _))
 clear hk1 hp Hsnd
 go_wp2_with fail
 refine gP 6 (by kernel_rfl) (by kernel_rfl) fun W2 hk2=>?_
 have Hk2:=kA4 (Hk1.out.trans hk2)
 have hbx:=hk2.heap Hbox.out (aF _)
 have c0:W2.cell? ⟨w.heap.size,0,none⟩=some (.int .u64 x.value.hi.toNat):=af hbx rfl
 have c1:W2.cell? ⟨w.heap.size,1,none⟩=some (.int .u64 x.value.lo.toNat):=af hbx rfl
 have c2:W2.cell? ⟨w.heap.size,2,none⟩=some (.int .u64 x.care.hi.toNat):=af hbx rfl
 have c3:W2.cell? ⟨w.heap.size,3,none⟩=some (.int .u64 x.care.lo.toNat):=af hbx rfl
 clear hk2 hbx
 simp only [List.take_succ_cons,List.take_zero,List.drop_succ_cons,uR]
 repeat still_step
 refine wpStill_nil ?_
 clear c0 c1 c2 c3
 go_wp2_with fail
 refine (pm x 128 (gk l) (qJ _) W2 F _ (.slice none 0 0) [] (Hv.out.keep (fun b hb h=>Hk2.out.block b h (aF _)) fun b h _=>h) (fun b hb=>vK (HF.out b hb) Hk2.out.size) (fun g hg=>by cases hg) ⟨by simp [idC],.inl ⟨rfl,rfl⟩⟩ (by have:=Hlen.out;simp only [List.length_nil];omega)).mono ?_
 rintro e W3 ⟨out,rfl,h3⟩
 rw [uT] at h3
 have H3:=kA4 h3
 clear h3
 go_wp2_with fail
 refine (GC W3 out _ H3.out.own (by have:=Hlen.out;omega)).mono ?_
 rintro e W4 ⟨rfl,hown,hgrow⟩
 generalize hn:(ec x (gk l) 128).length=n at hown
 have hn':n<=100000000:=hn ▸ Hlen.out
 have hov:(ovL x l).map (Value.int .i64)=(((ec x (gk l) 128).map fun n=>((n:Nat):Int)).mergeSort fun a b=>decide (a<=b)).map (Value.int .i64):=rfl
 rw [<- hov] at hown
 have hol:(ovL x l).length=n:=(CT x l).trans hn
 have hnew:∀g,out.ownBlock=some g->w.heap.size<=g:=fun g hg=>by
  rcases H3.out.new with h1|h1
  ·rw [h1] at hg
   cases hg
  ·exact vH Hk2.out.size (h1 g hg)
 have hkp:Kp No w W4:=⟨hgrow.os.trans (H3.out.grow.os.trans Hk2.out.os),hgrow.tape.trans (H3.out.grow.tape.trans Hk2.out.tape),hgrow.output.trans (H3.out.grow.output.trans Hk2.out.output),vH (vH Hk2.out.size H3.out.grow.size) hgrow.size,fun k hk _=>by
  rw [hgrow.block k (vK hk (vH Hk2.out.size H3.out.grow.size)) (fun e=>by have:=hnew k e.symm;omega),H3.out.grow.block k (vK hk Hk2.out.size) (fun e=>by cases e),Hk2.out.block k hk (aF _)]⟩
 have Hkp:=kA4 hkp
 have Hov:=kA4 hown
 have Hnew:=kA4 hnew
 have Hol:=kA4 hol
 clear hgrow hnew hov hkp hn
 rcases hown.2 with⟨rfl,h0⟩|⟨g,cap,cur,rfl,_,hg,h1,h2,h3,h4⟩
 ·clear hown
  go_wp2_with fail
  refine (Ao W4 none 0 0 (qJ _) (fun _=>rfl) (qR _)).mono ?_
  rintro e W5 ⟨rfl,hk5⟩
  have Hk5:=kA4 hk5
  clear hk5
  go_wp2_with fail
  go_ret
  have e0:ovL x l=[]:=List.eq_nil_of_length_eq_zero (Hol.out.trans h0)
  refine⟨_,rfl,Hkp.out.trans Hk5.out,?_⟩
  rw [e0]
  exact .sl [] none 0 1 0 0 (fun _ _=>undef) (qJ _) (qR _) (fun h=>absurd h (Nat.lt_irrefl 0)) (fun _ _ h=>by simp at h) (fun _ _ _ _ h=>by simp at h) (fun _ _ _ _ h=>by simp at h) (fun _ _ _ _ h=>by simp at h)
 ·have Hg:=kA4 hg
  clear hown hg h3 h4
  go_wp2_with fail
  refine (Ao W4 (some ⟨g,0,none⟩) n cap h1 (fun h=>by cases h) (by omega)).mono ?_
  rintro e W5 ⟨rfl,hk5⟩
  have Hk5:=kA4 hk5
  clear hk5
  go_wp2_with fail
  go_ret
  refine⟨_,rfl,Hkp.out.trans Hk5.out,?_⟩
  have hlt:=(qI.1 Hg.out).1
  refine AR (ovL x l) Hol.out (by omega) (.inr ⟨Hnew.out g rfl,vK hlt Hk5.out.size⟩) (vK hlt Hk5.out.size) fun k hk=>?_
  have hk':k<n:=Hol.out ▸ hk
  rw [kA7 (w:=W4) (a:=⟨g,k,none⟩) (Hk5.out.block g hlt (aF _)),Hov.out.cellAt k (by omega),qF,qA hk]
  rfl
theorem ua (x:Cb)(l:List (Nat × Cb))(hx:x.sound=false):aa Tryz.prog 30 [.ro (dL l),.agg (cCb x)] (.sl []):=by
 refine aa.mkT2 ⟨_,_,Tryz.func30,rfl,by kernel_rfl⟩ fun w F v u hv hu hF hL=>?_
 obtain⟨b0,off,rfl⟩:∃b off,v = .pointer (some ⟨b,off,none⟩):=by
  cases hv with
  |ro cs b off=>exact⟨_,_,rfl⟩
 obtain rfl:u=cbV x:=by
  cases hu with
  |agg cs vs hlen h1 hr=>
   match vs,hlen with
   |[v0,v1,v2,v3],_=>
    rw [aD rfl (hr 0 _ v0 rfl rfl),aD rfl (hr 1 _ v1 rfl rfl),aD rfl (hr 2 _ v2 rfl rfl),aD rfl (hr 3 _ v3 rfl rfl)]
    rfl
 have Hsnd:=kA4 (fun (W:World)=>(aV x false hx).calls W (fun _=>False) [cbV x] rfl (aQ (gN _ _ _) cP) (fun _ h=>h.elim) (eT _ _))
 clear hv hF hu hx
 unfold cbV
 go_enter Tryz.func30,Tryz.ntmps30
 go_wp2_with fail
 refine (Hsnd.out _).mono ?_
 rintro e W1 ⟨v,rfl,hk1,hp⟩
 obtain rfl:v = .bool false:=aD rfl hp
 have Hk1:=kA4 (((Kp.refl No w).alloc _).trans hk1)
 clear hk1 hp Hsnd
 go_wp2_with fail
 go_ret
 exact⟨_,rfl,Hk1.out,.sl [] none 0 1 0 0 (fun _ _=>undef) (qJ _) (qR _) (fun h=>absurd h (Nat.lt_irrefl 0)) (fun _ _ h=>by simp at h) (fun _ _ _ _ h=>by simp at h) (fun _ _ _ _ h=>by simp at h) (fun _ _ _ _ h=>by simp at h)⟩
def Hm (x:Cb):List AV:=[.agg (cCb x)]
def aqB (pre:List Cb):List (Nat × SB):=[(2,⟨0,some (.box 73 [.row 40 0 0 (pre.map cCb).length])⟩),(40,⟨0,some (.row 36 4 (pre.map cCb))⟩)]
theorem Fl (pre:List Cb):(aqB pre).all l5=true:=by
 have h2:l5 (40,⟨0,some (.row 36 4 (pre.map cCb))⟩)=true:=by
  simp only [l5,aE.nof]
  rw [qQ]
  refine⟨rfl,qV.2 fun cs hcs=>?_⟩
  obtain⟨x,_,rfl⟩:=vI.1 hcs
  rfl
 rw [aqB,yB,yB,h2]
 rfl
def IA (Fin:List Cb->Prop)(e:Exit)(s:St):Prop:=(e = .normal\/e = .ret)/\∃(ep:Nat) (pre:List Cb),Fin pre/\s.σ 40=⟨ep,some (.row 36 4 (pre.map cCb))⟩/\s.ts 4 = .row 40 ep 0 (pre.map cCb).length
theorem rJ {f : FuncId} {cs : List Value} {Nx : List Cb -> Cb -> Prop} {Fin : List Cb -> Prop} (C : Ctx) (hfF : ∃ fn c, Tryz.prog.funcs[f]? = some fn /\ fn.body = some c /\ (fn.name == "runtime.NumGoroutine") = false)
  (hI:∀W F,C.In W F->(∀b,F b->b<W.heap.size)->IAt Tryz.prog f cs Hm Nx Fin W F) (hNx:∀pre x,Nx pre x->pre.length<=1000000) (W:World) (F:Nat->Prop) (hF:∀b,F b->b<W.heap.size) (hC:C.In W F) :
  Calls Tryz.prog 200 #[.slice none 0 0,.func (.func f) #[] cs.toArray] W fun e W'=>∃pre v,Fin pre/\e = .returned v/\Kp No W W'/\∃cells,W'.ownsRow 0 36 4 v pre.length cells/\dz W' (fun _=>False) 4 (pre.map cCb) cells/\∀g,v.ownBlock=some g->W.heap.size<=g:=by
 refine (qg (C:=C) (args:=[.raw (.slice none 0 0),.raw (.func (.func f) #[] cs.toArray)]) Tryz.func200 rfl rfl rfl (Q:=IA Fin) ?_ (fun s=>s.ts 4) ?_ W F [.slice none 0 0,.func (.func f) #[] cs.toArray] rfl (aQ (.raw _) (aQ (.raw _) cP)) hF (eT _ _) hC).mono ?_
 ·refine AWC.fst ?_
  refine jA ?_
  refine AWC.seq ?_
  refine AWC.fst ?_
  refine AW.nilRow 40 0 36 4 [(1,.raw (.func (.func f) #[] cs.toArray)),(2,.own 2 0 0)] (aqB []) ⟨.is rfl rfl,.rn (rO rfl rfl rfl),trivial⟩ ⟨.boxL rfl ⟨.nil rfl,trivial⟩ rfl,.old (bR rfl rfl),trivial⟩ ?_
  refine jA ?_
  refine AWC.block ?_
  refine AWC.rangeFunc hfF hI rfl (fun _=>rfl) rfl [2] [(2,.own 2 0 0)] aqB jW ?_ rfl (fun pre id hid=>?_) Fl ?_ ?_
  ·exact⟨.boxL rfl jQ rfl,bR rfl rfl,trivial⟩
  ·obtain rfl:=qP.1 hid
   exact⟨by decide,_,rfl⟩
  ·intro q pre x hx
   have hl:=hNx pre x hx
   refine jA ?_
   refine RG.opS rfl (bI cCb pre x (by omega) rfl rfl rfl rfl (tk rfl) rfl (tk rfl) rfl rfl ⟨_,rfl,rfl⟩ rfl rfl) rfl ?_;refine jH ?_
   exact⟨.ghost rfl rfl rfl,.boxL rfl jQ rfl,bR rfl rfl,trivial⟩
  ·intro q pre hpre
   show AWC _ _ _ _ _ _
   refine AWC.lift ?_
   refine jA ?_
   exact AW.ret ⟨.inr rfl,_,pre,hpre,rfl,rfl⟩
 ·rintro e s ⟨he,_⟩
  exact⟨he,pV rfl s⟩
 ·rintro e W' ⟨v,F',μ',s',q,rfl,hk,⟨he,ep,pre,hp,h1,h2⟩,hrel,hinv,hown⟩
  rw [h2] at hrel
  obtain⟨cells,ho,hc,hg⟩:=nT hinv h1 hrel
  rw [qG] at ho
  refine⟨pre,v,hp,rfl,hk,cells,ho,⟨hc.hm,hc.n,fun k cs j x hk hj=>?_⟩,fun g hgg=>?_⟩
  ·obtain⟨q1,u,q2,q3⟩:=hc.r k cs j x hk hj
   refine⟨q1,u,q2,?_⟩
   rw [qF] at hk
   obtain⟨y,_,rfl⟩:=vT.1 hk
   match j,hj with
   |0,hj=>obtain rfl:=qB hj;rw [aD rfl q3];exact .u _
   |1,hj=>obtain rfl:=qB hj;rw [aD rfl q3];exact .u _
   |2,hj=>obtain rfl:=qB hj;rw [aD rfl q3];exact .u _
   |3,hj=>obtain rfl:=qB hj;rw [aD rfl q3];exact .u _
   |j+4,hj=>simp [cCb] at hj
  ·obtain⟨c,hm⟩:=hg g hgg
   exact hown g ⟨40,ep,_,c,h1,hm⟩
abbrev CE:=Cb × Int × Nat
def cuE (e:CE):MapEntry:=⟨bN e.1,.int .i64 e.2.1,e.2.2⟩
def cuO (es:List CE)(clk:Nat):Obj:=.map (es.map cuE).toArray clk
theorem oC {P:Program}(w:World)(ty:TypeId)(r bm since c0:Nat)(seen:Array Nat)(es:Array MapEntry)(clock:Nat)(hi:w.heap[r]? = some (.mapIter (some bm) since seen c0))(hb:w.heap[bm]? = some (.map es clock))(hold:∀ x ∈ es.toList,x.born < since)(hsc:since <= c0) :
  ((leftOf es seen).size=0/\(Instr.next (.pointer (some ⟨r,0,none⟩)) false ty).run P w = .ok (.tuple #[.bool false]) w) \/
  ∃e∈(leftOf es seen).toList,∃w1:World,(w1=w\/w1=w.drew)/\(Instr.next (.pointer (some ⟨r,0,none⟩)) false ty).run P w = .ok (.tuple #[.bool true,e.key,e.val]) { w1 with heap:=w1.heap.setIfInBounds r (.mapIter (some bm) since (seen.push e.born) clock) }:=by
 simp only [Instr.next,getObj,kA2,Sem.run,hi,hb,Result.andThen,next_test_false seen es since c0 hold hsc,Bool.false_eq_true,if_false]
 unfold leftOf
 have hmem:∀x∈(Array.filter (fun e=>!seen.contains e.born) es).toList,x.born<since:=fun x hx=>hold x (by simp at hx ⊢;exact hx.1)
 generalize Array.filter (fun e=>!seen.contains e.born) es=L at hmem ⊢
 have e1:L.filter (fun x=>decide (x.born<since))=L:=Array.filter_eq_self.2 (fun x hx=>by simpa using hmem x (by simpa using hx))
 have e2:L.filter (fun x=>decide (x.born>=since)) = #[]:=by
  rw [Array.filter_eq_empty_iff]
  intro x hx
  have:=hmem x (by simpa using hx)
  simp
  omega
 simp only [e1,e2,Array.append_empty]
 by_cases h0:L.size=0
 ·left
  have:L = #[]:=Array.eq_empty_of_size_eq_zero h0
  subst this
  refine⟨rfl,?_⟩
  simp [choose,Sem.run,Question.forced]
 ·right
  have hne:L.isEmpty=false:=by simp [Array.isEmpty,h0]
  simp only [hne,Bool.false_eq_true,if_false,Array.empty_append,Array.size_map]
  have hch:∃(j:Nat) (w1:World),j<L.size/\(w1=w\/w1=w.drew)/\(choose (Question.mapNext L.size)).run P w = .ok j w1:=by
   by_cases hf:L.size<=1
   ·exact⟨0,w,by omega,.inl rfl,by simp [choose,Sem.run,Question.forced,hf]⟩
   ·exact⟨_,w.drew,kB2 _ (by omega),.inr rfl,by
     simp only [choose,Sem.run,Question.forced,vM,hf,if_false,Question.cut]
     rfl⟩
  obtain⟨j,w1,hj,hal,hrun⟩:=hch
  refine⟨L[j],by simp,w1,hal,?_⟩
  have hw1:w1.heap[r]?=some (.mapIter (some bm) since seen c0):=by rcases hal with rfl|rfl <;> exact hi
  have hset:∀(o':Obj),(setObj r o').run P w1 = .ok () ({ w1 with heap:=w1.heap.setIfInBounds r o' }:World):=fun o'=>by
   simp only [setObj,Sem.run]
   rw [hw1]
  simp only [hrun,Array.getElem?_map,uL hj,Option.map_some,kA2,hset,Result.andThen]
  rfl
theorem dy {α:Type}[DecidableEq α]:∀{l m:List α},l.Nodup->(∀x∈l,x∈m)->l.length<=m.length
 |[],m,_,_=>qR _
 |x::l,m,hn,hs=>by
  obtain⟨h1,h2⟩:=vV.1 hn
  have hx:=hs x (by simp)
  have ih:=dy (m:=m.erase x) h2 fun y hy=>(List.mem_erase_of_ne (fun e:y=x=>h1 (e ▸ hy))).2 (hs y (by simp [hy]))
  rw [List.length_erase_of_mem hx] at ih
  have:=List.length_pos_of_mem hx
  rw [qS]
  omega
theorem Ci {es:List CE}(hn:(es.map fun e=>e.2.2).Nodup){a b:CE}(ha:a∈es)(hb:b∈es)(h:a.2.2=b.2.2):a=b:=by
 induction es with
 |nil=>cases ha
 |cons x l ih=>
  rw [vE,vV] at hn
  rcases vA.1 ha with rfl|ha' <;> rcases vA.1 hb with rfl|hb'
  ·rfl
  ·exact absurd (vI.2 ⟨b,hb',h.symm⟩) hn.1
  ·exact absurd (vI.2 ⟨a,ha',h⟩) hn.1
  ·exact ih hn.2 ha' hb'
theorem fa {α β:Type}(f:α->β):∀{l:List α},(l.map f).Nodup->l.Nodup
 |[],_=>List.nodup_nil
 |x::l,h=>by
  rw [vE,vV] at h
  exact vV.2 ⟨fun hx=>h.1 (qX hx),fa f h.2⟩
set_option maxHeartbeats 4000000 in
theorem Do (es:List CE)(clk bx b1:Nat)(W:World)(F:Nat -> Prop)(hFx:F bx)(hF1:F b1)(hx:W.heap[bx]? = some (.cells #[.map (some b1)] 88 (0,0)))(h1:W.heap[b1]? = some (cuO es clk))(hn:(es.map fun e=>e.2.2).Nodup)(hc:∀ e ∈ es,e.2.2 < clk)(hF:∀ b,F b -> b < W.heap.size) :
  IAt Tryz.prog 157 [.pointer (some ⟨bx,0,none⟩)] Hm (fun pre _=>pre.length<es.length) (fun pre=>pre.Perm (es.map (·.1))) W F:=⟨fun W1 hk1 l J hJ hY h0=>by
 have hx1:=hk1.heap hx (aF _)
 have h11:=hk1.heap h1 (aF _)
 have c0:W1.cell? ⟨bx,0,none⟩=some (.map (some b1)):=af hx1 rfl
 have hrg:=run_range_map (P:=Tryz.prog) W1 88 36 3 b1 _ clk (by kernel_rfl) h11
 refine (callsIn_wide (n:=1)).1 ?_
 refine callsIn_of_wp Tryz.func157 rfl trivial ?_ rfl
 simp only [Tryz.ntmps157,uH,qS,List.length_nil,Nat.reduceAdd,Nat.reduceSub,Array.replicate_succ,Array.replicate_zero,List.push_toArray,List.append_toArray,uT,uX]
 gi_wp2_with (fail)
 gi_loopw [3] (fun _ wr=>∃(M:Nat->Prop) (L:List CE),J (some (L.map (·.1))) M wr/\M W1.heap.size/\(∀b,M b->W1.heap.size<=b/\b<wr.heap.size)/\(∀b,F b->wr.heap[b]?=W1.heap[b]?)/\wr.heap[W1.heap.size]?=some (.mapIter (some b1) clk (L.map (·.2.2)).toArray clk)/\(∀e∈L,e∈es)/\(L.map (·.2.2)).Nodup)
  (fun _ wr=>es.length-match wr.heap[W1.heap.size]? with|some (.mapIter _ _ seen _)=>seen.size|_=>0)
 case atStart=>
  refine⟨fun b=>b=W1.heap.size,[],hJ (some []) _ _ W1 _ h0 ((Kp.refl _ W1).alloc _) (fun b h=>h.elim) (fun b h=>.inr (by simp;omega)),rfl,fun b h=>by simp;omega,fun b hb=>heap_alloc_old _ _ (vK (hF b hb) hk1.size),kA5 _ _,fun e he=>(by cases he),List.nodup_nil⟩
 case round=>
  obtain⟨M,L,hj,hM,hMl,hFk,hit,hsub,hnd⟩:=hrel
  have hFl:∀b,F b->b<W1.heap.size:=fun b hb=>vK (hF b hb) hk1.size
  have hb1:wr.heap[b1]?=some (cuO es clk):=(hFk b1 hF1).trans h11
  have hborn:∀x∈(es.map cuE).toArray.toList,x.born<clk:=fun x hx=>by
   obtain⟨e,he,rfl⟩:=vI.1 hx
   exact hc e he
  rcases oC (P:=Tryz.prog) wr 0 W1.heap.size b1 clk clk (L.map (·.2.2)).toArray (es.map cuE).toArray clk hit hb1 hborn (qJ _) with⟨hz,hrun⟩|⟨x,hx,w1,hw1,hrun⟩
  ·have hperm:(L.map (·.1)).Perm (es.map (·.1)) := by
    refine List.Perm.map _ ((List.perm_ext_iff_of_nodup (fa (fun e:CE=>e.2.2) hnd) (fa (fun e:CE=>e.2.2) hn)).2 fun e=>⟨hsub e,fun he=>?_⟩)
    by_cases hm:e.2.2∈L.map (·.2.2)
    ·obtain⟨e',he',hb⟩:=vI.1 hm
     rw [<- Ci hn (hsub e' he') he hb]
     exact he'
    ·exfalso
     have:cuE e∈(leftOf (es.map cuE).toArray (L.map (·.2.2)).toArray):=by
      unfold leftOf
      rw [Array.mem_filter]
      refine⟨List.mem_toArray.2 (qX he),?_⟩
      have:(L.map (·.2.2)).toArray.contains (cuE e).born=false:=by
       rw [<- Bool.not_eq_true,Array.contains_iff_mem,List.mem_toArray]
       exact hm
      rw [this]
      rfl
     have h2:=Array.eq_empty_of_size_eq_zero hz
     rw [h2] at this
     simp at this
   clear hborn hb1
   gi_wp2_with (fail)
   go_end0
   exact⟨⟨_,rfl⟩,M,.inr ⟨_,hperm,hj⟩⟩
  ·obtain⟨e,he,rfl,hes⟩ : ∃ e ∈ es,cuE e = x /\ e.2.2 ∉ L.map (·.2.2) := by
    unfold leftOf at hx
    rw [Array.mem_toList_iff,Array.mem_filter] at hx
    obtain⟨e,he,rfl⟩:=vI.1 (by simpa using hx.1:x∈es.map cuE)
    refine⟨e,he,rfl,fun hm=>?_⟩
    have h3:(L.map (·.2.2)).toArray.contains (cuE e).born=true:=by
     rw [Array.contains_iff_mem,List.mem_toArray]
     exact hm
    have h4:=hx.2
    rw [h3] at h4
    cases h4
   obtain⟨w2,hw2⟩:∃w2:World,w2 = { w1 with heap:=w1.heap.setIfInBounds W1.heap.size (.mapIter (some b1) clk ((L.map (·.2.2)).toArray.push (cuE e).born) clk) }:=⟨_,rfl⟩
   rw [<- hw2] at hrun
   have hw1h:w1.heap=wr.heap:=by rcases hw1 with rfl|rfl <;> rfl
   have hilt:=(qI.1 hit).1
   have hit2:w2.heap[W1.heap.size]?=some (.mapIter (some b1) clk ((L++[e]).map (·.2.2)).toArray clk):=by
    rw [hw2]
    simp only [Array.getElem?_setIfInBounds,if_true,hw1h,if_pos hilt]
    rw [uB]
    simp [cuE]
   have hoth:∀k,k≠W1.heap.size->w2.heap[k]?=wr.heap[k]?:=fun k hk=>by
    rw [hw2]
    simp only [Array.getElem?_setIfInBounds,hw1h,if_neg fun e=>hk (Eq.symm e)]
   have hsz2:w2.heap.size=wr.heap.size:=by rw [hw2];simp [hw1h]
   have hkp2:Kp M wr w2:=by
    refine⟨?_,?_,?_,by omega,fun k hk hn=>hoth k fun e=>hn (e ▸ hM)⟩
    all_goals
     rw [hw2]
     rcases hw1 with rfl|rfl <;> rfl
   have hj2:=hJ _ _ M _ _ hj hkp2 (fun _ h=>h) (fun _ h=>.inl h)
   have hb2:w2.heap[b1]?=some (cuO es clk):=(hoth b1 fun e=>by have:=hFl b1 hF1;omega).trans hb1
   have hen:(Instr.entry (.pointer (some ⟨W1.heap.size,0,none⟩))).run Tryz.prog w2 = .ok (.tuple #[bN e.1,.int .i64 e.2.1]) w2:=by
    have hf:(es.map cuE).toArray.find? (·.born == e.2.2)=some (cuE e):=by
     rw [<- Array.find?_toList]
     exact find_born (cuE e) _ (by simpa [cuE,Function.comp_def] using hn) (qX he)
    rw [uB,vE,List.map_nil,<- List.push_toArray] at hit2
    simp only [cuO] at hb2
    simp only [Instr.entry,getObj,kA2,Sem.run,hit2,hb2,Result.andThen,Array.back?_push,bne_self_eq_false,Bool.false_eq_true,if_false,hf]
    rfl
   have hlen:(L.map (·.1)).length<es.length:=by
    have:=dy (l:=L++[e]) (m:=es) (fa (fun e:CE=>e.2.2) (by
     rw [uB]
     exact uQ.2 ⟨hnd,by simp,fun a ha b hb=>by
      obtain rfl:=qP.1 hb
      exact fun h=>hes (by rw [show e.2.2=a from h.symm];exact ha)⟩)) (fun x hx=>by
     rcases vB.1 hx with h|h
     ·exact hsub x h
     ·rw [qP.1 h];exact he)
    rw [qK,vP] at this
    rw [qG]
    omega
   obtain⟨w3,hw3⟩:∃w3,w3=w2.alloc (.cells #[.int .u64 e.1.value.hi.toNat,.int .u64 e.1.value.lo.toNat,.int .u64 e.1.care.hi.toNat,.int .u64 e.1.care.lo.toNat] 36):=⟨_,rfl⟩
   have hz3:w3.heap.size=w2.heap.size+1:=by rw [hw3];simp
   have hk3:∀k,k<w2.heap.size->w3.heap[k]?=w2.heap[k]?:=fun k hk=>by rw [hw3];exact heap_alloc_old _ _ hk
   have hj3:=hJ _ _ M _ w3 hj2 (by rw [hw3];exact (Kp.refl _ _).alloc _) (fun _ h=>h) (fun _ h=>.inl h)
   obtain⟨fn,tmps,assign,body,hy,hR⟩:=hY (L.map (·.1)) e.1 M w3 [.agg #[.int .u64 e.1.value.hi.toNat,.int .u64 e.1.value.lo.toNat,.int .u64 e.1.care.hi.toNat,.int .u64 e.1.care.lo.toNat]] hj3 hlen (fun b hb=>by have:=(hMl b hb).2;omega) rfl (aQ (gN _ _ e.1) cP)
   rw [hw3] at hy hR
   unfold bN at hen
   have Hit:=kA4 hit2
   have Hoth:=kA4 hoth
   have Hk3:=kA4 hk3
   have HR:=kA4 hR
   have Hlen:=kA4 hlen
   clear hkp2 hj2 hj3 hb2 hw2 hlen hb1 hborn hw1h hilt hR hk3 hoth hit2 hj
   gi_wp2_with (fail)
   refine HR.out.mono ?_
   rintro e4 W4 ⟨go,rfl,hj4,hk4⟩
   rw [<- hw3] at hk4
   have H4:=kA4 hk4
   have HJ4:=kA4 hj4
   clear hj4 hk4 hy HR hen hrun
   have hz4:w3.heap.size<=W4.heap.size:=H4.out.size
   cases go with
   |false=>
    gi_wp2_with (fail)
    refine bodyPost_ret (results_none rfl _ _ _) rfl ?_
    exact⟨⟨_,rfl⟩,M,.inl HJ4.out⟩
   |true=>
    have hitW:W4.heap[W1.heap.size]?=some (.mapIter (some b1) clk ((L++[e]).map (·.2.2)).toArray clk):=by
     have hlt:=(qI.1 Hit.out).1
     rw [H4.out.block _ (by omega) (fun h=>h.2 hM),Hk3.out _ hlt]
     exact Hit.out
    gi_wp2_with (fail)
    go_roundw
    case rel=>
     refine⟨M,L++[e],by rw [uB];exact HJ4.out,hM,fun b hb=>⟨(hMl b hb).1,by have:=(hMl b hb).2;omega⟩,fun b hb=>?_,hitW,fun x hx=>?_,?_⟩
     ·have:=hFl b hb
      have h5:=(qI.1 hit).1
      rw [H4.out.block b (by omega) (fun h=>h.1 hb),Hk3.out b (by omega),Hoth.out b (by omega)]
      exact hFk b hb
     ·rcases vB.1 hx with h|h
      ·exact hsub x h
      ·rw [qP.1 h];exact he
     ·rw [uB]
      exact uQ.2 ⟨hnd,by simp,fun a ha b hb=>by
       obtain rfl:=qP.1 hb
       exact fun h=>hes (by rw [show e.2.2=a from h.symm];exact ha)⟩
    case measure=>
     rw [hitW,hit]
     simp only [uH,qG,qK,vP]
     have:=Hlen.out
     rw [qG] at this
     omega⟩
def im (es:List CE)(c:Cb):Int:=((es.find? fun e=>decide (e.1=c)).map fun e=>e.2.1).getD 0
theorem fv:Tryz.prog.underlying 88=some (.map 36 3):=by kernel_rfl
theorem tH (W:World):(zeroValue 3).run Tryz.prog W = .ok (.int .i64 0) W:=by kernel_rfl
theorem i1 {es:List CE}(hk:(es.map (·.1)).Nodup){e:CE}(he:e∈es):im es e.1=e.2.1:=by
 induction es with
 |nil=>cases he
 |cons x l ih=>
  rw [vE,vV] at hk
  unfold im
  rw [List.find?_cons]
  rcases vA.1 he with rfl|h
  ·rw [qE rfl]
   rfl
  ·rw [qC fun e'=>hk.1 (vI.2 ⟨e,h,e'.symm⟩)]
   exact ih hk.2 h
theorem qd {es:List CE}{c:Cb}(h:∀e∈es,e.1≠c):im es c=0:=by
 unfold im
 rw [List.find?_eq_none.2 fun e he=>by simpa using h e he]
 rfl
theorem mL (W:World)(es:List CE)(c:Cb):((∀e∈es,e.1≠c)/\(Instr.findKey 36 (bN c) (es.map cuE)).run Tryz.prog W = .ok none W)\/∃(j:Nat) (e:CE),es[j]?=some e/\e.1=c/\(Instr.findKey 36 (bN c) (es.map cuE)).run Tryz.prog W = .ok (some (j,.int .i64 e.2.1)) W:=by
 obtain⟨lx,hx⟩:=dx c
 rcases key_law.find W hx (es.map cuE) (fun e he=>by
  obtain⟨x,_,rfl⟩:=vI.1 he
  exact dx x.1) with⟨h1,h2⟩|⟨j,e,h1,h2,h3⟩
 ·exact .inl ⟨fun e he hc=>h2 (cuE e) (qX he) (congrArg bN hc),h1⟩
 ·rw [qF] at h2
  obtain⟨x,hx,rfl⟩:=vT.1 h2
  exact .inr ⟨j,x,hx,pw h3,h1⟩
theorem qi (W:World)(es:List CE)(clk b1:Nat)(c:Cb)(hk:(es.map (·.1)).Nodup)(hb:W.heap[b1]?=some (cuO es clk)):(Instr.lookup 88 (.map (some b1)) (bN c) false).run Tryz.prog W = .ok (.int .i64 (im es c)) W:=by
 obtain⟨lx,hx⟩:=dx c
 have hck:=fun em=>key_law.check W em hx
 unfold cuO at hb
 rcases mL W es c with⟨h1,h2⟩|⟨j,e,h1,rfl,h2⟩
 ·rw [qd h1]
  simp only [Instr.lookup,kA2,kA9 fv,kA1,MapKept.run_getObj_map hb,kA3,hck,h2,tH]
  rfl
 ·rw [i1 hk (qN h1)]
  simp only [Instr.lookup,kA2,kA9 fv,kA1,MapKept.run_getObj_map hb,kA3,hck,h2]
  rfl
theorem eL {P:Program}{id:Nat}{Q:Exit->Act->World->Prop}{a:Act}{w:World}{l:List Oper}(hm:P.follows .mixedOrders=true)(hB:Region.lexB .any l.toArray=true)
  (h:∀w',w'=w.drewN 1->wpStill P l.toArray w' (fun a'=>Q .normal a' w') l a):(Code.region id l.toArray true).wp P Q a w :=
 wp_region_still_lit hm hB (h _ rfl)
set_option maxHeartbeats 4000000 in
theorem DR (es:List CE)(clk b1 bk:Nat)(x y:Cb)(nx ls:Value)(W:World)(hk:(es.map (·.1)).Nodup)(hb:W.heap[b1]?=some (cuO es clk))(hbk:W.heap[bk]?=some (.cells #[.map (some b1),nx,ls] 90 (0,0)))(hn:∀e∈es,0<=e.2.1/\e.2.1<=1000000000) :
  Calls Tryz.prog 114 #[bN x,bN y,.pointer (some ⟨bk,0,none⟩)] W fun e w'=>e = .returned (.int .i64 (im es x-im es y))/\∃q os',w'=Go.Sort.grow (W.drewN q) os':=by
 have hx:=fun W' h=>qi W' es clk b1 x hk h
 have hy:=fun W' h=>qi W' es clk b1 y hk h
 have Hb:=kA4 hb
 have Hbk:=kA4 hbk
 unfold bN at hx hy
 have HX:=kA4 hx
 have HY:=kA4 hy
 clear hx hy hb hbk
 unfold bN
 go_enter Tryz.func114,Tryz.ntmps114
 go_wp2_with fail
 obtain⟨Wa,hWa⟩:∃Wa,Wa=W.alloc (.cells #[.int .u64 x.value.hi.toNat,.int .u64 x.value.lo.toNat,.int .u64 x.care.hi.toNat,.int .u64 x.care.lo.toNat] 36):=⟨_,rfl⟩
 obtain⟨Wb,hWb⟩:∃Wb,Wb=Wa.alloc (.cells #[.int .u64 y.value.hi.toNat,.int .u64 y.value.lo.toNat,.int .u64 y.care.hi.toNat,.int .u64 y.care.lo.toNat] 36):=⟨_,rfl⟩
 rw [<- hWa,<- hWb]
 refine eL (by kernel_rfl) (by kernel_rfl) fun W2 hW2=>?_
 have hsa:Wa.heap.size=W.heap.size+1:=by rw [hWa];simp
 have hh2:W2.heap=Wb.heap:=by rw [hW2];rfl
 have hold:∀k,k<W.heap.size->W2.heap[k]?=W.heap[k]?:=fun k hk=>by
  rw [hh2,hWb,heap_alloc_old _ _ (by omega),hWa,heap_alloc_old _ _ hk]
 have h1:W2.heap[b1]?=some (cuO es clk):=(hold b1 (qI.1 Hb.out).1).trans Hb.out
 have hbk:=(hold bk (qI.1 Hbk.out).1).trans Hbk.out
 have hbx:W2.heap[W.heap.size]?=some (.cells #[.int .u64 x.value.hi.toNat,.int .u64 x.value.lo.toNat,.int .u64 x.care.hi.toNat,.int .u64 x.care.lo.toNat] 36 (0,0)):=by
  rw [hh2,hWb,heap_alloc_old _ _ (by omega),hWa,kA5]
 have hby:W2.heap[W.heap.size+1]?=some (.cells #[.int .u64 y.value.hi.toNat,.int .u64 y.value.lo.toNat,.int .u64 y.care.hi.toNat,.int .u64 y.care.lo.toNat] 36 (0,0)):=by
  rw [hh2,hWb,<- hsa,kA5]
 have hlx:=HX.out W2 h1
 have hly:=HY.out W2 h1
 have c0:W2.cell? ⟨bk,0,none⟩=some (.map (some b1)):=af hbk rfl
 have x0:W2.cell? ⟨W.heap.size,0,none⟩=some (.int .u64 x.value.hi.toNat):=af hbx rfl
 have x1:W2.cell? ⟨W.heap.size,1,none⟩=some (.int .u64 x.value.lo.toNat):=af hbx rfl
 have x2:W2.cell? ⟨W.heap.size,2,none⟩=some (.int .u64 x.care.hi.toNat):=af hbx rfl
 have x3:W2.cell? ⟨W.heap.size,3,none⟩=some (.int .u64 x.care.lo.toNat):=af hbx rfl
 have y0:W2.cell? ⟨W.heap.size+1,0,none⟩=some (.int .u64 y.value.hi.toNat):=af hby rfl
 have y1:W2.cell? ⟨W.heap.size+1,1,none⟩=some (.int .u64 y.value.lo.toNat):=af hby rfl
 have y2:W2.cell? ⟨W.heap.size+1,2,none⟩=some (.int .u64 y.care.hi.toNat):=af hby rfl
 have y3:W2.cell? ⟨W.heap.size+1,3,none⟩=some (.int .u64 y.care.lo.toNat):=af hby rfl
 have HW:=kA4 (show ∃q os',W2=Go.Sort.grow (W.drewN q) os' from ⟨1,_,by
  rw [hW2,hWb,hWa,Go.Sort.alloc_eq_grow,Go.Sort.alloc_eq_grow,Go.Sort.grow_grow]
  rfl⟩)
 have hbd:∀c,0<=im es c/\im es c<=1000000000:=fun c=>by
  by_cases h:∃e∈es,e.1=c
  ·obtain⟨e,he,rfl⟩:=h
   rw [i1 hk he]
   exact hn e he
  ·rw [qd fun e he hc=>h ⟨e,he,hc⟩]
   decide
 have h5:=hbd x
 have h6:=hbd y
 have hw:IntKind.i64.wrap (im es x-im es y)=im es x-im es y:=by rw [kA0];omega
 clear hWa hWb hW2 hsa hh2 hold h1 hbk hbx hby hbd hk hn
 repeat still_step
 refine wpStill_nil ?_
 go_wp2_with fail
 go_ret
 exact⟨rfl,HW.out⟩
def bH (es:List CE)(clk:Nat):aE:=.obj (cuO es clk)
def jK (es:List CE)(c:Cb):Bool:=es.any fun e=>decide (e.1=c)
theorem cw {es:List CE}{c:Cb}:jK es c=true↔∃e∈es,e.1=c:=by simp [jK]
theorem o7 {α β:Type}(f:α->β):∀(l:List α) (j:Nat),(l.map f).eraseIdx j=(l.eraseIdx j).map f
 |[],_=>rfl
 |x::l,0=>rfl
 |x::l,j+1=>congrArg (f x::·) (o7 f l j)
theorem kF:∀{es:List CE} {j:Nat} {e:CE},(es.map (·.1)).Nodup->es[j]?=some e->es.filter (fun x=>!decide (x.1=e.1))=es.eraseIdx j
 |x::l,0,e,hn,h=>by
  obtain rfl:=qB h
  rw [vE,vV] at hn
  rw [List.filter_cons,qE rfl]
  show l.filter _=l
  refine List.filter_eq_self.2 fun y hy=>?_
  have:y.1≠x.1:=fun h=>hn.1 (vI.2 ⟨y,hy,h⟩)
  simpa using this
 |x::l,j+1,e,hn,h=>by
  have h':l[j]?=some e:=h
  rw [vE,vV] at hn
  have hx:x.1≠e.1:=fun hh=>hn.1 (vI.2 ⟨e,qN h',hh.symm⟩)
  rw [List.filter_cons,qC hx]
  show x::l.filter _=x::l.eraseIdx j
  rw [kF hn.2 h']
section
variable {N:Nat} {o:Oper} {s:St}
theorem Ab {x k:Operand}{id ep clk:Nat}{es:List CE}{c:Cb}(r:Int)(ho:o.op = .lookup 88 x k false)(hx:s.ev x = .ref id ep .map)(hid:s.σ id=⟨ep,some (bH es clk)⟩)(hk:s.ev k = .agg (cCb c))(hn:(es.map (·.1)).Nodup)(hr:im es c=r) :
  ax Tryz.prog N o s ⟨.i .i64 r,[],[id]⟩:=by
 subst hr
 refine az [id] _ fun s' W F μ a h1 h2 hr=>⟨.int .i64 (im es c),?_,.pure (.i _ _)⟩
 have ex:=hr.ev x
 have ek:=hr.ev k
 rw [h1 x (by rw [ho];simp [Op.operands]),hx] at ex
 rw [h1 k (by rw [ho];simp [Op.operands]),hk] at ek
 have hid':=(h2 id (by simp)).trans hid
 obtain⟨b,c',hm,hv⟩:=(Rel.ref' ex).2.2 _ hid'
 obtain⟨b',c'',hm',hh⟩:=hr.inv.body _ _ _ hid'
 obtain⟨rfl,rfl⟩:b=b'/\c'=c'':=by rw [hm] at hm';simpa using hm'
 have hkv:=gf ek
 simp only [execOp,ho,hv,RK.val,hkv,qi W es clk b c hn hh,kA2,kA1,kA3]
theorem zh (W:World)(es:List CE)(clk b1:Nat)(c:Cb)(hk:(es.map (·.1)).Nodup)(hb:W.heap[b1]?=some (cuO es clk)):(Instr.lookup 88 (.map (some b1)) (bN c) true).run Tryz.prog W = .ok (.tuple #[.int .i64 (im es c),.bool (jK es c)]) W:=by
 obtain⟨lx,hx⟩:=dx c
 have hck:=fun em=>key_law.check W em hx
 unfold cuO at hb
 rcases mL W es c with⟨h1,h2⟩|⟨j,e,h1,rfl,h2⟩
 ·have h3:jK es c=false:=by
   rw [<- Bool.not_eq_true,cw]
   rintro⟨e,he,hc⟩
   exact h1 e he hc
  rw [qd h1,h3]
  simp only [Instr.lookup,kA2,kA9 fv,kA1,MapKept.run_getObj_map hb,kA3,hck,h2,tH]
  rfl
 ·have he:=qN h1
  rw [i1 hk he,cw.2 ⟨e,he,rfl⟩]
  simp only [Instr.lookup,kA2,kA9 fv,kA1,MapKept.run_getObj_map hb,kA3,hck,h2]
  rfl
theorem o6 {x k:Operand}{id ep clk:Nat}{es:List CE}{c:Cb}(r:Bool)(ho:o.op = .lookup 88 x k true)(hx:s.ev x = .ref id ep .map)(hid:s.σ id=⟨ep,some (bH es clk)⟩)(hk:s.ev k = .agg (cCb c))(hn:(es.map (·.1)).Nodup)(hr:jK es c=r) :
  ax Tryz.prog N o s ⟨.tup [.i .i64 (im es c),.b r],[],[id]⟩:=by
 subst hr
 refine az [id] _ fun s' W F μ a h1 h2 hr=>⟨.tuple [.int .i64 (im es c),.bool (jK es c)].toArray,?_,.pure (.tup _ [_,_] rfl (aQ (.i _ _) (aQ (.b _) cP)))⟩
 have ex:=hr.ev x
 have ek:=hr.ev k
 rw [h1 x (by rw [ho];simp [Op.operands]),hx] at ex
 rw [h1 k (by rw [ho];simp [Op.operands]),hk] at ek
 have hid':=(h2 id (by simp)).trans hid
 obtain⟨b,c',hm,hv⟩:=(Rel.ref' ex).2.2 _ hid'
 obtain⟨b',c'',hm',hh⟩:=hr.inv.body _ _ _ hid'
 obtain⟨rfl,rfl⟩:b=b'/\c'=c'':=by rw [hm] at hm';simpa using hm'
 have hkv:=gf ek
 simp only [execOp,ho,hv,RK.val,hkv,zh W es clk b c hn hh,kA2,kA1,kA3]
theorem wO {x:Operand}{id ep:Nat}{ob ob':Obj}{P:Program}(rd:List Operand)(hrd:∀ y ∈ rd,y ∈ o.op.operands.toList)(hx:s.ev x = .ref id ep .map)(hxr:x ∈ o.op.operands.toList)(hid:s.σ id = ⟨ep,some (.obj ob)⟩)(v:Next)(hv:v = .skip \/ v = .value (.tuple #[]))
  (hrun:∀(s':St) W F μ a b,(∀y∈o.op.operands.toList,s'.ev y=s.ev y)->RS N W F μ s' a->a.eval x = .map (some b)->W.heap[b]?=some ob->(execOp a.eval o).run P W = .ok v { W with heap:=W.heap.setIfInBounds b ob' }) :
  ax P N o s ⟨.tup [],[(id,⟨ep,some (.obj ob')⟩)],[]⟩:=by
 intro s' g1 g2 g3 W F μ a hr K Q hK
 have hid':s'.σ id=⟨ep,some (.obj ob)⟩:=(g3 (id,⟨ep,some (.obj ob')⟩) (by simp)).trans hid
 have ex:=hr.ev x
 rw [g1 x hxr,hx] at ex
 obtain⟨b,c',hm,hev⟩:=(Rel.ref' ex).2.2 _ hid'
 obtain⟨b',c'',hm',hh⟩:=hr.inv.body _ _ _ hid'
 obtain⟨rfl,rfl⟩:b=b'/\c'=c'':=by rw [hm] at hm';simpa using hm'
 have hlt:b<W.heap.size:=(qI.1 hh).1
 have hrun:=hrun s' W F μ a b g1 hr hev hh
 generalize hW:({ W with heap:=W.heap.setIfInBounds b ob' }:World)=W' at hrun
 have hk:Kp (fun b=>(s'.σ id).body.isSome=true/\∃c,μ id=some (b,c)) W W':=by
  subst hW
  exact⟨rfl,rfl,rfl,by simp,fun k hk hn=>by
   have:b≠k:=fun e=>hn ⟨by rw [hid'];rfl,c',e ▸ hm⟩
   simp only [Array.getElem?_setIfInBounds,if_neg this]⟩
 have hh':W'.heap[b]?=some ob':=by
  subst hW
  simp only [Array.getElem?_setIfInBounds,if_true,if_pos hlt]
 have hsz:W'.heap.size=W.heap.size:=by subst hW;simp
 obtain⟨hs,hi⟩ := cy hr.inv id (μ id) ep (.obj ob') hk (fun b1 c1 e=>by
   rw [hm] at e
   obtain⟨rfl,rfl⟩:b=b1/\c'=c1:=by simpa using e
   exact⟨by rw [hsz];exact hlt,.inr ⟨by rw [hid'];rfl,c',hm⟩⟩)
  (.inr ⟨by rw [hid'],.obj ob,by rw [hid'],rfl,rfl⟩) (fun hs=>⟨b,c',hm,hh'⟩)
 unfold Oper.wp
 rw [hrun]
 rcases hv with rfl|rfl
 ·exact hK _ F _ _ (hr.put hs hi (.pure (.tup [] [] rfl (by simp)))) hs
 ·exact hK _ F _ _ (hr.put hs hi (.pure (.tup [] [] rfl (by simp)))) hs
theorem xG {x k v:Operand}{id ep clk:Nat}{es:List CE}{c:Cb}{n:Int}(ho:o.op = .mapUpdate 88 x k v)(hx:s.ev x = .ref id ep .map)(hid:s.σ id=⟨ep,some (bH es clk)⟩)(hk:s.ev k = .agg (cCb c))(hv:s.ev v = .i .i64 n)(hc:∀e∈es,e.1≠c) :
  ax Tryz.prog N o s ⟨.tup [],[(id,⟨ep,some (bH (es++[(c,n,clk)]) (clk+1))⟩)],[]⟩:=by
 refine wO [] (fun y hy=>by cases hy) hx (by rw [ho];simp [Op.operands]) hid .skip (.inl rfl) fun s' W F μ a b g1 hr hev hh=>?_
 have ek:=hr.ev k
 have ev:=hr.ev v
 rw [g1 k (by rw [ho];simp [Op.operands]),hk] at ek
 rw [g1 v (by rw [ho];simp [Op.operands]),hv] at ev
 have hkv:=gf ek
 have hvv:=ev.i'
 obtain⟨lx,hlx⟩:=dx c
 have hck:=fun em=>key_law.check W em hlx
 have hf:(Instr.findKey 36 (bN c) (es.map cuE)).run Tryz.prog W = .ok none W:=by
  rcases mL W es c with⟨_,h4⟩|⟨j,e,h3,h4,_⟩
  ·exact h4
  ·exact absurd h4 (hc e (qN h3))
 have hpush:(es.map cuE).toArray.push ⟨bN c,.int .i64 n,clk⟩=((es++[(c,n,clk)]).map cuE).toArray:=by
  rw [uB,List.push_toArray]
  rfl
 unfold cuO at hh
 simp only [execOp,ho,Instr.mapUpdate,kA2,kA9 fv,kA1,hev,MapKept.run_getObj_map hh,kA3,hkv,hvv,hck,hf,MapKept.run_setObj_map _ hh,hpush]
 rfl
theorem DV {cl:Call}{x k:Operand}{id ep clk:Nat}{es es':List CE}{c:Cb}(ho:o.op = .call cl)(hcl:cl.callee = .builtin .delete)(ha:cl.args = #[x,k])(hat:cl.argTypes = #[88,36])(hx:s.ev x = .ref id ep .map)(hid:s.σ id = ⟨ep,some (bH es clk)⟩)(hk:s.ev k = .agg (cCb c))
  (hn:(es.map (·.1)).Nodup) (he:es.filter (fun e=>!decide (e.1=c))=es') :
  ax Tryz.prog N o s ⟨.tup [],[(id,⟨ep,some (bH es' clk)⟩)],[]⟩:=by
 subst he
 refine wO [] (fun y hy=>by cases hy) hx (by rw [ho];simp [Op.operands,Call.operands,hcl,ha]) hid (.value (.tuple #[])) (.inr rfl) fun s' W F μ a b g1 hr hev hh=>?_
 have ek:=hr.ev k
 rw [g1 k (by rw [ho];simp [Op.operands,Call.operands,hcl,ha]),hk] at ek
 have hkv:=gf ek
 obtain⟨lx,hlx⟩:=dx c
 have hck:=fun em=>key_law.check W em hlx
 unfold cuO at hh
 rcases mL W es c with⟨h3,h4⟩|⟨j,e,h3,h5,h4⟩
 ·have hf:es.filter (fun e=>!decide (e.1=c))=es:=List.filter_eq_self.2 fun e he=>by simpa using h3 e he
  rw [hf]
  simp only [execOp,ho,resolve,hcl,ha,hat,List.map_toArray,vE,List.map_nil,invoke,builtin,Builtin.delete_,uG,List.getElem?_cons_zero,uS,hev,hkv,kA2,kA3,kA9 fv,kA1,MapKept.run_getObj_map hh,hck,h4,MapKept.run_setObj_map _ hh]
  rfl
 ·have hf:=kF hn h3
  rw [h5] at hf
  have hj:=(qD.1 h3).1
  have he:(es.map cuE).toArray.eraseIdxIfInBounds j=((es.filter fun e=>!decide (e.1=c)).map cuE).toArray:=by
   rw [hf,Array.eraseIdxIfInBounds,dif_pos (by simpa using hj)]
   apply Array.toList_inj.1
   rw [Array.toList_eraseIdx]
   rw [List.toList_toArray,o7]
  simp only [execOp,ho,resolve,hcl,ha,hat,List.map_toArray,vE,List.map_nil,invoke,builtin,Builtin.delete_,uG,List.getElem?_cons_zero,uS,hev,hkv,kA2,kA3,kA9 fv,kA1,MapKept.run_getObj_map hh,hck,h4,MapKept.run_setObj_map _ hh,he]
  rfl
end
def Ef (l:List Int)(n:Int):Nat:=l.countP fun y=>decide (y<n)
theorem wz {n:Int}:∀{l:List Int} {k:Nat},k<=l.length->(∀i (h:i<l.length),i<k->l[i]<n)->(∀i (h:i<l.length),k<=i->¬l[i]<n)->Ef l n=k
 |[],k,hk,_,_=>by
  have:k=0:=Nat.le_zero.1 hk
  rw [this]
  rfl
 |x::l,0,_,_,h2=>by
  unfold Ef
  rw [List.countP_eq_zero]
  intro y hy
  obtain⟨i,hi,rfl⟩:=List.mem_iff_getElem.1 hy
  simpa using h2 i hi (qR _)
 |x::l,k+1,hk,h1,h2=>by
  have h0:=h1 0 (by simp) (by omega)
  have ih:=wz (l:=l) (n:=n) (k:=k) (by simpa using hk) (fun i h hi=>by have:=h1 (i+1) (by simpa using h) (by omega);simpa using this) (fun i h hi=>by have:=h2 (i+1) (by simpa using h) (by omega);simpa using this)
  unfold Ef at ih ⊢
  rw [List.countP_cons,ih]
  have:decide (x<n)=true:=qE (by simpa using h0)
  rw [if_pos this]
theorem Bn {l:List Int}{n:Int}{k:Nat}(h1:∀i (h:i<l.length),i<k->l[i]<n)(hs:l.Pairwise (· < ·))(hk:k<l.length):n∈l↔l[k]=n\/l[k]<n/\n∈l:=by
 constructor
 ·intro h
  obtain⟨i,hi,rfl⟩:=List.mem_iff_getElem.1 h
  rcases Nat.lt_trichotomy i k with h3|h3|h3
  ·exact absurd (h1 i hi h3) (by omega)
  ·subst h3;exact .inl rfl
  ·exact .inr ⟨List.pairwise_iff_getElem.1 hs k i hk hi h3,h⟩
 ·rintro (h|h)
  ·rw [<- h];exact vR hk
  ·exact h.2
theorem Fy (a b:Nat)(h:a+b<=2000000):IntKind.i64.wrap (((cj (bQ (IntKind.i64.wrap ((a:Int)+(b:Int)))) (UInt64.ofNat 1).toNat).toNat:Nat):Int)=(((a+b) / 2:Nat):Int):=by
 have e0:IntKind.i64.wrap ((a:Int)+(b:Int))=((a+b:Nat):Int):=by rw [kA0];omega
 have e1:(bQ ((a+b:Nat):Int)).toNat=a+b:=by
  have e:=eB ((a+b:Nat):Int)
  rw [IntKind.wrap_u64] at e
  omega
 rw [e0,sk _ (by decide),UInt64.toNat_shiftRight,e1]
 have e2:(a+b) >>> ((UInt64.ofNat (UInt64.ofNat 1).toNat).toNat % 64)=(a+b) / 2:=by
  show (a+b) >>> 1=_
  rw [Nat.shiftRight_eq_div_pow]
 rw [e2,kA0]
 omega
theorem AE (x:Int):aa Tryz.prog 251 [.i .i64 x] (.b false):=by
 refine jb Tryz.func251 ?_
 have hx:x=x:=rfl
 refine zR ?_
 exact congrArg AV.b (by simp)
theorem HU (l:List Int)(n:Int)(hs:l.Pairwise (· < ·))(hl:l.length<=1000000):aa Tryz.prog 242 [.sl (l.map cI),.i .i64 n] (.tup [.i .i64 (Ef l n:Nat),.b (decide (n∈l))]):=by
  refine jb Tryz.func242 ?_
  refine jA ?_
  refine AW.loopL (ι:=Nat × Nat) (fun x=>[(0,.sl (l.map cI)),(1,.i .i64 n),(6,.i .i64 (l.map cI).length),(7,.i .i64 (x.1:Nat)),(8,.i .i64 (x.2:Nat))]) (fun _=>[]) (fun x=>x.1<=x.2/\x.2<=l.length/\(∀i (h:i<l.length),i<x.1->l[i]<n)/\(∀i (h:i<l.length),x.2<=i->¬l[i]<n)) (fun x=>x.2-x.1) (0,l.length) ⟨qR _,qJ _,fun i _ h=>absurd h (uO _),fun i h h2=>absurd h (by omega)⟩ ?_ jW fun x hx=>?_
  · exact⟨rI rfl rfl,rI rfl rfl,rI rfl rfl,rI rfl rfl,rI (show AV.i .i64 (((l.map cI).length:Nat):Int)=_ by rw [qG]) rfl,trivial⟩
  obtain⟨a,b⟩:=x
  obtain⟨h1,h2,h3,h4⟩:=hx
  simp only at h1 h2 h3 h4
  refine jA ?_
  refine AW.cond rfl (fun h0=>?_) (fun h0=>?_)
  · have hab:a<b:=by simpa using h0
    refine jB ?_
    have hmid:=Fy a b (by omega)
    have hm1:(a+b) / 2<l.length:=by omega
    obtain⟨m,hm⟩:∃m,m=(a+b) / 2:=⟨_,rfl⟩
    have ham:a<=m:=by omega
    have hmb:m<b:=by omega
    rw [<- hm] at hmid hm1
    refine AW.text ?_
    refine RG.runO ae 0 [(21,.i .i64 (m:Nat))] 400 rfl jD ?_
    refine jA ?_
    refine RG.opS rfl (aq rfl (tk rfl) rfl (tk rfl) rfl rfl (show (l.map cI)[m]?=some (cI l[m]) by rw [qF,qA (by assumption)];rfl) rfl) rfl ?_
    refine wH rfl ?_
    refine jc (EL l[m] n) ?_;refine jH ?_
    refine AW.cond rfl (fun h5=>?_) (fun h5=>?_)
    · have h6:l[m]<n:=of_decide_eq_true h5
      have hw:IntKind.i64.wrap ((m:Int)+Int.ofNat 1)=((m+1:Nat):Int):=by rw [kA0];simp only [qH];omega
      refine jA ?_
      refine⟨(m+1,b),⟨⟨by omega,h2,fun i hi him=>?_,h4⟩,by show b-(m+1)<b-a;omega⟩,⟨rI rfl rfl,rI rfl rfl,rI rfl rfl,rI (congrArg (AV.i .i64) hw) rfl,rI rfl rfl,trivial⟩,jW⟩
      rcases Nat.lt_or_ge i m with h7|h7
      · have:=List.pairwise_iff_getElem.1 hs i m hi hm1 h7
        omega
      · obtain rfl:i=m:=by omega
        exact h6
    · have h6:¬l[m]<n:=of_decide_eq_false h5
      refine jA ?_
      refine⟨(a,m),⟨⟨ham,by show m<=l.length;omega,h3,fun i hi him=>?_⟩,by show m-a<b-a;omega⟩,jQ,jW⟩
      rcases Nat.lt_or_ge m i with h7|h7
      · have:=List.pairwise_iff_getElem.1 hs m i hm1 hi h7
        omega
      · obtain rfl:m=i:=Nat.le_antisymm him h7
        exact h6
  · have hab : a = b := by have : ¬ a < b := by simpa using h0
                           omega
    subst hab
    have hp:=wz h2 h3 h4
    rw [hp]
    refine jB ?_
    refine jE ?_;refine jB ?_
    rcases Nat.lt_or_ge a l.length with h|h
    · have hlt:(a:Int)<((l.map cI).length:Int):=by rw [qG];omega
      have hh:=Bn h3 hs h
      refine AW.text ?_
      refine RG.runO ae 0 [(34,.b true)] 400 rfl jD ?_
      refine RG.opS rfl (aq rfl (tk rfl) rfl (tk rfl) rfl rfl (show (l.map cI)[a]?=some (cI l[a]) by rw [qF,qA (by assumption)];rfl) rfl) rfl ?_
      by_cases he:l[a]=n
      · refine RG.runO ae 0 [(41,.b true)] 400 rfl jD ?_
        refine zH ?_
        exact congrArg (fun b=>AV.tup [.i .i64 (a:Nat),.b b]) (qE (hh.2 (.inl he))).symm
      · refine RG.runO ae 0 [(41,.b false)] 400 rfl jD ?_
        refine RG.opS rfl (aq rfl (tk rfl) rfl (tk rfl) rfl rfl (show (l.map cI)[a]?=some (cI l[a]) by rw [qF,qA (by assumption)];rfl) rfl) rfl ?_
        refine wH rfl ?_
        refine jc (AE l[a]) ?_;refine jH ?_
        refine jR ?_
        refine congrArg (fun b=>AV.tup [.i .i64 (a:Nat),.b b]) (qC fun hm=>?_).symm
        rcases hh.1 hm with h5|h5
        · exact he h5
        · exact h4 a h (qJ _) h5.1
    · have hlt:¬(a:Int)<((l.map cI).length:Int):=by rw [qG];omega
      refine AW.text ?_
      refine RG.runO ae 0 [(34,.b false)] 400 rfl jD ?_
      refine zH ?_
      refine congrArg (fun b=>AV.tup [.i .i64 (a:Nat),.b b]) (qC fun hm=>?_).symm
      obtain⟨i,hi,rfl⟩:=List.mem_iff_getElem.1 hm
      have:=h3 i hi (by omega)
      omega
theorem E0 (l:List Int)(n:Int)(hs:l.Pairwise (· < ·))(hl:l.length<=1000000)(b:Bool)(hb:decide (n∈l)=b):aa Tryz.prog 210 [.sl (l.map cI),.i .i64 n] (.b b):=by
 have h:=HU l n hs hl
 rw [hb] at h
 refine jb Tryz.func210 ?_
 refine jA ?_
 refine jc h ?_;refine jH ?_
 exact zS
theorem xR (l:List Int)(n:Int)(hs:l.Pairwise (· < ·))(hl:l.length<=1000000)(b:Bool)(hb:decide (n∈l)=b):aa Tryz.prog 206 [.sl (l.map cI),.i .i64 n] (.b (!b)):=by
 have h:=E0 l n hs hl b hb
 refine jb Tryz.func206 ?_
 refine jA ?_
 refine jc h ?_;refine jH ?_
 exact zS
theorem FY (l:List Int)(n:Int)(hs:l.Pairwise (· < ·))(hl:l.length<=1000000)(b:Bool)(hb:decide (n∈l)=b):aa Tryz.prog 167 [.sl (l.map cI),.i .i64 n] (.b b):=by
 have h:=E0 l n hs hl b hb
 refine jb Tryz.func167 ?_
 refine jA ?_
 refine jm (mN l hs hl) ?_;refine jH ?_
 refine jc h ?_;refine jH ?_
 exact zS
def ed (a b:List Int):List Int:=a.filter fun n=>!decide (n∈b)
theorem Fw (a b:List Int)(hb:b.Pairwise (· < ·))(ha:a.length<=1000000)(hbl:b.length<=1000000):aa Tryz.prog 205 [.sl (a.map cI),.fn 206 [.sl (b.map cI)] []] (.sl ((ed a b).map cI)):=by
 refine jb Tryz.func205 ?_
 have hm:a.length<=9223372036854775807:=by omega
 refine jB ?_;refine wF ?_;refine wH rfl ?_;refine jB ?_
 refine AW.text ?_
 refine RG.opS rfl (bT 5 3 1 rfl) rfl ?_
 refine jH ?_
 refine AW.loopL (ι:=Nat × List Int) (fun x=>[(1,.fn 206 [.sl (b.map cI)] []),(5,.row 5 0 0 (x.2.map cI).length),(8,.sl (a.map cI)),(9,.i .i64 (a.map cI).length),(10,.i .i64 (x.1:Nat))]) (fun x=>[(5,⟨0,some (.row 3 1 (x.2.map cI))⟩)]) (fun x=>x.1<=a.length/\x.2=ed (a.take x.1) b) (fun x=>a.length-x.1) (0,[]) ⟨qR _,rfl⟩ jQ jW fun x hk=>?_
 obtain⟨k,X⟩:=x
 obtain⟨hk,hX⟩:=hk
 simp only at hk hX
 refine jA ?_
 refine AW.cond rfl (fun h0=>?_) (fun h0=>?_)
 ·have h:k<a.length:=by simpa using h0
  have hol:X.length<=100000000:=by
   have h1:X.length<=(a.take k).length:=by rw [hX];exact List.length_filter_le _ _
   rw [vG] at h1
   omega
  have hst:ed (a.take (k+1)) b=X++if decide (a[k]∈b)=true then [] else [a[k]]:=by
   rw [hX]
   unfold ed
   rw [List.take_add_one,qA h,List.filter_append]
   congr 1
   cases hd:decide (a[k]∈b) <;> simp [hd]
  refine jA ?_
  refine RG.opS rfl (aq rfl (tk rfl) rfl (tk rfl) rfl rfl (show (a.map cI)[k]?=some (cI a[k]) by rw [qF,qA (by assumption)];rfl) rfl) rfl ?_
  refine jH ?_
  cases h1:decide (a[k]∈b)
  ·rw [h1,if_neg (by decide)] at hst
   refine RG.callS rfl rfl rfl rfl rfl (xR b a[k] hb hbl _ h1) rfl rfl ?_;refine jH ?_
   refine AW.condT rfl ?_;refine jB ?_
   refine AW.text ?_
   refine wH rfl ?_
   refine RG.opS rfl (bI cI X a[k] hol rfl rfl rfl rfl (tk rfl) rfl (tk rfl) rfl rfl ⟨_,rfl,rfl⟩ rfl rfl) rfl ?_;refine jH ?_
   exact⟨(k+1,_),⟨⟨h,hst.symm⟩,by show a.length-(k+1)<a.length-k;omega⟩,⟨Rn.fnF rfl rfl,rR rfl rfl rfl,rI rfl rfl,rI rfl rfl,rI (ay h hm) rfl,trivial⟩,jW⟩
  ·rw [h1,if_pos rfl,uA] at hst
   refine RG.callS rfl rfl rfl rfl rfl (xR b a[k] hb hbl _ h1) rfl rfl ?_;refine jH ?_
   refine zF ?_
   exact⟨(k+1,X),⟨⟨h,hst.symm⟩,by show a.length-(k+1)<a.length-k;omega⟩,⟨Rn.fnF rfl rfl,rR rfl rfl rfl,rI rfl rfl,rI rfl rfl,rI (ay h hm) rfl,trivial⟩,jW⟩
 ·have h:¬k<a.length:=by simpa using h0
  obtain rfl:k=a.length:=by omega
  rw [uM] at hX
  subst hX
  refine zE ?_
  refine RG.callMS rfl rfl rfl rfl (congrArg (fun x=>[x]) (bw rfl)) rfl (gF (ed a b)) rfl ?_;refine jH ?_
  exact zS
theorem Bl {a b:List Int}(h:a.Pairwise (· < ·)):(ed a b).Pairwise (· < ·):=h.sublist List.filter_sublist
theorem Ep (a b:List Int)(ha:a.Pairwise (· < ·))(hb:b.Pairwise (· < ·))(hal:a.length<=1000000)(hbl:b.length<=1000000):aa Tryz.prog 160 [.sl (a.map cI),.sl (b.map cI)] (.sl ((ed a b).map cI)):=by
 refine jb Tryz.func160 ?_
 refine jA ?_
 refine jm (mN a ha hal) ?_;refine jH ?_
 refine jm (mN b hb hbl) ?_;refine jH ?_
 refine jm (Fw a b hb hal hbl) ?_;refine jH ?_
 exact zS
theorem gu (F:Nat)(c0:List AV)(p:aG->Bool)(l:List (aG))(H:∀x∈l,aa Tryz.prog F [.agg (av x),.ro c0] (.b (p x))):aa Tryz.prog 161 [.sl (l.map av),.fn F [] [.ro c0]] (.i .i64 (bM p 0 l)):=by
 refine jb Tryz.func161 ?_
 refine jA ?_
 refine AW.lens 6 rfl fun hm=>?_
 rw [qG] at hm
 refine AW.loopL (ι:=Nat) (fun k=>[(0,.sl (l.map av)),(1,.fn F [] [.ro c0]),(7,.i .i64 (l.map av).length),(8,.i .i64 (k:Nat))]) (fun _=>[]) (fun k=>k<=l.length/\bM p k (l.drop k)=bM p 0 l) (fun k=>l.length-k) 0 ⟨qR _,rfl⟩ ⟨Rn.is rfl rfl,Rn.fnRo rfl rfl,Rn.is rfl rfl,Rn.is rfl rfl,trivial⟩ trivial fun k hk=>?_
 obtain⟨hk,hf⟩:=hk
 refine jA ?_
 refine AW.cond rfl (fun h0=>?_) (fun h0=>?_)
 ·have h:k<l.length:=by simpa using h0
  rw [qT h,bM] at hf
  have hH:=H l[k] (vR h)
  have hx:(l.map av)[k]?=some (av l[k]):=by rw [qF,qA h];rfl
  generalize l[k]=x at hf hH hx
  refine jA ?_
  refine jx hx ?_
  refine wH rfl ?_
  cases hp:p x
  ·rw [hp] at hf hH
   refine jc hH ?_;refine jH ?_
   refine zF ?_
   exact⟨k+1,⟨⟨h,hf⟩,by omega⟩,⟨Rn.is rfl rfl,Rn.fnRo rfl rfl,Rn.is rfl rfl,Rn.is (ay h hm) rfl,trivial⟩,trivial⟩
  ·rw [hp] at hf hH
   refine jc hH ?_;refine jH ?_
   refine zT ?_
   refine jR ?_
   rw [<- hf]
   rfl
 ·have h:¬k<l.length:=by simpa using h0
  obtain rfl:k=l.length:=by omega
  rw [vJ,bM] at hf
  refine zE ?_
  refine jR ?_
  rw [<- hf]
  rfl
theorem js (F:Nat)(c0:List AV)(p:aG->Bool)(l:List (aG))(H:∀x∈l,aa Tryz.prog F [.agg (av x),.ro c0] (.b (p x)))(q:Bool)(hq:l.any p=q):aa Tryz.prog 165 [.sl (l.map av),.fn F [] [.ro c0]] (.b q):=by
 refine jb Tryz.func165 ?_
 refine jA ?_
 refine jc (gu F c0 p l H) ?_;refine jH ?_
 refine jR ?_
 exact congrArg AV.b ((dV 0 l).trans hq)
theorem kf (F:Nat)(p:aG->Bool)(l:List (aG))(H:∀x∈l,aa Tryz.prog F [.agg (av x)] (.b (p x))):aa Tryz.prog 161 [.sl (l.map av),.fn F [] []] (.i .i64 (bM p 0 l)):=by
 refine jb Tryz.func161 ?_
 refine jA ?_
 refine AW.lens 6 rfl fun hm=>?_
 rw [qG] at hm
 refine AW.loopL (ι:=Nat) (fun k=>[(0,.sl (l.map av)),(1,.fn F [] []),(7,.i .i64 (l.map av).length),(8,.i .i64 (k:Nat))]) (fun _=>[]) (fun k=>k<=l.length/\bM p k (l.drop k)=bM p 0 l) (fun k=>l.length-k) 0 ⟨qR _,rfl⟩ ⟨Rn.is rfl rfl,Rn.fnRo rfl rfl,Rn.is rfl rfl,Rn.is rfl rfl,trivial⟩ trivial fun k hk=>?_
 obtain⟨hk,hf⟩:=hk
 refine jA ?_
 refine AW.cond rfl (fun h0=>?_) (fun h0=>?_)
 ·have h:k<l.length:=by simpa using h0
  rw [qT h,bM] at hf
  have hH:=H l[k] (vR h)
  have hx:(l.map av)[k]?=some (av l[k]):=by rw [qF,qA h];rfl
  generalize l[k]=x at hf hH hx
  refine jA ?_
  refine jx hx ?_
  refine wH rfl ?_
  cases hp:p x
  ·rw [hp] at hf hH
   refine jc hH ?_;refine jH ?_
   refine zF ?_
   exact⟨k+1,⟨⟨h,hf⟩,by omega⟩,⟨Rn.is rfl rfl,Rn.fnRo rfl rfl,Rn.is rfl rfl,Rn.is (ay h hm) rfl,trivial⟩,trivial⟩
  ·rw [hp] at hf hH
   refine jc hH ?_;refine jH ?_
   refine zT ?_
   refine jR ?_
   rw [<- hf]
   rfl
 ·have h:¬k<l.length:=by simpa using h0
  obtain rfl:k=l.length:=by omega
  rw [vJ,bM] at hf
  refine zE ?_
  refine jR ?_
  rw [<- hf]
  rfl
theorem iA (F:Nat)(p:aG->Bool)(l:List (aG))(H:∀x∈l,aa Tryz.prog F [.agg (av x)] (.b (p x)))(q:Bool)(hq:l.any p=q):aa Tryz.prog 165 [.sl (l.map av),.fn F [] []] (.b q):=by
 refine jb Tryz.func165 ?_
 refine jA ?_
 refine jc (kf F p l H) ?_;refine jH ?_
 refine jR ?_
 exact congrArg AV.b ((dV 0 l).trans hq)
theorem Dw (n:Nat)(h0:0<n)(hn:n<=1000000)(q:Nat->Option (Nat × Nat)):aj Tryz.prog 241 [.raw (.slice none 0 0),.i .i64 (n:Nat)] (gl q [] []) (.row 2 0 0 0) (gl q [] [(2,⟨0,some (.row 36 4 [])⟩)]):=by
 refine aj.of_body Tryz.func241 rfl (by kernel_rfl) rfl rfl ?_
 refine jA ?_
 refine AW.cond rfl (fun h=>?_) (fun h=>?_)
 ·exact absurd (of_decide_eq_true h) (by simp only [qH];omega)
 have hw:IntKind.i64.wrap ((n:Int)-IntKind.i64.wrap (((0:Nat):Int)-((0:Nat):Int)))=(n:Nat):=by
  rw [kA0,kA0]
  omega
 refine jA ?_
 refine RG.opS rfl (mH rfl rfl rfl rfl (tk rfl) rfl rfl) rfl ?_
 refine RG.runO ae 0 [(14,.i .i64 (n:Nat))] 400 rfl jD ?_
 refine jA ?_
 refine AW.cond rfl (fun h=>?_) (fun h=>?_)
 rotate_left
 ·exact absurd (show Int.ofNat 0<(n:Int) by simp only [qH];omega) (of_decide_eq_false h)
 refine jA ?_
 refine RG.opS rfl (mH rfl rfl rfl rfl (tk rfl) rfl rfl) rfl ?_
 refine RG.opS rfl (oZ rfl (tk rfl) rfl (tk rfl) rfl .no (.at_ rfl)) rfl ?_
 refine wH rfl ?_
 refine RG.opS rfl (jv (id:=2) n h0 (by omega) rfl rfl rfl rfl (tk rfl) rfl (tk rfl) rfl (tk rfl) (by decide) (by decide) rfl rfl) rfl ?_
 refine wH rfl ?_
 refine RG.opS rfl (pA (h:=0) rfl (tk rfl) rfl (tk rfl) rfl rfl .no (.at_ rfl) (qR _)) rfl ?_
 refine wH rfl ?_;refine jB ?_
 refine AW.only [(0,.row 2 0 0 0)] [(2,⟨0,some (.row 36 4 [])⟩)] ⟨Rn.rowTIs rfl rfl rfl (qJ _),trivial⟩ ⟨.rowT (n:=0) rfl rfl,trivial⟩ ?_
 refine jA ?_
 exact AW.ret (dW rfl (Rm.rowIs rfl rfl rfl rfl) ⟨.row rfl rfl,trivial⟩)
def cPl (l:List Cb):List AV:=[.sl (l.map cCb)]
theorem yk (xs:List (List Cb))(h0:0<xs.flatten.length)(hn:xs.flatten.length<=1000000)(hx:xs.length<=1000000):aa Tryz.prog 209 [.sl (xs.map cPl)] (.sl (xs.flatten.map cCb)):=by
 refine jb Tryz.func209 ?_
 have hm:xs.length<=9223372036854775807:=by omega
 refine jA ?_
 refine AW.loopL (ι:=Nat × Nat) (fun i=>[(0,.sl (xs.map cPl)),(3,.i .i64 (i.2:Nat)),(9,.sl (xs.map cPl)),(10,.i .i64 (xs.map cPl).length),(11,.i .i64 (i.1:Nat))]) (fun _=>[]) (fun i=>i.1<=xs.length/\i.2=(xs.take i.1).flatten.length) (fun i=>xs.length-i.1) (0,0) ⟨qR _,rfl⟩ jW trivial fun i hi=>?_
 obtain⟨k,n⟩:=i
 obtain⟨hk,hf⟩:=hi
 simp only at hk hf
 refine jA ?_
 refine AW.cond rfl (fun h0'=>?_) (fun h0'=>?_)
 ·have h:k<xs.length:=by simpa using h0'
  have h2:n+xs[k].length=(xs.take (k+1)).flatten.length:=by rw [i2 xs k h,qK,hf]
  have h3:=mM xs (k+1)
  have hw:IntKind.i64.wrap ((n:Int)+((xs[k].map cCb).length:Nat))=((n+xs[k].length:Nat):Int):=by
   rw [kA0,qG]
   omega
  refine zB ?_
  refine RG.opS rfl (aq rfl (tk rfl) rfl (tk rfl) rfl rfl (show (xs.map cPl)[k]?=some (cPl xs[k]) by rw [qF,qA (by assumption)];rfl) rfl) rfl ?_
  refine wH rfl ?_;refine jB ?_
  refine AW.text ?_
  refine RG.runO ae 0 [(18,.i .i64 (n+xs[k].length:Nat))] 400 rfl jD ?_
  refine jA ?_
  refine AW.cond rfl (fun h4=>?_) (fun h4=>?_)
  ·exact absurd (of_decide_eq_true h4) (by simp only [qH];omega)
  refine jA ?_
  exact⟨(k+1,n+xs[k].length),⟨⟨h,h2⟩,by show xs.length-(k+1)<xs.length-k;omega⟩,⟨Rn.is rfl rfl,Rn.is rfl rfl,Rn.is rfl rfl,Rn.is rfl rfl,Rn.is (ay h hm) rfl,trivial⟩,trivial⟩
 have h:¬k<xs.length:=by simpa using h0'
 obtain rfl:k=xs.length:=by omega
 rw [uM] at hf
 subst hf
 refine zE ?_
 refine RG.ownNV [] [(2,6)] (fun q=>Dw _ h0 hn q) rfl rfl rfl rfl rfl rfl rfl rfl rfl rfl ?_
 refine jH ?_
 refine AW.loopL (ι:=Nat × List Cb) (fun i=>[(6,.row 6 0 0 (i.2.map cCb).length),(25,.sl (xs.map cPl)),(26,.i .i64 (xs.map cPl).length),(27,.i .i64 (i.1:Nat))]) (fun i=>[(6,⟨0,some (.row 36 4 (i.2.map cCb))⟩)]) (fun i=>i.1<=xs.length/\i.2=(xs.take i.1).flatten) (fun i=>xs.length-i.1) (0,[]) ⟨qR _,rfl⟩ jW jW fun i hi=>?_
 obtain⟨k,out⟩:=i
 obtain⟨hk,hf⟩:=hi
 simp only at hk hf
 refine jA ?_
 refine AW.cond rfl (fun h0'=>?_) (fun h0'=>?_)
 ·have h:k<xs.length:=by simpa using h0'
  have h2:out++xs[k]=(xs.take (k+1)).flatten:=by rw [i2 xs k h,hf]
  have h3:=mM xs (k+1)
  rw [<- h2,qK] at h3
  refine jA ?_
  refine RG.opS rfl (aq rfl (tk rfl) rfl (tk rfl) rfl rfl (show (xs.map cPl)[k]?=some (cPl xs[k]) by rw [qF,qA (by assumption)];rfl) rfl) rfl ?_
  refine jH ?_
  refine RG.opS rfl (jn cCb out xs[k] (by omega) (fun _=>rfl) rfl rfl rfl rfl (tk rfl) rfl (tk rfl) rfl rfl ⟨_,rfl,rfl⟩ rfl) rfl ?_;refine jH ?_
  exact⟨(k+1,_),⟨⟨h,h2⟩,by show xs.length-(k+1)<xs.length-k;omega⟩,⟨Rn.rowIs rfl rfl rfl,Rn.is rfl rfl,Rn.is rfl rfl,Rn.is (ay h hm) rfl,trivial⟩,jW⟩
 ·have h:¬k<xs.length:=by simpa using h0'
  obtain rfl:k=xs.length:=by omega
  rw [uM] at hf
  subst hf
  refine zE ?_
  refine jR ?_
  exact bw rfl
def bL (p q:List Cb):List Cb × Int:=bif ai p && ai q then cE (p++q) else ([],2)
theorem De (p q:List Cb)(h0:0<(p++q).length):aa Tryz.prog 164 [.sl (p.map cCb),.sl (q.map cCb)] (wS (bL p q)):=by
 refine jb Tryz.func164 ?_
 have hP:=nA p q _ rfl
 cases hb:ai p && ai q with
 |false=>
  rw [hb] at hP
  rw [bL,hb,cond_false]
  refine jA ?_
  refine jc hP ?_;refine jH ?_
  refine zT ?_
  exact zS
 |true=>
  rw [hb] at hP
  rw [bL,hb,cond_true]
  rw [qQ] at hb
  have hl1:=cr hb.1
  have hl2:=cr hb.2
  have hL:(p++q).length<=1000000:=by rw [qK];omega
  have hC:=yk [p,q] (by simpa using h0) (by simpa using hL) (by simp)
  have hf:[p,q].flatten=p++q:=by simp
  rw [hf] at hC
  refine jA ?_
  refine jc hP ?_;refine jH ?_
  refine zF ?_
  refine jm hC ?_;refine jH ?_
  refine jm (pN (p++q) hL) ?_;refine jH ?_
  exact zS
theorem AD (a b:List Int)(q:Bool)(hq:decide (a=b)=q)(hal:a.length<=1000000):aa Tryz.prog 163 [.sl (a.map cI),.sl (b.map cI)] (.b q):=by
 refine jb Tryz.func163 ?_
 have hm:a.length<=9223372036854775807:=by omega
 refine jA ?_
 have hlen:((a.map cI).length:Int)=a.length/\((b.map cI).length:Int)=b.length:=by simp
 refine AW.cond rfl (fun h0=>?_) (fun h0=>?_)
 ·have hne:a.length ≠ b.length := fun e=>by
   have:¬((a.map cI).length:Int)=((b.map cI).length:Int):=by simpa using h0
   exact this (by rw [hlen.1,hlen.2,e])
  refine zR ?_
  exact congrArg AV.b ((qC fun e:a=b=>hne (congrArg List.length e)).symm.trans hq)
 ·have heq:a.length = b.length := by
   have:((a.map cI).length:Int)=((b.map cI).length:Int):=by simpa using h0
   rw [hlen.1,hlen.2] at this
   omega
  refine jA ?_
  refine AW.loopL (ι:=Nat) (fun k=>[(0,.sl (a.map cI)),(1,.sl (b.map cI)),(12,.i .i64 (a.map cI).length),(13,.i .i64 (k:Nat))]) (fun _=>[]) (fun k=>k<=a.length/\a.take k=b.take k) (fun k=>a.length-k) 0 ⟨qR _,rfl⟩ jW trivial fun k hk=>?_
  obtain⟨hk,hf⟩:=hk
  refine jA ?_
  refine AW.cond rfl (fun h1=>?_) (fun h1=>?_)
  ·have h:k<a.length:=by simpa using h1
   have h':k<b.length:=by omega
   refine zB ?_
   refine wH rfl ?_
   refine zD ?_
   refine wH rfl ?_
   refine RG.opS rfl (aq rfl (tk rfl) rfl (tk rfl) rfl rfl (show (a.map cI)[k]?=some (cI a[k]) by rw [qF,qA (by assumption)];rfl) rfl) rfl ?_
   refine wH rfl ?_
   refine RG.opS rfl (aq rfl (tk rfl) rfl (tk rfl) rfl rfl (show (b.map cI)[k]?=some (cI b[k]) by rw [qF,qA (by assumption)];rfl) rfl) rfl ?_
   refine jH ?_
   refine AW.cond rfl (fun h2=>?_) (fun h2=>?_)
   ·have hne:¬a[k]=b[k]:=by simpa using h2
    refine zR ?_
    exact congrArg AV.b ((qC fun e:a=b=>hne (by subst e;rfl)).symm.trans hq)
   ·have he:a[k]=b[k]:=by simpa using h2
    refine jA ?_
    exact⟨k+1,⟨⟨h,by rw [jg (qA h),jg (qA h'),hf,he]⟩,by omega⟩,⟨rI rfl rfl,rI rfl rfl,rI rfl rfl,rI (ay h hm) rfl,trivial⟩,trivial⟩
  ·have h:¬k<a.length:=by simpa using h1
   obtain rfl:k=a.length:=by omega
   refine zE ?_
   refine jR ?_
   rw [uM,heq,uM] at hf
   exact congrArg AV.b ((qE hf).symm.trans hq)
theorem tW (a:aG):aa Tryz.prog 202 [.agg (av a)] (.b (!ai a.pile)):=by
 refine jb Tryz.func202 ?_
 refine jA ?_
 refine RG.callS rfl rfl rfl rfl rfl (iU a.pile _ rfl) rfl rfl ?_;refine jH ?_
 exact zS
theorem rW (l:List aG)(q:Bool)(hq:(l.any fun a=>!ai a.pile) = !q):aa Tryz.prog 159 [.sl (l.map av)] (.b q):=by
 refine jb Tryz.func159 ?_
 refine jA ?_
 refine RG.callS rfl rfl rfl rfl rfl (iA _ _ l (fun x _=>tW x) _ hq) rfl rfl ?_;refine jH ?_
 refine jR ?_
 exact congrArg AV.b (by simp)
theorem ED (id:Int)(a:aG)(hs:a.ids.Pairwise (· < ·))(hl:a.ids.length<=1000000):aa Tryz.prog 166 [.agg (av a),.ro [.i .i64 id]] (.b (decide (id∈a.ids))):=by
 refine jb Tryz.func166 ?_
 refine jA ?_
 refine RG.callS rfl rfl rfl rfl rfl (FY a.ids id hs hl _ rfl) rfl rfl ?_;refine jH ?_
 exact zS
def dq (l:List aG)(n:Nat)(c:Cb):List aG × Int:=aT n c l []
theorem BW (l:List aG)(n:Nat)(c:Cb)(hA:∀a∈l,nH n a/\a.ids.length<=1000)(hc:c.sound=true)(hl:l.length<=600):aa Tryz.prog 117 [.sl (l.map av),.i .i64 (n:Nat),.agg (cCb c)] (rQ (dq l n c)):=by
 have h1:(l.any fun a=>!ai a.pile) = !true:=by
  rw [Bool.not_true,List.any_eq_false]
  intro a ha
  rw [(hA a ha).1.pile]
  decide
 have h2:(l.any fun a=>decide ((n:Int)∈a.ids))=false:=by
  rw [List.any_eq_false]
  intro a ha
  rw [qC fun h=>by have:=(hA a ha).1.ids _ h;omega]
  decide
 refine jb Tryz.func117 ?_
 refine jA ?_
 refine AW.cond rfl (fun h=>?_) (fun _=>?_)
 ·have:((n:Nat):Int)<0:=of_decide_eq_true h
  omega
 refine jA ?_
 refine jc (aV c true hc) ?_;refine jH ?_
 refine jc (rW l true h1) ?_;refine jH ?_
 refine zF ?_
 refine RG.callS rfl rfl rfl rfl rfl (js _ _ _ l (fun x hx=>ED n x (hA x hx).1.up (by have:=(hA x hx).2;omega)) _ h2) rfl rfl ?_;refine jH ?_
 refine zF ?_
 refine jm (xE l n c hA hc hl) ?_;refine jH ?_
 refine RG.callMS rfl rfl rfl rfl rfl rfl (iS _) rfl ?_;refine jH ?_
 exact zS
def dr (id:Int):List aG->List aG->List aG × Int
 |[],out=>(out,0)
 |a::l,out=>match out.findIdx? fun b=>decide (ed a.ids [id]=b.ids) with
  |none=>dr id l (out++[⟨ed a.ids [id],a.head,a.pile⟩])
  |some i=>bif decide ((bL (out.getD i dS).pile a.pile).2=0) then dr id l (out.set i { out.getD i dS with pile:=(bL (out.getD i dS).pile a.pile).1 }) else ([],(bL (out.getD i dS).pile a.pile).2)
theorem zA (b a:aG)(h:a.ids.length<=1000000):aa Tryz.prog 162 [.agg (av b),.ro (av a)] (.b (decide (a.ids=b.ids))):=by
 refine jb Tryz.func162 ?_
 refine jA ?_
 refine RG.callS rfl rfl rfl rfl rfl (AD a.ids b.ids _ rfl h) rfl rfl ?_;refine jH ?_
 exact zS
theorem yP (l:List aG)(id:Int)(hA:∀a∈l,ai a.pile=true/\0<a.pile.length/\a.ids.Pairwise (· < ·)/\a.ids.length<=1000)(hl:l.length<=600):aa Tryz.prog 116 [.sl (l.map av),.i .i64 id] (rQ (dr id l [])):=by
 have h1:(l.any fun a=>!ai a.pile) = !true:=by
  rw [Bool.not_true,List.any_eq_false]
  intro a ha
  rw [(hA a ha).1]
  decide
 have hm:l.length<=9223372036854775807:=by omega
 refine jb Tryz.func116 ?_
 refine jA ?_
 refine jc (rW l true h1) ?_;refine jH ?_
 refine AW.condF rfl ?_;refine jB ?_
 refine AW.text ?_
 refine RG.opS rfl (bT 6 75 4 rfl) rfl ?_
 refine jH ?_
 refine AW.loopL (ι:=Nat × List aG) (fun x=>[(1,.i .i64 id),(6,.row 6 0 0 (x.2.map av).length),(14,.sl (l.map av)),(15,.i .i64 (l.map av).length),(16,.i .i64 (x.1:Nat))]) (fun x=>[(6,⟨0,some (.row 75 4 (x.2.map av))⟩)]) (fun x=>x.1<=l.length/\x.2.length<=x.1/\dr id (l.drop x.1) x.2=dr id l []) (fun x=>l.length-x.1) (0,[]) ⟨qR _,qJ _,rfl⟩ jW jW fun x hx=>?_
 obtain⟨k,out⟩:=x
 obtain⟨hk,ho,hf⟩:=hx
 simp only at hk ho hf
 refine jA ?_
 refine AW.cond rfl (fun h0=>?_) (fun h0=>?_)
 ·have h:k<l.length:=by simpa using h0
  rw [qT h,dr] at hf
  have ha:=hA l[k] (vR h)
  have hx:(l.map av)[k]?=some (av l[k]):=by rw [qF,qA h];rfl
  generalize l[k]=a at hf ha hx
  have hL:=Ep a.ids [id] ha.2.2.1 (List.pairwise_singleton _ _) (by have:=ha.2.2.2;omega) (by simp)
  refine jA ?_
  refine jx hx ?_
  refine jH ?_
  obtain⟨J,hJ⟩:∃J,J=ed a.ids [id]:=⟨_,rfl⟩
  rw [<- hJ] at hL hf
  have hJl:J.length<=1000000:=by
   rw [hJ]
   exact vH (List.length_filter_le _ _) (by have:=ha.2.2.2;omega)
  refine jm hL ?_;refine jH ?_
  have hI:=gu 162 (av ⟨J,a.head,a.pile⟩) (fun b=>decide (J=b.ids)) out (fun b _=>zA b ⟨J,a.head,a.pile⟩ hJl)
  rw [qa] at hI
  have hpl:=cr ha.1
  cases hfi:out.findIdx? fun b=>decide (J=b.ids) with
  |none=>
   rw [hfi] at hI hf
   simp only at hI hf
   refine RG.callS rfl rfl rfl rfl (congrArg (fun x=>[x,_]) (bw rfl)) hI rfl rfl ?_
   refine jH ?_
   refine zT ?_
   refine RG.callMS rfl rfl rfl rfl rfl rfl (jP a.pile (by omega)) rfl ?_;refine jH ?_
   refine jm (eI a.pile) ?_;refine jH ?_
   refine RG.opS rfl (bI av out (⟨J,a.head,a.pile⟩:aG) (by omega) rfl rfl rfl rfl (tk rfl) rfl (tk rfl) rfl rfl ⟨_,rfl,rfl⟩ rfl rfl) rfl ?_;refine jH ?_
   refine jE ?_;refine jA ?_
   exact⟨(k+1,_),⟨⟨h,by rw [qK];show out.length+1<=k+1;omega,hf⟩,by show l.length-(k+1)<l.length-k;omega⟩,⟨rI rfl rfl,rR rfl rfl rfl,rI rfl rfl,rI rfl rfl,rI (ay h hm) rfl,trivial⟩,jW⟩
  |some i=>
   rw [hfi] at hI hf
   simp only [vN] at hI hf
   obtain⟨hio,_⟩:=List.findIdx?_eq_some_iff_getElem.1 hfi
   have hgd:out.getD i dS=out[i]:=by rw [qM,qA hio];rfl
   rw [hgd] at hf
   have hb:(out.map av)[i]?=some (av out[i]):=by rw [qF,qA hio];rfl
   have hst:∀p:List Cb,(out.map av).set i (ovw (av out[i]) 3 [.sl (p.map cCb)])=(out.set i { out[i] with pile:=p }).map av:=fun p=>by
    rw [List.map_set]
    rfl
   generalize out[i]=b at hf hb hst
   have hJn:=De b.pile a.pile (by have:=ha.2.1;rw [qK];omega)
   generalize bL b.pile a.pile=R at hf hJn
   obtain⟨rp,re⟩:=R
   simp only at hf
   refine RG.callS rfl rfl rfl rfl (congrArg (fun x=>[x,_]) (bw rfl)) hI rfl rfl ?_
   refine jH ?_
   refine AW.cond rfl (fun h2=>?_) (fun _=>?_)
   ·have:((i:Nat):Int)<0:=of_decide_eq_true h2
    omega
   refine jB ?_
   refine wF ?_;refine wH rfl ?_;refine jB ?_
   refine AW.draws aJ ?_
   refine wH rfl ?_
   refine RG.opS rfl (gA i av out (by rw [qG];exact hio) rfl (tk rfl) rfl (tk rfl) rfl rfl rfl) rfl ?_
   refine RG.opS rfl (gD rfl (tk rfl) rfl rfl (tk rfl) rfl (.el rfl hb) rfl) rfl ?_
   refine RG.opS rfl (gI rfl (tk rfl) (.el rfl hb) rfl) rfl ?_
   refine wH rfl ?_
   refine jm hJn ?_
   refine wH rfl ?_
   refine RG.opS rfl (gA i av out (by rw [qG];exact hio) rfl (tk rfl) rfl (tk rfl) rfl rfl rfl) rfl ?_
   refine RG.opS rfl (gD rfl (tk rfl) rfl rfl (tk rfl) rfl (.el rfl hb) rfl) rfl ?_
   refine RG.opS rfl (lr (k:=i) (j:=3) (cs:=av b) (ns:=[.sl (rp.map cCb)]) rfl (tk rfl) rfl rfl hb rfl rfl rfl rfl (qW (by rfl))) rfl ?_
   refine jH ?_
   by_cases hre:re=0
   ·subst hre
    rw [qE rfl,cond_true] at hf
    refine zF ?_
    have hrow:(⟨0,some (.row 75 4 ((out.map av).set i (ovw (av b) 3 [.sl (rp.map cCb)])))⟩:SB)=⟨0,some (.row 75 4 ((out.set i { b with pile:=rp }).map av))⟩:=by rw [hst]
    have hlen:(out.map av).length=((out.set i { b with pile:=rp }).map av).length:=by rw [qG,qG,vF]
    exact⟨(k+1,_),⟨⟨h,by rw [vF];show out.length<=k+1;omega,hf⟩,by show l.length-(k+1)<l.length-k;omega⟩,⟨rI rfl rfl,Rn.rowIs (congrArg (AV.row 6 0 0) hlen) (Eq.trans rfl hrow) rfl,rI rfl rfl,rI rfl rfl,rI (ay h hm) rfl,trivial⟩,⟨.row (Eq.trans rfl hrow) rfl,trivial⟩⟩
   ·rw [qC hre,cond_false] at hf
    refine AW.cond rfl (fun _=>?_) (fun h2=>?_)
    rotate_left
    ·exact absurd (by simpa using h2) hre
    refine zR ?_
    rw [<- hf]
    rfl
 ·have h:¬k<l.length:=by simpa using h0
  obtain rfl:k=l.length:=by omega
  rw [vJ,dr] at hf
  refine zE ?_
  refine RG.callMS rfl rfl rfl rfl (congrArg (fun x=>[x]) (bw rfl)) rfl (iS out) rfl ?_;refine jH ?_
  refine jR ?_
  rw [<- hf]
  rfl
structure AtQ (es:List CE)(a:aG):Prop where
 pile:ai a.pile=true
 head:ar a.pile a.head=true
 up:a.ids.Pairwise (· < ·)
 ids:∀i∈a.ids,∃e∈es,e.2.1=i
 at_:∀h,ar a.pile h=true->∀e∈es,(e.2.1∈a.ids↔e.1.has h=true)
structure eC (es:List CE)(l:List aG):Prop where
 all:∀h,∃a∈l,ar a.pile h=true
 one:∀h,∀a∈l,∀b∈l,ar a.pile h=true->ar b.pile h=true->a=b
 ok:∀a∈l,AtQ es a
 dist:(l.map aG.ids).Nodup
 len:l.length<=600
theorem AtQ.pos {es:List CE}{a:aG}(h:AtQ es a):0<a.pile.length:=by
 obtain⟨x,hx,_⟩:=bV.1 h.head
 exact List.length_pos_of_mem hx
theorem AtQ.len {es:List CE}{a:aG}(h:AtQ es a):a.ids.length<=es.length:=by
 have:=dy (l:=a.ids) (m:=es.map (·.2.1)) (h.up.imp fun h=>Int.ne_of_lt h) fun i hi=>by
  obtain⟨e,he,rfl⟩:=h.ids i hi
  exact qX he
 rwa [qG] at this
structure iW (es:List CE)(clk:Nat)(next:Int):Prop where
 up:(es.map (·.2.1)).Pairwise (· < ·)
 lt:∀e∈es,0<=e.2.1/\e.2.1<next
 born:(es.map (·.2.2)).Pairwise (· < ·)
 old:∀e∈es,e.2.2<clk
 keys:(es.map (·.1)).Nodup
 sound:∀e∈es,e.1.sound=true
theorem Bi {es:List CE}(hu:(es.map (·.2.1)).Pairwise (· < ·)){a b:CE}(ha:a∈es)(hb:b∈es)(h:a.2.1=b.2.1):a=b:=by
 induction es with
 |nil=>cases ha
 |cons x l ih=>
  rw [vE,List.pairwise_cons] at hu
  rcases vA.1 ha with rfl|ha' <;> rcases vA.1 hb with rfl|hb'
  ·rfl
  ·have:=hu.1 _ (qX hb');omega
  ·have:=hu.1 _ (qX ha');omega
  ·exact ih hu.2 ha' hb'
theorem eU {α β:Type}{R:β->β->Prop}(f:α->β)(p:α->Bool){l:List α}(h:(l.map f).Pairwise R):((l.filter p).map f).Pairwise R :=
 h.sublist ((List.filter_sublist).map f)
theorem iW.filter {es:List CE}{clk:Nat}{next:Int}(h:iW es clk next)(p:CE->Bool):iW (es.filter p) clk next :=
 ⟨eU _ p h.up,fun e he=>h.lt e (List.mem_filter.1 he).1,eU _ p h.born,fun e he=>h.old e (List.mem_filter.1 he).1,eU _ p h.keys,fun e he=>h.sound e (List.mem_filter.1 he).1⟩
theorem iW.more {es:List CE}{clk:Nat}{next:Int}(h:iW es clk next)(hn:0<=next){c:Cb}(hc:c.sound=true)(hk:jK es c=false):iW (es++[(c,next,clk)]) (clk+1) (next+1):=by
 have hk':∀e∈es,e.1≠c:=fun e he hh=>by
  have:=cw.2 ⟨e,he,hh⟩
  rw [hk] at this
  cases this
 refine⟨?_,fun e he=>?_,?_,fun e he=>?_,?_,fun e he=>?_⟩
 ·rw [uB,List.pairwise_append]
  refine⟨h.up,List.pairwise_singleton _ _,fun x hx y hy=>?_⟩
  obtain⟨e,he,rfl⟩:=vI.1 hx
  rw [qP.1 hy]
  exact (h.lt e he).2
 ·rcases vB.1 he with he|he
  ·have:=h.lt e he;omega
  ·rw [qP.1 he];show 0<=next/\next<next+1;omega
 ·rw [uB,List.pairwise_append]
  refine⟨h.born,List.pairwise_singleton _ _,fun x hx y hy=>?_⟩
  obtain⟨e,he,rfl⟩:=vI.1 hx
  rw [qP.1 hy]
  exact h.old e he
 ·rcases vB.1 he with he|he
  ·have:=h.old e he;omega
  ·rw [qP.1 he];exact Nat.lt_succ_self _
 ·rw [uB,uQ]
  refine⟨h.keys,by simp,fun x hx y hy=>?_⟩
  obtain⟨e,he,rfl⟩:=vI.1 hx
  rw [qP.1 hy]
  exact hk' e he
 ·rcases vB.1 he with he|he
  ·exact h.sound e he
  ·rw [qP.1 he];exact hc
theorem tJ {p q:List Cb}(hp:ai p=true)(hq:ai q=true):((bL p q).2=0\/bL p q=([],10))/\((bL p q).2=0->ai (bL p q).1=true/\∀h,ar (bL p q).1 h=(ar p h || ar q h)):=by
 rw [bL,hp,hq,uZ,cond_true]
 refine⟨?_,fun e=>⟨iE,fun h=>?_⟩⟩
 ·by_cases e:(cE (p++q)).2=0
  ·exact .inl e
  ·exact .inr (jo e)
 ·rw [(gr e).1]
  show ar (cX _) h=_
  rw [lz,ar,List.any_append]
  rfl
structure CoQ (id:Int)(done out:List aG):Prop where
 dist:(out.map aG.ids).Nodup
 snd:∀b∈out,ai b.pile=true/\ar b.pile b.head=true
 has:∀b∈out,∀h,ar b.pile h=true↔∃a∈done,ed a.ids [id]=b.ids/\ar a.pile h=true
 from_:∀b∈out,∃a∈done,ed a.ids [id]=b.ids
 to_:∀a∈done,∃b∈out,ed a.ids [id]=b.ids
 len:out.length<=done.length
theorem ng {id:Int}:∀(l done out:List aG),(∀a∈l,ai a.pile=true/\ar a.pile a.head=true)->CoQ id done out->((dr id l out).2=0\/dr id l out=([],10))/\((dr id l out).2=0->CoQ id (done++l) (dr id l out).1)
 |[],done,out,hl,hC=>⟨.inl rfl,fun _=>by rw [uA];exact hC⟩
 |a::l,done,out,hl,hC=>by
  obtain⟨ha1,ha2⟩:=hl a vD
  have hl':∀a∈l,ai a.pile=true/\ar a.pile a.head=true:=fun x hx=>hl x (qZ _ hx)
  have happ:done++a::l=(done++[a])++l:=by simp
  rw [dr,happ]
  cases hf:out.findIdx? fun b=>decide (ed a.ids [id]=b.ids) with
  |none=>
   have hno:∀b∈out,ed a.ids [id]≠b.ids:=fun b hb=>by
    have:=List.findIdx?_eq_none_iff.1 hf b hb
    simpa using this
   refine ng l _ _ hl' ⟨?_,fun b hb=>?_,fun b hb h=>?_,fun b hb=>?_,fun x hx=>?_,by rw [qK,qK];have:=hC.len;simp;omega⟩
   ·rw [uB,uQ]
    refine⟨hC.dist,by simp,fun x hx y hy=>?_⟩
    obtain⟨b,hb,rfl⟩:=vI.1 hx
    rw [qP.1 hy]
    exact fun e=>hno b hb e.symm
   ·rcases vB.1 hb with hb|hb
    ·exact hC.snd b hb
    ·rw [qP.1 hb];exact⟨ha1,ha2⟩
   ·rcases vB.1 hb with hb|hb
    ·rw [hC.has b hb]
     constructor
     ·rintro⟨x,hx,h1,h2⟩
      exact⟨x,vS _ hx,h1,h2⟩
     ·rintro⟨x,hx,h1,h2⟩
      rcases vB.1 hx with hx|hx
      ·exact⟨x,hx,h1,h2⟩
      ·rw [qP.1 hx] at h1
       exact absurd h1 (hno b hb)
    ·rw [qP.1 hb]
     constructor
     ·intro h2
      exact⟨a,List.mem_append_right _ (qP.2 rfl),rfl,h2⟩
     ·rintro⟨x,hx,h1,h2⟩
      rcases vB.1 hx with hx|hx
      ·obtain⟨b',hb',h3⟩:=hC.to_ x hx
       exact absurd (h1.symm.trans h3) (hno b' hb')
      ·rw [qP.1 hx] at h2
       exact h2
   ·rcases vB.1 hb with hb|hb
    ·obtain⟨x,hx,h1⟩:=hC.from_ b hb
     exact⟨x,vS _ hx,h1⟩
    ·rw [qP.1 hb]
     exact⟨a,List.mem_append_right _ (qP.2 rfl),rfl⟩
   ·rcases vB.1 hx with hx|hx
    ·obtain⟨b,hb,h1⟩:=hC.to_ x hx
     exact⟨b,vS _ hb,h1⟩
    ·rw [qP.1 hx]
     exact⟨_,List.mem_append_right _ (qP.2 rfl),rfl⟩
  |some i=>
   obtain⟨hi,hd,_⟩:=List.findIdx?_eq_some_iff_getElem.1 hf
   have hid:ed a.ids [id]=out[i].ids:=by simpa using hd
   have hg:out.getD i dS=out[i]:=by rw [qM,qA hi];rfl
   have hmem:=vR hi
   obtain⟨hs1,hs2⟩:=hC.snd _ hmem
   obtain⟨j1,j2⟩:=tJ hs1 ha1
   simp only [hg]
   rcases j1 with e|e
   ·rw [qE e,cond_true]
    obtain⟨k1,k2⟩:=j2 e
    obtain⟨nb,hnb⟩:∃nb:aG,nb = { out[i] with pile:=(bL out[i].pile a.pile).1 }:=⟨_,rfl⟩
    rw [<- hnb]
    have n1:nb.ids=out[i].ids:=by rw [hnb]
    have n2:nb.head=out[i].head:=by rw [hnb]
    have n3:nb.pile=(bL out[i].pile a.pile).1:=by rw [hnb]
    have hms:∀b,b∈out.set i nb↔b=nb\/(b∈out/\b.ids≠out[i].ids):=by
     intro b
     constructor
     ·intro h
      obtain⟨j,hj,e⟩:=List.mem_iff_getElem.1 h
      rw [List.getElem_set] at e
      split at e
      ·exact .inl e.symm
      ·rename_i hne
       rw [vF] at hj
       refine .inr ⟨e ▸ vR hj,fun h'=>hne ?_⟩
       have h5:(out.map aG.ids)[i]'(by simpa using hi)=(out.map aG.ids)[j]'(by simpa using hj):=by simp [e,h']
       have hp:=List.pairwise_iff_getElem.1 hC.dist
       rcases Nat.lt_trichotomy i j with h6|h6|h6
       ·exact absurd h5 (hp i j _ _ h6)
       ·exact h6
       ·exact absurd h5.symm (hp j i _ _ h6)
     ·rintro (rfl|⟨h,hne⟩)
      ·exact List.mem_iff_getElem.2 ⟨i,by simpa using hi,by simp⟩
      ·obtain⟨j,hj,rfl⟩:=List.mem_iff_getElem.1 h
       have hij:i≠j:=fun e=>hne (by simp [e])
       exact List.mem_iff_getElem.2 ⟨j,by simpa using hj,by rw [List.getElem_set_ne hij]⟩
    have hmap:(out.set i nb).map aG.ids=out.map aG.ids:=by
     rw [List.map_set,n1]
     have:out[i].ids=(out.map aG.ids)[i]'(by simpa using hi):=by simp
     rw [this,List.set_getElem_self]
    refine ng l _ _ hl' ⟨by rw [hmap];exact hC.dist,fun b hb=>?_,fun b hb h=>?_,fun b hb=>?_,fun x hx=>?_,by rw [vF,qK];have:=hC.len;omega⟩
    ·rcases (hms b).1 hb with rfl|⟨hb,_⟩
     ·rw [n3,n2]
      exact⟨k1,by rw [k2,hs2];rfl⟩
     ·exact hC.snd b hb
    ·rcases (hms b).1 hb with rfl|⟨hb,hne⟩
     ·rw [n3,n1,k2,Bool.or_eq_true,hC.has _ hmem]
      constructor
      ·rintro (⟨x,hx,h1,h2⟩|h2)
       ·exact⟨x,vS _ hx,h1,h2⟩
       ·exact⟨a,List.mem_append_right _ (qP.2 rfl),hid,h2⟩
      ·rintro⟨x,hx,h1,h2⟩
       rcases vB.1 hx with hx|hx
       ·exact .inl ⟨x,hx,h1,h2⟩
       ·rw [qP.1 hx] at h2
        exact .inr h2
     ·rw [hC.has b hb]
      constructor
      ·rintro⟨x,hx,h1,h2⟩
       exact⟨x,vS _ hx,h1,h2⟩
      ·rintro⟨x,hx,h1,h2⟩
       rcases vB.1 hx with hx|hx
       ·exact⟨x,hx,h1,h2⟩
       ·rw [qP.1 hx,hid] at h1
        exact absurd h1.symm hne
    ·rcases (hms b).1 hb with rfl|⟨hb,hne⟩
     ·exact⟨a,List.mem_append_right _ (qP.2 rfl),by rw [n1];exact hid⟩
     ·obtain⟨x,hx,h1⟩:=hC.from_ b hb
      exact⟨x,vS _ hx,h1⟩
    ·have hnm:nb∈out.set i nb:=(hms nb).2 (.inl rfl)
     rcases vB.1 hx with hx|hx
     ·obtain⟨b,hb,h1⟩:=hC.to_ x hx
      by_cases hne:b.ids=out[i].ids
      ·exact⟨nb,hnm,by rw [n1,h1,hne]⟩
      ·exact⟨b,(hms b).2 (.inr ⟨hb,hne⟩),h1⟩
     ·rw [qP.1 hx]
      exact⟨nb,hnm,by rw [n1];exact hid⟩
   ·rw [e]
    exact⟨.inr rfl,fun h=>by cases h⟩
theorem mI {α β:Type}{f:α->β}{l:List α}(hn:(l.map f).Nodup){a b:α}(ha:a∈l)(hb:b∈l)(h:f a=f b):a=b:=by
 induction l with
 |nil=>cases ha
 |cons x l ih=>
  rw [vE,vV] at hn
  rcases vA.1 ha with rfl|ha' <;> rcases vA.1 hb with rfl|hb'
  ·rfl
  ·exact absurd (vI.2 ⟨b,hb',h.symm⟩) hn.1
  ·exact absurd (vI.2 ⟨a,ha',h⟩) hn.1
  ·exact ih hn.2 ha' hb'
theorem pB {a:List Int}{i id:Int}:i∈ed a [id]↔i∈a/\i≠id:=by simp [ed]
theorem tY {id:Int}:CoQ id [] []:=⟨List.nodup_nil,fun b hb=>(by cases hb),fun b hb=>(by cases hb),fun b hb=>(by cases hb),fun a ha=>(by cases ha),qJ _⟩
theorem nE {es:List CE}{clk:Nat}{next:Int}{l:List aG}{e0:CE}(hE:iW es clk next)(hP:eC es l)(he:e0∈es):((dr e0.2.1 l []).2=0\/dr e0.2.1 l []=([],10))/\((dr e0.2.1 l []).2=0->eC (es.filter fun e=>!decide (e.1=e0.1)) (dr e0.2.1 l []).1):=by
 obtain⟨g1,g2⟩:=ng (id:=e0.2.1) l [] [] (fun a ha=>⟨(hP.ok a ha).pile,(hP.ok a ha).head⟩) tY
 refine⟨g1,fun h0=>?_⟩
 have C:=g2 h0
 rw [uT] at C
 generalize (dr e0.2.1 l []).1=out at C
 have hne:∀e∈es,e.1≠e0.1->e.2.1≠e0.2.1:=fun e h1 h2 h3=>h2 (congrArg (·.1) (Bi hE.up h1 he h3))
 refine⟨fun h=>?_,fun h b hb b' hb' h1 h2=>?_,fun b hb=>⟨(C.snd b hb).1,(C.snd b hb).2,?_,fun i hi=>?_,fun h hh e he'=>?_⟩,C.dist,vH C.len hP.len⟩
 ·obtain⟨a,ha,hh⟩:=hP.all h
  obtain⟨b,hb,h1⟩:=C.to_ a ha
  exact⟨b,hb,(C.has b hb h).2 ⟨a,ha,h1,hh⟩⟩
 ·obtain⟨a,ha,e1,hh⟩:=(C.has b hb h).1 h1
  obtain⟨a',ha',e2,hh'⟩:=(C.has b' hb' h).1 h2
  obtain rfl:=hP.one h a ha a' ha' hh hh'
  exact mI C.dist hb hb' (e1.symm.trans e2)
 ·obtain⟨a,ha,h1⟩:=C.from_ b hb
  rw [<- h1]
  exact Bl (hP.ok a ha).up
 ·obtain⟨a,ha,h1⟩:=C.from_ b hb
  rw [<- h1,pB] at hi
  obtain⟨e,h2,h3⟩:=(hP.ok a ha).ids i hi.1
  refine⟨e,List.mem_filter.2 ⟨h2,?_⟩,h3⟩
  have:e.1≠e0.1:=fun h4=>hi.2 (by rw [<- h3,mI hE.keys h2 he h4])
  simpa using this
 ·obtain⟨a,ha,h1,h2⟩:=(C.has b hb h).1 hh
  obtain⟨h3,h4⟩:=List.mem_filter.1 he'
  have h4:e.1≠e0.1:=by simpa using h4
  rw [<- h1,pB,<- (hP.ok a ha).at_ h h2 e h3]
  exact⟨fun h=>h.1,fun h=>⟨h,hne e h3 h4⟩⟩
theorem pG {a:aG}{id:Int}{c:Cb}{x:aG}(hx:x∈(bE a id c).1):x.ids=a.ids++[id]\/x.ids=a.ids:=by
 rw [bE] at hx
 by_cases e1:(aR a.pile [c]).2=0
 ·by_cases e2:(aK a.pile [c]).2=0
  ·rw [qE e1,qE e2,cond_true,cond_true] at hx
   rcases vB.1 hx with hx|hx
   ·revert hx
    generalize (aR a.pile [c]).1=p
    intro hx
    cases p with
    |nil=>cases hx
    |cons y p=>rw [qP.1 hx];exact .inl rfl
   ·revert hx
    generalize (aK a.pile [c]).1=p
    intro hx
    cases p with
    |nil=>cases hx
    |cons y p=>rw [qP.1 hx];exact .inr rfl
  ·rw [qE e1,qC e2,cond_true,cond_false] at hx
   cases hx
 ·rw [qC e1,cond_false] at hx
  cases hx
theorem sD {a:aG}{id:Int}{c:Cb}(hi:id∉a.ids):((bE a id c).1.map aG.ids).Nodup:=by
 rw [bE]
 by_cases e1:(aR a.pile [c]).2=0
 ·by_cases e2:(aK a.pile [c]).2=0
  ·rw [qE e1,qE e2,cond_true,cond_true]
   generalize (aR a.pile [c]).1=p
   generalize (aK a.pile [c]).1=q
   have hne:a.ids++[id]≠a.ids:=fun h=>hi (by rw [<- h];simp)
   cases p <;> cases q <;> simp [oi,fL,hne]
  ·rw [qE e1,qC e2,cond_true,cond_false]
   exact List.nodup_nil
 ·rw [qC e1,cond_false]
  exact List.nodup_nil
theorem pI {id:Int}{c:Cb}:∀(l out:List aG),(aT id c l out).2=0->(aT id c l out).1=out++(l.map fun a=>(bE a id c).1).flatten
 |[],out,h=>by
  rw [aT] at h ⊢
  by_cases e:out.length>600
  ·rw [qE e] at h
   cases h
  ·rw [qC e,cond_false]
   simp
 |a::l,out,h=>by
  rw [aT] at h ⊢
  by_cases e:(bE a id c).2=0
  ·rw [qE e,cond_true] at h ⊢
   rw [pI l _ h]
   simp
  ·rw [qC e,cond_false] at h
   exact absurd h e
theorem n8 {id:Int}{c:Cb}:∀(l:List aG),(l.map aG.ids).Nodup->(∀a∈l,id∉a.ids)->(((l.map fun a=>(bE a id c).1).flatten).map aG.ids).Nodup
 |[],_,_=>by simp
 |a::l,hn,hi=>by
  rw [vE,vV] at hn
  rw [vE,uN,uB,uQ]
  refine⟨sD (hi a vD),n8 l hn.2 fun b hb=>hi b (qZ _ hb),fun x hx y hy=>?_⟩
  obtain⟨u,hu,rfl⟩:=vI.1 hx
  obtain⟨v,hv,rfl⟩:=vI.1 hy
  obtain⟨L,hL,hv⟩:=uP.1 hv
  obtain⟨b,hb,rfl⟩:=vI.1 hL
  have hab:a.ids≠b.ids:=fun h=>hn.1 (vI.2 ⟨b,hb,h.symm⟩)
  have ia:=hi a vD
  have ib:=hi b (qZ _ hb)
  rcases pG hu with e1|e1 <;> rcases pG hv with e2|e2 <;> rw [e1,e2]
  ·exact fun h=>hab (List.append_inj_left' h rfl)
  ·exact fun h=>ib (by rw [<- h];simp)
  ·exact fun h=>ia (by rw [h];simp)
  ·exact hab
theorem kY {es:List CE}{clk n:Nat}{l:List aG}{c:Cb}(hE:iW es clk n)(hP:eC es l)(hc:c.sound=true)(hk:jK es c=false):((dq l n c).2=0\/dq l n c=([],10)\/dq l n c=([],11))/\((dq l n c).2=0->eC (es++[(c,(n:Int),clk)]) (dq l n c).1):=by
 unfold dq
 obtain⟨g1,g2⟩:=jh (id:=(n:Int)) hc l [] fun a ha=>(hP.ok a ha).pile
 refine⟨g1,fun h0=>?_⟩
 obtain⟨k1,k2,k3,k4⟩:=g2 h0
 have hE':=hE.more (by omega) hc hk
 have hm:∀x∈(aT (n:Int) c l []).1,∃a∈l,(bE a n c).2=0/\x∈(bE a n c).1:=fun x hx=>(k2 x hx).elim (fun h=>by cases h) id
 have hni:∀a∈l,(n:Int)∉a.ids:=fun a ha h=>by
  obtain⟨e,he,h1⟩:=(hP.ok a ha).ids _ h
  have:=(hE.lt e he).2
  omega
 have hd:(((aT (n:Int) c l []).1).map aG.ids).Nodup:=by
  rw [pI l [] h0,uT]
  exact n8 l hP.dist hni
 refine⟨fun h=>?_,fun h x hx y hy hx' hy'=>?_,fun x hx=>?_,hd,k1⟩
 ·obtain⟨a,ha,hh⟩:=hP.all h
  obtain⟨x,hx,hh⟩:=o0 (k4 a ha).1 (hP.ok a ha).pile hc hh
  exact⟨x,(k4 a ha).2 x hx,hh⟩
 ·obtain⟨a,ha,h0,h1⟩:=hm x hx
  obtain⟨b,hb,h0',h2⟩:=hm y hy
  obtain⟨_,_,p⟩:=eE h0 (hP.ok a ha).pile hc h1
  obtain⟨_,_,q⟩:=eE h0' (hP.ok b hb).pile hc h2
  have hab:a=b:=hP.one h a ha b hb
   (by rcases p with⟨_,p⟩|⟨_,p⟩ <;> (rw [p,qQ] at hx';exact hx'.1))
   (by rcases q with⟨_,q⟩|⟨_,q⟩ <;> (rw [q,qQ] at hy';exact hy'.1))
  subst hab
  refine mI hd hx hy ?_
  rcases p with⟨e1,p⟩|⟨e1,p⟩ <;> rcases q with⟨e2,q⟩|⟨e2,q⟩ <;> rw [e1,e2]
  ·rw [p,qQ] at hx'
   rw [q,qQ,hx'.2] at hy'
   exact absurd hy'.2 (by decide)
  ·rw [p,qQ] at hx'
   rw [q,qQ] at hy'
   rw [hy'.2] at hx'
   exact absurd hx'.2 (by decide)
 ·obtain⟨a,ha,h0,h1⟩:=hm x hx
  have hA:=hP.ok a ha
  obtain⟨h2,h3,q⟩:=eE h0 hA.pile hc h1
  have hlt:∀i∈a.ids,i<(n:Int):=fun i hi=>by
   obtain⟨e,he,rfl⟩:=hA.ids i hi
   exact (hE.lt e he).2
  refine⟨h2,h3,?_,fun i hi=>?_,fun h hh e he=>?_⟩
  ·rcases q with⟨q,_⟩|⟨q,_⟩
   ·rw [q,List.pairwise_append]
    exact⟨hA.up,List.pairwise_singleton _ _,fun x hx y hy=>by rw [qP.1 hy];exact hlt x hx⟩
   ·rw [q];exact hA.up
  ·have:i ∈ a.ids \/ i = n := by
    rcases q with⟨q,_⟩|⟨q,_⟩
    ·rw [q] at hi;simpa using hi
    ·rw [q] at hi;exact .inl hi
   rcases this with h4|h4
   ·obtain⟨e,he,h5⟩:=hA.ids i h4
    exact⟨e,vS _ he,h5⟩
   ·exact⟨_,List.mem_append_right _ (qP.2 rfl),h4.symm⟩
  ·rcases vB.1 he with he|he
   ·have hne:e.2.1≠(n:Int):=by have:=(hE.lt e he).2;omega
    rcases q with⟨q1,q2⟩|⟨q1,q2⟩
    ·rw [q2,qQ] at hh
     rw [q1,<- hA.at_ h hh.1 e he]
     simp [hne]
    ·rw [q2,qQ] at hh
     rw [q1,<- hA.at_ h hh.1 e he]
   ·rw [qP.1 he]
    show (n:Int)∈x.ids↔c.has h=true
    rcases q with⟨q1,q2⟩|⟨q1,q2⟩
    ·rw [q2,qQ] at hh
     rw [q1]
     simp [hh.2]
    ·rw [q2,qQ] at hh
     rw [q1]
     have:c.has h=false:=by simpa using hh.2
     rw [this]
     simp [hni a ha]
theorem D8:eC [] [dS]:=by
 have h:∀h,ar dS.pile h=true:=fun h=>by simp [dS,ar,Cb.has_zero]
 refine⟨fun g=>⟨dS,qP.2 rfl,h g⟩,fun g a ha b hb _ _=>by rw [qP.1 ha,qP.1 hb],fun a ha=>?_,by simp,by decide⟩
 rw [qP.1 ha]
 exact⟨by decide,h _,List.Pairwise.nil,fun i hi=>(by cases hi),fun g _ e he=>by cases he⟩
theorem HZ:iW [] 0 ((0:Nat):Int):=⟨List.Pairwise.nil,fun e he=>(by cases he),List.Pairwise.nil,fun e he=>(by cases he),List.nodup_nil,fun e he=>(by cases he)⟩
def fp:Nat->List Cb->List CE
 |_,[]=>[]
 |n,c::l=>(c,(n:Int),n)::fp (n+1) l
theorem BM:∀(n:Nat) (l:List Cb),(fp n l).length=l.length
 |_,[]=>rfl
 |n,c::l=>by rw [fp,qS,BM,qS]
theorem kv:∀(n:Nat) (l:List Cb),(fp n l).map (·.1)=l
 |_,[]=>rfl
 |n,c::l=>by rw [fp,vE,kv]
theorem tA:∀(n:Nat) (l:List Cb) (c:Cb),fp n (l++[c])=fp n l++[(c,((n+l.length:Nat):Int),n+l.length)]
 |n,[],c=>rfl
 |n,x::l,c=>by
  rw [uX,fp,fp,tA (n+1) l c,qS,show n+1+l.length=n+(l.length+1) from by omega]
  rfl
theorem tF:∀(l:List Cb) (es:List CE) (n:Nat) (out:List aG),(∀c∈l,c.sound=true)->(es.map (·.1)++l).Nodup->iW es n n->eC es out->((cn n l out).2=0\/cn n l out=([],10)\/cn n l out=([],11))/\((cn n l out).2=0->eC (es++fp n l) (cn n l out).1/\iW (es++fp n l) (n+l.length) ((n+l.length:Nat):Int))
 |[],es,n,out,hl,hn,hE,hP=>⟨.inl rfl,fun _=>by rw [fp,uA];exact⟨hP,hE⟩⟩
 |c::l,es,n,out,hl,hn,hE,hP=>by
  have hc:=hl c vD
  have hk:jK es c=false:=by
   rw [<- Bool.not_eq_true,cw]
   rintro⟨e,he,h⟩
   exact (uQ.1 hn).2.2 e.1 (qX he) c vD h
  rw [cn]
  obtain⟨g1,g2⟩:=kY hE hP hc hk
  unfold dq at g1 g2
  rcases g1 with e|e|e
  ·rw [qE e,cond_true]
   have hE':=hE.more (by omega) hc hk
   have:=tF l (es++[(c,(n:Int),n)]) (n+1) _ (fun d hd=>hl d (qZ _ hd)) (by simpa using hn) hE' (g2 e)
   rw [uK,show n+1+l.length=n+(l.length+1) from by omega] at this
   exact this
  ·rw [e]
   exact⟨.inr (.inl rfl),fun h=>by cases h⟩
  ·rw [e]
   exact⟨.inr (.inr rfl),fun h=>by cases h⟩
theorem yF {ps:List Cb}(hp:∀c∈ps,c.sound=true)(hn:ps.Nodup)(hl:ps.length<=500):((bn ps).2=0\/bn ps=([],10)\/bn ps=([],11))/\((bn ps).2=0->eC (fp 0 ps) (bn ps).1/\iW (fp 0 ps) ps.length (ps.length:Nat)):=by
 rw [bn,qC (by omega),cond_false,qV.2 hp,cond_true]
 have h:=tF ps [] 0 [dS] hp (by simpa using hn) HZ D8
 rw [uT,vN] at h
 exact h
structure Kn where
 es:List CE
 clk:Nat
 next:Nat
 ats:List aG
structure gM (k:Kn):Prop where
 es:iW k.es k.clk k.next
 parts:eC k.es k.ats
def woF (list:List Cb):List CE->Kn->Kn × Int
 |[],k=>(k,0)
 |e::l,k=>bif decide (e.1∈list) then woF list l k else bif decide ((dr e.2.1 k.ats []).2=0) then woF list l ⟨k.es.filter fun x=>!decide (x.1=e.1),k.clk,k.next,(dr e.2.1 k.ats []).1⟩ else (k,(dr e.2.1 k.ats []).2)
def wiF:List Cb->Kn->Kn × Int
 |[],k=>(k,0)
 |c::l,k=>bif jK k.es c then wiF l k else bif decide ((dq k.ats k.next c).2=0) then wiF l ⟨k.es++[(c,(k.next:Int),k.clk)],k.clk+1,k.next+1,(dq k.ats k.next c).1⟩ else (k,(dq k.ats k.next c).2)
theorem qf (list:List Cb):∀(l:List CE) (k:Kn),gM k->(∀e∈l,e∈k.es)->(l.map (·.1)).Nodup ->
  ((woF list l k).2=0\/(woF list l k).2=10)/\gM (woF list l k).1/\(woF list l k).1.next=k.next/\(woF list l k).1.clk=k.clk/\(woF list l k).1.es.length<=k.es.length/\(∀e∈(woF list l k).1.es,e∈k.es) /\
   (∀e∈k.es,e.1∈list->e∈(woF list l k).1.es)/\((woF list l k).2=0->∀e∈(woF list l k).1.es,e∈l->e.1∈list)
 |[],k,hk,_,_=>⟨.inl rfl,hk,rfl,rfl,qJ _,fun e he=>he,fun e he _=>he,fun _ e _ he=>by cases he⟩
 |x::l,k,hk,hl,hn=>by
  rw [vE,vV] at hn
  have hx:=hl x vD
  rw [woF]
  by_cases h:x.1∈list
  ·rw [qE h,cond_true]
   obtain⟨g1,g2,g3,g4,g5,g6,g7,g8⟩:=qf list l k hk (fun e he=>hl e (qZ _ he)) hn.2
   refine⟨g1,g2,g3,g4,g5,g6,g7,fun h0 e he hm=>?_⟩
   rcases vA.1 hm with rfl|hm
   ·exact h
   ·exact g8 h0 e he hm
  ·rw [qC h,cond_false]
   obtain⟨c1,c2⟩:=nE hk.es hk.parts hx
   rcases c1 with e|e
   ·rw [qE e,cond_true]
    obtain⟨g1,g2,g3,g4,g5,g6,g7,g8⟩:=qf list l ⟨k.es.filter fun y=>!decide (y.1=x.1),k.clk,k.next,(dr x.2.1 k.ats []).1⟩ ⟨hk.es.filter _,c2 e⟩ (fun e he=>by
     refine List.mem_filter.2 ⟨hl e (qZ _ he),?_⟩
     have:e.1≠x.1:=fun h=>hn.1 (vI.2 ⟨e,he,h⟩)
     simpa using this) hn.2
    refine⟨g1,g2,g3,g4,vH g5 (List.length_filter_le _ _),fun y he=>(List.mem_filter.1 (g6 y he)).1,fun y he hm=>g7 y (List.mem_filter.2 ⟨he,?_⟩) hm,fun h0 y he hm=>?_⟩
    ·have:y.1≠x.1:=fun h'=>h (h' ▸ hm)
     simpa using this
    ·rcases vA.1 hm with hm|hm
     ·have:=(List.mem_filter.1 (g6 y he)).2
      rw [hm] at this
      simp at this
     ·exact g8 h0 y he hm
   ·rw [e]
    exact⟨.inr rfl,hk,rfl,rfl,qJ _,fun e he=>he,fun e he _=>he,fun h0=>by cases h0⟩
theorem uh:∀(l:List Cb) (k:Kn),gM k->(∀c∈l,c.sound=true) ->
  ((wiF l k).2=0\/(wiF l k).2=10\/(wiF l k).2=11)/\gM (wiF l k).1/\(wiF l k).1.next<=k.next+l.length/\(wiF l k).1.clk<=k.clk+l.length/\(wiF l k).1.es.length<=k.es.length+l.length/\(∀e∈(wiF l k).1.es,e∈k.es\/e.1∈l)/\(∀e∈k.es,e∈(wiF l k).1.es)/\((wiF l k).2=0->∀c∈l,jK (wiF l k).1.es c=true)
 |[],k,hk,_=>⟨.inl rfl,hk,qJ _,qJ _,qJ _,fun e he=>.inl he,fun e he=>he,fun _ c hc=>by cases hc⟩
 |x::l,k,hk,hl=>by
  have hx:=hl x vD
  have hl':∀c∈l,c.sound=true:=fun c hc=>hl c (qZ _ hc)
  rw [wiF,qS]
  cases h:jK k.es x with
  |true=>
   rw [cond_true]
   obtain⟨g1,g2,g3,g4,g5,g6,g7,g8⟩:=uh l k hk hl'
   refine⟨g1,g2,by omega,by omega,by omega,fun e he=>(g6 e he).imp (fun h=>h) fun h=>qZ _ h,g7,fun h0 c hc=>?_⟩
   rcases vA.1 hc with rfl|hc
   ·obtain⟨e,he,h1⟩:=cw.1 h
    exact cw.2 ⟨e,g7 e he,h1⟩
   ·exact g8 h0 c hc
  |false=>
   rw [cond_false]
   obtain⟨c1,c2⟩:=kY hk.es hk.parts hx h
   rcases c1 with e|e|e
   ·rw [qE e,cond_true]
    obtain⟨g1,g2,g3,g4,g5,g6,g7,g8⟩:=uh l ⟨k.es++[(x,(k.next:Int),k.clk)],k.clk+1,k.next+1,(dq k.ats k.next x).1⟩ ⟨hk.es.more (by omega) hx h,c2 e⟩ hl'
    simp only [qK,vP] at g3 g4 g5
    refine⟨g1,g2,by omega,by omega,by omega,fun e he=>?_,fun e he=>g7 e (vS _ he),fun h0 c hc=>?_⟩
    ·rcases g6 e he with h1|h1
     ·rcases vB.1 h1 with h1|h1
      ·exact .inl h1
      ·rw [qP.1 h1]
       exact .inr vD
     ·exact .inr (qZ _ h1)
    ·rcases vA.1 hc with rfl|hc
     ·exact cw.2 ⟨_,g7 _ (List.mem_append_right _ (qP.2 rfl)),rfl⟩
     ·exact g8 h0 c hc
   ·rw [e]
    exact⟨.inr (.inl rfl),hk,by show k.next<=_;omega,by show k.clk<=_;omega,by show k.es.length<=_;omega,fun e he=>.inl he,fun e he=>he,fun h0=>by cases h0⟩
   ·rw [e]
    exact⟨.inr (.inr rfl),hk,by show k.next<=_;omega,by show k.clk<=_;omega,by show k.es.length<=_;omega,fun e he=>.inl he,fun e he=>he,fun h0=>by cases h0⟩
def aO (ps:List Cb):Kn × Int:=(⟨fp 0 ps,ps.length,ps.length,(bn ps).1⟩,(bn ps).2)
def ou (k:Kn)(ps:List Cb):Option Kn:=bif decide ((woF ps k.es k).2=0) then (bif decide ((wiF ps (woF ps k.es k).1).2=0) then some (wiF ps (woF ps k.es k).1).1 else none) else none
def eQ (k:Kn)(ps:List Cb):Kn × Int:=match ou k ps with|some k'=>(k',0)|none=>aO ps
structure iu (ps:List Cb)(k:Kn):Prop where
 ok:gM k
 all:∀c,c∈ps↔jK k.es c=true
theorem iu.len {ps:List Cb}{k:Kn}(h:iu ps k):k.es.length<=ps.length:=by
 have:=dy h.ok.es.keys (m:=ps) fun c hc=>by
  obtain⟨e,he,rfl⟩:=vI.1 hc
  exact (h.all _).2 (cw.2 ⟨e,he,rfl⟩)
 rwa [qG] at this
theorem lF {ps:List Cb}(hp:∀c∈ps,c.sound=true)(hn:ps.Nodup)(hl:ps.length<=500):((aO ps).2=0\/(aO ps).2=10\/(aO ps).2=11)/\((aO ps).2=0->iu ps (aO ps).1):=by
 obtain⟨g1,g2⟩:=yF hp hn hl
 refine⟨g1.imp (fun h=>h) fun h=>h.imp (fun h=>by show (bn ps).2=10;rw [h]) fun h=>by show (bn ps).2=11;rw [h],fun h0=>?_⟩
 obtain⟨h1,h2⟩:=g2 h0
 refine⟨⟨h2,h1⟩,fun c=>?_⟩
 show _↔jK (fp 0 ps) c=true
 rw [cw]
 constructor
 ·intro hc
  have:=kv 0 ps
  rw [<- this] at hc
  obtain⟨e,he,rfl⟩:=vI.1 hc
  exact⟨e,he,rfl⟩
 ·rintro⟨e,he,rfl⟩
  rw [<- kv 0 ps]
  exact qX he
theorem BB {k k':Kn}{ps:List Cb}(hk:gM k)(hp:∀c∈ps,c.sound=true)(h:ou k ps=some k'):iu ps k'/\k'.next<=k.next+ps.length/\k'.clk<=k.clk+ps.length:=by
 unfold ou at h
 obtain⟨a1,a2,a3,a4,a5,a6,a7,a8⟩:=qf ps k.es k hk (fun e he=>he) hk.es.keys
 obtain⟨b1,b2,b3,b4,b5,b6,b7,b8⟩:=uh ps (woF ps k.es k).1 a2 hp
 by_cases e1:(woF ps k.es k).2=0
 ·rw [qE e1,cond_true] at h
  by_cases e2:(wiF ps (woF ps k.es k).1).2=0
  ·rw [qE e2,cond_true] at h
   obtain rfl:=qB h
   refine⟨⟨b2,fun c=>⟨b8 e2 c,fun hc=>?_⟩⟩,by omega,by omega⟩
   obtain⟨e,he,rfl⟩:=cw.1 hc
   rcases b6 e he with h1|h1
   ·exact a8 e1 e h1 (a6 e h1)
   ·exact h1
  ·rw [qC e2,cond_false] at h
   cases h
 ·rw [qC e1,cond_false] at h
  cases h
theorem BP {k:Kn}{ps:List Cb}(hk:gM k)(hp:∀c∈ps,c.sound=true)(hn:ps.Nodup)(hl:ps.length<=500):((eQ k ps).2=0\/(eQ k ps).2=10\/(eQ k ps).2=11)/\((eQ k ps).2=0->iu ps (eQ k ps).1/\(eQ k ps).1.next<=k.next+500/\(eQ k ps).1.clk<=k.clk+500)/\((eQ k ps).2≠0->(bn ps).2≠0):=by
 unfold eQ
 cases h:ou k ps with
 |some k'=>
  obtain⟨g1,g2,g3⟩:=BB hk hp h
  exact⟨.inl rfl,fun _=>⟨g1,by show k'.next<=_;omega,by show k'.clk<=_;omega⟩,fun h=>absurd rfl h⟩
 |none=>
  obtain⟨g1,g2⟩:=lF hp hn hl
  exact⟨g1,fun h0=>⟨g2 h0,by show ps.length<=_;omega,by show ps.length<=_;omega⟩,fun h0=>h0⟩
theorem yX (W:World)(b clk:Nat)(es:List CE)(hb:W.heap[b]?=some (cuO es clk)):Calls Tryz.prog 68 #[.map (some b)] W fun e w'=>e = .returned (.map (some W.heap.size))/\w'=W.alloc (cuO es clk):=by
 have hrow:(Extern.MapsClone.clone #[.iface 88 (.map (some b))]).run Tryz.prog W = .ok (.iface 88 (.map (some W.heap.size))) (W.alloc (cuO es clk)):=by
  unfold cuO at hb
  rw [show Extern.MapsClone.clone #[.iface 88 (.map (some b))] = (getObj b >>= fun o => match o with | .map e c => newObj (.map e c) >>= fun r => pure (.iface 88 (.map (some r))) | _ => stuck "maps.clone: a map expected") from rfl]
  simp only [kA2,MapKept.run_getObj_map hb,kA1,newObj,kA3,Sem.run,World.alloc]
  rfl
 have heq:∀W,(binOp .eql 88 (.map (some b)) (.map none)).run Tryz.prog W = .ok (.bool false) W:=fun W=>by kernel_rfl
 have hta:∀(W:World) (n:Nat),(Instr.typeAssert (.iface 88 (.map (some n))) 20 88 false).run Tryz.prog W = .ok (.map (some n)) W:=fun W n=>by kernel_rfl
 go_enter Tryz.func68,Tryz.ntmps68
 go_wp2_with fail
 rw [run_callFunc_extern Tryz.func111 (by kernel_rfl) (by kernel_rfl) (by kernel_rfl) (e:=Extern.MapsClone.clone) (by kernel_rfl),hrow]
 simp only [Result.andThen]
 rw [Oper.upon_value]
 go_wp2_with fail
 go_ret
 exact⟨rfl,rfl⟩
theorem Br (id:Nat)(x:SB)(l:List (Nat × SB)):lkB ((id,x)::l)=up1 (lkB l) id x:=by
 funext j
 rw [bi]
 show cond (Nat.beq j id) x (lkB l j)=_
 by_cases h:j=id
 ·rw [if_pos h,h,show Nat.beq id id=true from by simp]
  rfl
 ·rw [if_neg h,show Nat.beq j id=false from nQ h]
  rfl
theorem mO {q:Nat->Option (Nat × Nat)}{id:Nat}{x:SB}{B:List (Nat × SB)}:∀(ks:List Nat),(ks.all fun k=>!Nat.beq id (900+k))=true->lkB (gl q ks ((id,x)::B))=up1 (lkB (gl q ks B)) id x
 |[],_=>Br id x B
 |k::ks,h=>by
  rw [yB,qQ] at h
  have ih:=mO (q:=q) (x:=x) (B:=B) ks h.2
  funext j
  have ihj:=congrFun ih j
  rw [bi] at ihj ⊢
  show cond (Nat.beq j (900+k)) _ (lkB (gl q ks ((id,x)::B)) j)=if j=id then x else cond (Nat.beq j (900+k)) _ (lkB (gl q ks B) j)
  rw [ihj]
  by_cases e:j=id
  ·subst e
   rw [if_pos rfl,if_pos rfl]
   have:=h.1
   cases hb:Nat.beq j (900+k) with
   |true=>rw [hb] at this;cases this
   |false=>rfl
  ·rw [if_neg e,if_neg e]
theorem tg {W W':World}{F:Nat->Prop}{μ:Mu}{q:Nat->Option (Nat × Nat)}{B:List (Nat × SB)}(ks:List Nat)(id:Nat)(hks:(ks.all fun k=>!Nat.beq id (900+k))=true)(hi:Inv W F μ (lkB (gl q ks B)))(hid:lkB (gl q ks B) id=⟨0,none⟩)(p:Option (Nat × Nat))(bd:aE)(hk:Kp No W W')(hp:∀b c,p=some (b,c)->W.heap.size<=b/\b<W'.heap.size)
  (hb:aM W' F (upm μ id p) (lkB (gl q ks ((id,⟨1,some bd⟩)::B))) p bd):Stp W F μ (lkB (gl q ks B)) W' F (upm μ id p) (lkB (gl q ks ((id,⟨1,some bd⟩)::B)))/\Inv W' F (upm μ id p) (lkB (gl q ks ((id,⟨1,some bd⟩)::B))):=by
 rw [mO ks hks] at hb ⊢
 exact cy hi id p 1 bd (hk.mono fun _ _ h=>h.elim) (fun b c e=>⟨(hp b c e).2,.inl (hp b c e).1⟩) (.inl (by rw [hid];exact Nat.zero_lt_one)) fun _=>hb
theorem BV (es:List CE)(clk:Nat)(q:Nat->Option (Nat × Nat)):aj Tryz.prog 68 [.ref 1 0 .map] (gl q [1] [(1,⟨0,some (bH es clk)⟩)]) (.ref 30 1 .map) (gl q [1] [(30,⟨1,some (bH es clk)⟩),(1,⟨0,some (bH es clk)⟩)]):=by
 refine⟨⟨_,_,Tryz.func68,rfl,by kernel_rfl⟩,fun W F μ vs hl hv hi=>?_⟩
 match vs,hl with
 |[v],_=>
  have hid:lkB (gl q [1] [(1,⟨0,some (bH es clk)⟩)]) 1=⟨0,some (bH es clk)⟩:=rfl
  obtain⟨_,_,hvv⟩:=Rel.ref' (hv 0 _ _ rfl rfl)
  obtain⟨b,c,hm,rfl⟩:=hvv _ hid
  obtain⟨b',c',hm',hh⟩:=hi.body _ _ _ hid
  obtain⟨rfl,rfl⟩:b=b'/\c=c':=by rw [hm] at hm';simpa using hm'
  refine (yX W b clk es hh).mono ?_
  rintro e W' ⟨rfl,rfl⟩
  obtain⟨hs,hi'⟩:=tg [1] 30 rfl hi rfl (some (W.heap.size,0)) (bH es clk) ((Kp.refl No W).alloc _) (fun b c e=>by
   obtain⟨rfl,rfl⟩:W.heap.size=b/\0=c:=by simpa using e
   exact⟨qJ _,by simp⟩) ⟨W.heap.size,0,rfl,kA5 _ _⟩
  exact⟨_,F,_,rfl,hi',hs.q,.ref 30 1 .map _ (qJ _) rfl fun bd h=>⟨W.heap.size,0,by rw [dE,if_pos rfl],rfl⟩⟩
end Go.Proofs.YtdidjpohnopihaaGreat.Sm
end
section
namespace Go.Proofs
open Go.Shelf
def Tryz.sortQ_ren:Go.Shelf.Ren:=⟨fun|6=>156|15=>105|14=>201|28=>150|29=>151|20=>181|21=>230|22=>231|23=>232|24=>233|25=>234|26=>235|27=>236|46=>247|47=>193|48=>194|49=>248|50=>249|57=>254|n=>n,fun|22=>73|24=>36|25=>175|3=>3|39=>134|0=>0|53=>242|55=>32|4=>4|46=>235|45=>234|50=>116|5=>5|9=>9|66=>276|70=>280|76=>300|77=>301|n=>n,fun|n=>n⟩
theorem Tryz.sortQ:Go.Proofs.SlLaysF0.n6 Tryz.prog Tryz.sortQ_ren:={
 mixed:=by kernel_rfl
 f6:=⟨Tryz.f156.name,by decide,Tryz.func156.trans (congrArg some (by kernel_rfl))⟩
 f14:=⟨Tryz.f201.name,by decide,Tryz.func201.trans (congrArg some (by kernel_rfl))⟩
 f15:=Tryz.func105.trans (congrArg some (by kernel_rfl))
 f20:=⟨Tryz.f181.name,by decide,Tryz.func181.trans (congrArg some (by kernel_rfl))⟩
 f21:=⟨Tryz.f230.name,by decide,Tryz.func230.trans (congrArg some (by kernel_rfl))⟩
 f22:=⟨Tryz.f231.name,by decide,Tryz.func231.trans (congrArg some (by kernel_rfl))⟩
 f23:=⟨Tryz.f232.name,by decide,Tryz.func232.trans (congrArg some (by kernel_rfl))⟩
 f24:=⟨Tryz.f233.name,by decide,Tryz.func233.trans (congrArg some (by kernel_rfl))⟩
 f25:=⟨Tryz.f234.name,by decide,Tryz.func234.trans (congrArg some (by kernel_rfl))⟩
 f26:=⟨Tryz.f235.name,by decide,Tryz.func235.trans (congrArg some (by kernel_rfl))⟩
 f27:=⟨Tryz.f236.name,by decide,Tryz.func236.trans (congrArg some (by kernel_rfl))⟩
 f28:=Tryz.func150.trans (congrArg some (by kernel_rfl))
 f29:=Tryz.func151.trans (congrArg some (by kernel_rfl))
 f46:=⟨Tryz.f247.name,by decide,Tryz.func247.trans (congrArg some (by kernel_rfl))⟩
 f47:=Tryz.func193.trans (congrArg some (by kernel_rfl))
 f48:=Tryz.func194.trans (congrArg some (by kernel_rfl))
 f49:=⟨Tryz.f248.name,by decide,Tryz.func248.trans (congrArg some (by kernel_rfl))⟩
 f50:=⟨Tryz.f249.name,by decide,Tryz.func249.trans (congrArg some (by kernel_rfl))⟩
 f57:=⟨Tryz.f254.name,by decide,Tryz.func254.trans (congrArg some (by kernel_rfl))⟩
 t0:=Tryz.underlying0
 a0:=Tryz.isAgg0
 z0:=Tryz.sizeOf0
 v0:=Tryz.zeroValue0
 t3:=Tryz.underlying3
 a3:=Tryz.isAgg3
 z3:=Tryz.sizeOf3
 v3:=Tryz.zeroValue3
 t4:=Tryz.underlying4
 a4:=Tryz.isAgg4
 z4:=Tryz.sizeOf4
 v4:=Tryz.zeroValue4
 t5:=Tryz.underlying5
 a5:=Tryz.isAgg5
 z5:=Tryz.sizeOf5
 v5:=Tryz.zeroValue5
 t9:=Tryz.underlying9
 a9:=Tryz.isAgg9
 z9:=Tryz.sizeOf9
 v9:=Tryz.zeroValue9
 t22:=Tryz.underlying73
 a22:=Tryz.isAgg73
 z22:=Tryz.sizeOf73
 v22:=Tryz.zeroValue73
 t25:=Tryz.underlying175
 a25:=Tryz.isAgg175
 z25:=Tryz.sizeOf175
 v25:=Tryz.zeroValue175
 t39:=Tryz.underlying134
 a39:=Tryz.isAgg134
 z39:=Tryz.sizeOf134
 v39:=Tryz.zeroValue134
 t45:=Tryz.underlying234
 a45:=Tryz.isAgg234
 z45:=Tryz.sizeOf234
 v45:=Tryz.zeroValue234
 t46:=Tryz.underlying235
 a46:=Tryz.isAgg235
 z46:=Tryz.sizeOf235
 v46:=Tryz.zeroValue235
 t50:=Tryz.underlying116
 a50:=Tryz.isAgg116
 z50:=Tryz.sizeOf116
 v50:=Tryz.zeroValue116
 t53:=Tryz.underlying242
 a53:=Tryz.isAgg242
 z53:=Tryz.sizeOf242
 v53:=Tryz.zeroValue242
 t55:=Tryz.underlying32
 a55:=Tryz.isAgg32
 z55:=Tryz.sizeOf32
 v55:=Tryz.zeroValue32
 t66:=Tryz.underlying276
 a66:=Tryz.isAgg276
 z66:=Tryz.sizeOf276
 v66:=Tryz.zeroValue276
 t70:=Tryz.underlying280
 a70:=Tryz.isAgg280
 z70:=Tryz.sizeOf280
 v70:=Tryz.zeroValue280
 t76:=Tryz.underlying300
 a76:=Tryz.isAgg300
 z76:=Tryz.sizeOf300
 v76:=Tryz.zeroValue300
 t77:=Tryz.underlying301
 a77:=Tryz.isAgg301
 z77:=Tryz.sizeOf301
 v77:=Tryz.zeroValue301 }
end Go.Proofs
namespace Go.Proofs.YtdidjpohnopihaaGreat.Sm
open Go.RowKit
abbrev SQ (es:List CE):={ e:CE // e∈es }
def io {es:List CE}(x:SQ es):List Value:=[.int .u64 x.1.1.value.hi.toNat,.int .u64 x.1.1.value.lo.toNat,.int .u64 x.1.1.care.hi.toNat,.int .u64 x.1.1.care.lo.toNat]
def cfE {es:List CE}(x y:SQ es):Int:=x.1.2.1-y.1.2.1
theorem ltE {es:List CE}(x y:SQ es):Go.Proofs.ltOf cfE x y=decide (x.1.2.1<y.1.2.1):=by
 unfold Go.Proofs.ltOf cfE
 rw [Bool.eq_iff_iff,decide_eq_true_iff,decide_eq_true_iff]
 omega
theorem IF {es:List CE}:Go.Sort.SWO (Go.Proofs.ltOf (cfE (es:=es))) where
 irrefl x:=by rw [ltE];simp
 trans x y z h1 h2:=by rw [ltE] at *;simp at *;omega
 ntrans x y z h1 h2:=by rw [ltE] at *;simp at *;omega
theorem xP {α:Type}{f:α->Int}:∀{l m:List α},l.Pairwise (fun a b=>f a<f b)->m.Pairwise (fun a b=>f a<f b)->(∀x,x∈l↔x∈m)->l=m
 |[],[],_,_,_=>rfl
 |[],y::m,_,_,h=>by have:=(h y).2 vD;cases this
 |x::l,[],_,_,h=>by have:=(h x).1 vD;cases this
 |x::l,y::m,hl,hm,h=>by
  rw [List.pairwise_cons] at hl hm
  have hxy:x=y:=by
   rcases vA.1 ((h x).1 vD) with e|e
   ·exact e
   ·rcases vA.1 ((h y).2 vD) with e'|e'
    ·exact e'.symm
    ·have:=hm.1 x e
     have:=hl.1 y e'
     omega
  subst hxy
  congr 1
  refine xP hl.2 hm.2 fun z=>?_
  constructor
  ·intro hz
   rcases vA.1 ((h z).1 (qZ _ hz)) with e|e
   ·subst e
    have:=hl.1 z hz
    omega
   ·exact e
  ·intro hz
   rcases vA.1 ((h z).2 (qZ _ hz)) with e|e
   ·subst e
    have:=hm.1 z hz
    omega
   ·exact e
theorem E6 {es:List CE}:∀{ks:List Cb},(∀k∈ks,∃e∈es,e.1=k)->∃L:List (SQ es),L.map (fun x=>x.1.1)=ks
 |[],_=>⟨[],rfl⟩
 |k::ks,h=>by
  obtain⟨e,he,rfl⟩:=h k vD
  obtain⟨L,hL⟩:=E6 (ks:=ks) fun k hk=>h k (qZ _ hk)
  exact⟨⟨e,he⟩::L,by rw [vE,hL]⟩
theorem xT {es:List CE}[Inhabited (SQ es)](hu:(es.map (·.2.1)).Pairwise (· < ·))(hk:(es.map (·.1)).Nodup){L:List (SQ es)}(hp:(L.map fun x=>x.1.1).Perm (es.map (·.1))){d':Array (SQ es)}(h1:Go.Sort.PermIn 0 L.toArray.size L.toArray d')(h2:Go.Sort.SortedIn (Go.Proofs.ltOf cfE) 0 L.toArray.size d'):d'.toList.map (fun x=>x.1)=es:=by
 obtain⟨z1,_,z2⟩:=h1
 have hpp:d'.toList.Perm L:=by
  have e1:(d'.extract 0 L.toArray.size).toList=d'.toList:=by rw [<- z1,Array.extract_size]
  have e2:(L.toArray.extract 0 L.toArray.size).toList=L:=by rw [Array.extract_size]
  rwa [e1,e2] at z2
 have hkp:(d'.toList.map fun x=>x.1.1).Perm (es.map (·.1)):=(hpp.map _).trans hp
 have hnd:(d'.toList.map fun x=>x.1.1).Nodup:=hkp.nodup_iff.2 hk
 have hes:es.Pairwise (fun a b=>a.2.1<b.2.1):=List.pairwise_map.1 hu
 refine xP (f:=fun e:CE=>e.2.1) ?_ hes fun x=>⟨fun hx=>?_,fun hx=>?_⟩
 ·rw [List.pairwise_map,List.pairwise_iff_getElem]
  intro i j hi hj hij
  have hi':i<d'.size:=by simpa using hi
  have hj':j<d'.size:=by simpa using hj
  have h3:=h2 i j (qR _) hij (by rw [<- z1];exact hj')
  rw [ltE,getElem!_pos d' i hi',getElem!_pos d' j hj'] at h3
  have h3:=of_decide_eq_false h3
  have e1:d'.toList[i]=d'[i]:=by simp
  have e2:d'.toList[j]=d'[j]:=by simp
  rw [e1,e2]
  refine Int.lt_iff_le_and_ne.2 ⟨by omega,fun h=>?_⟩
  have h4:=congrArg (fun e:CE=>e.1) (Bi hu d'[i].2 d'[j].2 h)
  have h5:=(List.pairwise_iff_getElem.1 hnd) i j (by simpa using hi) (by simpa using hj) hij
  simp at h5
  exact h5 h4
 ·obtain⟨y,_,rfl⟩:=vI.1 hx
  exact y.2
 ·have:x.1∈d'.toList.map fun x=>x.1.1:=hkp.mem_iff.2 (qX hx)
  obtain⟨y,hy,h⟩:=vI.1 this
  exact vI.2 ⟨y,hy,mI hk y.2 hx h⟩
theorem mu {w:World}{g:Nat}{cur:Array Value}{e:TypeId}{ss:List Value}(hb:w.heap[g]?=some (.cells cur e (0,0)))(ht:cur.toList.take ss.length=ss):Go.Sort.Holds id w g 0 ss.toArray:=by
 intro j hj
 have hj':j<ss.length:=by simpa using hj
 refine⟨?_,by simp [World.frozen?,hb]⟩
 have h1:(cur.toList.take ss.length)[j]?=ss[j]?:=by rw [ht]
 rw [uJ hj'] at h1
 simp only [World.cell?,hb,vN]
 simp only [Option.isSome_none,Bool.false_eq_true,if_false]
 rw [<- vO,h1]
 simp [hj']
theorem qh {w:World}{g n:Nat}{os:Array Obj}{cur:Array Value}{e:TypeId}{fr:Nat × Nat}(d:Array Value)(hb:w.heap[g]?=some (.cells cur e fr)) :
  (Go.Sort.grow (Go.Sort.putRow id (Go.Sort.ahead w n) g 0 d) os).heap[g]?=some (.cells (Go.Sort.putCells id 0 d cur) e fr):=by
 have hg:g<w.heap.size:=(qI.1 hb).1
 rw [Go.Sort.heap_grow_old _ _ (by simpa using hg)]
 simp [Go.Sort.putRow,Go.Sort.mapBlock,Go.Sort.ahead,Array.getElem?_modify,hb,Go.Sort.onCells]
theorem gZ {w:World}{g n:Nat}{os:Array Obj}(d:Array Value):w.grownBy (Go.Sort.grow (Go.Sort.putRow id (Go.Sort.ahead w n) g 0 d) os) (some g):=by
 refine⟨rfl,rfl,rfl,by simp,fun k hk hne=>?_⟩
 rw [Go.Sort.heap_grow_old _ _ (by simpa using hk)]
 have:g≠k:=fun e=>hne (by rw [e])
 simp [Go.Sort.putRow,Go.Sort.mapBlock,Go.Sort.ahead,Array.getElem?_modify,this]
theorem nN (cur:Array Value)(ts:List Value)(h:ts.length<=cur.size):(Go.Sort.putCells id 0 ts.toArray cur).toList.take ts.length=ts:=by
 apply List.ext_getElem?
 intro j
 by_cases hj:j<ts.length
 ·rw [uJ hj,vO]
  simp [Go.Sort.putCells,hj,show j<cur.size by omega]
 ·rw [List.getElem?_take_eq_none (by omega),vX (by omega)]
def cB {es:List CE}(L:List (SQ es)):List Value:=(L.map io).flatten
theorem fk {es:List CE}:∀(L:List (SQ es)),(cB L).length=L.length*4
 |[]=>rfl
 |x::L=>by
  have:=fk L
  unfold cB at this ⊢
  rw [vE,uN,qK,this,qS]
  show 4+L.length*4=_
  omega
theorem gW {es:List CE}:∀(L:List (SQ es)) (t:Nat),(cB L)[t]?=(L[t / 4]?).bind fun x=>(io x)[t % 4]?
 |[],t=>by simp [cB]
 |x::L,t=>by
  have ih:=gW L (t-4)
  unfold cB at ih ⊢
  rw [vE,uN,vZ]
  have hl:(io x).length=4:=rfl
  by_cases h:t<4
  ·rw [if_pos (by rw [hl];exact h),show t / 4=0 by omega,show t % 4=t by omega]
   rfl
  ·rw [if_neg (by rw [hl];exact h),hl,ih,show t / 4=(t-4) / 4+1 by omega,show (t-4) % 4=t % 4 by omega,uS]
theorem xc {es:List CE}[Inhabited (SQ es)](d:Array (SQ es)):(Go.Sort.flatK io 4 d)=(cB d.toList).toArray:=by
 have hz:(cB d.toList).length=d.size*4:=by rw [fk,qL]
 refine Go.Sort.ext_get! (by rw [Go.Sort.size_flatK];exact hz.symm) fun t ht=>?_
 rw [Go.Sort.size_flatK] at ht
 rw [Go.Sort.get_flatK _ _ _ _ ht,getElem!_pos (cB d.toList).toArray t (by show t<(cB d.toList).length;rw [hz];exact ht)]
 have h1:=gW d.toList t
 have h4:t / 4<d.size:=by omega
 have h5:t % 4<(io d[t / 4]).length:=by show _<4;omega
 have h6:t / 4<d.toList.length:=by rw [qL];exact h4
 have h7:d.toList[t / 4]=d[t / 4]:=by simp
 rw [qA h6,Option.bind_some,h7,qA (show t<(cB d.toList).length by rw [hz];exact ht),qA h5] at h1
 rw [getElem!_pos d (t / 4) h4,getElem!_pos (io d[t / 4]) (t % 4) h5]
 rw [List.getElem_toArray]
 exact (qB h1).symm
theorem vl {W:World}{F:Nat->Prop}{es:List CE}{L:List (SQ es)}{cur:Array Value}{els:List (List AV)}(hels:els=L.map fun x=>cCb x.1.1)(hc:∀(k:Nat) (cs:List AV) (j:Nat) (x:AV),els[k]?=some cs->cs[j]?=some x->x.one=true/\∃u,cur[k*4+j]?=some u/\au W F x u)(hz:L.length*4<=cur.size):cur.toList.take (cB L).length=cB L:=by
 subst hels
 have hl:=fk L
 apply List.ext_getElem?
 intro t
 by_cases ht:t<L.length*4
 ·rw [uJ (by rw [hl];exact ht),gW]
  have h4:t / 4<L.length:=by omega
  rw [qA h4,Option.bind_some,vO]
  have key:=hc (t / 4) (cCb L[t / 4].1.1) (t % 4)
  rw [show t / 4*4+t % 4=t by omega] at key
  have hk:(L.map fun x=>cCb x.1.1)[t / 4]?=some (cCb L[t / 4].1.1):=by rw [qF,qA h4];rfl
  generalize L[t / 4]=x at key hk
  have h5:t % 4<4:=kB2 _ (by decide)
  generalize t % 4=j at key h5
  match j,h5,key with
  |0,_,key=>obtain⟨_,u,e,r⟩:=key _ hk rfl;cases r;exact e
  |1,_,key=>obtain⟨_,u,e,r⟩:=key _ hk rfl;cases r;exact e
  |2,_,key=>obtain⟨_,u,e,r⟩:=key _ hk rfl;cases r;exact e
  |3,_,key=>obtain⟨_,u,e,r⟩:=key _ hk rfl;cases r;exact e
  |j+4,h,_=>exact absurd h (by omega)
 ·rw [List.getElem?_take_eq_none (by rw [hl];omega),vX (by rw [hl];omega)]
theorem Bc (w:World):(isAgg 36).run Tryz.prog w = .ok true w:=by kernel_rfl
theorem yu (w:World):(Go.sizeOf 36).run Tryz.prog w = .ok 4 w:=by kernel_rfl
theorem yM {W:World}{F:Nat->Prop}{es:List CE}{L:List (SQ es)}{cur:Array Value}(ht:cur.toList.take (cB L).length=cB L)(k:Nat)(cs:List AV)(j:Nat)(x:AV)(hk:(L.map fun x=>cCb x.1.1)[k]?=some cs)(hx:cs[j]?=some x):x.one=true/\∃u,cur[k*4+j]?=some u/\au W F x u:=by
 rw [qF] at hk
 obtain⟨y,hy,rfl⟩:=vT.1 hk
 have hkl:=(qD.1 hy).1
 have hl:=fk L
 have hj:j<4:=(qD.1 hx).1
 have h1:=congrArg (fun l=>l[k*4+j]?) ht
 simp only [uJ (show k*4+j<(cB L).length by rw [hl];omega),vO,gW,show (k*4+j) / 4=k by omega,show (k*4+j) % 4=j by omega,hy,Option.bind_some] at h1
 match j,hj,hx,h1 with
 |0,_,hx,h1=>obtain rfl:=qB hx;exact⟨rfl,_,h1,.u _⟩
 |1,_,hx,h1=>obtain rfl:=qB hx;exact⟨rfl,_,h1,.u _⟩
 |2,_,hx,h1=>obtain rfl:=qB hx;exact⟨rfl,_,h1,.u _⟩
 |3,_,hx,h1=>obtain rfl:=qB hx;exact⟨rfl,_,h1,.u _⟩
 |j+4,h,_,_=>exact absurd h (by omega)
theorem DG {W:World}{F:Nat->Prop}{μ:Mu}{σ:Sto}(hi:Inv W F μ σ){es:List CE}{clk:Nat}{next:Int}{ks:List Cb}{nx ls:AV}(hE:iW es clk next)(hb9:next<=1000000000)(hp:ks.Perm (es.map (·.1)))(h0:0<ks.length)(hl:ks.length<=1000000000)
  (h201:σ 201=⟨1,some (.row 36 4 (ks.map cCb))⟩) (h2:σ 2=⟨0,some (.box 90 [.ref 1 0 .map,nx,ls])⟩) (h1:σ 1=⟨0,some (bH es clk)⟩) {v u:Value} (hv:Rel W F μ σ (.row 201 1 0 ks.length) v) (hu:Rel W F μ σ (.own 2 0 0) u) :
  Calls Tryz.prog 156 #[v,.func (.func 114) #[] #[u]] W fun e W'=>e = .returned (.tuple #[])/\Inv W' F μ (up1 σ 201 ⟨1,some (.row 36 4 ((es.map (·.1)).map cCb))⟩)/\Stq W F μ σ W' F μ (up1 σ 201 ⟨1,some (.row 36 4 ((es.map (·.1)).map cCb))⟩):=by
 have hne:es≠[]:=fun h=>by
  subst h
  have:=hp.length_eq
  simp at this
  rw [this] at h0
  simp at h0
 obtain⟨e0,he0⟩:=List.exists_mem_of_ne_nil _ hne
 haveI:Inhabited (SQ es):=⟨⟨e0,he0⟩⟩
 obtain⟨L,hL⟩:=E6 (es:=es) (ks:=ks) fun k hk=>by
  obtain⟨e,he,h⟩:=vI.1 (hp.mem_iff.1 hk)
  exact⟨e,he,h⟩
 have hLl:L.length=ks.length:=by rw [<- hL,qG]
 -- the row
 obtain⟨q1,hq⟩:=gb hi hv h201
 rcases hq with⟨_,e2,_⟩|⟨b,cap,hm,rfl,q2,q3⟩
 ·have:=congrArg List.length e2
  rw [qG] at this
  rw [this] at h0
  simp at h0
 rw [qG] at q1 q2
 rw [Nat.sub_zero,Nat.zero_mul]
 have hb:=hi.body 201 1 _ h201
 rw [hm] at hb
 rcases hb with⟨hb,_⟩|⟨b',cap',cur,hb,hh,g1,g2,g3,g4,g5⟩
 ·cases hb
 obtain⟨rfl,rfl⟩:b=b'/\cap=cap':=by simpa using hb
 have ht:cur.toList.take (cB L).length=cB L:=vl (F:=F) (W:=W) (els:=ks.map cCb) (by rw [<- hL,List.map_map];rfl) g5 (by rw [g3,hLl];omega)
 have hlt:b<W.heap.size:=(qI.1 hh).1
 -- the box, and the map
 have hb2:=hi.body 2 0 _ h2
 obtain⟨bk,ck,cs,hm2,hh2,hcl,hcs⟩:=hb2
 obtain⟨_,_,huu⟩:=Rel.own' hu
 obtain⟨bm,cm,hm1,hh1⟩:=hi.body 1 0 _ h1
 match cs,hcl,hcs,hh2 with
 |[v0,v1,v2],_,hcs,hh2=>
 have r0:=(hcs 0 _ _ rfl rfl).2
 obtain⟨_,_,r0⟩:=Rel.ref' r0
 obtain⟨bm',cm',hm1',r0⟩:=r0 _ h1
 obtain⟨rfl,rfl⟩:bm=bm'/\cm=cm':=by rw [hm1] at hm1';simpa using hm1'
 subst r0
 obtain⟨bk',ck',hm2',rfl⟩:=huu _ h2
 obtain⟨rfl,rfl⟩:bk=bk'/\ck=ck':=by rw [hm2] at hm2';simpa using hm2'
 have hs201:(σ 201).body.isSome=true:=by rw [h201];rfl
 have hs2:(σ 2).body.isSome=true:=by rw [h2];rfl
 have hs1:(σ 1).body.isSome=true:=by rw [h1];rfl
 have nb2:bk≠b:=fun e=>by
  have:=hi.inj 2 201 bk ck cap hs2 hs201 hm2 (by rw [e];exact hm)
  omega
 have nb1:bm≠b:=fun e=>by
  have:=hi.inj 1 201 bm cm cap hs1 hs201 hm1 (by rw [e];exact hm)
  omega
 have eg:∀args w,(callFunc 114 args).run Tryz.prog w = .ok (.enter 114 args) w:=Go.Proofs.enters_of Tryz.func114 (by kernel_rfl) rfl
 have hcmp:CmpLays Tryz.prog 114 #[.pointer (some ⟨bk,0,none⟩)] io 4 (cfE (es:=es)) b 0 L.toArray.size W:=fun m os dk hs x y=>by
  have hold:∀k,k<W.heap.size->k≠b->(sortWorldK io 4 W b 0 m dk os).heap[k]?=W.heap[k]?:=fun k hk hne=>(gZ (w:=W) (g:=b) (n:=m) (os:=os) (Go.Sort.flatK io 4 dk)).block k hk (by simpa using hne)
  have h:=DR es clk bm bk x.1.1 y.1.1 v1 v2 (sortWorldK io 4 W b 0 m dk os) hE.keys ((hold bm (qI.1 hh1).1 nb1).trans hh1) ((hold bk (qI.1 hh2).1 nb2).trans hh2) (fun e he=>by have:=hE.lt e he;omega)
  rw [i1 hE.keys x.2,i1 hE.keys y.2] at h
  exact h
 have hH:Go.Sort.HoldsK io 4 W b 0 L.toArray:=by
  unfold Go.Sort.HoldsK
  rw [xc]
  exact mu hh ht
 have hS:=AnyQ.slices_SortFunc Tryz.sortQ 4 Bc yu io (fun _=>rfl) (fun x v hv=>by simp [io] at hv;rcases hv with rfl|rfl|rfl|rfl <;> rfl) cfE IF 114 #[.pointer (some ⟨bk,0,none⟩)] b 0 cap L.toArray W eg hcmp hH hlt (by rw [uH];omega)
 rw [uH,hLl] at hS
 refine Calls.mono hS ?_
 rintro e W' ⟨rfl,d',n,os,p1,p2,rfl⟩
 rw [<- hLl] at p1 p2
 have hsrt:=xT hE.up hE.keys (by rw [hL];exact hp) p1 p2
 have hel:(es.map (·.1)).map cCb=d'.toList.map fun x=>cCb x.1.1:=by
  have h:=congrArg (fun l:List CE=>(l.map (·.1)).map cCb) hsrt
  simp only [List.map_map] at h
  simp only [List.map_map]
  exact h.symm
 have hz:d'.toList.length=ks.length:=by rw [qL,p1.1,uH,hLl]
 rw [hel]
 have hgrow:=gZ (w:=W) (g:=b) (n:=n) (os:=os) (Go.Sort.flatK io 4 d')
 have hheap:=qh (w:=W) (g:=b) (n:=n) (os:=os) (Go.Sort.flatK io 4 d') hh
 change W.grownBy (sortWorldK io 4 W b 0 n d' os) (some b) at hgrow
 change (sortWorldK io 4 W b 0 n d' os).heap[b]?=_ at hheap
 generalize sortWorldK io 4 W b 0 n d' os=W' at hgrow hheap
 rw [xc] at hheap
 have hkp:Kp (fun x=>(σ 201).body.isSome=true/\∃c,μ 201=some (x,c)) W W':=(Kp.refl _ W).grown hgrow fun x hx=>(by cases hx;exact .inl ⟨hs201,cap,hm⟩)
 have hupm:upm μ 201 (some (b,cap))=μ:=by
  funext j
  rw [dE]
  split
  ·rename_i e;rw [e,hm]
  ·rfl
 have hcl2:(cB d'.toList).length<=cur.size:=by rw [fk,hz,g3];omega
 have htk:=nN cur (cB d'.toList) hcl2
 have hcur:(Go.Sort.putCells id 0 (cB d'.toList).toArray cur).size=cap*4:=by simp [Go.Sort.putCells,g3]
 obtain⟨hs,hi'⟩:=cy hi 201 (some (b,cap)) 1 (.row 36 4 (d'.toList.map fun x=>cCb x.1.1)) hkp (fun x c h=>by
  obtain⟨rfl,rfl⟩:b=x/\cap=c:=by simpa using h
  exact⟨(qI.1 hheap).1,.inr ⟨hs201,_,hm⟩⟩) (.inr ⟨by rw [h201],_,by rw [h201],by simp [aE.sh,hz],hm.symm⟩) fun _=>by
  refine .inr ⟨b,cap,_,rfl,hheap,by rw [qG,hz];exact q2,g2,hcur,fun k' cs hc=>?_,fun k' cs j x hc hx=>yM htk k' cs j x hc hx⟩
  rw [qF] at hc
  obtain⟨z,_,rfl⟩:=vT.1 hc
  rfl
 rw [hupm] at hs hi'
 exact⟨rfl,hi',hs.q⟩
theorem oa {l:List Cb}(h:l.Nodup)(x:Cb):(ew l x).Nodup:=by
 by_cases hx:x∈l
 ·rw [xh hx];exact h
 ·rw [sF hx,uQ]
  exact⟨h,by simp,fun a ha b hb e=>hx (by rw [qP.1 hb] at e;exact e ▸ ha)⟩
theorem kQ:∀(xs l:List Cb),l.Nodup->(cS l xs).Nodup
 |[],l,h=>h
 |x::xs,l,h=>kQ xs _ (oa h x)
theorem iP (p:Cb):∀(sets all:List Cb),all.Nodup->(cg p sets all).Nodup
 |[],all,h=>h
 |s::sets,all,h=>by
  rw [cg]
  refine iP p sets _ ?_
  cases p.hits s
  ·exact h
  ·exact oa h _
theorem kw (sets:List Cb):∀(f n:Nat) (all:List Cb),all.Nodup->(cM sets f n all).Nodup
 |0,n,all,h=>h
 |f+1,n,all,h=>by
  rw [cM]
  cases decide (n<all.length) && decide (all.length<=500)
  ·exact h
  ·exact kw sets f (n+1) _ (iP _ _ _ h)
theorem oA (c:Cf)(v:Int):(aL c v).Nodup:=kw _ _ _ _ (kQ _ _ List.nodup_nil)
theorem Rm.tup2 {π:List (Nat × Nat)}{σ σ':Sto}{z x y x' y':AV}(e:z = .tup [x,y])(h:Rm π σ σ' x x')(h':Rm π σ σ' y y'):Rm π σ σ' z (.tup [x',y']):=by
 subst e
 refine .tup rfl fun j a b ha hb=>?_
 match j,ha,hb with
 |0,ha,hb=>obtain rfl:=qB ha;obtain rfl:=qB hb;exact h
 |1,ha,hb=>obtain rfl:=qB ha;obtain rfl:=qB hb;exact h'
 |j+2,ha,hb=>cases ha
def bC (c:Cf)(V:Nat):List Cb:=ph (aL c (V:Nat))
theorem et (c:Cf)(V:Nat):(bC c V).Nodup:=(cH _).nodup_iff.2 (oA _ _)
theorem oe (c:Cf)(V:Nat):(bC c V).length=(aL c (V:Nat)).length:=(cH _).length_eq
theorem gG {c:Cf}(h0:c.sound=0)(V:Nat):∀p∈bC c V,p.sound=true:=fun p hp=>(j5 (Cf.ok h0) (V:Nat)).1 p ((cH _).mem_iff.1 hp)
def kn0:AV:=.agg [.raw (.map none),.i .i64 0,.raw (.slice none 0 0)]
def knR (id:Nat)(k:Kn):AV:=.agg [.ref id 0 .map,.i .i64 (k.next:Nat),.sl (k.ats.map av)]
def knT (id:Nat)(r:Kn × Int):AV:=bif decide (r.2=0) then .tup [knR id r.1,.i .i64 0] else .tup [kn0,.i .i64 r.2]
def knB (id:Nat)(r:Kn × Int):List (Nat × SB):=bif decide (r.2=0) then [(id,⟨0,some (bH r.1.es r.1.clk)⟩)] else []
def fS (c:Cf)(V:Nat):Kn × Int:=bif decide ((aL c (V:Nat)).length>500) then (⟨[],0,0,[]⟩,10) else aO (bC c V)
theorem sj (c:Cf)(h0:c.sound=0)(hL:c.Lens)(V:Nat)(hV:V<=255)(q:Nat->Option (Nat × Nat)):aj Tryz.prog 25 [.agg (cCf c),.i .i64 (V:Nat)] (gl q [] []) (knT 31 (fS c V)) (gl q [] (knB 31 (fS c V))):=by
  refine aj.of_body Tryz.func25 rfl (by kernel_rfl) rfl rfl ?_
  have hOf:=ER c V hV h0 hL
  rw [ofR] at hOf
  by_cases hl:(aL c (V:Nat)).length>500
  · have e:fS c V=(⟨[],0,0,[]⟩,10):=by rw [fS,qE hl];rfl
    rw [e]
    rw [qE hl,cond_true] at hOf
    refine jA ?_
    refine jm hOf ?_;refine jH ?_
    refine zT ?_
    exact AW.ret (dw ae rfl rfl (Rm.tup2 rfl (Rm.aggL rfl ⟨⟨Rm.is rfl rfl,rfl⟩,⟨Rm.is rfl rfl,rfl⟩,⟨Rm.is rfl rfl,rfl⟩,trivial⟩) (Rm.is rfl rfl)) trivial)
  · have hlen:(bC c V).length<=500:=by rw [oe];omega
    have e:fS c V=aO (bC c V):=by rw [fS,qC hl];rfl
    rw [e]
    rw [qC hl,cond_false] at hOf
    have hn:=et c V
    change aa _ _ _ (.tup [.sl ((bC c V).map cCb),.i .i64 0]) at hOf
    generalize bC c V=ps at hOf hlen hn ⊢
    have hSp:=wT ps
    rw [rQ] at hSp
    have hfs:aO ps=(⟨fp 0 ps,ps.length,ps.length,(bn ps).1⟩,(bn ps).2):=rfl
    rw [hfs]
    generalize bn ps=A at hSp
    refine jA ?_
    refine jm hOf ?_;refine jH ?_
    refine zF ?_
    refine jm hSp ?_;refine jH ?_
    refine AW.cond rfl (fun h=>?_) (fun h=>?_)
    · have h2:A.2≠0:=by simpa using h
      rw [knT,knB,qC h2]
      refine jA ?_
      exact AW.ret (dw ae rfl rfl (Rm.tup2 rfl (Rm.aggL rfl ⟨⟨Rm.is rfl rfl,rfl⟩,⟨Rm.is rfl rfl,rfl⟩,⟨Rm.is rfl rfl,rfl⟩,trivial⟩) (Rm.is rfl rfl)) trivial)
    · have h2:A.2=0:=by simpa using h
      rw [knT,knB,qE h2]
      refine zB ?_
      refine RG.opS rfl (nc (id:=31) rfl) rfl ?_
      refine jH ?_
      refine AW.loopL (ι:=Nat) (fun k=>[(4,.own 4 0 0),(9,.own 9 0 0),(36,.sl (ps.map cCb)),(37,.i .i64 (ps.map cCb).length),(38,.i .i64 (k:Nat))]) (fun k=>[(4,⟨0,some (.box 90 [.raw (.map none),.i .i64 0,.raw (.slice none 0 0)])⟩),(9,⟨0,some (.box 90 [.ref 31 0 .map,.i .i64 (ps.map cCb).length,.sl (A.1.map av)])⟩),(31,⟨0,some (bH (fp 0 (ps.take k)) k)⟩)]) (fun k=>k<=ps.length) (fun k=>ps.length-k) 0 (qR _) jW ⟨bS rfl rfl rfl,.boxL rfl jQ rfl,.obj rfl rfl,trivial⟩ fun k hk=>?_
      refine jA ?_
      refine AW.cond rfl (fun h1=>?_) (fun h1=>?_)
      · have h3:k<ps.length:=by simpa using h1
        have hstep:fp 0 (ps.take (k+1))=fp 0 (ps.take k)++[(ps[k],(k:Int),k)]:=by
          rw [List.take_add_one,qA h3]
          show fp 0 (ps.take k++[ps[k]])=_
          rw [tA,vG,vN,kB3 (by omega)]
        have hno:∀e∈fp 0 (ps.take k),e.1≠ps[k]:=fun e he hh=>by
          have h5:e.1∈ps.take k:=by rw [<- kv 0 (ps.take k)];exact qX he
          rw [hh] at h5
          obtain⟨i,hi,h6⟩:=List.mem_iff_getElem.1 h5
          rw [vG] at hi
          rw [List.getElem_take] at h6
          exact (List.pairwise_iff_getElem.1 hn i k (by omega) h3 (by omega)) h6
        generalize fp 0 (ps.take k)=es at hstep hno
        refine jA ?_
        refine RG.opS rfl (aq rfl (tk rfl) rfl (tk rfl) rfl rfl (show (ps.map cCb)[k]?=some (cCb ps[k]) by rw [qF,qA (by assumption)];rfl) rfl) rfl ?_
        refine jH ?_
        refine RG.opS rfl (xG rfl rfl rfl rfl rfl hno) rfl ?_
        refine jH ?_
        exact⟨k+1,⟨h3,by omega⟩,⟨rO rfl rfl rfl,rO rfl rfl rfl,rI rfl rfl,rI rfl rfl,rI (ay h3 (by omega)) rfl,trivial⟩,⟨bS rfl rfl rfl,.boxL rfl jQ rfl,.obj rfl (by rw [hstep]),trivial⟩⟩
      · have h3 : k = ps.length := by have : ¬ k < ps.length := by simpa using h1
                                      omega
        subst h3
        rw [uM]
        refine jE ?_;refine jA ?_
        exact AW.ret (dw ae rfl rfl (Rm.tup2 rfl (Rm.aggL rfl ⟨⟨Rm.refIs rfl rfl rfl rfl,rfl⟩,⟨Rm.is (by rw [qG]) rfl,rfl⟩,⟨Rm.is rfl rfl,rfl⟩,trivial⟩) (Rm.is rfl rfl)) ⟨.obj rfl rfl,trivial⟩)
theorem yH (es:List CE)(clk bx b1:Nat)(next:Int)(W:World)(hE:iW es clk next)(hl:es.length<=1000000)(hx:W.heap[bx]?=some (.cells #[.map (some b1)] 88 (0,0)))(h1:W.heap[b1]?=some (cuO es clk)) :
  Calls Tryz.prog 155 #[.func (.func 157) #[] #[.pointer (some ⟨bx,0,none⟩)]] W fun e W'=>∃(pre:List Cb) (v:Value),pre.Perm (es.map (·.1))/\e = .returned v/\Kp No W W'/\∃cells,W'.ownsRow 0 36 4 v pre.length cells/\dz W' (fun _=>False) 4 (pre.map cCb) cells/\∀g,v.ownBlock=some g->W.heap.size<=g:=by
 have hxl:=(qI.1 hx).1
 have h1l:=(qI.1 h1).1
 have H:=fun W1 (hk:Kp No W W1)=>rJ (f:=157) (cs:=[.pointer (some ⟨bx,0,none⟩)]) (Nx:=fun pre _=>pre.length<es.length) (Fin:=fun pre=>pre.Perm (es.map (·.1)))
  ⟨fun b=>b=bx\/b=b1,fun b=>W.heap[b]?⟩ ⟨_,_,Tryz.func157,rfl,by kernel_rfl⟩ (fun W2 F hC hF=>Do es clk bx b1 W2 F (hC bx (.inl rfl)).1 (hC b1 (.inr rfl)).1 ((hC bx (.inl rfl)).2.trans hx) ((hC b1 (.inr rfl)).2.trans h1) (hE.born.imp fun h=>Nat.ne_of_lt h) hE.old hF) (fun pre x h=>by omega) W1 (fun b=>b=bx\/b=b1)
  (fun b hb=>vK (hb.elim (fun e=>e ▸ hxl) fun e=>e ▸ h1l) hk.size) (fun b hb=>⟨hb,hk.block b (hb.elim (fun e=>e ▸ hxl) fun e=>e ▸ h1l) (aF _)⟩)
 have HH:=kA4 H
 clear H hx h1 hxl h1l hE hl
 go_enter Tryz.func155,Tryz.ntmps155
 go_wp2_with (go_at_call 200;refine (HH.out _ (Kp.refl _ _)).mono ?_;rintro e W' ⟨pre,v,hp,rfl,hr⟩;(have Hr:=kA4 hr);clear hr)
 go_ret
 exact⟨pre,v,hp,rfl,Hr.out⟩
def kyB (es:List CE)(clk:Nat)(nx ls:AV):List (Nat × SB):=[(77,⟨0,some (.box 88 [.ref 1 0 .map])⟩),(2,⟨0,some (.box 90 [.ref 1 0 .map,nx,ls])⟩),(1,⟨0,some (bH es clk)⟩)]
theorem DN {σ:Sto}{id:Nat}{x y:SB}:up1 (up1 σ id x) id y=up1 σ id y:=by
 funext j
 rw [bi,bi,bi]
 split <;> rfl
theorem EE {W':World}{ks:List Cb}{v:Value}{cells:List Value}(ho:W'.ownsRow 0 36 4 v ks.length cells)(hc:dz W' (fun _=>False) 4 (ks.map cCb) cells) :
  ∃p:Option (Nat × Nat),(∀b c,p=some (b,c)->v.ownBlock=some b/\b<W'.heap.size)/\∀(F:Nat->Prop) (μ:Mu) (σ:Sto) (id:Nat),aM W' F μ σ p (.row 36 4 (ks.map cCb))/\(μ id=p->σ id=⟨1,some (.row 36 4 (ks.map cCb))⟩->Rel W' F μ σ (.row id 1 0 ks.length) v):=by
 obtain⟨hcl,ho⟩:=ho
 rcases ho with⟨rfl,hn⟩|⟨g,cap,cur,rfl,_,hh,q1,q2,q3,q4⟩
 ·have:ks=[]:=uD.1 hn
  subst this
  refine⟨none,fun b c h=>(by cases h),fun F μ σ id=>⟨.inl ⟨rfl,rfl⟩,fun hm hs=>.row id 1 0 0 _ (by rw [hs];exact qJ _) rfl fun bd m len h1 h2=>?_⟩⟩
  rw [hs] at h1
  obtain rfl:aE.row 36 4 ([].map cCb)=bd:=by simpa using h1
  obtain⟨rfl,rfl⟩:4=m/\0=len:=by simpa [aE.rowL] using h2
  rw [hm]
  exact⟨qJ _,rfl⟩
 ·refine⟨some (g,cap),fun b c h=>?_,fun F μ σ id=>⟨.inr ⟨g,cap,cur,rfl,hh,by rw [qG];exact q1,q2,q3,fun k cs h=>hc.hm k cs h,fun k cs j x h1 h2=>?_⟩,fun hm hs=>.row id 1 0 _ _ (by rw [hs];exact qJ _) rfl fun bd m len h1 h2=>?_⟩⟩
  ·obtain⟨rfl,rfl⟩:g=b/\cap=c:=by simpa using h
   exact⟨rfl,(qI.1 hh).1⟩
  ·obtain⟨r1,u,r2,r3⟩:=hc.r k cs j x h1 h2
   have hkl:=(qD.1 h1).1
   rw [qG] at hkl
   have hjl:j<4:=by rw [<- hc.hm k cs h1];exact (qD.1 h2).1
   refine⟨r1,u,?_,r3.to fun b hb=>hb.elim⟩
   rw [<- q4,uJ (by omega),vO] at r2
   exact r2
  ·rw [hs] at h1
   obtain rfl:aE.row 36 4 (ks.map cCb)=bd:=by simpa using h1
   obtain⟨rfl,rfl⟩:4=m/\(ks.map cCb).length=len:=by simpa [aE.rowL] using h2
   rw [hm]
   exact⟨by rw [qG];omega,by simp⟩
theorem rl (es:List CE)(clk:Nat)(next:Int)(nx ls:AV)(hE:iW es clk next)(hb9:next<=1000000000)(hl:es.length<=1000000)(q:Nat->Option (Nat × Nat)):aj Tryz.prog 112 [.fn 157 [] [.own 77 0 0],.fn 114 [] [.own 2 0 0]] (gl q [1,2,77] (kyB es clk nx ls)) (.row 201 1 0 es.length) (gl q [1,2,77] ((201,⟨1,some (.row 36 4 ((es.map (·.1)).map cCb))⟩)::kyB es clk nx ls)):=by
 refine⟨⟨_,_,Tryz.func112,rfl,by kernel_rfl⟩,fun W F μ vs hvl hv hi=>?_⟩
 have h77:lkB (gl q [1,2,77] (kyB es clk nx ls)) 77=⟨0,some (.box 88 [.ref 1 0 .map])⟩:=rfl
 have h1:lkB (gl q [1,2,77] (kyB es clk nx ls)) 1=⟨0,some (bH es clk)⟩:=rfl
 match vs,hvl,hv with
 |[v0,v1],_,hv=>
 obtain⟨fs,cs,rfl,hf,hc,_,hc0⟩:=(hv 0 _ _ rfl rfl).fn'
 obtain⟨fs',cs',rfl,hf',hc',_,hc1⟩:=(hv 1 _ _ rfl rfl).fn'
 match fs,hf,cs,hc,hc0 with
 |[],_,[u0],_,hc0=>
 match fs',hf',cs',hc',hc1 with
 |[],_,[u1],_,hc1=>
 have r0:=hc0 0 _ _ rfl rfl
 have r1:=hc1 0 _ _ rfl rfl
 obtain⟨_,_,hu0⟩:=Rel.own' r0
 obtain⟨bx,cx,hmx,rfl⟩:=hu0 _ h77
 obtain⟨bx',cx',cs7,hmx',hhx,hcl,hcs⟩:=hi.body 77 0 _ h77
 obtain⟨rfl,rfl⟩:bx=bx'/\cx=cx':=by rw [hmx] at hmx';simpa using hmx'
 match cs7,hcl,hcs,hhx with
 |[w0],_,hcs,hhx=>
 obtain⟨bm,cm,hm1,hh1⟩:=hi.body 1 0 _ h1
 obtain⟨_,_,hw0⟩:=Rel.ref' (hcs 0 _ _ rfl rfl).2
 obtain⟨bm',cm',hm1',rfl⟩:=hw0 _ h1
 obtain⟨rfl,rfl⟩:bm=bm'/\cm=cm':=by rw [hm1] at hm1';simpa using hm1'
 have HC:=kA4 (yH es clk bx bm next W hE hl hhx hh1)
 have HS:∀(W1:World) (pre:List Cb) (v:Value) (cells:List Value),pre.Perm (es.map (·.1))->Kp No W W1->W1.ownsRow 0 36 4 v pre.length cells->dz W1 (fun _=>False) 4 (pre.map cCb) cells->(∀g,v.ownBlock=some g->W.heap.size<=g) ->
   Calls Tryz.prog 156 #[v,.func (.func 114) #[] #[u1]] W1 fun e W'=>e = .returned (.tuple #[])/\∃F' μ',Inv W' F' μ' (lkB (gl q [1,2,77] ((201,⟨1,some (.row 36 4 ((es.map (·.1)).map cCb))⟩)::kyB es clk nx ls)))/\Stq W F μ (lkB (gl q [1,2,77] (kyB es clk nx ls))) W' F' μ' (lkB (gl q [1,2,77] ((201,⟨1,some (.row 36 4 ((es.map (·.1)).map cCb))⟩)::kyB es clk nx ls)))/\Rel W' F' μ' (lkB (gl q [1,2,77] ((201,⟨1,some (.row 36 4 ((es.map (·.1)).map cCb))⟩)::kyB es clk nx ls))) (.row 201 1 0 es.length) v:=by
  intro W1 pre v cells hp hk ho hr hg
  have hlen:pre.length=es.length:=by rw [hp.length_eq,qG]
  obtain⟨p,p1,p2⟩:=EE ho hr
  obtain⟨hs,hi1⟩:=tg [1,2,77] 201 rfl hi rfl p (.row 36 4 (pre.map cCb)) hk (fun b c e=>⟨hg b (p1 b c e).1,(p1 b c e).2⟩) (p2 F _ _ 201).1
  have hrv:Rel W1 F (upm μ 201 p) (lkB (gl q [1,2,77] ((201,⟨1,some (.row 36 4 (pre.map cCb))⟩)::kyB es clk nx ls))) (.row 201 1 0 pre.length) v:=(p2 F _ _ 201).2 (by rw [dE,if_pos rfl]) rfl
  have hru:=r1.stp hi hs
  by_cases h0:es=[]
  ·subst h0
   obtain rfl:pre=[]:=uD.1 hlen
   have hz:∃p cap,v = .slice p 0 cap:=by
    rcases ho.2 with⟨rfl,_⟩|⟨g,cap,_,rfl,_⟩
    ·exact⟨_,_,rfl⟩
    ·exact⟨_,_,rfl⟩
   obtain⟨pv,cap,rfl⟩:=hz
   refine Calls.mono (AnyF.slices_SortFunc_none Tryz.sortQ pv cap _ W1) ?_
   rintro e W' ⟨rfl,rfl⟩
   exact⟨rfl,F,_,hi1,hs.q,hrv⟩
  ·have h0':0<pre.length:=by
    rw [hlen]
    exact List.length_pos_iff.2 h0
   refine Calls.mono (DG hi1 hE hb9 hp h0' (by omega) rfl rfl rfl hrv hru) ?_
   rintro e W' ⟨rfl,hi2,hs2⟩
   rw [mO _ rfl] at hi2 hs2 hs hrv
   rw [DN] at hi2 hs2
   rw [mO _ rfl]
   refine⟨rfl,F,_,hi2,hs.q.trans hs2,?_⟩
   obtain⟨q1,q2,q3⟩:=Rel.row' hrv
   refine .row 201 1 0 _ _ (by rw [bi,if_pos rfl];exact qJ _) q2 fun bd m len e1 e2=>?_
   rw [bi,if_pos rfl] at e1
   obtain rfl:aE.row 36 4 ((es.map (·.1)).map cCb)=bd:=by simpa using e1
   obtain⟨rfl,rfl⟩:4=m/\es.length=len:=by simpa [aE.rowL] using e2
   obtain⟨h5,h6⟩:=q3 _ 4 (pre.map cCb) (by rw [bi,if_pos rfl])
   rw [hlen] at h6
   exact⟨by omega,h6⟩
 have HS:=kA4 HS
 clear hi hv r0 r1 hc0 hc1 hcs hhx hh1 hE
 go_enter Tryz.func112,Tryz.ntmps112
 go_wp2_with (first|(go_at_call 155;refine HC.out.mono ?_;rintro e W1 ⟨pre,v,hp,rfl,hk,cells,ho,hr,hg⟩;(have HP:=kA4 hp);(have HK:=kA4 hk);(have HO:=kA4 ho);(have HR:=kA4 hr);(have HG:=kA4 hg);clear hp hk ho hr hg)|(go_at_call 156;refine (HS.out _ _ _ _ HP.out HK.out HO.out HR.out HG.out).mono ?_;rintro e W2 ⟨rfl,hx⟩;(have HX:=kA4 hx);clear hx))
 go_ret
 obtain⟨F',μ',g1,g2,g3⟩:=HX.out
 exact⟨v,F',μ',rfl,g1,g2,g3⟩
theorem FI (es:List CE)(clk:Nat)(q:Nat->Option (Nat × Nat)):aj Tryz.prog 113 [.ref 100 0 .map] (gl q [100] [(100,⟨0,some (bH es clk)⟩)]) (.fn 157 [] [.own 1 0 0]) (gl q [100] [(1,⟨0,some (.box 88 [.ref 100 0 .map])⟩),(100,⟨0,some (bH es clk)⟩)]):=by
 refine aj.of_body Tryz.func113 rfl (by kernel_rfl) rfl rfl ?_
 refine jA ?_
 refine AW.ret (dw ae rfl rfl (.fn rfl rfl (fun j x x' h _=>by cases h) fun j x x' h h'=>?_) ⟨.ghost rfl rfl rfl,.boxL rfl jQ rfl,.obj rfl rfl,trivial⟩)
 match j,h,h' with
 |0,h,h'=>
  obtain rfl:=qB h
  obtain rfl:=qB h'
  exact Rm.ownIs rfl rfl rfl rfl
 |j+1,h,_=>cases h
def knM (r:Kn × Int):AV:=bif decide (r.2=0) then .tup [knR 1 r.1,.i .i64 0] else .tup [kn0,.i .i64 r.2]
def woB (q:Nat->Option (Nat × Nat))(k:Kn):List (Nat × SB):=gl q [1] [(1,⟨0,some (bH k.es k.clk)⟩),(2,⟨0,some (.box 90 [.ref 1 0 .map,.i .i64 (k.next:Nat),.sl (k.ats.map av)])⟩),(4,⟨0,some (.box 90 [.raw (.map none),.i .i64 0,.raw (.slice none 0 0)])⟩)]
theorem yG (list:List Cb)(k:Kn)(hk:gM k)(hn:k.next<=1000000000)(he:k.es.length<=1000)(q:Nat->Option (Nat × Nat)):aj Tryz.prog 69 [knR 1 k,.sl (list.map cCb)] (gl q [1] [(1,⟨0,some (bH k.es k.clk)⟩)]) (knM (woF list k.es k)) (gl q [1] [(1,⟨0,some (bH (woF list k.es k).1.es (woF list k.es k).1.clk)⟩)]):=by
 refine aj.of_body Tryz.func69 rfl (by kernel_rfl) rfl rfl ?_
 obtain⟨es,clk,next,ats⟩:=k
 have hs0:∀kc:Kn,∀l:List CE,kc.es.length<=1000->gM kc->∀a∈kc.ats,ai a.pile=true/\0<a.pile.length/\a.ids.Pairwise (· < ·)/\a.ids.length<=1000:=fun kc l h1 h2 a ha=>⟨(h2.parts.ok a ha).pile,(h2.parts.ok a ha).pos,(h2.parts.ok a ha).up,vH (h2.parts.ok a ha).len h1⟩
 refine jA ?_
 refine RG.ownN [(1,100)] [(1,77),(100,1)] (FI es clk) rfl rfl rfl rfl rfl rfl rfl rfl rfl rfl ?_
 refine wH rfl ?_
 refine RG.ownN [(77,77),(2,2),(1,1)] [(201,201),(77,77),(2,2),(1,1)] (rl es clk next (.i .i64 (next:Nat)) (.sl (ats.map av)) hk.es (by have:next<=1000000000:=hn;omega) (by have:es.length<=1000:=he;omega)) rfl rfl rfl rfl rfl rfl rfl rfl rfl rfl ?_
 refine jH ?_
 have hks:(es.map (·.1)).length=es.length:=qG _
 have hkg:∀i (h:i<(es.map (·.1)).length),(es.map (·.1))[i]=(es[i]'(hks ▸ h)).1:=fun i h=>List.getElem_map _
 generalize es.map (·.1)=ks at hks hkg
 refine AW.freeze [201] [(1,.sl (list.map cCb)),(2,.own 2 0 0),(4,.own 4 0 0),(14,.sl (ks.map cCb)),(15,.i .i64 (es.length:Nat)),(16,.i .i64 (0:Nat))] (woB q ⟨es,clk,next,ats⟩) ⟨.is rfl rfl,.rn (rO rfl rfl rfl),.rn (rO rfl rfl rfl),.fzA rfl rfl (congrArg AV.sl (vL (by rw [uR,qG];omega))),.is rfl rfl,.is rfl rfl,trivial⟩ ⟨.old (.ghost rfl rfl rfl),.old (.obj rfl rfl),.old (.boxL rfl jQ rfl),.old (bS rfl rfl rfl),trivial⟩ rfl ?_
 generalize hR:woF list es ⟨es,clk,next,ats⟩=R
 refine AW.loopL (ι:=Nat × Kn) (fun x=>[(1,.sl (list.map cCb)),(2,.own 2 0 0),(4,.own 4 0 0),(14,.sl (ks.map cCb)),(15,.i .i64 (es.length:Nat)),(16,.i .i64 (x.1:Nat))]) (fun x=>woB q x.2) (fun x=>(x.1<=es.length/\gM x.2/\x.2.next<=1000000000/\x.2.es.length<=1000/\∀e∈es.drop x.1,e∈x.2.es)/\woF list (es.drop x.1) x.2=R) (fun x=>es.length-x.1) (0,⟨es,clk,next,ats⟩) ⟨⟨qR _,hk,hn,he,fun e h=>h⟩,hR⟩ jW ⟨.ghost rfl rfl rfl,.obj rfl rfl,.boxL rfl jQ rfl,bS rfl rfl rfl,trivial⟩ fun x hx=>?_
 have hnd:=hk.es.keys
 have hle:es.length<=1000:=he
 clear hR hk hn he
 obtain⟨i,⟨es1,clk1,next1,ats1⟩⟩:=x
 obtain⟨⟨hi,hk,hn,he,hm⟩,hf⟩:=hx
 simp only at hi hk hn he hm hf
 refine jA ?_
 refine AW.cond rfl (fun h1=>?_) (fun h1=>?_)
 ·have h3:i<es.length:=by simpa using h1
  have h3':i<ks.length:=by omega
  have hd:es.drop i=es[i]::es.drop (i+1):=qT h3
  rw [hd] at hm hf
  rw [woF] at hf
  have hki:=hkg i h3'
  refine jA ?_
  refine RG.opS rfl (aq rfl (tk rfl) rfl (tk rfl) rfl rfl (show (ks.map cCb)[i]?=some (cCb ks[i]) by rw [qF,qA (by assumption)];rfl) rfl) rfl ?_
  refine jH ?_
  rw [hki]
  generalize es[i]=e at hd hm hf
  refine RG.callS rfl rfl rfl rfl rfl (oy e.1 list _ rfl) rfl rfl ?_;refine jH ?_
  refine AW.cond rfl (fun h2=>?_) (fun h2=>?_)
  ·rw [h2,cond_true] at hf
   refine AW.exit ?_;first|(refine Eq.mpr (if_pos rfl) ?_)|(refine Eq.mpr (if_neg (by decide)) ?_;refine Eq.mpr (if_pos rfl) ?_)|(refine Eq.mpr (if_neg (by decide)) ?_;refine Eq.mpr (if_neg (by decide)) ?_;refine Eq.mpr (if_pos rfl) ?_);refine jA ?_
   refine wF ?_;refine wH rfl ?_;refine jB ?_
   exact⟨(i+1,⟨es1,clk1,next1,ats1⟩),⟨⟨⟨h3,hk,hn,he,fun x hx=>hm x (qZ _ hx)⟩,hf⟩,show es.length-(i+1)<es.length-i by omega⟩,⟨rI rfl rfl,rO rfl rfl rfl,rO rfl rfl rfl,rI rfl rfl,rI rfl rfl,rI (ay h3 (by omega)) rfl,trivial⟩,⟨.ghost rfl rfl rfl,.obj rfl rfl,.boxL rfl jQ rfl,bS rfl rfl rfl,trivial⟩⟩
  ·rw [h2,cond_false] at hf
   have hme:=hm e vD
   have hC:=yP ats1 e.2.1 (hs0 ⟨es1,clk1,next1,ats1⟩ [] he hk) hk.parts.len
   rw [rQ] at hC
   obtain⟨c1,c2⟩:=nE hk.es hk.parts hme
   generalize dr e.2.1 ats1 []=r at hC hf c1 c2
   refine jA ?_
   refine RG.opS rfl (Ab e.2.1 rfl rfl rfl rfl hk.es.keys (i1 hk.es.keys hme)) rfl ?_
   refine jH ?_
   refine jm hC ?_;refine jH ?_
   refine AW.cond rfl (fun h4=>?_) (fun h4=>?_)
   ·have h5:r.2≠0:=by simpa using h4
    rw [qC h5,cond_false] at hf
    subst hf
    rw [knM,qC h5]
    refine jA ?_
    exact AW.ret (dw ae rfl rfl (Rm.tup2 rfl (Rm.aggL rfl ⟨⟨Rm.is rfl rfl,rfl⟩,⟨Rm.is rfl rfl,rfl⟩,⟨Rm.is rfl rfl,rfl⟩,trivial⟩) (Rm.is rfl rfl)) ⟨.ghost rfl rfl rfl,.obj rfl rfl,trivial⟩)
   ·have h5:r.2=0:=by simpa using h4
    rw [qE h5,cond_true] at hf
    refine jA ?_
    refine RG.opS rfl (DV rfl rfl rfl rfl rfl rfl rfl hk.es.keys rfl) rfl ?_
    refine jH ?_
    have hno:∀x∈es.drop (i+1),x.1≠e.1:=fun x hx hh=>by
     have h6:((es.drop i).map (·.1)).Nodup:=List.Nodup.sublist ((List.drop_sublist i es).map _) hnd
     rw [hd,vE,vV] at h6
     exact h6.1 (vI.2 ⟨x,hx,hh⟩)
    exact⟨(i+1,⟨es1.filter fun x=>!decide (x.1=e.1),clk1,next1,r.1⟩),⟨⟨⟨h3,⟨hk.es.filter _,c2 h5⟩,hn,vH (List.length_filter_le _ _) he,fun x hx=>List.mem_filter.2 ⟨hm x (qZ _ hx),by simpa using hno x hx⟩⟩,hf⟩,show es.length-(i+1)<es.length-i by omega⟩,⟨rI rfl rfl,rO rfl rfl rfl,rO rfl rfl rfl,rI rfl rfl,rI rfl rfl,rI (ay h3 (by omega)) rfl,trivial⟩,⟨.ghost rfl rfl rfl,.obj rfl rfl,.boxL rfl jQ rfl,bS rfl rfl rfl,trivial⟩⟩
 ·have h3:¬i<es.length:=by simpa using h1
  rw [List.drop_eq_nil_of_le (by omega),woF] at hf
  subst hf
  refine jE ?_;refine jA ?_
  exact AW.ret (dw ae rfl rfl (Rm.tup2 rfl (Rm.aggL rfl ⟨⟨Rm.refIs rfl rfl rfl rfl,rfl⟩,⟨Rm.is rfl rfl,rfl⟩,⟨Rm.is rfl rfl,rfl⟩,trivial⟩) (Rm.is rfl rfl)) ⟨.ghost rfl rfl rfl,.obj rfl rfl,trivial⟩)
theorem AtQ.atomOk {es:List CE}{clk n:Nat}{a:aG}(hE:iW es clk n)(h:AtQ es a):nH n a :=
 ⟨h.pile,fun i hi=>by
  obtain⟨e,he,rfl⟩:=h.ids i hi
  exact (hE.lt e he).2,h.up⟩
theorem Ge (list:List Cb)(k:Kn)(hk:gM k)(hn:k.next+list.length<=1000000000)(he:k.es.length+list.length<=1000)(hs:∀c∈list,c.sound=true)(q:Nat->Option (Nat × Nat)):aj Tryz.prog 70 [knR 1 k,.sl (list.map cCb)] (gl q [1] [(1,⟨0,some (bH k.es k.clk)⟩)]) (knM (wiF list k)) (gl q [1] [(1,⟨0,some (bH (wiF list k).1.es (wiF list k).1.clk)⟩)]):=by
 refine aj.of_body Tryz.func70 rfl (by kernel_rfl) rfl rfl ?_
 obtain⟨es,clk,next,ats⟩:=k
 refine jA ?_
 generalize hR:wiF list ⟨es,clk,next,ats⟩=R
 refine AW.loopL (ι:=Nat × Kn) (fun x=>[(2,.own 2 0 0),(4,.own 4 0 0),(12,.sl (list.map cCb)),(13,.i .i64 (list.map cCb).length),(14,.i .i64 (x.1:Nat))]) (fun x=>woB q x.2) (fun x=>(x.1<=list.length/\gM x.2/\x.2.next+(list.length-x.1)<=1000000000/\x.2.es.length+(list.length-x.1)<=1000)/\wiF (list.drop x.1) x.2=R) (fun x=>list.length-x.1) (0,⟨es,clk,next,ats⟩) ⟨⟨qR _,hk,hn,he⟩,hR⟩ jW ⟨.ghost rfl rfl rfl,.obj rfl rfl,.boxL rfl jQ rfl,bS rfl rfl rfl,trivial⟩ fun x hx=>?_
 have hle:list.length<=1000:=by have:es.length+list.length<=1000:=he;omega
 clear hR hk hn he
 obtain⟨i,⟨es1,clk1,next1,ats1⟩⟩:=x
 obtain⟨⟨hi,hk,hn,he⟩,hf⟩:=hx
 simp only at hi hk hn he hf
 refine jA ?_
 refine AW.cond rfl (fun h1=>?_) (fun h1=>?_)
 ·have h3:i<list.length:=by simpa using h1
  have hd:list.drop i=list[i]::list.drop (i+1):=qT h3
  rw [hd,wiF] at hf
  have hc:=hs list[i] (vR h3)
  refine jA ?_
  refine RG.opS rfl (aq rfl (tk rfl) rfl (tk rfl) rfl rfl (show (list.map cCb)[i]?=some (cCb list[i]) by rw [qF,qA (by assumption)];rfl) rfl) rfl ?_
  refine jH ?_
  generalize list[i]=c at hd hf hc
  cases h2:jK es1 c with
  |true=>
   rw [h2,cond_true] at hf
   refine RG.opS rfl (o6 true rfl rfl rfl rfl hk.es.keys h2) rfl ?_
   refine jH ?_
   refine AW.condT rfl ?_
   refine AW.exit ?_;first|(refine Eq.mpr (if_pos rfl) ?_)|(refine Eq.mpr (if_neg (by decide)) ?_;refine Eq.mpr (if_pos rfl) ?_)|(refine Eq.mpr (if_neg (by decide)) ?_;refine Eq.mpr (if_neg (by decide)) ?_;refine Eq.mpr (if_pos rfl) ?_);refine jA ?_
   refine wF ?_;refine wH rfl ?_;refine jB ?_
   exact⟨(i+1,⟨es1,clk1,next1,ats1⟩),⟨⟨⟨h3,hk,show next1+(list.length-(i+1))<=_ by omega,show es1.length+(list.length-(i+1))<=_ by omega⟩,hf⟩,show list.length-(i+1)<list.length-i by omega⟩,⟨rO rfl rfl rfl,rO rfl rfl rfl,rI rfl rfl,rI rfl rfl,rI (ay h3 (by omega)) rfl,trivial⟩,⟨.ghost rfl rfl rfl,.obj rfl rfl,.boxL rfl jQ rfl,bS rfl rfl rfl,trivial⟩⟩
  |false=>
   rw [h2,cond_false] at hf
   have hC:=BW ats1 next1 c (fun a ha=>⟨(hk.parts.ok a ha).atomOk hk.es,vH (hk.parts.ok a ha).len (show es1.length<=1000 by omega)⟩) hc hk.parts.len
   rw [rQ] at hC
   obtain⟨c1,c2⟩:=kY hk.es hk.parts hc h2
   generalize dq ats1 next1 c=r at hC hf c1 c2
   have hno:∀e∈es1,e.1≠c:=fun e he hh=>by
    have:=cw.2 ⟨e,he,hh⟩
    rw [h2] at this
    cases this
   refine RG.opS rfl (o6 false rfl rfl rfl rfl hk.es.keys h2) rfl ?_
   refine jH ?_
   refine AW.condF rfl ?_
   refine jA ?_
   refine jm hC ?_;refine jH ?_
   refine AW.cond rfl (fun h4=>?_) (fun h4=>?_)
   ·have h5:r.2≠0:=by simpa using h4
    rw [qC h5,cond_false] at hf
    subst hf
    rw [knM,qC h5]
    refine jA ?_
    exact AW.ret (dw ae rfl rfl (Rm.tup2 rfl (Rm.aggL rfl ⟨⟨Rm.is rfl rfl,rfl⟩,⟨Rm.is rfl rfl,rfl⟩,⟨Rm.is rfl rfl,rfl⟩,trivial⟩) (Rm.is rfl rfl)) ⟨.ghost rfl rfl rfl,.obj rfl rfl,trivial⟩)
   ·have h5:r.2=0:=by simpa using h4
    rw [qE h5,cond_true] at hf
    refine jA ?_
    refine RG.opS rfl (xG rfl rfl rfl rfl rfl hno) rfl ?_
    refine jH ?_
    have hw:AV.i .i64 (IntKind.i64.wrap ((next1:Int)+1))=AV.i .i64 ((next1+1:Nat):Int):=congrArg _ (by rw [kA0];omega)
    exact⟨(i+1,⟨es1++[(c,(next1:Int),clk1)],clk1+1,next1+1,r.1⟩),⟨⟨⟨h3,⟨hk.es.more (by omega) hc h2,c2 h5⟩,show next1+1+(list.length-(i+1))<=_ by omega,show (es1++[(c,(next1:Int),clk1)]).length+(list.length-(i+1))<=_ by rw [qK,vP];omega⟩,hf⟩,show list.length-(i+1)<list.length-i by omega⟩,⟨rO rfl rfl rfl,rO rfl rfl rfl,rI rfl rfl,rI rfl rfl,rI (ay h3 (by omega)) rfl,trivial⟩,⟨.ghost rfl rfl rfl,.obj rfl rfl,.boxL rfl ⟨Rn.refIs rfl rfl rfl,rI hw rfl,rI rfl rfl,trivial⟩ rfl,bS rfl rfl rfl,trivial⟩⟩
 ·have h3:¬i<list.length:=by simpa using h1
  rw [List.drop_eq_nil_of_le (by omega),wiF] at hf
  subst hf
  refine jE ?_;refine jA ?_
  exact AW.ret (dw ae rfl rfl (Rm.tup2 rfl (Rm.aggL rfl ⟨⟨Rm.refIs rfl rfl rfl rfl,rfl⟩,⟨Rm.is rfl rfl,rfl⟩,⟨Rm.is rfl rfl,rfl⟩,trivial⟩) (Rm.is rfl rfl)) ⟨.ghost rfl rfl rfl,.obj rfl rfl,trivial⟩)
noncomputable def lvC (id:Nat)(c:Cf)(V:Nat)(k:Kn):List AV:=[.sl (c.topo.ports.map aP),.i .i64 c.pol.tenants,.sl (c.pol.peers.map cPr),.sl (c.pol.ways.map cWy),.sl (c.tables.map bY),.i .i64 (V:Nat),.ref id 0 .map,.i .i64 (k.next:Nat),.sl (k.ats.map av),.ro (dL (bP (cG c)))]
noncomputable def lvB (c:Cf)(V:Nat)(k:Kn):List (Nat × SB):=[(300,⟨0,some (.box 96 (lvC 301 c V k))⟩),(301,⟨0,some (bH k.es k.clk)⟩)]
def aU (c:Cf)(V:Nat)(k:Kn):Kn × Int:=bif decide ((aL c (V:Nat)).length>500) then (⟨[],0,0,[]⟩,10) else eQ k (bC c V)
theorem yf {P:Program}{N:Nat}{o:Oper}{s:St}{c:Call}{x:Operand}{t e id ep off n cap:Nat}{ti:TI}{bd:aE}(ho:o.op = .call c)(hc:c.callee = .builtin .len)(ha:c.args = #[x])(hat:c.argTypes = #[t])(ht:aB P t ti)(hk:ti.k = .slice e)(hx:s.ev x = .ref id ep (.sl off n cap))(hid:s.σ id=⟨ep,some bd⟩):ax P N o s ⟨.i .i64 n,[],[id]⟩ :=
 mK ho hc ha hat ht hk [id] fun s' W F μ v hσ hi hv=>by
  rw [hx] at hv
  obtain⟨b,c',hm,e⟩:=(Rel.ref' hv).2.2 _ ((hσ id (by simp)).trans hid)
  exact⟨_,_,e⟩
def tuK (ps:List Cb)(k:Kn):Nat->Kn
 |0=>k
 |1=>(woF ps k.es k).1
 |_=>(wiF ps (woF ps k.es k).1).1
noncomputable def tuB (q:Nat->Option (Nat × Nat))(c0 c:Cf)(V:Nat)(k0 k:Kn):List (Nat × SB):=gl q [300,301] ([(3,⟨0,some (.box 31 (cCf c))⟩),(4,⟨0,some (.box 90 [.raw (.map none),.i .i64 0,.raw (.slice none 0 0)])⟩),(8,⟨0,some (.box 90 [.ref 302 0 .map,.i .i64 (k.next:Nat),.sl (k.ats.map av)])⟩),(41,⟨0,some (.box 154 [.fn 69 [] [],.fn 70 [] []])⟩),(302,⟨0,some (bH k.es k.clk)⟩)]++lvB c0 V k0)
theorem uk (c0 c:Cf)(V:Nat)(k:Kn)(h0:c.sound = 0)(hL:c.Lens)(hV:V <= 255)(hk:gM k)(hn:k.next <= 100000000)(he:k.es.length <= 500)(q:Nat -> Option (Nat × Nat)) :
  aj Tryz.prog 33 [.own 300 0 0,.agg (cCf c)] (gl q [300,301] (lvB c0 V k)) (knT 302 (aU c V k)) (gl q [300,301] (knB 302 (aU c V k)++lvB c0 V k)):=by
 refine aj.of_body Tryz.func33 rfl (by kernel_rfl) rfl rfl ?_
 have hOf:=ER c V hV h0 hL
 rw [ofR] at hOf
 have hFr:=sj c h0 hL V hV
 have hne:=gG h0 V
 obtain⟨es,clk,next,ats⟩:=k
 by_cases hl:(aL c (V:Nat)).length>500
 ·have e:aU c V ⟨es,clk,next,ats⟩=(⟨[],0,0,[]⟩,10):=by rw [aU,qE hl];rfl
  rw [e]
  rw [qE hl,cond_true] at hOf
  refine jA ?_
  refine jm hOf ?_;refine jH ?_
  refine zT ?_
  exact AW.ret (dw ae rfl rfl (Rm.tup2 rfl (Rm.aggL rfl ⟨⟨Rm.is rfl rfl,rfl⟩,⟨Rm.is rfl rfl,rfl⟩,⟨Rm.is rfl rfl,rfl⟩,trivial⟩) (Rm.is rfl rfl)) ⟨.ghost rfl rfl rfl,.ghost rfl rfl rfl,.boxL rfl jQ rfl,.obj rfl rfl,trivial⟩)
 ·have hlen:(bC c V).length<=500:=by rw [oe];omega
  have e:aU c V ⟨es,clk,next,ats⟩=eQ ⟨es,clk,next,ats⟩ (bC c V):=by rw [aU,qC hl];rfl
  have e':fS c V=aO (bC c V):=by rw [fS,qC hl];rfl
  rw [e]
  rw [e'] at hFr
  rw [qC hl,cond_false] at hOf
  have hnd:=et c V
  change aa _ _ _ (.tup [.sl ((bC c V).map cCb),.i .i64 0]) at hOf
  generalize bC c V=ps at hOf hlen hnd hFr hne ⊢
  refine jA ?_
  refine jm hOf ?_;refine jH ?_
  refine zF ?_
  refine RG.ownN [(301,1)] [(30,302),(1,301)] (BV es clk) rfl rfl rfl rfl rfl rfl rfl rfl rfl rfl ?_
  refine jH ?_
  refine RG.opS rfl (fN (id:=41) rfl (tk rfl) rfl (tk rfl) rfl (by decide) rfl rfl rfl rfl rfl) rfl ?_
  refine wH rfl ?_
  refine RG.opS rfl (yf rfl rfl rfl rfl (tk rfl) rfl rfl rfl) rfl ?_
  refine jH ?_
  refine AW.loopL (ι:=Nat) (fun i=>[(0,.own 300 0 0),(3,.own 3 0 0),(4,.own 4 0 0),(6,.sl (ps.map cCb)),(8,.own 8 0 0),(41,.ref 41 0 (.sl 0 2 2)),(42,.i .i64 2),(43,.i .i64 (i:Nat))]) (fun i=>tuB q c0 c V ⟨es,clk,next,ats⟩ (tuK ps ⟨es,clk,next,ats⟩ i)) (fun i=>i=0\/(i=1/\(woF ps es ⟨es,clk,next,ats⟩).2=0)\/(i=2/\(woF ps es ⟨es,clk,next,ats⟩).2=0/\(wiF ps (woF ps es ⟨es,clk,next,ats⟩).1).2=0)) (fun i=>2-i) 0 (.inl rfl) jQ ⟨.ghost rfl rfl rfl,.ghost rfl rfl rfl,bS rfl rfl rfl,bS rfl rfl rfl,.boxL rfl jQ rfl,.boxL rfl jQ rfl,.obj rfl rfl,.boxL rfl jQ rfl,.obj rfl rfl,trivial⟩ fun i hi=>?_
  rcases hi with rfl|⟨rfl,e1⟩|⟨rfl,e1,e2⟩
  ·show AW _ _ _ _ _
   refine jA ?_
   refine AW.condT rfl ?_
   refine jA ?_
   refine RG.opS rfl (lT 0 rfl (tk rfl) rfl (tk rfl) rfl rfl rfl rfl (by decide)) rfl ?_
   refine jH ?_
   have hM:=yG ps ⟨es,clk,next,ats⟩ hk (by show next<=_;have:next<=100000000:=hn;omega) (by show es.length<=_;have:es.length<=500:=he;omega)
   by_cases w1:(woF ps es ⟨es,clk,next,ats⟩).2=0
   ·have hM1:∀ q,aj Tryz.prog 69 [knR 1 ⟨es,clk,next,ats⟩,.sl (ps.map cCb)] (gl q [1] [(1,⟨0,some (bH es clk)⟩)]) (.tup [knR 1 (woF ps es ⟨es,clk,next,ats⟩).1,.i .i64 0]) (gl q [1] [(1,⟨0,some (bH (woF ps es ⟨es,clk,next,ats⟩).1.es (woF ps es ⟨es,clk,next,ats⟩).1.clk)⟩)]) := fun q=>by
     have:=hM q
     rw [knM,qE w1] at this
     exact this
    refine RG.ownN [(302,1)] [(1,302)] hM1 rfl rfl rfl rfl rfl rfl rfl rfl rfl rfl ?_
    refine jH ?_
    refine zF ?_
    exact⟨1,⟨.inr (.inl ⟨rfl,w1⟩),by decide⟩,⟨rO rfl rfl rfl,rO rfl rfl rfl,rO rfl rfl rfl,rI rfl rfl,rO rfl rfl rfl,Rn.refIs rfl rfl rfl,rI rfl rfl,rI (ay (show 0<2 by decide) (by decide)) rfl,trivial⟩,⟨.ghost rfl rfl rfl,.ghost rfl rfl rfl,bS rfl rfl rfl,bS rfl rfl rfl,.boxL rfl jQ rfl,.boxL rfl jQ rfl,.obj rfl rfl,.boxL rfl jQ rfl,.obj rfl rfl,trivial⟩⟩
   ·have hN:eQ ⟨es,clk,next,ats⟩ ps = aO ps := by
     unfold eQ ou
     rw [qC w1]
     rfl
    have hM1:∀q,aj Tryz.prog 69 [knR 1 ⟨es,clk,next,ats⟩,.sl (ps.map cCb)] (gl q [1] [(1,⟨0,some (bH es clk)⟩)]) (.tup [kn0,.i .i64 (woF ps es ⟨es,clk,next,ats⟩).2]) (gl q [1] [(1,⟨0,some (bH (woF ps es ⟨es,clk,next,ats⟩).1.es (woF ps es ⟨es,clk,next,ats⟩).1.clk)⟩)]):=fun q=>by
     have:=hM q
     rw [knM,qC w1] at this
     exact this
    have w2:(!decide ((woF ps es ⟨es,clk,next,ats⟩).2=0))=true:=by rw [qC w1];rfl
    refine RG.ownN [(302,1)] [(1,302)] hM1 rfl rfl rfl rfl rfl rfl rfl rfl rfl rfl ?_
    refine jH ?_
    refine AW.condT (congrArg AV.b w2) ?_
    rw [hN]
    refine jA ?_
    generalize aO ps=R2 at hFr ⊢
    by_cases f1:R2.2=0
    ·have hF1:∀ q,aj Tryz.prog 25 [.agg (cCf c),.i .i64 (V:Nat)] (gl q [] []) (.tup [knR 31 R2.1,.i .i64 0]) (gl q [] [(31,⟨0,some (bH R2.1.es R2.1.clk)⟩)]) := fun q=>by
      have:=hFr q
      rw [knT,knB,qE f1] at this
      exact this
     rw [knT,knB,qE f1]
     refine RG.ownN [] [(31,302)] hF1 rfl rfl rfl rfl rfl rfl rfl rfl rfl rfl ?_
     refine jH ?_
     exact AW.ret (dw ae rfl rfl (Rm.tup2 rfl (Rm.aggL rfl ⟨⟨Rm.refIs rfl rfl rfl rfl,rfl⟩,⟨Rm.is rfl rfl,rfl⟩,⟨Rm.is rfl rfl,rfl⟩,trivial⟩) (Rm.is rfl rfl)) ⟨.ghost rfl rfl rfl,.ghost rfl rfl rfl,.obj rfl rfl,.boxL rfl jQ rfl,.obj rfl rfl,trivial⟩)
    ·have hF1:∀ q,aj Tryz.prog 25 [.agg (cCf c),.i .i64 (V:Nat)] (gl q [] []) (.tup [kn0,.i .i64 R2.2]) (gl q [] []) := fun q=>by
      have:=hFr q
      rw [knT,knB,qC f1] at this
      exact this
     rw [knT,knB,qC f1]
     refine RG.ownN [] [] hF1 rfl rfl rfl rfl rfl rfl rfl rfl rfl rfl ?_
     refine jH ?_
     exact AW.ret (dw ae rfl rfl (Rm.tup2 rfl (Rm.aggL rfl ⟨⟨Rm.is rfl rfl,rfl⟩,⟨Rm.is rfl rfl,rfl⟩,⟨Rm.is rfl rfl,rfl⟩,trivial⟩) (Rm.is rfl rfl)) ⟨.ghost rfl rfl rfl,.ghost rfl rfl rfl,.boxL rfl jQ rfl,.obj rfl rfl,trivial⟩)
  ·obtain⟨g1,g2,g3,g4,g5,g6,g7,g8⟩:=qf ps es ⟨es,clk,next,ats⟩ hk (fun e he=>he) hk.es.keys
   show AW _ _ _ _ _
   refine jA ?_
   refine AW.condT rfl ?_
   refine jA ?_
   refine RG.opS rfl (lT 1 rfl (tk rfl) rfl (tk rfl) rfl rfl rfl rfl (by decide)) rfl ?_
   refine jH ?_
   have hM:=Ge ps (woF ps es ⟨es,clk,next,ats⟩).1 g2 (by rw [g3];show next+_<=_;have:next<=100000000:=hn;omega) (by have:es.length<=500:=he;have:(woF ps es ⟨es,clk,next,ats⟩).1.es.length<=es.length:=g5;omega) hne
   by_cases w1:(wiF ps (woF ps es ⟨es,clk,next,ats⟩).1).2=0
   ·have hM1:∀ q,aj Tryz.prog 70 [knR 1 (woF ps es ⟨es,clk,next,ats⟩).1,.sl (ps.map cCb)] (gl q [1] [(1,⟨0,some (bH (woF ps es ⟨es,clk,next,ats⟩).1.es (woF ps es ⟨es,clk,next,ats⟩).1.clk)⟩)]) (.tup [knR 1 (wiF ps (woF ps es ⟨es,clk,next,ats⟩).1).1,.i .i64 0]) (gl q [1] [(1,⟨0,some (bH (wiF ps (woF ps es ⟨es,clk,next,ats⟩).1).1.es (wiF ps (woF ps es ⟨es,clk,next,ats⟩).1).1.clk)⟩)]) := fun q=>by
     have:=hM q
     rw [knM,qE w1] at this
     exact this
    refine RG.ownN [(302,1)] [(1,302)] hM1 rfl rfl rfl rfl rfl rfl rfl rfl rfl rfl ?_
    refine jH ?_
    refine zF ?_
    exact⟨2,⟨.inr (.inr ⟨rfl,e1,w1⟩),by decide⟩,⟨rO rfl rfl rfl,rO rfl rfl rfl,rO rfl rfl rfl,rI rfl rfl,rO rfl rfl rfl,Rn.refIs rfl rfl rfl,rI rfl rfl,rI (ay (show 1<2 by decide) (by decide)) rfl,trivial⟩,⟨.ghost rfl rfl rfl,.ghost rfl rfl rfl,bS rfl rfl rfl,bS rfl rfl rfl,.boxL rfl jQ rfl,.boxL rfl jQ rfl,.obj rfl rfl,.boxL rfl jQ rfl,.obj rfl rfl,trivial⟩⟩
   ·have hN:eQ ⟨es,clk,next,ats⟩ ps = aO ps := by
     unfold eQ ou
     rw [qE e1,cond_true,qC w1]
     rfl
    have hM1:∀q,aj Tryz.prog 70 [knR 1 (woF ps es ⟨es,clk,next,ats⟩).1,.sl (ps.map cCb)] (gl q [1] [(1,⟨0,some (bH (woF ps es ⟨es,clk,next,ats⟩).1.es (woF ps es ⟨es,clk,next,ats⟩).1.clk)⟩)]) (.tup [kn0,.i .i64 (wiF ps (woF ps es ⟨es,clk,next,ats⟩).1).2]) (gl q [1] [(1,⟨0,some (bH (wiF ps (woF ps es ⟨es,clk,next,ats⟩).1).1.es (wiF ps (woF ps es ⟨es,clk,next,ats⟩).1).1.clk)⟩)]):=fun q=>by
     have:=hM q
     rw [knM,qC w1] at this
     exact this
    have w2:(!decide ((wiF ps (woF ps es ⟨es,clk,next,ats⟩).1).2=0))=true:=by rw [qC w1];rfl
    refine RG.ownN [(302,1)] [(1,302)] hM1 rfl rfl rfl rfl rfl rfl rfl rfl rfl rfl ?_
    refine jH ?_
    refine AW.condT (congrArg AV.b w2) ?_
    rw [hN]
    refine jA ?_
    generalize aO ps=R2 at hFr ⊢
    by_cases f1:R2.2=0
    ·have hF1:∀ q,aj Tryz.prog 25 [.agg (cCf c),.i .i64 (V:Nat)] (gl q [] []) (.tup [knR 31 R2.1,.i .i64 0]) (gl q [] [(31,⟨0,some (bH R2.1.es R2.1.clk)⟩)]) := fun q=>by
      have:=hFr q
      rw [knT,knB,qE f1] at this
      exact this
     rw [knT,knB,qE f1]
     refine RG.ownN [] [(31,302)] hF1 rfl rfl rfl rfl rfl rfl rfl rfl rfl rfl ?_
     refine jH ?_
     exact AW.ret (dw ae rfl rfl (Rm.tup2 rfl (Rm.aggL rfl ⟨⟨Rm.refIs rfl rfl rfl rfl,rfl⟩,⟨Rm.is rfl rfl,rfl⟩,⟨Rm.is rfl rfl,rfl⟩,trivial⟩) (Rm.is rfl rfl)) ⟨.ghost rfl rfl rfl,.ghost rfl rfl rfl,.obj rfl rfl,.boxL rfl jQ rfl,.obj rfl rfl,trivial⟩)
    ·have hF1:∀ q,aj Tryz.prog 25 [.agg (cCf c),.i .i64 (V:Nat)] (gl q [] []) (.tup [kn0,.i .i64 R2.2]) (gl q [] []) := fun q=>by
      have:=hFr q
      rw [knT,knB,qC f1] at this
      exact this
     rw [knT,knB,qC f1]
     refine RG.ownN [] [] hF1 rfl rfl rfl rfl rfl rfl rfl rfl rfl rfl ?_
     refine jH ?_
     exact AW.ret (dw ae rfl rfl (Rm.tup2 rfl (Rm.aggL rfl ⟨⟨Rm.is rfl rfl,rfl⟩,⟨Rm.is rfl rfl,rfl⟩,⟨Rm.is rfl rfl,rfl⟩,trivial⟩) (Rm.is rfl rfl)) ⟨.ghost rfl rfl rfl,.ghost rfl rfl rfl,.boxL rfl jQ rfl,.obj rfl rfl,trivial⟩)
  ·have hN:eQ ⟨es,clk,next,ats⟩ ps = ((wiF ps (woF ps es ⟨es,clk,next,ats⟩).1).1,0) := by
    unfold eQ ou
    rw [qE e1,cond_true,qE e2]
    rfl
   rw [hN]
   show AW _ _ _ _ _
   refine jA ?_
   refine AW.condF rfl ?_
   refine jE ?_;refine jA ?_
   exact AW.ret (dw ae rfl rfl (Rm.tup2 rfl (Rm.aggL rfl ⟨⟨Rm.refIs rfl rfl rfl rfl,rfl⟩,⟨Rm.is rfl rfl,rfl⟩,⟨Rm.is rfl rfl,rfl⟩,trivial⟩) (Rm.is rfl rfl)) ⟨.ghost rfl rfl rfl,.ghost rfl rfl rfl,.obj rfl rfl,.boxL rfl jQ rfl,.obj rfl rfl,trivial⟩)
abbrev Rws:=List (List AV)
section
variable {e1 e2 e3 m:Nat} {U:List (List Rws)} {P:List Rws}
def lo (k:Nat):Bool:=Nat.ble k 1000
end
theorem mB {X:List (List AV)}{n:Nat}(h:X.length=n):AV.sl ((X.drop 0).take n) = .sl X:=by
 rw [uR,<- h,uM]
section
variable {P:Program} {N:Nat} {o:Oper} {s:St}
theorem nB {α:Type}(cF:α->List AV)(l:List α){S:Nat}(hb:l.length*S<=140737488355328){c:Call}{xo yo:Operand}{t e id:Nat}{ti ei:TI}(hS:ei.sz=S)(hS1:Nat.ble 1 S=true)(hcf:∀x,(cF x).length=ei.n)(ho:o.op = .call c)(hc:c.callee = .builtin .append)(ha:c.args = #[xo,yo])(hat:c.argTypes = #[t,t])(ht:aB P t ti)(hk:ti.k = .slice e)(he:aB P e ei)(h0:(ei.n == 0)=false)
  (hx:∃ep,s.ev xo = .row id ep 0 0/\s.σ id=⟨ep,some (.row e ei.n [])⟩) (hy:s.ev yo = .sl (l.map cF)) :
  ax P N o s ⟨.row id ((s.σ id).ep+1) 0 (l.map cF).length,[(id,⟨(s.σ id).ep+1,some (.row e ei.n (l.map cF))⟩)],[]⟩:=by
 have h1:=qW hS1
 have h2:l.length*1<=l.length*S:=Nat.mul_le_mul_left _ h1
 refine nv (els:=[]) (els2:=l.map cF) ho hc ha hat ht hk he h0 (.inl hx) hy (fun cs h=>by
  obtain⟨x,_,rfl⟩:=vI.1 h
  exact hcf x) ?_ ?_ (uT _) rfl
 ·rw [qG,List.length_nil,vN,hS];exact hb
 ·rw [qG,List.length_nil];omega
theorem p5 {els r:List (List AV)}{cs:List AV}{S:Nat}(hr:els++[cs]=r)(hb:(els.length+1)*S<=140737488355328){c:Call}{xo yo:Operand}{t e id id2 ep2:Nat}{cs0:List AV}{ti ei:TI}(hcs:cs0=cs)(hS:ei.sz=S)(hS1:Nat.ble 1 S=true)(ho:o.op = .call c)(hc:c.callee = .builtin .append)(ha:c.args = #[xo,yo])(hat:c.argTypes = #[t,t])(ht:aB P t ti)(hk:ti.k = .slice e)(he:aB P e ei)(h0:(ei.n == 0)=false)
  (hx:∃ep,s.ev xo = .row id ep 0 els.length/\s.σ id=⟨ep,some (.row e ei.n els)⟩) (hy:s.ev yo = .row id2 ep2 0 1) (hid2:s.σ id2=⟨ep2,some (.row e ei.n [cs0])⟩) :
  ax P N o s ⟨.row id ((s.σ id).ep+1) 0 r.length,[(id,⟨(s.σ id).ep+1,some (.row e ei.n r)⟩)],[id2]⟩:=by
 subst hcs
 have h1:=qW hS1
 have h2:(els.length+1)*1<=(els.length+1)*S:=Nat.mul_le_mul_left _ h1
 refine n7 (els:=els) (els2:=[cs0]) ho hc ha hat ht hk he h0 (.inl hx) hy hid2 ?_ ?_ hr rfl
 ·rw [hS];exact hb
 ·simp only [vP];omega
end
structure Cf.Fit (c:Cf):Prop where
 ports:c.topo.ports.length*24<=reachBytes
 pts:∀r∈c.topo.ports,r.length*40<=reachBytes
 peers:c.pol.peers.length*16<=reachBytes
 ways:c.pol.ways.length*24<=reachBytes
 tabs:c.tables.length*24<=reachBytes
 rows:∀t∈c.tables,t.length*24<=reachBytes
 rules:∀t∈c.tables,∀l∈t,l.length*96<=reachBytes
theorem bK:reachBytes=140737488351232:=by decide
theorem nZ {W:World}{F:Nat->Prop}{v:Value}(h:au W F (.sl []) v):∃A c,v = .slice A 0 c:=by
 obtain⟨A,k,e,_⟩:=b9 h
 exact⟨A,k,e⟩
theorem dX {W:World}{F:Nat->Prop}{A:Option Addr}:au W F (.sl []) (.slice A 0 0) :=
 .sl [] A 0 0 0 0 (fun _ _=>undef) (qJ _) (by decide) (fun h=>absurd h (by simp)) (fun k cs h=>by simp at h) (fun k cs j x h=>by simp at h) (fun k cs j x h=>by simp at h) (fun k cs j x h=>by simp at h)
theorem sm:aa Tryz.prog 98 [.sl []] (.sl []):=by
 refine⟨⟨_,_,Tryz.func98,rfl,by kernel_rfl⟩,fun W F vs hvl hv hF hL=>?_⟩
 match vs,hvl,hv with
 |[v],_,hv=>
 obtain⟨A,c,rfl⟩:=nZ (hv 0 _ _ rfl rfl)
 clear hv hF hL
 cases A with
 |none=>
  have heq:∀W,(binOp .eql 53 (.slice none 0 c) (.slice none 0 0)).run Tryz.prog W = .ok (.bool true) W:=fun W=>by kernel_rfl
  go_enter Tryz.func98,Tryz.ntmps98
  go_wp2_with fail
  go_ret
  exact⟨_,rfl,Kp.refl _ _,dX⟩
 |some a=>
  have heq:∀W,(binOp .eql 53 (.slice (some a) 0 c) (.slice none 0 0)).run Tryz.prog W = .ok (.bool false) W:=fun W=>by kernel_rfl
  have happ:∀W b,(Builtin.append_ #[53,53] 53 #[.slice (some b) 0 0,.slice (some a) 0 c]).run Tryz.prog W = .ok (.slice (some b) 0 0) W:=fun W b=>by kernel_rfl
  go_enter Tryz.func98,Tryz.ntmps98
  go_wp2_with fail
  go_ret
  exact⟨_,rfl,(Kp.refl _ _).alloc _,dX⟩
theorem ut (x:Rl)(l:List (Rl))(hl:(x::l).length*96<=reachBytes)(q:Nat->Option (Nat × Nat)):aj Tryz.prog 98 [.sl ((x::l).map cRl)] (gl q [] []) (.row 5 0 0 (x::l).length) (gl q [] [(5,⟨0,some (.row 57 12 ((x::l).map cRl))⟩)]):=by
 refine aj.of_body Tryz.func98 rfl (by kernel_rfl) rfl rfl ?_
 have hlen:((x::l).map cRl).length=(x::l).length:=qG ..
 rw [bK] at hl
 refine jA ?_
 refine zF ?_
 refine RG.opS rfl (dj (id:=5) rfl (tk rfl) rfl (tk rfl)) rfl ?_;refine jH ?_
 refine RG.opS rfl (nB cRl (x::l) (S:=96) (by omega) rfl rfl (fun _=>rfl) rfl rfl rfl rfl (tk rfl) rfl (tk rfl) rfl ⟨_,rfl,rfl⟩ rfl) rfl ?_
 refine jH ?_
 rw [<- hlen]
 exact AW.ret (dW rfl (Rm.rowIs rfl rfl rfl rfl) ⟨.row rfl rfl,trivial⟩)
theorem vz (l:List (Rl))(hl:l.length*96<=reachBytes):aa Tryz.prog 98 [.sl (l.map cRl)] (.sl (l.map cRl)):=by
 match l,hl with
 |[],_=>exact sm
 |x::l,hl=>
 rw [bK] at hl
 refine jb Tryz.func98 ?_
 refine jA ?_
 refine zF ?_
 refine RG.opS rfl (dj (id:=5) rfl (tk rfl) rfl (tk rfl)) rfl ?_;refine jH ?_
 refine RG.opS rfl (nB cRl (x::l) (S:=96) (by omega) rfl rfl (fun _=>rfl) rfl rfl rfl rfl (tk rfl) rfl (tk rfl) rfl ⟨_,rfl,rfl⟩ rfl) rfl ?_
 refine zH ?_
 exact mB rfl
theorem rH:aa Tryz.prog 95 [.sl []] (.sl []):=by
 refine⟨⟨_,_,Tryz.func95,rfl,by kernel_rfl⟩,fun W F vs hvl hv hF hL=>?_⟩
 match vs,hvl,hv with
 |[v],_,hv=>
 obtain⟨A,c,rfl⟩:=nZ (hv 0 _ _ rfl rfl)
 clear hv hF hL
 cases A with
 |none=>
  have heq:∀W,(binOp .eql 112 (.slice none 0 c) (.slice none 0 0)).run Tryz.prog W = .ok (.bool true) W:=fun W=>by kernel_rfl
  go_enter Tryz.func95,Tryz.ntmps95
  go_wp2_with fail
  go_ret
  exact⟨_,rfl,Kp.refl _ _,dX⟩
 |some a=>
  have heq:∀W,(binOp .eql 112 (.slice (some a) 0 c) (.slice none 0 0)).run Tryz.prog W = .ok (.bool false) W:=fun W=>by kernel_rfl
  have happ:∀W b,(Builtin.append_ #[112,112] 112 #[.slice (some b) 0 0,.slice (some a) 0 c]).run Tryz.prog W = .ok (.slice (some b) 0 0) W:=fun W b=>by kernel_rfl
  go_enter Tryz.func95,Tryz.ntmps95
  go_wp2_with fail
  go_ret
  exact⟨_,rfl,(Kp.refl _ _).alloc _,dX⟩
theorem tP (l:List (Pt))(hl:l.length*40<=reachBytes):aa Tryz.prog 95 [.sl (l.map cPt)] (.sl (l.map cPt)):=by
 match l,hl with
 |[],_=>exact rH
 |x::l,hl=>
 rw [bK] at hl
 refine jb Tryz.func95 ?_
 refine jA ?_
 refine zF ?_
 refine RG.opS rfl (dj (id:=5) rfl (tk rfl) rfl (tk rfl)) rfl ?_;refine jH ?_
 refine RG.opS rfl (nB cPt (x::l) (S:=40) (by omega) rfl rfl (fun _=>rfl) rfl rfl rfl rfl (tk rfl) rfl (tk rfl) rfl ⟨_,rfl,rfl⟩ rfl) rfl ?_
 refine zH ?_
 exact mB rfl
theorem s5:aa Tryz.prog 52 [.sl []] (.sl []):=by
 refine⟨⟨_,_,Tryz.func52,rfl,by kernel_rfl⟩,fun W F vs hvl hv hF hL=>?_⟩
 match vs,hvl,hv with
 |[v],_,hv=>
 obtain⟨A,c,rfl⟩:=nZ (hv 0 _ _ rfl rfl)
 clear hv hF hL
 cases A with
 |none=>
  have heq:∀W,(binOp .eql 25 (.slice none 0 c) (.slice none 0 0)).run Tryz.prog W = .ok (.bool true) W:=fun W=>by kernel_rfl
  go_enter Tryz.func52,Tryz.ntmps52
  go_wp2_with fail
  go_ret
  exact⟨_,rfl,Kp.refl _ _,dX⟩
 |some a=>
  have heq:∀W,(binOp .eql 25 (.slice (some a) 0 c) (.slice none 0 0)).run Tryz.prog W = .ok (.bool false) W:=fun W=>by kernel_rfl
  have happ:∀W b,(Builtin.append_ #[25,25] 25 #[.slice (some b) 0 0,.slice (some a) 0 c]).run Tryz.prog W = .ok (.slice (some b) 0 0) W:=fun W b=>by kernel_rfl
  go_enter Tryz.func52,Tryz.ntmps52
  go_wp2_with fail
  go_ret
  exact⟨_,rfl,(Kp.refl _ _).alloc _,dX⟩
theorem nI (l:List (Int × Int))(hl:l.length*16<=reachBytes):aa Tryz.prog 52 [.sl (l.map cPr)] (.sl (l.map cPr)):=by
 match l,hl with
 |[],_=>exact s5
 |x::l,hl=>
 rw [bK] at hl
 refine jb Tryz.func52 ?_
 refine jA ?_
 refine zF ?_
 refine RG.opS rfl (dj (id:=5) rfl (tk rfl) rfl (tk rfl)) rfl ?_;refine jH ?_
 refine RG.opS rfl (nB cPr (x::l) (S:=16) (by omega) rfl rfl (fun _=>rfl) rfl rfl rfl rfl (tk rfl) rfl (tk rfl) rfl ⟨_,rfl,rfl⟩ rfl) rfl ?_
 refine zH ?_
 exact mB rfl
theorem rU:aa Tryz.prog 54 [.sl []] (.sl []):=by
 refine⟨⟨_,_,Tryz.func54,rfl,by kernel_rfl⟩,fun W F vs hvl hv hF hL=>?_⟩
 match vs,hvl,hv with
 |[v],_,hv=>
 obtain⟨A,c,rfl⟩:=nZ (hv 0 _ _ rfl rfl)
 clear hv hF hL
 cases A with
 |none=>
  have heq:∀W,(binOp .eql 26 (.slice none 0 c) (.slice none 0 0)).run Tryz.prog W = .ok (.bool true) W:=fun W=>by kernel_rfl
  go_enter Tryz.func54,Tryz.ntmps54
  go_wp2_with fail
  go_ret
  exact⟨_,rfl,Kp.refl _ _,dX⟩
 |some a=>
  have heq:∀W,(binOp .eql 26 (.slice (some a) 0 c) (.slice none 0 0)).run Tryz.prog W = .ok (.bool false) W:=fun W=>by kernel_rfl
  have happ:∀W b,(Builtin.append_ #[26,26] 26 #[.slice (some b) 0 0,.slice (some a) 0 c]).run Tryz.prog W = .ok (.slice (some b) 0 0) W:=fun W b=>by kernel_rfl
  go_enter Tryz.func54,Tryz.ntmps54
  go_wp2_with fail
  go_ret
  exact⟨_,rfl,(Kp.refl _ _).alloc _,dX⟩
theorem nU (l:List (Wy))(hl:l.length*24<=reachBytes):aa Tryz.prog 54 [.sl (l.map cWy)] (.sl (l.map cWy)):=by
 match l,hl with
 |[],_=>exact rU
 |x::l,hl=>
 rw [bK] at hl
 refine jb Tryz.func54 ?_
 refine jA ?_
 refine zF ?_
 refine RG.opS rfl (dj (id:=5) rfl (tk rfl) rfl (tk rfl)) rfl ?_;refine jH ?_
 refine RG.opS rfl (nB cWy (x::l) (S:=24) (by omega) rfl rfl (fun _=>rfl) rfl rfl rfl rfl (tk rfl) rfl (tk rfl) rfl ⟨_,rfl,rfl⟩ rfl) rfl ?_
 refine zH ?_
 exact mB rfl
theorem yy (l:List (Rl)):aa Tryz.prog 97 [.sl (l.map cRl)] (.sl (l.map cRl)):=by
 refine jb Tryz.func97 ?_
 refine jA ?_
 refine RG.opS rfl (eN rfl (tk rfl) rfl (tk rfl) rfl rfl rfl) rfl ?_
 refine zH ?_
 rfl
theorem xS (l:List (Pt)):aa Tryz.prog 94 [.sl (l.map cPt)] (.sl (l.map cPt)):=by
 refine jb Tryz.func94 ?_
 refine jA ?_
 refine RG.opS rfl (eN rfl (tk rfl) rfl (tk rfl) rfl rfl rfl) rfl ?_
 refine zH ?_
 rfl
theorem oP (l:List (Int × Int)):aa Tryz.prog 51 [.sl (l.map cPr)] (.sl (l.map cPr)):=by
 refine jb Tryz.func51 ?_
 refine jA ?_
 refine RG.opS rfl (eN rfl (tk rfl) rfl (tk rfl) rfl rfl rfl) rfl ?_
 refine zH ?_
 rfl
theorem pq (l:List (Wy)):aa Tryz.prog 53 [.sl (l.map cWy)] (.sl (l.map cWy)):=by
 refine jb Tryz.func53 ?_
 refine jA ?_
 refine RG.opS rfl (eN rfl (tk rfl) rfl (tk rfl) rfl rfl rfl) rfl ?_
 refine zH ?_
 rfl
theorem tX (l:List (List Pt)):aa Tryz.prog 96 [.sl (l.map aP)] (.sl (l.map aP)):=by
 refine jb Tryz.func96 ?_
 refine jA ?_
 refine RG.opS rfl (eN rfl (tk rfl) rfl (tk rfl) rfl rfl rfl) rfl ?_
 refine zH ?_
 rfl
theorem vn (l:List (List Rl)):aa Tryz.prog 99 [.sl (l.map bp)] (.sl (l.map bp)):=by
 refine jb Tryz.func99 ?_
 refine jA ?_
 refine RG.opS rfl (eN rfl (tk rfl) rfl (tk rfl) rfl rfl rfl) rfl ?_
 refine zH ?_
 rfl
theorem tS (l:List (List (List Rl))):aa Tryz.prog 56 [.sl (l.map bY)] (.sl (l.map bY)):=by
 refine jb Tryz.func56 ?_
 refine jA ?_
 refine RG.opS rfl (eN rfl (tk rfl) rfl (tk rfl) rfl rfl rfl) rfl ?_
 refine zH ?_
 rfl
theorem ye (t:List (List Rl))(ht:t.length*24<=reachBytes)(hr:∀l∈t,l.length*96<=reachBytes):aa Tryz.prog 55 [.sl (t.map bp)] (.sl (t.map bp)):=by
 rw [bK] at ht
 refine jb Tryz.func55 ?_
 refine jA ?_
 refine AW.nilRow 40 0 53 1 [(3,.row 40 0 0 0),(6,.sl (t.map bp)),(7,.i .i64 (t.map bp).length),(8,.i .i64 (0:Nat))] [(40,⟨0,some (.row 53 1 [])⟩)] ⟨.nil rfl,.is rfl rfl,.is rfl rfl,.is rfl rfl,trivial⟩ ⟨.old (bR rfl rfl),trivial⟩ ?_
 refine AW.loopL (ι:=Nat) (fun i=>[(3,.row 40 0 0 ((t.take i).map bp).length),(6,.sl (t.map bp)),(7,.i .i64 (t.map bp).length),(8,.i .i64 (i:Nat))]) (fun i=>[(40,⟨0,some (.row 53 1 ((t.take i).map bp))⟩)]) (fun i=>i<=t.length) (fun i=>t.length-i) 0 (qR _) jW jW fun i hi=>?_
 refine jA ?_
 refine AW.cond rfl (fun h1=>?_) (fun h1=>?_)
 ·have k:i<t.length:=by simpa using h1
  have hrk:=hr t[i] (vR k)
  have htk:(t.take i).map bp++[bp t[i]]=(t.take (i+1)).map bp:=by
   rw [List.take_add_one,qA k,uB];rfl
  have hln:((t.take i).map bp).length=i:=by rw [qG,vG];omega
  generalize hX:(t.take i).map bp=X at htk hln
  refine jA ?_
  refine RG.opS rfl (aq rfl (tk rfl) rfl (tk rfl) rfl rfl (show (t.map bp)[i]?=some (bp t[i]) by rw [qF,qA (by assumption)];rfl) rfl) rfl ?_
  refine jH ?_
  refine jm (vz t[i] hrk) ?_
  refine wH rfl ?_
  refine jm (yy t[i]) ?_
  refine wH rfl ?_
  refine RG.opS rfl (p5 (S:=24) htk (by rw [hln];omega) rfl rfl rfl rfl rfl rfl rfl (tk rfl) rfl (tk rfl) rfl ⟨_,rfl,rfl⟩ rfl rfl) rfl ?_
  refine jH ?_
  subst hX
  exact⟨i+1,⟨k,by omega⟩,⟨rR rfl rfl rfl,rI rfl rfl,rI rfl rfl,rI (ay k (by omega)) rfl,trivial⟩,⟨bR rfl rfl,trivial⟩⟩
 ·have k:¬i<t.length:=by simpa using h1
  obtain rfl:i=t.length:=by omega
  rw [uM]
  refine jE ?_;refine jA ?_
  refine RG.callMS rfl rfl rfl rfl (congrArg (fun x=>[x]) (bw rfl)) rfl (vn t) rfl ?_;refine jH ?_
  exact zS
theorem oT (t:List (List Pt))(ht:t.length*24<=reachBytes)(hr:∀l∈t,l.length*40<=reachBytes):aa Tryz.prog 50 [.sl (t.map aP)] (.sl (t.map aP)):=by
 rw [bK] at ht
 refine jb Tryz.func50 ?_
 refine jA ?_
 refine AW.nilRow 40 0 112 1 [(3,.row 40 0 0 0),(6,.sl (t.map aP)),(7,.i .i64 (t.map aP).length),(8,.i .i64 (0:Nat))] [(40,⟨0,some (.row 112 1 [])⟩)] ⟨.nil rfl,.is rfl rfl,.is rfl rfl,.is rfl rfl,trivial⟩ ⟨.old (bR rfl rfl),trivial⟩ ?_
 refine AW.loopL (ι:=Nat) (fun i=>[(3,.row 40 0 0 ((t.take i).map aP).length),(6,.sl (t.map aP)),(7,.i .i64 (t.map aP).length),(8,.i .i64 (i:Nat))]) (fun i=>[(40,⟨0,some (.row 112 1 ((t.take i).map aP))⟩)]) (fun i=>i<=t.length) (fun i=>t.length-i) 0 (qR _) jW jW fun i hi=>?_
 refine jA ?_
 refine AW.cond rfl (fun h1=>?_) (fun h1=>?_)
 ·have k:i<t.length:=by simpa using h1
  have hrk:=hr t[i] (vR k)
  have htk:(t.take i).map aP++[aP t[i]]=(t.take (i+1)).map aP:=by
   rw [List.take_add_one,qA k,uB];rfl
  have hln:((t.take i).map aP).length=i:=by rw [qG,vG];omega
  generalize hX:(t.take i).map aP=X at htk hln
  refine jA ?_
  refine RG.opS rfl (aq rfl (tk rfl) rfl (tk rfl) rfl rfl (show (t.map aP)[i]?=some (aP t[i]) by rw [qF,qA (by assumption)];rfl) rfl) rfl ?_
  refine jH ?_
  refine jm (tP t[i] hrk) ?_
  refine wH rfl ?_
  refine jm (xS t[i]) ?_
  refine wH rfl ?_
  refine RG.opS rfl (p5 (S:=24) htk (by rw [hln];omega) rfl rfl rfl rfl rfl rfl rfl (tk rfl) rfl (tk rfl) rfl ⟨_,rfl,rfl⟩ rfl rfl) rfl ?_
  refine jH ?_
  subst hX
  exact⟨i+1,⟨k,by omega⟩,⟨rR rfl rfl rfl,rI rfl rfl,rI rfl rfl,rI (ay k (by omega)) rfl,trivial⟩,⟨bR rfl rfl,trivial⟩⟩
 ·have k:¬i<t.length:=by simpa using h1
  obtain rfl:i=t.length:=by omega
  rw [uM]
  refine jE ?_;refine jA ?_
  refine RG.callMS rfl rfl rfl rfl (congrArg (fun x=>[x]) (bw rfl)) rfl (tX t) rfl ?_;refine jH ?_
  exact zS
def zCr:List AV:=[.raw (.slice none 0 0),.i .i64 0,.raw (.slice none 0 0),.raw (.slice none 0 0),.raw (.slice none 0 0)]
theorem nr (c:Cf)(hf:c.Fit):aa Tryz.prog 26 [.agg (cCf c)] (.agg (cCf c)):=by
 refine jb Tryz.func26 ?_
 have hp:=oT c.topo.ports hf.ports hf.pts
 have hT:=hf.tabs
 rw [bK] at hT
 refine jA ?_
 refine jm hp ?_;refine jH ?_
 refine jm (nI c.pol.peers hf.peers) ?_
 refine wH rfl ?_
 refine jm (oP c.pol.peers) ?_
 refine wH rfl ?_
 refine jm (nU c.pol.ways hf.ways) ?_
 refine wH rfl ?_
 refine jm (pq c.pol.ways) ?_;refine jH ?_
 refine AW.nilRow 40 0 52 1 [(1,.own 1 0 0),(2,.own 2 0 0),(3,.row 40 0 0 0),(27,.sl (c.tables.map bY)),(28,.i .i64 (c.tables.map bY).length),(29,.i .i64 (0:Nat))] [(1,⟨0,some (.box 31 (cCf c))⟩),(2,⟨0,some (.box 31 zCr)⟩),(40,⟨0,some (.row 52 1 [])⟩)] ⟨.rn (rO rfl rfl rfl),.rn (rO rfl rfl rfl),.nil rfl,.is rfl rfl,.is rfl rfl,.is rfl rfl,trivial⟩ ⟨.old (bS rfl rfl rfl),.boxL rfl ⟨.is rfl rfl,.is rfl rfl,.is rfl rfl,.is rfl rfl,.is rfl rfl,trivial⟩ rfl,.old (bR rfl rfl),trivial⟩ ?_
 refine AW.loopL (ι:=Nat) (fun i=>[(1,.own 1 0 0),(2,.own 2 0 0),(3,.row 40 0 0 ((c.tables.take i).map bY).length),(27,.sl (c.tables.map bY)),(28,.i .i64 (c.tables.map bY).length),(29,.i .i64 (i:Nat))]) (fun i=>[(1,⟨0,some (.box 31 (cCf c))⟩),(2,⟨0,some (.box 31 zCr)⟩),(40,⟨0,some (.row 52 1 ((c.tables.take i).map bY))⟩)]) (fun i=>i<=c.tables.length) (fun i=>c.tables.length-i) 0 (qR _) jW ⟨bS rfl rfl rfl,.boxL rfl jQ rfl,bR rfl rfl,trivial⟩ fun i hi=>?_
 refine jA ?_
 refine AW.cond rfl (fun h1=>?_) (fun h1=>?_)
 ·have k:i<c.tables.length:=by simpa using h1
  have hd:=ye c.tables[i] (hf.rows _ (vR k)) (hf.rules _ (vR k))
  have htk:(c.tables.take i).map bY++[bY c.tables[i]]=(c.tables.take (i+1)).map bY:=by
   rw [List.take_add_one,qA k,uB];rfl
  have hln:((c.tables.take i).map bY).length=i:=by rw [qG,vG];omega
  generalize hX:(c.tables.take i).map bY=X at htk hln
  refine jA ?_
  refine RG.opS rfl (aq rfl (tk rfl) rfl (tk rfl) rfl rfl (show (c.tables.map bY)[i]?=some (bY c.tables[i]) by rw [qF,qA (by assumption)];rfl) rfl) rfl ?_
  refine jH ?_
  refine jm hd ?_
  refine wH rfl ?_
  refine RG.opS rfl (p5 (S:=24) htk (by rw [hln];omega) rfl rfl rfl rfl rfl rfl rfl (tk rfl) rfl (tk rfl) rfl ⟨_,rfl,rfl⟩ rfl rfl) rfl ?_
  refine jH ?_
  subst hX
  exact⟨i+1,⟨k,by omega⟩,⟨rO rfl rfl rfl,rO rfl rfl rfl,rR rfl rfl rfl,rI rfl rfl,rI rfl rfl,rI (ay k (by omega)) rfl,trivial⟩,⟨bS rfl rfl rfl,bS rfl rfl rfl,bR rfl rfl,trivial⟩⟩
 ·have k:¬i<c.tables.length:=by simpa using h1
  obtain rfl:i=c.tables.length:=by omega
  rw [uM]
  refine jE ?_;refine jA ?_
  refine RG.callMS rfl rfl rfl rfl (congrArg (fun x=>[x]) (bw rfl)) rfl (tS c.tables) rfl ?_;refine jH ?_
  exact zS
theorem qo (c:Cf):cG c=bu c:=by
 have:(fun t:List (List Rl)=>t.flatMap id)=List.flatten:=by
  funext t
  rw [List.flatMap_def,List.map_id]
 rw [cG,bu,this,List.flatMap_def,List.flatten_flatten]
theorem pK {c:Cf}(h0:c.sound=0):∀r∈cG c,r.mat.sound=true:=by
 rw [qo]
 intro r hr
 obtain⟨l,hl,hr⟩:=uP.1 hr
 obtain⟨t,ht,hl⟩:=uP.1 hl
 obtain⟨n,hn⟩:=List.mem_iff_getElem?.1 ht
 obtain⟨i,hi⟩:=List.mem_iff_getElem?.1 hl
 exact (Rl.sound_does ((cY ((Cf.ok h0).tabs n t hn)).2.2.2 i l hi r hr).1).1
theorem xA {c:Cf}(h0:c.sound=0)(hL:c.Lens):(cG c).length<=576:=by
 rw [qo]
 exact iT (Cf.ok h0) (Cf.small h0 hL)
theorem iG {c:Cf}{V:Int}(h:(dJ c V).kind=1):dD c V=0/\(∃v:Nat,V=v/\v<=255)/\c.sound=0/\(aL c V).length<=500/\(bn (ph (aL c V))).2=0:=by
 unfold dJ mC at h
 by_cases h1:dD c V=0
 ·rw [qE h1,cond_true] at h
  by_cases h2:(aL c V).length>500
  ·rw [qE h2,cond_true] at h
   cases h
  ·rw [qC h2,cond_false] at h
   by_cases h3:(bn (ph (aL c V))).2=0
   ·obtain⟨_,n,e,hv⟩:=zN h1
    exact⟨h1,⟨n,e,hv⟩,dH h1,by omega,h3⟩
   ·rw [qC h3,cond_false] at h
    cases h
 ·rw [qC h1,cond_false] at h
  cases h
theorem tv (c:Cf)(h0:c.sound=0)(hL:c.Lens):aa Tryz.prog 27 [.agg (cCf c)] (.ro (dL (bP (cG c)))) :=
 Dg c (pK h0) (by have:=xA h0 hL;omega)
noncomputable def Ec (c:Cf)(V:Nat):List (Nat × SB):=[(30,⟨0,some (.box 96 (lvC 31 c V (aO (bC c V)).1))⟩),(31,⟨0,some (bH (aO (bC c V)).1.es (aO (bC c V)).1.clk)⟩)]
theorem Dt (c:Cf)(V:Int)(hL:c.Lens)(h:(dJ c V).kind≠1):aa Tryz.prog 8 [.agg (cCf c),.i .i64 V] (.tup [.raw (.pointer none),.agg (cVd (dJ c V))]):=by
 refine jb Tryz.func8 ?_
 have hJ:=rY c V hL
 generalize dJ c V=v at hJ h
 refine jA ?_
 refine jm hJ ?_;refine jH ?_
 refine AW.cond rfl (fun h2=>?_) (fun h2=>?_)
 ·refine jA ?_
  exact zS
 ·exact absurd (by simpa using h2) h
theorem ET (c:Cf)(V:Nat)(hL:c.Lens)(hf:c.Fit)(h:(dJ c (V:Nat)).kind=1)(q:Nat->Option (Nat × Nat)):aj Tryz.prog 8 [.agg (cCf c),.i .i64 (V:Nat)] (gl q [] []) (.tup [.own 30 0 0,.agg (cVd (dJ c (V:Nat)))]) (gl q [] (Ec c V)):=by
 refine aj.of_body Tryz.func8 rfl (by kernel_rfl) rfl rfl ?_
 have hJ:=rY c (V:Nat) hL
 obtain⟨_,⟨v,e,hv⟩,h0,h5,ha⟩:=iG h
 obtain rfl:V=v:=by omega
 have e0:fS c V=aO (bC c V):=by rw [fS,qC (by omega)];rfl
 have ef:(aO (bC c V)).2=0:=ha
 have hF:∀q,aj Tryz.prog 25 [.agg (cCf c),.i .i64 (V:Nat)] (gl q [] []) (.tup [knR 31 (aO (bC c V)).1,.i .i64 0]) (gl q [] [(31,⟨0,some (bH (aO (bC c V)).1.es (aO (bC c V)).1.clk)⟩)]):=fun q=>by
  have:=sj c h0 hL V hv q
  rw [e0,knT,knB,qE ef] at this
  exact this
 have hI:=tv c h0 hL
 rw [Ec]
 unfold lvC
 generalize aO (bC c V)=R at hF ⊢
 generalize dJ c (V:Nat)=v at hJ h
 generalize dL (bP (cG c))=rt at hI ⊢
 have h1:(!decide (v.kind=1))=false:=by rw [h];rfl
 refine jA ?_
 refine jm hJ ?_;refine jH ?_
 refine AW.condF (congrArg AV.b h1) ?_
 refine jA ?_
 refine RG.ownN [] [(31,31)] hF rfl rfl rfl rfl rfl rfl rfl rfl rfl rfl ?_
 refine jH ?_
 refine jm (nr c hf) ?_;refine jH ?_
 refine jm hI ?_
 refine jH ?_
 exact AW.ret (dw ae rfl rfl (Rm.tup2 rfl (Rm.ownIs rfl rfl rfl rfl) (Rm.aggL rfl ⟨⟨Rm.is rfl rfl,rfl⟩,⟨Rm.is rfl rfl,rfl⟩,⟨Rm.is rfl rfl,rfl⟩,⟨Rm.is rfl rfl,rfl⟩,⟨Rm.is rfl rfl,rfl⟩,⟨Rm.is rfl rfl,rfl⟩,⟨Rm.is rfl rfl,rfl⟩,⟨Rm.is rfl rfl,rfl⟩,⟨Rm.is rfl rfl,rfl⟩,⟨Rm.is rfl rfl,rfl⟩,⟨Rm.is rfl rfl,rfl⟩,trivial⟩)) ⟨.boxL rfl jQ rfl,.obj rfl rfl,trivial⟩)
def mh (x:Cb)(l:List (Nat × Cb)):List Int:=bif x.sound then ovL x l else []
theorem ud (x:Cb)(l:List (Nat × Cb))(hl:l.length<=100000000):aa Tryz.prog 30 [.ro (dL l),.agg (cCb x)] (.sl ((mh x l).map cI)):=by
 unfold mh
 cases hx:x.sound
 ·exact ua x l hx
 ·exact xX x l hl hx
theorem Fq (c:Cf)(V:Nat)(k:Kn)(x:Cb)(hl:(bP (cG c)).length<=100000000)(q:Nat->Option (Nat × Nat)):aj Tryz.prog 13 [.own 300 0 0,.agg (cCb x)] (gl q [300,301] (lvB c V k)) (.sl ((mh x (bP (cG c))).map cI)) (gl q [300,301] (lvB c V k)):=by
 refine aj.of_body Tryz.func13 rfl (by kernel_rfl) rfl rfl ?_
 have hO:=ud x (bP (cG c)) hl
 rw [lvB,lvC]
 generalize dL (bP (cG c))=rt at hO ⊢
 generalize mh x (bP (cG c))=r at hO ⊢
 refine jA ?_
 refine AW.condF rfl ?_
 refine zD ?_
 refine RG.runG ae 0 3 rfl ?_
 refine RG.opS rfl (gI rfl (tk rfl) (.own rfl) rfl) rfl ?_
 refine RG.runG ae 0 1 rfl ?_
 refine jm hO ?_
 refine jH ?_
 exact AW.ret (dW rfl (Rm.is rfl rfl) ⟨.ghost rfl rfl rfl,.ghost rfl rfl rfl,.boxL rfl jQ rfl,.obj rfl rfl,trivial⟩)
theorem tf (c:Cf)(V:Nat)(k:Kn)(hf:c.Fit)(q:Nat->Option (Nat × Nat)):aj Tryz.prog 16 [.own 300 0 0] (gl q [300,301] (lvB c V k)) (.agg (cCf c)) (gl q [300,301] (lvB c V k)):=by
 refine aj.of_body Tryz.func16 rfl (by kernel_rfl) rfl rfl ?_
 have hC:=nr c hf
 rw [lvB,lvC]
 generalize dL (bP (cG c))=rt
 refine jA ?_
 refine AW.condF rfl ?_
 refine jA ?_
 refine jm hC ?_;refine jH ?_
 exact AW.ret (dw ae rfl rfl (Rm.aggL rfl ⟨⟨Rm.is rfl rfl,rfl⟩,⟨Rm.is rfl rfl,rfl⟩,⟨Rm.is rfl rfl,rfl⟩,⟨Rm.is rfl rfl,rfl⟩,⟨Rm.is rfl rfl,rfl⟩,trivial⟩) ⟨.ghost rfl rfl rfl,.ghost rfl rfl rfl,.boxL rfl jQ rfl,.obj rfl rfl,trivial⟩)
end Go.Proofs.YtdidjpohnopihaaGreat.Sm
end
