/- Contracts of the program's functions over data, and the plain laws that they meet (part 5). No condition. -/
import Derived.Test.YtdidjpohnopihaaGreatVpd
import Derived.WalkKit
import Derived.WalkSpells
import Derived.WalkLawsBesides
import Derived.Lib.Hide
import Derived.Deep.RegionHeld3
import Derived.Maps.AppendAt
import Derived.KernelRfl
import Derived.Lib.AppendStr
import Derived.Orders
import Derived.LoopTactic
import Derived.Laws.CopyRow
import Derived.Laws.Cells
import Derived.OrdersIn
import Derived.Laws.Externs
import Derived.TacticsIn
import Derived.RangeFuncLeaves
import Derived.RangeFuncRecord
import Derived.Great.BuildSlice
import Derived.Laws.ResultCell
import Derived.Laws.StructEq
import Derived.Laws.MakeOwn
import Derived.Lib.AppendZerosOnto
import Derived.RangeFuncSeq
import Derived.RangeFuncIn
import Derived.Deep.Slices
import Derived.Deep.Fields
import Derived.ChangeSame
import Derived.ProofKit
import Derived.OpenShut
import Derived.SizedLaws
import Derived.Test.YtdidjpohnopihaaGreatProg
import Derived.Shelf.Spec.BitsCarry
import Derived.Laws.AppendOwn
import Derived.DeepKeys4
import Derived.MapKept
import Derived.Maps.Own
import Derived.Maps.OwnOps
import Derived.StillTailTactics
import Derived.Laws.OwnMore
import Derived.Sort.AssemblyPlain
import Derived.Sort.LotD4
import Derived.Sort.Walk13a
set_option linter.unusedVariables false
set_option linter.unusedSimpArgs false
set_option maxRecDepth 100000
set_option maxHeartbeats 4000000
section
namespace Go.Proofs.YtdidjpohnopihaaGreat.Sm
open Go.RowKit
theorem dV {P:Program} {w:World} {ops:Array Oper} {rest:List Oper} {o:Oper} {a:Act} {Q:Exit->Act->World->Prop} (hgd:o.guard=none) (s x:Operand) (t:TypeId)
  (ho:o.op = .call { callee:=.builtin .append,args:=#[s,x],argTypes:=#[t,t] })
  (base:Nat) (e:TypeId) (i:TypeInfo) (z:Value) (size bytes:Nat) (ht:P.underlying t=some (.slice e)) (hi:P.info? e=some i) (hz:i.zero=some z)
  (hsize:i.size=size) (hby:i.bytes=bytes) (hzs:z.cells.size=size) (hsz:0<size)
  (v:Value) (n:Nat) (xs:List Value) (hs:a.eval s=v) (hown:w.ownsRow base e size v n xs)
  (ad:Addr) (m c:Nat) (news:List Value) (hx:a.eval x = .slice (some ad) m c) (hl:news.length=m*size) (hnews:∀j u,news[j]?=some u->w.cell? (ad.add j)=some u) (h1:∀u∈news,u.oneCell'=true)
  (h63:n+m<=maxLen) (hbytes:(n+m)*bytes<=140737488355328) (hbase:base<=w.heap.size)
  (h:∀v' w',w'.ownsRow base e size v' (n+m) (xs++news)->w.grownBy w' v.ownBlock->(v'.ownBlock=v.ownBlock\/v'.ownBlock=some w.heap.size)->wpList P ops Q rest (a.put o.dst v') w'):wpList P ops Q (o::rest) a w :=
 wpList_plain hgd fun K hK=>by
  obtain ⟨v',w',hr,h2,h3,_,h5⟩:=run_append_own_at (P:=P) (w:=w) base t o.type e i z size bytes ht hi hz hsize hby hzs hsz v n xs hown ad m c news hl hnews h1 h63 hbytes hbase
  unfold Oper.wp execOp
  simp only [ho,resolve,invoke,builtin,Sem.run_bind,Sem.run_pure,Result.andThen_ok,List.map_toArray,vE,List.map_nil,hs,hx,hr]
  exact hK _ _ (h v' w' h2 h3 h5)
def n8 (l:List (Nat × Cb)):Array MapEntry:=(l.zipIdx.map fun p=>⟨.int .i64 ((p.1.1:Nat):Int),cbV p.1.2,p.2⟩).toArray
theorem xQ (l:List (Nat × Cb)) (c:Nat × Cb):(n8 l).push ⟨.int .i64 ((c.1:Nat):Int),cbV c.2,l.length⟩=n8 (l++[c]):=by
 simp [n8,List.zipIdx_append]
theorem nN (n:Nat):∀(l:List (Nat × Cb)) (i j:Nat),(∀e∈l,e.1≠n)->Instr.findNow (.int .i64) (.int .i64 (n:Int)) ((l.zipIdx i).map fun p=>(⟨.int .i64 ((p.1.1:Nat):Int),cbV p.1.2,p.2⟩:MapEntry)) j=some none
 | [],i,j,_=>rfl
 | x::l,i,j,h=>by
  have hx:=h x (by simp)
  have e':((n:Int) == (x.1:Int))=false:=by
   simp only [beq_eq_false_iff_ne,ne_eq,Int.natCast_inj]
   exact fun e=>hx e.symm
  simp [Instr.findNow,Instr.sameNow,e',nN n l (i+1) (j+1) fun y hy=>h y (by simp [hy])]
theorem Gk:Tryz.prog.underlying 3=some (.int .i64):=by kernel_rfl
theorem wO (W:World) (n:Nat) (l:List (Nat × Cb)) (h:∀e∈l,e.1≠n):(Instr.findKey 3 (.int .i64 (n:Int)) (n8 l).toList).run Tryz.prog W = .ok none W:=by
 simp only [Instr.findKey,Sem.run_bind,run_underlying Gk,Result.andThen_ok,n8,nN n l 0 0 h,Sem.run_pure]
theorem sB (W:World) (em:Bool) (n:Int):(Instr.checkKey em 10000 3 (.int .i64 n)).run Tryz.prog W = .ok () W:=by
 show (Instr.checkKey em (9999+1) 3 (.int .i64 n)).run Tryz.prog W = .ok () W
 rw [Instr.checkKey]
 simp only [Sem.run_bind,run_underlying Gk,Result.andThen_ok]
 rfl
theorem icU:Tryz.prog.underlying 140=some (.map 3 36):=by kernel_rfl
theorem Di (W:World):(zeroValue 36).run Tryz.prog W = .ok (cbV Cb.zero) W:=by kernel_rfl
theorem mz {w:World} {ops:Array Oper} {rest:List Oper} {o:Oper} {a:Act} {Q:Exit->Act->World->Prop} (hgd:o.guard=none) (x k:Operand) (ho:o.op = .lookup 140 x k true)
  (mb n:Nat) (l:List (Nat × Cb)) (c:Nat) (hx:a.eval x = .map (some mb)) (hk:a.eval k = .int .i64 (n:Int)) (hh:w.heap[mb]?=some (.map (n8 l) c)) (hf:∀e∈l,e.1≠n)
  (h:wpList Tryz.prog ops Q rest (a.put o.dst (.tuple #[.agg #[.int .u64 0,.int .u64 0,.int .u64 0,.int .u64 0],.bool false])) w):wpList Tryz.prog ops Q (o::rest) a w :=
 wpList_plain hgd fun K hK=>by
  unfold Oper.wp
  have e:(execOp a.eval o).run Tryz.prog w = .ok (.value (.tuple #[.agg #[.int .u64 0,.int .u64 0,.int .u64 0,.int .u64 0],.bool false])) w:=by
   simp only [execOp,ho,Instr.lookup,Sem.run_bind,run_underlying icU,Result.andThen_ok,hx,hk,MapKept.run_getObj_map hh,Sem.run_pure,sB,wO w n l hf,Di]
   rfl
  rw [e]
  exact hK _ _ h
theorem nS {w:World} {ops:Array Oper} {rest:List Oper} {o:Oper} {a:Act} {Q:Exit->Act->World->Prop} (hgd:o.guard=none) (x k v:Operand) (ho:o.op = .mapUpdate 140 x k v)
  (mb n:Nat) (l:List (Nat × Cb)) (c:Cb) (hx:a.eval x = .map (some mb)) (hk:a.eval k = .int .i64 (n:Int)) (hv:a.eval v=cbV c) (hh:w.heap[mb]?=some (.map (n8 l) l.length)) (hf:∀e∈l,e.1≠n)
  (h:∀w',w'.heap[mb]?=some (.map (n8 (l++[(n,c)])) (l++[(n,c)]).length)->Kp (fun b=>b=mb) w w'->wpList Tryz.prog ops Q rest (a.put o.dst undef) w'):wpList Tryz.prog ops Q (o::rest) a w :=
 wpList_plain hgd fun K hK=>by
  unfold Oper.wp
  have hpush:=xQ l (n,c)
  simp only at hpush
  have e:(execOp a.eval o).run Tryz.prog w = .ok .skip { w with heap:=w.heap.setIfInBounds mb (.map (n8 (l++[(n,c)])) (l++[(n,c)]).length) }:=by
   simp only [execOp,ho,Instr.mapUpdate,Sem.run_bind,run_underlying icU,Result.andThen_ok,hx,hk,hv,MapKept.run_getObj_map hh,Sem.run_pure,sB,wO w n l hf,MapKept.run_setObj_map _ hh,hpush]
   rw [qK,uB]
  rw [e]
  have hlt:=(qI.1 hh).1
  refine hK _ _ (h _ ?_ ⟨rfl,rfl,rfl,by simp,fun k hk hn=>?_⟩)
  ·simp only [Array.getElem?_setIfInBounds,if_true,if_pos hlt]
  ·simp only [Array.getElem?_setIfInBounds,if_neg fun e=>hn (Eq.symm e)]
theorem gn {P:Program} {id:Nat} {Q:Exit->Act->World->Prop} {a:Act} {w:World} {l:List Oper} (n:Nat) (hm:P.follows .mixedOrders=true) (hB:Region.lexTailB .any l.toArray n=true)
  (h:∀w',Kp No w w'->wpStill P l.toArray w' (fun a'=>wpList P l.toArray Q (l.drop n) a' w') (l.take n) a):(Code.region id l.toArray true).wp P Q a w :=
 wp_region_still_tail n hm hB (h _ ⟨rfl,rfl,rfl,qJ _,fun _ _ _=>rfl⟩)
theorem TrW.keepM {w w':World} {B mb k:Nat} {T:TS} {ex:Value} {es:Array MapEntry} (h:TrW w B T ex) (hm:w.heap[mb]?=some (.map es k)) (hk:Kp (fun b=>b=mb) w w'):TrW w' B T ex where
 node p b hp:=⟨(h.node p b hp).1,(hk.block b (h.lt hp) (fun e=>by
  have h1:=(h.node p b hp).2
  rw [e,hm] at h1
  cases h1)).trans (h.node p b hp).2⟩
 own p b hp:=by
  refine gb (h.own p b hp) fun g hg=>hk.block g ((h.own p b hp).lt g hg).2 fun e=>?_
  rcases (h.own p b hp).2 with ⟨hv,_⟩ | ⟨g',cap,cur,hv,_,hg',_⟩
  ·rw [hv] at hg
   cases hg
  ·rw [hv] at hg
   obtain rfl:g'=g:=qB hg
   rw [e,hm] at hg'
   cases hg'
 inj:=h.inj
 rows:=h.rows
 up:=h.up
theorem EG:∃i0,Tryz.prog.info? 3=some i0/\i0.zero=some (.int .i64 0)/\i0.size=1/\i0.bytes=8:=info_parts (show (Tryz.prog.info? 3).map (fun i=>(i.zero,i.size,i.bytes))=some (some (.int .i64 0),1,8) by kernel_rfl)
theorem FL:Tryz.prog.underlying 51=some (.slice 3):=by kernel_rfl
structure TrL (w:World) (B r mb:Nat) (l:List (Nat × Cb)) (T:TS):Prop where
 tr:TrW w B T (.map (some mb))
 root:T.nd []=some r
 map:w.heap[mb]?=some (.map (n8 l) l.length)
 mlo:mb<B
 nd:∀p,(T.nd p).isSome=true↔mF l p
 ids:∀p,T.ids p=i8 l p
theorem TrL.no {w:World} {B r mb:Nat} {l:List (Nat × Cb)} {T:TS} (h:TrL w B r mb l T) (p:List Nat) (hn:T.nd p=none):T.ids p=[]:=by
 rw [h.ids,i8,List.map_eq_nil_iff,List.filter_eq_nil_iff]
 intro e he hp
 have:=(h.nd p).2 (.inr ⟨e,he,aY e.2,qJ _,il e.2,of_decide_eq_true hp⟩)
 rw [hn] at this
 cases this
set_option maxHeartbeats 4000000 in
theorem Ft (w : World) (B r mb : Nat) (l : List (Nat × Cb)) (T0 : TS) (d : Nat) (c : Cb) (h : TrL w B r mb l T0) (hc : c.sound = true) (hid : ∀ e ∈ l, e.1 ≠ d) (hl : l.length <= 1000000000) (hB : B <= w.heap.size) :
  Calls Tryz.prog 58 #[.pointer (some ⟨r,0,none⟩),.int .i64 d,cbV c] w fun e w'=>e = .returned (.int .i64 0)/\∃T,TrL w' B r mb (l++[(d,c)]) T/\Kp (Or (fun k=>k=mb) B) w w':=by
 have hrl:=h.tr.lt h.root
 have hmap:=h.map
 have hml:=(qI.1 h.map).1
 have cex:w.cell? ⟨r,4,none⟩=some (.map (some mb)):=aa (h.tr.node [] r h.root).2 rfl
 have H:=Lib.hid h
 have Hid:=Lib.hid hid
 have HB:=Lib.hid hB
 have Hl:=Lib.hid hl
 have hsnd:=(aV c true hc)
 have Hsnd:=Lib.hid (fun (W:World)=>hsnd.calls W (fun _=>False) [cbV c] rfl (aS (gq _ _ _) cN) (fun _ h=>h.elim) (eI _ _))
 clear h hid hB hl hsnd
 unfold cbV
 go_enter Tryz.func58,Tryz.ntmps58
 go_wp2_with fail
 refine (Hsnd.out _).mono ?_
 rintro e W1 ⟨v,rfl,hk1,hp⟩
 obtain rfl:v = .bool true:=aC rfl hp
 have Hk1:=Lib.hid (((Kp.refl No w).alloc _).trans hk1)
 have Hmap:=Lib.hid ((Hk1.out.block mb hml (az _)).trans hmap)
 have Hbox:=Lib.hid ((hk1.block _ (by simp) (az _)).trans (heap_alloc_new w _))
 have Htr:=Lib.hid (H.out.tr.keep fun k hk=>Hk1.out.block k hk (az _))
 clear hk1 hp hmap Hsnd cex
 have cex:W1.cell? ⟨r,4,none⟩=some (.map (some mb)):=aa (Htr.out.node [] r H.out.root).2 rfl
 go_wp2_with (at_lookup;refine mz rfl _ _ rfl mb d l _ rfl rfl Hmap.out Hid.out ?_)
 refine gn 6 (by kernel_rfl) (by kernel_rfl) fun W2 hk2=>?_
 have Hk12:=Lib.hid (((Kp.refl No W1).alloc _).trans hk2)
 have Hk2:=Lib.hid (Hk1.out.trans Hk12.out)
 have Hmap2:=Lib.hid (Hk12.out.heap Hmap.out (az _))
 have Hbox2:=Lib.hid (Hk12.out.heap Hbox.out (az _))
 have Htr2:=Lib.hid (Htr.out.keep fun k hk=>Hk12.out.block k hk (az _))
 clear hk2 cex
 have cex:W2.cell? ⟨r,4,none⟩=some (.map (some mb)):=aa (Htr2.out.node [] r H.out.root).2 rfl
 have c0:W2.cell? ⟨w.heap.size,0,none⟩=some (.int .u64 c.value.hi.toNat):=aa Hbox2.out rfl
 have c1:W2.cell? ⟨w.heap.size,1,none⟩=some (.int .u64 c.value.lo.toNat):=aa Hbox2.out rfl
 have c2:W2.cell? ⟨w.heap.size,2,none⟩=some (.int .u64 c.care.hi.toNat):=aa Hbox2.out rfl
 have c3:W2.cell? ⟨w.heap.size,3,none⟩=some (.int .u64 c.care.lo.toNat):=aa Hbox2.out rfl
 simp only [List.take_succ_cons,List.take_zero,List.drop_succ_cons,uR]
 repeat still_step
 refine wpStill_nil ?_
 clear cex c0 c1 c2 c3
 go_wp2_with (at_mapUpdate;refine nS rfl _ _ _ rfl mb d l c rfl rfl rfl Hmap2.out Hid.out ?_;intro W3 hm3 hk3;have Hm3:=Lib.hid hm3;have Hk3:=Lib.hid hk3;have Htr3:=Lib.hid (Htr2.out.keepM Hmap2.out hk3);have Hbox3:=Lib.hid (hk3.heap Hbox2.out (Nat.ne_of_gt hml));clear hm3 hk3;have c0:W3.cell? ⟨w.heap.size,0,none⟩=some (.int .u64 c.value.hi.toNat):=aa Hbox3.out rfl;have c1:W3.cell? ⟨w.heap.size,1,none⟩=some (.int .u64 c.value.lo.toNat):=aa Hbox3.out rfl;have c2:W3.cell? ⟨w.heap.size,2,none⟩=some (.int .u64 c.care.hi.toNat):=aa Hbox3.out rfl;have c3:W3.cell? ⟨w.heap.size,3,none⟩=some (.int .u64 c.care.lo.toNat):=aa Hbox3.out rfl)
 have HB3:B<=W3.heap.size:=vJ (vJ HB.out Hk2.out.size) Hk3.out.size
 refine (zk W3 B T0 (.map (some mb)) r c Htr3.out H.out.root H.out.no HB3).mono ?_
 rintro e W4 ⟨T,b,rfl,hP⟩
 have HP:=Lib.hid hP
 clear hP c0 c1 c2 c3
 have hbl:=HP.out.tr.lt HP.out.at_
 have ci:=HP.out.tr.idc HP.out.at_
 have cf:=HP.out.tr.frz HP.out.at_ 3
 have Hown:=Lib.hid (HP.out.tr.own _ b HP.out.at_)
 obtain ⟨p,hp⟩:∃p,cQ c (aY c)=p:=⟨_,rfl⟩
 rw [hp] at ci Hown
 have Hp:=Lib.hid hp
 obtain ⟨v0,hv0⟩:∃v0,T.idv p=v0:=⟨_,rfl⟩
 rw [hv0] at ci Hown
 have Hv0:=Lib.hid hv0
 have hn0:(T.ids p).length<=1000000000:=by
  rw [HP.out.ids,H.out.ids]
  exact vJ (by unfold i8;rw [qH];exact List.length_filter_le _ _) Hl.out
 have Hn0:=Lib.hid hn0
 clear hp hv0 hn0 HB3
 obtain ⟨i0,hi,hz0,hz1,hz2⟩:=EG
 have Hbig:=Lib.hid (show B<=W4.heap.size from vJ (vJ (vJ HB.out Hk2.out.size) Hk3.out.size) HP.out.bel.size)
 have HtrA:=Lib.hid (HP.out.tr.keep (w':=W4.alloc (.cells #[.int .i64 (d:Int)] 3)) fun k hk=>heap_alloc_old _ _ hk)
 have Hat:=Lib.hid HP.out.at_
 go_wp2_with (at_builtin;refine dV rfl _ _ 51 rfl B 3 i0 (.int .i64 0) 1 8 FL hi hz0 hz1 hz2 rfl (by decide) v0 _ _ rfl (Hown.out.alloc _) ⟨W4.heap.size,0,none⟩ 1 1 [.int .i64 (d:Int)] rfl rfl ?c1 ?c2 ?c3 ?c4 ?c5 ?_)
 case c1 =>
  intro j u hj
  match j,hj with
  | 0,hj=>simp at hj;subst hj;simp [Addr.add]
 case c2=>intro u hu;simp at hu;subst hu;rfl
 case c3=>have:=Hn0.out;unfold maxLen;omega
 case c4=>have:=Hn0.out;omega
 case c5=>have:=Hbig.out;simp;omega
 intro v' W5 hown5 hgrow5 hnew5
 have hb5:W5.heap[b]?=W4.heap[b]?:=by
  rw [hgrow5.block b (by simp;omega) (fun e=>by
   have:=HP.out.tr.apart Hat.out (Hp.out ▸ Hat.out:T.nd p=some b)
   rw [Hv0.out] at this
   exact this e.symm),heap_alloc_old _ _ hbl]
 have d3:W5.cell? ⟨b,3,none⟩=some v0:=(World.cell?_of_block (a:=⟨b,3,none⟩) hb5).trans ci
 have f5:W5.frozen? ⟨b,3,none⟩=false:=(World.frozen?_of_block (a:=⟨b,3,none⟩) hb5).trans cf
 obtain ⟨g,cap,rfl⟩:∃g cap,v' = .slice (some ⟨g,0,none⟩) ((T.ids p).length+1) cap:=by
  rcases hown5.2 with ⟨_,h0⟩ | ⟨g,cap,cur,hv,_⟩
  ·exact absurd h0 (Nat.succ_ne_zero _)
  ·exact ⟨g,cap,hv⟩
 have Hown5:=Lib.hid hown5
 have Hgrow5:=Lib.hid hgrow5
 have Hnew5:=Lib.hid hnew5
 clear hb5 hown5 hgrow5 hnew5 cf ci
 go_wp2_with fail
 go_ret
 have hatp:T.nd p=some b:=by rw [<- Hp.out];exact Hat.out
 have htr:=HtrA.out.put (i:=d) (v:=.slice (some ⟨g,0,none⟩) ((T.ids p).length+1) cap) hatp (by rw [Hv0.out];exact Hgrow5.out) (by rw [idC,uA];exact Hown5.out) (by
  rw [Hv0.out]
  rcases Hnew5.out with h | h
  ·exact .inl h
  ·exact .inr fun g hg => by
    rw [h] at hg
    obtain rfl:=qB hg
    simp)
 have hbB:=(HP.out.tr.node p b hatp).1
 have hkp:Kp (Or (fun k=>k=mb) B) w (W5.setCell ⟨b,3,none⟩ (.slice (some ⟨g,0,none⟩) ((T.ids p).length+1) cap)):=by
  have k1:Kp (Or (fun k=>k=mb) B) w W3:=(Hk2.out.mono fun _ _ h=>h.elim).trans (Hk3.out.mono fun _ _ h=>.inl h)
  have k2:Kp (Or (fun k=>k=mb) B) W3 W4:=⟨HP.out.bel.os,HP.out.bel.tape,HP.out.bel.output,HP.out.bel.size,fun k _ hn=>HP.out.bel.block k (by unfold Or at hn;omega)⟩
  refine (((k1.trans k2).alloc _).grown Hgrow5.out fun k hk=>.inl (.inr ?_)).setCell (.inl (.inr hbB)) _
  exact (Hown.out.lt k hk).1
 refine ⟨rfl,T.put p (.slice (some ⟨g,0,none⟩) ((T.ids p).length+1) cap) d,⟨htr,HP.out.old [] r H.out.root,?_,H.out.mlo,fun q=>?_,fun q=>?_⟩,hkp⟩
 ·have e1:mb≠b:=by have:=H.out.mlo;omega
  rw [heap_setCell_other _ _ _ _ e1,Hgrow5.out.block mb (by have:=H.out.mlo;have:=Hbig.out;simp;omega) (fun e=>by
   have:=(Hown.out.lt mb e.symm).1
   have:=H.out.mlo
   omega),heap_alloc_old _ _ (by have:=H.out.mlo;have:=Hbig.out;omega),HP.out.bel.block mb H.out.mlo]
  exact Hm3.out
 ·show (T.nd q).isSome=true↔_
  rw [HP.out.more q,H.out.nd q]
  unfold mF
  constructor
  ·rintro ((h | ⟨e,he,h⟩) | ⟨m',h1,h2,rfl⟩)
   ·exact .inl h
   ·exact .inr ⟨e,by simp [he],h⟩
   ·exact .inr ⟨(d,c),by simp,m',h1,h2,rfl⟩
  ·rintro (h | ⟨e,he,h⟩)
   ·exact .inl (.inl h)
   ·rcases vB.1 he with he | he
    ·exact .inl (.inr ⟨e,he,h⟩)
    ·obtain rfl:=qO.1 he
     obtain ⟨m',h1,h2,h3⟩:=h
     exact .inr ⟨m',h1,h2,h3.symm⟩
 ·show (if q=p then T.ids q++[d] else T.ids q)=_
  have e1:i8 (l++[(d,c)]) q=i8 l q++if cQ c (aY c)=q then [d] else []:=by
   unfold i8
   rw [List.filter_append,uA]
   by_cases h:cQ c (aY c)=q <;> simp [h]
  rw [e1,Hp.out,HP.out.ids,H.out.ids]
  by_cases h:q=p
  ·subst h
   rw [if_pos rfl,if_pos rfl]
  ·rw [if_neg h,if_neg (fun e=>h e.symm),vZ]
def TS.new (r:Nat):TS:=⟨fun p=>if p=[] then some r else none,fun _=>.slice none 0 0,fun _=>[]⟩
set_option maxHeartbeats 2000000 in
theorem El (w:World):Calls Tryz.prog 57 #[] w fun e w'=>∃B r mb T,e = .returned (.pointer (some ⟨r,0,none⟩))/\w.heap.size<=mb/\TrL w' B r mb [] T/\Kp No w w'/\B<=w'.heap.size:=by
 have hmk:∀W:World,(Instr.makeMap 140 none).run Tryz.prog W = .ok (.map (some W.heap.size)) (W.alloc (.map #[] 0)):=fun W=>by
  simp only [Instr.makeMap,newObj,Option.map_none,Sem.run_bind,Sem.run_pure,Result.andThen_ok,Sem.run,World.alloc]
 go_enter Tryz.func57,Tryz.ntmps57
 go_wp2_with fail
 go_ret
 refine ⟨w.heap.size+1,w.heap.size+1,w.heap.size,TS.new (w.heap.size+1),rfl,qJ _,⟨?_,rfl,?_,Nat.lt_succ_self _,fun p=>?_,fun p=>rfl⟩,((Kp.refl No w).alloc _).alloc _,?_⟩
 ·have hnd : ∀ p b, (TS.new (w.heap.size + 1)).nd p = some b -> p = [] /\ b = w.heap.size + 1 := fun p b h => by
   unfold TS.new at h
   simp only at h
   split at h
   ·rename_i e
    exact ⟨e,(qB h).symm⟩
   ·cases h
  refine ⟨fun p b h=>?_,fun p b h=>⟨by simp [idC,TS.new],.inl ⟨rfl,rfl⟩⟩,fun p q b h1 h2=>(hnd p b h1).1.trans (hnd q b h2).1.symm,fun p q b c _ _ _=>.inl rfl,fun k p h=>?_⟩
  ·obtain ⟨rfl,rfl⟩:=hnd p b h
   refine ⟨qJ _,?_⟩
   have e:w.heap.size+1=(w.alloc (.map #[] 0)).heap.size:=by simp
   rw [e,heap_alloc_new]
   rfl
  ·exact absurd h (by simp [TS.new])
 ·rw [heap_alloc_old _ _ (by simp),heap_alloc_new]
  rfl
 ·unfold TS.new mF
  by_cases h:p=[] <;> simp [h]
 ·simp
def bw (l:List Rl):List (Nat × Cb):=l.zipIdx.map fun e=>(e.2,e.1.mat)
theorem xB (l:List Rl) (x:Rl):bw (l++[x])=bw l++[(l.length,x.mat)]:=by
 simp [bw,List.zipIdx_append]
theorem sK (l:List Rl):(bw l).length=l.length:=by simp [bw]
theorem BL {l:List Rl} {e:Nat × Cb} (h:e∈bw l):e.1<l.length:=by
 unfold bw at h
 obtain ⟨x,hx,rfl⟩:=vH.1 h
 have:=List.mem_zipIdx hx
 omega
theorem nD {W:World} {F:Nat->Prop} {els:List (List AV)} {A:Option Addr} {n c k:Nat} {x:AV} (h:ar W F (.sl els) (.slice A n c)) (hk:els[k]?=some [x]) :
  ∃b off v,A=some ⟨b,off,none⟩/\F b/\W.cell? ⟨b,off+k,none⟩=some v/\ar W F x v:=by
 cases h with
 | sl _ _ _ m b off cell hc hm hA hl h1 hr hw =>
  have hp:0<els.length:=by have:=(qD.1 hk).1;omega
  obtain ⟨rfl,hF,hb⟩:=hA hp
  obtain rfl:m=1:=(hl k _ hk).symm
  have h2:=hw k _ 0 x hk rfl
  rw [Nat.mul_one,Nat.add_zero] at h2
  exact ⟨b,off,cell k 0,rfl,hF,h2,hr k _ 0 x hk rfl⟩
theorem tT {W:World} {F:Nat->Prop} {els:List (List AV)} {v:Value} (h:ar W F (.sl els) v):els.length<=maxLen:=by
 obtain ⟨_,_,_,h1,h2⟩:=bP h
 omega
def rlV (x:Rl):List Value:=[.int .i64 x.prio,.int .u64 x.mat.value.hi.toNat,.int .u64 x.mat.value.lo.toNat,.int .u64 x.mat.care.hi.toNat,.int .u64 x.mat.care.lo.toNat,.int .i64 x.act.kind,.int .i64 x.act.port,.int .i64 x.act.table,.int .u64 x.act.set.value.hi.toNat,.int .u64 x.act.set.value.lo.toNat,.int .u64 x.act.set.care.hi.toNat,.int .u64 x.act.set.care.lo.toNat]
theorem FX {W:World} {F:Nat->Prop} {l:List Rl} {A:Option Addr} {n c k:Nat} {x:Rl} (h:ar W F (.sl (l.map cRl)) (.slice A n c)) (hx:l[k]?=some x) :
  ∃b off,A=some ⟨b,off,none⟩/\F b/\∀j v,(rlV x)[j]?=some v->W.cell? ⟨b,off+k*12+j,none⟩=some v:=by
 generalize hels:l.map cRl=els at h
 cases h with
 | sl _ _ _ m b off cell hc hm hA hl h1 hr hw =>
  have hk:els[k]?=some (cRl x):=by rw [<- hels,qE,hx];rfl
  have hp:0<els.length:=by have:=(qD.1 hk).1;omega
  obtain ⟨rfl,hF,hb⟩:=hA hp
  obtain rfl:m=12:=(hl k _ hk).symm
  refine ⟨b,off,rfl,hF,fun j v hj=>?_⟩
  have g:∀(j:Nat) (y:AV),(cRl x)[j]?=some y->W.cell? ⟨b,off+(k*12+j),none⟩=some (cell k j)/\ar W F y (cell k j):=fun j y hj=>⟨hw k _ j y hk hj,hr k _ j y hk hj⟩
  rw [Nat.add_assoc]
  have hlt:j<12:=(qD.1 hj).1
  match j,hlt with
  | 0,_=>obtain ⟨e,q⟩:=g 0 _ rfl;rw [e,aC rfl q];exact hj
  | 1,_=>obtain ⟨e,q⟩:=g 1 _ rfl;rw [e,aC rfl q];exact hj
  | 2,_=>obtain ⟨e,q⟩:=g 2 _ rfl;rw [e,aC rfl q];exact hj
  | 3,_=>obtain ⟨e,q⟩:=g 3 _ rfl;rw [e,aC rfl q];exact hj
  | 4,_=>obtain ⟨e,q⟩:=g 4 _ rfl;rw [e,aC rfl q];exact hj
  | 5,_=>obtain ⟨e,q⟩:=g 5 _ rfl;rw [e,aC rfl q];exact hj
  | 6,_=>obtain ⟨e,q⟩:=g 6 _ rfl;rw [e,aC rfl q];exact hj
  | 7,_=>obtain ⟨e,q⟩:=g 7 _ rfl;rw [e,aC rfl q];exact hj
  | 8,_=>obtain ⟨e,q⟩:=g 8 _ rfl;rw [e,aC rfl q];exact hj
  | 9,_=>obtain ⟨e,q⟩:=g 9 _ rfl;rw [e,aC rfl q];exact hj
  | 10,_=>obtain ⟨e,q⟩:=g 10 _ rfl;rw [e,aC rfl q];exact hj
  | 11,_=>obtain ⟨e,q⟩:=g 11 _ rfl;rw [e,aC rfl q];exact hj
def bN (c:Cf):List Rl:=c.tables.flatMap fun t=>t.flatMap id
theorem iS {α β:Type} (f:α->List β) {L:List α} {k:Nat} {x:α} (h:L[k]?=some x):(L.take (k+1)).flatMap f=(L.take k).flatMap f++f x:=by
 rw [List.take_add_one,h]
 simp
theorem qi {α β:Type} (f:α->List β) {L:List α} {k:Nat} {x:α} (h:L[k]?=some x):∃r,L.flatMap f=(L.take k).flatMap f++f x++r:=by
 refine ⟨(L.drop (k+1)).flatMap f,?_⟩
 rw [<- iS f h,<- List.flatMap_append,uU]
theorem ot {α:Type} {L:List α} {k:Nat} {x:α} (h:L[k]?=some x):L.take (k+1)=L.take k++[x]:=by
 rw [List.take_add_one,h]
 rfl
def gW (c:Cf) (k:Nat):List Rl:=(c.tables.take k).flatMap fun t=>t.flatMap id
theorem BA {c:Cf} {k j i:Nat} {t:List (List Rl)} {l:List Rl} {x:Rl} (hk:c.tables[k]?=some t) (hj:t[j]?=some l) (hi:l[i]?=some x) :
  x∈bN c/\(gW c k++(t.take j).flatMap id++l.take i).length<(bN c).length:=by
 obtain ⟨r1,e1⟩:=qi (fun t:List (List Rl)=>t.flatMap id) hk
 obtain ⟨r2,e2⟩:=qi (id:List Rl->List Rl) hj
 have e:bN c=gW c k++(t.take j).flatMap id++l++(r2++r1):=by
  unfold bN gW
  rw [e1,e2]
  simp
 have hlt:=(qD.1 hi).1
 refine ⟨?_,?_⟩
 ·rw [e]
  simp [qP hi]
 ·rw [e]
  simp only [qK,vG]
  omega
theorem TrL.keep {w w':World} {B r mb:Nat} {l:List (Nat × Cb)} {T:TS} (h:TrL w B r mb l T) (hk:∀k,k<w.heap.size->w'.heap[k]?=w.heap[k]?):TrL w' B r mb l T :=
 ⟨h.tr.keep hk,h.root,(hk mb (qI.1 h.map).1).trans h.map,h.mlo,h.nd,h.ids⟩
structure InI (B r mb:Nat) (W1 wr:World) (l:List Rl):Prop where
 tr:∃T,TrL wr B r mb (bw l) T
 kp:Kp (Or (fun k=>k=mb) B) W1 wr
set_option maxHeartbeats 4000000 in
theorem zh (w : World) (F : Nat -> Prop) (c : Cf) (tp pe wy : Value) (A : Option Addr) (cap : Nat) (hF : ∀ b, F b -> b < w.heap.size) (hT : ar w F (.sl (c.tables.map bE)) (.slice A c.tables.length cap)) (hs : ∀ r ∈ bN c, r.mat.sound = true) (hl : (bN c).length <= 1000000000) :
  Calls Tryz.prog 27 #[.agg #[tp,.int .i64 c.pol.tenants,pe,wy,.slice A c.tables.length cap]] w fun e w'=>∃B r mb T,e = .returned (.pointer (some ⟨r,0,none⟩))/\w.heap.size<=mb/\TrL w' B r mb (bw (bN c)) T/\Kp No w w':=by
 have HT:=Lib.hid hT
 have m1:=tT hT
 rw [qH] at m1
 unfold maxLen at m1
 have Hs:=Lib.hid hs
 have Hl:=Lib.hid hl
 have HF:=Lib.hid hF
 clear hT hs hl hF
 go_enter Tryz.func27,Tryz.ntmps27
 go_wp2_with fail
 refine (El _).mono ?_
 rintro e W1 ⟨B,r,mb,T0,rfl,hmb,hT0,hk1,hB1⟩
 have hbx:=hk1.heap (heap_alloc_new w _) (az _)
 replace hmb:w.heap.size+1<=mb:=by simpa using hmb
 have HT0:=Lib.hid hT0
 have Hk1:=Lib.hid (((Kp.refl No w).alloc _).trans hk1)
 have HB1:=Lib.hid hB1
 have Hmb:=Lib.hid hmb
 have HmB:=Lib.hid hT0.mlo
 have c4:W1.cell? ⟨w.heap.size,4,none⟩=some (.slice A c.tables.length cap):=aa hbx rfl
 -- what every later world keeps
 have Kw:=Lib.hid (fun (wr:World) (hk:Kp (Or (fun k=>k=mb) B) W1 wr) (b:Nat) (hb:F b)=>show wr.heap[b]?=w.heap[b]? from
  (hk.block b (vK (HF.out b hb) Hk1.out.size) (by unfold Or;have:=Hmb.out;have:=HmB.out;have:=HF.out b hb;omega)).trans (Hk1.out.block b (HF.out b hb) (az _)))
 clear hbx hT0 hk1 hB1 hmb
 go_wp2_with fail
 go_loopw [4,15] (fun n i wr=>∃k,k<=c.tables.length/\i = .int .i64 (k:Nat)/\n = .int .i64 ((gW c k).length:Nat)/\InI B r mb W1 wr (gW c k)) (fun _ i _=>c.tables.length - (intOf i).toNat)
 case atStart=>exact ⟨0,qR _,rfl,rfl,⟨T0,HT0.out⟩,Kp.refl _ _⟩
 case round =>
  obtain ⟨k,hk,rfl,rfl,hI⟩:=hrel
  have HI:=Lib.hid hI
  clear hI
  by_cases hlt:k<c.tables.length
  ·have hkt:c.tables[k]?=some c.tables[k]:=qA hlt
   generalize c.tables[k]=t at hkt
   obtain ⟨b,off,v,rfl,hFb,ck,hv⟩:=nD HT.out (by rw [qE,hkt];rfl)
   obtain ⟨A2,c2,rfl,hle2,hmx2⟩:=bP hv
   rw [qH] at ck
   replace ck:wr.cell? ⟨b,off+k,none⟩=_:=(World.cell?_of_block (a:=⟨b,off+k,none⟩) (Kw.out _ HI.out.kp b hFb)).trans ck
   have q1:(k:Int)<(c.tables.length:Int):=by omega
   have Hv:=Lib.hid (show ar w F (.sl (t.map aP)) (.slice A2 t.length c2) by simpa using hv)
   have Hkt:=Lib.hid hkt
   have m2:t.length<=maxLen:=by rw [qH] at hle2;omega
   unfold maxLen at m2
   clear hv hkt hlt hle2 hmx2 hFb
   go_wp2_with fail
   clear ck
   go_loopw [4,21] (fun n i wr=>∃j,j<=t.length/\i = .int .i64 (j:Nat)/\n = .int .i64 ((gW c k++(t.take j).flatMap id).length:Nat)/\InI B r mb W1 wr (gW c k++(t.take j).flatMap id)) (fun _ i _=>t.length - (intOf i).toNat)
   case atStart=>exact ⟨0,qR _,rfl,by simp,by simpa using HI.out⟩
   case round =>
    obtain ⟨j,hj,rfl,rfl,hI⟩:=hrel
    have HI:=Lib.hid hI
    clear hI
    by_cases hlt:j<t.length
    ·have hjt:t[j]?=some t[j]:=qA hlt
     generalize t[j]=l at hjt
     obtain ⟨b2,off2,v2,rfl,hFb,ck,hv⟩:=nD Hv.out (by rw [qE,hjt];rfl)
     obtain ⟨A3,c3,rfl,hle3,hmx3⟩:=bP hv
     rw [qH] at ck
     replace ck:wr.cell? ⟨b2,off2+j,none⟩=_:=(World.cell?_of_block (a:=⟨b2,off2+j,none⟩) (Kw.out _ HI.out.kp b2 hFb)).trans ck
     have q2:(j:Int)<(t.length:Int):=by omega
     have Hu:=Lib.hid (show ar w F (.sl (l.map cRl)) (.slice A3 l.length c3) by simpa using hv)
     have Hjt:=Lib.hid hjt
     have m3:l.length<=maxLen:=by rw [qH] at hle3;omega
     unfold maxLen at m3
     clear hv hjt hlt hle3 hmx3 hFb
     go_wp2_with fail
     clear ck
     go_loopw [4,27] (fun n i wr=>∃e,e<=l.length/\i = .int .i64 (e:Nat)/\n = .int .i64 ((gW c k++(t.take j).flatMap id++l.take e).length:Nat)/\InI B r mb W1 wr (gW c k++(t.take j).flatMap id++l.take e)) (fun _ i _=>l.length - (intOf i).toNat)
     case atStart=>exact ⟨0,qR _,rfl,by simp,by simpa using HI.out⟩
     case round =>
      obtain ⟨e,he,rfl,rfl,hI⟩:=hrel
      have HI:=Lib.hid hI
      clear hI
      by_cases hlt:e<l.length
      ·have het:l[e]?=some l[e]:=qA hlt
       generalize l[e]=x at het
       obtain ⟨b3,off3,rfl,hFb,hc⟩:=FX Hu.out het
       have ce:∀(j:Nat) (v:Value),(rlV x)[j]?=some v->wr.cell? ⟨b3,off3+e*12+j,none⟩=some v:=fun j v hj=>(World.cell?_of_block (a:=⟨b3,off3+e*12+j,none⟩) (Kw.out _ HI.out.kp b3 hFb)).trans (hc j v hj)
       have e0:=ce 0 _ rfl
       have e1:=ce 1 _ rfl
       have e2:=ce 2 _ rfl
       have e3:=ce 3 _ rfl
       have e4:=ce 4 _ rfl
       have e5:=ce 5 _ rfl
       have e6:=ce 6 _ rfl
       have e7:=ce 7 _ rfl
       have e8:=ce 8 _ rfl
       have e9:=ce 9 _ rfl
       have e10:=ce 10 _ rfl
       have e11:=ce 11 _ rfl
       rw [Nat.add_zero] at e0
       have q3:(e:Int)<(l.length:Int):=by omega
       have Het:=Lib.hid het
       clear ce hc het hlt hFb
       obtain ⟨nn,hnn⟩:∃nn,nn=(gW c k++(t.take j).flatMap id++l.take e).length:=⟨_,rfl⟩
       rw [<- hnn]
       have Hnn:=Lib.hid hnn
       clear hnn
       go_wp2_with fail
       obtain ⟨T,hT⟩:=HI.out.tr
       have hat:=BA Hkt.out Hjt.out Het.out
       have hnl:=hat.2
       rw [<- Hnn.out] at hnl
       have HTa:=Lib.hid (hT.keep (w':=wr.alloc (.cells (rlV x).toArray 57)) fun k hk=>heap_alloc_old _ _ hk)
       clear hT
       refine (Ft _ B r mb _ T nn x.mat HTa.out (Hs.out x hat.1) (fun y hy=>by have:=BL hy;have:=Hnn.out;omega) (by rw [sK,<- Hnn.out];have:=Hl.out;omega) (by have:=HB1.out;have:=HI.out.kp.size;simp;omega)).mono ?_
       clear hat
       rintro er W2 ⟨rfl,T2,hT2,hk2⟩
       have HT2:=Lib.hid hT2
       have Hk2:=Lib.hid (((HI.out.kp).alloc _).trans hk2)
       have hnm:nn<1000000000:=vK hnl Hl.out
       clear hT2 hk2 e0 e1 e2 e3 e4 e5 e6 e7 e8 e9 e10 e11
       go_wp2_with fail
       go_roundw
       case rel =>
        refine ⟨e+1,by omega,by go_num,?_,?_⟩
        ·rw [ot Het.out,<- uI,qK,<- Hnn.out]
         show _=Value.int .i64 ((nn+1:Nat):Int)
         go_num
        ·rw [ot Het.out,<- uI]
         refine ⟨⟨T2,?_⟩,Hk2.out⟩
         rw [xB,<- Hnn.out]
         exact HT2.out
       case measure=>simp [intOf];omega
      ·have q3:¬(e:Int)<(l.length:Int):=by omega
       obtain rfl:e=l.length:=by omega
       rw [vL (qJ _)] at HI
       rw [vL (qJ _)]
       go_wp2_with fail
       go_roundw
       case rel =>
        have e1:gW c k++(t.take (j+1)).flatMap id=gW c k++(t.take j).flatMap id++l:=by
         rw [iS _ Hjt.out,uI]
         rfl
        refine ⟨j+1,by omega,by go_num,?_,?_⟩
        ·rw [e1]
        ·rw [e1]
         exact HI.out
       case measure=>simp [intOf];omega
    ·have q2:¬(j:Int)<(t.length:Int):=by omega
     obtain rfl:j=t.length:=by omega
     rw [vL (qJ _)] at HI
     rw [vL (qJ _)]
     go_wp2_with fail
     go_roundw
     case rel =>
      have e1:gW c (k+1)=gW c k++t.flatMap id:=by
       unfold gW
       rw [iS _ Hkt.out]
      refine ⟨k+1,by omega,by go_num,?_,?_⟩
      ·rw [e1]
      ·rw [e1]
       exact HI.out
     case measure=>simp [intOf];omega
  ·have q1:¬(k:Int)<(c.tables.length:Int):=by omega
   obtain rfl:k=c.tables.length:=by omega
   have e1:gW c c.tables.length=bN c:=by
    unfold gW bN
    rw [vL (qJ _)]
   rw [e1] at HI
   rw [e1]
   clear e1
   go_wp2_with fail
   go_ret
   obtain ⟨T,hT⟩:=HI.out.tr
   refine ⟨B,r,rfl,mb,by have:=Hmb.out;omega,⟨T,hT⟩,Hk1.out.trans2 HI.out.kp fun g hg h=>?_⟩
   unfold Or at h
   have:=Hmb.out
   have:=HmB.out
   omega
noncomputable def trA:Tr->AV
 | .nil=>.raw (.pointer none)
 | .node a b c ids=>.ro [trA a,trA b,trA c,.sl (ids.map cI1)]
theorem p6:∀t:Tr,(trA t).one=true
 | .nil=>rfl
 | .node _ _ _ _=>rfl
def fW (l:List (Nat × Cb)):Tr:=.node (trL 127 (atN l 127 [0])) (trL 127 (atN l 127 [1])) (trL 127 (atN l 127 [2])) (i8 l [])
theorem Aj {l:List (Nat × Cb)} (h:l≠[]):fW l=trL 128 l:=by
 have e:=ra l 127 [] (by decide) rfl (by rw [wZ];exact h)
 rw [wZ] at e
 exact e.symm
theorem qv (x:Cb) (l:List (Nat × Cb)):(dP x (fW l) 128).Perm ((l.filter fun e=>gx x 128 e.2).map (·.1)):=by
 by_cases h:l=[]
 ·subst h
  have e:∀n p,trL n (atN [] n p) = .nil:=fun n p=>vz n
  unfold fW
  rw [e,e,e]
  simp [dP,i8,fP]
 ·rw [Aj h]
  exact Ai x 128 l
section
variable {w : World} {B r mb : Nat} {l : List (Nat × Cb)} {T : TS} {F' : Nat -> Prop}
theorem EZ (h:TrL w B r mb l T) (hF':∀b,B<=b->b<w.heap.size->F' b) {p:List Nat} {b:Nat} (hp:T.nd p=some b):ar w F' (.sl ((T.ids p).map cI1)) (T.idv p):=by
 have ho:=h.tr.own p b hp
 obtain ⟨hl,hc⟩:=h.tr.own p b hp
 rcases hc with ⟨hv,hn⟩ | ⟨g,cap,cur,hv,hB,hg,hcap,hmx,hsz,htk⟩
 ·rw [hv]
  have e:T.ids p=[]:=List.eq_nil_of_length_eq_zero hn
  rw [e]
  exact .sl [] none 0 1 0 0 (fun _ _=>undef) (qJ _) (qR _) (fun h=>absurd h (Nat.lt_irrefl 0)) (fun _ _ h=>by simp at h) (fun _ _ _ _ h=>by simp at h) (fun _ _ _ _ h=>by simp at h) (fun _ _ _ _ h=>by simp at h)
 ·rw [hv]
  have hlen:((T.ids p).map cI1).length=(T.ids p).length:=qH ..
  have hat:∀(k:Nat) (cs:List AV),((T.ids p).map cI1)[k]?=some cs->∃i,(T.ids p)[k]?=some i/\cs=[.i .i64 (i:Nat)]:=fun k cs hk=>by
   rw [qE] at hk
   cases hi:(T.ids p)[k]? with
   | none=>rw [hi] at hk;cases hk
   | some i=>rw [hi] at hk;exact ⟨i,rfl,(qB hk).symm⟩
  have hj0:∀{i:Nat} {j:Nat} {x:AV},([.i .i64 (i:Nat)]:List AV)[j]?=some x->j=0/\x = .i .i64 (i:Nat):=fun {i j x} hx=>by
   match j,hx with
   | 0,hx=>exact ⟨rfl,(qB hx).symm⟩
   | j+1,hx=>simp at hx
  have hcell:∀(k i:Nat),(T.ids p)[k]?=some i->w.cell? ⟨g,0+(k*1+0),none⟩=some (.int .i64 ((i:Nat):Int)):=fun k i hi=>by
   have hk:=(qD.1 hi).1
   rw [hv] at ho
   have h1:=ho.cellAt k (by omega)
   rw [vN,Nat.mul_one,Nat.add_zero,h1,idC,qE,hi]
   rfl
  have hs:=ar.sl (W:=w) (F:=F') ((T.ids p).map cI1) (some ⟨g,0,none⟩) cap 1 g 0 (fun k _=>.int .i64 (((T.ids p).getD k 0:Nat):Int)) (by omega) hmx (fun _=>⟨rfl,hF' g hB (qI.1 hg).1,(qI.1 hg).1⟩)
   (fun k cs hk=>by obtain ⟨i,_,rfl⟩:=hat k cs hk;rfl)
   (fun k cs j x hk hx=>by obtain ⟨i,_,rfl⟩:=hat k cs hk;obtain ⟨_,rfl⟩:=hj0 hx;rfl)
   (fun k cs j x hk hx=>by
    obtain ⟨i,hi,rfl⟩:=hat k cs hk
    obtain ⟨_,rfl⟩:=hj0 hx
    rw [qM,hi]
    exact .i _ _)
   (fun k cs j x hk hx=>by
    obtain ⟨i,hi,rfl⟩:=hat k cs hk
    obtain ⟨rfl,rfl⟩:=hj0 hx
    rw [hcell k i hi,qM,hi]
    rfl)
  rw [hlen] at hs
  exact hs
theorem nt (h:TrL w B r mb l T) (hF':∀b,B<=b->b<w.heap.size->F' b) {p:List Nat} {b:Nat} (hp:T.nd p=some b) (t0 t1 t2:Tr)
  (h0:ar w F' (trA t0) (gw (T.nd (0::p)))) (h1:ar w F' (trA t1) (gw (T.nd (1::p)))) (h2:ar w F' (trA t2) (gw (T.nd (2::p)))) :
  ar w F' (trA (.node t0 t1 t2 (i8 l p))) (.pointer (some ⟨b,0,none⟩)):=by
 have hn:=h.tr.node p b hp
 refine .ro _ b 0 (fun j=>if j=0 then gw (T.nd (0::p)) else if j=1 then gw (T.nd (1::p)) else if j=2 then gw (T.nd (2::p)) else T.idv p) (hF' b hn.1 (h.tr.lt hp)) (h.tr.lt hp) ?_ ?_ ?_
 ·intro j x hx
  match j,hx with
  | 0,hx=>obtain rfl:=qB hx;exact p6 _
  | 1,hx=>obtain rfl:=qB hx;exact p6 _
  | 2,hx=>obtain rfl:=qB hx;exact p6 _
  | 3,hx=>obtain rfl:=qB hx;rfl
  | j+4,hx=>simp at hx
 ·intro j x hx
  match j,hx with
  | 0,hx=>obtain rfl:=qB hx;exact h0
  | 1,hx=>obtain rfl:=qB hx;exact h1
  | 2,hx=>obtain rfl:=qB hx;exact h2
  | 3,hx =>
   obtain rfl:=qB hx
   rw [<- h.ids]
   exact EZ h hF' hp
  | j+4,hx=>simp at hx
 ·intro j x hx
  rw [vN]
  match j,hx with
  | 0,hx=>exact h.tr.kid hp (by decide)
  | 1,hx=>exact h.tr.kid hp (by decide)
  | 2,hx=>exact h.tr.kid hp (by decide)
  | 3,hx=>exact h.tr.idc hp
  | j+4,hx=>simp at hx
theorem sT (h:TrL w B r mb l T) (hF':∀b,B<=b->b<w.heap.size->F' b):∀n,n<128->∀p,p.length=128 - n->ar w F' (trA (trL n (atN l n p))) (gw (T.nd p))
 | n,hn,p,hp=>by
  have hp0:p≠[]:=fun e=>by rw [e] at hp;simp at hp;omega
  have hth:=xj (l:=l) (n:=n) (p:=p) (by omega) hp hp0
  have hnd:=h.nd p
  cases hc:T.nd p with
  | none =>
   have e:atN l n p=[]:=by
    by_cases e:atN l n p=[]
    ·exact e
    ·have:=hnd.2 (hth.2 e)
     rw [hc] at this
     cases this
   rw [e,vz]
   exact .raw _
  | some b =>
   have hne:atN l n p≠[]:=hth.1 (hnd.1 (by rw [hc];rfl))
   match n,hn,hp,hne with
   | 0,_,hp,hne =>
    rw [yF l p hp hne]
    have hno:∀k,T.nd (k::p)=none:=fun k=>by
     cases hk:T.nd (k::p) with
     | none=>rfl
     | some b' =>
      rcases (h.nd (k::p)).1 (by rw [hk];rfl) with h1 | ⟨e,_,m,_,_,h1⟩
      ·cases h1
      ·have:=congrArg List.length h1
       rw [i2,qS,hp] at this
       omega
    refine nt h hF' hc .nil .nil .nil ?_ ?_ ?_
    all_goals
     rw [hno]
     exact .raw _
   | n+1,hn,hp,hne =>
    rw [ra l n p (by omega) hp hne]
    have hk:∀k,ar w F' (trA (trL n (atN l n (k::p)))) (gw (T.nd (k::p))):=fun k=>sT h hF' n (by omega) (k::p) (by rw [qS,hp];omega)
    exact nt h hF' hc _ _ _ (hk 0) (hk 1) (hk 2)
theorem CX (h:TrL w B r mb l T) (hF':∀b,B<=b->b<w.heap.size->F' b):ar w F' (trA (fW l)) (.pointer (some ⟨r,0,none⟩)):=by
 have hk:∀k,ar w F' (trA (trL 127 (atN l 127 [k]))) (gw (T.nd [k])):=fun k=>sT h hF' 127 (by decide) [k] rfl
 exact nt h hF' h.root _ _ _ (hk 0) (hk 1) (hk 2)
end
theorem ae.mkT1 {P : Program} {f : FuncId} {x r : AV} (hf : ∃ fn c, P.funcs[f]? = some fn /\ fn.body = some c /\ (fn.name == "runtime.NumGoroutine") = false) (h : ∀ (W : World) (F : Nat -> Prop) (v : Value), ar W F x v -> (∀ b, F b -> b < W.heap.size) -> jZ W F ->
  Calls P f #[v] W fun e W'=>∃v,e = .returned v/\Kp No W W'/\ar W' (fun b=>F b\/(W.heap.size<=b/\b<W'.heap.size)) r v):ae P f [x] r :=
 ⟨hf,fun W F vs hl hv hF hL=>by
  match vs,hl with
  | [v],_=>exact h W F v (hv 0 _ _ rfl rfl) hF hL⟩
theorem B7 (c:Cf) (hs:∀r∈bN c,r.mat.sound=true) (hl:(bN c).length<=1000000000):ae Tryz.prog 27 [.agg (cCf c)] (trA (fW (bw (bN c)))):=by
 refine ae.mkT1 ⟨_,_,Tryz.func27,rfl,by kernel_rfl⟩ fun W F v hv hF hL=>?_
 cases hv with
 | agg cs vs hlen h1 hr =>
  match vs,hlen with
  | [v0,v1,v2,v3,v4],_ =>
   have g1:=hr 1 _ v1 rfl rfl
   have g4:=hr 4 _ v4 rfl rfl
   obtain rfl:=aC rfl g1
   obtain ⟨A,cap,rfl,_,_⟩:=bP g4
   rw [qH] at g4 ⊢
   refine (zh W F c v0 v2 v3 A cap hF g4 hs hl).mono ?_
   rintro e w' ⟨B,r,mb,T,rfl,hmb,hT,hk⟩
   exact ⟨_,rfl,hk,CX hT fun b hb hlt=>.inr ⟨by have:=hT.mlo;omega,hlt⟩⟩
def lsB (l:List Cb):List (Nat × SB):=[(200,⟨0,some (.box 170 [.row 201 0 0 (l.map cCb).length,.ref 202 0 .map])⟩),(201,⟨0,some (.row 36 4 (l.map cCb))⟩),(202,⟨0,some (fE l)⟩)]
theorem eH {s:St} {q:Nat->Option (Nat × Nat)} {l:List Cb} {e e1 e1' e2 e2' g g2 n:Nat} {els:List (List AV)} {o:aD} (h0:s.σ 200=⟨e,some (.box 170 [.row 201 e1 0 n,.ref 202 e2 .map])⟩) (h1:s.σ 201=⟨e1',some (.row 36 4 els)⟩) (h2:s.σ 202=⟨e2',some o⟩)
  (hg:s.σ 1100=⟨g,some (.ghost 200 e (q 200))⟩) (hg2:s.σ 1102=⟨g2,some (.ghost 202 e2' (q 202))⟩)
  (he:e1=e1') (he2:e2=e2') (hn:n=(l.map cCb).length) (hel:els=l.map cCb) (ho:o=fE l):WkB s (lkB (gl q [200,202] (lsB l))) (gl q [200,202] (lsB l)):=by
 subst he he2 hn hel ho
 exact ⟨.ghost hg h0 rfl,.ghost hg2 h2 rfl,.boxL h0 ⟨Rn.rowIs rfl h1 rfl,Rn.refIs rfl h2 rfl,trivial⟩ rfl,.row h1 rfl,.obj h2 rfl,trivial⟩
theorem w7 (q:Nat->Option (Nat × Nat)):aq Tryz.prog 76 [] (gl q [] []) (.own 3 0 0) (gl q [] [(3,⟨0,some (.box 170 [.row 9 0 0 0,.ref 1 0 .map])⟩),(1,⟨0,some (fE [])⟩),(9,⟨0,some (.row 36 4 [])⟩)]):=by
 refine aq.of_body Tryz.func76 rfl (by kernel_rfl) rfl rfl ?_
 refine jA ?_
 refine RG.opS rfl (mL (id:=1) rfl) rfl ?_
 refine jH ?_
 refine AW.nilRow 9 0 36 4 [(0,.own 3 0 0)] [(3,⟨0,some (.box 170 [.row 9 0 0 0,.ref 1 0 .map])⟩),(1,⟨0,some (fE [])⟩),(9,⟨0,some (.row 36 4 [])⟩)] ⟨.rn (Rn.ownIs rfl rfl rfl),trivial⟩ ⟨.boxL rfl ⟨.nil rfl,.rn (Rn.refIs rfl rfl rfl),trivial⟩ rfl,.old (.obj rfl rfl),.old (.row rfl rfl),trivial⟩ ?_
 refine AW.ret (dQ rfl (Rm.ownIs rfl rfl rfl rfl) ⟨.boxL rfl jQ rfl,.obj rfl rfl,.row rfl rfl,trivial⟩)
theorem vo {l:List Cb} {x:Cb} (h:x∈l):dX l x=l:=by rw [dX,qF h];rfl
theorem rG {l:List Cb} {x:Cb} (h:¬x∈l):dX l x=l++[x]:=by rw [dX,qC h];rfl
theorem w6 (l:List Cb) (x:Cb) (hl:l.length<=100000000) (q:Nat->Option (Nat × Nat)):aq Tryz.prog 80 [.own 200 0 0,.agg (cCb x)] (gl q [200,202] (lsB l)) (.tup []) (gl q [200,202] (lsB (dX l x))):=by
 refine aq.of_body Tryz.func80 rfl (by kernel_rfl) rfl rfl ?_
 by_cases h:x∈l
 ·rw [vo h]
  refine jA ?_
  refine RG.opS rfl (oQ rfl rfl rfl rfl (qF h)) rfl ?_
  refine jH ?_
  refine zF ?_
  exact cG rfl (.inl rfl) (eH rfl rfl rfl rfl rfl rfl rfl rfl rfl rfl)
 ·rw [rG h]
  refine jA ?_
  refine RG.opS rfl (oQ rfl rfl rfl rfl (qC h)) rfl ?_
  refine jH ?_
  refine zT ?_
  refine RG.opS rfl (Bc rfl rfl rfl rfl rfl h) rfl ?_
  refine jH ?_
  refine RG.opS rfl (co cCb l x hl rfl rfl rfl rfl (tk rfl) rfl (tk rfl) rfl rfl ⟨_,rfl,rfl⟩ rfl rfl) rfl ?_;refine jH ?_
  exact cG rfl (.inl rfl) (eH rfl rfl rfl rfl rfl rfl rfl rfl rfl rfl)
theorem Bp (l:List Cb) (r:Rl) (hl:l.length<=100000000) (q:Nat->Option (Nat × Nat)):aq Tryz.prog 78 [.agg [.own 200 0 0],.agg (cRl r)] (gl q [200,202] (lsB l)) (.tup []) (gl q [200,202] (lsB (dX l r.mat))):=by
 refine aq.of_body Tryz.func78 rfl (by kernel_rfl) rfl rfl ?_
 refine jA ?_
 refine RG.ownN [(200,200),(201,201),(202,202)] [(200,200),(201,201),(202,202)] (fun q=>w6 l r.mat hl q) rfl rfl rfl rfl rfl rfl rfl rfl rfl rfl ?_
 refine jH ?_
 exact cG rfl (.inl rfl) (eH rfl rfl rfl rfl rfl rfl rfl rfl rfl rfl)
def mO (l:List Cb) (r:Rl):List Cb:=bif decide (r.act.set=Cb.zero) then l else dX l r.act.set
theorem Ge (l:List Cb) (r:Rl) (hl:l.length<=100000000) (q:Nat->Option (Nat × Nat)):aq Tryz.prog 127 [.agg [.own 200 0 0],.agg (cRl r)] (gl q [200,202] (lsB l)) (.tup []) (gl q [200,202] (lsB (mO l r))):=by
 refine aq.of_body Tryz.func127 rfl (by kernel_rfl) rfl rfl ?_
 by_cases h:r.act.set=Cb.zero
 ·have e:mO l r=l:=by rw [mO,qF h];rfl
  rw [e]
  refine jA ?_
  refine RG.opS rfl (eG rfl af (by kernel_rfl) (by kernel_rfl) rfl rfl (oO r.act.set Cb.zero) (congrArg Bool.not (qF h))) rfl ?_
  refine jH ?_
  refine zF ?_
  exact cG rfl (.inl rfl) (eH rfl rfl rfl rfl rfl rfl rfl rfl rfl rfl)
 ·have e:mO l r=dX l r.act.set:=by rw [mO,qC h];rfl
  rw [e]
  refine jA ?_
  refine RG.opS rfl (eG rfl af (by kernel_rfl) (by kernel_rfl) rfl rfl (oO r.act.set Cb.zero) (congrArg Bool.not (qC h))) rfl ?_
  refine jH ?_
  refine zT ?_
  refine RG.ownN [(200,200),(201,201),(202,202)] [(200,200),(201,201),(202,202)] (fun q=>w6 l r.act.set hl q) rfl rfl rfl rfl rfl rfl rfl rfl rfl rfl ?_
  refine jH ?_
  exact cG rfl (.inl rfl) (eH rfl rfl rfl rfl rfl rfl rfl rfl rfl rfl)
theorem iB (l:List Cb) (x:Cb):(dX l x).length<=l.length+1:=by
 rw [dX]
 cases decide (x∈l)
 ·simp
 ·simp
theorem rV (l:List Cb) (r:Rl):(mO l r).length<=l.length+1:=by
 rw [mO]
 cases decide (r.act.set=Cb.zero)
 ·exact iB l _
 ·simp
theorem Rn.fnAgg {σ σ':Sto} {x:AV} {f:FuncId} {id ep ep' off:Nat} {bd bd':aD} (e:x = .fn f [.agg [.own id ep off]] []) (h:σ id=⟨ep,some bd⟩) (h':σ' id=⟨ep',some bd'⟩):Rn σ σ' x (.fn f [.agg [.own id ep' off]] []):=by
 subst e
 refine .fn rfl rfl (fun j x x' h1 h2=>?_) (fun j x x' h1 h2=>by cases h1)
 match j with
 | 0 =>
  cases h1;cases h2
  refine .agg rfl (fun j x h1=>?_) (fun j x x' h1 h2=>?_)
  ·match j with
   | 0=>cases h1;rfl
   | j+1=>cases h1
  ·match j with
   | 0=>cases h1;cases h2;exact .own h h'
   | j+1=>cases h1
 | j+1=>cases h1
theorem wQ (F : Nat) (step : List Cb -> Rl -> List Cb) (hstep : ∀ l r, (step l r).length <= l.length + 1) (H : ∀ l r, l.length <= 100000000 -> ∀ q, aq Tryz.prog F [.agg [.own 200 0 0], .agg (cRl r)] (gl q [200, 202] (lsB l)) (.tup []) (gl q [200, 202] (lsB (step l r)))) (c : Cf) (l : List Cb) (hl : l.length + (bo c).length <= 100000000) (q : Nat -> Option (Nat × Nat)) :
  aq Tryz.prog 77 [.agg (cCf c),.fn F [.agg [.own 200 0 0]] []] (gl q [200,202] (lsB l)) (.tup []) (gl q [200,202] (lsB ((bo c).foldl step l))):=by
 refine aq.of_body Tryz.func77 rfl (by kernel_rfl) rfl rfl ?_
 refine jA ?_
 refine AW.lens 11 rfl fun hm1=>?_
 rw [qH] at hm1
 generalize hG:(bo c).foldl step l=G
 refine AW.loopL (ι:=Nat × List Cb) (fun i=>[(1,.fn F [.agg [.own 200 0 0]] []),(11,.sl (c.tables.map bE)),(12,.i .i64 (c.tables.map bE).length),(13,.i .i64 (i.1:Nat))]) (fun i=>gl q [200,202] (lsB i.2)) (fun i=>i.1<=c.tables.length/\i.2.length+((c.tables.drop i.1).flatten.flatten).length<=100000000/\((c.tables.drop i.1).flatten.flatten).foldl step i.2=G) (fun i=>c.tables.length - i.1) (0,l) ⟨qR _,hl,hG⟩ ⟨Rn.fnAgg rfl rfl rfl,Rn.is rfl rfl,Rn.is rfl rfl,Rn.is rfl rfl,trivial⟩ (eH rfl rfl rfl rfl rfl rfl rfl rfl rfl rfl) fun i hi=>?_
 clear hG hl
 obtain ⟨k,l⟩:=i
 obtain ⟨hk,hb,hf⟩:=hi
 simp only at hk hb hf
 refine jA ?_
 refine AW.cond rfl (fun h0=>?_) (fun h0=>?_)
 rotate_left
 ·have h:¬k<c.tables.length:=by simpa using h0
  obtain rfl:k=c.tables.length:=by omega
  rw [vI] at hf
  subst hf
  refine zE ?_
  exact cG rfl (.inl rfl) (eH rfl rfl rfl rfl rfl rfl rfl rfl rfl rfl)
 have h:k<c.tables.length:=by simpa using h0
 rw [qV h,uL,List.flatten_append] at hf hb
 refine zB ?_
 refine RG.opS rfl (ai rfl (tk rfl) rfl (tk rfl) rfl rfl (show (c.tables.map bE)[k]?=some (bE c.tables[k]) by rw [qE,qA (by assumption)];rfl) rfl) rfl ?_
 generalize c.tables[k]=tab at hf hb
 generalize hR:(c.tables.drop (k+1)).flatten.flatten=R at hf hb
 refine jH ?_
 refine AW.lens 17 rfl fun hm2=>?_
 rw [qH] at hm2
 refine AW.loopL (ι:=Nat × List Cb) (fun i=>[(1,.fn F [.agg [.own 200 0 0]] []),(11,.sl (c.tables.map bE)),(12,.i .i64 (c.tables.map bE).length),(13,.i .i64 (k:Nat)),(17,.sl (tab.map aP)),(18,.i .i64 (tab.map aP).length),(19,.i .i64 (i.1:Nat))]) (fun i=>gl q [200,202] (lsB i.2)) (fun i=>i.1<=tab.length/\i.2.length+((tab.drop i.1).flatten++R).length<=100000000/\((tab.drop i.1).flatten++R).foldl step i.2=G) (fun i=>tab.length - i.1) (0,l) ⟨qR _,hb,hf⟩ ⟨Rn.fnAgg rfl rfl rfl,Rn.is rfl rfl,Rn.is rfl rfl,Rn.is rfl rfl,Rn.is rfl rfl,Rn.is rfl rfl,Rn.is rfl rfl,trivial⟩ (eH rfl rfl rfl rfl rfl rfl rfl rfl rfl rfl) fun i hi=>?_
 clear hf hb
 obtain ⟨j,l⟩:=i
 obtain ⟨hj,hb,hf⟩:=hi
 simp only at hj hb hf
 refine jA ?_
 refine AW.cond rfl (fun h1=>?_) (fun h1=>?_)
 rotate_left
 ·have h':¬j<tab.length:=by simpa using h1
  obtain rfl:j=tab.length:=by omega
  rw [vI] at hf hb
  refine zE ?_
  refine ⟨(k+1,l),⟨⟨h,?_,?_⟩,by show c.tables.length - (k+1)<c.tables.length - k;omega⟩,⟨Rn.fnAgg rfl rfl rfl,Rn.is rfl rfl,Rn.is rfl rfl,Rn.is (au h hm1) rfl,trivial⟩,eH rfl rfl rfl rfl rfl rfl rfl rfl rfl rfl⟩
  ·rw [hR];exact hb
  ·rw [hR];exact hf
 have h':j<tab.length:=by simpa using h1
 rw [qV h',uL,uI] at hf hb
 refine zB ?_
 refine RG.opS rfl (ai rfl (tk rfl) rfl (tk rfl) rfl rfl (show (tab.map aP)[j]?=some (aP tab[j]) by rw [qE,qA (by assumption)];rfl) rfl) rfl ?_
 generalize tab[j]=rls at hf hb
 generalize hR2:(tab.drop (j+1)).flatten++R=R2 at hf hb
 refine jH ?_
 refine AW.lens 23 rfl fun hm3=>?_
 rw [qH] at hm3
 refine AW.loopL (ι:=Nat × List Cb) (fun i=>[(1,.fn F [.agg [.own 200 0 0]] []),(11,.sl (c.tables.map bE)),(12,.i .i64 (c.tables.map bE).length),(13,.i .i64 (k:Nat)),(17,.sl (tab.map aP)),(18,.i .i64 (tab.map aP).length),(19,.i .i64 (j:Nat)),(23,.sl (rls.map cRl)),(24,.i .i64 (rls.map cRl).length),(25,.i .i64 (i.1:Nat))]) (fun i=>gl q [200,202] (lsB i.2)) (fun i=>i.1<=rls.length/\i.2.length+(rls.drop i.1++R2).length<=100000000/\(rls.drop i.1++R2).foldl step i.2=G) (fun i=>rls.length - i.1) (0,l) ⟨qR _,hb,hf⟩ ⟨Rn.fnAgg rfl rfl rfl,Rn.is rfl rfl,Rn.is rfl rfl,Rn.is rfl rfl,Rn.is rfl rfl,Rn.is rfl rfl,Rn.is rfl rfl,Rn.is rfl rfl,Rn.is rfl rfl,Rn.is rfl rfl,trivial⟩ (eH rfl rfl rfl rfl rfl rfl rfl rfl rfl rfl) fun i hi=>?_
 clear hf hb
 obtain ⟨m,l⟩:=i
 obtain ⟨hmm,hb,hf⟩:=hi
 simp only at hmm hb hf
 refine jA ?_
 refine AW.cond rfl (fun h2=>?_) (fun h2=>?_)
 rotate_left
 ·have h'':¬m<rls.length:=by simpa using h2
  obtain rfl:m=rls.length:=by omega
  rw [vI] at hf hb
  refine zE ?_
  refine ⟨(j+1,l),⟨⟨h',?_,?_⟩,by show tab.length - (j+1)<tab.length - j;omega⟩,⟨Rn.fnAgg rfl rfl rfl,Rn.is rfl rfl,Rn.is rfl rfl,Rn.is rfl rfl,Rn.is rfl rfl,Rn.is rfl rfl,Rn.is (au h' hm2) rfl,trivial⟩,eH rfl rfl rfl rfl rfl rfl rfl rfl rfl rfl⟩
  ·rw [hR2];exact hb
  ·rw [hR2];exact hf
 have h'':m<rls.length:=by simpa using h2
 rw [qV h''] at hf hb
 refine zB ?_
 refine RG.opS rfl (ai rfl (tk rfl) rfl (tk rfl) rfl rfl (show (rls.map cRl)[m]?=some (cRl rls[m]) by rw [qE,qA (by assumption)];rfl) rfl) rfl ?_
 generalize rls[m]=r at hf hb
 have hs:=hstep l r
 rw [uW,qS] at hb
 rw [uW,uX] at hf
 refine jH ?_
 refine RG.ownN [(200,200),(201,201),(202,202)] [(200,200),(201,201),(202,202)] (fun q=>H l r (by omega) q) rfl rfl rfl rfl rfl rfl rfl rfl rfl rfl ?_
 refine jH ?_
 exact ⟨(m+1,step l r),⟨⟨h'',by show (step l r).length+(rls.drop (m+1)++R2).length<=100000000;omega,hf⟩,by show rls.length - (m+1)<rls.length - m;omega⟩,⟨Rn.fnAgg rfl rfl rfl,Rn.is rfl rfl,Rn.is rfl rfl,Rn.is rfl rfl,Rn.is rfl rfl,Rn.is rfl rfl,Rn.is rfl rfl,Rn.is rfl rfl,Rn.is rfl rfl,Rn.is (au h'' hm3) rfl,trivial⟩,eH rfl rfl rfl rfl rfl rfl rfl rfl rfl rfl⟩
theorem gk {P:Program} {N:Nat} {o:Oper} {s:St} (k:Nat) {α:Type} (cF:α->List AV) (l:List α) {t e id ep n:Nat} {ti ei:TI} {x i:Operand} {kd:IntKind} (hlt:k<n) (ho:o.op = .indexAddr t x i) (ht:aF P t ti) (hk:ti.k = .slice e) (he:aF P e ei) (hx:s.ev x = .row id ep 0 n) (hid:s.σ id=⟨ep,some (.row e ei.n (l.map cF))⟩) (hi:s.ev i = .i kd (k:Int)) :
  ay P N o s ⟨.el id ep k 0,[],[id]⟩:=by
 have h:=xD (N:=N) ho ht hk he hx hid hi hlt rfl
 rw [vN] at h
 exact h
theorem tK {P:Program} {N:Nat} {o:Oper} {s:St} (k:Nat) {α:Type} (cF:α->List AV) (l:List α) (c:α) (hk:l[k]?=some c) {t ty m id ep:Nat} {ti:TI} {p:Operand} (ho:o.op = .load t p) (ht:aF P t ti) (hp:s.ev p = .el id ep k 0) (hid:s.σ id=⟨ep,some (.row ty m (l.map cF))⟩) (hr:ldA ti (cF c)=some (.agg (cF c))) :
  ay P N o s ⟨.agg (cF c),[],[id]⟩:=by
 refine j8 ho ht (cs:=(cF c).drop 0) (by rw [hp];exact .el hid (by rw [qE,hk];rfl)) ?_
 rw [uR]
 exact hr
def Eb (a b:Cb):Int:=IntKind.i64.wrap (a.care.ones - b.care.ones)
theorem pc (a b:Cb):ae Tryz.prog 82 [.agg (cCb a),.agg (cCb b)] (.i .i64 (Eb a b)):=by
 refine jb Tryz.func82 ?_
 refine jA ?_
 refine jc (zO a.care) ?_
 refine wH rfl ?_
 refine jc (zO b.care) ?_
 refine zH ?_
 rfl
theorem Dc {m:List Cb} {j:Nat} (h:j<m.length):m.getD j Cb.zero=m[j]:=by
 rw [qM,qA h];rfl
def srB (m0:List Cb) (n:Nat) (l:List Cb):List (Nat × SB):=[(200,⟨0,some (.box 170 [.row 201 0 0 n,.ref 202 0 .map])⟩),(201,⟨0,some (.row 36 4 (l.map cCb))⟩),(202,⟨0,some (fE m0)⟩)]
theorem FM {s:St} {q:Nat->Option (Nat × Nat)} {m0 l:List Cb} {e e1 e1' e2 e2' g g2 n:Nat} {els:List (List AV)} {o:aD} (h0:s.σ 200=⟨e,some (.box 170 [.row 201 e1 0 n,.ref 202 e2 .map])⟩) (h1:s.σ 201=⟨e1',some (.row 36 4 els)⟩) (h2:s.σ 202=⟨e2',some o⟩)
  (hg:s.σ 1100=⟨g,some (.ghost 200 e (q 200))⟩) (hg2:s.σ 1102=⟨g2,some (.ghost 202 e2' (q 202))⟩)
  (he:e1=e1') (he2:e2=e2') (hel:els=l.map cCb) (ho:o=fE m0):WkB s (lkB (gl q [200,202] (srB m0 n l))) (gl q [200,202] (srB m0 n l)):=by
 subst he he2 hel ho
 exact ⟨.ghost hg h0 rfl,.ghost hg2 h2 rfl,.boxL h0 ⟨Rn.rowIs rfl h1 rfl,Rn.refIs rfl h2 rfl,trivial⟩ rfl,.row h1 rfl,.obj h2 rfl,trivial⟩
def yw (l l':List Cb):Prop:=∀(m0:List Cb) (n:Nat),n=(l.map cCb).length->∀q,aq Tryz.prog 81 [.row 201 0 0 n,.fn 82 [] []] (gl q [200,202] (srB m0 n l)) (.tup []) (gl q [200,202] (srB m0 n l'))
def Cf.Small (c:Cf):Prop:=∀t∈c.tables,t.flatten.length<=1000000000000000
theorem jz:∀(t:List (List Rl)) (n:Nat),n+t.flatten.length<=4000000000000000->fo t n=((n+t.flatten.length:Nat):Int)
 | [],n,_=>by simp [fo]
 | l::t,n,h=>by
  rw [uL,qK] at h ⊢
  have e:IntKind.i64.wrap ((n:Int)+(l.length:Nat))=((n+l.length:Nat):Int):=by
   rw [IntKind.wrap_i64]
   omega
  rw [fo,e,jz t _ (by omega)]
  congr 1
  omega
theorem jo {α:Type} {m:Nat}:∀(l:List (List α)),(∀x∈l,x.length<=m)->l.flatten.length<=m*l.length
 | [],_=>by simp
 | x::l,h=>by
  have h1:=h x vD
  have h2:=jo l fun y hy=>h y (qZ _ hy)
  rw [uL,qK,qS,Nat.mul_add,Nat.mul_one]
  omega
theorem ij {c:Cf} (h:c.Ok) (hS:c.Small):(bo c).length<=576:=by
 have h0:=cC h.topo
 have hl:=h.len
 have h1:∀x∈c.tables.map List.flatten,x.length<=96:=fun x hx=>by
  obtain ⟨t,ht,rfl⟩:=vH.1 hx
  obtain ⟨n,hn⟩:=List.mem_iff_getElem?.1 ht
  have:=(cY (h.tabs n t hn))
  have h3:=hS t ht
  have h2:=jz t 0 (by omega)
  have h4:((0:Nat):Int)=0:=rfl
  rw [h4] at h2
  omega
 have h2:=jo _ h1
 have h3:(bo c).length=(c.tables.map List.flatten).flatten.length:=by
  rw [bo,List.flatten_flatten]
 rw [h3]
 rw [qH] at h2
 omega
theorem sA:∀(rs:List Rl) (l:List Cb),rs.foldl mO l=jh l rs
 | [],l=>rfl
 | r::rs,l=>by rw [uX,sA,jh];rfl
theorem gA:∀(xs l:List Cb),(cJ l xs).length<=l.length+xs.length
 | [],l=>qJ _
 | x::xs,l=>by
  rw [cJ]
  have:=gA xs (dX l x)
  have:=iB l x
  rw [qS]
  omega
theorem kS:∀(rs:List Rl) (l:List Cb),(jh l rs).length<=l.length+rs.length
 | [],l=>qJ _
 | r::rs,l=>by
  have h1:=kS rs (mO l r)
  have h2:=rV l r
  rw [qS]
  show (jh (mO l r) rs).length<=_
  omega
def Ep (c:Cf) (l:List Cb):List (Nat × SB):=(2,⟨0,some (.box 31 (cCf c))⟩)::(7,⟨0,some (.box 165 [.own 200 0 0])⟩)::lsB l
theorem uo {s:St} {c:Cf} {l:List Cb} {e e9 e8 e8' e1 e1' e2 e2' n:Nat} {els:List (List AV)} {o:aD} (h9:s.σ 2=⟨e9,some (.box 31 (cCf c))⟩) (h8:s.σ 7=⟨e8,some (.box 165 [.own 200 e8' 0])⟩) (h0:s.σ 200=⟨e,some (.box 170 [.row 201 e1 0 n,.ref 202 e2 .map])⟩) (h1:s.σ 201=⟨e1',some (.row 36 4 els)⟩) (h2:s.σ 202=⟨e2',some o⟩)
  (h8e:e8'=e) (he:e1=e1') (he2:e2=e2') (hn:n=(l.map cCb).length) (hel:els=l.map cCb) (ho:o=fE l):WkB s (lkB (Ep c l)) (Ep c l):=by
 subst h8e he he2 hn hel ho
 exact ⟨ic.same h9 rfl rfl,.boxL h8 ⟨Rn.ownIs rfl h0 rfl,trivial⟩ rfl,.boxL h0 ⟨Rn.rowIs rfl h1 rfl,Rn.refIs rfl h2 rfl,trivial⟩ rfl,.row h1 rfl,.obj h2 rfl,trivial⟩
theorem E7 (c:Cf) (h0:c.sound=0) (hS:c.Small) (V:Nat) (hV:V<=255):ae Tryz.prog 75 [.agg (cCf c),.i .i64 (V:Nat)] (.tup [.sl ((ed c V).map cCb),.i .i64 0]):=by
 have hc:=Cf.ok h0
 have hE:=f9 hc.topo
 have hR:=ij hc hS
 refine jb Tryz.func75 ?_
 have hm:(aG c.topo.ports).length<=9223372036854775807:=by omega
 have hCS:=dD c
 rw [h0] at hCS
 refine jA ?_
 refine jc hCS ?_;refine jH ?_
 refine AW.condF rfl ?_;refine jB ?_
 refine AW.text ?_
 have g1:¬((V:Nat):Int)<0:=by omega
 have g2:¬((V:Nat):Int)>255:=by omega
 refine RG.runO af 0 [(18,.b false),(21,.b false)] 400 rfl jD ?_
 refine jB ?_
 refine zF ?_
 refine RG.ownN [] [(3,200),(1,202),(9,201)] w7 rfl rfl rfl rfl rfl rfl rfl rfl rfl rfl ?_
 refine jH ?_
 refine jm (i5 c.topo.ports hc.topo) ?_;refine jH ?_
 generalize hA:cJ [] ((aG c.topo.ports).map fun s=>bL c s V)=A
 have hG:jh A (bo c)=ed c V:=by rw [ed,hA]
 have hAl:A.length<=36:=by
  rw [<- hA]
  have:=gA ((aG c.topo.ports).map fun s=>bL c s V) []
  rw [qH] at this
  simp at this
  omega
 have hst:∀s∈aG c.topo.ports,ae Tryz.prog 118 [.agg (cCf c),.agg (cSp s),.i .i64 (V:Nat)] (.tup [.agg (cCb (bL c s V)),.i .i64 0]):=fun s hs=>by
  have h:=rQ c s V
  have e:dH c s V=0:=by rw [dH,if_pos h0,if_neg (by omega),if_pos hs]
  rw [ig,if_pos e,e] at h
  exact h
 refine AW.loopL (ι:=Nat × List Cb) (fun i=>[(1,.i .i64 (V:Nat)),(2,.own 2 0 0),(7,.own 7 0 0),(27,.sl ((aG c.topo.ports).map cSp)),(28,.i .i64 ((aG c.topo.ports).map cSp).length),(29,.i .i64 (i.1:Nat))]) (fun i=>Ep c i.2) (fun i=>(i.1<=(aG c.topo.ports).length/\i.2.length<=i.1)/\cJ i.2 (((aG c.topo.ports).drop i.1).map fun s=>bL c s V)=A) (fun i=>(aG c.topo.ports).length - i.1) (0,[]) ⟨⟨qR _,qR _⟩,hA⟩ jQ (uo rfl rfl rfl rfl rfl rfl rfl rfl rfl rfl rfl) fun i hi=>?_
 clear hA
 obtain ⟨k,l⟩:=i
 obtain ⟨⟨hk,hl⟩,hf⟩:=hi
 simp only at hk hl hf
 refine jA ?_
 refine AW.cond rfl (fun h1=>?_) (fun h1=>?_)
 rotate_left
 ·have h:¬k<(aG c.topo.ports).length:=by simpa using h1
  obtain rfl:k=(aG c.topo.ports).length:=by omega
  rw [vI] at hf
  obtain rfl:l=A:=hf
  have hsl:=kS (bo c) l
  refine zE ?_
  refine RG.ownN [(200,200),(201,201),(202,202)] [(200,200),(201,201),(202,202)] (fun q=>wQ 127 mO rV Ge c l (by omega) q) rfl rfl rfl rfl rfl rfl rfl rfl rfl rfl ?_
  rw [sA,hG]
  refine jH ?_
  refine RG.callMS rfl rfl rfl rfl (congrArg (fun x=>[x]) (bq rfl)) rfl (eV (ed c V)) rfl ?_;refine jH ?_
  exact zS
 have h:k<(aG c.topo.ports).length:=by simpa using h1
 rw [qV h,vE,cJ] at hf
 have hs:=hst _ (vS h)
 refine zB ?_
 refine RG.opS rfl (ai rfl (tk rfl) rfl (tk rfl) rfl rfl (show ((aG c.topo.ports).map cSp)[k]?=some (cSp (aG c.topo.ports)[k]) by rw [qE,qA (by assumption)];rfl) rfl) rfl ?_
 generalize (aG c.topo.ports)[k]=s at hf hs
 refine jH ?_
 refine jm hs ?_;refine jH ?_
 refine zF ?_
 refine RG.ownN [(200,200),(201,201),(202,202)] [(200,200),(201,201),(202,202)] (fun q=>w6 l (bL c s V) (by omega) q) rfl rfl rfl rfl rfl rfl rfl rfl rfl rfl ?_
 refine jH ?_
 have hal:=iB l (bL c s V)
 exact ⟨(k+1,dX l (bL c s V)),⟨⟨⟨h,by show (dX l (bL c s V)).length<=k+1;omega⟩,hf⟩,by show (aG c.topo.ports).length - (k+1)<(aG c.topo.ports).length - k;omega⟩,⟨Rn.is rfl rfl,Rn.ownIs rfl rfl rfl,Rn.ownIs rfl rfl rfl,Rn.is rfl rfl,Rn.is rfl rfl,Rn.is (au h hm) rfl,trivial⟩,(uo rfl rfl rfl rfl rfl rfl rfl rfl rfl rfl rfl)⟩
def Gf (l:List Cb) (r:Rl):List Cb:=dX l r.mat
theorem vm:∀(rs:List Rl) (l:List Cb),rs.foldl Gf l=cJ l (rs.map Rl.mat)
 | [],l=>rfl
 | r::rs,l=>by rw [uX,vm,vE,cJ];rfl
theorem yu {l:List Cb} {x p:Cb} {n:Nat} (h:l[n]?=some p):(dX l x)[n]?=some p:=by
 obtain ⟨m,hm⟩:=si (l:=l) (x:=x)
 rw [hm,List.getElem?_append_left (qD.1 h).1]
 exact h
def DK (l:List Cb):List (Nat × SB):=(8,⟨0,some (.box 165 [.own 200 0 0])⟩)::lsB l
theorem jM {s:St} {l:List Cb} {e e8 e8' e1 e1' e2 e2' n:Nat} {els:List (List AV)} {o:aD} (h8:s.σ 8=⟨e8,some (.box 165 [.own 200 e8' 0])⟩) (h0:s.σ 200=⟨e,some (.box 170 [.row 201 e1 0 n,.ref 202 e2 .map])⟩) (h1:s.σ 201=⟨e1',some (.row 36 4 els)⟩) (h2:s.σ 202=⟨e2',some o⟩)
  (h8e:e8'=e) (he:e1=e1') (he2:e2=e2') (hn:n=(l.map cCb).length) (hel:els=l.map cCb) (ho:o=fE l):WkB s (lkB (DK l)) (DK l):=by
 subst h8e he he2 hn hel ho
 exact ⟨.boxL h8 ⟨Rn.ownIs rfl h0 rfl,trivial⟩ rfl,.boxL h0 ⟨Rn.rowIs rfl h1 rfl,Rn.refIs rfl h2 rfl,trivial⟩ rfl,.row h1 rfl,.obj h2 rfl,trivial⟩
def ofR (a:List Cb) (l':List Cb):AV:=bif decide (a.length>500) then .tup [.sl [],.i .i64 10] else .tup [.sl (l'.map cCb),.i .i64 0]
theorem Ga (c:Cf) (h0:c.sound=0) (hS:c.Small) (V:Nat) (hV:V<=255) (l':List Cb) (hP:l'.Perm (aK c V)) (hM:(aK c V).length<=500->yw (aK c V) l'):ae Tryz.prog 46 [.agg (cCf c),.i .i64 (V:Nat)] (ofR (aK c V) l'):=by
 have hc:=Cf.ok h0
 have hE:=f9 hc.topo
 have hR:=ij hc hS
 have hsl:(ed c V).length<=700:=by
  rw [ed]
  have h1:=kS (bo c) (cJ [] ((aG c.topo.ports).map fun s=>bL c s V))
  have h2:=gA ((aG c.topo.ports).map fun s=>bL c s V) []
  rw [qH,List.length_nil] at h2
  omega
 have hal:=gA ((bo c).map Rl.mat) []
 rw [qH,List.length_nil] at hal
 have hms:=E7 c h0 hS V hV
 rw [aK] at hP hM ⊢
 refine jb Tryz.func46 ?_
 generalize ed c V=sets at hP hM hsl hms ⊢
 have hm:sets.length<=9223372036854775807:=by omega
 generalize hA:cD sets 501 0 (cJ [] ((bo c).map Rl.mat))=A at hP hM ⊢
 refine jA ?_
 refine jm hms ?_;refine jH ?_
 refine zF ?_
 refine RG.ownN [] [(3,200),(1,202),(9,201)] w7 rfl rfl rfl rfl rfl rfl rfl rfl rfl rfl ?_
 refine jH ?_
 refine RG.ownN [(200,200),(201,201),(202,202)] [(200,200),(201,201),(202,202)] (fun q=>wQ 78 Gf (fun l r=>iB l r.mat) Bp c [] (by simp;omega) q) rfl rfl rfl rfl rfl rfl rfl rfl rfl rfl ?_
 rw [vm]
 generalize cJ [] ((bo c).map Rl.mat)=all at hA hal
 refine jH ?_
 refine AW.loopL (ι:=Nat × List Cb) (fun i=>[(6,.sl (sets.map cCb)),(8,.own 8 0 0),(9,.i .i64 (i.1:Nat))]) (fun i=>DK i.2) (fun i=>(i.1<=501/\i.2.length<=2000)/\cD sets (501 - i.1) i.1 i.2=A) (fun i=>501 - i.1) (0,all) ⟨⟨qR _,by show all.length<=2000;omega⟩,hA⟩ jQ (jM rfl rfl rfl rfl rfl rfl rfl rfl rfl rfl) fun i hi=>?_
 clear hA hal all
 obtain ⟨n,all⟩:=i
 obtain ⟨⟨hn,hl⟩,hf⟩:=hi
 simp only at hn hl hf
 have hlm:(all.map cCb).length=all.length:=qH ..
 refine zB ?_
 by_cases g1:((n:Nat):Int)<((all.map cCb).length:Nat)
 ·by_cases g2:(((all.map cCb).length:Nat):Int)<=500
  ·refine RG.runO af 0 [(36,.b true),(44,.b true)] 400 rfl jD ?_
   have hn5:n<500:=by omega
   have e1:all[n]?=some (all.getD n Cb.zero):=by rw [Dc (by omega)];exact qA _
   rw [show 501 - n=(501 - (n+1))+1 by omega,cD,qF (show n<all.length by omega),qF (show all.length<=500 by omega),Bool.and_self,cond_true] at hf
   have hl5:all.length<=500:=by omega
   generalize all.getD n Cb.zero=p at hf e1
   refine jB ?_
   refine zT ?_
   refine AW.loopL (ι:=Nat × List Cb) (fun i=>[(6,.sl (sets.map cCb)),(8,.own 8 0 0),(9,.i .i64 (n:Nat)),(48,.sl (sets.map cCb)),(49,.i .i64 (sets.map cCb).length),(50,.i .i64 (i.1:Nat))]) (fun i=>DK i.2) (fun i=>(i.1<=sets.length/\i.2.length<=500+i.1/\i.2[n]?=some p)/\cD sets (501 - (n+1)) (n+1) (bV p (sets.drop i.1) i.2)=A) (fun i=>sets.length - i.1) (0,all) ⟨⟨qR _,hl5,e1⟩,hf⟩ jQ (jM rfl rfl rfl rfl rfl rfl rfl rfl rfl rfl) fun i hi=>?_
   clear hf e1 hl5
   obtain ⟨k,out⟩:=i
   obtain ⟨⟨hk,hl2,e1⟩,hf⟩:=hi
   simp only at hk hl2 e1 hf
   have hno:=(qD.1 e1).1
   refine jA ?_
   refine AW.cond rfl (fun h3=>?_) (fun h3=>?_)
   rotate_left
   ·have h:¬k<sets.length:=by simpa using h3
    obtain rfl:k=sets.length:=by omega
    rw [vI,bV] at hf
    refine zE ?_
    exact ⟨(n+1,out),⟨⟨⟨by show n+1<=501;omega,by show out.length<=2000;omega⟩,hf⟩,by show 501 - (n+1)<501 - n;omega⟩,⟨Rn.is rfl rfl,Rn.ownIs rfl rfl rfl,Rn.is (au (show n<1000 by omega) (by decide)) rfl,trivial⟩,jM rfl rfl rfl rfl rfl rfl rfl rfl rfl rfl⟩
   have h:k<sets.length:=by simpa using h3
   rw [qV h,bV] at hf
   refine zB ?_
   refine RG.opS rfl (ai rfl (tk rfl) rfl (tk rfl) rfl rfl (show (sets.map cCb)[k]?=some (cCb sets[k]) by rw [qE,qA (by assumption)];rfl) rfl) rfl ?_
   generalize sets[k]=s at hf
   refine jH ?_
   refine RG.opS rfl (gk (n) cCb (out) (by rw [qH];exact hno) rfl (tk rfl) rfl (tk rfl) rfl rfl rfl) rfl ?_
   refine RG.opS rfl (tK (n) cCb (out) p e1 rfl (tk rfl) rfl rfl rfl) rfl ?_
   refine wH rfl ?_
   cases hh:p.hits s
   ·rw [hh,cond_false] at hf
    refine RG.callS rfl rfl rfl rfl rfl (rD p s _ hh) rfl rfl ?_;refine jH ?_
    refine zF ?_
    exact ⟨(k+1,out),⟨⟨⟨h,by show out.length<=500+(k+1);omega,e1⟩,hf⟩,by show sets.length - (k+1)<sets.length - k;omega⟩,⟨Rn.is rfl rfl,Rn.ownIs rfl rfl rfl,Rn.is rfl rfl,Rn.is rfl rfl,Rn.is rfl rfl,Rn.is (au h hm) rfl,trivial⟩,jM rfl rfl rfl rfl rfl rfl rfl rfl rfl rfl⟩
   ·rw [hh,cond_true] at hf
    have ha:=iB out (p.before s)
    refine RG.callS rfl rfl rfl rfl rfl (rD p s _ hh) rfl rfl ?_;refine jH ?_
    refine zT ?_
    refine RG.ownN [(200,200),(201,201),(202,202)] [(200,200),(201,201),(202,202)] (fun q=>w6 out (p.before s) (by omega) q) rfl rfl rfl rfl rfl rfl rfl rfl rfl rfl ?_
    refine jH ?_
    exact ⟨(k+1,dX out (p.before s)),⟨⟨⟨h,by show (dX out (p.before s)).length<=500+(k+1);omega,yu e1⟩,hf⟩,by show sets.length - (k+1)<sets.length - k;omega⟩,⟨Rn.is rfl rfl,Rn.ownIs rfl rfl rfl,Rn.is rfl rfl,Rn.is rfl rfl,Rn.is rfl rfl,Rn.is (au h hm) rfl,trivial⟩,jM rfl rfl rfl rfl rfl rfl rfl rfl rfl rfl⟩
  ·refine RG.runO af 0 [(36,.b true),(44,.b false)] 400 rfl jD ?_
   have e:all=A:=by
    by_cases hz:501 - n=0
    ·rw [hz,cD] at hf;exact hf
    ·rw [show 501 - n=(501 - n - 1)+1 by omega,cD] at hf
     have:(decide (n<all.length) && decide (all.length<=500))=false:=by
      rw [Bool.and_eq_false_iff]
      simp only [decide_eq_false_iff_not]
      omega
     rw [this] at hf
     exact hf
   subst e
   clear hf
   refine jB ?_
   refine zF ?_
   refine jE ?_;refine jA ?_
   refine AW.cond rfl (fun h3=>?_) (fun h3=>?_)
   ·have h3:(((all.map cCb).length:Nat):Int)>500:=of_decide_eq_true h3
    have e:ofR all l' = .tup [.sl [],.i .i64 10]:=by rw [ofR,qF (by omega)];rfl
    rw [e]
    refine zR ?_
    rfl
   ·have h3:¬(((all.map cCb).length:Nat):Int)>500:=of_decide_eq_false h3
    have hl':=hP.length_eq
    have e:ofR all l' = .tup [.sl (l'.map cCb),.i .i64 0]:=by rw [ofR,qC (by omega)];rfl
    rw [e]
    refine jA ?_
    refine RG.ownN [(200,200),(201,201),(202,202)] [(200,200),(201,201),(202,202)] (fun q=>hM (by omega) all _ rfl q) rfl rfl rfl rfl rfl rfl rfl rfl rfl rfl ?_
    refine jH ?_
    refine RG.callMS rfl rfl rfl rfl (congrArg (fun x=>[x]) (show AV.sl (List.take (all.map cCb).length (List.drop 0 (l'.map cCb))) = .sl (l'.map cCb) by rw [uR,vL (by rw [qH,qH];omega)])) rfl (eV l') rfl ?_;refine jH ?_
    exact zS
 ·refine RG.runO af 0 [(36,.b false)] 400 rfl jD ?_
  have e:all=A:=by
   by_cases hz:501 - n=0
   ·rw [hz,cD] at hf;exact hf
   ·rw [show 501 - n=(501 - n - 1)+1 by omega,cD] at hf
    have:(decide (n<all.length) && decide (all.length<=500))=false:=by
     rw [Bool.and_eq_false_iff]
     simp only [decide_eq_false_iff_not]
     omega
    rw [this] at hf
    exact hf
  subst e
  clear hf
  refine jB ?_
  refine zF ?_
  refine jE ?_;refine jA ?_
  refine AW.cond rfl (fun h3=>?_) (fun h3=>?_)
  ·have h3:(((all.map cCb).length:Nat):Int)>500:=of_decide_eq_true h3
   have e:ofR all l' = .tup [.sl [],.i .i64 10]:=by rw [ofR,qF (by omega)];rfl
   rw [e]
   refine zR ?_
   rfl
  ·have h3:¬(((all.map cCb).length:Nat):Int)>500:=of_decide_eq_false h3
   have hl':=hP.length_eq
   have e:ofR all l' = .tup [.sl (l'.map cCb),.i .i64 0]:=by rw [ofR,qC (by omega)];rfl
   rw [e]
   refine jA ?_
   refine RG.ownN [(200,200),(201,201),(202,202)] [(200,200),(201,201),(202,202)] (fun q=>hM (by omega) all _ rfl q) rfl rfl rfl rfl rfl rfl rfl rfl rfl rfl ?_
   refine jH ?_
   refine RG.callMS rfl rfl rfl rfl (congrArg (fun x=>[x]) (show AV.sl (List.take (all.map cCb).length (List.drop 0 (l'.map cCb))) = .sl (l'.map cCb) by rw [uR,vL (by rw [qH,qH];omega)])) rfl (eV l') rfl ?_;refine jH ?_
   exact zS
theorem oz (c:Cf) (ht:aX c.topo.ports=0) (s:Sp):ae Tryz.prog 121 [.agg (cCf c),.agg (cSp s)] (.i .i64 (bD c.topo.ports s)):=by
 refine jb Tryz.func121 ?_
 by_cases hs:s∈aG c.topo.ports
 ·obtain ⟨n,r,a,p,hr,hp,hk,rfl⟩:=dY.1 hs
  have e:bD c.topo.ports ⟨n,a⟩=p.tenant:=by
   have h1:(c.topo.ports.getD n [])=r:=by rw [qM,hr];rfl
   have h2:r.getD a Pt.zero=p:=by rw [qM,hp];rfl
   have h3:bt c.topo.ports ⟨n,a⟩=p:=by rw [bt];simp only [vQ];rw [h1,h2]
   have h4:gV c.topo.ports ⟨n,a⟩=true:=by
    simp only [gV,qQ,vM,vQ,h1]
    exact ⟨by omega,Int.ofNat_lt.2 (qD.1 hr).1,by omega,Int.ofNat_lt.2 (qD.1 hp).1⟩
   rw [bD,h4,h3,qF hk]
   rfl
  rw [e]
  have hrx:(c.topo.ports.map aL)[n]?=some (aL r):=by rw [qE,hr];rfl
  have hpx:(r.map cPt)[a]?=some (cPt p):=by rw [qE,hp];rfl
  refine jA ?_
  refine jm (i5 c.topo.ports ht) ?_
  refine wH rfl ?_
  refine RG.callS rfl rfl rfl rfl rfl (eo _ _ true (qF hs)) rfl rfl ?_;refine jH ?_
  refine zF ?_
  refine jx hrx ?_
  refine wH rfl ?_
  refine jx hpx ?_
  refine zH ?_
  rfl
 ·have e:bD c.topo.ports s = -1:=tG ht hs
  rw [e]
  refine jA ?_
  refine jm (i5 c.topo.ports ht) ?_
  refine wH rfl ?_
  refine RG.callS rfl rfl rfl rfl rfl (eo _ _ false (qC hs)) rfl rfl ?_;refine jH ?_
  refine zT ?_
  exact zS
theorem xf (n:Int) (r:Run):ae Tryz.prog 125 [.i .i64 n,.ro (pD r)] (.b (!gr r n)):=by
 refine jb Tryz.func125 ?_
 refine jA ?_
 refine RG.callS rfl rfl rfl rfl rfl (Be r n _ rfl) rfl rfl ?_;refine jH ?_
 exact zS
def cZ (c:Cf) (s:Sp) (r:Run):Int:=if c.sound=0/\¬bD c.topo.ports s<0 then bz c s r else 0
theorem AN (c:Cf) (s:Sp) (r:Run):ae Tryz.prog 73 [.agg (cCf c),.agg (cSp s),.agg (pD r)] (.i .i64 (cZ c s r)):=by
 refine jb Tryz.func73 ?_
 have hCS:=dD c
 by_cases h0:c.sound=0
 rotate_left
 ·rw [cZ,if_neg fun h=>h0 h.1]
  refine jA ?_
  refine jc hCS ?_;refine jH ?_
  refine AW.cond rfl (fun h=>?_) (fun h=>?_)
  ·exact absurd (of_decide_eq_true h) h0
  refine jA ?_
  refine zT ?_
  exact zS
 have hc:=Cf.ok h0
 have hsz:=ik hc.sizes
 rw [h0] at hCS
 refine jA ?_
 refine jc hCS ?_;refine jH ?_
 refine zT ?_
 refine jc (oz c hc.topo s) ?_;refine jH ?_
 refine AW.cond rfl (fun h1=>?_) (fun h1=>?_)
 ·have h1:bD c.topo.ports s<0:=of_decide_eq_true h1
  rw [cZ,if_neg fun h=>h.2 h1]
  refine zR ?_
  rfl
 have h1:¬bD c.topo.ports s<0:=of_decide_eq_false h1
 rw [cZ,if_pos ⟨h0,h1⟩]
 refine jA ?_
 refine AW.cond rfl (fun k3=>?_) (fun k3=>?_)
 ·have k3:r.fin=3:=of_decide_eq_true k3
  refine zR ?_
  rw [bz,if_pos k3]
  rfl
 have k3:¬r.fin=3:=of_decide_eq_false k3
 refine jA ?_
 refine AW.cond rfl (fun k4=>?_) (fun k4=>?_)
 ·have k4:r.fin=4:=of_decide_eq_true k4
  refine zR ?_
  rw [bz,if_neg k3,if_pos k4]
  rfl
 have k4:¬r.fin=4:=of_decide_eq_false k4
 refine jA ?_
 refine AW.cond rfl (fun k2=>?_) (fun k2=>?_)
 rotate_left
 ·have k2:¬r.fin=2:=by simpa using k2
  refine zR ?_
  rw [bz,if_neg k3,if_neg k4,if_neg k2]
  rfl
 have k2:r.fin=2:=by simpa using k2
 rw [bz,if_neg k3,if_neg k4,if_pos k2]
 have hfn:∀x∈tc c.pol (bD c.topo.ports s) (bD c.topo.ports r.at_),ae Tryz.prog 125 [.i .i64 x,.ro (pD r)] (.b (!gr r x)):=fun x _=>xf x r
 refine jA ?_
 refine jc (oz c hc.topo r.at_) ?_;refine jH ?_
 cases ha:gv c.pol (bD c.topo.ports s) (bD c.topo.ports r.at_)
 ·refine RG.callS rfl rfl rfl rfl rfl (oe c.pol _ _ _ ha) rfl rfl ?_;refine jH ?_
  refine zT ?_
  exact zS
 refine RG.callS rfl rfl rfl rfl rfl (oe c.pol _ _ _ ha) rfl rfl ?_;refine jH ?_
 refine zF ?_
 refine RG.callMS rfl rfl rfl rfl rfl rfl (E4 c.pol _ _ hsz.2) rfl ?_;refine jH ?_
 cases hv:(tc c.pol (bD c.topo.ports s) (bD c.topo.ports r.at_)).any (fun n=>!gr r n)
 ·refine RG.callS rfl rfl rfl rfl rfl (fm 125 (pD r) _ _ hfn _ hv) rfl rfl ?_;refine jH ?_
  refine zF ?_
  exact zS
 ·refine RG.callS rfl rfl rfl rfl rfl (fm 125 (pD r) _ _ hfn _ hv) rfl rfl ?_;refine jH ?_
  refine zT ?_
  exact zS
def Run.zero:Run:=⟨0,⟨0,0⟩,[]⟩
def vdE (kind e:Int):Vd:=⟨kind,e,0,⟨0,0⟩,Hd.zero,Run.zero⟩
def dy (c:Cf) (V:Int):Int:=if c.sound=0 then (if V<0\/V>255 then 4 else 0) else c.sound
theorem fA (c:Cf) (V:Int):ae Tryz.prog 45 [.agg (cCf c),.i .i64 V] (.tup [.agg (cVd (vdE 3 (dy c V))),.b (!decide (dy c V=0))]):=by
 refine jb Tryz.func45 ?_
 by_cases h0:c.sound=0
 rotate_left
 ·have e:dy c V=c.sound:=by rw [dy,if_neg h0]
  rw [e]
  refine jA ?_
  refine jc (dD c) ?_
  refine wH rfl ?_;refine jB ?_
  refine AW.text ?_
  refine RG.runO af 0 [(10,.b false)] 400 rfl jD ?_
  refine jB ?_;refine zF ?_
  exact zS
 have hCS:=dD c
 rw [h0] at hCS
 refine jA ?_
 refine jc hCS ?_
 refine wH rfl ?_;refine jB ?_
 refine AW.text ?_
 by_cases g1:V<0
 ·refine RG.runO af 0 [(13,.b true)] 400 rfl jD ?_
  have e:dy c V=4:=by rw [dy,if_pos h0,if_pos (by omega)]
  rw [e]
  refine jB ?_;refine zT ?_
  exact zS
 ·by_cases g2:V>255
  ·refine RG.runO af 0 [(13,.b false),(16,.b true)] 400 rfl jD ?_
   have e:dy c V=4:=by rw [dy,if_pos h0,if_pos (by omega)]
   rw [e]
   refine jB ?_;refine zT ?_
   exact zS
  ·refine RG.runO af 0 [(13,.b false),(16,.b false)] 400 rfl jD ?_
   have e:dy c V=0:=by rw [dy,if_pos h0,if_neg (by omega)]
   rw [e]
   refine jB ?_;refine zF ?_
   exact zS
def lV (c:Cf) (V:Int) (s:Sp):List aH->Option Vd
 | []=>none
 | a::l=>bif decide (cZ c s (bC c s a.head V 10800)=0) then lV c V s l else some ⟨2,0,cZ c s (bC c s a.head V 10800),s,a.head,bC c s a.head V 10800⟩
def ja (c:Cf) (V:Int) (list:List aH):List Sp->Vd
 | []=>vdE 1 0
 | s::ss=>match lV c V s list with
  | some v=>v
  | none=>ja c V list ss
def cK (c:Cf) (V:Int) (list:List aH):Vd:=bif decide (dy c V=0) then ja c V list (aG c.topo.ports) else vdE 3 (dy c V)
theorem t7 (c:Cf) (V:Int) (list:List aH) (hL:dy c V=0->j9 c):ae Tryz.prog 34 [.agg (cCf c),.i .i64 V,.sl (list.map aB)] (.agg (cVd (cK c V list))):=by
 refine jb Tryz.func34 ?_
 rw [cK]
 by_cases h1:dy c V=0
 rotate_left
 ·have hm:=fA c V
  rw [qC h1] at hm ⊢
  refine jA ?_
  refine jm hm ?_;refine jH ?_
  refine zT ?_
  exact zS
 have hLk:=hL h1
 clear hL
 have hm:=fA c V
 rw [qF h1] at hm ⊢
 rw [h1] at hm
 rw [dy] at h1
 split at h1
 ·rename_i h0
  split at h1
  ·cases h1
  rename_i hV
  obtain ⟨v,rfl⟩:∃v:Nat,V=v:=⟨V.toNat,by omega⟩
  have hV:v<=255:=by omega
  have hc:=Cf.ok h0
  have hE:=f9 hc.topo
  have hme:(aG c.topo.ports).length<=9223372036854775807:=by omega
  rw [cond_true]
  refine jA ?_
  refine jm hm ?_;refine jH ?_
  refine zF ?_
  refine jm (i5 c.topo.ports hc.topo) ?_;refine jH ?_
  generalize hG:ja c v list (aG c.topo.ports)=G
  refine AW.lens 2 rfl fun hml=>?_
  rw [qH] at hml
  refine AW.loopL (ι:=Nat) (fun k=>[(1,.i .i64 (v:Nat)),(2,.sl (list.map aB)),(3,.own 3 0 0),(6,.own 6 0 0),(26,.sl ((aG c.topo.ports).map cSp)),(27,.i .i64 ((aG c.topo.ports).map cSp).length),(28,.i .i64 (k:Nat))]) (fun _=>[(3,⟨0,some (.box 31 (cCf c))⟩),(6,⟨0,some (.box 45 [.i .i64 0,.i .i64 0,.i .i64 0,.i .i64 0,.i .i64 0,.u 0,.u 0,.i .i64 0,.i .i64 0,.i .i64 0,.raw (.slice none 0 0)])⟩)]) (fun k=>k<=(aG c.topo.ports).length/\ja c v list ((aG c.topo.ports).drop k)=G) (fun k=>(aG c.topo.ports).length - k) 0 ⟨qR _,hG⟩ jW jW fun k hk=>?_
  clear hG
  obtain ⟨hk,hf⟩:=hk
  refine jA ?_
  refine AW.cond rfl (fun h2=>?_) (fun h2=>?_)
  rotate_left
  ·have h:¬k<(aG c.topo.ports).length:=by simpa using h2
   obtain rfl:k=(aG c.topo.ports).length:=by omega
   rw [vI,ja] at hf
   refine zE ?_
   refine jR ?_
   rw [<- hf]
   rfl
  have h:k<(aG c.topo.ports).length:=by simpa using h2
  have hs:=vS h
  rw [qV h,ja] at hf
  refine zB ?_
  refine RG.opS rfl (ai rfl (tk rfl) rfl (tk rfl) rfl rfl (show ((aG c.topo.ports).map cSp)[k]?=some (cSp (aG c.topo.ports)[k]) by rw [qE,qA (by assumption)];rfl) rfl) rfl ?_
  generalize (aG c.topo.ports)[k]=s at hf hs
  have hns:¬bD c.topo.ports s<0:=by
   have:=(jn hc.topo).2 hs
   omega
  refine jH ?_
  refine AW.loopL (ι:=Nat) (fun j=>[(1,.i .i64 (v:Nat)),(2,.sl (list.map aB)),(3,.own 3 0 0),(6,.own 6 0 0),(26,.sl ((aG c.topo.ports).map cSp)),(27,.i .i64 ((aG c.topo.ports).map cSp).length),(28,.i .i64 (k:Nat)),(10,.own 10 0 0),(32,.sl (list.map aB)),(33,.i .i64 (list.map aB).length),(34,.i .i64 (j:Nat))]) (fun _=>[(3,⟨0,some (.box 31 (cCf c))⟩),(6,⟨0,some (.box 45 [.i .i64 0,.i .i64 0,.i .i64 0,.i .i64 0,.i .i64 0,.u 0,.u 0,.i .i64 0,.i .i64 0,.i .i64 0,.raw (.slice none 0 0)])⟩),(10,⟨0,some (.box 40 (cSp s))⟩)]) (fun j=>j<=list.length/\(match lV c v s (list.drop j) with | some w=>w | none=>ja c v list ((aG c.topo.ports).drop (k+1)))=G) (fun j=>list.length - j) 0 ⟨qR _,hf⟩ jW jW fun j hj=>?_
  clear hf
  obtain ⟨hj,hf⟩:=hj
  refine jA ?_
  refine AW.cond rfl (fun h3=>?_) (fun h3=>?_)
  rotate_left
  ·have h':¬j<list.length:=by simpa using h3
   obtain rfl:j=list.length:=by omega
   rw [vI,lV] at hf
   refine zE ?_
   exact ⟨k+1,⟨⟨h,hf⟩,by omega⟩,⟨Rn.is rfl rfl,Rn.is rfl rfl,Rn.ownIs rfl rfl rfl,Rn.ownIs rfl rfl rfl,Rn.is rfl rfl,Rn.is rfl rfl,Rn.is (au h hme) rfl,trivial⟩,jW⟩
  have h':j<list.length:=by simpa using h3
  rw [qV h',lV] at hf
  refine zB ?_
  refine RG.opS rfl (ai rfl (tk rfl) rfl (tk rfl) rfl rfl (show (list.map aB)[j]?=some (aB list[j]) by rw [qE,qA (by assumption)];rfl) rfl) rfl ?_
  generalize list[j]=a at hf
  have hR:=Gp c h0 hLk s hs a.head v hV
  generalize bC c s a.head v 10800=r at hf hR
  refine jH ?_
  refine jm hR ?_;refine jH ?_
  refine jc (AN c s r) ?_;refine jH ?_
  refine AW.cond rfl (fun h4=>?_) (fun h4=>?_)
  ·have h4:¬cZ c s r=0:=by simpa using h4
   rw [qC h4,cond_false] at hf
   refine zR ?_
   rw [<- hf]
   rfl
  ·have h4:cZ c s r=0:=by simpa using h4
   rw [qF h4,cond_true] at hf
   refine jA ?_
   exact ⟨j+1,⟨⟨h',hf⟩,by omega⟩,⟨Rn.is rfl rfl,Rn.is rfl rfl,Rn.ownIs rfl rfl rfl,Rn.ownIs rfl rfl rfl,Rn.is rfl rfl,Rn.is rfl rfl,Rn.is rfl rfl,Rn.ownIs rfl rfl rfl,Rn.is rfl rfl,Rn.is rfl rfl,Rn.is (au h' hml) rfl,trivial⟩,jW⟩
 ·rename_i h0
  exact absurd h1 h0
def ki (c:Cf) (V:Int) (l':List Cb):Vd :=
 bif decide (dy c V=0) then (bif decide ((aK c V).length>500) then vdE 4 10 else bif decide ((aO l').2=0) then cK c V (aO l').1 else vdE 4 (aO l').2) else vdE 3 (dy c V)
theorem CM (c:Cf) (V:Int) (l':List Cb) (hL:dy c V=0->j9 c) (hS:dy c V=0->c.Small) (hP:dy c V=0->l'.Perm (aK c V)) (hM:dy c V=0->(aK c V).length<=500->yw (aK c V) l'):ae Tryz.prog 21 [.agg (cCf c),.i .i64 V] (.agg (cVd (ki c V l'))):=by
 refine jb Tryz.func21 ?_
 rw [ki]
 have hO:=t7 c V (aO l').1 hL
 by_cases h1:dy c V=0
 rotate_left
 ·have hm:=fA c V
  rw [qC h1] at hm ⊢
  refine jA ?_
  refine jm hm ?_;refine jH ?_
  refine zT ?_
  exact zS
 replace hS:=hS h1
 replace hP:=hP h1
 replace hM:=hM h1
 have hm:=fA c V
 rw [qF h1] at hm ⊢
 rw [h1] at hm
 rw [dy] at h1
 split at h1
 ·rename_i h0
  split at h1
  ·cases h1
  rename_i hV
  obtain ⟨v,rfl⟩:∃v:Nat,V=v:=⟨V.toNat,by omega⟩
  have hV:v<=255:=by omega
  have hOf:=Ga c h0 hS v hV l' hP hM
  rw [ofR] at hOf
  rw [cond_true]
  refine jA ?_
  refine jm hm ?_;refine jH ?_
  refine zF ?_
  by_cases h2:(aK c v).length>500
  ·rw [qF h2] at hOf ⊢
   refine jm hOf ?_;refine jH ?_
   refine zT ?_
   exact zS
  rw [qC h2] at hOf ⊢
  rw [cond_false]
  refine jm hOf ?_;refine jH ?_
  refine zF ?_
  refine jm (vc l') ?_;refine jH ?_
  refine AW.cond rfl (fun h3=>?_) (fun h3=>?_)
  ·have h3:¬(aO l').2=0:=by simpa using h3
   rw [qC h3,cond_false]
   refine zR ?_
   rfl
  ·have h3:(aO l').2=0:=by simpa using h3
   rw [qF h3,cond_true]
   refine jA ?_
   refine jm hO ?_;refine jH ?_
   exact zS
 ·rename_i h0
  exact absurd h1 h0
section
variable {P : Program} {N : Nat} {o : Oper} {s : St}
theorem fu {t e len id : Nat} {ti ei : TI} {parts : Array (Nat × Operand)} {xs cs : List AV} (ho : o.op = .buildSlice t len parts) (ht : aF P t ti) (hk : ti.k = .slice e) (he : aF P e ei) (h1 : ei.n = 1) (hlen : 0 < len) (hbig : Nat.ble len 1000000 = true)
    (hx:parts.toList.map (fun p=>s.ev p.2)=xs) (hf:jT (fun i=>some (i*ei.n,ei.n)) (List.replicate len ei.z).flatten ((parts.toList.map (·.1)).zip xs)=some cs) (hl:cs.length=len) (hone:cs.all AV.one=true) :
    ay P N o s ⟨.ref id ((s.σ id).ep+1) (.sl 0 len len),[(id,⟨(s.σ id).ep+1,some (.box e cs)⟩)],[]⟩:=by
  subst hx
  have hbig:=qU hbig
  refine iK [] fun s' W F μ a g1 g2 hid hs=>?_
  obtain ⟨inf,d,z,q1,q2,q3,q4,q5,q6,q7⟩:=he.h
  have hp:=iH (s:=s) hs (parts:=parts) fun p hp=>g1 p.2 (by rw [ho];simp only [Op.operands,vH];exact ⟨p,hp,rfl⟩)
  have hzr:=dJ (W:=W) (F:=F) q7
  have hzn:=he.zl
  have hzl:ei.z.length=z.cells.size:=by rw [<- qL];exact hzr.1.symm
  have hzip:(parts.toList.map (·.1)).zip (parts.toList.map fun p=>s.ev p.2)=parts.toList.map fun p=>(p.1,s.ev p.2):=by
    rw [List.zip_map']
  rw [hzip] at hf
  obtain ⟨us,k1,k2,k3⟩:=jP (W:=W) (F:=F) (μ:=μ) (σ:=s'.σ) (parts.toList.map fun p=>(p.1,s.ev p.2)) (parts.map fun (p:Nat × Operand)=>(p.1,a.eval p.2)).toList (List.replicate len ei.z).flatten
    ((Array.range (len*ei.n)).map (z.cells[· % z.cells.size]!)) cs hp.1 hp.2 (by rw [fT (m:=ei.n) (by intro cs hcs;rw [(List.mem_replicate.1 hcs).2];exact hzn)];simp) (fun j x v hx hv=>by
      have hj:j<len*ei.n:=by
        have:=(qD.1 hx).1
        rw [fT (m:=ei.n) (by intro cs hcs;rw [(List.mem_replicate.1 hcs).2];exact hzn)] at this
        simpa using this
      rw [mX _ _ _ (by rw [hzn];exact hj),hzn] at hx
      rw [Array.getElem?_map] at hv
      have:(Array.range (len*ei.n))[j]?=some j:=by simp [hj]
      rw [this] at hv
      have hlt:j % ei.n<z.cells.size:=by rw [<- hzl,hzn];exact Nat.mod_lt _ (by omega)
      have hv':z.cells.toList[j % ei.n]?=some v:=by
        rw [vO,uJ hlt]
        simp only [Option.map_some,<- hzl,hzn] at hv
        rw [getElem!_pos z.cells _ hlt] at hv
        exact hv
      have:=hzr.2 _ x v hx hv'
      exact ⟨this.2,.pure this.1⟩) hf
  have hpos:¬len*ei.n=0:=by rw [h1];omega
  refine ⟨.slice (some ⟨W.heap.size,0,none⟩) len len,us.toList,e,len,?_,fun μ' σ' hst hσ hμ=>⟨⟨W.heap.size,len,us.toList,rfl,heap_alloc_new W _,by simp [k2],fun j x v hx hv=>?_⟩,.ref id _ (.sl 0 len len) _ (by rw [hσ];exact qJ _) rfl fun bd hbd=>⟨W.heap.size,len,hμ,rfl⟩⟩⟩
  · have e3:us.toList.toArray=us:=by simp
    have hrun:=run_buildSlice (P:=P) W t e len (parts.map fun (p:Nat × Operand)=>(p.1,a.eval p.2)) us inf z (ht.slice hk) q1 q6 (by rw [q3,h1];omega) (by rw [q3];exact hpos) (by rw [q3];exact k1)
    simp only [execOp,ho,Sem.run_bind,hrun,Result.andThen_ok,Sem.run_pure,e3]
  · obtain ⟨r1,r2⟩:=k3 j x v hx (by simpa using hv)
    exact ⟨r1,r2.stp hs.inv hst⟩
theorem lK (k:Nat) {t e id ep n cap ty:Nat} {ti ei:TI} {x i:Operand} {kd:IntKind} {cs:List AV} (ho:o.op = .indexAddr t x i) (ht:aF P t ti) (hk:ti.k = .slice e) (he:aF P e ei) (h1:ei.n=1) (hx:s.ev x = .ref id ep (.sl 0 n cap)) (hid:s.σ id=⟨ep,some (.box ty cs)⟩) (hi:s.ev i = .i kd (k:Int)) (hlt:k<n) :
  ay P N o s ⟨.own id ep k,[],[id]⟩:=by
 refine aA [id] _ fun s' W F μ a g1 g2 hs=>?_
 have hid':=(g2 id (by simp)).trans hid
 have ex:=hs.ev x
 rw [g1 x (by rw [ho];simp [Op.operands]),hx] at ex
 have ei':=hs.ev i
 rw [g1 i (by rw [ho];simp [Op.operands]),hi] at ei'
 obtain ⟨b,c,hm,hv⟩:=(Rel.ref' ex).2.2 _ hid'
 have hcond:(0:Int)<=(k:Int)/\(k:Int)<(n:Int):=by omega
 refine ⟨.pointer (some ⟨b,k,none⟩),?_,.own id ep k _ (by rw [hid'];exact qJ _) rfl fun bd hbd=>⟨b,c,hm,rfl⟩⟩
 have h0:(0:Nat)+k*ei.n=k:=by rw [h1];omega
 simp only [execOp,ho,Instr.indexAt,hv,RK.val,ei'.i',asIntOf,Sem.run_bind,Sem.run_pure,Result.andThen_ok,run_underlying (ht.slice hk),if_pos hcond,he.size,vQ,fH (W:=W),h0]
end
def kD (σ:Sto) (π π':List (Nat × Nat)) (ks:List Nat) (B1:List (Nat × SB)) (id:Nat):Prop :=
 ∃k∈ks,(id,k)∈π/\(k,id)∈π'/\∃bd bd1,lkB B1 k=⟨0,some bd1⟩/\(σ id).body=some bd/\bd1.sh=bd.sh
def epR (ir:Nat) (σ:Sto) (π π':List (Nat × Nat)) (ks:List Nat) (B1:List (Nat × SB)) (id:Nat):Nat:=cond (Nat.beq id ir) (σ id).ep (ep2 σ π π' ks B1 id)
theorem RG.ownE {P : Program} {N : Nat} {ops : Array Oper} {rest : List Oper} {s : St} {K : St -> List Eff -> Prop} {o : Oper} {c : Call} {f : FuncId} {xs zs zs' : List AV} {r r' : AV} {π π' : List (Nat × Nat)} {ks : List Nat} {B0 B0' B1 up0 : List (Nat × SB)} {d : Option Nat} (ir : Nat)
  (hrow:kD s.σ π π' ks B1 ir)
  (h:∀q,aq P f zs (gl q ks B0) r (gl q ks B1)) (hg:gd ops s o=some true) (ho:o.op = .call c) (ha:fc s c=some (f,xs))
  (hz:fg (xs.map (rmA π s.σ (fun _=>0)))=some zs') (hz':zs'.map deN=zs) (hb:rmS π s.σ (fun _=>0) π=some B0') (hb':B0'=B0)
  (hu:rmS π' (lkB B1) (epR ir s.σ π π' ks B1) π'=some up0) (hr':rmA π' (lkB B1) (epR ir s.σ π π' ks B1) r=some r') (hk:okO s.σ π π' B0=true) (hd:o.dst=d)
  (hr:RG P N ops rest ⟨dU N s.ts d r',ups s.σ (up0++gone s.σ π' π)⟩ fun s' Es=>K s' (⟨r',up0++gone s.σ π' π,[]⟩::Es)):RG P N ops (o::rest) s K:=by
 subst hz' hb' hd
 unfold fc at ha
 split at ha
 case h_2=>cases ha
 rename_i fop hc
 split at ha
 case h_2=>cases ha
 rename_i f' first caps hf
 simp only [qT,vC] at ha
 obtain ⟨rfl,rfl⟩:=ha
 simp only [okO,qQ] at hk
 obtain ⟨⟨⟨⟨⟨⟨k1,k2⟩,k3⟩,k4⟩,k5⟩,k6⟩,k7⟩:=hk
 have n1:=bj k1
 have n3:=bj k3
 obtain ⟨u1,u2⟩:=g9 hu
 obtain ⟨b1,b2⟩:=g9 hb
 have hkeys:((up0++gone s.σ π' π).map (·.1)).Nodup:=by rw [uA,u1];exact bj k7
 have hat:∀q∈up0++gone s.σ π' π,ups s.σ (up0++gone s.σ π' π) q.1=q.2:=fun q hq=>p7 hkeys hq
 have hS0:RmS π s.σ (lkB B0') (fun _=>0):=iO hb (fun q hq=>p5 (by rw [b1];exact n1) hq) n1
 have hS1:RmS π' (lkB B1) (ups s.σ (up0++gone s.σ π' π)) (epR ir s.σ π π' ks B1):=iO hu (fun q hq=>hat q (vP _ hq)) n3
 obtain ⟨z1,z2⟩:=eh hz
 have hE:∀id,(s.σ id).ep<=epR ir s.σ π π' ks B1 id:=fun id=>by
  unfold epR ep2
  cases Nat.beq id ir
  ·rw [cond_false]
   cases mU s.σ π π' ks B1 id
   ·exact Nat.le_succ _
   ·exact qJ _
  ·exact qJ _
 have hE2:∀id,epR ir s.σ π π' ks B1 id=(s.σ id).ep->kD s.σ π π' ks B1 id:=fun id he=>by
  unfold epR at he
  cases hq:Nat.beq id ir
  ·rw [hq,cond_false] at he
   unfold ep2 at he
   cases hk:mU s.σ π π' ks B1 id
   ·rw [hk,cond_false] at he;omega
   ·exact qh hk
  ·rw [qY hq];exact hrow
 have body2:∀id∈(up0++gone s.σ π' π).map (·.1),∀bd2,(ups s.σ (up0++gone s.σ π' π) id).body=some bd2->∃p∈π',p.2=id/\ups s.σ (up0++gone s.σ π' π) id=⟨epR ir s.σ π π' ks B1 id,some bd2⟩/\∃bd,(lkB B1 p.1).body=some bd/\rmB π' (lkB B1) (epR ir s.σ π π' ks B1) bd=some bd2:=fun id hid bd2 hb2=>by
  obtain ⟨q,hq,rfl⟩:=vH.1 hid
  rw [hat q hq] at hb2 ⊢
  rcases vB.1 hq with h1 | h1
  ·obtain ⟨p,hp,e1,bd,bd',e2,e3,e4⟩:=u2 q h1
   rw [e4] at hb2
   obtain rfl:=qB hb2
   exact ⟨p,hp,e1,by rw [e4,e1],bd,e2,e3⟩
  ·rw [(ej h1).1] at hb2
   cases hb2
 refine RG.opB hg (vq (h fun _ => none).fn ho hc hf) (gY (π := π) (π' := π') (ks := ks) ho hc hf h (by rw [qH]; exact z1) (fun j x z hx hz => by
   rw [qE] at hz
   obtain ⟨y,hy,rfl⟩:=vR.1 hz
   exact (kM hS0 (z2 j x y hx hy)).deN) n1 (bj k2) (fun p hp=>qU (qW.1 k5 p hp)) (fun k bd' hbd=>?_) (fun p hp=>?_) n3
  (fun p hp q hq e=>?_) (fun p hp=>qU (qW.1 k6 p hp)) (fun p hp=>?_) (fun id hid bd2 hb2=>?_) (fun id hid=>?_) (fun id hid he bd2 hb2=>?_) (kM hS1 hr')) hr
 ·obtain ⟨q,hq,e1,e2⟩:=gZ hbd
  obtain ⟨p,hp,e3,bd,bd1,e4,e5,e6⟩:=b2 q hq
  rw [<- e2,e6] at hbd
  obtain rfl:=qB hbd
  exact ⟨p,hp,e3.trans e1,bd,e4,gG hS0 e5⟩
 ·rw [uA,vB,u1]
  exact (gT hp).symm
 ·have : ∀ (l : List (Nat × Nat)), (l.map (·.1)).Nodup -> p ∈ l -> q ∈ l -> p = q := by
   intro l
   induction l with
   | nil=>intro _ h;cases h
   | cons a l ih =>
    intro hl h5 h6
    rw [vE,vU] at hl
    rcases vA.1 h5 with g5 | g5 <;> rcases vA.1 h6 with g6 | g6
    ·rw [g5,g6]
    ·exact (hl.1 (by rw [<- g5,e];exact qX (f:=(·.1)) g6)).elim
    ·exact (hl.1 (by rw [<- g6,<- e];exact qX (f:=(·.1)) g5)).elim
    ·exact ih hl.2 g5 g6
  exact this π' (bj k4) hp hq
 ·rw [uA,vB,u1]
  exact .inl (qX (f:=(·.2)) hp)
 ·obtain ⟨p,hp,e1,_,bd,e2,e3⟩:=body2 id hid bd2 hb2
  exact ⟨p,hp,e1,bd,e2,gG hS1 e3⟩
 ·obtain ⟨q,hq,rfl⟩:=vH.1 hid
  rw [hat q hq]
  rcases vB.1 hq with h1 | h1
  ·obtain ⟨p,hp,e1,bd,bd',e2,e3,e4⟩:=u2 q h1
   rw [e4,e1]
   exact hE q.1
  ·rw [(ej h1).1];exact qJ _
 ·obtain ⟨p,hp,e1,e0,bd,e2,e3⟩:=body2 id hid bd2 hb2
  rw [e0] at he
  obtain ⟨k,hk,m1,m2,bd0,bd1,g1,g2,g3⟩:=hE2 id he
  have hbd:rmB π' (lkB B1) (epR ir s.σ π π' ks B1) bd1=some bd2:=by
   have:p=(k,id):=by
    have:∀(l:List (Nat × Nat)),(l.map (·.2)).Nodup->p∈l->(k,id)∈l->p=(k,id):=by
     intro l
     induction l with
     | nil=>intro _ h;cases h
     | cons a l ih =>
      intro hl h5 h6
      rw [vE,vU] at hl
      rcases vA.1 h5 with g5 | g5 <;> rcases vA.1 h6 with g6 | g6
      ·rw [g5,g6]
      ·exact (hl.1 (by rw [<- g5,e1];exact qX (f:=(·.2)) g6)).elim
      ·exact (hl.1 (by rw [<- g6];show id∈_;rw [<- e1];exact qX (f:=(·.2)) g5)).elim
      ·exact ih hl.2 g5 g6
    exact this π' n3 hp m2
   rw [this] at e2
   have:bd=bd1:=qB (e2.symm.trans (by show (lkB B1 k).body=_;rw [g1]))
   rw [<- this];exact e3
  refine ⟨k,hk,m1,m2,⟨bd1,g1⟩,bd0,g2,?_⟩
  rw [<- g3]
  have hR:=gG hS1 hbd
  cases hR with
  | box hl _ _=>show (true,_,_,0)=(true,_,_,0);rw [hl]
  | row=>rfl
  | obj=>rfl
def D3 (ir:Nat) (σ:Sto) (π π':List (Nat × Nat)) (ks:List Nat) (B1:List (Nat × SB)) (r:AV):Option (AV × List (Nat × SB)) :=
 match rmS π' (lkB B1) (epR ir σ π π' ks B1) π',rmA π' (lkB B1) (epR ir σ π π' ks B1) r with
 | some up0,some r'=>pX r' fun r'=>cn (up0++gone σ π' π) fun up=>some (r',up)
 | _,_=>none
theorem kD.mk' {σ:Sto} {π π':List (Nat × Nat)} {ks:List Nat} {B1:List (Nat × SB)} {id k t m:Nat} {els els':List (List AV)} (hb:(ks.any (Nat.beq k) && π.any (fun p=>Nat.beq p.1 id && Nat.beq p.2 k) && π'.any (fun p=>Nat.beq p.1 k && Nat.beq p.2 id))=true)
  (h1:lkB B1 k=⟨0,some (.row t m els')⟩) (h2:(σ id).body=some (.row t m els)) (hl:els'.length=els.length):kD σ π π' ks B1 id:=by
 simp only [qQ] at hb
 obtain ⟨⟨b1,b2⟩,b3⟩:=hb
 obtain ⟨k',m1,e1⟩:=List.any_eq_true.1 b1
 obtain ⟨p,m2,e2⟩:=List.any_eq_true.1 b2
 obtain ⟨p',m3,e3⟩:=List.any_eq_true.1 b3
 rw [qQ] at e2 e3
 refine ⟨k,?_,?_,?_,_,_,h1,h2,?_⟩
 ·rw [qY e1];exact m1
 ·rw [<- qY e2.1,<- qY e2.2];exact m2
 ·rw [<- qY e3.1,<- qY e3.2];exact m3
 ·show (false,t,m,els'.length)=(false,t,m,els.length)
  rw [hl]
theorem RG.ownK {P:Program} {N:Nat} {ops:Array Oper} {rest:List Oper} {ts:Nat->AV} {σ:Sto} {K:St->List Eff->Prop} {o:Oper} {c:Call} {f:FuncId} {xs zs zs':List AV} {r r':AV} (π π':List (Nat × Nat)) (ir kr:Nat) {t m:Nat} {els els':List (List AV)} {ks:List Nat} {B0 B0' B1 up:List (Nat × SB)} {d:Option Nat}
  (hl:els'.length=els.length) (h:∀q,aq P f zs (gl q ks B0) r (gl q ks B1)) (hg:gd ops ⟨ts,σ⟩ o=some true) (ho:o.op = .call c) (ha:fc ⟨ts,σ⟩ c=some (f,xs))
  (hkb:(ks.any (Nat.beq kr) && π.any (fun p=>Nat.beq p.1 ir && Nat.beq p.2 kr) && π'.any (fun p=>Nat.beq p.1 kr && Nat.beq p.2 ir))=true)
  (h1:lkB B1 kr=⟨0,some (.row t m els')⟩) (h2:(σ ir).body=some (.row t m els))
  (hz:fg (xs.map (rmA π σ (fun _=>0)))=some zs') (hz':zs'.map deN=zs) (hb:rmS π σ (fun _=>0) π=some B0') (hb':B0'=B0)
  (hu:D3 ir σ π π' ks B1 r=some (r',up)) (hk:okO σ π π' B0=true) (hd:o.dst=d)
  (hr:RG P N ops rest ⟨dU N ts d r',ups σ up⟩ fun s' Es=>K s' (⟨r',up,[]⟩::Es)):RG P N ops (o::rest) ⟨ts,σ⟩ K:=by
 unfold D3 at hu
 split at hu
 ·rename_i up0 r1 e1 e2
  simp only [kF,bZ,qT,vC] at hu
  obtain ⟨rfl,rfl⟩:=hu
  exact RG.ownE ir (kD.mk' hkb h1 h2 hl) h hg ho ha hz hz' hb hb' e1 e2 hk hd hr
 ·cases hu
open Go.Sort (swp)
section
variable {α : Type} [Inhabited α]
theorem bf (d:Array α) (i j:Nat):(swp d i j).toList=(d.toList.set i d[j]!).set j d[i]!:=by
 simp [swp,Array.toList_setIfInBounds]
theorem ba (d:Array α) (i j:Nat):(swp d i j).size=d.size:=by simp [swp]
theorem BJ (d:Array α) {i:Nat} (h:i<d.size):d.toList[i]?=some d[i]!:=by
 rw [vO,uJ h,getElem!_pos d i h]
def Pm (d d':Array α):Prop:=d'.size=d.size/\d'.toList.Perm d.toList
omit [Inhabited α] in
theorem Pm.refl (d:Array α):Pm d d:=⟨rfl,List.Perm.refl _⟩
omit [Inhabited α] in
theorem Pm.trans {d d' d'':Array α} (h:Pm d d') (k:Pm d' d''):Pm d d'':=⟨k.1.trans h.1,k.2.trans h.2⟩
theorem Pm.swp (d:Array α) {i j:Nat} (hi:i<d.size) (hj:j<d.size):Pm d (swp d i j):=by
 refine ⟨ba d i j,?_⟩
 rw [bf,getElem!_pos d i hi,getElem!_pos d j hj,<- Array.getElem_toList,<- Array.getElem_toList]
 exact Go.Sort.perm_set_set d.toList i j (by simpa using hi) (by simpa using hj)
variable (lt : α -> α -> Bool)
theorem ly (a:Nat):∀(j:Nat) (d:Array α),j<d.size->Pm d (Go.Sort.insInner lt a j d)
 | 0,d,_=>Pm.refl d
 | j+1,d,h=>by
  rw [Go.Sort.insInner]
  split
  ·exact (Pm.swp d h (by omega)).trans (ly a j _ (by rw [ba];omega))
  ·exact Pm.refl d
theorem lZ (a b:Nat):∀(f i:Nat) (d:Array α),b - i<=f->b<=d.size->Pm d (Go.Sort.insOuter lt a b i d)
 | 0,i,d,hf,hb=>by
  rw [Go.Sort.insOuter,if_neg (by omega)]
  exact Pm.refl d
 | f+1,i,d,hf,hb=>by
  rw [Go.Sort.insOuter]
  split
  ·rename_i h
   have h1:=ly lt a i d (by omega)
   exact h1.trans (lZ a b f (i+1) _ (by omega) (by rw [h1.1];exact hb))
  ·exact Pm.refl d
theorem m9 (d:Array α) (a b:Nat) (hb:b<=d.size):Pm d (Go.Sort.insertionSort lt d a b):=lZ lt a b _ _ d (qJ _) hb
def fU (a b n i:Nat) (d:Array α):Array α:=if i<n then fU a b n (i+1) (swp d (a+i) (b+i)) else d
termination_by n - i
theorem fe (a b n:Nat):∀(f i:Nat) (d:Array α),n - i<=f->a+n<=d.size->b+n<=d.size->Pm d (fU a b n i d)
 | 0,i,d,hf,h1,h2=>by
  rw [fU,if_neg (by omega)]
  exact Pm.refl d
 | f+1,i,d,hf,h1,h2=>by
  rw [fU]
  split
  ·exact (Pm.swp d (by omega) (by omega)).trans (fe a b n f (i+1) _ (by omega) (by rw [ba];exact h1) (by rw [ba];exact h2))
  ·exact Pm.refl d
def sZ (m:Nat):Nat->Nat->Nat->Array α->Array α
 | 0,_,_,d=>d
 | f+1,i,j,d=>if i=j then fU (m - i) m i 0 d else if i>j then sZ m f (i - j) j (fU (m - i) m j 0 d) else sZ m f i (j - i) (fU (m - i) (m+j - i) i 0 d)
theorem pK (m:Nat):∀(f i j:Nat) (d:Array α),i<=m->m+j<=d.size->Pm d (sZ m f i j d)
 | 0,_,_,d,_,_=>Pm.refl d
 | f+1,i,j,d,h1,h2=>by
  rw [sZ]
  split
  ·exact fe _ _ _ _ _ d (qJ _) (by omega) (by omega)
  ·split
   ·have h:=fe (m - i) m j _ 0 d (qJ _) (by omega) (by omega)
    exact h.trans (pK m f _ _ _ (by omega) (by rw [h.1];omega))
   ·have h:=fe (m - i) (m+j - i) i _ 0 d (qJ _) (by omega) (by omega)
    exact h.trans (pK m f _ _ _ (by omega) (by rw [h.1];omega))
def pE (d:Array α) (a m b:Nat):Array α:=sZ m (b - a) (m - a) (b - m) d
def bsr (p:Nat->Bool) (i j:Nat):Nat:=if h:i<j then (if p ((i+j) / 2) then bsr p ((i+j) / 2+1) j else bsr p i ((i+j) / 2)) else i
termination_by j - i
decreasing_by all_goals omega
theorem ec (p:Nat->Bool):∀(f i j:Nat),j - i<=f->i<=j->i<=bsr p i j/\bsr p i j<=j
 | 0,i,j,hf,hij=>by
  rw [bsr,dif_neg (by omega)]
  omega
 | f+1,i,j,hf,hij=>by
  rw [bsr]
  split
  ·split
   ·have:=ec p f ((i+j) / 2+1) j (by omega) (by omega)
    omega
   ·have:=ec p f i ((i+j) / 2) (by omega) (by omega)
    omega
  ·omega
def sE (e k:Nat) (d:Array α):Array α:=if k<e then sE e (k+1) (swp d k (k+1)) else d
termination_by e - k
theorem v7 (e:Nat):∀(f k:Nat) (d:Array α),e - k<=f->e<d.size->Pm d (sE e k d)
 | 0,k,d,hf,h=>by
  rw [sE,if_neg (by omega)]
  exact Pm.refl d
 | f+1,k,d,hf,h=>by
  rw [sE]
  split
  ·exact (Pm.swp d (by omega) (by omega)).trans (v7 e f (k+1) _ (by omega) (by rw [ba];exact h))
  ·exact Pm.refl d
def qa (i:Nat):Nat->Array α->Array α
 | 0,d=>d
 | k+1,d=>if k+1>i then qa i k (swp d (k+1) k) else d
theorem vp (i:Nat):∀(k:Nat) (d:Array α),k<d.size->Pm d (qa i k d)
 | 0,d,_=>Pm.refl d
 | k+1,d,h=>by
  rw [qa]
  split
  ·exact (Pm.swp d (by omega) (by omega)).trans (vp i k _ (by rw [ba];omega))
  ·exact Pm.refl d
def cR (d:Array α) (a m b:Nat):Nat :=
 bsr (fun c=>!lt d[(a+b) / 2+m - 1 - c]! d[c]!) (if m>(a+b) / 2 then (a+b) / 2+m - b else a) (if m>(a+b) / 2 then (a+b) / 2 else m)
def sm2 (F:Nat->Nat->Nat->Array α->Array α) (d:Array α) (a s b:Nat):Array α:=bif decide (a<s/\s<b) then F a s b d else d
def pW (F:Nat->Nat->Nat->Array α->Array α) (a b mid s e:Nat) (d:Array α):Array α:=sm2 F (sm2 F d a s mid) mid e b
def sm1 (d:Array α) (s m e:Nat):Array α:=bif decide (s<m/\m<e) then pE d s m e else d
def aZ:Nat->Nat->Nat->Nat->Array α->Array α
 | 0,_,_,_,d=>d
 | f+1,a,m,b,d =>
  if m - a=1 then sE (bsr (fun h=>lt d[h]! d[a]!) m b - 1) a d else
  if b - m=1 then qa (bsr (fun h=>!lt d[m]! d[h]!) a m) m d else
  pW (fun a m b d=>aZ f a m b d) a b ((a+b) / 2) (cR lt d a m b) ((a+b) / 2+m - cR lt d a m b) (sm1 d (cR lt d a m b) m ((a+b) / 2+m - cR lt d a m b))
theorem jd (d:Array α) {a m b:Nat} (h1:a<m) (h2:m<b):a<=cR lt d a m b/\cR lt d a m b<=(if m>(a+b) / 2 then (a+b) / 2 else m)/\(if m>(a+b) / 2 then (a+b) / 2+m - b else a)<=cR lt d a m b:=by
 have h:=ec (fun c=>!lt d[(a+b) / 2+m - 1 - c]! d[c]!) _ (if m>(a+b) / 2 then (a+b) / 2+m - b else a) (if m>(a+b) / 2 then (a+b) / 2 else m) (qJ _) (by split <;> omega)
 rw [cR]
 refine ⟨vJ ?_ h.1,h.2,h.1⟩
 split <;> omega
theorem yJ {d:Array α} {s m e:Nat} (h:e<=d.size):Pm d (sm1 d s m e):=by
 rw [sm1]
 by_cases k:s<m/\m<e
 ·rw [qF k,cond_true]
  exact pK _ _ _ _ _ (by omega) (by omega)
 ·rw [qC k,cond_false]
  exact Pm.refl d
theorem dd:∀(f a m b:Nat) (d:Array α),a<m->m<b->b<=d.size->Pm d (aZ lt f a m b d)
 | 0,_,_,_,d,_,_,_=>Pm.refl d
 | f+1,a,m,b,d,h1,h2,h3=>by
  rw [aZ]
  split
  ·have h:=ec (fun h=>lt d[h]! d[a]!) _ m b (qJ _) (by omega)
   exact v7 _ _ _ d (qJ _) (by omega)
  split
  ·exact vp _ _ d (by omega)
  have hs:=jd lt d h1 h2
  generalize cR lt d a m b=s at hs ⊢
  have e1:Pm d (sm1 d s m ((a+b) / 2+m - s)):=by
   refine yJ ?_
   have:=hs.2.2
   split at this <;> omega
  generalize sm1 d s m ((a+b) / 2+m - s)=d1 at e1
  rw [pW]
  have e2:Pm d1 (sm2 (fun a m b d=>aZ lt f a m b d) d1 a s ((a+b) / 2)):=by
   rw [sm2]
   by_cases h:a<s/\s<(a+b) / 2
   ·rw [qF h,cond_true]
    exact dd f a s _ d1 h.1 h.2 (by rw [e1.1];omega)
   ·rw [qC h,cond_false]
    exact Pm.refl d1
  generalize sm2 (fun a m b d=>aZ lt f a m b d) d1 a s ((a+b) / 2)=d2 at e2
  refine e1.trans (e2.trans ?_)
  rw [sm2]
  by_cases h:(a+b) / 2<(a+b) / 2+m - s/\(a+b) / 2+m - s<b
  ·rw [qF h,cond_true]
   exact dd f _ _ b d2 h.1 h.2 (by rw [e2.1,e1.1];exact h3)
  ·rw [qC h,cond_false]
   exact Pm.refl d2
def xd (n:Nat):Nat->Nat->Nat->Array α->Array α
 | 0,_,_,d=>d
 | f+1,a,b,d=>if b<=n then xd n f b (b+20) (Go.Sort.insertionSort lt d a b) else Go.Sort.insertionSort lt d a n
theorem um (n:Nat):∀(f a b:Nat) (d:Array α),n<=d.size->Pm d (xd lt n f a b d)
 | 0,_,_,d,_=>Pm.refl d
 | f+1,a,b,d,h=>by
  rw [xd]
  split
  ·have h1:=m9 lt d a b (by omega)
   exact h1.trans (um n f _ _ _ (by rw [h1.1];exact h))
  ·exact m9 lt d a n h
def pJ (n s:Nat):Nat->Nat->Nat->Array α->Array α
 | 0,_,_,d=>d
 | f+1,a,b,d=>if b<=n then pJ n s f b (b+2*s) (aZ lt (b - a) a (a+s) b d) else if a+s<n then aZ lt (n - a) a (a+s) n d else d
theorem pZ (n s:Nat) (hs:0<s):∀(f a b:Nat) (d:Array α),n<=d.size->b=a+2*s->Pm d (pJ lt n s f a b d)
 | 0,_,_,d,_,_=>Pm.refl d
 | f+1,a,b,d,h,hb=>by
  rw [pJ]
  split
  ·have h1:=dd lt (b - a) a (a+s) b d (by omega) (by omega) (by omega)
   exact h1.trans (pZ n s hs f _ _ _ (by rw [h1.1];exact h) rfl)
  ·split
   ·exact dd lt (n - a) a (a+s) n d (by omega) (by omega) h
   ·exact Pm.refl d
def r6 (n:Nat):Nat->Nat->Array α->Array α
 | 0,_,d=>d
 | f+1,s,d=>if s<n then r6 n f (2*s) (pJ lt n s (n+1) 0 (2*s) d) else d
theorem uu (n:Nat):∀(f s:Nat) (d:Array α),0<s->n<=d.size->Pm d (r6 lt n f s d)
 | 0,_,d,_,_=>Pm.refl d
 | f+1,s,d,hs,h=>by
  rw [r6]
  split
  ·have h1:=pZ lt n s hs (n+1) 0 (2*s) d h (by omega)
   exact h1.trans (uu n f _ _ (by omega) (by rw [h1.1];exact h))
  ·exact Pm.refl d
def jF (d:Array α):Array α:=r6 lt d.size (d.size+1) 20 (xd lt d.size (d.size+1) 0 20 d)
theorem oI (d:Array α):Pm d (jF lt d):=by
 have h:=um lt d.size (d.size+1) 0 20 d (qJ _)
 exact h.trans (uu lt d.size _ 20 _ (by decide) (by rw [h.1];exact qJ _))
end
end Go.Proofs.YtdidjpohnopihaaGreat.Sm
end
section
namespace Go.Proofs.YtdidjpohnopihaaGreat.Sm
open Go.RowKit
open Go.Sort (swp)
section
variable {P : Program} {N : Nat} {o : Oper} {s : St}
theorem Fe {α:Type} (k:Nat) (cF:α->List AV) (l:List α) {z:Int} {t e id ep n:Nat} {ti ei:TI} {x i:Operand} {kd:IntKind} (hlt:k<n) (ho:o.op = .indexAddr t x i) (ht:aF P t ti) (hk:ti.k = .slice e) (he:aF P e ei) (hx:s.ev x = .row id ep 0 n) (hid:s.σ id=⟨ep,some (.row e ei.n (l.map cF))⟩) (hi:s.ev i = .i kd z) (hz:z=(k:Int)) :
  ay P N o s ⟨.el id ep k 0,[],[id]⟩:=gk k cF l hlt ho ht hk he hx hid (hz ▸ hi)
theorem EL {α:Type} [Inhabited α] (k:Nat) (cF:α->List AV) (d:Array α) (hk:k<d.size) {v:AV} {t ty m id ep:Nat} {ti:TI} {p:Operand} (ho:o.op = .load t p) (ht:aF P t ti) (hp:s.ev p = .el id ep k 0) (hid:s.σ id=⟨ep,some (.row ty m (d.toList.map cF))⟩) (hr:ldA ti (cF d[k]!)=some v) :
  ay P N o s ⟨v,[],[id]⟩:=by
 refine j8 ho ht (cs:=(cF d[k]!).drop 0) (by rw [hp];exact .el hid (by rw [qE,BJ d hk];rfl)) ?_
 rw [uR]
 exact hr
theorem y8 {xs ys:List AV} (h:xs.length=ys.length):ovw xs 0 ys=ys:=by
 apply List.ext_getElem?
 intro i
 rw [iI _ _ _ _ (by omega)]
 by_cases hi:i<ys.length
 ·rw [if_pos (by omega),Nat.sub_zero]
 ·rw [if_neg (by omega),uK (by omega),uK (by omega)]
theorem aR {α:Type} (k:Nat) (cF:α->List AV) (l:List α) (c:α) (hk:k<l.length) {t ty m id ep:Nat} {ti:TI} {p x:Operand} (ho:o.op = .store t p x) (ht:aF P t ti) (hp:s.ev p = .el id ep k 0) (hid:s.σ id=⟨ep,some (.row ty m (l.map cF))⟩) (hx:(s.ev x).cells=cF c)
  (h1:(cF c).all AV.one=true) (h2:(cF c).all AV.pu1=true) (hn:∀y,(cF y).length=ti.n):ay P N o s ⟨.tup [],[(id,⟨ep,some (.row ty m ((l.set k c).map cF))⟩)],[]⟩:=by
 have hkk:(l.map cF)[k]?=some (cF l[k]):=by rw [qE,qA hk];rfl
 have h:=o5 (N:=N) ho ht hp hid hkk hx h1 h2 (hn c) (by rw [hn];omega)
 rw [y8 (by rw [hn,hn])] at h
 rw [List.map_set]
 exact h
def IxA {α:Type} (_:Nat) (_:α->List AV) (_:List α):Prop:=True
def LdA {α:Type} (_:Nat) (_:α->List AV) (_:Array α):Prop:=True
theorem ia {α:Type} (k:Nat) (F:α->List AV) (l:List α):IxA k F l:=trivial
theorem lA {α:Type} (k:Nat) (F:α->List AV) (l:Array α):LdA k F l:=trivial
theorem Fy {P:Program} {N:Nat} {o:Oper} {s:St} {α:Type} {k:Nat} {cF:α->List AV} {l:List α} (_:IxA k cF l) {z:Int} {t e id ep n:Nat} {ti ei:TI} {x i:Operand} {kd:IntKind} (hlt:k<n) (ho:o.op = .indexAddr t x i) (ht:aF P t ti) (hk:ti.k = .slice e) (he:aF P e ei) (hx:s.ev x = .row id ep 0 n) (hid:s.σ id=⟨ep,some (.row e ei.n (l.map cF))⟩) (hi:s.ev i = .i kd z) (hz:z=(k:Int)):ay P N o s ⟨.el id ep k 0,[],[id]⟩:=Fe k cF l hlt ho ht hk he hx hid hi hz
theorem FA {P:Program} {N:Nat} {o:Oper} {s:St} {α:Type} [Inhabited α] {k:Nat} {cF:α->List AV} {d:Array α} (_:LdA k cF d) (hk:k<d.size) {v:AV} {t ty m id ep:Nat} {ti:TI} {p:Operand} (ho:o.op = .load t p) (ht:aF P t ti) (hp:s.ev p = .el id ep k 0) (hid:s.σ id=⟨ep,some (.row ty m (d.toList.map cF))⟩) (hr:ldA ti (cF d[k]!)=some v):ay P N o s ⟨v,[],[id]⟩:=EL k cF d hk ho ht hp hid hr
theorem jI {p q c:Prop} (d:c) (h:q) (t:c->q->p:=by intro d;exact fun h=>RG.opS rfl (Fy d (by omega) rfl (tk rfl) rfl (tk rfl) rfl rfl rfl jX) rfl h):p:=t d h
theorem jL {p q c:Prop} (d:c) (h:q) (t:c->q->p:=by intro d;exact fun h=>RG.opS rfl (FA d (by omega) rfl (tk rfl) rfl rfl rfl) rfl h):p:=t d h
end
theorem j4 (a b:Nat) (h:a+b<4611686018427387904):(cw (cy (IntKind.i64.wrap ((a:Int)+(b:Int)))) 1).toNat=(a+b) / 2:=by
 have h1:IntKind.i64.wrap ((a:Int)+(b:Int))=((a+b:Nat):Int):=by rw [IntKind.wrap_i64];omega
 rw [h1]
 have e:=eX ((a+b:Nat):Int)
 rw [IntKind.wrap_u64] at e
 rw [cw,UInt64.toNat_ofNat']
 generalize (cy ((a+b:Nat):Int)).toNat=x at e
 have hx:x=a+b:=by omega
 rw [hx]
 show (a+b) / 2 ^ 1 % 18446744073709551616=_
 omega
end Go.Proofs.YtdidjpohnopihaaGreat.Sm
end
section
namespace Go.Proofs.YtdidjpohnopihaaGreat.Sm
open Go.RowKit
open Go.Sort (swp)
theorem ah {α:Type} {cF:α->List AV} {d:Array α} {n:Nat} (h:d.size=n):0+n<=(d.toList.map cF).length:=by
 rw [qH,qL];omega
theorem bB {α:Type} {cF:α->List AV} {d d':Array α} (h:d'.size=d.size):(d'.toList.map cF).length=(d.toList.map cF).length:=by
 rw [qH,qH,qL,qL,h]
instance:Inhabited Cb:=⟨Cb.zero⟩
def ltC (a b:Cb):Bool:=decide (Eb a b<0)
def rwB (d:Array Cb):List (Nat × SB):=[(201,⟨0,some (.row 36 4 (d.toList.map cCb))⟩)]
theorem aE {s:St} {q:Nat->Option (Nat × Nat)} {d:Array Cb} {e g:Nat} {els:List (List AV)} (h1:s.σ 201=⟨e,some (.row 36 4 els)⟩) (hg:s.σ 1101=⟨g,some (.ghost 201 e (q 201))⟩) (hel:els=d.toList.map cCb):WkB s (lkB (gl q [201] (rwB d))) (gl q [201] (rwB d)):=by
 subst hel
 exact ⟨.ghost hg h1 rfl,.row h1 rfl,trivial⟩
theorem i9 {α:Type} [Inhabited α] {lt:α->α->Bool} {a j:Nat} {d:Array α} (h:¬a<j):Go.Sort.insInner lt a j d=d:=by
 cases j with
 | zero=>rfl
 | succ j =>
  rw [Go.Sort.insInner,if_neg]
  simp only [qQ,vM]
  omega
theorem lJ {α:Type} [Inhabited α] {lt:α->α->Bool} {a j:Nat} {d:Array α} (h:a<j+1):Go.Sort.insInner lt a (j+1) d=bif lt d[j+1]! d[j]! then Go.Sort.insInner lt a j (swp d (j+1) j) else d:=by
 rw [Go.Sort.insInner]
 cases e:lt d[j+1]! d[j]!
 ·rw [if_neg (by simp)];rfl
 ·rw [if_pos (by simp;omega)];rfl
theorem AK (d:Array Cb) (n a b:Nat) (hn:d.size=n) (hb:b<=n) (ha:a<=n) (hl:n<=100000000) (q:Nat->Option (Nat × Nat)):aq Tryz.prog 181 [.row 201 0 0 n,.i .i64 (a:Nat),.i .i64 (b:Nat),.fn 82 [] []] (gl q [201] (rwB d)) (.tup []) (gl q [201] (rwB (Go.Sort.insertionSort ltC d a b))):=by
 refine aq.of_body Tryz.func181 rfl (by kernel_rfl) rfl rfl ?_
 generalize hG:Go.Sort.insertionSort ltC d a b=G
 have w1:IntKind.i64.wrap (((a:Nat):Int)+1)=((a+1:Nat):Int):=by rw [IntKind.wrap_i64];omega
 refine jA ?_
 refine AW.loopL (ι:=Nat × Array Cb) (fun i=>[(0,.row 201 0 0 n),(1,.i .i64 (a:Nat)),(2,.i .i64 (b:Nat)),(3,.fn 82 [] []),(8,.i .i64 (i.1:Nat))]) (fun i=>gl q [201] (rwB i.2)) (fun i=>(a<i.1/\i.1<=n+1/\i.2.size=n)/\Go.Sort.insOuter ltC a b i.1 i.2=G) (fun i=>n+2 - i.1) (a+1,d) ⟨⟨by show a<a+1;omega,by show a+1<=n+1;omega,hn⟩,hG⟩ ⟨Rn.rowIs rfl rfl rfl,Rn.is rfl rfl,Rn.is rfl rfl,Rn.fnF rfl rfl,Rn.is (congrArg (AV.i .i64) w1) rfl,trivial⟩ (aE rfl rfl rfl) fun i hi=>?_
 clear hG
 obtain ⟨i,m⟩:=i
 obtain ⟨⟨hi1,hi2,hm⟩,hf⟩:=hi
 simp only at hi1 hi2 hm hf
 rw [Go.Sort.insOuter] at hf
 refine jA ?_
 refine AW.cond rfl (fun h0=>?_) (fun h0=>?_)
 rotate_left
 ·have h : ¬ i < b := by
   have:=of_decide_eq_false h0
   omega
  rw [if_neg h] at hf
  subst hf
  refine zE ?_
  exact cG rfl (.inl rfl) (aE rfl rfl rfl)
 have h:i<b:=by
  have:=of_decide_eq_true h0
  omega
 rw [if_pos h] at hf
 have w2:IntKind.i64.wrap (((i:Nat):Int)+Int.ofNat 1)=((i+1:Nat):Int):=by rw [IntKind.wrap_i64];simp only [qG];omega
 refine jA ?_
 refine AW.loopL (ι:=Nat × Array Cb) (fun x=>[(0,.row 201 0 0 n),(1,.i .i64 (a:Nat)),(2,.i .i64 (b:Nat)),(3,.fn 82 [] []),(8,.i .i64 (i:Nat)),(9,.i .i64 (x.1:Nat))]) (fun x=>gl q [201] (rwB x.2)) (fun x=>(x.1<=i/\x.2.size=n)/\Go.Sort.insOuter ltC a b (i+1) (Go.Sort.insInner ltC a x.1 x.2)=G) (fun x=>x.1) (i,m) ⟨⟨qJ _,hm⟩,hf⟩ jQ (aE rfl rfl rfl) fun x hx=>?_
 clear hf hm
 obtain ⟨j,m⟩:=x
 obtain ⟨⟨hj,hm⟩,hf⟩:=hx
 simp only at hj hm hf
 refine jB ?_
 by_cases g1:((a:Nat):Int)<((j:Nat):Int)
 rotate_left
 ·rw [i9 (by omega)] at hf
  refine AW.draws aN ?_
  refine RG.runO af 0 [(20,.b false)] 400 rfl jD ?_
  refine jB ?_
  refine zF ?_
  refine jE ?_;refine jA ?_
  exact ⟨(i+1,m),⟨⟨⟨by show a<i+1;omega,by show i+1<=n+1;omega,hm⟩,hf⟩,by show n+2 - (i+1)<n+2 - i;omega⟩,⟨Rn.rowIs rfl rfl rfl,Rn.is rfl rfl,Rn.is rfl rfl,Rn.fnF rfl rfl,Rn.is (congrArg (AV.i .i64) w2) rfl,trivial⟩,aE rfl rfl rfl⟩
 obtain ⟨j,rfl⟩:∃k,j=k+1:=⟨j - 1,by omega⟩
 rw [lJ (by omega)] at hf
 have w3:IntKind.i64.wrap (((j+1:Nat):Int) - Int.ofNat 1)=((j:Nat):Int):=by rw [IntKind.wrap_i64];simp only [qG];omega
 refine AW.draws aN ?_
 refine RG.runO af 0 [(20,.b true)] 400 rfl jD ?_
 refine jI (ia (j+1) cCb (m.toList)) ?_
 refine jL (lA (j+1) cCb (m)) ?_
 refine wH rfl ?_;refine jI (ia (j) cCb ((m).toList)) ?_;refine jL (lA (j) cCb (m)) ?_
 refine wH rfl ?_
 refine jc (pc m[j+1]! m[j]!) ?_
 refine wH rfl ?_;refine jB ?_
 refine AW.cond rfl (fun h1=>?_) (fun h1=>?_)
 ·rw [show ltC m[j+1]! m[j]! = true from h1,cond_true] at hf
  refine zD ?_
  refine wH rfl ?_;refine jI (ia (j) cCb ((m).toList)) ?_;refine jL (lA (j) cCb (m)) ?_;refine wH rfl ?_;refine jI (ia (j+1) cCb ((m).toList)) ?_;refine jL (lA (j+1) cCb (m)) ?_;refine wH rfl ?_;refine jI (ia (j+1) cCb ((m).toList)) ?_;refine RG.opS rfl (aR (j+1) cCb ((m).toList) ((m)[j]!) (by simp only [vF,qL];omega) rfl (tk rfl) rfl rfl rfl rfl rfl (fun _=>rfl)) rfl ?_;refine wH rfl ?_;refine jI (ia (j) cCb (((m).toList.set (j+1) (m)[j]!))) ?_;refine RG.opS rfl (aR (j) cCb (((m).toList.set (j+1) (m)[j]!)) ((m)[j+1]!) (by simp only [vF,qL];omega) rfl (tk rfl) rfl rfl rfl rfl rfl (fun _=>rfl)) rfl ?_
  refine wH rfl ?_;refine jB ?_
  refine AW.text ?_
  refine wH rfl ?_;refine jB ?_
  exact ⟨(j,swp m (j+1) j),⟨⟨⟨by show j<=i;omega,(ba _ _ _).trans hm⟩,hf⟩,by show j<j+1;omega⟩,⟨Rn.rowTIs rfl rfl rfl (ah ((ba _ _ _).trans hm)),Rn.is rfl rfl,Rn.is rfl rfl,Rn.fnF rfl rfl,Rn.is rfl rfl,Rn.is (congrArg (AV.i .i64) w3) rfl,trivial⟩,aE rfl rfl (by rw [bf])⟩
 ·rw [show ltC m[j+1]! m[j]! = false from h1,cond_false] at hf
  refine zE ?_
  exact ⟨(i+1,m),⟨⟨⟨by show a<i+1;omega,by show i+1<=n+1;omega,hm⟩,hf⟩,by show n+2 - (i+1)<n+2 - i;omega⟩,⟨Rn.rowIs rfl rfl rfl,Rn.is rfl rfl,Rn.is rfl rfl,Rn.fnF rfl rfl,Rn.is (congrArg (AV.i .i64) w2) rfl,trivial⟩,aE rfl rfl rfl⟩
theorem pT (d:Array Cb) (n a b k:Nat) (hn:d.size=n) (ha:a+k<=n) (hb:b+k<=n) (hl:n<=100000000) (q:Nat->Option (Nat × Nat)):aq Tryz.prog 245 [.row 201 0 0 n,.i .i64 (a:Nat),.i .i64 (b:Nat),.i .i64 (k:Nat),.fn 82 [] []] (gl q [201] (rwB d)) (.tup []) (gl q [201] (rwB (fU a b k 0 d))):=by
 refine aq.of_body Tryz.func245 rfl (by kernel_rfl) rfl rfl ?_
 generalize hG:fU a b k 0 d=G
 refine jA ?_
 refine AW.loopL (ι:=Nat × Array Cb) (fun i=>[(0,.row 201 0 0 n),(1,.i .i64 (a:Nat)),(2,.i .i64 (b:Nat)),(3,.i .i64 (k:Nat)),(10,.i .i64 (i.1:Nat))]) (fun i=>gl q [201] (rwB i.2)) (fun i=>(i.1<=k/\i.2.size=n)/\fU a b k i.1 i.2=G) (fun i=>k - i.1) (0,d) ⟨⟨qR _,hn⟩,hG⟩ jQ (aE rfl rfl rfl) fun i hi=>?_
 clear hG
 obtain ⟨i,m⟩:=i
 obtain ⟨⟨hi1,hm⟩,hf⟩:=hi
 simp only at hi1 hm hf
 rw [fU] at hf
 refine jA ?_
 refine AW.cond rfl (fun h0=>?_) (fun h0=>?_)
 rotate_left
 ·have h:¬i<k:=by
   have:=of_decide_eq_false h0
   omega
  rw [if_neg h] at hf
  subst hf
  refine zE ?_
  exact cG rfl (.inl rfl) (aE rfl rfl rfl)
 have h:i<k:=by
  have:=of_decide_eq_true h0
  omega
 rw [if_pos h] at hf
 have w2:IntKind.i64.wrap (((i:Nat):Int)+Int.ofNat 1)=((i+1:Nat):Int):=by rw [IntKind.wrap_i64];simp only [qG];omega
 refine zD ?_
 refine wH rfl ?_;refine jI (ia (b+i) cCb ((m).toList)) ?_;refine jL (lA (b+i) cCb (m)) ?_;refine wH rfl ?_;refine jI (ia (a+i) cCb ((m).toList)) ?_;refine jL (lA (a+i) cCb (m)) ?_;refine wH rfl ?_;refine jI (ia (a+i) cCb ((m).toList)) ?_;refine RG.opS rfl (aR (a+i) cCb ((m).toList) ((m)[b+i]!) (by simp only [vF,qL];omega) rfl (tk rfl) rfl rfl rfl rfl rfl (fun _=>rfl)) rfl ?_;refine wH rfl ?_;refine jI (ia (b+i) cCb (((m).toList.set (a+i) (m)[b+i]!))) ?_;refine RG.opS rfl (aR (b+i) cCb (((m).toList.set (a+i) (m)[b+i]!)) ((m)[a+i]!) (by simp only [vF,qL];omega) rfl (tk rfl) rfl rfl rfl rfl rfl (fun _=>rfl)) rfl ?_
 refine wH rfl ?_;refine jB ?_
 refine AW.text ?_
 refine wH rfl ?_;refine jB ?_
 exact ⟨(i+1,swp m (a+i) (b+i)),⟨⟨⟨h,(ba _ _ _).trans hm⟩,hf⟩,by show k - (i+1)<k - i;omega⟩,⟨Rn.rowTIs rfl rfl rfl (ah ((ba _ _ _).trans hm)),Rn.is rfl rfl,Rn.is rfl rfl,Rn.is rfl rfl,Rn.is (congrArg (AV.i .i64) w2) rfl,trivial⟩,aE rfl rfl (by rw [bf])⟩
theorem Gt (d:Array Cb) (n a m b:Nat) (hn:d.size=n) (h1:a<m) (h2:m<b) (h3:b<=n) (hl:n<=100000000) (q:Nat->Option (Nat × Nat)):aq Tryz.prog 222 [.row 201 0 0 n,.i .i64 (a:Nat),.i .i64 (m:Nat),.i .i64 (b:Nat),.fn 82 [] []] (gl q [201] (rwB d)) (.tup []) (gl q [201] (rwB (pE d a m b))):=by
 refine aq.of_body Tryz.func222 rfl (by kernel_rfl) rfl rfl ?_
 generalize hG:pE d a m b=G
 have w1:IntKind.i64.wrap (((m:Nat):Int) - ((a:Nat):Int))=((m - a:Nat):Int):=by rw [IntKind.wrap_i64];omega
 have w2:IntKind.i64.wrap (((b:Nat):Int) - ((m:Nat):Int))=((b - m:Nat):Int):=by rw [IntKind.wrap_i64];omega
 refine jA ?_
 refine AW.loopL (ι:=(Nat × Nat) × Array Cb) (fun x=>[(0,.row 201 0 0 n),(2,.i .i64 (m:Nat)),(4,.fn 82 [] []),(10,.i .i64 (x.1.1:Nat)),(11,.i .i64 (x.1.2:Nat))]) (fun x=>gl q [201] (rwB x.2)) (fun x=>(0<x.1.1/\x.1.1<=m/\0<x.1.2/\m+x.1.2<=n/\x.2.size=n)/\∃f,x.1.1+x.1.2<=f/\sZ m f x.1.1 x.1.2 x.2=G) (fun x=>x.1.1+x.1.2) ((m - a,b - m),d) ⟨⟨by show 0<m - a;omega,by show m - a<=m;omega,by show 0<b - m;omega,by show m+(b - m)<=n;omega,hn⟩,b - a,by show m - a+(b - m)<=b - a;omega,hG⟩ ⟨Rn.rowIs rfl rfl rfl,Rn.is rfl rfl,Rn.fnF rfl rfl,Rn.is (congrArg (AV.i .i64) w1) rfl,Rn.is (congrArg (AV.i .i64) w2) rfl,trivial⟩ (aE rfl rfl rfl) fun x hx=>?_
 clear hG w1 w2 hn d
 obtain ⟨⟨i,j⟩,d⟩:=x
 obtain ⟨⟨hi,him,hj,hjn,hn⟩,f,hff,hf⟩:=hx
 simp only at hi him hj hjn hn hff hf
 obtain ⟨f,rfl⟩:∃k,f=k+1:=⟨f - 1,by omega⟩
 rw [sZ] at hf
 have w1:IntKind.i64.wrap (((m:Nat):Int) - ((i:Nat):Int))=((m - i:Nat):Int):=by rw [IntKind.wrap_i64];omega
 refine jA ?_
 refine AW.cond rfl (fun h0=>?_) (fun h0=>?_)
 rotate_left
 ·have h:i=j:=by
   have h5:=h0
   simp only [Bool.not_eq_false',vM] at h5
   omega
  rw [if_pos h] at hf
  subst h hf
  have hs:=fe (m - i) m i _ 0 d (qJ _) (by omega) (by omega)
  (repeat first|apply wA|apply wB|apply wC|apply wE|(apply zM;·kernel_rfl)|apply wF|apply wG)
  refine jE ?_;refine jB ?_
  refine AW.text ?_
  refine RG.runO af 0 [(53,.i .i64 ((m - i:Nat):Int))] 400 rfl jD ?_
  refine RG.ownK [(201,201)] [(201,201)] 201 201 (bB (hs.1)) (fun q=>pT d n (m - i) m i hn (by omega) (by omega) hl q) rfl rfl rfl rfl rfl rfl rfl rfl rfl rfl rfl rfl rfl ?_
  refine jH ?_
  exact cG rfl (.inl rfl) (aE rfl rfl rfl)
 have h:¬i=j:=by
  intro e
  subst e
  simp at h0
 rw [if_neg h] at hf
 refine jA ?_
 refine AW.cond rfl (fun h4=>?_) (fun h4=>?_)
 ·have h4:j<i:=by
   have:=of_decide_eq_true h4
   simp only at this
   omega
  rw [if_pos h4] at hf
  have hs:=fe (m - i) m j _ 0 d (qJ _) (by omega) (by omega)
  have w2:IntKind.i64.wrap (((i:Nat):Int) - ((j:Nat):Int))=((i - j:Nat):Int):=by rw [IntKind.wrap_i64];omega
  refine zB ?_
  refine RG.runO af 0 [(27,.i .i64 ((m - i:Nat):Int))] 400 rfl jD ?_
  refine RG.ownK [(201,201)] [(201,201)] 201 201 (bB (hs.1)) (fun q=>pT d n (m - i) m j hn (by omega) (by omega) hl q) rfl rfl rfl rfl rfl rfl rfl rfl rfl rfl rfl rfl rfl ?_
  refine jH ?_
  exact ⟨((i - j,j),fU (m - i) m j 0 d),⟨⟨⟨by show 0<i - j;omega,by show i - j<=m;omega,hj,hjn,hs.1.trans hn⟩,f,by show i - j+j<=f;omega,hf⟩,by show i - j+j<i+j;omega⟩,⟨Rn.rowIs rfl rfl rfl,Rn.is rfl rfl,Rn.fnF rfl rfl,Rn.is (congrArg (AV.i .i64) w2) rfl,Rn.is rfl rfl,trivial⟩,aE rfl rfl rfl⟩
 ·have h4:¬j<i:=by
   have:=of_decide_eq_false h4
   simp only at this
   omega
  rw [if_neg h4] at hf
  have hs:=fe (m - i) (m+j - i) i _ 0 d (qJ _) (by omega) (by omega)
  have w2:IntKind.i64.wrap (((j:Nat):Int) - ((i:Nat):Int))=((j - i:Nat):Int):=by rw [IntKind.wrap_i64];omega
  have w3:IntKind.i64.wrap (IntKind.i64.wrap (((m:Nat):Int)+((j:Nat):Int)) - ((i:Nat):Int))=((m+j - i:Nat):Int):=by
   have e:IntKind.i64.wrap (((m:Nat):Int)+((j:Nat):Int))=((m+j:Nat):Int):=by rw [IntKind.wrap_i64];omega
   rw [e,IntKind.wrap_i64];omega
  refine zB ?_
  refine RG.runO af 0 [(38,.i .i64 ((m - i:Nat):Int)),(43,.i .i64 ((m+j - i:Nat):Int))] 400 rfl jD ?_
  refine RG.ownK [(201,201)] [(201,201)] 201 201 (bB (hs.1)) (fun q=>pT d n (m - i) (m+j - i) i hn (by omega) (by omega) hl q) rfl rfl rfl rfl rfl rfl rfl rfl rfl rfl rfl rfl rfl ?_
  refine jH ?_
  exact ⟨((i,j - i),fU (m - i) (m+j - i) i 0 d),⟨⟨⟨hi,him,by show 0<j - i;omega,by show m+(j - i)<=n;omega,hs.1.trans hn⟩,f,by show i+(j - i)<=f;omega,hf⟩,by show i+(j - i)<i+j;omega⟩,⟨Rn.rowIs rfl rfl rfl,Rn.is rfl rfl,Rn.fnF rfl rfl,Rn.is rfl rfl,Rn.is (congrArg (AV.i .i64) w2) rfl,trivial⟩,aE rfl rfl rfl⟩
end Go.Proofs.YtdidjpohnopihaaGreat.Sm
end
section
namespace Go.Proofs.YtdidjpohnopihaaGreat.Sm
open Go.RowKit
open Go.Sort (swp)
section
variable {α : Type} [Inhabited α] (lt : α -> α -> Bool)
theorem GA (f a m b:Nat) (d:Array α) (h1:¬m - a=1) (h2:¬b - m=1):aZ lt (f+1) a m b d=pW (fun a m b d=>aZ lt f a m b d) a b ((a+b) / 2) (cR lt d a m b) ((a+b) / 2+m - cR lt d a m b) (sm1 d (cR lt d a m b) m ((a+b) / 2+m - cR lt d a m b)):=by
 rw [aZ,if_neg h1,if_neg h2]
theorem yW {f:Nat} {d:Array α} {a s b:Nat} (h:b<=d.size):Pm d (sm2 (fun a m b d=>aZ lt f a m b d) d a s b):=by
 rw [sm2]
 by_cases k:a<s/\s<b
 ·rw [qF k,cond_true]
  exact dd lt f a s b d k.1 k.2 h
 ·rw [qC k,cond_false]
  exact Pm.refl d
theorem xL {i k:Nat} {d:Array α} (h:¬i<k):qa i k d=d:=by
 cases k with
 | zero=>rfl
 | succ k=>rw [qa,if_neg (by omega)]
end
theorem yl (n:Nat) (hl:n<=100000000):∀(f a m b:Nat) (d:Array Cb),d.size=n->a<m->m<b->b<=n->b - a<=f->∀(q:Nat->Option (Nat × Nat)),aq Tryz.prog 182 [.row 201 0 0 n,.i .i64 (a:Nat),.i .i64 (m:Nat),.i .i64 (b:Nat),.fn 82 [] []] (gl q [201] (rwB d)) (.tup []) (gl q [201] (rwB (aZ ltC f a m b d))):=by
 intro f
 induction f with
 | zero=>intro a m b d hn h1 h2 h3 hf;omega
 | succ f IH =>
 intro a m b d hn h1 h2 h3 hf q
 refine aq.of_body Tryz.func182 rfl (by kernel_rfl) rfl rfl ?_
 by_cases e1:m - a=1
 ·rw [aZ,if_pos e1]
  have w0:IntKind.i64.wrap (((m:Nat):Int) - ((a:Nat):Int))=1:=by rw [IntKind.wrap_i64];omega
  generalize hG:sE (bsr (fun h=>ltC d[h]! d[a]!) m b - 1) a d=G
  have hR:=ec (fun h=>ltC d[h]! d[a]!) _ m b (qJ _) (by omega)
  generalize hbs:bsr (fun h=>ltC d[h]! d[a]!) m b=R at hG hR
  refine zB ?_
  refine RG.runO af 0 [(28,.b true)] 400 rfl jD ?_
  refine jB ?_
  refine zT ?_
  refine AW.loopL (ι:=Nat × Nat) (fun x=>[(0,.row 201 0 0 n),(1,.i .i64 (a:Nat)),(4,.fn 82 [] []),(10,.i .i64 (x.1:Nat)),(11,.i .i64 (x.2:Nat))]) (fun _=>gl q [201] (rwB d)) (fun x=>(m<=x.1/\x.1<=x.2/\x.2<=b)/\bsr (fun h=>ltC d[h]! d[a]!) x.1 x.2=R) (fun x=>x.2 - x.1) (m,b) ⟨⟨qJ _,by show m<=b;omega,qJ _⟩,hbs⟩ jQ (aE rfl rfl rfl) fun x hx=>?_
  clear hbs
  obtain ⟨i,j⟩:=x
  obtain ⟨⟨hi,hij,hj⟩,hf⟩:=hx
  simp only at hi hij hj hf
  rw [bsr] at hf
  refine jA ?_
  refine AW.cond rfl (fun h0=>?_) (fun h0=>?_)
  ·have h : i < j := by
    have:=of_decide_eq_true h0
    omega
   rw [dif_pos h] at hf
   have w1:IntKind.i64.wrap ((cw (cy (IntKind.i64.wrap ((i:Int)+(j:Int)))) 1).toNat:Int)=(((i+j) / 2:Nat):Int):=by rw [j4 i j (by omega),IntKind.wrap_i64];omega
   have w2:IntKind.i64.wrap ((((i+j) / 2:Nat):Int)+Int.ofNat 1)=(((i+j) / 2+1:Nat):Int):=by rw [IntKind.wrap_i64];simp only [qG];omega
   refine zB ?_
   refine RG.runO af 0 [(39,.i .i64 (((i+j) / 2:Nat):Int))] 400 rfl jD ?_
   refine zD ?_
   refine wH rfl ?_;refine jI (ia ((i+j) / 2) cCb ((d).toList)) ?_;refine jL (lA ((i+j) / 2) cCb (d)) ?_
   refine wH rfl ?_;refine jI (ia (a) cCb ((d).toList)) ?_;refine jL (lA (a) cCb (d)) ?_
   refine wH rfl ?_
   refine jc (pc d[(i+j) / 2]! d[a]!) ?_
   refine wH rfl ?_;refine jB ?_
   refine AW.cond rfl (fun h1=>?_) (fun h1=>?_)
   ·rw [if_pos (show ltC d[(i+j) / 2]! d[a]! = true from h1)] at hf
    refine jA ?_
    exact ⟨((i+j) / 2+1,j),⟨⟨⟨by show m<=(i+j) / 2+1;omega,by show (i+j) / 2+1<=j;omega,hj⟩,hf⟩,by show j - ((i+j) / 2+1)<j - i;omega⟩,⟨Rn.rowIs rfl rfl rfl,Rn.is rfl rfl,Rn.fnF rfl rfl,Rn.is (congrArg (AV.i .i64) w2) rfl,Rn.is rfl rfl,trivial⟩,aE rfl rfl rfl⟩
   ·rw [if_neg (by rw [show ltC d[(i+j) / 2]! d[a]! = false from h1];decide)] at hf
    refine jA ?_
    exact ⟨(i,(i+j) / 2),⟨⟨⟨hi,by show i<=(i+j) / 2;omega,by show (i+j) / 2<=b;omega⟩,hf⟩,by show (i+j) / 2 - i<j - i;omega⟩,jQ,aE rfl rfl rfl⟩
  ·have h : ¬ i < j := by
    have:=of_decide_eq_false h0
    omega
   rw [dif_neg h] at hf
   subst hf
   have w3:IntKind.i64.wrap (((i:Nat):Int) - Int.ofNat 1)=((i - 1:Nat):Int):=by rw [IntKind.wrap_i64];simp only [qG];omega
   refine zE ?_
   refine AW.loopL (ι:=Nat × Array Cb) (fun x=>[(0,.row 201 0 0 n),(10,.i .i64 (i:Nat)),(13,.i .i64 (x.1:Nat))]) (fun x=>gl q [201] (rwB x.2)) (fun x=>(x.1<=n/\x.2.size=n)/\sE (i - 1) x.1 x.2=G) (fun x=>n+1 - x.1) (a,d) ⟨⟨by show a<=n;omega,hn⟩,hG⟩ jQ (aE rfl rfl rfl) fun x hx=>?_
   clear hG
   obtain ⟨k,v⟩:=x
   obtain ⟨⟨hk,hv⟩,hf⟩:=hx
   simp only at hk hv hf
   rw [sE] at hf
   refine zB ?_
   refine RG.runO af 0 [(57,.i .i64 ((i - 1:Nat):Int))] 400 rfl jD ?_
   refine jB ?_
   refine AW.cond rfl (fun h4=>?_) (fun h4=>?_)
   ·have h4 : k < i - 1 := by
     have:=of_decide_eq_true h4
     omega
    rw [if_pos h4] at hf
    have w4:IntKind.i64.wrap (((k:Nat):Int)+Int.ofNat 1)=((k+1:Nat):Int):=by rw [IntKind.wrap_i64];simp only [qG];omega
    refine zD ?_
    refine wH rfl ?_;refine jI (ia (k+1) cCb ((v).toList)) ?_;refine jL (lA (k+1) cCb (v)) ?_;refine wH rfl ?_;refine jI (ia (k) cCb ((v).toList)) ?_;refine jL (lA (k) cCb (v)) ?_;refine wH rfl ?_;refine jI (ia (k) cCb ((v).toList)) ?_;refine RG.opS rfl (aR (k) cCb ((v).toList) ((v)[k+1]!) (by simp only [vF,qL];omega) rfl (tk rfl) rfl rfl rfl rfl rfl (fun _=>rfl)) rfl ?_;refine wH rfl ?_;refine jI (ia (k+1) cCb (((v).toList.set (k) (v)[k+1]!))) ?_;refine RG.opS rfl (aR (k+1) cCb (((v).toList.set (k) (v)[k+1]!)) ((v)[k]!) (by simp only [vF,qL];omega) rfl (tk rfl) rfl rfl rfl rfl rfl (fun _=>rfl)) rfl ?_
    refine wH rfl ?_;refine jB ?_
    refine AW.text ?_
    refine wH rfl ?_;refine jB ?_
    exact ⟨(k+1,swp v k (k+1)),⟨⟨⟨by show k+1<=n;omega,(ba _ _ _).trans hv⟩,hf⟩,by show n+1 - (k+1)<n+1 - k;omega⟩,⟨Rn.rowTIs rfl rfl rfl (ah ((ba _ _ _).trans hv)),Rn.is rfl rfl,Rn.is (congrArg (AV.i .i64) w4) rfl,trivial⟩,aE rfl rfl (by rw [bf])⟩
   ·have h4 : ¬ k < i - 1 := by
     have:=of_decide_eq_false h4
     omega
    rw [if_neg h4] at hf
    subst hf
    refine zE ?_
    exact AW.ret (cG rfl (.inr rfl) (aE rfl rfl rfl))
 have w0:¬IntKind.i64.wrap (((m:Nat):Int) - ((a:Nat):Int))=Int.ofNat 1:=by rw [IntKind.wrap_i64];simp only [qG];omega
 refine zB ?_
 refine RG.runO af 0 [(28,.b false)] 400 rfl jD ?_
 refine jB ?_
 refine AW.condF rfl ?_
 by_cases e2:b - m=1
 ·rw [aZ,if_neg e1,if_pos e2]
  have w0:IntKind.i64.wrap (((b:Nat):Int) - ((m:Nat):Int))=Int.ofNat 1:=by rw [IntKind.wrap_i64];simp only [qG];omega
  generalize hG:qa (bsr (fun h=>!ltC d[m]! d[h]!) a m) m d=G
  have hR:=ec (fun h=>!ltC d[m]! d[h]!) _ a m (qJ _) (by omega)
  generalize hbs:bsr (fun h=>!ltC d[m]! d[h]!) a m=R at hG hR
  refine zB ?_
  refine RG.runO af 0 [(80,.b true)] 400 rfl jD ?_
  refine jB ?_
  refine zT ?_
  refine AW.loopL (ι:=Nat × Nat) (fun x=>[(0,.row 201 0 0 n),(2,.i .i64 (m:Nat)),(4,.fn 82 [] []),(14,.i .i64 (x.1:Nat)),(15,.i .i64 (x.2:Nat))]) (fun _=>gl q [201] (rwB d)) (fun x=>(a<=x.1/\x.1<=x.2/\x.2<=m)/\bsr (fun h=>!ltC d[m]! d[h]!) x.1 x.2=R) (fun x=>x.2 - x.1) (a,m) ⟨⟨qJ _,by show a<=m;omega,qJ _⟩,hbs⟩ jQ (aE rfl rfl rfl) fun x hx=>?_
  clear hbs
  obtain ⟨i,j⟩:=x
  obtain ⟨⟨hi,hij,hj⟩,hf⟩:=hx
  simp only at hi hij hj hf
  rw [bsr] at hf
  refine jA ?_
  refine AW.cond rfl (fun h0=>?_) (fun h0=>?_)
  ·have h : i < j := by
    have:=of_decide_eq_true h0
    omega
   rw [dif_pos h] at hf
   have w1:IntKind.i64.wrap ((cw (cy (IntKind.i64.wrap ((i:Int)+(j:Int)))) 1).toNat:Int)=(((i+j) / 2:Nat):Int):=by rw [j4 i j (by omega),IntKind.wrap_i64];omega
   have w2:IntKind.i64.wrap ((((i+j) / 2:Nat):Int)+Int.ofNat 1)=(((i+j) / 2+1:Nat):Int):=by rw [IntKind.wrap_i64];simp only [qG];omega
   refine zB ?_
   refine RG.runO af 0 [(91,.i .i64 (((i+j) / 2:Nat):Int))] 400 rfl jD ?_
   refine zD ?_
   refine wH rfl ?_;refine jI (ia (m) cCb ((d).toList)) ?_;refine jL (lA (m) cCb (d)) ?_
   refine wH rfl ?_;refine jI (ia ((i+j) / 2) cCb ((d).toList)) ?_;refine jL (lA ((i+j) / 2) cCb (d)) ?_
   refine wH rfl ?_
   refine jc (pc d[m]! d[(i+j) / 2]!) ?_
   refine wH rfl ?_;refine jB ?_
   refine AW.cond rfl (fun h1=>?_) (fun h1=>?_)
   ·rw [if_pos (show (!ltC d[m]! d[(i+j) / 2]!)=true from h1)] at hf
    refine jA ?_
    exact ⟨((i+j) / 2+1,j),⟨⟨⟨by show a<=(i+j) / 2+1;omega,by show (i+j) / 2+1<=j;omega,hj⟩,hf⟩,by show j - ((i+j) / 2+1)<j - i;omega⟩,⟨Rn.rowIs rfl rfl rfl,Rn.is rfl rfl,Rn.fnF rfl rfl,Rn.is (congrArg (AV.i .i64) w2) rfl,Rn.is rfl rfl,trivial⟩,aE rfl rfl rfl⟩
   ·rw [if_neg (by rw [show (!ltC d[m]! d[(i+j) / 2]!)=false from h1];decide)] at hf
    refine jA ?_
    exact ⟨(i,(i+j) / 2),⟨⟨⟨hi,by show i<=(i+j) / 2;omega,by show (i+j) / 2<=m;omega⟩,hf⟩,by show (i+j) / 2 - i<j - i;omega⟩,jQ,aE rfl rfl rfl⟩
  ·have h : ¬ i < j := by
    have:=of_decide_eq_false h0
    omega
   rw [dif_neg h] at hf
   subst hf
   refine zE ?_
   refine AW.loopL (ι:=Nat × Array Cb) (fun x=>[(0,.row 201 0 0 n),(14,.i .i64 (i:Nat)),(17,.i .i64 (x.1:Nat))]) (fun x=>gl q [201] (rwB x.2)) (fun x=>(x.1<=m/\x.2.size=n)/\qa i x.1 x.2=G) (fun x=>x.1) (m,d) ⟨⟨qJ _,hn⟩,hG⟩ jQ (aE rfl rfl rfl) fun x hx=>?_
   clear hG
   obtain ⟨k,v⟩:=x
   obtain ⟨⟨hk,hv⟩,hf⟩:=hx
   simp only at hk hv hf
   refine jA ?_
   refine AW.cond rfl (fun h4=>?_) (fun h4=>?_)
   ·have h4 : i < k := by
     have:=of_decide_eq_true h4
     omega
    obtain ⟨k,rfl⟩:∃z,k=z+1:=⟨k - 1,by omega⟩
    rw [qa,if_pos h4] at hf
    have w4:IntKind.i64.wrap (((k+1:Nat):Int) - Int.ofNat 1)=((k:Nat):Int):=by rw [IntKind.wrap_i64];simp only [qG];omega
    refine zD ?_
    refine wH rfl ?_;refine jI (ia (k) cCb ((v).toList)) ?_;refine jL (lA (k) cCb (v)) ?_;refine wH rfl ?_;refine jI (ia (k+1) cCb ((v).toList)) ?_;refine jL (lA (k+1) cCb (v)) ?_;refine wH rfl ?_;refine jI (ia (k+1) cCb ((v).toList)) ?_;refine RG.opS rfl (aR (k+1) cCb ((v).toList) ((v)[k]!) (by simp only [vF,qL];omega) rfl (tk rfl) rfl rfl rfl rfl rfl (fun _=>rfl)) rfl ?_;refine wH rfl ?_;refine jI (ia (k) cCb (((v).toList.set (k+1) (v)[k]!))) ?_;refine RG.opS rfl (aR (k) cCb (((v).toList.set (k+1) (v)[k]!)) ((v)[k+1]!) (by simp only [vF,qL];omega) rfl (tk rfl) rfl rfl rfl rfl rfl (fun _=>rfl)) rfl ?_
    refine wH rfl ?_;refine jB ?_
    refine AW.text ?_
    refine wH rfl ?_;refine jB ?_
    exact ⟨(k,swp v (k+1) k),⟨⟨⟨by show k<=m;omega,(ba _ _ _).trans hv⟩,hf⟩,by show k<k+1;omega⟩,⟨Rn.rowTIs rfl rfl rfl (ah ((ba _ _ _).trans hv)),Rn.is rfl rfl,Rn.is (congrArg (AV.i .i64) w4) rfl,trivial⟩,aE rfl rfl (by rw [bf])⟩
   ·have h4 : ¬ i < k := by
     have:=of_decide_eq_false h4
     omega
    rw [xL h4] at hf
    subst hf
    refine zE ?_
    exact AW.ret (cG rfl (.inr rfl) (aE rfl rfl rfl))
 have w0:¬IntKind.i64.wrap (((b:Nat):Int) - ((m:Nat):Int))=Int.ofNat 1:=by rw [IntKind.wrap_i64];simp only [qG];omega
 have hsr:=jd ltC d h1 h2
 rw [GA ltC f a m b d e1 e2]
 rw [pW]
 rw [cR] at hsr ⊢
 generalize hmid:(a+b) / 2=mid at hsr ⊢
 generalize hst:(if m>mid then mid+m - b else a)=st0 at hsr ⊢
 generalize hr0:(if m>mid then mid else m)=r0 at hsr ⊢
 have hst1:a<=st0/\st0<=r0/\r0<=m/\r0<=mid/\mid+m<=st0+b:=by
  by_cases g:m>mid
  ·rw [if_pos g] at hst hr0;omega
  ·rw [if_neg g] at hst hr0;omega
 have wm:IntKind.i64.wrap ((cw (cy (IntKind.i64.wrap ((a:Int)+(b:Int)))) 1).toNat:Int)=((mid:Nat):Int):=by rw [j4 a b (by omega),IntKind.wrap_i64];omega
 have wn:IntKind.i64.wrap (((mid:Nat):Int)+((m:Nat):Int))=((mid+m:Nat):Int):=by rw [IntKind.wrap_i64];omega
 have wp:IntKind.i64.wrap (((mid+m:Nat):Int) - Int.ofNat 1)=((mid+m - 1:Nat):Int):=by rw [IntKind.wrap_i64];simp only [qG];omega
 have wb:IntKind.i64.wrap (((mid+m:Nat):Int) - ((b:Nat):Int))=(((mid+m:Nat):Int) - ((b:Nat):Int)):=by rw [IntKind.wrap_i64];omega
 refine zB ?_
 refine RG.runO af 0 [(80,.b false)] 400 rfl jD ?_
 refine jB ?_
 refine AW.condF rfl ?_;refine jB ?_
 refine AW.text ?_
 refine RG.runO af 0 [(134,.i .i64 ((mid:Nat):Int))] 400 rfl jD ?_
 refine zB ?_
 refine RG.runO af 0 [(137,.i .i64 ((mid+m:Nat):Int))] 400 rfl jD ?_
 refine jA ?_
 refine AW.cutT (ι:=Unit) (fun _=>[(0,.row 201 0 0 n),(1,.i .i64 (a:Nat)),(2,.i .i64 (m:Nat)),(3,.i .i64 (b:Nat)),(4,.fn 82 [] []),(18,.i .i64 (mid:Nat)),(19,.i .i64 ((mid+m:Nat):Int)),(20,.i .i64 (st0:Nat)),(21,.i .i64 (r0:Nat))]) (fun _=>gl q [201] (rwB d)) (fun _=>True) ?_ fun _ _=>?_
 ·refine AW.cond rfl (fun h0=>?_) (fun h0=>?_)
  ·have g : m > mid := by
    have:=of_decide_eq_true h0
    omega
   rw [if_pos g] at hst hr0
   subst hr0
   have wb:IntKind.i64.wrap (((mid+m:Nat):Int) - ((b:Nat):Int))=((st0:Nat):Int):=by rw [wb];omega
   refine jA ?_
   exact ⟨(),trivial,⟨Rn.rowIs rfl rfl rfl,Rn.is rfl rfl,Rn.is rfl rfl,Rn.is rfl rfl,Rn.fnF rfl rfl,Rn.is rfl rfl,Rn.is rfl rfl,Rn.is (congrArg (AV.i .i64) wb) rfl,Rn.is rfl rfl,trivial⟩,aE rfl rfl rfl⟩
  ·have g : ¬ m > mid := by
    have:=of_decide_eq_false h0
    omega
   rw [if_neg g] at hst hr0
   subst hr0 hst
   refine jA ?_
   exact ⟨(),trivial,jQ,aE rfl rfl rfl⟩
 refine zB ?_
 refine RG.runO af 0 [(148,.i .i64 ((mid+m - 1:Nat):Int))] 400 rfl jD ?_
 refine jA ?_
 have hR:=ec (fun c=>!ltC d[mid+m - 1 - c]! d[c]!) _ st0 r0 (qJ _) hst1.2.1
 generalize hbs:bsr (fun c=>!ltC d[mid+m - 1 - c]! d[c]!) st0 r0=R at hR hsr ⊢
 refine AW.loopL (ι:=Nat × Nat) (fun x=>[(0,.row 201 0 0 n),(1,.i .i64 (a:Nat)),(2,.i .i64 (m:Nat)),(3,.i .i64 (b:Nat)),(4,.fn 82 [] []),(18,.i .i64 (mid:Nat)),(19,.i .i64 ((mid+m:Nat):Int)),(20,.i .i64 (x.1:Nat)),(21,.i .i64 (x.2:Nat)),(22,.i .i64 ((mid+m - 1:Nat):Int))]) (fun _=>gl q [201] (rwB d)) (fun x=>(st0<=x.1/\x.1<=x.2/\x.2<=r0)/\bsr (fun c=>!ltC d[mid+m - 1 - c]! d[c]!) x.1 x.2=R) (fun x=>x.2 - x.1) (st0,r0) ⟨⟨qJ _,hst1.2.1,qJ _⟩,hbs⟩ jQ (aE rfl rfl rfl) fun x hx=>?_
 clear hbs hst hr0
 obtain ⟨i,j⟩:=x
 obtain ⟨⟨hi,hij,hj⟩,hf⟩:=hx
 simp only at hi hij hj hf
 rw [bsr] at hf
 refine jA ?_
 refine AW.cond rfl (fun h0=>?_) (fun h0=>?_)
 ·have h : i < j := by
   have:=of_decide_eq_true h0
   omega
  rw [dif_pos h] at hf
  have w1:IntKind.i64.wrap ((cw (cy (IntKind.i64.wrap ((i:Int)+(j:Int)))) 1).toNat:Int)=(((i+j) / 2:Nat):Int):=by rw [j4 i j (by omega),IntKind.wrap_i64];omega
  have w2:IntKind.i64.wrap ((((i+j) / 2:Nat):Int)+Int.ofNat 1)=(((i+j) / 2+1:Nat):Int):=by rw [IntKind.wrap_i64];simp only [qG];omega
  refine zB ?_
  refine RG.runO af 0 [(157,.i .i64 (((i+j) / 2:Nat):Int))] 400 rfl jD ?_
  refine zD ?_
  refine wH rfl ?_;refine jI (ia (mid+m - 1 - (i+j) / 2) cCb ((d).toList)) ?_;refine jL (lA (mid+m - 1 - (i+j) / 2) cCb (d)) ?_
  refine wH rfl ?_;refine jI (ia ((i+j) / 2) cCb ((d).toList)) ?_;refine jL (lA ((i+j) / 2) cCb (d)) ?_
  refine wH rfl ?_
  refine jc (pc d[mid+m - 1 - (i+j) / 2]! d[(i+j) / 2]!) ?_
  refine wH rfl ?_;refine jB ?_
  refine AW.cond rfl (fun h1=>?_) (fun h1=>?_)
  ·rw [if_pos (show (!ltC d[mid+m - 1 - (i+j) / 2]! d[(i+j) / 2]!)=true from h1)] at hf
   refine jA ?_
   exact ⟨((i+j) / 2+1,j),⟨⟨⟨by show st0<=(i+j) / 2+1;omega,by show (i+j) / 2+1<=j;omega,hj⟩,hf⟩,by show j - ((i+j) / 2+1)<j - i;omega⟩,⟨Rn.rowIs rfl rfl rfl,Rn.is rfl rfl,Rn.is rfl rfl,Rn.is rfl rfl,Rn.fnF rfl rfl,Rn.is rfl rfl,Rn.is rfl rfl,Rn.is (congrArg (AV.i .i64) w2) rfl,Rn.is rfl rfl,Rn.is rfl rfl,trivial⟩,aE rfl rfl rfl⟩
  ·rw [if_neg (by rw [show (!ltC d[mid+m - 1 - (i+j) / 2]! d[(i+j) / 2]!)=false from h1];decide)] at hf
   refine jA ?_
   exact ⟨(i,(i+j) / 2),⟨⟨⟨hi,by show i<=(i+j) / 2;omega,by show (i+j) / 2<=r0;omega⟩,hf⟩,by show (i+j) / 2 - i<j - i;omega⟩,jQ,aE rfl rfl rfl⟩
 have h:¬i<j:=by
  have:=of_decide_eq_false h0
  omega
 rw [dif_neg h] at hf
 subst hf
 have we:IntKind.i64.wrap (((mid+m:Nat):Int) - ((i:Nat):Int))=((mid+m - i:Nat):Int):=by rw [IntKind.wrap_i64];omega
 have hen:mid+m - i<=b:=by omega
 generalize hE:mid+m - i=en at we hen ⊢
 (repeat first|apply wA|apply wB|apply wC|apply wE|(apply zM;·kernel_rfl)|apply wF|apply wG)
 refine jE ?_;refine jB ?_
 refine AW.text ?_
 refine RG.runO af 0 [(177,.i .i64 (en:Nat))] 400 rfl jD ?_
 refine jB ?_
 refine AW.cutT (ι:=Unit) (fun _=>[(0,.row 201 0 0 n),(1,.i .i64 (a:Nat)),(2,.i .i64 (m:Nat)),(3,.i .i64 (b:Nat)),(4,.fn 82 [] []),(18,.i .i64 (mid:Nat)),(20,.i .i64 (i:Nat)),(24,.i .i64 (en:Nat)),(185,.b (decide (i<m/\m<en)))]) (fun _=>gl q [201] (rwB d)) (fun _=>True) ?_ fun _ _=>?_
 ·refine AW.text ?_
  by_cases k1:((i:Nat):Int)<((m:Nat):Int)
  ·by_cases k2:((m:Nat):Int)<((en:Nat):Int)
   ·refine RG.runO af 0 [(180,.b true),(184,.b true)] 400 rfl jD ?_
    refine jB ?_
    exact ⟨(),trivial,⟨Rn.rowIs rfl rfl rfl,Rn.is rfl rfl,Rn.is rfl rfl,Rn.is rfl rfl,Rn.fnF rfl rfl,Rn.is rfl rfl,Rn.is rfl rfl,Rn.is rfl rfl,Rn.is (congrArg AV.b (qF (show i<m/\m<en by omega)).symm) rfl,trivial⟩,aE rfl rfl rfl⟩
   ·refine RG.runO af 0 [(180,.b true),(184,.b false)] 400 rfl jD ?_
    refine jB ?_
    exact ⟨(),trivial,⟨Rn.rowIs rfl rfl rfl,Rn.is rfl rfl,Rn.is rfl rfl,Rn.is rfl rfl,Rn.fnF rfl rfl,Rn.is rfl rfl,Rn.is rfl rfl,Rn.is rfl rfl,Rn.is (congrArg AV.b (qC (show ¬(i<m/\m<en) by omega)).symm) rfl,trivial⟩,aE rfl rfl rfl⟩
  ·refine RG.runO af 0 [(180,.b false)] 400 rfl jD ?_
   refine jB ?_
   exact ⟨(),trivial,⟨Rn.rowIs rfl rfl rfl,Rn.is rfl rfl,Rn.is rfl rfl,Rn.is rfl rfl,Rn.fnF rfl rfl,Rn.is rfl rfl,Rn.is rfl rfl,Rn.is rfl rfl,Rn.is (congrArg AV.b (qC (show ¬(i<m/\m<en) by omega)).symm) rfl,trivial⟩,aE rfl rfl rfl⟩
 have hpm:=yJ (d:=d) (s:=i) (m:=m) (e:=en) (by omega)
 have hval:sm1 d i m en=bif decide (i<m/\m<en) then pE d i m en else d:=rfl
 generalize sm1 d i m en=v at hpm hval ⊢
 refine jB ?_
 refine AW.cutT (ι:=Unit) (fun _=>[(0,.row 201 0 0 n),(1,.i .i64 (a:Nat)),(2,.i .i64 (m:Nat)),(3,.i .i64 (b:Nat)),(4,.fn 82 [] []),(18,.i .i64 (mid:Nat)),(20,.i .i64 (i:Nat)),(24,.i .i64 (en:Nat))]) (fun _=>gl q [201] (rwB v)) (fun _=>True) ?_ fun _ _=>?_
 ·refine AW.cond rfl (fun h0=>?_) (fun h0=>?_)
  ·rw [h0,cond_true] at hval
   subst hval
   have k:=of_decide_eq_true h0
   refine jA ?_
   refine RG.ownK [(201,201)] [(201,201)] 201 201 (bB (hpm.1)) (fun q=>Gt d n i m en hn k.1 k.2 (by omega) hl q) rfl rfl rfl rfl rfl rfl rfl rfl rfl rfl rfl rfl rfl ?_
   refine jH ?_
   exact ⟨(),trivial,jQ,aE rfl rfl rfl⟩
  ·rw [h0,cond_false] at hval
   subst hval
   refine jA ?_
   exact ⟨(),trivial,jQ,aE rfl rfl rfl⟩
 have hn:v.size=n:=hpm.1.trans hn
 clear hpm hval
 generalize v=d1 at hn ⊢
 refine jB ?_
 refine AW.cutT (ι:=Unit) (fun _=>[(0,.row 201 0 0 n),(1,.i .i64 (a:Nat)),(2,.i .i64 (m:Nat)),(3,.i .i64 (b:Nat)),(4,.fn 82 [] []),(18,.i .i64 (mid:Nat)),(20,.i .i64 (i:Nat)),(24,.i .i64 (en:Nat)),(199,.b (decide (a<i/\i<mid)))]) (fun _=>gl q [201] (rwB d1)) (fun _=>True) ?_ fun _ _=>?_
 ·refine AW.text ?_
  by_cases k1:((a:Nat):Int)<((i:Nat):Int)
  ·by_cases k2:((i:Nat):Int)<((mid:Nat):Int)
   ·refine RG.runO af 0 [(194,.b true),(198,.b true)] 400 rfl jD ?_
    refine jB ?_
    exact ⟨(),trivial,⟨Rn.rowIs rfl rfl rfl,Rn.is rfl rfl,Rn.is rfl rfl,Rn.is rfl rfl,Rn.fnF rfl rfl,Rn.is rfl rfl,Rn.is rfl rfl,Rn.is rfl rfl,Rn.is (congrArg AV.b (qF (show a<i/\i<mid by omega)).symm) rfl,trivial⟩,aE rfl rfl rfl⟩
   ·refine RG.runO af 0 [(194,.b true),(198,.b false)] 400 rfl jD ?_
    refine jB ?_
    exact ⟨(),trivial,⟨Rn.rowIs rfl rfl rfl,Rn.is rfl rfl,Rn.is rfl rfl,Rn.is rfl rfl,Rn.fnF rfl rfl,Rn.is rfl rfl,Rn.is rfl rfl,Rn.is rfl rfl,Rn.is (congrArg AV.b (qC (show ¬(a<i/\i<mid) by omega)).symm) rfl,trivial⟩,aE rfl rfl rfl⟩
  ·refine RG.runO af 0 [(194,.b false)] 400 rfl jD ?_
   refine jB ?_
   exact ⟨(),trivial,⟨Rn.rowIs rfl rfl rfl,Rn.is rfl rfl,Rn.is rfl rfl,Rn.is rfl rfl,Rn.fnF rfl rfl,Rn.is rfl rfl,Rn.is rfl rfl,Rn.is rfl rfl,Rn.is (congrArg AV.b (qC (show ¬(a<i/\i<mid) by omega)).symm) rfl,trivial⟩,aE rfl rfl rfl⟩
 have hpm:=yW ltC (f:=f) (d:=d1) (a:=a) (s:=i) (b:=mid) (by omega)
 have hval:sm2 (fun a m b d=>aZ ltC f a m b d) d1 a i mid=bif decide (a<i/\i<mid) then aZ ltC f a i mid d1 else d1:=rfl
 generalize sm2 (fun a m b d=>aZ ltC f a m b d) d1 a i mid=v at hpm hval ⊢
 refine jB ?_
 refine AW.cutT (ι:=Unit) (fun _=>[(0,.row 201 0 0 n),(1,.i .i64 (a:Nat)),(2,.i .i64 (m:Nat)),(3,.i .i64 (b:Nat)),(4,.fn 82 [] []),(18,.i .i64 (mid:Nat)),(20,.i .i64 (i:Nat)),(24,.i .i64 (en:Nat))]) (fun _=>gl q [201] (rwB v)) (fun _=>True) ?_ fun _ _=>?_
 ·refine AW.cond rfl (fun h0=>?_) (fun h0=>?_)
  ·rw [h0,cond_true] at hval
   subst hval
   have k:=of_decide_eq_true h0
   refine jA ?_
   refine RG.ownK [(201,201)] [(201,201)] 201 201 (bB (hpm.1)) (fun q=>IH a i mid d1 hn k.1 k.2 (by omega) (by omega) q) rfl rfl rfl rfl rfl rfl rfl rfl rfl rfl rfl rfl rfl ?_
   refine jH ?_
   exact ⟨(),trivial,jQ,aE rfl rfl rfl⟩
  ·rw [h0,cond_false] at hval
   subst hval
   refine jA ?_
   exact ⟨(),trivial,jQ,aE rfl rfl rfl⟩
 have hn:v.size=n:=hpm.1.trans hn
 clear hpm hval
 generalize v=d2 at hn ⊢
 refine jB ?_
 refine AW.cutT (ι:=Unit) (fun _=>[(0,.row 201 0 0 n),(1,.i .i64 (a:Nat)),(2,.i .i64 (m:Nat)),(3,.i .i64 (b:Nat)),(4,.fn 82 [] []),(18,.i .i64 (mid:Nat)),(20,.i .i64 (i:Nat)),(24,.i .i64 (en:Nat)),(213,.b (decide (mid<en/\en<b)))]) (fun _=>gl q [201] (rwB d2)) (fun _=>True) ?_ fun _ _=>?_
 ·refine AW.text ?_
  by_cases k1:((mid:Nat):Int)<((en:Nat):Int)
  ·by_cases k2:((en:Nat):Int)<((b:Nat):Int)
   ·refine RG.runO af 0 [(208,.b true),(212,.b true)] 400 rfl jD ?_
    refine jB ?_
    exact ⟨(),trivial,⟨Rn.rowIs rfl rfl rfl,Rn.is rfl rfl,Rn.is rfl rfl,Rn.is rfl rfl,Rn.fnF rfl rfl,Rn.is rfl rfl,Rn.is rfl rfl,Rn.is rfl rfl,Rn.is (congrArg AV.b (qF (show mid<en/\en<b by omega)).symm) rfl,trivial⟩,aE rfl rfl rfl⟩
   ·refine RG.runO af 0 [(208,.b true),(212,.b false)] 400 rfl jD ?_
    refine jB ?_
    exact ⟨(),trivial,⟨Rn.rowIs rfl rfl rfl,Rn.is rfl rfl,Rn.is rfl rfl,Rn.is rfl rfl,Rn.fnF rfl rfl,Rn.is rfl rfl,Rn.is rfl rfl,Rn.is rfl rfl,Rn.is (congrArg AV.b (qC (show ¬(mid<en/\en<b) by omega)).symm) rfl,trivial⟩,aE rfl rfl rfl⟩
  ·refine RG.runO af 0 [(208,.b false)] 400 rfl jD ?_
   refine jB ?_
   exact ⟨(),trivial,⟨Rn.rowIs rfl rfl rfl,Rn.is rfl rfl,Rn.is rfl rfl,Rn.is rfl rfl,Rn.fnF rfl rfl,Rn.is rfl rfl,Rn.is rfl rfl,Rn.is rfl rfl,Rn.is (congrArg AV.b (qC (show ¬(mid<en/\en<b) by omega)).symm) rfl,trivial⟩,aE rfl rfl rfl⟩
 have hpm:=yW ltC (f:=f) (d:=d2) (a:=mid) (s:=en) (b:=b) (by omega)
 have hval:sm2 (fun a m b d=>aZ ltC f a m b d) d2 mid en b=bif decide (mid<en/\en<b) then aZ ltC f mid en b d2 else d2:=rfl
 generalize sm2 (fun a m b d=>aZ ltC f a m b d) d2 mid en b=v at hpm hval ⊢
 refine jB ?_
 refine AW.cond rfl (fun h0=>?_) (fun h0=>?_)
 ·rw [h0,cond_true] at hval
  subst hval
  have k:=of_decide_eq_true h0
  refine jA ?_
  refine RG.ownK [(201,201)] [(201,201)] 201 201 (bB (hpm.1)) (fun q=>IH mid en b d2 hn k.1 k.2 (by omega) (by omega) q) rfl rfl rfl rfl rfl rfl rfl rfl rfl rfl rfl rfl rfl ?_
  refine jH ?_
  exact cG rfl (.inl rfl) (aE rfl rfl rfl)
 ·rw [h0,cond_false] at hval
  subst hval
  refine jA ?_
  exact cG rfl (.inl rfl) (aE rfl rfl rfl)
theorem xK (d:Array Cb) (n:Nat) (hn:d.size=n) (hl:n<=100000) (q:Nat->Option (Nat × Nat)):aq Tryz.prog 130 [.row 201 0 0 n,.i .i64 (n:Nat),.fn 82 [] []] (gl q [201] (rwB d)) (.tup []) (gl q [201] (rwB (jF ltC d))):=by
 refine aq.of_body Tryz.func130 rfl (by kernel_rfl) rfl rfl ?_
 generalize hG:jF ltC d=G
 rw [jF,hn] at hG
 refine jA ?_
 refine AW.loopL (ι:=(Nat × Nat) × Array Cb) (fun x=>[(0,.row 201 0 0 n),(1,.i .i64 (n:Nat)),(2,.fn 82 [] []),(6,.i .i64 20),(7,.i .i64 (x.1.1:Nat)),(8,.i .i64 (x.1.2:Nat))]) (fun x=>gl q [201] (rwB x.2)) (fun x=>(x.1.1<=n/\x.1.2=x.1.1+20/\x.2.size=n)/\∃f,n<x.1.1+f/\r6 ltC n (n+1) 20 (xd ltC n f x.1.1 x.1.2 x.2)=G) (fun x=>n - x.1.1) ((0,20),d) ⟨⟨qR _,rfl,hn⟩,n+1,by show n<0+(n+1);omega,hG⟩ jQ (aE rfl rfl rfl) fun x hx=>?_
 clear hG hn d
 obtain ⟨⟨a,b⟩,d⟩:=x
 obtain ⟨⟨ha,hb,hn⟩,f,hff,hf⟩:=hx
 simp only at ha hb hn hff hf
 subst hb
 obtain ⟨f,rfl⟩:∃k,f=k+1:=⟨f - 1,by omega⟩
 rw [xd] at hf
 have w1:IntKind.i64.wrap (((a+20:Nat):Int)+20)=((a+20+20:Nat):Int):=by rw [IntKind.wrap_i64];omega
 refine jA ?_
 refine AW.cond rfl (fun h0=>?_) (fun h0=>?_)
 ·have h:a+20<=n:=by
   have:=of_decide_eq_true h0
   simp only at this
   omega
  rw [if_pos h] at hf
  have hs:=m9 ltC d a (a+20) (by omega)
  refine jA ?_
  refine RG.ownK [(201,201)] [(201,201)] 201 201 (bB (hs.1)) (fun q=>AK d n a (a+20) hn h (by omega) (by omega) q) rfl rfl rfl rfl rfl rfl rfl rfl rfl rfl rfl rfl rfl ?_
  refine jH ?_
  exact ⟨((a+20,a+20+20),Go.Sort.insertionSort ltC d a (a+20)),⟨⟨⟨h,rfl,hs.1.trans hn⟩,f,by show n<a+20+f;omega,hf⟩,by show n - (a+20)<n - a;omega⟩,⟨Rn.rowIs rfl rfl rfl,Rn.is rfl rfl,Rn.fnF rfl rfl,Rn.is rfl rfl,Rn.is rfl rfl,Rn.is (congrArg (AV.i .i64) w1) rfl,trivial⟩,aE rfl rfl rfl⟩
 have h:¬a+20<=n:=by
  have:=of_decide_eq_false h0
  simp only at this
  omega
 rw [if_neg h] at hf
 have hs:=m9 ltC d a n (by omega)
 refine zE ?_
 refine RG.ownK [(201,201)] [(201,201)] 201 201 (bB (hs.1)) (fun q=>AK d n a n hn (by omega) ha (by omega) q) rfl rfl rfl rfl rfl rfl rfl rfl rfl rfl rfl rfl rfl ?_
 refine jH ?_
 have hn:=hs.1.trans hn
 generalize Go.Sort.insertionSort ltC d a n=d1 at hn hf ⊢
 clear hs h h0 w1 hff
 refine AW.loopL (ι:=Nat × Array Cb) (fun x=>[(0,.row 201 0 0 n),(1,.i .i64 (n:Nat)),(2,.fn 82 [] []),(6,.i .i64 (x.1:Nat))]) (fun x=>gl q [201] (rwB x.2)) (fun x=>(0<x.1/\x.1<=2*n+20/\x.2.size=n)/\∃f,n<x.1+f/\r6 ltC n f x.1 x.2=G) (fun x=>n - x.1) (20,d1) ⟨⟨by show 0<20;decide,by show 20<=2*n+20;omega,hn⟩,n+1,by show n<20+(n+1);omega,hf⟩ jQ (aE rfl rfl rfl) fun x hx=>?_
 clear hf hn d1 f
 obtain ⟨s,d⟩:=x
 obtain ⟨⟨hs0,hs1,hn⟩,f,hff,hf⟩:=hx
 simp only at hs0 hs1 hn hff hf
 refine jA ?_
 refine AW.cond rfl (fun h0=>?_) (fun h0=>?_)
 rotate_left
 ·have h:¬s<n:=by
   have:=of_decide_eq_false h0
   simp only at this
   omega
  have:d=G:=by
   cases f with
   | zero=>exact hf
   | succ f=>rw [r6,if_neg h] at hf;exact hf
  subst this
  refine zE ?_
  exact cG rfl (.inl rfl) (aE rfl rfl rfl)
 have h:s<n:=by
  have:=of_decide_eq_true h0
  simp only at this
  omega
 obtain ⟨f,rfl⟩:∃k,f=k+1:=⟨f - 1,by omega⟩
 rw [r6,if_pos h] at hf
 have w1:IntKind.i64.wrap (Int.ofNat 2*((s:Nat):Int))=((2*s:Nat):Int):=by rw [IntKind.wrap_i64];simp only [qG];omega
 have w2:IntKind.i64.wrap (((s:Nat):Int)*Int.ofNat 2)=((2*s:Nat):Int):=by rw [IntKind.wrap_i64];simp only [qG];omega
 have hs2:=pZ ltC n s hs0 (n+1) 0 (2*s) d (by omega) (by omega)
 have hf2:pJ ltC n s (n+1) 0 (2*s) d=pJ ltC n s (n+1) 0 (2*s) d:=rfl
 generalize hM:pJ ltC n s (n+1) 0 (2*s) d=M at hf hs2
 clear hf2
 refine jA ?_
 refine AW.loopL (ι:=(Nat × Nat) × Array Cb) (fun x=>[(0,.row 201 0 0 n),(1,.i .i64 (n:Nat)),(2,.fn 82 [] []),(6,.i .i64 (s:Nat)),(7,.i .i64 (x.1.1:Nat)),(8,.i .i64 (x.1.2:Nat))]) (fun x=>gl q [201] (rwB x.2)) (fun x=>(x.1.1<=n/\x.1.2=x.1.1+2*s/\x.2.size=n)/\∃g,n<x.1.1+g/\pJ ltC n s g x.1.1 x.1.2 x.2=M) (fun x=>n - x.1.1) ((0,2*s),d) ⟨⟨qR _,by show 2*s=0+2*s;omega,hn⟩,n+1,by show n<0+(n+1);omega,hM⟩ ⟨Rn.rowIs rfl rfl rfl,Rn.is rfl rfl,Rn.fnF rfl rfl,Rn.is rfl rfl,Rn.is rfl rfl,Rn.is (congrArg (AV.i .i64) w1) rfl,trivial⟩ (aE rfl rfl rfl) fun x hx=>?_
 clear hM
 obtain ⟨⟨a,b⟩,v⟩:=x
 obtain ⟨⟨ha,hb,hv⟩,g,hgg,hg⟩:=hx
 simp only at ha hb hv hgg hg
 subst hb
 obtain ⟨g,rfl⟩:∃k,g=k+1:=⟨g - 1,by omega⟩
 rw [pJ] at hg
 have w3:IntKind.i64.wrap (((a:Nat):Int)+((s:Nat):Int))=((a+s:Nat):Int):=by rw [IntKind.wrap_i64];omega
 have w4:IntKind.i64.wrap (((a+2*s:Nat):Int)+IntKind.i64.wrap (Int.ofNat 2*((s:Nat):Int)))=((a+2*s+2*s:Nat):Int):=by rw [w1,IntKind.wrap_i64];omega
 refine jA ?_
 refine AW.cond rfl (fun h2=>?_) (fun h2=>?_)
 ·have k2:a+2*s<=n:=by
   have:=of_decide_eq_true h2
   simp only at this
   omega
  rw [if_pos k2] at hg
  have hp:=dd ltC (a+2*s - a) a (a+s) (a+2*s) v (by omega) (by omega) (by omega)
  refine zB ?_
  refine RG.runO af 0 [(40,.i .i64 ((a+s:Nat):Int))] 400 rfl jD ?_
  refine RG.ownK [(201,201)] [(201,201)] 201 201 (bB (hp.1)) (fun q=>yl n (by omega) (a+2*s - a) a (a+s) (a+2*s) v hv (by omega) (by omega) k2 (qJ _) q) rfl rfl rfl rfl rfl rfl rfl rfl rfl rfl rfl rfl rfl ?_
  refine jH ?_
  exact ⟨((a+2*s,a+2*s+2*s),aZ ltC (a+2*s - a) a (a+s) (a+2*s) v),⟨⟨⟨k2,rfl,hp.1.trans hv⟩,g,by show n<a+2*s+g;omega,hg⟩,by show n - (a+2*s)<n - a;omega⟩,⟨Rn.rowIs rfl rfl rfl,Rn.is rfl rfl,Rn.fnF rfl rfl,Rn.is rfl rfl,Rn.is rfl rfl,Rn.is (congrArg (AV.i .i64) w4) rfl,trivial⟩,aE rfl rfl rfl⟩
 have k2:¬a+2*s<=n:=by
  have:=of_decide_eq_false h2
  simp only at this
  omega
 rw [if_neg k2] at hg
 (repeat first|apply wA|apply wB|apply wC|apply wE|(apply zM;·kernel_rfl)|apply wF|apply wG)
 refine jE ?_;refine jB ?_
 refine AW.text ?_
 refine RG.runO af 0 [(51,.i .i64 ((a+s:Nat):Int))] 400 rfl jD ?_
 refine jA ?_
 refine AW.cond rfl (fun h3=>?_) (fun h3=>?_)
 ·have k3:a+s<n:=by
   have:=of_decide_eq_true h3
   omega
  rw [if_pos k3] at hg
  subst hg
  have hp:=dd ltC (n - a) a (a+s) n v (by omega) (by omega) (by omega)
  refine jA ?_
  refine RG.ownK [(201,201)] [(201,201)] 201 201 (bB (hp.1)) (fun q=>yl n (by omega) (n - a) a (a+s) n v hv (by omega) k3 (qJ _) (qJ _) q) rfl rfl rfl rfl rfl rfl rfl rfl rfl rfl rfl rfl rfl ?_
  refine jH ?_
  exact ⟨(2*s,aZ ltC (n - a) a (a+s) n v),⟨⟨⟨by show 0<2*s;omega,by show 2*s<=2*n+20;omega,hp.1.trans hv⟩,f,by show n<2*s+f;omega,hf⟩,by show n - 2*s<n - s;omega⟩,⟨Rn.rowIs rfl rfl rfl,Rn.is rfl rfl,Rn.fnF rfl rfl,Rn.is (congrArg (AV.i .i64) w2) rfl,trivial⟩,aE rfl rfl rfl⟩
 ·have k3:¬a+s<n:=by
   have:=of_decide_eq_false h3
   omega
  rw [if_neg k3] at hg
  subst hg
  refine jA ?_
  exact ⟨(2*s,v),⟨⟨⟨by show 0<2*s;omega,by show 2*s<=2*n+20;omega,hv⟩,f,by show n<2*s+f;omega,hf⟩,by show n - 2*s<n - s;omega⟩,⟨Rn.rowIs rfl rfl rfl,Rn.is rfl rfl,Rn.fnF rfl rfl,Rn.is (congrArg (AV.i .i64) w2) rfl,trivial⟩,aE rfl rfl rfl⟩
theorem sJ (l:List Cb) (hl:l.length<=100000):yw l (jF ltC l.toArray).toList:=by
 intro m0 n hn q
 have hn2:l.toArray.size=n:=by rw [uG,hn,qH]
 have hpm:=oI ltC l.toArray
 refine aq.of_body Tryz.func81 rfl (by kernel_rfl) rfl rfl ?_
 refine jA ?_
 refine RG.ownK [(201,201)] [(201,201)] 201 201 (bB hpm.1) (fun q=>xK l.toArray n hn2 (by rw [hn,qH];exact hl) q) rfl rfl rfl rfl rfl rfl rfl rfl rfl rfl rfl rfl rfl ?_
 refine jH ?_
 exact cG rfl (.inl rfl) (FM rfl rfl rfl rfl rfl rfl rfl rfl rfl)
theorem sD (l:List Cb):(jF ltC l.toArray).toList.Perm l:=(oI ltC l.toArray).2
end Go.Proofs.YtdidjpohnopihaaGreat.Sm
end
section
namespace Go.Proofs.YtdidjpohnopihaaGreat.Sm
open Go.RowKit
open Go.Sort (swp)
theorem Rn.fnO {σ σ':Sto} {x:AV} {f:FuncId} {id ep ep' off:Nat} {bd bd':aD} (e:x = .fn f [.own id ep off] []) (h:σ id=⟨ep,some bd⟩) (h':σ' id=⟨ep',some bd'⟩):Rn σ σ' x (.fn f [.own id ep' off] []):=by
 subst e
 refine .fn rfl rfl (fun j x x' h1 h2=>?_) (fun j x x' h1=>by simp at h1)
 match j with
 | 0 =>
  obtain rfl:AV.own id ep off=x:=by simpa using h1
  obtain rfl:AV.own id ep' off=x':=by simpa using h2
  exact .own h h'
 | j+1=>simp at h1
def am {L:Nat} (x:Fin (L+1)):List AV:=cI ((x.1:Nat):Int)
def dp (l:List Rl) (k:Nat):Int:=(l.getD k Rl.zero).prio
def Fp (l:List Rl) (L:Nat) (x y:Fin (L+1)):Int:=orI [dt (dp l y.1) (dp l x.1),dt ((x.1:Nat):Int) ((y.1:Nat):Int)]
def ltI (l:List Rl) (L:Nat) (x y:Fin (L+1)):Bool:=decide (Fp l L x y<0)
def ioB {L:Nat} (l:List Rl) (n:Nat) (d:Array (Fin (L+1))):List (Nat × SB):=[(210,⟨0,some (.box 322 [.sl (l.map cRl),.row 201 0 0 n])⟩),(201,⟨0,some (.row 3 1 (d.toList.map am))⟩)]
theorem ak {L:Nat} {l:List Rl} {d:Array (Fin (L+1))} {s:St} {q:Nat->Option (Nat × Nat)} {n e e1 e1' g g1:Nat} {els:List (List AV)} (h0:s.σ 210=⟨e,some (.box 322 [.sl (l.map cRl),.row 201 e1 0 n])⟩) (h1:s.σ 201=⟨e1',some (.row 3 1 els)⟩)
  (hg:s.σ 1110=⟨g,some (.ghost 210 e (q 210))⟩) (hg1:s.σ 1101=⟨g1,some (.ghost 201 e1' (q 201))⟩) (he:e1=e1') (hel:els=d.toList.map am) (hn:0+n<=(d.toList.map am).length):WkB s (lkB (gl q [210,201] (ioB l n d))) (gl q [210,201] (ioB l n d)):=by
 subst he hel
 exact ⟨.ghost hg h0 rfl,.ghost hg1 h1 rfl,.boxL h0 ⟨Rn.is rfl rfl,Rn.rowIs rfl h1 rfl,trivial⟩ rfl,.row h1 rfl,trivial⟩
theorem yC {l:List Rl} {k:Nat} (h:k<l.length):l[k]?=some (l.getD k Rl.zero):=by
 rw [qM,qA h];rfl
theorem bA (l:List Rl) (L:Nat) (hL:l.length=L+1) (n:Nat) (d:Array (Fin (L+1))) (x y:Fin (L+1)) (q:Nat->Option (Nat × Nat)) (hfit:0+n<=(d.toList.map am).length):aq Tryz.prog 253 [.own 210 0 0,.i .i64 ((x.1:Nat):Int),.i .i64 ((y.1:Nat):Int)] (gl q [210,201] (ioB l n d)) (.i .i64 (Fp l L x y)) (gl q [210,201] (ioB l n d)):=by
 refine aq.of_body Tryz.func253 rfl (by kernel_rfl) rfl rfl ?_
 have hx:l[x.1]?=some (l.getD x.1 Rl.zero):=yC (by have:=x.2;omega)
 have hy:l[y.1]?=some (l.getD y.1 Rl.zero):=yC (by have:=y.2;omega)
 refine jA ?_
 refine RG.opS rfl (ai rfl (tk rfl) rfl (tk rfl) rfl rfl (show (l.map cRl)[y.1]?=some (cRl (l.getD y.1 Rl.zero)) by rw [qE,hy];rfl) rfl) rfl ?_
 refine wH rfl ?_
 refine RG.opS rfl (ai rfl (tk rfl) rfl (tk rfl) rfl rfl (show (l.map cRl)[x.1]?=some (cRl (l.getD x.1 Rl.zero)) by rw [qE,hx];rfl) rfl) rfl ?_
 refine wH rfl ?_
 refine jc (iN (l.getD y.1 Rl.zero).prio (l.getD x.1 Rl.zero).prio) ?_
 refine wH rfl ?_
 refine jc (iN ((x.1:Nat):Int) ((y.1:Nat):Int)) ?_
 refine wH rfl ?_
 refine jc (DR [dt (l.getD y.1 Rl.zero).prio (l.getD x.1 Rl.zero).prio,dt ((x.1:Nat):Int) ((y.1:Nat):Int)]) ?_;refine jH ?_
 exact AW.ret (dQ rfl (Rm.is rfl rfl) (ak rfl rfl rfl rfl rfl rfl hfit))
theorem FO (l:List Rl) (L:Nat) (hL:l.length=L+1) (n:Nat) (hl:n<=100000) (d:Array (Fin (L+1))) (hn:d.size=n) (a b:Nat) (ha:a<=n) (hb:b<=n) (q:Nat->Option (Nat × Nat)):aq Tryz.prog 259 [.row 201 0 0 n,.i .i64 ((a:Nat):Int),.i .i64 ((b:Nat):Int),.fn 253 [.own 210 0 0] []] (gl q [210,201] (ioB l n (d))) (.tup []) (gl q [210,201] (ioB l n (Go.Sort.insertionSort (ltI l L) d a b))):=by
 refine aq.of_body Tryz.func259 rfl (by kernel_rfl) rfl rfl ?_
 generalize hG:Go.Sort.insertionSort (ltI l L) d a b=G
 have w1:IntKind.i64.wrap (((a:Nat):Int)+Int.ofNat 1)=((a+1:Nat):Int):=by simp only [IntKind.wrap_i64,qG];omega
 refine jA ?_
 refine AW.loopL (ι:=Nat × Array (Fin (L+1))) (fun x=>[(0,.row 201 0 0 n),(1,.i .i64 ((a:Nat):Int)),(2,.i .i64 ((b:Nat):Int)),(3,.fn 253 [.own 210 0 0] []),(8,.i .i64 ((x.1:Nat):Int))]) (fun x=>gl q [210,201] (ioB l n (x.2))) (fun x=>(a<x.1/\x.1<=n+1/\x.2.size=n)/\Go.Sort.insOuter (ltI l L) a b x.1 x.2=G) (fun x=>n+2 - x.1) (a+1,d) ⟨⟨by show a<a+1;omega,by show a+1<=n+1;omega,hn⟩,hG⟩ ⟨Rn.rowIs rfl rfl rfl,Rn.is rfl rfl,Rn.is rfl rfl,Rn.fnO rfl rfl rfl,Rn.is (congrArg (AV.i .i64) w1) rfl,trivial⟩ (ak rfl rfl rfl rfl rfl (rfl) (ah (by assumption))) fun x hx=>?_
 clear hG hn d
 obtain ⟨i,m⟩:=x
 obtain ⟨⟨hi1,hi2,hm⟩,hf⟩:=hx
 simp only at hi1 hi2 hm hf
 rw [Go.Sort.insOuter] at hf
 refine jA ?_
 refine AW.cond rfl (fun h0=>?_) (fun h0=>?_)
 rotate_left
 ·have h : ¬ i < b := by
   have:=of_decide_eq_false h0
   try simp only at this
   omega
  rw [if_neg h] at hf
  subst hf
  refine zE ?_
  exact cG rfl (.inl rfl) (ak rfl rfl rfl rfl rfl (rfl) (ah (by assumption)))
 have h:i<b:=by
  have:=of_decide_eq_true h0
  try simp only at this
  omega
 rw [if_pos h] at hf
 have w2:IntKind.i64.wrap (((i:Nat):Int)+Int.ofNat 1)=((i+1:Nat):Int):=by simp only [IntKind.wrap_i64,qG];omega
 refine jA ?_
 refine AW.loopL (ι:=Nat × Array (Fin (L+1))) (fun x=>[(0,.row 201 0 0 n),(1,.i .i64 ((a:Nat):Int)),(2,.i .i64 ((b:Nat):Int)),(3,.fn 253 [.own 210 0 0] []),(8,.i .i64 ((i:Nat):Int)),(9,.i .i64 ((x.1:Nat):Int))]) (fun x=>gl q [210,201] (ioB l n (x.2))) (fun x=>(x.1<=i/\x.2.size=n)/\Go.Sort.insOuter (ltI l L) a b (i+1) (Go.Sort.insInner (ltI l L) a x.1 x.2)=G) (fun x=>x.1) (i,m) ⟨⟨qJ _,hm⟩,hf⟩ jQ (ak rfl rfl rfl rfl rfl (rfl) (ah (by assumption))) fun x hx=>?_
 clear hf hm
 obtain ⟨j,m⟩:=x
 obtain ⟨⟨hj,hm⟩,hf⟩:=hx
 simp only at hj hm hf
 refine jB ?_
 by_cases g1:((a:Nat):Int)<((j:Nat):Int)
 rotate_left
 ·rw [i9 (by omega)] at hf
  refine AW.draws aN ?_
  refine RG.runO af 0 [(20,.b false)] 400 rfl jD ?_
  refine jB ?_
  refine zF ?_
  refine jE ?_;refine jA ?_
  exact ⟨(i+1,m),⟨⟨⟨by show a<i+1;omega,by show i+1<=n+1;omega,hm⟩,hf⟩,by show n+2 - (i+1)<n+2 - i;omega⟩,⟨Rn.rowIs rfl rfl rfl,Rn.is rfl rfl,Rn.is rfl rfl,Rn.fnO rfl rfl rfl,Rn.is (congrArg (AV.i .i64) w2) rfl,trivial⟩,ak rfl rfl rfl rfl rfl (rfl) (ah (by assumption))⟩
 obtain ⟨j,rfl⟩:∃k,j=k+1:=⟨j - 1,by omega⟩
 rw [lJ (by omega)] at hf
 have w3:IntKind.i64.wrap (((j+1:Nat):Int) - Int.ofNat 1)=((j:Nat):Int):=by simp only [IntKind.wrap_i64,qG];omega
 refine AW.draws aN ?_
 refine RG.runO af 0 [(20,.b true)] 400 rfl jD ?_
 refine jI (ia (j+1) am (m.toList)) ?_
 refine jL (lA (j+1) am (m)) ?_
 refine wH rfl ?_;refine jI (ia (j) am ((m).toList)) ?_;refine jL (lA (j) am (m)) ?_
 refine wH rfl ?_
 refine RG.ownK [(210,210),(201,201)] [(210,210),(201,201)] 201 201 rfl (fun q=>bA l L hL n (m) (m[j+1]!) (m[j]!) q (ah (by assumption))) rfl rfl rfl rfl rfl rfl rfl rfl rfl rfl rfl rfl rfl ?_
 refine wH rfl ?_;refine jB ?_
 refine AW.cond rfl (fun h1=>?_) (fun h1=>?_)
 ·rw [show ltI l L m[j+1]! m[j]! = true from h1,cond_true] at hf
  have hm2:=(ba m (j+1) j).trans hm
  refine zD ?_
  refine wH rfl ?_;refine jI (ia (j) am ((m).toList)) ?_;refine jL (lA (j) am (m)) ?_;refine wH rfl ?_;refine jI (ia (j+1) am ((m).toList)) ?_;refine jL (lA (j+1) am (m)) ?_;refine wH rfl ?_;refine jI (ia (j+1) am ((m).toList)) ?_;refine RG.opS rfl (aR (j+1) am ((m).toList) ((m)[j]!) (by simp only [vF,qL];omega) rfl (tk rfl) rfl rfl rfl rfl rfl (fun _=>rfl)) rfl ?_;refine wH rfl ?_;refine jI (ia (j) am (((m).toList.set (j+1) (m)[j]!))) ?_;refine RG.opS rfl (aR (j) am (((m).toList.set (j+1) (m)[j]!)) ((m)[j+1]!) (by simp only [vF,qL];omega) rfl (tk rfl) rfl rfl rfl rfl rfl (fun _=>rfl)) rfl ?_
  refine wH rfl ?_;refine jB ?_
  refine AW.text ?_
  refine wH rfl ?_;refine jB ?_
  exact ⟨(j,swp m (j+1) j),⟨⟨⟨by show j<=i;omega,hm2⟩,hf⟩,by show j<j+1;omega⟩,⟨Rn.rowTIs rfl rfl rfl (ah (hm2)),Rn.is rfl rfl,Rn.is rfl rfl,Rn.fnO rfl rfl rfl,Rn.is rfl rfl,Rn.is (congrArg (AV.i .i64) w3) rfl,trivial⟩,ak rfl rfl rfl rfl rfl (by rw [bf]) (ah (by assumption))⟩
 ·rw [show ltI l L m[j+1]! m[j]! = false from h1,cond_false] at hf
  refine zE ?_
  exact ⟨(i+1,m),⟨⟨⟨by show a<i+1;omega,by show i+1<=n+1;omega,hm⟩,hf⟩,by show n+2 - (i+1)<n+2 - i;omega⟩,⟨Rn.rowIs rfl rfl rfl,Rn.is rfl rfl,Rn.is rfl rfl,Rn.fnO rfl rfl rfl,Rn.is (congrArg (AV.i .i64) w2) rfl,trivial⟩,ak rfl rfl rfl rfl rfl (rfl) (ah (by assumption))⟩
theorem EX (l:List Rl) (L:Nat) (hL:l.length=L+1) (n:Nat) (hl:n<=100000) (d:Array (Fin (L+1))) (hn:d.size=n) (a b:Nat) (ha:a<b) (hb:b<=n) (q:Nat->Option (Nat × Nat)):aq Tryz.prog 263 [.row 201 0 0 n,.i .i64 ((a:Nat):Int),.i .i64 ((b:Nat):Int),.fn 253 [.own 210 0 0] []] (gl q [210,201] (ioB l n (d))) (.tup []) (gl q [210,201] (ioB l n (Go.Sort.reverseRange d a b))):=by
 refine aq.of_body Tryz.func263 rfl (by kernel_rfl) rfl rfl ?_
 generalize hG:Go.Sort.reverseRange d a b=G
 have w1:IntKind.i64.wrap (((b:Nat):Int) - Int.ofNat 1)=((b - 1:Nat):Int):=by simp only [IntKind.wrap_i64,qG];omega
 refine jA ?_
 refine AW.loopL (ι:=(Nat × Nat) × Array (Fin (L+1))) (fun x=>[(0,.row 201 0 0 n),(8,.i .i64 ((x.1.1:Nat):Int)),(9,.i .i64 ((x.1.2:Nat):Int))]) (fun x=>gl q [210,201] (ioB l n (x.2))) (fun x=>(x.1.1<=n/\x.1.2<n/\x.1.1<=x.1.2+1/\x.2.size=n)/\Go.Sort.reverseLoop x.1.1 x.1.2 x.2=G) (fun x=>x.1.2+1 - x.1.1) ((a,b - 1),d) ⟨⟨by show a<=n;omega,by show b - 1<n;omega,by show a<=b - 1+1;omega,hn⟩,hG⟩ ⟨Rn.rowIs rfl rfl rfl,Rn.is rfl rfl,Rn.is (congrArg (AV.i .i64) w1) rfl,trivial⟩ (ak rfl rfl rfl rfl rfl (rfl) (ah (by assumption))) fun x hx=>?_
 clear hG hn d
 obtain ⟨⟨i,j⟩,m⟩:=x
 obtain ⟨⟨hi,hj,hij,hm⟩,hf⟩:=hx
 simp only at hi hj hij hm hf
 rw [Go.Sort.reverseLoop] at hf
 refine jA ?_
 refine AW.cond rfl (fun h0=>?_) (fun h0=>?_)
 rotate_left
 ·have h:¬i<j:=by
   have:=of_decide_eq_false h0
   try simp only at this
   omega
  rw [if_neg h] at hf
  subst hf
  refine zE ?_
  exact cG rfl (.inl rfl) (ak rfl rfl rfl rfl rfl (rfl) (ah (by assumption)))
 have h:i<j:=by
  have:=of_decide_eq_true h0
  try simp only at this
  omega
 rw [if_pos h] at hf
 have w2:IntKind.i64.wrap (((i:Nat):Int)+Int.ofNat 1)=((i+1:Nat):Int):=by simp only [IntKind.wrap_i64,qG];omega
 have w3:IntKind.i64.wrap (((j:Nat):Int) - Int.ofNat 1)=((j - 1:Nat):Int):=by simp only [IntKind.wrap_i64,qG];omega
 have hm2:=(ba m i j).trans hm
 refine zD ?_
 refine wH rfl ?_;refine jI (ia (j) am ((m).toList)) ?_;refine jL (lA (j) am (m)) ?_;refine wH rfl ?_;refine jI (ia (i) am ((m).toList)) ?_;refine jL (lA (i) am (m)) ?_;refine wH rfl ?_;refine jI (ia (i) am ((m).toList)) ?_;refine RG.opS rfl (aR (i) am ((m).toList) ((m)[j]!) (by simp only [vF,qL];omega) rfl (tk rfl) rfl rfl rfl rfl rfl (fun _=>rfl)) rfl ?_;refine wH rfl ?_;refine jI (ia (j) am (((m).toList.set (i) (m)[j]!))) ?_;refine RG.opS rfl (aR (j) am (((m).toList.set (i) (m)[j]!)) ((m)[i]!) (by simp only [vF,qL];omega) rfl (tk rfl) rfl rfl rfl rfl rfl (fun _=>rfl)) rfl ?_
 refine jH ?_
 exact ⟨((i+1,j - 1),swp m i j),⟨⟨⟨by show i+1<=n;omega,by show j - 1<n;omega,by show i+1<=j - 1+1;omega,hm2⟩,hf⟩,by show j - 1+1 - (i+1)<j+1 - i;omega⟩,⟨Rn.rowTIs rfl rfl rfl (ah (hm2)),Rn.is (congrArg (AV.i .i64) w2) rfl,Rn.is (congrArg (AV.i .i64) w3) rfl,trivial⟩,ak rfl rfl rfl rfl rfl (by rw [bf]) (ah (by assumption))⟩
def ioS {L:Nat} (l:List Rl) (n:Nat) (d:Array (Fin (L+1))) (c:Nat):List (Nat × SB):=(230,⟨0,some (.box 3 (cI ((c:Nat):Int)))⟩)::ioB l n d
theorem mj {L:Nat} {l:List Rl} {d:Array (Fin (L+1))} {s:St} {q:Nat->Option (Nat × Nat)} {n c e e1 e1' e3 g g1 g3:Nat} {els:List (List AV)} {cs:List AV} (h3:s.σ 230=⟨e3,some (.box 3 cs)⟩) (h0:s.σ 210=⟨e,some (.box 322 [.sl (l.map cRl),.row 201 e1 0 n])⟩) (h1:s.σ 201=⟨e1',some (.row 3 1 els)⟩)
  (hg3:s.σ 1130=⟨g3,some (.ghost 230 e3 (q 230))⟩) (hg:s.σ 1110=⟨g,some (.ghost 210 e (q 210))⟩) (hg1:s.σ 1101=⟨g1,some (.ghost 201 e1' (q 201))⟩) (he:e1=e1') (hc:cs=cI ((c:Nat):Int)) (hel:els=d.toList.map am) (hn:0+n<=(d.toList.map am).length):WkB s (lkB (gl q [230,210,201] (ioS l n d c))) (gl q [230,210,201] (ioS l n d c)):=by
 subst he hel hc
 exact ⟨.ghost hg3 h3 rfl,.ghost hg h0 rfl,.ghost hg1 h1 rfl,.boxL h3 jQ rfl,.boxL h0 ⟨Rn.is rfl rfl,Rn.rowIs rfl h1 rfl,trivial⟩ rfl,.row h1 rfl,trivial⟩
theorem mV (l:List Rl) (L:Nat) (hL:l.length=L+1) (n:Nat) (hl:n<=100000) (d:Array (Fin (L+1))) (hn:d.size=n) (a b:Nat) (ha:a<n) (hb:b<n) (c:Nat) (hc:c<=100) (q:Nat->Option (Nat × Nat)):aq Tryz.prog 270 [.row 201 0 0 n,.i .i64 ((a:Nat):Int),.i .i64 ((b:Nat):Int),.own 230 0 0,.fn 253 [.own 210 0 0] []] (gl q [230,210,201] (ioS l n d (c))) (.tup [.i .i64 (((Go.Sort.order2 (ltI l L) d a b c).1:Nat):Int),.i .i64 (((Go.Sort.order2 (ltI l L) d a b c).2.1:Nat):Int)]) (gl q [230,210,201] (ioS l n d ((Go.Sort.order2 (ltI l L) d a b c).2.2))):=by
 refine aq.of_body Tryz.func270 rfl (by kernel_rfl) rfl rfl ?_
 rw [Go.Sort.order2]
 refine zB ?_
 refine wH rfl ?_;refine jB ?_
 refine AW.draws aN ?_
 refine wH rfl ?_;refine jI (ia (b) am ((d).toList)) ?_;refine jL (lA (b) am (d)) ?_
 refine wH rfl ?_;refine jI (ia (a) am ((d).toList)) ?_;refine jL (lA (a) am (d)) ?_
 refine wH rfl ?_
 refine RG.ownK [(210,210),(201,201)] [(210,210),(201,201)] 201 201 rfl (fun q=>bA l L hL n (d) (d[b]!) (d[a]!) q (ah (by assumption))) rfl rfl rfl rfl rfl rfl rfl rfl rfl rfl rfl rfl rfl ?_
 refine wH rfl ?_;refine jB ?_
 refine AW.cond rfl (fun h1=>?_) (fun h1=>?_)
 ·rw [show ltI l L d[b]! d[a]! = true from h1]
  have w1:IntKind.i64.wrap (((c:Nat):Int)+Int.ofNat 1)=((c+1:Nat):Int):=by simp only [IntKind.wrap_i64,qG];omega
  refine jA ?_
  exact AW.ret (mE rfl (Rm.is rfl rfl) (Rm.is rfl rfl) (mj rfl rfl rfl rfl rfl rfl rfl (congrArg cI w1) rfl (ah hn)))
 ·rw [show ltI l L d[b]! d[a]! = false from h1]
  refine jA ?_
  exact AW.ret (mE rfl (Rm.is rfl rfl) (Rm.is rfl rfl) (mj rfl rfl rfl rfl rfl rfl rfl (rfl) rfl (ah hn)))
theorem ld {L:Nat} {lt:Fin (L+1)->Fin (L+1)->Bool} {d:Array (Fin (L+1))} {n a b c:Nat} (ha:a<n) (hb:b<n):(Go.Sort.order2 lt d a b c).1<n/\(Go.Sort.order2 lt d a b c).2.1<n/\(Go.Sort.order2 lt d a b c).2.2<=c+1:=by
 rw [Go.Sort.order2]
 split
 ·exact ⟨hb,ha,qJ _⟩
 ·exact ⟨ha,hb,Nat.le_succ _⟩
theorem nm (l:List Rl) (L:Nat) (hL:l.length=L+1) (n:Nat) (hl:n<=100000) (d:Array (Fin (L+1))) (hn:d.size=n) (a b e:Nat) (ha:a<n) (hb:b<n) (he:e<n) (c:Nat) (hc:c<=90) (q:Nat->Option (Nat × Nat)):aq Tryz.prog 269 [.row 201 0 0 n,.i .i64 ((a:Nat):Int),.i .i64 ((b:Nat):Int),.i .i64 ((e:Nat):Int),.own 230 0 0,.fn 253 [.own 210 0 0] []] (gl q [230,210,201] (ioS l n d (c))) (.i .i64 (((Go.Sort.median (ltI l L) d a b e c).1:Nat):Int)) (gl q [230,210,201] (ioS l n d ((Go.Sort.median (ltI l L) d a b e c).2))):=by
 refine aq.of_body Tryz.func269 rfl (by kernel_rfl) rfl rfl ?_
 have k1:=ld (lt:=ltI l L) (d:=d) (c:=c) ha hb
 have m1:=mV l L hL n hl d hn a b ha hb c (by omega)
 obtain ⟨r1,e1⟩:∃r,r=Go.Sort.order2 (ltI l L) d a b c:=⟨_,rfl⟩
 rw [<- e1] at k1 m1
 have k2:=ld (lt:=ltI l L) (d:=d) (c:=r1.2.2) k1.2.1 he
 have m2:=mV l L hL n hl d hn r1.2.1 e k1.2.1 he r1.2.2 (by have:=k1.2.2;omega)
 obtain ⟨r2,e2⟩:∃r,r=Go.Sort.order2 (ltI l L) d r1.2.1 e r1.2.2:=⟨_,rfl⟩
 rw [<- e2] at k2 m2
 have k3:=ld (lt:=ltI l L) (d:=d) (c:=r2.2.2) k1.1 k2.1
 have m3:=mV l L hL n hl d hn r1.1 r2.1 k1.1 k2.1 r2.2.2 (by have:=k1.2.2;have:=k2.2.2;omega)
 obtain ⟨r3,e3⟩:∃r,r=Go.Sort.order2 (ltI l L) d r1.1 r2.1 r2.2.2:=⟨_,rfl⟩
 rw [<- e3] at k3 m3
 have hM:Go.Sort.median (ltI l L) d a b e c=(r3.2.1,r3.2.2):=by rw [e3,e2,e1];rfl
 rw [hM]
 clear hM e3 e2 e1
 refine jA ?_
 refine RG.ownK [(230,230),(210,210),(201,201)] [(230,230),(210,210),(201,201)] 201 201 rfl (fun q=>m1 q) rfl rfl rfl rfl rfl rfl rfl rfl rfl rfl rfl rfl rfl ?_
 refine jH ?_
 refine RG.ownK [(230,230),(210,210),(201,201)] [(230,230),(210,210),(201,201)] 201 201 rfl (fun q=>m2 q) rfl rfl rfl rfl rfl rfl rfl rfl rfl rfl rfl rfl rfl ?_
 refine jH ?_
 refine RG.ownK [(230,230),(210,210),(201,201)] [(230,230),(210,210),(201,201)] 201 201 rfl (fun q=>m3 q) rfl rfl rfl rfl rfl rfl rfl rfl rfl rfl rfl rfl rfl ?_
 refine jH ?_
 exact AW.ret (dQ rfl (Rm.is rfl rfl) (mj rfl rfl rfl rfl rfl rfl rfl (rfl) rfl (ah hn)))
theorem m6 (l:List Rl) (L:Nat) (hL:l.length=L+1) (n:Nat) (hl:n<=100000) (d:Array (Fin (L+1))) (hn:d.size=n) (a:Nat) (h0:0<a) (ha:a+1<n) (c:Nat) (hc:c<=90) (q:Nat->Option (Nat × Nat)):aq Tryz.prog 268 [.row 201 0 0 n,.i .i64 ((a:Nat):Int),.own 230 0 0,.fn 253 [.own 210 0 0] []] (gl q [230,210,201] (ioS l n d (c))) (.i .i64 (((Go.Sort.medianAdjacent (ltI l L) d a c).1:Nat):Int)) (gl q [230,210,201] (ioS l n d ((Go.Sort.medianAdjacent (ltI l L) d a c).2))):=by
 refine aq.of_body Tryz.func268 rfl (by kernel_rfl) rfl rfl ?_
 rw [Go.Sort.medianAdjacent]
 have w1:IntKind.i64.wrap (((a:Nat):Int) - Int.ofNat 1)=((a - 1:Nat):Int):=by simp only [IntKind.wrap_i64,qG];omega
 have w2:IntKind.i64.wrap (((a:Nat):Int)+Int.ofNat 1)=((a+1:Nat):Int):=by simp only [IntKind.wrap_i64,qG];omega
 have m1:=nm l L hL n hl d hn (a - 1) a (a+1) (by omega) (by omega) ha c hc
 refine zB ?_
 refine wH rfl ?_;refine jB ?_
 refine AW.text ?_
 refine RG.runO af 0 [(11,.i .i64 ((a - 1:Nat):Int)),(14,.i .i64 ((a+1:Nat):Int))] 400 rfl jD ?_
 refine RG.ownK [(230,230),(210,210),(201,201)] [(230,230),(210,210),(201,201)] 201 201 rfl (fun q=>m1 q) rfl rfl rfl rfl rfl rfl rfl rfl rfl rfl rfl rfl rfl ?_
 refine jH ?_
 exact AW.ret (dQ rfl (Rm.is rfl rfl) (mj rfl rfl rfl rfl rfl rfl rfl (rfl) rfl (ah hn)))
end Go.Proofs.YtdidjpohnopihaaGreat.Sm
end
section
namespace Go.Proofs.YtdidjpohnopihaaGreat.Sm
open Go.RowKit
open Go.Sort (swp)
theorem pI (m k:Nat) (h:m<=100000) (hk:k<=3) (a:Nat) (ha:a<=100000):IntKind.i64.wrap (((a:Nat):Int)+IntKind.i64.wrap (IntKind.i64.wrap (Int.tdiv ((m:Nat):Int) (Int.ofNat 4))*Int.ofNat k))=((a+m / 4*k:Nat):Int):=by
 have e1:IntKind.i64.wrap (Int.tdiv ((m:Nat):Int) (Int.ofNat 4))=((m / 4:Nat):Int):=by
  rw [Int.tdiv_eq_ediv_of_nonneg (by omega),IntKind.wrap_i64];simp only [qG];omega
 have hm:m / 4*k<=100000*3:=Nat.mul_le_mul (by omega) hk
 have e2:IntKind.i64.wrap (((m / 4:Nat):Int)*Int.ofNat k)=((m / 4*k:Nat):Int):=by
  rw [qG,<- Int.natCast_mul]
  generalize m / 4*k=x at hm
  rw [IntKind.wrap_i64];omega
 rw [e1,e2]
 generalize m / 4*k=x at hm
 rw [IntKind.wrap_i64];omega
theorem kW {L:Nat} {lt:Fin (L+1)->Fin (L+1)->Bool} {d:Array (Fin (L+1))} {n a c:Nat} (ha:a+1<n):(Go.Sort.medianAdjacent lt d a c).1<n:=by
 rcases Go.Sort.medianAdjacent_mem lt d a c with h | h | h <;> rw [h] <;> omega
def pvB {L:Nat} (q:Nat->Option (Nat × Nat)) (l:List Rl) (n:Nat) (d:Array (Fin (L+1))) (c:Nat):List (Nat × SB):=(11,⟨0,some (.box 3 (cI ((c:Nat):Int)))⟩)::gl q [210,201] (ioB l n d)
theorem tD {L:Nat} {l:List Rl} {d:Array (Fin (L+1))} {s:St} {q:Nat->Option (Nat × Nat)} {n c e e1 e1' e3 g g1:Nat} {els:List (List AV)} {cs:List AV} (h3:s.σ 11=⟨e3,some (.box 3 cs)⟩) (h0:s.σ 210=⟨e,some (.box 322 [.sl (l.map cRl),.row 201 e1 0 n])⟩) (h1:s.σ 201=⟨e1',some (.row 3 1 els)⟩)
  (hg:s.σ 1110=⟨g,some (.ghost 210 e (q 210))⟩) (hg1:s.σ 1101=⟨g1,some (.ghost 201 e1' (q 201))⟩) (he:e1=e1') (hc:cs=cI ((c:Nat):Int)) (hel:els=d.toList.map am) (hn:0+n<=(d.toList.map am).length):WkB s (lkB (pvB q l n d c)) (pvB q l n d c):=by
 subst he hel hc
 exact ⟨.boxL h3 jQ rfl,.ghost hg h0 rfl,.ghost hg1 h1 rfl,.boxL h0 ⟨Rn.is rfl rfl,Rn.rowIs rfl h1 rfl,trivial⟩ rfl,.row h1 rfl,trivial⟩
theorem Df (l:List Rl) (L:Nat) (hL:l.length=L+1) (n:Nat) (hl:n<=100000) (d:Array (Fin (L+1))) (hn:d.size=n) (a b:Nat) (ha:a<b) (hb:b<=n) (q:Nat->Option (Nat × Nat)):aq Tryz.prog 262 [.row 201 0 0 n,.i .i64 ((a:Nat):Int),.i .i64 ((b:Nat):Int),.fn 253 [.own 210 0 0] []] (gl q [210,201] (ioB l n (d))) (.tup [.i .i64 (((Go.Sort.rawPivot (ltI l L) d a b).1:Nat):Int),.i .i64 (Go.Sort.hintCode (Go.Sort.hintOf (Go.Sort.rawPivot (ltI l L) d a b).2))]) (gl q [210,201] (ioB l n (d))):=by
 refine aq.of_body Tryz.func262 rfl (by kernel_rfl) rfl rfl ?_
 generalize hR:Go.Sort.rawPivot (ltI l L) d a b=R
 rw [Go.Sort.rawPivot] at hR
 have wl:IntKind.i64.wrap (((b:Nat):Int) - ((a:Nat):Int))=((b - a:Nat):Int):=by rw [IntKind.wrap_i64];omega
 generalize hm:b - a=m at wl hR
 have w1:=pI m 1 (by omega) (by decide) a (by omega)
 have w2:=pI m 2 (by omega) (by decide) a (by omega)
 have w3:=pI m 3 (by omega) (by decide) a (by omega)
 refine jB ?_;refine wF ?_;refine wH rfl ?_;refine jB ?_
 refine AW.text ?_
 refine RG.runO af 0 [(17,.i .i64 ((m:Nat):Int))] 400 rfl jD ?_
 refine jB ?_;refine wF ?_;refine wH rfl ?_;refine jB ?_
 refine AW.text ?_
 refine RG.runO af 0 [(22,.i .i64 ((a+m / 4*1:Nat):Int))] 400 rfl jD ?_
 refine zB ?_
 refine RG.runO af 0 [(27,.i .i64 ((a+m / 4*2:Nat):Int))] 400 rfl jD ?_
 refine zB ?_
 refine RG.runO af 0 [(32,.i .i64 ((a+m / 4*3:Nat):Int))] 400 rfl jD ?_
 refine jA ?_
 refine AW.cutT (ι:=Unit) (fun _=>[(11,.own 11 0 0),(13,.i .i64 ((R.1:Nat):Int))]) (fun _=>pvB q l n d R.2) (fun _=>True) ?_ fun _ _=>?_
 ·refine AW.cond rfl (fun h0=>?_) (fun h0=>?_)
  rotate_left
  ·have h:¬m>=8:=by
    have:=of_decide_eq_false h0
    simp only [qG] at this
    omega
   rw [if_neg h] at hR
   subst hR
   refine jA ?_
   exact ⟨(),trivial,jQ,tD rfl rfl rfl rfl rfl rfl rfl rfl (ah hn)⟩
  have h:m>=8:=by
   have:=of_decide_eq_true h0
   simp only [qG] at this
   omega
  rw [if_pos h] at hR
  refine jA ?_
  refine AW.cond rfl (fun h1=>?_) (fun h1=>?_)
  ·have k:m>=50:=by
    have:=of_decide_eq_true h1
    simp only [qG] at this
    omega
   rw [if_pos k] at hR
   have b1:a+m / 4*1+1<n:=by omega
   have b2:a+m / 4*2+1<n:=by omega
   have b3:a+m / 4*3+1<n:=by omega
   have b0:0<m / 4:=by omega
   have m1:=m6 l L hL n hl d hn (a+m / 4*1) (by omega) b1 0 (by decide)
   have k1:=kW (lt:=ltI l L) (d:=d) (c:=0) b1
   have c1:=Go.Sort.medianAdjacent_count (ltI l L) d (a+m / 4*1) 0
   generalize Go.Sort.medianAdjacent (ltI l L) d (a+m / 4*1) 0=r1 at hR m1 k1 c1
   have m2:=m6 l L hL n hl d hn (a+m / 4*2) (by omega) b2 r1.2 (by omega)
   have k2:=kW (lt:=ltI l L) (d:=d) (c:=r1.2) b2
   have c2:=Go.Sort.medianAdjacent_count (ltI l L) d (a+m / 4*2) r1.2
   generalize Go.Sort.medianAdjacent (ltI l L) d (a+m / 4*2) r1.2=r2 at hR m2 k2 c2
   have m3:=m6 l L hL n hl d hn (a+m / 4*3) (by omega) b3 r2.2 (by omega)
   have k3:=kW (lt:=ltI l L) (d:=d) (c:=r2.2) b3
   have c3:=Go.Sort.medianAdjacent_count (ltI l L) d (a+m / 4*3) r2.2
   generalize Go.Sort.medianAdjacent (ltI l L) d (a+m / 4*3) r2.2=r3 at hR m3 k3 c3
   have m4:=nm l L hL n hl d hn r1.1 r2.1 r3.1 k1 k2 k3 r3.2 (by omega)
   rw [hR] at m4
   refine jA ?_
   refine RG.ownK [(11,230),(210,210),(201,201)] [(230,11),(210,210),(201,201)] 201 201 rfl (fun q=>m1 q) rfl rfl rfl rfl rfl rfl rfl rfl rfl rfl rfl rfl rfl ?_
   refine jH ?_
   refine RG.ownK [(11,230),(210,210),(201,201)] [(230,11),(210,210),(201,201)] 201 201 rfl (fun q=>m2 q) rfl rfl rfl rfl rfl rfl rfl rfl rfl rfl rfl rfl rfl ?_
   refine jH ?_
   refine RG.ownK [(11,230),(210,210),(201,201)] [(230,11),(210,210),(201,201)] 201 201 rfl (fun q=>m3 q) rfl rfl rfl rfl rfl rfl rfl rfl rfl rfl rfl rfl rfl ?_
   refine jH ?_
   refine RG.ownK [(11,230),(210,210),(201,201)] [(230,11),(210,210),(201,201)] 201 201 rfl (fun q=>m4 q) rfl rfl rfl rfl rfl rfl rfl rfl rfl rfl rfl rfl rfl ?_
   refine jH ?_
   exact ⟨(),trivial,jQ,tD rfl rfl rfl rfl rfl rfl rfl rfl (ah hn)⟩
  ·have k:¬m>=50:=by
    have:=of_decide_eq_false h1
    simp only [qG] at this
    omega
   rw [if_neg k] at hR
   have m4:=nm l L hL n hl d hn (a+m / 4*1) (a+m / 4*2) (a+m / 4*3) (by omega) (by omega) (by omega) 0 (by decide)
   rw [hR] at m4
   refine jA ?_
   refine RG.ownK [(11,230),(210,210),(201,201)] [(230,11),(210,210),(201,201)] 201 201 rfl (fun q=>m4 q) rfl rfl rfl rfl rfl rfl rfl rfl rfl rfl rfl rfl rfl ?_
   refine jH ?_
   exact ⟨(),trivial,jQ,tD rfl rfl rfl rfl rfl rfl rfl rfl (ah hn)⟩
 clear hR w1 w2 w3
 rw [Go.Sort.hintOf]
 refine jA ?_
 refine AW.cond rfl (fun h0=>?_) (fun h0=>?_)
 ·have h:R.2=0:=by
   have:=of_decide_eq_true h0
   simp only [qG] at this
   omega
  rw [if_pos h]
  refine jA ?_
  exact AW.ret (mE rfl (Rm.is rfl rfl) (Rm.is rfl rfl) (ak rfl rfl rfl rfl rfl (rfl) (ah (by assumption))))
 have h:¬R.2=0:=by
  have:=of_decide_eq_false h0
  simp only [qG] at this
  omega
 rw [if_neg h]
 refine jA ?_
 refine AW.cond rfl (fun h1=>?_) (fun h1=>?_)
 ·have k:R.2=12:=by
   have:=of_decide_eq_true h1
   simp only [qG] at this
   omega
  rw [if_pos k]
  refine jA ?_
  exact AW.ret (mE rfl (Rm.is rfl rfl) (Rm.is rfl rfl) (ak rfl rfl rfl rfl rfl (rfl) (ah (by assumption))))
 ·have k:¬R.2=12:=by
   have:=of_decide_eq_false h1
   simp only [qG] at this
   omega
  rw [if_neg k]
  refine jA ?_
  exact AW.ret (mE rfl (Rm.is rfl rfl) (Rm.is rfl rfl) (ak rfl rfl rfl rfl rfl (rfl) (ah (by assumption))))
section
variable {α : Type} [Inhabited α] {lt : α -> α -> Bool}
def chB (lt:α->α->Bool) (hi first root:Nat) (d:Array α):Bool:=decide (2*root+1+1<hi) && lt d[first+(2*root+1)]! d[first+(2*root+1)+1]!
def chN (lt:α->α->Bool) (hi first root:Nat) (d:Array α):Nat:=bif chB lt hi first root d then 2*root+2 else 2*root+1
theorem t6 {hi first root:Nat} {d:Array α} (h:¬2*root+1>=hi):root<chN lt hi first root d/\chN lt hi first root d<hi:=by
 rw [chN]
 cases e:chB lt hi first root d
 ·rw [cond_false];omega
 ·rw [chB,qQ,vM] at e
  rw [cond_true];omega
theorem va {hi first root:Nat} {d:Array α} (h:¬2*root+1>=hi):Go.Sort.siftDown lt hi first root d=bif lt d[first+root]! d[first+chN lt hi first root d]! then Go.Sort.siftDown lt hi first (chN lt hi first root d) (swp d (first+root) (first+chN lt hi first root d)) else d:=by
 have hc:=t6 (lt:=lt) (first:=first) (d:=d) h
 rw [Go.Sort.siftDown,dif_neg h]
 rw [chN] at hc ⊢
 rw [chB] at hc ⊢
 cases e:(decide (2*root+1+1<hi) && lt d[first+(2*root+1)]! d[first+(2*root+1)+1]!)
 ·rw [if_neg (by simp)]
  simp only [cond_false]
  cases lt d[first+root]! d[first+(2*root+1)]!
  ·rfl
  ·rfl
 ·rw [e,cond_true] at hc
  rw [if_pos rfl]
  simp only [cond_true]
  cases lt d[first+root]! d[first+(2*root+2)]!
  ·rfl
  ·rw [if_neg (by simp),dif_pos hc.2];rfl
theorem la {hi first root:Nat} {d:Array α} (h:2*root+1>=hi):Go.Sort.siftDown lt hi first root d=d:=by
 rw [Go.Sort.siftDown,dif_pos h]
theorem kB {hi first:Nat}:∀(f root:Nat) (d:Array α),hi - root<=f->(Go.Sort.siftDown lt hi first root d).size=d.size
 | 0,root,d,hf=>by rw [la (by omega)]
 | f+1,root,d,hf=>by
  by_cases h:2*root+1>=hi
  ·rw [la h]
  ·have hc:=t6 (lt:=lt) (first:=first) (d:=d) h
   rw [va h]
   cases lt d[first+root]! d[first+chN lt hi first root d]!
   ·rfl
   ·rw [cond_true,kB f _ _ (by omega),ba]
theorem rJ {hi first:Nat}:∀(k:Nat) (d:Array α),(Go.Sort.heapBuild lt hi first k d).size=d.size
 | 0,d=>rfl
 | k+1,d=>by rw [Go.Sort.heapBuild,rJ k,kB _ _ _ (qJ _)]
theorem AZ {first:Nat}:∀(k:Nat) (d:Array α),(Go.Sort.heapPop lt first k d).size=d.size
 | 0,d=>rfl
 | k+1,d=>by rw [Go.Sort.heapPop,AZ k,kB _ _ _ (qJ _),ba]
end
theorem zW (l:List Rl) (L:Nat) (hL:l.length=L+1) (n:Nat) (hl:n<=100000) (d:Array (Fin (L+1))) (hn:d.size=n) (root hi first:Nat) (hr:root<=n) (hf:first+hi<=n) (q:Nat->Option (Nat × Nat)):aq Tryz.prog 267 [.row 201 0 0 n,.i .i64 ((root:Nat):Int),.i .i64 ((hi:Nat):Int),.i .i64 ((first:Nat):Int),.fn 253 [.own 210 0 0] []] (gl q [210,201] (ioB l n (d))) (.tup []) (gl q [210,201] (ioB l n (Go.Sort.siftDown (ltI l L) hi first root d))):=by
 refine aq.of_body Tryz.func267 rfl (by kernel_rfl) rfl rfl ?_
 generalize hG:Go.Sort.siftDown (ltI l L) hi first root d=G
 refine jA ?_
 refine AW.loopL (ι:=Nat × Array (Fin (L+1))) (fun x=>[(0,.row 201 0 0 n),(2,.i .i64 ((hi:Nat):Int)),(3,.i .i64 ((first:Nat):Int)),(4,.fn 253 [.own 210 0 0] []),(10,.i .i64 ((x.1:Nat):Int))]) (fun x=>gl q [210,201] (ioB l n (x.2))) (fun x=>(x.1<=n/\x.2.size=n)/\Go.Sort.siftDown (ltI l L) hi first x.1 x.2=G) (fun x=>hi - x.1) (root,d) ⟨⟨hr,hn⟩,hG⟩ jQ (ak rfl rfl rfl rfl rfl (rfl) (ah (by assumption))) fun x hx=>?_
 clear hG hn hr
 obtain ⟨root,m⟩:=x
 obtain ⟨⟨hr,hm⟩,hG⟩:=hx
 simp only at hr hm hG
 have wc:IntKind.i64.wrap (IntKind.i64.wrap (Int.ofNat 2*((root:Nat):Int))+Int.ofNat 1)=((2*root+1:Nat):Int):=by
  have e:IntKind.i64.wrap (Int.ofNat 2*((root:Nat):Int))=((2*root:Nat):Int):=by rw [IntKind.wrap_i64];simp only [qG];omega
  rw [e,IntKind.wrap_i64];simp only [qG];omega
 have w2:IntKind.i64.wrap (((2*root+1:Nat):Int)+Int.ofNat 1)=((2*root+1+1:Nat):Int):=by simp only [IntKind.wrap_i64,qG];omega
 refine zB ?_
 refine RG.runO af 0 [(15,.i .i64 ((2*root+1:Nat):Int))] 400 rfl jD ?_
 refine jA ?_
 refine AW.cond rfl (fun h0=>?_) (fun h0=>?_)
 ·have h : 2 * root + 1 >= hi := by
   have:=of_decide_eq_true h0
   omega
  rw [la h] at hG
  subst hG
  refine jA ?_
  refine AW.exit ?_;refine Eq.mpr (if_neg (by decide)) ?_;refine Eq.mpr (if_pos rfl) ?_;refine jA ?_
  exact cG rfl (.inl rfl) (ak rfl rfl rfl rfl rfl (rfl) (ah (by assumption)))
 have h:¬2*root+1>=hi:=by
  have:=of_decide_eq_false h0
  omega
 have hc:=t6 (lt:=ltI l L) (first:=first) (d:=m) h
 rw [va h] at hG
 refine jB ?_
 refine AW.cutT (ι:=Unit) (fun _=>[(0,.row 201 0 0 n),(2,.i .i64 ((hi:Nat):Int)),(3,.i .i64 ((first:Nat):Int)),(4,.fn 253 [.own 210 0 0] []),(10,.i .i64 ((root:Nat):Int)),(11,.i .i64 ((2*root+1:Nat):Int)),(40,.b (chB (ltI l L) hi first root m))]) (fun _=>gl q [210,201] (ioB l n (m))) (fun _=>True) ?_ fun _ _=>?_
 ·refine AW.draws aN ?_
  by_cases g1:((2*root+1+1:Nat):Int)<((hi:Nat):Int)
  ·refine RG.runO af 0 [(20,.i .i64 ((2*root+1+1:Nat):Int)),(22,.b true)] 400 rfl jD ?_
   have w4:IntKind.i64.wrap (((first:Nat):Int)+((2*root+1:Nat):Int))=((first+(2*root+1):Nat):Int):=by rw [IntKind.wrap_i64];omega
   have w5:IntKind.i64.wrap (((first+(2*root+1):Nat):Int)+Int.ofNat 1)=((first+(2*root+1)+1:Nat):Int):=by simp only [IntKind.wrap_i64,qG];omega
   refine jI (ia (first+(2*root+1)) am (m.toList)) ?_
   refine jL (lA (first+(2*root+1)) am (m)) ?_
   refine RG.runO af 0 [(34,.i .i64 ((first+(2*root+1):Nat):Int)),(35,.i .i64 ((first+(2*root+1)+1:Nat):Int))] 400 rfl jD ?_
   refine jI (ia (first+(2*root+1)+1) am (m.toList)) ?_
   refine jL (lA (first+(2*root+1)+1) am (m)) ?_
   refine wH rfl ?_
   refine RG.ownK [(210,210),(201,201)] [(210,210),(201,201)] 201 201 rfl (fun q=>bA l L hL n (m) (m[first+(2*root+1)]!) (m[first+(2*root+1)+1]!) q (ah (by assumption))) rfl rfl rfl rfl rfl rfl rfl rfl rfl rfl rfl rfl rfl ?_
   refine wH rfl ?_;refine jB ?_
   exact ⟨(),trivial,⟨Rn.rowIs rfl rfl rfl,Rn.is rfl rfl,Rn.is rfl rfl,Rn.fnO rfl rfl rfl,Rn.is rfl rfl,Rn.is rfl rfl,Rn.is (congrArg AV.b (by rw [chB,qF (show 2*root+1+1<hi by omega),uM];rfl)) rfl,trivial⟩,ak rfl rfl rfl rfl rfl (rfl) (ah (by assumption))⟩
  ·refine RG.runO af 0 [(20,.i .i64 ((2*root+1+1:Nat):Int)),(22,.b false)] 400 rfl jD ?_
   refine jB ?_
   exact ⟨(),trivial,⟨Rn.rowIs rfl rfl rfl,Rn.is rfl rfl,Rn.is rfl rfl,Rn.fnO rfl rfl rfl,Rn.is rfl rfl,Rn.is rfl rfl,Rn.is (congrArg AV.b (by rw [chB,qC (show ¬2*root+1+1<hi by omega),uP])) rfl,trivial⟩,ak rfl rfl rfl rfl rfl (rfl) (ah (by assumption))⟩
 obtain ⟨ch,hch⟩:∃c,chN (ltI l L) hi first root m=c:=⟨_,rfl⟩
 rw [hch] at hc hG
 rw [chN] at hch
 refine jB ?_
 refine AW.cutT (ι:=Unit) (fun _=>[(0,.row 201 0 0 n),(2,.i .i64 ((hi:Nat):Int)),(3,.i .i64 ((first:Nat):Int)),(4,.fn 253 [.own 210 0 0] []),(10,.i .i64 ((root:Nat):Int)),(11,.i .i64 ((ch:Nat):Int))]) (fun _=>gl q [210,201] (ioB l n (m))) (fun _=>True) ?_ fun _ _=>?_
 ·refine AW.cond rfl (fun h1=>?_) (fun h1=>?_)
  ·rw [h1,cond_true] at hch
   subst hch
   refine jA ?_
   exact ⟨(),trivial,⟨Rn.rowIs rfl rfl rfl,Rn.is rfl rfl,Rn.is rfl rfl,Rn.fnO rfl rfl rfl,Rn.is rfl rfl,Rn.is (congrArg (AV.i .i64) w2) rfl,trivial⟩,ak rfl rfl rfl rfl rfl (rfl) (ah (by assumption))⟩
  ·rw [h1,cond_false] at hch
   subst hch
   refine jA ?_
   exact ⟨(),trivial,jQ,ak rfl rfl rfl rfl rfl (rfl) (ah (by assumption))⟩
 refine zD ?_
 refine wH rfl ?_;refine jI (ia (first+root) am ((m).toList)) ?_;refine jL (lA (first+root) am (m)) ?_
 refine wH rfl ?_;refine jI (ia (first+ch) am ((m).toList)) ?_;refine jL (lA (first+ch) am (m)) ?_
 refine wH rfl ?_
 refine RG.ownK [(210,210),(201,201)] [(210,210),(201,201)] 201 201 rfl (fun q=>bA l L hL n (m) (m[first+root]!) (m[first+ch]!) q (ah (by assumption))) rfl rfl rfl rfl rfl rfl rfl rfl rfl rfl rfl rfl rfl ?_
 refine wH rfl ?_;refine jB ?_
 refine AW.cond rfl (fun h1=>?_) (fun h1=>?_)
 ·rw [show ltI l L m[first+root]! m[first+ch]! = false from by rw [ltI];simpa using h1,cond_false] at hG
  subst hG
  refine jA ?_
  exact AW.ret (cG rfl (.inr rfl) (ak rfl rfl rfl rfl rfl (rfl) (ah (by assumption))))
 ·rw [show ltI l L m[first+root]! m[first+ch]! = true from by rw [ltI];simpa using h1,cond_true] at hG
  have hm2:=(ba m (first+root) (first+ch)).trans hm
  refine zD ?_
  refine wH rfl ?_;refine jI (ia (first+ch) am ((m).toList)) ?_;refine jL (lA (first+ch) am (m)) ?_;refine wH rfl ?_;refine jI (ia (first+root) am ((m).toList)) ?_;refine jL (lA (first+root) am (m)) ?_;refine wH rfl ?_;refine jI (ia (first+root) am ((m).toList)) ?_;refine RG.opS rfl (aR (first+root) am ((m).toList) ((m)[first+ch]!) (by simp only [vF,qL];omega) rfl (tk rfl) rfl rfl rfl rfl rfl (fun _=>rfl)) rfl ?_;refine wH rfl ?_;refine jI (ia (first+ch) am (((m).toList.set (first+root) (m)[first+ch]!))) ?_;refine RG.opS rfl (aR (first+ch) am (((m).toList.set (first+root) (m)[first+ch]!)) ((m)[first+root]!) (by simp only [vF,qL];omega) rfl (tk rfl) rfl rfl rfl rfl rfl (fun _=>rfl)) rfl ?_
  refine jH ?_
  exact ⟨(ch,swp m (first+root) (first+ch)),⟨⟨⟨by show ch<=n;omega,hm2⟩,hG⟩,by show hi - ch<hi - root;omega⟩,⟨Rn.rowTIs rfl rfl rfl (ah (hm2)),Rn.is rfl rfl,Rn.is rfl rfl,Rn.fnO rfl rfl rfl,Rn.is rfl rfl,trivial⟩,ak rfl rfl rfl rfl rfl (by rw [bf]) (ah (by assumption))⟩
theorem Fo (l:List Rl) (L:Nat) (hL:l.length=L+1) (n:Nat) (hl:n<=100000) (d:Array (Fin (L+1))) (hn:d.size=n) (a b:Nat) (ha:a<b) (hb:b<=n) (q:Nat->Option (Nat × Nat)):aq Tryz.prog 260 [.row 201 0 0 n,.i .i64 ((a:Nat):Int),.i .i64 ((b:Nat):Int),.fn 253 [.own 210 0 0] []] (gl q [210,201] (ioB l n (d))) (.tup []) (gl q [210,201] (ioB l n (Go.Sort.heapSort (ltI l L) d a b))):=by
 refine aq.of_body Tryz.func260 rfl (by kernel_rfl) rfl rfl ?_
 generalize hG:Go.Sort.heapSort (ltI l L) d a b=G
 rw [Go.Sort.heapSort] at hG
 have wl:IntKind.i64.wrap (((b:Nat):Int) - ((a:Nat):Int))=((b - a:Nat):Int):=by rw [IntKind.wrap_i64];omega
 generalize hh:b - a=hi at wl hG
 have w1:IntKind.i64.wrap (Int.tdiv (IntKind.i64.wrap (((hi:Nat):Int) - Int.ofNat 1)) (Int.ofNat 2))=(((hi - 1) / 2+1:Nat):Int) - 1:=by
  have e:IntKind.i64.wrap (((hi:Nat):Int) - Int.ofNat 1)=((hi - 1:Nat):Int):=by rw [IntKind.wrap_i64];simp only [qG];omega
  rw [e,Int.tdiv_eq_ediv_of_nonneg (by omega),IntKind.wrap_i64];simp only [qG];omega
 refine jB ?_;refine wF ?_;refine wH rfl ?_;refine jB ?_;refine wF ?_;refine wH rfl ?_;refine jB ?_
 refine AW.text ?_
 refine RG.runO af 0 [(16,.i .i64 ((hi:Nat):Int))] 400 rfl jD ?_
 refine jA ?_
 refine AW.loopL (ι:=Nat × Array (Fin (L+1))) (fun x=>[(0,.row 201 0 0 n),(3,.fn 253 [.own 210 0 0] []),(8,.i .i64 ((a:Nat):Int)),(9,.i .i64 ((0:Nat):Int)),(10,.i .i64 ((hi:Nat):Int)),(11,.i .i64 (((x.1:Nat):Int) - 1))]) (fun x=>gl q [210,201] (ioB l n (x.2))) (fun x=>(x.1<=hi/\x.2.size=n)/\Go.Sort.heapPop (ltI l L) a hi (Go.Sort.heapBuild (ltI l L) hi a x.1 x.2)=G) (fun x=>x.1) ((hi - 1) / 2+1,d) ⟨⟨by show (hi - 1) / 2+1<=hi;omega,hn⟩,hG⟩ ⟨Rn.rowIs rfl rfl rfl,Rn.fnO rfl rfl rfl,Rn.is rfl rfl,Rn.is rfl rfl,Rn.is rfl rfl,Rn.is (congrArg (AV.i .i64) (w1)) rfl,trivial⟩ (ak rfl rfl rfl rfl rfl (rfl) (ah (by assumption))) fun x hx=>?_
 clear hG hn w1 d
 obtain ⟨k,m⟩:=x
 obtain ⟨⟨hk,hm⟩,hG⟩:=hx
 simp only at hk hm hG
 refine jA ?_
 refine AW.cond rfl (fun h0=>?_) (fun h0=>?_)
 ·have h:0<k:=by
   have:=of_decide_eq_true h0
   simp only [qG] at this
   omega
  obtain ⟨k,rfl⟩:∃z,k=z+1:=⟨k - 1,by omega⟩
  rw [Go.Sort.heapBuild] at hG
  have e1:(((k+1:Nat):Int) - 1)=((k:Nat):Int):=by omega
  have e2:IntKind.i64.wrap ((((k+1:Nat):Int) - 1) - Int.ofNat 1)=(((k:Nat):Int) - 1):=by rw [IntKind.wrap_i64];simp only [qG];omega
  have hs:=kB (lt:=ltI l L) (hi:=hi) (first:=a) _ k m (qJ _)
  refine zB ?_
  refine RG.runO af 0 [(25,.i .i64 ((k:Nat):Int))] 400 rfl jD ?_
  refine RG.ownK [(210,210),(201,201)] [(210,210),(201,201)] 201 201 (bB (hs)) (fun q=>zW l L hL n hl m hm k hi a (by omega) (by omega) q) rfl rfl rfl rfl rfl rfl rfl rfl rfl rfl rfl rfl rfl ?_
  refine jH ?_
  exact ⟨(k,Go.Sort.siftDown (ltI l L) hi a k m),⟨⟨⟨by show k<=hi;omega,hs.trans hm⟩,hG⟩,by show k<k+1;omega⟩,⟨Rn.rowIs rfl rfl rfl,Rn.fnO rfl rfl rfl,Rn.is rfl rfl,Rn.is rfl rfl,Rn.is rfl rfl,Rn.is (congrArg (AV.i .i64) (e2)) rfl,trivial⟩,ak rfl rfl rfl rfl rfl (rfl) (ah (hs.trans hm))⟩
 have h:k=0:=by
  have:=of_decide_eq_false h0
  simp only [qG] at this
  omega
 subst h
 rw [Go.Sort.heapBuild] at hG
 have w1:IntKind.i64.wrap (((hi:Nat):Int) - Int.ofNat 1)=(((hi:Nat):Int) - 1):=by rw [IntKind.wrap_i64];simp only [qG];omega
 refine zE ?_
 refine AW.loopL (ι:=Nat × Array (Fin (L+1))) (fun x=>[(0,.row 201 0 0 n),(3,.fn 253 [.own 210 0 0] []),(8,.i .i64 ((a:Nat):Int)),(9,.i .i64 ((0:Nat):Int)),(10,.i .i64 ((hi:Nat):Int)),(12,.i .i64 (((x.1:Nat):Int) - 1))]) (fun x=>gl q [210,201] (ioB l n (x.2))) (fun x=>(x.1<=hi/\x.2.size=n)/\Go.Sort.heapPop (ltI l L) a x.1 x.2=G) (fun x=>x.1) (hi,m) ⟨⟨qJ _,hm⟩,hG⟩ ⟨Rn.rowIs rfl rfl rfl,Rn.fnO rfl rfl rfl,Rn.is rfl rfl,Rn.is rfl rfl,Rn.is rfl rfl,Rn.is (congrArg (AV.i .i64) (w1)) rfl,trivial⟩ (ak rfl rfl rfl rfl rfl (rfl) (ah (by assumption))) fun x hx=>?_
 clear hG hm w1
 obtain ⟨k,m⟩:=x
 obtain ⟨⟨hk,hm⟩,hG⟩:=hx
 simp only at hk hm hG
 refine jA ?_
 refine AW.cond rfl (fun h0=>?_) (fun h0=>?_)
 rotate_left
 ·have h:k=0:=by
   have:=of_decide_eq_false h0
   simp only [qG] at this
   omega
  subst h
  rw [Go.Sort.heapPop] at hG
  subst hG
  refine zE ?_
  exact cG rfl (.inl rfl) (ak rfl rfl rfl rfl rfl (rfl) (ah (by assumption)))
 have h:0<k:=by
  have:=of_decide_eq_true h0
  simp only [qG] at this
  omega
 obtain ⟨k,rfl⟩:∃z,k=z+1:=⟨k - 1,by omega⟩
 rw [Go.Sort.heapPop] at hG
 have e1:(((k+1:Nat):Int) - 1)=((k:Nat):Int):=by omega
 have e2:IntKind.i64.wrap ((((k+1:Nat):Int) - 1) - Int.ofNat 1)=(((k:Nat):Int) - 1):=by rw [IntKind.wrap_i64];simp only [qG];omega
 have hm2:=(ba m a (a+k)).trans hm
 have hs:=kB (lt:=ltI l L) (hi:=k) (first:=a) _ 0 (swp m a (a+k)) (qJ _)
 refine zD ?_
 refine RG.runO af 0 [(40,.i .i64 ((k:Nat):Int)),(44,.i .i64 ((k:Nat):Int))] 400 rfl jD ?_
 refine jI (ia (a+k) am (m.toList)) ?_
 refine jL (lA (a+k) am (m)) ?_
 refine wH rfl ?_;refine jI (ia (a) am ((m).toList)) ?_;refine jL (lA (a) am (m)) ?_
 refine wH rfl ?_;refine jI (ia (a) am (m.toList)) ?_
 refine RG.opS rfl (aR (a) am (m.toList) (m[a+k]!) (by simp only [vF,qL];omega) rfl (tk rfl) rfl rfl rfl rfl rfl (fun _=>rfl)) rfl ?_
 refine wH rfl ?_;refine jI (ia (a+k) am ((m.toList.set a m[a+k]!))) ?_
 refine RG.opS rfl (aR (a+k) am ((m.toList.set a m[a+k]!)) (m[a]!) (by simp only [vF,qL];omega) rfl (tk rfl) rfl rfl rfl rfl rfl (fun _=>rfl)) rfl ?_
 rw [<- bf]
 refine wH rfl ?_;refine jB ?_
 refine AW.text ?_
 refine RG.runO af 0 [(56,.i .i64 ((k:Nat):Int))] 400 rfl jD ?_
 refine RG.ownK [(210,210),(201,201)] [(210,210),(201,201)] 201 201 (bB (hs)) (fun q=>zW l L hL n hl (swp m a (a+k)) hm2 0 k a (by omega) (by omega) q) rfl rfl rfl rfl rfl rfl rfl rfl rfl rfl rfl rfl rfl ?_
 refine jH ?_
 exact ⟨(k,Go.Sort.siftDown (ltI l L) k a 0 (swp m a (a+k))),⟨⟨⟨by show k<=hi;omega,hs.trans hm2⟩,hG⟩,by show k<k+1;omega⟩,⟨Rn.rowIs rfl rfl rfl,Rn.fnO rfl rfl rfl,Rn.is rfl rfl,Rn.is rfl rfl,Rn.is rfl rfl,Rn.is (congrArg (AV.i .i64) (e2)) rfl,trivial⟩,ak rfl rfl rfl rfl rfl (rfl) (ah (hs.trans hm2))⟩
end Go.Proofs.YtdidjpohnopihaaGreat.Sm
end
