/- Contracts of the program's functions over data, and the plain laws that they meet (part 8). No condition. -/
import Derived.Test.YtdidjpohnopihaaGreatVmg
import Derived.WalkKit
import Derived.WalkSpells
import Derived.WalkLawsBesides
import Derived.Lib.Hide
import Derived.Deep.RegionHeld3
import Derived.Maps.AppendAt
import Derived.KernelRfl
import Derived.Lib.AppendStr
import Derived.Orders
import Derived.LoopTactic
import Derived.Laws.CopyRow
import Derived.Laws.Cells
import Derived.OrdersIn
import Derived.Laws.Externs
import Derived.TacticsIn
import Derived.RangeFuncLeaves
import Derived.RangeFuncRecord
import Derived.Great.BuildSlice
import Derived.Laws.ResultCell
import Derived.Laws.StructEq
import Derived.Laws.MakeOwn
import Derived.Lib.AppendZerosOnto
import Derived.RangeFuncSeq
import Derived.RangeFuncIn
import Derived.Deep.Slices
import Derived.Deep.Fields
import Derived.ChangeSame
import Derived.ProofKit
import Derived.OpenShut
import Derived.SizedLaws
import Derived.Test.YtdidjpohnopihaaGreatProg
import Derived.Shelf.Spec.BitsCarry
import Derived.Laws.AppendOwn
import Derived.DeepKeys4
import Derived.MapKept
import Derived.Maps.Own
import Derived.Maps.OwnOps
import Derived.StillTailTactics
import Derived.Laws.OwnMore
import Derived.Sort.AssemblyPlain
import Derived.Sort.LotD4
import Derived.Sort.Walk13a
import Derived.Shelf.Sort.Plain
import Derived.Sort.OwnSortedInts
import Derived.Sort.LotA
import Derived.Sort.MapsRangeIn
import Derived.Maps.RangeWalk
import Derived.Laws.IdiomRangeMap
import Derived.Shelf.SlSortCmp.WholeK
import Derived.Ground.SlsfProg
import Derived.Ground.NamesProg
import Derived.Shelf.SlSortCmp.NoneTotal
import Derived.BigQuiet
set_option linter.unusedVariables false
set_option linter.unusedSimpArgs false
set_option maxRecDepth 100000
set_option maxHeartbeats 4000000
section
namespace Go.Proofs.YtdidjpohnopihaaGreat.Sm
open Go.RowKit
set_option pp.maxSteps 200000
structure ApW (W wr:World) (c:Cf) (F':Nat->Prop) (bx rb:Nat) (tp pe wy tb:Value) (t:Tabs):Prop where
 kp:Kp No W wr
 box:wr.heap[bx]?=some (.cells #[tp,.int .i64 c.pol.tenants,pe,wy,tb] 31 (0,0))
 res:wr.heap[rb]?=some (.cells #[.slice none 0 0,.int .i64 0,.slice none 0 0,.slice none 0 0,.slice none 0 0] 31 (0,0))
 ne:W.heap.size<=bx/\W.heap.size<=rb/\bx≠rb/\¬F' bx
 top:∃bs,TopQ wr t tb bs/\bs.Nodup/\∀z∈bs,W.heap.size<=z/\z≠bx/\z≠rb/\¬F' z
 f1:PRel wr F' (.sl (c.topo.ports.map cPts)) tp
 f2:PRel wr F' (.sl (c.pol.peers.map cPr)) pe
 f3:PRel wr F' (.sl (c.pol.ways.map cWy)) wy
 hF:∀b,F' b->b<wr.heap.size
theorem ApW.grow {W wr w2:World} {c:Cf} {F':Nat->Prop} {bx rb:Nat} {tp pe wy tb:Value} {t:Tabs} (h:ApW W wr c F' bx rb tp pe wy tb t) (hk:Kp No wr w2):ApW W w2 c F' bx rb tp pe wy tb t where
 kp:=h.kp.trans hk
 box:=hk.heap h.box (not_no _)
 res:=hk.heap h.res (not_no _)
 ne:=h.ne
 top:=by
  obtain ⟨bs,h1,h2,h3⟩:=h.top
  exact ⟨bs,h1.keep fun b hb=>hk.block b (h1.old b hb) (not_no _),h2,h3⟩
 f1:=h.f1.keep (fun b _ hb=>hk.block b hb (not_no _)) fun b h1 _=>h1
 f2:=h.f2.keep (fun b _ hb=>hk.block b hb (not_no _)) fun b h1 _=>h1
 f3:=h.f3.keep (fun b _ hb=>hk.block b hb (not_no _)) fun b h1 _=>h1
 hF b hb:=vI (h.hF b hb) hk.size
theorem ApW.one {W wr:World} {c:Cf} {F':Nat->Prop} {bx rb:Nat} {tp pe wy tb:Value} {t:Tabs} {x:Ed} (h:ApW W wr c F' bx rb tp pe wy tb t) (hx:OneQ x t) (hl:∀m∈t,∀l∈m,l.length<=1500000000000) :
  Calls Tryz.prog 63 #[.pointer (some ⟨bx,0,none⟩),vEd x] wr fun e W'=>e = .returned (.int .i64 (oneF t x).1)/\Kp No W W'/\W'.heap[rb]?=wr.heap[rb]?/\((oneF t x).1=0->ApW W W' c F' bx rb tp pe wy tb (oneF t x).2):=by
 obtain ⟨bs,h1,h2,h3⟩:=h.top
 refine (hx wr bx tp pe wy tb c.pol.tenants bs h.box h1 h2 (fun hb=>(h3 bx hb).2.1 rfl) hl).mono ?_
 rintro e W' ⟨rfl,hk,hok⟩
 have hkp:Kp No W W':=h.kp.trans2 hk fun g hg hb=>absurd hg (Nat.not_lt.2 (h3 g hb).1)
 have hres:W'.heap[rb]?=wr.heap[rb]?:=hk.block rb (qI.1 h.res).1 fun hb=>(h3 rb hb).2.2.1 rfl
 refine ⟨rfl,hkp,hres,fun h0=>?_⟩
 obtain ⟨bs',t1,t2,t3⟩:=hok h0
 have hkeep:∀b,F' b->b<wr.heap.size->W'.heap[b]?=wr.heap[b]?:=fun b hb hlt=>hk.block b hlt fun hbs=>(h3 b hbs).2.2.2 hb
 have hbx:=(qI.1 h.box).1
 have hrb:=(qI.1 h.res).1
 exact {
  kp:=hkp
  box:=(hk.block bx hbx fun hb=>(h3 bx hb).2.1 rfl).trans h.box
  res:=hres.trans h.res
  ne:=h.ne
  top:=⟨bs',t1,t2,fun z hz=>(t3 z hz).elim (h3 z) fun hz2=>⟨vJ h.kp.size hz2,by omega,by omega,fun hf=>by have:=h.hF z hf;omega⟩⟩
  f1:=h.f1.keep hkeep fun b h1 _=>h1
  f2:=h.f2.keep hkeep fun b h1 _=>h1
  f3:=h.f3.keep hkeep fun b h1 _=>h1
  hF:=fun b hb=>vI (h.hF b hb) hk.size }
theorem cfg_form {W:World} {F:Nat->Prop} {c:Cf} {v:Value} (h:PRel W F (.agg (cCf c)) v):∃A0 n0 k0 A1 n1 k1 A2 n2 k2 A3 n3 k3,v = .agg #[.slice A0 n0 k0,.int .i64 c.pol.tenants,.slice A1 n1 k1,.slice A2 n2 k2,.slice A3 n3 k3]:=by
 have sf:∀{els:List (List AV)} {u:Value},PRel W F (.sl els) u->∃A n k,u = .slice A n k:=fun h=>by
  generalize hx:AV.sl _=x at h
  cases h <;> first | exact ⟨_,_,_,rfl⟩ | cases hx
 cases h with
 | agg cs vs hl h1 hr =>
  match vs,hl with
  | [a,b,d,e,f],_ =>
   obtain ⟨A0,n0,k0,rfl⟩:=sf (hr 0 _ a rfl rfl)
   obtain ⟨A1,n1,k1,rfl⟩:=sf (hr 2 _ d rfl rfl)
   obtain ⟨A2,n2,k2,rfl⟩:=sf (hr 3 _ e rfl rfl)
   obtain ⟨A3,n3,k3,rfl⟩:=sf (hr 4 _ f rfl rfl)
   have hb:=hr 1 _ b rfl rfl
   cases hb
   exact ⟨_,_,_,_,_,_,_,_,_,_,_,_,rfl⟩
def applyR (c:Cf) (r:Int × Tabs):AV:=.tup [.agg (if r.1=0 then cCf { c with tables:=r.2 } else [.sl [],.i .i64 0,.sl [],.sl [],.sl []]),.i .i64 r.1]
theorem set5 {W:World} {b:Nat} {a0 a1 a2 a3 a4:Value} {t:TypeId} (h:W.heap[b]?=some (.cells #[a0,a1,a2,a3,a4] t (0,0))) (v0 v1 v2 v3 v4:Value) :
  (((((W.setCell ⟨b,0,none⟩ v0).setCell ⟨b,1,none⟩ v1).setCell ⟨b,2,none⟩ v2).setCell ⟨b,3,none⟩ v3).setCell ⟨b,4,none⟩ v4).heap[b]?=some (.cells #[v0,v1,v2,v3,v4] t (0,0)) /\
  Kp (fun x=>x=b) W (((((W.setCell ⟨b,0,none⟩ v0).setCell ⟨b,1,none⟩ v1).setCell ⟨b,2,none⟩ v2).setCell ⟨b,3,none⟩ v3).setCell ⟨b,4,none⟩ v4) :=
 ⟨set_same (set_same (set_same (set_same (set_same h)))),((((Kp.set1 W b 0 v0).setCell (p:=⟨b,1,none⟩) (.inl rfl) v1).setCell (p:=⟨b,2,none⟩) (.inl rfl) v2).setCell (p:=⟨b,3,none⟩) (.inl rfl) v3).setCell (p:=⟨b,4,none⟩) (.inl rfl) v4⟩
theorem apply_ret {tmps:Array Value} {W:World} {b:Nat} {e:Int} {cs:Array Value} (h4:tmps.getD 4 undef = .pointer (some ⟨b,0,none⟩)) (h5:tmps.getD 5 undef = .int .i64 e) (hh:W.heap[b]?=some (.cells cs 31 (0,0))) (hs:cs.size=5) :
  (results Tryz.f31 tmps).run Tryz.prog W = .ok (.tuple #[.agg cs,.int .i64 e]) W:=by
 obtain ⟨fs,hfs⟩:=under_cfg
 have hi:(Tryz.prog.info? 31).map (·.size)=some cs.size:=by rw [hs];kernel_rfl
 rw [results_cell_tmp (p:=4) (u:=5) (ty:=31) rfl,h4,h5]
 simp only [asAddr,Sem.run_pure,Result.andThen_ok,run_loadVar_row (P:=Tryz.prog) W b _ _ _ _ _ hh hfs rfl hi]
theorem applyR_err {W:World} {F:Nat->Prop} {c:Cf} {r:Int × Tabs} (h:¬r.1=0):PRel W F (applyR c r) (.tuple #[.agg #[.slice none 0 0,.int .i64 0,.slice none 0 0,.slice none 0 0,.slice none 0 0],.int .i64 r.1]):=by
 unfold applyR
 rw [if_neg h]
 refine .tup _ [_,_] rfl fun j x v hx hv=>?_
 match j,hx,hv with
 | 0,hx,hv =>
  obtain rfl:=qB hx
  obtain rfl:=qB hv
  refine .agg _ [_,_,_,_,_] rfl (fun j x hx=>?_) fun j x v hx hv=>?_
  ·match j,hx with
   | 0,hx=>obtain rfl:=qB hx;rfl
   | 1,hx=>obtain rfl:=qB hx;rfl
   | 2,hx=>obtain rfl:=qB hx;rfl
   | 3,hx=>obtain rfl:=qB hx;rfl
   | 4,hx=>obtain rfl:=qB hx;rfl
  ·match j,hx,hv with
   | 0,hx,hv=>obtain rfl:=qB hx;obtain rfl:=qB hv;exact nil_pr
   | 1,hx,hv=>obtain rfl:=qB hx;obtain rfl:=qB hv;exact .i _ _
   | 2,hx,hv=>obtain rfl:=qB hx;obtain rfl:=qB hv;exact nil_pr
   | 3,hx,hv=>obtain rfl:=qB hx;obtain rfl:=qB hv;exact nil_pr
   | 4,hx,hv=>obtain rfl:=qB hx;obtain rfl:=qB hv;exact nil_pr
 | 1,hx,hv =>
  obtain rfl:=qB hx
  obtain rfl:=qB hv
  exact .i _ _
theorem applyR_ok {W:World} {F:Nat->Prop} {c:Cf} {r:Int × Tabs} {v:Value} (h:r.1=0) (hv:PRel W F (.agg (cCf { c with tables:=r.2 })) v):PRel W F (applyR c r) (.tuple #[v,.int .i64 0]):=by
 unfold applyR
 rw [if_pos h,h]
 refine .tup _ [_,_] rfl fun j x v hx hv=>?_
 match j,hx,hv with
 | 0,hx,hv =>
  obtain rfl:=qB hx
  obtain rfl:=qB hv
  assumption
 | 1,hx,hv =>
  obtain rfl:=qB hx
  obtain rfl:=qB hv
  exact .i _ _
theorem cfg_pr {W:World} {F:Nat->Prop} {c:Cf} {tp pe wy tb:Value} (h0:PRel W F (.sl (c.topo.ports.map cPts)) tp) (h2:PRel W F (.sl (c.pol.peers.map cPr)) pe) (h3:PRel W F (.sl (c.pol.ways.map cWy)) wy) (h4:PRel W F (.sl (c.tables.map cTab)) tb):PRel W F (.agg (cCf c)) (.agg #[tp,.int .i64 c.pol.tenants,pe,wy,tb]):=by
 refine .agg _ [_,_,_,_,_] rfl (fun j x hx=>?_) fun j x v hx hv=>?_
 ·match j,hx with
  | 0,hx=>obtain rfl:=qB hx;rfl
  | 1,hx=>obtain rfl:=qB hx;rfl
  | 2,hx=>obtain rfl:=qB hx;rfl
  | 3,hx=>obtain rfl:=qB hx;rfl
  | 4,hx=>obtain rfl:=qB hx;rfl
 ·match j,hx,hv with
  | 0,hx,hv=>obtain rfl:=qB hx;obtain rfl:=qB hv;exact h0
  | 1,hx,hv=>obtain rfl:=qB hx;obtain rfl:=qB hv;exact .i _ _
  | 2,hx,hv=>obtain rfl:=qB hx;obtain rfl:=qB hv;exact h2
  | 3,hx,hv=>obtain rfl:=qB hx;obtain rfl:=qB hv;exact h3
  | 4,hx,hv=>obtain rfl:=qB hx;obtain rfl:=qB hv;exact h4
theorem w_Apply (c : Cf) (E : List Ed) (hf : c.Fit) (hE : ∀ (k : Nat) (x : Ed) (t : Tabs), E[k]? = some x -> applyF c.tables (E.take k) = (0, t) -> OneQ x t) (hT : ∀ k t, k <= E.length -> applyF c.tables (E.take k) = (0, t) -> Cf.Fit { c with tables := t }) (W : World) (F : Nat -> Prop) (v u : Value) (hv : PRel W F (.agg (cCf c)) v) (hu : PRel W F (.sl (E.map cEd)) u) (hF : ∀ b, F b -> b < W.heap.size) :
  Calls Tryz.prog 31 #[v,u] W fun e W'=>∃v,e = .returned v/\Kp No W W'/\PRel W' (fun b=>F b\/(W.heap.size<=b/\b<W'.heap.size)) (applyR c (applyF c.tables E)) v:=by
 obtain ⟨A0,n0,k0,A1,n1,k1,A2,n2,k2,A3,n3,k3,rfl⟩:=cfg_form hv
 have hEl:E.length<=9223372036854775807:=by
  obtain ⟨_,_,_,h1,h2⟩:=sl_form hu
  rw [qH] at h1
  unfold maxLen at h2
  omega
 obtain ⟨A,cp,rfl⟩:=pr_lenE hu
 have Hv:=Lib.hid hv
 have Hu:=Lib.hid hu
 have HE:=Lib.hid hE
 have HT:=Lib.hid hT
 have Hf:=Lib.hid hf
 have HF:=Lib.hid hF
 clear hv hu hE hT hf hF
 go_enter Tryz.func31,Tryz.ntmps31
 go_wp2_with fail
 obtain ⟨WA,hWA⟩:∃WA,WA=(W.alloc (.cells #[.slice A0 n0 k0,.int .i64 c.pol.tenants,.slice A1 n1 k1,.slice A2 n2 k2,.slice A3 n3 k3] 31)).alloc (.cells #[.slice none 0 0,.int .i64 0,.slice none 0 0,.slice none 0 0,.slice none 0 0] 31):=⟨_,rfl⟩
 rw [<- hWA]
 have hkA:Kp No W WA:=by rw [hWA];exact ((Kp.refl No W).alloc _).alloc _
 have hsA:WA.heap.size=W.heap.size+2:=by rw [hWA];simp
 have hrA:WA.heap[W.heap.size+1]?=some (.cells #[.slice none 0 0,.int .i64 0,.slice none 0 0,.slice none 0 0,.slice none 0 0] 31 (0,0)):=by
  rw [hWA]
  have:=heap_alloc_new (W.alloc (.cells #[.slice A0 n0 k0,.int .i64 c.pol.tenants,.slice A1 n1 k1,.slice A2 n2 k2,.slice A3 n3 k3] 31)) (.cells #[.slice none 0 0,.int .i64 0,.slice none 0 0,.slice none 0 0,.slice none 0 0] 31)
  simpa using this
 refine (w_CloneW c Hf.out WA F _ (Hv.out.keep (fun b hb h2=>hkA.block b h2 (not_no _)) fun b h1 _=>h1) (fun b hb=>vI (HF.out b hb) hkA.size)).mono ?_
 rintro e W2 ⟨tp,pe,wy,tb,bs,F',rfl,hk2,hp1,hp2,hp3,htop,hnd,hnew,hF',hFn⟩
 obtain ⟨B0,m0,j0,rfl⟩:∃A n k,tp = .slice A n k:=by obtain ⟨A,c,h,_⟩:=sl_form hp1;exact ⟨_,_,_,h⟩
 obtain ⟨B1,m1,j1,rfl⟩:∃A n k,pe = .slice A n k:=by obtain ⟨A,c,h,_⟩:=sl_form hp2;exact ⟨_,_,_,h⟩
 obtain ⟨B2,m2,j2,rfl⟩:∃A n k,wy = .slice A n k:=by obtain ⟨A,c,h,_⟩:=sl_form hp3;exact ⟨_,_,_,h⟩
 obtain ⟨B3,j3,rfl,_⟩:=htop.form
 obtain ⟨W3,hW3⟩:∃W3,W3=W2.alloc (.cells #[.slice B0 m0 j0,.int .i64 c.pol.tenants,.slice B1 m1 j1,.slice B2 m2 j2,.slice B3 c.tables.length j3] 31):=⟨_,rfl⟩
 have hs2:W.heap.size+2<=W2.heap.size:=by have:=hk2.size;omega
 have ha:ApW W W3 c F' W2.heap.size (W.heap.size+1) (.slice B0 m0 j0) (.slice B1 m1 j1) (.slice B2 m2 j2) (.slice B3 c.tables.length j3) c.tables:=by
  have hk3:Kp No W2 W3:=by rw [hW3];exact (Kp.refl No W2).alloc _
  exact {
   kp:=(hkA.trans hk2).trans hk3
   box:=by rw [hW3];exact heap_alloc_new _ _
   res:=hk3.heap (hk2.heap hrA (not_no _)) (not_no _)
   ne:=⟨by omega,by omega,by omega,fun h=>Nat.lt_irrefl _ (hF' _ h)⟩
   top:=⟨bs,htop.keep fun b hb=>hk3.block b (htop.old b hb) (not_no _),hnd,fun z hz=>⟨by have:=(hnew z hz).1;omega,by have:=htop.old z hz;omega,by have:=(hnew z hz).1;omega,(hnew z hz).2⟩⟩
   f1:=hp1.keep (fun b _ hb=>hk3.block b hb (not_no _)) fun b h1 _=>h1
   f2:=hp2.keep (fun b _ hb=>hk3.block b hb (not_no _)) fun b h1 _=>h1
   f3:=hp3.keep (fun b _ hb=>hk3.block b hb (not_no _)) fun b h1 _=>h1
   hF:=fun b hb=>vI (hF' b hb) hk3.size }
 have Ha:=Lib.hid ha
 have HFn:=Lib.hid (show ∀b,F' b->F b\/W.heap.size+2<=b from fun b hb=>(hFn b hb).imp id fun h=>hsA ▸ h)
 have HW3:=Lib.hid hW3
 clear hWA hkA hsA hrA hk2 hp1 hp2 hp3 htop hnd hnew hF' hW3 hs2 ha hFn
 go_wp2_with fail
 rw [<- HW3.out]
 clear HW3
 go_loopw [14] (fun i wr=>∃(k:Nat) (t:Tabs),k<=E.length/\i = .int .i64 k/\applyF c.tables (E.take k)=(0,t)/\ApW W wr c F' W2.heap.size (W.heap.size+1) (.slice B0 m0 j0) (.slice B1 m1 j1) (.slice B2 m2 j2) (.slice B3 c.tables.length j3) t) (fun i _=>E.length - (intOf i).toNat)
 case atStart=>exact ⟨0,c.tables,qP _,rfl,rfl,Ha.out⟩
 case round =>
  obtain ⟨k,t,hk,rfl,ht,hI⟩:=hrel
  by_cases hlt:k<E.length
  ·have hx:E[k]?=some E[k]:=qA hlt
   have hxo:=HE.out k _ t hx ht
   have hsn:E.take (k+1)=E.take k++[E[k]]:=(List.take_append_getElem hlt).symm
   have hdr:E=E.take k++(E[k]::E.drop (k+1)):=by rw [<- qS hlt,uU]
   generalize E[k]=x at hx hxo hsn hdr
   have hs:PRel wr F (.sl (E.map cEd)) (.slice A E.length cp):=Hu.out.keep (fun b hb' _=>hI.kp.block b (HF.out b hb') (not_no _)) (fun b h1 _=>h1)
   obtain ⟨b,off,rfl,c0,c1,c2,c3,c4,c5,c6,c7,c8,c9,c10,c11,c12,c13,c14,c15⟩:=sl_getE hs hx
   obtain ⟨wx,hwx⟩:∃wx,wx=wr.alloc (.cells #[.int .i64 x.sw,.int .i64 x.tab,.int .i64 x.at_,.bool x.gone,.int .i64 x.rule.prio,.int .u64 x.rule.mat.value.hi.toNat,.int .u64 x.rule.mat.value.lo.toNat,.int .u64 x.rule.mat.care.hi.toNat,.int .u64 x.rule.mat.care.lo.toNat,.int .i64 x.rule.act.kind,.int .i64 x.rule.act.port,.int .i64 x.rule.act.table,.int .u64 x.rule.act.set.value.hi.toNat,.int .u64 x.rule.act.set.value.lo.toNat,.int .u64 x.rule.act.set.care.hi.toNat,.int .u64 x.rule.act.set.care.lo.toNat] 63):=⟨_,rfl⟩
   have hb:=hI.box
   have b0:wr.cell? ⟨W2.heap.size,0,none⟩=some (.slice B0 m0 j0):=cell_at hb rfl
   have Hwx:=Lib.hid hwx
   have HI:=Lib.hid hI
   have Ht:=Lib.hid ht
   have Hx:=Lib.hid hx
   have Hxo:=Lib.hid hxo
   have Hsn:=Lib.hid hsn
   have Hdr:=Lib.hid hdr
   have q1:(k:Int)<(E.length:Int):=by omega
   have Hlt:=Lib.hid hlt
   clear hwx hI ht hs hx hxo hsn hdr hlt hb
   go_wp2_with fail
   rw [<- Hwx.out]
   have hl:∀m∈t,∀l∈m,l.length<=1500000000000:=fun m hm l hl=>by
    have:=(HT.out k t hk Ht.out).rules m hm l hl
    rw [reach_eq] at this
    omega
   refine Calls.mono ((HI.out.grow (w2:=wx) (by rw [Hwx.out];exact (Kp.refl No wr).alloc _)).one Hxo.out hl) ?_
   rintro e W4 ⟨rfl,hk4,hr4,hok⟩
   have hres:W4.heap[W.heap.size+1]?=some (.cells #[.slice none 0 0,.int .i64 0,.slice none 0 0,.slice none 0 0,.slice none 0 0] 31 (0,0)):=by
    rw [hr4,Hwx.out,heap_alloc_old _ _ (qI.1 HI.out.res).1]
    exact HI.out.res
   have Hk4:=Lib.hid hk4
   have Hok:=Lib.hid hok
   have Hres:=Lib.hid hres
   have Hkl:=Lib.hid hk
   clear hl hk4 hr4 hok hres c0 c1 c2 c3 c4 c5 c6 c7 c8 c9 c10 c11 c12 c13 c14 c15 b0 q1
   by_cases h0:(oneF t x).1=0
   ·have Hn:=Lib.hid (Hok.out h0)
    have Ht1:=Lib.hid (show applyF c.tables (E.take (k+1))=(0,(oneF t x).2) by
     rw [Hsn.out,applyF_app _ _ _ (by rw [Ht.out]),Ht.out]
     unfold applyF
     rw [if_pos h0]
     rfl)
    have hw:IntKind.i64.wrap ((k:Int)+1)=(k:Int)+1:=by have:=Hlt.out;rw [IntKind.wrap_i64];omega
    rw [h0]
    clear h0
    go_wp2_with fail
    go_roundw
    case rel=>exact ⟨k+1,(oneF t x).2,Hlt.out,by rw [Int.natCast_add];rfl,Ht1.out,Hn.out⟩
    case measure =>
     have:=Hlt.out
     simp only [intOf]
     trace_state
     simp
     omega
   ·have Hr := Lib.hid (show applyF c.tables E = oneF t x by
     rw [Hdr.out,applyF_app _ _ _ (by rw [Ht.out]),Ht.out]
     unfold applyF
     rw [if_neg h0])
    have Hr0:=Lib.hid h0
    have r0:W4.cell? ⟨W.heap.size+1,0,none⟩=some (.slice none 0 0):=cell_at Hres.out rfl
    have r1:W4.cell? ⟨W.heap.size+1,1,none⟩=some (.int .i64 0):=cell_at Hres.out rfl
    have r2:W4.cell? ⟨W.heap.size+1,2,none⟩=some (.slice none 0 0):=cell_at Hres.out rfl
    have r3:W4.cell? ⟨W.heap.size+1,3,none⟩=some (.slice none 0 0):=cell_at Hres.out rfl
    have r4:W4.cell? ⟨W.heap.size+1,4,none⟩=some (.slice none 0 0):=cell_at Hres.out rfl
    have fz:∀j,W4.frozen? ⟨W.heap.size+1,j,none⟩=false:=fun j=>by simp [World.frozen?,Hres.out]
    obtain ⟨e1,he1⟩:∃e1,(oneF t x).1=e1:=⟨_,rfl⟩
    have He1:=Lib.hid he1
    rw [he1] at h0
    simp only [he1]
    clear he1
    clear Hok
    go_wp2_with fail
    have h5:=set5 Hres.out (.slice none 0 0) (.int .i64 0) (.slice none 0 0) (.slice none 0 0) (.slice none 0 0)
    refine bodyPost_ret (apply_ret rfl rfl h5.1 rfl) rfl ⟨_,rfl,?_,?_⟩
    ·exact Hk4.out.trans2 h5.2 fun g hg hb=>absurd hg (by omega)
    ·rw [Hr.out]
     exact He1.out ▸ applyR_err Hr0.out
  ·obtain rfl:k=E.length:=by omega
   rw [uL] at ht
   have hfit:=HT.out E.length t (qJ _) (by rw [uL];exact ht)
   have hb:=hI.box
   have b0:wr.cell? ⟨W2.heap.size,0,none⟩=some (.slice B0 m0 j0):=cell_at hb rfl
   have b1:wr.cell? ⟨W2.heap.size,1,none⟩=some (.int .i64 c.pol.tenants):=cell_at hb rfl
   have b2:wr.cell? ⟨W2.heap.size,2,none⟩=some (.slice B1 m1 j1):=cell_at hb rfl
   have b3:wr.cell? ⟨W2.heap.size,3,none⟩=some (.slice B2 m2 j2):=cell_at hb rfl
   have b4:wr.cell? ⟨W2.heap.size,4,none⟩=some (.slice B3 c.tables.length j3):=cell_at hb rfl
   have HI:=Lib.hid hI
   have Ht:=Lib.hid ht
   have Hfit:=Lib.hid hfit
   clear hI ht hfit hb hlt hk
   go_wp2_with fail
   have hres:=HI.out.res
   obtain ⟨bs2,hT,_,hbs2⟩:=HI.out.top
   have hold:∀b,(F' b\/b∈bs2)->b<wr.heap.size:=fun b hb=>hb.elim (HI.out.hF b) (hT.old b)
   have harg:PRel wr (fun b=>F' b\/b∈bs2) (.agg (cCf { c with tables:=t })) (.agg #[.slice B0 m0 j0,.int .i64 c.pol.tenants,.slice B1 m1 j1,.slice B2 m2 j2,.slice B3 c.tables.length j3]) :=
    cfg_pr (c:={ c with tables:=t }) (HI.out.f1.to fun b hb=>.inl hb) (HI.out.f2.to fun b hb=>.inl hb) (HI.out.f3.to fun b hb=>.inl hb) (hT.pr fun b hb=>.inr hb)
   refine ((d_CClone { c with tables:=t } Hfit.out).calls wr (fun b=>F' b\/b∈bs2) [_] rfl (pw_cons harg pw_nil) hold (layAny _ _)).mono ?_
   rintro e W5 ⟨u,rfl,hk5,hp5⟩
   have hres5:W5.heap[W.heap.size+1]?=some (.cells #[.slice none 0 0,.int .i64 0,.slice none 0 0,.slice none 0 0,.slice none 0 0] 31 (0,0)):=hk5.heap hres (not_no _)
   obtain ⟨C0,p0,l0,C1,p1,l1,C2,p2,l2,C3,p3,l3,rfl⟩:=cfg_form hp5
   have Hbs:=Lib.hid hbs2
   have Hold:=Lib.hid hold
   have Hk5:=Lib.hid hk5
   have Hp5:=Lib.hid hp5
   have Hres5:=Lib.hid hres5
   have r0:W5.cell? ⟨W.heap.size+1,0,none⟩=some (.slice none 0 0):=cell_at hres5 rfl
   have r1:W5.cell? ⟨W.heap.size+1,1,none⟩=some (.int .i64 0):=cell_at hres5 rfl
   have r2:W5.cell? ⟨W.heap.size+1,2,none⟩=some (.slice none 0 0):=cell_at hres5 rfl
   have r3:W5.cell? ⟨W.heap.size+1,3,none⟩=some (.slice none 0 0):=cell_at hres5 rfl
   have r4:W5.cell? ⟨W.heap.size+1,4,none⟩=some (.slice none 0 0):=cell_at hres5 rfl
   have fz:∀j,W5.frozen? ⟨W.heap.size+1,j,none⟩=false:=fun j=>by simp [World.frozen?,hres5]
   clear hres hT hbs2 hold harg hk5 hp5 hres5 b0 b1 b2 b3 b4
   go_wp2_with fail
   have h5:=set5 Hres5.out (.slice C0 p0 l0) (.int .i64 c.pol.tenants) (.slice C1 p1 l1) (.slice C2 p2 l2) (.slice C3 p3 l3)
   refine bodyPost_ret (apply_ret rfl rfl h5.1 rfl) rfl ⟨_,rfl,?_,?_⟩
   ·exact (HI.out.kp.trans Hk5.out).trans2 h5.2 fun g hg hb=>absurd hg (by omega)
   ·rw [Ht.out]
    refine applyR_ok rfl ?_
    have hsz:=HI.out.kp.size
    have hr:=(qI.1 HI.out.res).1
    have h5s:=h5.2.size
    have h5k:=Hk5.out.size
    have hcase:∀b,((F' b\/b∈bs2)\/(wr.heap.size<=b/\b<W5.heap.size))->b<W5.heap.size/\b≠W.heap.size+1/\(F b\/W.heap.size<=b):=fun b hb=>by
     rcases hb with (hb | hb) | hb
     ·have h1:=HI.out.hF b hb
      rcases HFn.out b hb with h | h
      ·have:=HF.out b h
       exact ⟨by omega,by omega,.inl h⟩
      ·exact ⟨by omega,by omega,.inr (by omega)⟩
     ·have h1:=Hold.out b (.inr hb)
      have h2:=Hbs.out b hb
      exact ⟨by omega,h2.2.2.1,.inr h2.1⟩
     ·exact ⟨hb.2,by omega,.inr (by omega)⟩
    refine Hp5.out.keep (fun b hb _=>h5.2.block b (hcase b hb).1 (hcase b hb).2.1) fun b hb h2=>?_
    exact (hcase b hb).2.2.imp id fun h=>⟨h,by have:=(hcase b hb).1;omega⟩
theorem d_Apply (c:Cf) (E:List Ed) (hf:c.Fit) (hE:∀(k:Nat) (x:Ed) (t:Tabs),E[k]?=some x->applyF c.tables (E.take k)=(0,t)->OneQ x t) (hT:∀k t,k<=E.length->applyF c.tables (E.take k)=(0,t)->Cf.Fit { c with tables:=t }):PDoes Tryz.prog 31 [.agg (cCf c),.sl (E.map cEd)] (applyR c (applyF c.tables E)) :=
 PDoes.mk2 ⟨_,_,Tryz.func31,rfl,rfl⟩ fun W F v u hv hu hF=>w_Apply c E hf hE hT W F v u hv hu hF
def Cf.put (c:Cf) (t:Tabs):Cf:=⟨c.topo,c.pol,t⟩
def tryE (c:Cf) (E:List Ed):Int:=if (applyF c.tables E).1=0 then (c.put (applyF c.tables E).2).sound else (applyF c.tables E).1
theorem apply_ok {c:Cf} {E:List Ed} (h:(applyF c.tables E).1=0):applyR c (applyF c.tables E) = .tup [.agg (cCf (c.put (applyF c.tables E).2)),.i .i64 0]:=by
 unfold applyR
 rw [if_pos h,h]
 rfl
theorem m_TryNo (c:Cf) (V:Nat) (k:Kn) (E:List Ed) (hA:PDoes Tryz.prog 31 [.agg (cCf c),.sl (E.map cEd)] (applyR c (applyF c.tables E))) (h:tryE c E=0) (c1:Cf) (hc1:c1=c.put (applyF c.tables E).2) (hL:c1.Lens) (hV:V<=255) (hk:KnOk k) (hn:k.next<=100000000) (he:k.es.length<=500)
  (ht:(turnG c1 V k).2=0) (hv:(overOf c1 (V:Nat) (turnG c1 V k).1.ats).kind≠1) (q:Nat->Option (Nat × Nat)) :
  MDoes Tryz.prog 14 [.own 300 0 0,.sl (E.map cEd)] (gl q [300,301] (lvB c V k)) (.agg (cVd (overOf c1 (V:Nat) (turnG c1 V k).1.ats))) (gl q [300,301] (lvB c V k)):=by
 refine MDoes.of_body Tryz.func14 rfl (by kernel_rfl) rfl rfl ?_
 unfold tryE at h
 have h0:(applyF c.tables E).1=0:=by
  split at h
  ·assumption
  ·assumption
 rw [if_pos h0,<- hc1] at h
 rw [apply_ok h0,<- hc1] at hA
 have hS:=d_CSound c1
 rw [h] at hS
 have hT:=m_turn c c1 V k h hL hV hk hn he
 have hT2:∀q,MDoes Tryz.prog 33 [.own 300 0 0,.agg (cCf c1)] (gl q [300,301] (lvB c V k)) (.tup [knR 302 (turnG c1 V k).1,.i .i64 0]) (gl q [300,301] ((302,⟨0,some (mapQ (turnG c1 V k).1.es (turnG c1 V k).1.clk)⟩)::lvB c V k)):=fun q=>by
  have:=hT q
  rw [knT,knB,qD ht,cond_true,cond_true] at this
  exact this
 clear hT
 have hO:=d_Over c1 (V:Nat) (turnG c1 V k).1.ats (fun h=>looks_any (malE_sound h) hL)
 unfold lvB lvC at hT2 ⊢
 generalize rootC (numL (rlsC c))=rt at hT2 ⊢
 generalize (turnG c1 V k).1=k1 at hT2 hO hv ⊢
 generalize overOf c1 (V:Nat) k1.ats=v at hO hv ⊢
 have h1:decide (v.kind=1)=false:=qF hv
 refine jA ?_
 refine AW.condF rfl ?_
 refine jA ?_
 refine jm hA ?_;refine jH ?_
 refine AW.condT rfl ?_
 refine jA ?_
 refine jc hS ?_
 refine jH ?_
 refine AW.condF rfl ?_
 refine jA ?_
 refine RG.ownN [(300,300),(301,301)] [(302,302),(300,300),(301,301)] hT2 rfl rfl rfl rfl rfl rfl rfl rfl rfl rfl ?_
 refine jH ?_
 refine AW.condF rfl ?_
 refine jA ?_
 refine jm hO ?_
 refine jH ?_
 refine AW.condF (congrArg AV.b h1) ?_
 refine jA ?_
 exact AW.ret (retMA ty_ok rfl rfl (Rm.aggL rfl ⟨⟨Rm.is rfl rfl,rfl⟩,⟨Rm.is rfl rfl,rfl⟩,⟨Rm.is rfl rfl,rfl⟩,⟨Rm.is rfl rfl,rfl⟩,⟨Rm.is rfl rfl,rfl⟩,⟨Rm.is rfl rfl,rfl⟩,⟨Rm.is rfl rfl,rfl⟩,⟨Rm.is rfl rfl,rfl⟩,⟨Rm.is rfl rfl,rfl⟩,⟨Rm.is rfl rfl,rfl⟩,⟨Rm.is rfl rfl,rfl⟩,trivial⟩) ⟨.ghost rfl rfl rfl,.ghost rfl rfl rfl,.boxL rfl jQ rfl,.obj rfl rfl,trivial⟩)
theorem m_TryYes (c:Cf) (V:Nat) (k:Kn) (E:List Ed) (hA:PDoes Tryz.prog 31 [.agg (cCf c),.sl (E.map cEd)] (applyR c (applyF c.tables E))) (h:tryE c E=0) (c1:Cf) (hc1:c1=c.put (applyF c.tables E).2) (hL:c1.Lens) (hV:V<=255) (hk:KnOk k) (hn:k.next<=100000000) (he:k.es.length<=500)
  (ht:(turnG c1 V k).2=0) (hv:(overOf c1 (V:Nat) (turnG c1 V k).1.ats).kind=1) (q:Nat->Option (Nat × Nat)) :
  MDoes Tryz.prog 14 [.own 300 0 0,.sl (E.map cEd)] (gl q [300] (lvB c V k)) (.agg (cVd (overOf c1 (V:Nat) (turnG c1 V k).1.ats))) (gl q [300] [(300,⟨0,some (.box 96 (lvC 302 c1 V (turnG c1 V k).1))⟩),(302,⟨0,some (mapQ (turnG c1 V k).1.es (turnG c1 V k).1.clk)⟩)]):=by
 refine MDoes.of_body Tryz.func14 rfl (by kernel_rfl) rfl rfl ?_
 unfold tryE at h
 have h0:(applyF c.tables E).1=0:=by
  split at h
  ·assumption
  ·assumption
 rw [if_pos h0,<- hc1] at h
 rw [apply_ok h0,<- hc1] at hA
 have hS:=d_CSound c1
 rw [h] at hS
 have hT:=m_turn c c1 V k h hL hV hk hn he
 have hT2:∀q,MDoes Tryz.prog 33 [.own 300 0 0,.agg (cCf c1)] (gl q [300,301] (lvB c V k)) (.tup [knR 302 (turnG c1 V k).1,.i .i64 0]) (gl q [300,301] ((302,⟨0,some (mapQ (turnG c1 V k).1.es (turnG c1 V k).1.clk)⟩)::lvB c V k)):=fun q=>by
  have:=hT q
  rw [knT,knB,qD ht,cond_true,cond_true] at this
  exact this
 clear hT
 have hO:=d_Over c1 (V:Nat) (turnG c1 V k).1.ats (fun h=>looks_any (malE_sound h) hL)
 have hI:=d_indexR c1 h hL
 unfold lvB lvC at hT2 ⊢
 generalize rootC (numL (rlsC c))=rt at hT2 ⊢
 generalize rootC (numL (rlsC c1))=rt1 at hI ⊢
 generalize (turnG c1 V k).1=k1 at hT2 hO hv ⊢
 generalize overOf c1 (V:Nat) k1.ats=v at hO hv ⊢
 have h1:decide (v.kind=1)=true:=qD hv
 refine jA ?_
 refine AW.condF rfl ?_
 refine jA ?_
 refine jm hA ?_;refine jH ?_
 refine AW.condT rfl ?_
 refine jA ?_
 refine jc hS ?_
 refine jH ?_
 refine AW.condF rfl ?_
 refine jA ?_
 refine RG.ownN [(300,300),(301,301)] [(302,302),(300,300),(301,301)] hT2 rfl rfl rfl rfl rfl rfl rfl rfl rfl rfl ?_
 refine jH ?_
 refine AW.condF rfl ?_
 refine jA ?_
 refine jm hO ?_
 refine jH ?_
 refine AW.condT (congrArg AV.b h1) ?_
 refine jA ?_
 refine jm hI ?_
 refine jH ?_
 exact AW.ret (retMA ty_ok rfl rfl (Rm.aggL rfl ⟨⟨Rm.is rfl rfl,rfl⟩,⟨Rm.is rfl rfl,rfl⟩,⟨Rm.is rfl rfl,rfl⟩,⟨Rm.is rfl rfl,rfl⟩,⟨Rm.is rfl rfl,rfl⟩,⟨Rm.is rfl rfl,rfl⟩,⟨Rm.is rfl rfl,rfl⟩,⟨Rm.is rfl rfl,rfl⟩,⟨Rm.is rfl rfl,rfl⟩,⟨Rm.is rfl rfl,rfl⟩,⟨Rm.is rfl rfl,rfl⟩,trivial⟩) ⟨.ghost rfl rfl rfl,.boxL rfl jQ rfl,.obj rfl rfl,trivial⟩)
theorem d_line17:PDoes Tryz.prog 28 [] (.agg (cCf lineC)):=by
 refine jb Tryz.func28 ?_
 refine jB ?_
 refine wF ?_;refine wH rfl ?_;refine jB ?_
 refine wF ?_;refine wH rfl ?_;refine jB ?_
 refine wF ?_;refine wH rfl ?_;refine jB ?_
 refine wF ?_;refine wH rfl ?_;refine jB ?_
 refine wF ?_;refine wH rfl ?_;refine jB ?_
 refine AW.text ?_
 refine RG.runG ty_ok 0 5 rfl ?_
 refine RG.opS rfl (op_buildRef (id:=301) rfl (tk rfl) rfl (tk rfl) rfl (by decide) rfl rfl rfl rfl rfl) rfl ?_
 refine RG.runG ty_ok 0 5 rfl ?_
 refine RG.opS rfl (op_buildRef (id:=302) rfl (tk rfl) rfl (tk rfl) rfl (by decide) rfl rfl rfl rfl rfl) rfl ?_
 refine RG.opS rfl (op_buildRef (id:=300) rfl (tk rfl) rfl (tk rfl) rfl (by decide) rfl rfl rfl rfl rfl) rfl ?_
 refine jH ?_
 refine jR ?_
 rfl
def lnE1:List Ed:=[⟨0,0,1,true,Rl.zero⟩]
def lnE2:List Ed:=[⟨0,0,0,true,Rl.zero⟩]
def lnC1:Cf:=⟨⟨lnPorts⟩,⟨1,[],[]⟩,[[lnR0.take 1],[lnR1]]⟩
def lnC2:Cf:=⟨⟨lnPorts⟩,⟨1,[],[]⟩,[[lnR0.drop 1],[lnR1]]⟩
theorem ap_1:applyF lineC.tables lnE1=(0,lnC1.tables):=by kernel_rfl
theorem ap_2:applyF lineC.tables lnE2=(0,lnC2.tables):=by kernel_rfl
theorem jd_0:judgeG lineC (0:Nat)=vdE 1 0:=by kernel_rfl
theorem tn_1:(turnG lnC1 0 (freshK (askG lineC 0)).1).2=0:=by kernel_rfl
theorem tn_2:(turnG lnC2 0 (freshK (askG lineC 0)).1).2=0:=by kernel_rfl
theorem ov_1:(overOf lnC1 (0:Nat) (turnG lnC1 0 (freshK (askG lineC 0)).1).1.ats).kind=2:=by kernel_rfl
theorem ow_1:(overOf lnC1 (0:Nat) (turnG lnC1 0 (freshK (askG lineC 0)).1).1.ats).why=1:=by kernel_rfl
theorem ov_2:(overOf lnC2 (0:Nat) (turnG lnC2 0 (freshK (askG lineC 0)).1).1.ats).kind=1:=by kernel_rfl
theorem so_1:tryE lineC lnE1=0:=by kernel_rfl
theorem so_2:tryE lineC lnE2=0:=by kernel_rfl
theorem as_0:Nat.ble (askG lineC 0).length 500=true:=by kernel_rfl
def metL (x:Cb) (l:List (Nat × Cb)):List Int:=(l.filter fun e=>x.sound && e.2.meets x).map fun e=>((e.1:Nat):Int)
theorem numL_up (l:List Rl):(numL l).Pairwise fun a b=>a.1<b.1:=by
 unfold numL
 rw [List.pairwise_map]
 refine List.pairwise_iff_getElem.2 fun i j hi hj hij=>?_
 simp only [List.getElem_zipIdx]
 omega
theorem ovL_is (x:Cb) (l:List Rl) (hx:x.sound=true) (hs:∀r∈l,r.mat.sound=true):ovL x (numL l)=metL x (numL l):=by
 unfold ovL metL
 have hf:((numL l).filter fun e=>x.sound && e.2.meets x)=(numL l).filter fun e=>cmpt x 128 e.2:=by
  refine List.filter_congr fun e he=>?_
  have hm:e.2.sound=true:=by
   unfold numL at he
   obtain ⟨y,hy,rfl⟩:=vF.1 he
   have:=List.mem_zipIdx hy
   simp only
   rw [this.2.2]
   exact hs _ (vP _)
  rw [cmpt_meets x e.2 hx hm,hx]
  rfl
 rw [hf]
 have hp:=(List.mergeSort_perm ((gthT x (rootT (numL l)) 128).map fun n=>((n:Nat):Int)) fun a b=>decide (a<=b)).trans ((gth_root x (numL l)).map fun n=>((n:Nat):Int))
 rw [List.map_map] at hp
 have h1:=List.pairwise_mergeSort (le:=fun (a b:Int)=>decide (a<=b)) (fun a b c h1 h2=>by simp only [vK] at *;omega) (fun a b=>by simp only [Bool.or_eq_true,vK];omega) ((gthT x (rootT (numL l)) 128).map fun n=>((n:Nat):Int))
 have h2:(((numL l).filter fun e=>cmpt x 128 e.2).map ((fun n=>((n:Nat):Int)) ∘ fun e=>e.1)).Pairwise fun a b=>decide (a<=b)=true:=by
  rw [List.pairwise_map]
  refine ((numL_up l).filter _).imp fun {a b} h=>?_
  simp only [Function.comp,vK]
  omega
 refine hp.eq_of_pairwise (le:=fun a b=>decide (a<=b)=true) (fun a b _ _ g1 g2=>by simp only [vK] at *;omega) h1 h2
theorem nearF_is (x:Cb) (l:List Rl) (hs:∀r∈l,r.mat.sound=true):nearF x (numL l)=metL x (numL l):=by
 unfold nearF
 cases hx:x.sound
 ·unfold metL
  simp [hx]
 ·exact ovL_is x l hx hs
theorem so_c2:lnC2.sound=0:=by kernel_rfl
theorem nr_2:(nearF Cb.zero (numL (rlsC lnC2))).length=3:=by
 rw [nearF_is _ _ (rls_sound so_c2)]
 kernel_rfl
inductive RnBG (l:List Nat) (σ σ':Sto):Body->Body->Prop where
 | rn {b b':Body} (h:RnB σ σ' b b'):RnBG l σ σ' b b'
 | box {t:TypeId} {cs cs':List AV} (hl:cs'.length=cs.length) (h1:∀(j:Nat) (x:AV),cs'[j]?=some x->x.one=true) (h:∀(j:Nat) (x x':AV),cs[j]?=some x->cs'[j]?=some x'->RnF l σ σ' x x'):RnBG l σ σ' (.box t cs) (.box t cs')
 | nest {t:TypeId} {cs cs':List AV} (hl:cs'.length=cs.length) (h1:∀(j:Nat) (x:AV),cs'[j]?=some x->x.one=true) (h:∀(j:Nat) (x x':AV),cs[j]?=some x->cs'[j]?=some x'->RnF l σ σ' x x'):RnBG l σ σ' (.nest t cs) (.nest t cs')
theorem RnBG.rel {W:World} {F:Nat->Prop} {μ:Mu} {l:List Nat} {σ σ':Sto} (hi:Inv W F μ σ) {bd bd':Body} (hR:RnBG l σ σ' bd bd') {p:Option (Nat × Nat)} (hB:BodyRel W F μ σ p bd):BodyRel W (fun b=>F b\/Beh μ σ l b) μ σ' p bd':=by
 have up:∀{σ:Sto} {bd:Body},BodyRel W F μ σ p bd->BodyRel W (fun b=>F b\/Beh μ σ' l b\/Beh μ σ l b) μ σ p bd->True:=fun _ _=>trivial
 cases hR with
 | rn hR =>
  have h:=hR.rel hB
  cases bd' with
  | box t cs =>
   obtain ⟨b,c,vs,h1,h2,h3,h4⟩:=h
   exact ⟨b,c,vs,h1,h2,h3,fun j x v hj hv=>⟨(h4 j x v hj hv).1,(h4 j x v hj hv).2.toF fun b hb=>.inl hb⟩⟩
  | row t m els =>
   rcases h with h | ⟨b,cap,cur,h1,h2,h3,h4,h5,h6,h7⟩
   ·exact .inl h
   ·exact .inr ⟨b,cap,cur,h1,h2,h3,h4,h5,h6,fun k cs j x hk hj=>by obtain ⟨q1,v,q2,q3⟩:=h7 k cs j x hk hj;exact ⟨q1,v,q2,q3.to fun b hb=>.inl hb⟩⟩
  | ghost id ep q=>exact h
  | obj o=>exact h
  | nest t els =>
   rcases h with h | ⟨b,cap,cur,h1,h2,h3,h4,h5,h6⟩
   ·exact .inl h
   ·exact .inr ⟨b,cap,cur,h1,h2,h3,h4,h5,fun k x hk=>by obtain ⟨q1,v,q2,q3⟩:=h6 k x hk;exact ⟨q1,v,q2,q3.toF fun b hb=>.inl hb⟩⟩
 | @box t cs cs' hl h1 hrn =>
  obtain ⟨b,c,vs,hm,hw,hlv,hv⟩:=hB
  refine ⟨b,c,vs,hm,hw,by rw [hlv,hl],fun j x' v hj hvj=>⟨h1 j x' hj,?_⟩⟩
  obtain ⟨x,hxj⟩:∃x,cs[j]?=some x:=⟨_,qA (by rw [<- hl];exact (qC.1 hj).1)⟩
  exact (hrn j x x' hxj hj).rel hi (hv j x v hxj hvj).2
 | @nest t els els' hl h1 hrn =>
  rcases hB with ⟨hn,rfl⟩ | ⟨b,cap,cur,hp,hh,q1,q2,q3,q4⟩
  ·exact .inl ⟨hn,uA.1 hl⟩
  ·refine .inr ⟨b,cap,cur,hp,hh,by omega,q2,q3,fun k x' hk=>⟨h1 k x' hk,?_⟩⟩
   obtain ⟨x,hx⟩:∃x,els[k]?=some x:=⟨_,qA (by rw [<- hl];exact (qC.1 hk).1)⟩
   obtain ⟨_,v,hv,hr'⟩:=q4 k x hx
   exact ⟨v,hv,(hrn k x x' hx hk).rel hi hr'⟩
theorem freeze_inv {W : World} {F : Nat -> Prop} {μ : Mu} {σ σ' : Sto} (hi : Inv W F μ σ) {l : List Nat} (hB : ∀ id bd', (σ' id).body = some bd' -> ∃ bd, (σ id).body = some bd /\ RnBG l σ σ' bd bd') (hd : ∀ i ∈ l, (σ' i).body = none) :
  Inv W (fun b=>F b\/Beh μ σ l b) μ σ'/\Stq W F μ σ W (fun b=>F b\/Beh μ σ l b) μ σ':=by
 have own:∀x,Own μ σ' x->Own μ σ x/\¬Beh μ σ l x:=fun x ⟨id,ep,bd,c,h1,h2⟩=>by
  obtain ⟨bd0,h3,_⟩:=hB id bd (by rw [h1])
  refine ⟨⟨id,(σ id).ep,bd0,c,by rw [<- h3],h2⟩,fun ⟨id',g1,ep',bd',c',g2,g3⟩=>?_⟩
  have:=hi.inj id id' x c c' (by rw [h3];rfl) (by rw [g2];rfl) h2 g3
  subst this
  have:=hd _ g1
  rw [h1] at this
  cases this
 refine ⟨⟨fun id ep bd hb=>?_,fun x hx=>⟨(hi.apart x (own x hx).1).1,fun hF=>hF.elim (hi.apart x (own x hx).1).2 (own x hx).2⟩,fun id id' x c c' h1 h2=>?_,fun x hx=>hx.elim (hi.old x) fun ⟨id,_,ep,bd,c,h1,h2⟩=>(hi.apart x ⟨id,ep,bd,c,h1,h2⟩).1,hi.lay.go (fun _ h=>.inl h) fun _ _=>rfl⟩,
  Kp.refl _ _,fun _ h=>.inl h,fun x hx=>hx.imp (fun h=>h) fun ⟨id,_,ep,bd,c,h1,h2⟩=>.inl ⟨id,ep,bd,c,h1,h2⟩,fun x hx=>.inl (own x hx).1⟩
 ·obtain ⟨bd0,h3,hR⟩:=hB id bd (by rw [hb])
  exact hR.rel hi (hi.body id (σ id).ep bd0 (by rw [<- h3]))
 ·have g : ∀ id, (σ' id).body.isSome = true -> (σ id).body.isSome = true := fun id hb => by
   obtain ⟨bd',e⟩:=vV.1 hb
   obtain ⟨bd,e',_⟩:=hB id bd' e
   rw [e'];rfl
  exact hi.inj id id' x c c' (g id h1) (g id' h2)
theorem FzL.mk {σ:Sto} {ys:List AV}:∀{xs:List AV},ys.length=xs.length->(∀(j:Nat) (x y:AV),xs[j]?=some x->ys[j]?=some y->∃l,Fz σ x y l/\∀i∈l,1000<=i)->∃l,FzL σ xs ys l/\∀i∈l,1000<=i:=by
 induction ys with
 | nil =>
  intro xs hl _
  obtain rfl:xs=[]:=uA.1 hl.symm
  exact ⟨[],.nil,fun i h=>by cases h⟩
 | cons y ys ih =>
  intro xs hl h
  cases xs with
  | nil=>cases hl
  | cons x xs =>
   obtain ⟨l1,g1,g2⟩:=h 0 x y rfl rfl
   obtain ⟨l2,g3,g4⟩:=ih (xs:=xs) (by simpa using hl) fun j a b ha hb=>h (j+1) a b (by simpa using ha) (by simpa using hb)
   refine ⟨l1++l2,.cons g1 g3,fun i hi=>?_⟩
   rcases vA.1 hi with h | h
   ·exact g2 i h
   ·exact g4 i h
theorem lens_any {c:Cf} (h:(c.tables.all fun t=>t.all fun l=>Nat.ble l.length 10)=true):c.Lens:=by
 intro t ht l hl
 have:=qV (qW.1 (qW.1 h t ht) l hl)
 rw [reach_eq]
 omega
theorem fit_few {c:Cf} (h1:Nat.ble c.topo.ports.length 10=true) (h2:(c.topo.ports.all fun r=>Nat.ble r.length 10)=true) (h3:Nat.ble c.pol.peers.length 10=true) (h4:Nat.ble c.pol.ways.length 10=true) (h5:Nat.ble c.tables.length 10=true) (h6:(c.tables.all fun t=>Nat.ble t.length 10 && t.all fun l=>Nat.ble l.length 10)=true):c.Fit:=by
 have a1:=qV h1
 have a3:=qV h3
 have a4:=qV h4
 have a5:=qV h5
 have hb:=reach_eq
 refine ⟨by omega,fun r hr=>?_,by omega,by omega,by omega,fun t ht=>?_,fun t ht l hl=>?_⟩
 ·have:=qV (qW.1 h2 r hr);omega
 ·have:=qW.1 h6 t ht
  rw [qN] at this
  have:=qV this.1;omega
 ·have:=qW.1 h6 t ht
  rw [qN] at this
  have:=qV (qW.1 this.2 l hl);omega
theorem fit_0:lineC.Fit:=fit_few rfl rfl rfl rfl rfl rfl
theorem fit_1:lnC1.Fit:=fit_few rfl rfl rfl rfl rfl rfl
theorem fit_2:lnC2.Fit:=fit_few rfl rfl rfl rfl rfl rfl
theorem MDoes.frz {P : Program} {f : FuncId} {args args' : List AV} {b0 b0' b1 : List (Nat × SB)} {r : AV} (l : List Nat) (h : MDoes P f args' b0' r b1) (hl : args'.length = args.length) (ha : ∀ (j : Nat) (x x' : AV), args[j]? = some x -> args'[j]? = some x' -> RnF l (lkB b0) (lkB b0') x x')
  (hB:WkB ⟨fun _=>.any,lkB b0⟩ (lkB b0') b0') (hd:(l.all fun i=>(lkB b0' i).body.isNone)=true):MDoes P f args b0 r b1:=by
 refine ⟨h.fn,fun W F μ vs hv hr hi=>?_⟩
 have hb:∀id bd',(lkB b0' id).body=some bd'->∃bd,(lkB b0 id).body=some bd/\RnBG l (lkB b0) (lkB b0') bd bd':=fun id bd' e=>by
  obtain ⟨bd,h1,h2⟩:=wkB_ok hB id bd' e
  exact ⟨bd,h1,.rn h2⟩
 obtain ⟨hi',hs⟩:=freeze_inv hi hb fun i hi2=>by simpa using qW.1 hd i hi2
 refine (h.calls W _ μ vs (hv.trans hl.symm) (fun j x' v hx' hvj=>?_) hi').mono ?_
 ·obtain ⟨x,hx⟩:∃x,args[j]?=some x:=⟨_,qA (by rw [<- hl];exact (qC.1 hx').1)⟩
  exact (ha j x x' hx hx').rel hi (hr j x v hx hvj)
 ·rintro e W' ⟨v,F',μ',e1,e2,e3,e4⟩
  exact ⟨v,F',μ',e1,e2,hs.trans e3,e4⟩
def edB (E:List Ed):List (Nat × SB):=[(200,⟨0,some (.row 63 16 (E.map cEd))⟩)]
theorem m_frzTry {c:Cf} {V:Nat} {k:Kn} {x:Ed} {q:Nat->Option (Nat × Nat)} {r:AV} {b1:List (Nat × SB)} (h:MDoes Tryz.prog 14 [.own 300 0 0,.sl ([x].map cEd)] (gl q [300,301] (lvB c V k)) r b1) :
  MDoes Tryz.prog 14 [.own 300 0 0,.row 200 0 0 1] (gl q [300,301] (lvB c V k++edB [x])) r b1:=by
 unfold lvB lvC at h ⊢
 generalize rootC (numL (rlsC c))=rt at h ⊢
 refine MDoes.frz [200] h rfl (fun j y y' hy hy'=>?_) ⟨.ghost rfl rfl rfl,.ghost rfl rfl rfl,.boxL rfl jQ rfl,.obj rfl rfl,trivial⟩ rfl
 match j,hy,hy' with
 | 0,hy,hy' =>
  obtain rfl:=qB hy
  obtain rfl:=qB hy'
  exact .rn (Rn.ownIs rfl rfl rfl)
 | 1,hy,hy' =>
  obtain rfl:=qB hy
  obtain rfl:=qB hy'
  exact .fzA rfl rfl rfl
theorem m_frzTry1 {c:Cf} {V:Nat} {k:Kn} {x:Ed} {q:Nat->Option (Nat × Nat)} {r:AV} {b1:List (Nat × SB)} (h:MDoes Tryz.prog 14 [.own 300 0 0,.sl ([x].map cEd)] (gl q [300] (lvB c V k)) r b1) :
  MDoes Tryz.prog 14 [.own 300 0 0,.row 200 0 0 1] (gl q [300] (lvB c V k++edB [x])) r b1:=by
 unfold lvB lvC at h ⊢
 generalize rootC (numL (rlsC c))=rt at h ⊢
 refine MDoes.frz [200] h rfl (fun j y y' hy hy'=>?_) ⟨.ghost rfl rfl rfl,.boxL rfl jQ rfl,.obj rfl rfl,trivial⟩ rfl
 match j,hy,hy' with
 | 0,hy,hy' =>
  obtain rfl:=qB hy
  obtain rfl:=qB hy'
  exact .rn (Rn.ownIs rfl rfl rfl)
 | 1,hy,hy' =>
  obtain rfl:=qB hy
  obtain rfl:=qB hy'
  exact .fzA rfl rfl rfl
theorem kn_line:KnOk (freshK (askG lineC 0)).1/\(freshK (askG lineC 0)).1.next<=100000000/\(freshK (askG lineC 0)).1.es.length<=500:=by
 have hl:(askG lineC 0).length<=500:=qV as_0
 have h:=(freshK_ok (askG_sound sound_line 0) (askG_nodup lineC 0) hl).2 (by kernel_rfl)
 exact ⟨h.ok,by show (askG lineC 0).length<=_;omega,by have:=h.len;omega⟩
theorem ed_gone (sw tab at_:Int) (t:Tabs) (l:List Rl) (h:getT t ⟨sw,tab,at_,true,Rl.zero⟩=some l) (h0:0<=at_) (h1:at_<l.length):OneQ ⟨sw,tab,at_,true,Rl.zero⟩ t:=w_oneG _ _ _ h h0 h1 rfl rfl
theorem ap_one {c:Cf} {x:Ed} {t:Tabs} (hf:c.Fit) (hx:OneQ x c.tables) (ha:applyF c.tables [x]=(0,t)) (ht:Cf.Fit { c with tables:=t }):PDoes Tryz.prog 31 [.agg (cCf c),.sl ([x].map cEd)] (applyR c (applyF c.tables [x])) :=
 d_Apply c [x] hf (fun k y u hy hu=>by
  match k,hy with
  | 0,hy =>
   obtain rfl:=qB hy
   obtain rfl:c.tables=u:=congrArg Prod.snd hu
   exact hx) fun k u hk hu=>by
  match k,hk with
  | 0,_ =>
   obtain rfl:c.tables=u:=congrArg Prod.snd hu
   exact hf
  | 1,_ =>
   obtain rfl:t=u:=congrArg Prod.snd (ha.symm.trans hu)
   exact ht
theorem apA:PDoes Tryz.prog 31 [.agg (cCf lineC),.sl (lnE1.map cEd)] (applyR lineC (applyF lineC.tables lnE1)) :=
 ap_one fit_0 (ed_gone 0 0 1 lineC.tables lnR0 rfl (by decide) (by decide)) ap_1 fit_1
theorem apB:PDoes Tryz.prog 31 [.agg (cCf lineC),.sl (lnE2.map cEd)] (applyR lineC (applyF lineC.tables lnE2)) :=
 ap_one fit_0 (ed_gone 0 0 0 lineC.tables lnR0 rfl (by decide) (by decide)) ap_2 fit_2
theorem d_awake17:PDoes Tryz.prog 9 [] (.b true):=by
 refine jb Tryz.func9 ?_
 obtain ⟨hk1,hk2,hk3⟩:=kn_line
 have hN:=m_New lineC 0 (lens_any rfl) fit_0 (by rw [jd_0];rfl)
 rw [jd_0] at hN
 have hT1:=m_TryNo lineC 0 (freshK (askG lineC 0)).1 lnE1 apA so_1 lnC1 (by rw [ap_1];rfl) (lens_any rfl) (by decide) hk1 hk2 hk3 tn_1 (by rw [ov_1];decide)
 have hT2:=m_TryYes lineC 0 (freshK (askG lineC 0)).1 lnE2 apB so_2 lnC2 (by rw [ap_2];rfl) (lens_any rfl) (by decide) hk1 hk2 hk3 tn_2 ov_2
 have o1:=ov_1
 have o2:=ow_1
 have o3:=ov_2
 have hn:=nr_2
 unfold newB at hN
 generalize overOf lnC1 (0:Nat) (turnG lnC1 0 (freshK (askG lineC 0)).1).1.ats=v1 at hT1 o1 o2
 generalize overOf lnC2 (0:Nat) (turnG lnC2 0 (freshK (askG lineC 0)).1).1.ats=v2 at hT2 o3
 generalize (turnG lnC2 0 (freshK (askG lineC 0)).1).1=k2 at hT2
 generalize (freshK (askG lineC 0)).1=k1 at hN hT1 hT2
 have hC:=m_Config lnC2 0 k2 fit_2
 have hR:=m_Near lnC2 0 k2 Cb.zero (by rw [numL_len];exact qV (by kernel_rfl))
 generalize nearF Cb.zero (numL (rlsC lnC2))=ns at hR hn
 obtain ⟨n1,n2,n3,rfl⟩:∃a b d,ns=[a,b,d]:=by
  match ns,hn with
  | [a,b,d],_=>exact ⟨a,b,d,rfl⟩
 have hT1:=fun q=>m_frzTry (hT1 q)
 have hT2:=fun q=>m_frzTry1 (hT2 q)
 unfold edB at hT1 hT2
 unfold lvB lvC at hT1 hC hR
 unfold lvB lvC at hT2
 unfold lvC at hN
 generalize rootC (numL (rlsC lineC))=r0 at hN hT1 hT2
 generalize rootC (numL (rlsC lnC2))=r2 at hT2 hC hR
 obtain ⟨vk1,ve1,vw1,vf1,vh1,vr1⟩:=v1
 obtain ⟨vk2,ve2,vw2,vf2,vh2,vr2⟩:=v2
 obtain rfl:vk1=2:=o1
 obtain rfl:vw1=1:=o2
 obtain rfl:vk2=1:=o3
 refine jA ?_
 refine jm d_line17 ?_
 refine RG.ownN [] [(30,500),(31,501)] hN rfl rfl rfl rfl rfl rfl rfl rfl rfl rfl ?_
 refine jH ?_
 refine AW.condF rfl ?_
 refine jA ?_
 refine RG.ownN [(500,300),(501,301),(19,200)] [(300,500),(301,501)] hT1 rfl rfl rfl rfl rfl rfl rfl rfl rfl rfl ?_
 refine jH ?_
 refine RG.ownN [(500,300),(501,301),(23,200)] [(300,500),(302,502)] hT2 rfl rfl rfl rfl rfl rfl rfl rfl rfl rfl ?_
 refine jH ?_
 refine RG.ownN [(500,300),(502,301)] [(300,500),(301,502)] hC rfl rfl rfl rfl rfl rfl rfl rfl rfl rfl ?_
 refine jH ?_
 have hg0:(lnC2.tables.map cTab)[0]?=some (cTab [lnR0.drop 1]):=rfl
 have hg1:([lnR0.drop 1].map cRls)[0]?=some (cRls (lnR0.drop 1)):=rfl
 refine jx hg0 ?_
 refine wH rfl ?_
 refine jx hg1 ?_
 refine wH rfl ?_
 refine RG.ownN [(500,300),(502,301)] [(300,500),(301,502)] hR rfl rfl rfl rfl rfl rfl rfl rfl rfl rfl ?_
 refine jH ?_
 refine jR ?_
 rfl
theorem d_RInts (a b:List Int) (q:Bool) (hq:decide (a=b)=q) (hal:a.length<=1000000000):PDoes Tryz.prog 12 [.sl (a.map cI),.sl (b.map cI)] (.b q):=by
 refine jb Tryz.func12 ?_
 have hm:a.length<=9223372036854775807:=by omega
 refine jA ?_
 have hlen:((a.map cI).length:Int)=a.length/\((b.map cI).length:Int)=b.length:=by simp
 refine AW.cond rfl (fun h0=>?_) (fun h0=>?_)
 ·have hne : a.length ≠ b.length := fun e => by
   have:¬((a.map cI).length:Int)=((b.map cI).length:Int):=by simpa using h0
   exact this (by rw [hlen.1,hlen.2,e])
  refine jA ?_
  refine jR ?_
  exact congrArg AV.b ((qF fun e:a=b=>hne (congrArg List.length e)).symm.trans hq)
 ·have heq : a.length = b.length := by
   have:((a.map cI).length:Int)=((b.map cI).length:Int):=by simpa using h0
   rw [hlen.1,hlen.2] at this
   omega
  refine jA ?_
  refine AW.loopL (ι:=Nat) (fun k=>[(0,.sl (a.map cI)),(1,.sl (b.map cI)),(5,.i .i64 (k:Nat))]) (fun _=>[]) (fun k=>k<=a.length/\a.take k=b.take k) (fun k=>a.length - k) 0 ⟨qP _,rfl⟩ jW trivial fun k hk=>?_
  obtain ⟨hk,hf⟩:=hk
  refine jA ?_
  refine AW.cond rfl (fun h1=>?_) (fun h1=>?_)
  ·have h:k<a.length:=by simpa using h1
   have h':k<b.length:=by omega
   refine jB ?_
   refine AW.draws mixed_ok ?_
   refine wH rfl ?_
   refine RG.opS rfl (op_index rfl (tk rfl) rfl (tk rfl) rfl rfl (show (a.map cI)[k]?=some (cI a[k]) by rw [qE,qA (by assumption)];rfl) rfl) rfl ?_
   refine wH rfl ?_
   refine RG.opS rfl (op_index rfl (tk rfl) rfl (tk rfl) rfl rfl (show (b.map cI)[k]?=some (cI b[k]) by rw [qE,qA (by assumption)];rfl) rfl) rfl ?_
   refine jH ?_
   refine AW.cond rfl (fun h2=>?_) (fun h2=>?_)
   ·have hne:¬a[k]=b[k]:=by simpa using h2
    refine jA ?_
    refine jR ?_
    exact congrArg AV.b ((qF fun e:a=b=>hne (by subst e;rfl)).symm.trans hq)
   ·have he:a[k]=b[k]:=by simpa using h2
    refine jA ?_
    exact ⟨k+1,⟨⟨h,by rw [take_snoc (qA h),take_snoc (qA h'),hf,he]⟩,by omega⟩,⟨rI rfl rfl,rI rfl rfl,rI (i64_next h hm) rfl,trivial⟩,trivial⟩
  ·have h:¬k<a.length:=by simpa using h1
   obtain rfl:k=a.length:=by omega
   refine jA ?_
   refine jE ?_;refine jA ?_
   refine jA ?_
   refine jR ?_
   rw [uL,heq,uL] at hf
   exact congrArg AV.b ((qD hf).symm.trans hq)
set_option pp.maxSteps 100000
def fitS (a b:ByteArray) (k:Nat):Prop:=∀i (h1:i<a.size) (h2:i<b.size),i<k->a[i]=120\/b[i]=120\/a[i]=b[i]
def OutQ (b0 m n:Nat) (W:World):Prop:=∃cur,W.heap[b0]?=some (.cells cur 5 (m,m+1))/\cur.size=m/\n<=m/\∀j,j<n->∃y:UInt8,cur[j]?=some (.int .u8 (y.toNat:Int))
theorem u8_is (x:UInt8):((x.toNat:Int) == 120)=decide (x=120):=by
 rw [Bool.eq_iff_iff,beq_iff_eq,decide_eq_true_iff]
 constructor
 ·intro h;exact UInt8.toNat_inj.1 (by show x.toNat=120;omega)
 ·rintro rfl;rfl
theorem u8_eq (x y:UInt8):((x.toNat:Int) == (y.toNat:Int))=decide (x=y):=by
 rw [Bool.eq_iff_iff,beq_iff_eq,decide_eq_true_iff]
 constructor
 ·intro h;exact UInt8.toNat_inj.1 (by omega)
 ·rintro rfl;rfl
theorem OutQ.set {b0 m n k:Nat} {W:World} {y:UInt8} (h:OutQ b0 m n W):OutQ b0 m n (W.setCell ⟨b0,k,none⟩ (.int .u8 (y.toNat:Int))):=by
 obtain ⟨cur,h1,h2,h3,h4⟩:=h
 refine ⟨cur.setIfInBounds k (.int .u8 (y.toNat:Int)),set_same h1,by rw [Array.size_setIfInBounds];exact h2,h3,fun j hj=>?_⟩
 by_cases e:k=j
 ·subst e
  exact ⟨y,by rw [Array.getElem?_setIfInBounds_self_of_lt (by omega)]⟩
 ·rw [Array.getElem?_setIfInBounds_ne e]
  exact h4 j hj
theorem fitS.next {a b:ByteArray} {k:Nat} (h:fitS a b k) (h1:k<a.size) (h2:k<b.size) (h3:a[k]=120\/b[k]=120\/a[k]=b[k]):fitS a b (k+1):=fun i g1 g2 hi=>by
 by_cases e:i=k
 ·subst e;exact h3
 ·exact h i g1 g2 (by omega)
theorem OutQ.bytes {b0 m n:Nat} {W:World} (h:OutQ b0 m n W):∃l:List UInt8,l.length=n/\∀j (hj:j<l.length),W.cell? ((⟨b0,0,none⟩:Addr).add j)=some (.int .u8 (l[j].toNat:Int)):=by
 obtain ⟨cur,h1,h2,h3,h4⟩:=h
 refine ⟨(List.range n).map fun j=>if hj:j<n then Classical.choose (h4 j hj) else 0,by simp,fun j hj=>?_⟩
 have hjn:j<n:=by simpa using hj
 rw [Addr.add_lit,vL]
 refine (cell_of_row W _ _ _ _ _ h1).trans ?_
 rw [List.getElem_map,List.getElem_range,dif_pos hjn]
 exact Classical.choose_spec (h4 j hjn)
def MeetQ (a b:ByteArray) (e:Ending):Prop:=∃r q,e = .returned (.tuple #[.string r,.bool q])/\(q=true↔fitS a b a.size)
theorem w_RMeet (a b:ByteArray) (h:a.size<=128) (W:World):Calls Tryz.prog 11 #[.string a,.string b] W fun e W'=>MeetQ a b e/\Kp No W W':=by
 have hcv:=fun (w:World)=>run_bytes_of_string (P:=Tryz.prog) w 9 99 5 a Tryz.underlying9 Tryz.underlying99 Tryz.underlying5
 go_enter Tryz.func11,Tryz.ntmps11
 go_wp2_with fail
 generalize hcap:grownCap W a.size 0 5=cap
 have hm:cap=grownCap W a.size 0 5:=hcap.symm
 obtain ⟨m,hmm⟩:∃m,m=(bytesRow a cap).size:=⟨_,rfl⟩
 have h0:OutQ W.heap.size m a.size (W.alloc (.cells (bytesRow a cap) 5 ((bytesRow a cap).size,(bytesRow a cap).size+1))).drew:=by
  refine ⟨bytesRow a cap,by rw [hmm];exact heap_alloc_new _ _,hmm.symm,?_,fun j hj=>⟨a[j],?_⟩⟩
  ·rw [hmm]
   unfold bytesRow
   rw [Array.size_append,Array.size_map]
   exact Nat.le_add_right _ _
  ·unfold bytesRow
   rw [Array.getElem?_append_left (by rw [Array.size_map];exact hj),Array.getElem?_map,uE hj]
   rfl
 have hk0:Kp No W (W.alloc (.cells (bytesRow a cap) 5 ((bytesRow a cap).size,(bytesRow a cap).size+1))).drew:=((Kp.refl No W).alloc _).drew
 generalize (W.alloc (.cells (bytesRow a cap) 5 ((bytesRow a cap).size,(bytesRow a cap).size+1))).drew=W1 at h0 hk0 ⊢
 clear hcv hmm hm hcap
 go_loopw [7] (fun i wr=>∃k:Nat,k<=a.size/\i = .int .i64 k/\OutQ W.heap.size m a.size wr/\Kp No W wr/\fitS a b k) (fun i _=>a.size - (intOf i).toNat)
 case atStart=>exact ⟨0,qP _,rfl,h0,hk0,fun i _ _ h=>absurd h (uO _)⟩
 case round =>
  obtain ⟨k,hk,rfl,ho,hkp,hf⟩:=hrel
  have Ho:=Lib.hid ho
  have Hkp:=Lib.hid hkp
  have Hf:=Lib.hid hf
  clear ho hkp hf h0 hk0
  rcases Nat.lt_or_ge k a.size with g1 | g1
  ·rcases Nat.lt_or_ge k b.size with g2 | g2
   ·have q1:(k:Int)<(a.size:Int):=by omega
    have q2:(k:Int)<(b.size:Int):=by omega
    obtain ⟨cur,hb,hcs,hnm,hcell⟩:=Ho.out
    obtain ⟨y,hy⟩:=hcell k g1
    have c1:wr.cell? ⟨W.heap.size,k,none⟩=some (.int .u8 (y.toNat:Int)):=(cell_of_row wr _ _ _ _ _ hb).trans hy
    have c2:wr.frozen? ⟨W.heap.size,k,none⟩=false:=by
     simp [World.frozen?,hb]
     omega
    clear hb hcs hnm hcell hy
    by_cases ea:a[k]=120
    ·have t1:((a[k].toNat:Int) == 120)=true:=by rw [u8_is,qD ea]
     have Hn:=Lib.hid (Hf.out.next g1 g2 (.inl ea))
     clear ea
     go_wp2_with fail
     go_roundw
     case rel=>exact ⟨k+1,g1,by rw [Int.natCast_add];rfl,Ho.out.set,Hkp.out.setCell (p:=⟨W.heap.size,k,none⟩) (.inr (qJ _)) _,Hn.out⟩
     case measure =>
      simp only [intOf]
      omega
    ·have t1:((a[k].toNat:Int) == 120)=false:=by rw [u8_is,qF ea]
     go_wp2_with fail
     clear c1 c2
     by_cases eb:b[k]=120
     ·have t2:((b[k].toNat:Int) != 120)=false:=by rw [bne,u8_is,qD eb];rfl
      have Hn:=Lib.hid (Hf.out.next g1 g2 (.inr (.inl eb)))
      clear ea eb
      go_quiet (fail)
      go_wp2_with fail
      go_roundw
      case rel=>exact ⟨k+1,g1,by rw [Int.natCast_add];rfl,Ho.out,Hkp.out.drewN _,Hn.out⟩
      case measure =>
       simp only [intOf]
       omega
     ·have t2:((b[k].toNat:Int) != 120)=true:=by rw [bne,u8_is,qF eb];rfl
      by_cases ec:a[k]=b[k]
      ·have t3:((a[k].toNat:Int) != (b[k].toNat:Int))=false:=by rw [bne,u8_eq,qD ec];rfl
       have Hn:=Lib.hid (Hf.out.next g1 g2 (.inr (.inr ec)))
       clear ea eb ec
       go_quiet (fail)
       go_wp2_with fail
       go_roundw
       case rel=>exact ⟨k+1,g1,by rw [Int.natCast_add];rfl,Ho.out,Hkp.out.drewN _,Hn.out⟩
       case measure =>
        simp only [intOf]
        omega
      ·have t3:((a[k].toNat:Int) != (b[k].toNat:Int))=true:=by rw [bne,u8_eq,qF ec];rfl
       have Hno:=Lib.hid (fun h:fitS a b a.size=>(h k g1 g2 g1).elim ea fun h=>h.elim eb ec)
       clear ea eb ec
       go_quiet (fail)
       go_wp2_with fail
       refine bodyPost_ret (results_tmp2 rfl _ _ _) rfl ?_
       exact ⟨⟨_,_,rfl,fun h=>(by cases h),fun h=>(Hno.out h).elim⟩,Hkp.out.drewN _⟩
   ·have q1:(k:Int)<(a.size:Int):=by omega
    have q2:¬(k:Int)<(b.size:Int):=by omega
    obtain ⟨l,hl,hlc⟩:=Ho.out.bytes
    have hcb:=fun cap=>run_convert_bytes_back (P:=Tryz.prog) wr 99 9 5 ⟨W.heap.size,0,none⟩ cap l Tryz.underlying99 Tryz.underlying5 Tryz.underlying9 hlc
    rw [hl] at hcb
    clear hl hlc
    have Hy:=Lib.hid (fun (i:Nat) (h1:i<a.size) (h2:i<b.size) (_:i<a.size)=>Hf.out i h1 h2 (by omega))
    go_wp2_with fail
    refine bodyPost_ret (results_tmp2 rfl _ _ _) rfl ?_
    exact ⟨⟨_,_,rfl,fun _=>Hy.out,fun _=>rfl⟩,Hkp.out⟩
  ·obtain rfl:k=a.size:=by omega
   obtain ⟨l,hl,hlc⟩:=Ho.out.bytes
   have hcb:=fun cap=>run_convert_bytes_back (P:=Tryz.prog) wr 99 9 5 ⟨W.heap.size,0,none⟩ cap l Tryz.underlying99 Tryz.underlying5 Tryz.underlying9 hlc
   rw [hl] at hcb
   clear hl hlc
   go_wp2_with fail
   refine bodyPost_ret (results_tmp2 rfl _ _ _) rfl ?_
   exact ⟨⟨_,_,rfl,fun _=>Hf.out,fun _=>rfl⟩,Hkp.out⟩
theorem pr_str {W:World} {F:Nat->Prop} {l:List UInt8} {v:Value} (h:PRel W F (.s l) v):v = .string ⟨l.toArray⟩:=by cases h;rfl
theorem d_RMeet (a b:List UInt8) (q:Bool) (ha:a.length<=128) (hq:(q=true)↔fitS ⟨a.toArray⟩ ⟨b.toArray⟩ a.length):PDoes Tryz.prog 11 [.s a,.s b] (.tup [.any,.b q]) :=
 PDoes.mk2 ⟨_,_,Tryz.func11,rfl,rfl⟩ fun W F v u hv hu hF=>by
  obtain rfl:=pr_str hv
  obtain rfl:=pr_str hu
  refine (w_RMeet ⟨a.toArray⟩ ⟨b.toArray⟩ ha W).mono ?_
  rintro e W' ⟨⟨r,p,rfl,hp⟩,hk⟩
  obtain rfl:p=q:=by rw [Bool.eq_iff_iff,hq];exact hp
  refine ⟨_,rfl,hk,.tup _ [_,_] rfl fun j x v hx hv=>?_⟩
  match j,hx,hv with
  | 0,hx,hv =>
   obtain rfl:=qB hx
   exact .any _
  | 1,hx,hv =>
   obtain rfl:=qB hx
   obtain rfl:=qB hv
   exact .b _
theorem text_at (x:Cb) (k:Nat) (h:k<128) (h1:k<(⟨(textOf x).toArray⟩:ByteArray).size):(⟨(textOf x).toArray⟩:ByteArray)[k]'h1=sgn x (127 - k):=by
 have:=textOf_get x k h
 rw [qA (by rw [textOf_len];exact h)] at this
 exact qB this
theorem fit_meet (x t:Cb) (hx:x.sound=true) (ht:t.sound=true):fitS ⟨(textOf x).toArray⟩ ⟨(textOf t).toArray⟩ (textOf x).length↔t.meets x=true:=by
 rw [Cb.meets_iff]
 have sx:=(Cb.sound_iff x).1 hx
 have st:=(Cb.sound_iff t).1 ht
 have key:∀i,(sgn x i=120\/sgn t i=120\/sgn x i=sgn t i)↔((t.value.b i ^^ x.value.b i) && (t.care.b i && x.care.b i))=false:=fun i=>by
  have h1:=sx i
  have h2:=st i
  unfold sgn
  revert h1 h2
  cases x.care.b i <;> cases x.value.b i <;> cases t.care.b i <;> cases t.value.b i <;> decide
 constructor
 ·intro h
  refine ⟨ht,hx,fun i=>?_⟩
  rcases Nat.lt_or_ge i 128 with hi | hi
  ·have hl1:127 - i<(⟨(textOf x).toArray⟩:ByteArray).size:=by show 127 - i<(textOf x).length;rw [textOf_len];omega
   have hl2:127 - i<(⟨(textOf t).toArray⟩:ByteArray).size:=by show 127 - i<(textOf t).length;rw [textOf_len];omega
   have:=h (127 - i) hl1 hl2 hl1
   rw [text_at x _ (by omega),text_at t _ (by omega),show 127 - (127 - i)=i by omega] at this
   exact (key i).1 this
  ·rw [Hd.b_hi _ _ hi,Hd.b_hi _ _ hi]
   rfl
 ·rintro ⟨_,_,h⟩ i h1 h2 hi
  have hi:i<128:=by rw [textOf_len] at hi;exact hi
  rw [text_at x _ hi,text_at t _ hi]
  exact (key _).2 (h _)
def metN (x:Cb):Nat->List Rl->List Int
 | _,[]=>[]
 | n,r::l=>(bif x.sound && r.mat.meets x then [((n:Nat):Int)] else [])++metN x (n+1) l
theorem metN_is (x:Cb):∀(l:List Rl) (n:Nat),metL x ((l.zipIdx n).map fun e=>(e.2,e.1.mat))=metN x n l
 | [],n=>rfl
 | r::l,n=>by
  have ih:=metN_is x l (n+1)
  unfold metL at ih ⊢
  rw [List.zipIdx_cons,vB,List.filter_cons,metN]
  simp only
  cases hc:(x.sound && r.mat.meets x)
  ·simpa using ih
  ·simp only [if_true,vB,cond_true,uW,uT,ih]
theorem metN_len (x:Cb):∀(l:List Rl) (n:Nat),(metN x n l).length<=l.length
 | [],n=>qJ _
 | r::l,n=>by
  have ih:=metN_len x l (n+1)
  rw [metN,qT,qR]
  cases (x.sound && r.mat.meets x)
  ·show 0+_<=_
   omega
  ·show 1+_<=_
   omega
theorem near_want (x:Cb) (c:Cf) (h0:c.sound=0):nearF x (numL (rlsC c))=metN x 0 (rlsC c):=by
 rw [nearF_is x _ (rls_sound h0)]
 exact metN_is x _ 0
def NrQ (x:Cb) (F:List Int) (n:Nat) (out:List Int) (rest:List Rl):Prop:=out++metN x n rest=F/\n+rest.length<=576/\out.length<=n
theorem NrQ.next {x:Cb} {F:List Int} {n:Nat} {out:List Int} {r:Rl} {rest:List Rl} (h:NrQ x F n out (r::rest)):NrQ x F (n+1) (out++(bif x.sound && r.mat.meets x then [((n:Nat):Int)] else [])) rest:=by
 obtain ⟨h1,h2,h3⟩:=h
 rw [metN] at h1
 rw [qR] at h2
 refine ⟨by rw [uI];exact h1,by omega,?_⟩
 rw [qT]
 cases (x.sound && r.mat.meets x)
 ·show _+0<=_
  omega
 ·show _+1<=_
  omega
theorem drop_fl {α:Type} {L:List (List α)} {k:Nat} {x:List α} (h:L[k]?=some x):(L.drop k).flatten=x++(L.drop (k+1)).flatten:=by
 obtain ⟨hk,rfl⟩:=qC.1 h
 rw [qS hk,uJ]
theorem near_meet (x:Cb) (q:Bool) (hx:x.sound=q) (r:Rl) (hr:r.mat.sound=true):PDoes Tryz.prog 11 [.s (bif q then textOf x else []),.s (textOf r.mat)] (.tup [.any,.b (bif q then r.mat.meets x else true)]):=by
 cases q
 ·exact d_RMeet [] (textOf r.mat) true (by decide) ⟨fun _ i h1=>absurd h1 (uO _),fun _=>rfl⟩
 ·exact d_RMeet (textOf x) (textOf r.mat) _ (by rw [textOf_len];exact qJ _) (fit_meet x r.mat hx hr).symm
theorem LiveNear_d (c:Cf) (x:Cb) (hL:c.Lens) (hf:c.Fit):PDoes Tryz.prog 3 [.agg (cCf c),.agg (cCb x)] (.b true):=by
 refine jb Tryz.func3 ?_
 by_cases hj:(judgeG c (0:Nat)).kind=1
 ·have hN:=m_New c 0 hL hf hj
  have h0:c.sound=0:=(judge_admit hj).2.2.1
  have hrl:=rls_len h0 hL
  have hR:=m_Near c 0 (freshK (askG c (0:Nat))).1 x (by rw [numL_len];omega)
  rw [near_want x c h0] at hR
  obtain ⟨F,hF⟩:∃F,F=metN x 0 (rlsC c):=⟨_,rfl⟩
  have hFl:F.length<=576:=by rw [hF];exact vJ (metN_len x _ 0) hrl
  rw [<- hF] at hR
  have hsnd:∀(k:Nat) (t:List (List Rl)) (m:Nat) (l:List Rl) (j:Nat) (r:Rl),c.tables[k]?=some t->t[m]?=some l->l[j]?=some r->r.mat.sound=true:=fun k t m l j r h1 h2 h3 =>
   rls_sound h0 r (by rw [rlsC_eq];exact uN.2 ⟨l,uN.2 ⟨t,qQ h1,qQ h2⟩,qQ h3⟩)
  have hN0:NrQ x F 0 [] ((c.tables.drop 0).flatten.flatten):=⟨by rw [hF,rlsC_eq];rfl,by rw [rlsC_eq] at hrl;rw [vL];exact hrl,qJ _⟩
  have hm1:c.tables.length<=9223372036854775807:=by have:=reach_eq;obtain ⟨_,_,_,_,h,_,_⟩:=hf;omega
  have hL2:∀t∈c.tables,t.length<=9223372036854775807:=fun t ht=>by have:=reach_eq;obtain ⟨_,_,_,_,_,h,_⟩:=hf;have:=h t ht;omega
  have hL3:∀t∈c.tables,∀l∈t,l.length<=9223372036854775807:=fun t ht l hl=>by have:=reach_eq;obtain ⟨_,_,_,_,_,_,h⟩:=hf;have:=h t ht l hl;omega
  clear hF hrl hj h0
  generalize hqx:x.sound=q
  have hM:=near_meet x q hqx
  generalize hsx:(bif q then textOf x else [])=sx at hM
  have hT:PDoes Tryz.prog 10 [.agg (cCb x)] (.tup [.s sx,.b q]):=by rw [<- hsx];exact d_Text x q hqx
  have hJ:∀(n:Nat) (out:List Int) (r:Rl) (rest:List Rl),NrQ x F n out (r::rest)->(q=true->(bif q then r.mat.meets x else true)=true->NrQ x F (n+1) (out++[((n:Nat):Int)]) rest)/\(q=false\/(bif q then r.mat.meets x else true)=false->NrQ x F (n+1) out rest):=fun n out r rest h=>by
   have h:=h.next
   rw [hqx] at h
   cases q
   ·exact ⟨fun e=>absurd e (by decide),fun _=>by simpa using h⟩
   ·rw [uF] at h
    rw [cond_true]
    refine ⟨fun _ e=>by rw [e] at h;exact h,fun e=>?_⟩
    rcases e with e | e
    ·cases e
    ·rw [e] at h
     simpa using h
  clear hqx hsx
  unfold newB at hN
  unfold lvB at hR
  generalize (freshK (askG c (0:Nat))).1=k0 at hN hR
  generalize judgeG c (0:Nat)=v at hN
  obtain ⟨vk,ve,vw,vf,vh,vr⟩:=v
  refine jA ?_
  refine RG.ownN [] [(30,500),(31,501)] hN rfl rfl rfl rfl rfl rfl rfl rfl rfl rfl ?_
  refine jH ?_
  refine jc d_awake17 ?_
  refine jH ?_
  refine AW.condF rfl ?_
  refine jA ?_
  refine jc hT ?_
  refine jH ?_
  refine RG.opS rfl (op_build0 (id:=9) rfl (tk rfl) rfl (tk rfl)) rfl ?_;refine jH ?_
  refine AW.loopL (ι:=Nat × Nat × List Int) (fun i=>[(2,.own 2 0 0),(3,.own 3 0 0),(5,.own 500 0 0),(7,.s sx),(8,.b q),(9,.row 9 0 0 (i.2.2.map cI).length),(10,.i .i64 (i.2.1:Nat)),(11,.i .i64 (i.1:Nat))]) (fun i=>[(2,⟨0,some (.box 31 (cCf c))⟩),(3,⟨0,some (.box 36 (cCb x))⟩),(9,⟨0,some (.row 3 1 (i.2.2.map cI))⟩),(500,⟨0,some (.box 96 (lvC 501 c 0 k0))⟩),(501,⟨0,some (mapQ k0.es k0.clk)⟩)]) (fun i=>i.1<=c.tables.length/\NrQ x F i.2.1 i.2.2 ((c.tables.drop i.1).flatten.flatten)) (fun i=>c.tables.length - i.1) (0,0,[]) ⟨qP _,hN0⟩ jW ⟨bS rfl rfl rfl,bS rfl rfl rfl,bR rfl rfl,.boxL rfl jQ rfl,.obj rfl rfl,trivial⟩ fun i hi=>?_
  obtain ⟨k,n,out⟩:=i
  obtain ⟨hk,hq⟩:=hi
  simp only at hk hq
  refine jA ?_
  refine AW.cond rfl (fun g1=>?_) (fun g1=>?_)
  ·have h:k<c.tables.length:=by simpa using g1
   have ht:c.tables[k]?=some c.tables[k]:=qA h
   rw [drop_fl ht,List.flatten_append] at hq
   have hm2:c.tables[k].length<=9223372036854775807:=hL2 _ (qQ ht)
   have hm3:=fun l hl=>hL3 _ (qQ ht) l hl
   generalize c.tables[k]=t at ht hq hm2 hm3
   generalize hR1:((c.tables.drop (k+1)).flatten).flatten=R1 at hq
   have ht':(c.tables.map cTab)[k]?=some (cTab t):=by rw [qE,ht];rfl
   refine jA ?_
   refine AW.loopL (ι:=Nat × Nat × List Int) (fun i=>[(2,.own 2 0 0),(3,.own 3 0 0),(5,.own 500 0 0),(7,.s sx),(8,.b q),(9,.row 9 0 0 (i.2.2.map cI).length),(10,.i .i64 (i.2.1:Nat)),(11,.i .i64 (k:Nat)),(12,.i .i64 (i.1:Nat))]) (fun i=>[(2,⟨0,some (.box 31 (cCf c))⟩),(3,⟨0,some (.box 36 (cCb x))⟩),(9,⟨0,some (.row 3 1 (i.2.2.map cI))⟩),(500,⟨0,some (.box 96 (lvC 501 c 0 k0))⟩),(501,⟨0,some (mapQ k0.es k0.clk)⟩)]) (fun i=>i.1<=t.length/\NrQ x F i.2.1 i.2.2 ((t.drop i.1).flatten++R1)) (fun i=>t.length - i.1) (0,n,out) ⟨qP _,hq⟩ jW ⟨bS rfl rfl rfl,bS rfl rfl rfl,bR rfl rfl,.boxL rfl jQ rfl,.obj rfl rfl,trivial⟩ fun i hi=>?_
   obtain ⟨m,n,out⟩:=i
   obtain ⟨hk2,hq⟩:=hi
   simp only at hk2 hq
   refine jB ?_
   refine AW.text ?_
   refine wH rfl ?_
   refine jx ht' ?_
   refine jH ?_
   refine AW.cond rfl (fun g2=>?_) (fun g2=>?_)
   ·have h2:m<t.length:=by simpa using g2
    have hl:t[m]?=some t[m]:=qA h2
    rw [drop_fl hl,uI] at hq
    have hm4:t[m].length<=9223372036854775807:=hm3 _ (qQ hl)
    generalize t[m]=l at hl hq hm4
    generalize hR2:(t.drop (m+1)).flatten++R1=R2 at hq
    have hl':(t.map cRls)[m]?=some (cRls l):=by rw [qE,hl];rfl
    refine jA ?_
    refine AW.loopL (ι:=Nat × Nat × List Int) (fun i=>[(2,.own 2 0 0),(3,.own 3 0 0),(5,.own 500 0 0),(7,.s sx),(8,.b q),(9,.row 9 0 0 (i.2.2.map cI).length),(10,.i .i64 (i.2.1:Nat)),(11,.i .i64 (k:Nat)),(12,.i .i64 (m:Nat)),(13,.i .i64 (i.1:Nat))]) (fun i=>[(2,⟨0,some (.box 31 (cCf c))⟩),(3,⟨0,some (.box 36 (cCb x))⟩),(9,⟨0,some (.row 3 1 (i.2.2.map cI))⟩),(500,⟨0,some (.box 96 (lvC 501 c 0 k0))⟩),(501,⟨0,some (mapQ k0.es k0.clk)⟩)]) (fun i=>i.1<=l.length/\NrQ x F i.2.1 i.2.2 (l.drop i.1++R2)) (fun i=>l.length - i.1) (0,n,out) ⟨qP _,hq⟩ jW ⟨bS rfl rfl rfl,bS rfl rfl rfl,bR rfl rfl,.boxL rfl jQ rfl,.obj rfl rfl,trivial⟩ fun i hi=>?_
    obtain ⟨j,n,out⟩:=i
    obtain ⟨hk3,hq⟩:=hi
    simp only at hk3 hq
    refine jB ?_
    refine AW.text ?_
    refine wH rfl ?_
    refine jx ht' ?_
    refine wH rfl ?_
    refine jx hl' ?_
    refine jH ?_
    refine AW.cond rfl (fun g3=>?_) (fun g3=>?_)
    ·have h3:j<l.length:=by simpa using g3
     have hr:l[j]?=some l[j]:=qA h3
     rw [qS h3,uW] at hq
     generalize l[j]=r at hr hq
     have hr':(l.map cRl)[j]?=some (cRl r):=by rw [qE,hr];rfl
     have hs:=hsnd k t m l j r ht hl hr
     have hMr:=hM r hs
     have hJr:=hJ n out r _ hq
     have hn:n<576:=by have:=hq.2.1;rw [qR] at this;omega
     have hol:out.length<=576:=by have:=hq.2.2;omega
     generalize (bif q then r.mat.meets x else true)=p at hMr hJr
     refine jB ?_
     refine AW.text ?_
     refine wH rfl ?_
     refine jx ht' ?_
     refine wH rfl ?_
     refine jx hl' ?_
     refine wH rfl ?_
     refine jx hr' ?_
     refine wH rfl ?_
     refine jc (d_Text r.mat true hs) ?_
     refine jH ?_
     refine jc hMr ?_
     refine jH ?_
     cases q
     ·refine jH ?_
      refine AW.condF rfl ?_
      refine jA ?_
      exact ⟨(j+1,n+1,out),⟨⟨h3,hJr.2 (.inl rfl)⟩,by show l.length - (j+1)<l.length - j;omega⟩,jV,⟨bS rfl rfl rfl,bS rfl rfl rfl,bR rfl rfl,.boxL rfl jQ rfl,.obj rfl rfl,trivial⟩⟩
     ·cases p
      ·refine jH ?_
       refine AW.condF rfl ?_
       refine jA ?_
       exact ⟨(j+1,n+1,out),⟨⟨h3,hJr.2 (.inr rfl)⟩,by show l.length - (j+1)<l.length - j;omega⟩,jV,⟨bS rfl rfl rfl,bS rfl rfl rfl,bR rfl rfl,.boxL rfl jQ rfl,.obj rfl rfl,trivial⟩⟩
      ·refine jH ?_
       refine AW.condT rfl ?_
       refine jA ?_
       refine RG.opS rfl (op_app1 cI out ((n:Nat):Int) (by omega) rfl rfl rfl rfl (tk rfl) rfl (tk rfl) rfl rfl ⟨_,rfl,rfl⟩ rfl rfl) rfl ?_;refine jH ?_
       exact ⟨(j+1,n+1,out++[((n:Nat):Int)]),⟨⟨h3,hJr.1 rfl rfl⟩,by show l.length - (j+1)<l.length - j;omega⟩,jV,⟨bS rfl rfl rfl,bS rfl rfl rfl,bR rfl rfl,.boxL rfl jQ rfl,.obj rfl rfl,trivial⟩⟩
    ·have h3:¬j<l.length:=by simpa using g3
     obtain rfl:j=l.length:=by omega
     rw [vE,uT] at hq
     subst hR2
     refine jA ?_
     refine jE ?_;refine jA ?_
     refine jA ?_
     exact ⟨(m+1,n,out),⟨⟨h2,hq⟩,by show t.length - (m+1)<t.length - m;omega⟩,jV,⟨bS rfl rfl rfl,bS rfl rfl rfl,bR rfl rfl,.boxL rfl jQ rfl,.obj rfl rfl,trivial⟩⟩
   ·have h2:¬m<t.length:=by simpa using g2
    obtain rfl:m=t.length:=by omega
    rw [vE,List.flatten_nil,uT] at hq
    subst hR1
    refine jA ?_
    refine jE ?_;refine jA ?_
    refine jA ?_
    exact ⟨(k+1,n,out),⟨⟨h,hq⟩,by show c.tables.length - (k+1)<c.tables.length - k;omega⟩,jV,⟨bS rfl rfl rfl,bS rfl rfl rfl,bR rfl rfl,.boxL rfl jQ rfl,.obj rfl rfl,trivial⟩⟩
  ·have h:¬k<c.tables.length:=by simpa using g1
   obtain rfl:k=c.tables.length:=by omega
   rw [vE,List.flatten_nil,List.flatten_nil] at hq
   obtain rfl:out=F:=by have:=hq.1;rw [metN,vW] at this;exact this
   refine jA ?_
   refine jE ?_;refine jA ?_
   refine jA ?_
   refine RG.ownN [(500,300),(501,301)] [(300,500),(301,501)] hR rfl rfl rfl rfl rfl rfl rfl rfl rfl rfl ?_
   refine jH ?_
   refine RG.callMS rfl rfl rfl rfl (congrArg (fun z=>[AV.sl (out.map cI),z]) (rowAll rfl)) rfl (d_RInts out out true (qD rfl) (by omega)) rfl ?_
   refine jH ?_
   refine jR ?_
   rfl
 ·have hN:=d_NewNo c 0 hL hj
  generalize judgeG c 0=v at hN
  obtain ⟨vk,ve,vw,vf,vh,vr⟩:=v
  refine jA ?_
  refine jm hN ?_
  refine jH ?_
  refine jc d_awake17 ?_
  refine jH ?_
  refine AW.condT rfl ?_
  refine jA ?_
  refine jc d_awake17 ?_
  refine jH ?_
  refine jR ?_
  rfl
open Go.RowKit Go.WideShapes Go.ChangeShapes Go.Deep
theorem RdZ.sliceB {α:Type} {P:Program} {t e:TypeId} {R:Rep α} {Q:α->Prop} (hR:RdZ P e R Q) (ht:P.underlying t=some (.slice e)) (hn:P.cellsOf e=R.n) (h0:0<R.n) (hb:0<P.bytesOf e):RdZ P t R.slice (fun l=>l.length*P.bytesOf e<=reachBytes/\∀a∈l,Q a):=by
 intro H enc w base spare held fuel cs x hx hz
 rcases open_slice ht hx with ⟨rfl,_⟩ | ⟨a,len,cap,m,n,D,Pl,rfl,_,hlc,hcm,hm,rfl,hel⟩
 ·exact ⟨[],⟨_,rfl,SliceAt.nil _ _ _⟩,by simp,fun a ha=>by cases ha⟩
 ·have hlm:len<=m:=by rw [hm];split <;> omega
  simp only [DataW.weights,ht] at hz
  have hlen:len*P.bytesOf e<=reachBytes:=by
   have h1:=hz _ vH
   rw [qH,List.length_range] at h1
   have h2:len*P.bytesOf e<=(len+(List.map (fun j=>D (len+j)) (List.range (m - len))).length)*P.bytesOf e:=Nat.mul_le_mul_right _ (Nat.le_add_right _ _)
   omega
  have hzi:∀i,i<len->∀k∈(D i).weights P e,k<=reachBytes:=fun i hi k hk=>by
   refine hz k (vG _ (vN _ ?_))
   exact weights_all (qX (uV.2 hi)) k hk
  by_cases hp:0<len
  ·have hspot : a = ⟨a.block, a.off, none⟩ /\ a.block < w.heap.size := by
    obtain ⟨cs',hc,_⟩:=hel 0 (by omega)
    obtain ⟨_,hl,hat⟩:=World.cells?_some hc
    have h1:=hat 0 (by rw [hn];exact h0)
    have e:(a.add (0*P.cellsOf e)).add 0=a:=by simp [Addr.add]
    rw [e,qA (by rw [hl,hn];exact h0)] at h1
    refine ⟨?_,World.block_lt_of_cell? w a h1⟩
    unfold World.cell? at h1
    split at h1
    ·split at h1
     ·cases h1
     ·rename_i hs
      obtain ⟨ab,ao,asp⟩:=a
      cases asp with
      | none=>rfl
      | some k=>simp at hs
    ·cases h1
   obtain ⟨xs,cells,h1,h2,h3⟩:=all2_collect (r:=fun a c=>R.rel w (fun b=>b<w.heap.size) a c/\Q a) (n:=R.n) (fun _ _ h=>R.len h.1) w a.block a.off len fun i hi=>by
    obtain ⟨cs',hc,ht'⟩:=hel i (by omega)
    obtain ⟨y,hy,hq⟩:=hR H enc w base spare held n cs' _ ht' (hzi i hi)
    obtain ⟨_,hl,hat⟩:=World.cells?_some hc
    refine ⟨y,cs',⟨hy,hq⟩,fun j u hu=>?_⟩
    have hj:j<P.cellsOf e:=by have:=(qC.1 hu).1;omega
    have:=hat j hj
    rw [hu,hn,hspot.1] at this
    rw [show ((⟨a.block,a.off,none⟩:Addr).add (i*R.n)).add j=⟨a.block,a.off+(i*R.n+j),none⟩ by
     unfold Addr.add
     by_cases h1:i*R.n=0 <;> by_cases h2:j=0 <;> simp [h1,h2,Nat.add_assoc]] at this
    exact this
   obtain ⟨g1,g2⟩:=all2_and h2
   exact ⟨xs,⟨_,rfl,some a,cap,by rw [h1],by omega,hcm,fun _=>⟨a.block,a.off,by rw [<- hspot.1],hspot.2,hspot.2,cells,g1,h3⟩⟩,by rw [h1];exact hlen,g2⟩
  ·obtain rfl:len=0:=by omega
   exact ⟨[],⟨_,rfl,some a,cap,rfl,qP _,hcm,fun h=>absurd h (Nat.lt_irrefl _)⟩,by simp,fun a ha=>by cases ha⟩
section
variable {P : Program} {t : TypeId}
theorem RdA.sliceB {α:Type} {e:TypeId} {n:Nat} {enc:α->List AV} {Q:α->Prop} (h:RdA P e n enc Q) (ht:P.underlying t=some (.slice e)) (hn:P.cellsOf e=n) (h0:0<n) (hb:0<P.bytesOf e) {S:Nat} (hS:P.bytesOf e=S):RdA P t 1 (fun l:List α=>[.sl (l.map enc)]) (fun l=>l.length*S<=reachBytes/\∀a∈l,Q a):=by
 subst hS
 have E:=(avR_enc h.len h.one).slice h0
 refine ⟨E.len,E.one,fun H e w base spare held fuel cs x hx hz=>?_⟩
 have hR:RdZ P _ (avR n enc h.len h.one) Q:=fun H e w base spare held fuel cs x hx hz=>h.read H e w base spare held fuel cs x hx hz
 obtain ⟨a,ha,hq⟩:=hR.sliceB ht hn h0 hb H e w base spare held fuel cs x hx hz
 exact ⟨a,⟨by rw [(avR n enc h.len h.one).slice.len ha,E.len],fun j y hj=>E.one a y (qQ hj),fun j y v hj hv=>E.to ha j y v hj hv⟩,hq⟩
end
theorem rf_Pts:RdA Tryz.prog 112 1 (fun l:List (Pt)=>[.sl (l.map cPt)]) (fun l=>l.length*40<=reachBytes/\∀a∈l,True):=(RdA.of ra_Pt).sliceB Tryz.underlying112 (by kernel_rfl) (by decide) (qV (by kernel_rfl)) (by kernel_rfl)
theorem rf_Ptss:RdA Tryz.prog 22 1 (fun l:List (List Pt)=>[.sl (l.map cPts)]) (fun l=>l.length*24<=reachBytes/\∀a∈l,a.length*40<=reachBytes/\∀b∈a,True):=rf_Pts.sliceB Tryz.underlying22 (by kernel_rfl) (by decide) (qV (by kernel_rfl)) (by kernel_rfl)
theorem rf_Prs:RdA Tryz.prog 25 1 (fun l:List (Int × Int)=>[.sl (l.map cPr)]) (fun l=>l.length*16<=reachBytes/\∀a∈l,True):=(RdA.of ra_Pr).sliceB Tryz.underlying25 (by kernel_rfl) (by decide) (qV (by kernel_rfl)) (by kernel_rfl)
theorem rf_Wys:RdA Tryz.prog 26 1 (fun l:List (Wy)=>[.sl (l.map cWy)]) (fun l=>l.length*24<=reachBytes/\∀a∈l,True):=(RdA.of ra_Wy).sliceB Tryz.underlying26 (by kernel_rfl) (by decide) (qV (by kernel_rfl)) (by kernel_rfl)
theorem rf_Rls:RdA Tryz.prog 53 1 (fun l:List (Rl)=>[.sl (l.map cRl)]) (fun l=>l.length*96<=reachBytes/\∀a∈l,True):=(RdA.of ra_Rl).sliceB Tryz.underlying53 (by kernel_rfl) (by decide) (qV (by kernel_rfl)) (by kernel_rfl)
theorem rf_Tab:RdA Tryz.prog 52 1 (fun l:List (List Rl)=>[.sl (l.map cRls)]) (fun l=>l.length*24<=reachBytes/\∀a∈l,a.length*96<=reachBytes/\∀b∈a,True):=rf_Rls.sliceB Tryz.underlying52 (by kernel_rfl) (by decide) (qV (by kernel_rfl)) (by kernel_rfl)
theorem rf_Tabs:RdA Tryz.prog 29 1 (fun l:List (List (List Rl))=>[.sl (l.map cTab)]) (fun l=>l.length*24<=reachBytes/\∀a∈l,a.length*24<=reachBytes/\∀b∈a,b.length*96<=reachBytes/\∀c∈b,True):=rf_Tab.sliceB Tryz.underlying29 (by kernel_rfl) (by decide) (qV (by kernel_rfl)) (by kernel_rfl)
theorem rf_Topo:RdA Tryz.prog 24 1 (α:=Topo) cTopo (fun a=>a.ports.length*24<=reachBytes/\∀r∈a.ports,r.length*40<=reachBytes):=by
 refine ⟨fun _=>rfl,fun a=>qW.1 rfl,fun H e w base spare held fuel cs x hx hz=>?_⟩
 obtain ⟨m,hl,hp⟩:=struct_partZ Tryz.underlying24 hx hz
 have hl:cs.length=1:=hl.trans (by kernel_rfl)
 obtain ⟨a0,h0,q0⟩:=rf_Ptss.part (hp 0 22 0 1 rfl (by kernel_rfl))
 exact ⟨⟨a0⟩,PWs.all (h0.join rfl (PWs.nil hl)),q0.1,fun r hr=>(q0.2 r hr).1⟩
theorem rf_Pol:RdA Tryz.prog 28 3 (α:=Pol) cPol (fun a=>a.peers.length*16<=reachBytes/\a.ways.length*24<=reachBytes):=by
 refine ⟨fun _=>rfl,fun a=>qW.1 rfl,fun H e w base spare held fuel cs x hx hz=>?_⟩
 obtain ⟨m,hl,hp⟩:=struct_partZ Tryz.underlying28 hx hz
 have hl:cs.length=3:=hl.trans (by kernel_rfl)
 obtain ⟨a0,h0,_⟩:=(RdA.of ra_int).part (hp 0 3 0 1 rfl (by kernel_rfl))
 obtain ⟨a1,h1,q1⟩:=rf_Prs.part (hp 1 25 1 1 rfl (by kernel_rfl))
 obtain ⟨a2,h2,q2⟩:=rf_Wys.part (hp 2 26 2 1 rfl (by kernel_rfl))
 exact ⟨⟨a0,a1,a2⟩,PWs.all (h0.join rfl (h1.join rfl (h2.join rfl (PWs.nil hl)))),q1.1,q2.1⟩
theorem rf_Cf:RdA Tryz.prog 31 5 (α:=Cf) cCf (fun c=>c.Lens/\c.Fit):=by
 refine ⟨fun _=>rfl,fun a=>qW.1 rfl,fun H e w base spare held fuel cs x hx hz=>?_⟩
 obtain ⟨m,hl,hp⟩:=struct_partZ Tryz.underlying31 hx hz
 have hl:cs.length=5:=hl.trans (by kernel_rfl)
 obtain ⟨a0,h0,q0⟩:=rf_Topo.part (hp 0 24 0 1 rfl (by kernel_rfl))
 obtain ⟨a1,h1,q1⟩:=rf_Pol.part (hp 1 28 1 3 rfl (by kernel_rfl))
 obtain ⟨a2,h2,q2⟩:=rf_Tabs.part (hp 2 29 4 1 rfl (by kernel_rfl))
 refine ⟨⟨a0,a1,a2⟩,PWs.all (h0.join rfl (h1.join rfl (h2.join rfl (PWs.nil hl)))),fun t ht l hl=>?_,⟨q0.1,q0.2,q1.1,q1.2,q2.1,fun t ht=>(q2.2 t ht).1,fun t ht l hl=>((q2.2 t ht).2 l hl).1⟩⟩
 have:=((q2.2 t ht).2 l hl).1
 omega
end Go.Proofs.YtdidjpohnopihaaGreat.Sm
end
section
namespace Go.Proofs.YtdidjpohnopihaaGreat
open Go.RowKit Go.WideShapes Go.ChangeShapes Go.Deep Sm
theorem LiveNear_law {H:Type} {e:TypeId × Value->H} (W:World) (b0:Nat)
  (v0:Value) (d0:DataW H) (p0:List MemPlace) (ok0:Value.okWide Tryz.prog W .any b0 31 v0) (h0:DataW.Trod e Tryz.prog W 0 (fun _=>true) true 31 v0 d0 p0)
  (v1:Value) (d1:DataW H) (p1:List MemPlace) (ok1:Value.okWide Tryz.prog W .any b0 36 v1) (h1:DataW.Trod e Tryz.prog W 0 (fun _=>true) true 36 v1 d1 p1)
  (hsz:(DataW.weightsEach Tryz.prog [31,36] [d0,d1]).all (·<=reachBytes)=true)
  : Calls Tryz.prog 3 #[v0,v1] W fun e W'=>e = .returned (.bool true)/\Kp No W W':=by
 obtain ⟨a0,r0,q0⟩:=rf_Cf.arg_struct Tryz.underlying31 hsz 0 rfl rfl ok0 h0
 obtain ⟨a1,r1⟩:=ra_Cb.arg_struct Tryz.underlying36 ok1 h1
 exact (LiveNear_d a0 a1 q0.1 q0.2).law (vs:=[v0,v1]) rfl (pw_cons r0 (pw_cons r1 (pw_nil)))
end Go.Proofs.YtdidjpohnopihaaGreat
end
