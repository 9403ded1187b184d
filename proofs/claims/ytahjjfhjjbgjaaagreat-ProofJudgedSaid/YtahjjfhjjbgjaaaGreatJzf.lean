/- Contracts of the program's functions over data, and the plain laws that they meet (part 6). No condition. -/
import Derived.Test.YtahjjfhjjbgjaaaGreatJze
import Derived.WalkKit
import Derived.WalkSpells
import Derived.WalkLawsBesides
import Derived.Lib.Hide
import Derived.Deep.RegionHeld3
import Derived.Maps.AppendAt
import Derived.KernelRfl
import Derived.Lib.AppendStr
import Derived.Orders
import Derived.LoopTactic
import Derived.Laws.CopyRow
import Derived.Laws.Cells
import Derived.Great.BuildSlice
import Derived.Laws.ResultCell
import Derived.Laws.StructEq
import Derived.Laws.MakeOwn
import Derived.Deep.Slices
import Derived.Deep.Fields
import Derived.ChangeSame
import Derived.ProofKit
import Derived.OpenShut
import Derived.SizedLaws
import Derived.Test.YtahjjfhjjbgjaaaGreatProg
import Derived.Shelf.Spec.BitsCarry
import Derived.Lib.AppendZerosOnto
import Derived.DeepKeys4
import Derived.MapKept
import Derived.Sort.AssemblyPlain
import Derived.Sort.LotD4
import Derived.Sort.Walk13a
set_option linter.unusedVariables false
set_option linter.unusedSimpArgs false
set_option maxRecDepth 100000
set_option maxHeartbeats 4000000
section
namespace Go.Proofs.YtahjjfhjjbgjaaaGreat.Sm
open Go.RowKit Go.WideShapes Go.ChangeShapes Go.Deep
section
variable {H : Type} {P : Program}
theorem weights_all {e:TypeId}:∀{ds:List (DataW H)} {d:DataW H},d∈ds→∀n∈d.weights P e,n∈DataW.weightsAll P e ds
 | d0::ds,d,hd,n,hn=>by
  simp only [DataW.weightsAll,List.mem_append]
  rcases List.mem_cons.1 hd with rfl | hd
  ·exact .inl hn
  ·exact .inr (weights_all hd n hn)
end
def RdZ {α:Type} (P:Program) (t:TypeId) (R:Rep α) (Q:α→Prop):Prop :=
 ∀(H:Type) (enc:TypeId × Value→H) (w:World) (base:Nat) (spare:Nat→Bool) (held:Bool) (fuel:Nat) (cs:List Value) (x:DataW H × List MemPlace),
  DataW.trod enc P w base spare held fuel t cs=some x→(∀k∈x.1.weights P t,k≤reachBytes)→∃a:α,R.rel w (fun b=>b<w.heap.size) a cs∧Q a
theorem all2_and {α:Type} {r:α→List Value→Prop} {Q:α→Prop}:∀{xs:List α} {cs:List Value},All2 (fun a c=>r a c∧Q a) xs cs→All2 r xs cs∧∀a∈xs,Q a
 | [],cs,h=>⟨h,fun a ha=>by cases ha⟩
 | x::xs,cs,⟨c1,c2,h1,h2,h3⟩=>by
  obtain ⟨g1,g2⟩:=all2_and h3
  refine ⟨⟨c1,c2,h1,h2.1,g1⟩,fun a ha=>?_⟩
  rcases List.mem_cons.1 ha with rfl | ha
  ·exact h2.2
  ·exact g2 a ha
theorem RdZ.slice {α:Type} {P:Program} {t e:TypeId} {R:Rep α} {Q:α→Prop} (hR:RdZ P e R Q) (ht:P.underlying t=some (.slice e)) (hn:P.cellsOf e=R.n) (h0:0<R.n) (hb:0<P.bytesOf e):RdZ P t R.slice (fun l=>l.length≤reachBytes∧∀a∈l,Q a):=by
  intro H enc w base spare held fuel cs x hx hz
  rcases open_slice ht hx with ⟨rfl,_⟩ | ⟨a,len,cap,m,n,D,Pl,rfl,_,hlc,hcm,hm,rfl,hel⟩
  · exact ⟨[],⟨_,rfl,SliceAt.nil _ _ _⟩,Nat.zero_le _,fun a ha=>by cases ha⟩
  · have hlm:len≤m:=by rw [hm];split <;> omega
    simp only [DataW.weights,ht] at hz
    have hlen:len≤reachBytes:=by
      have h1:=hz _ List.mem_cons_self
      rw [List.length_map,List.length_range] at h1
      have h2:len*1≤(len+(List.map (fun j=>D (len+j)) (List.range (m - len))).length)*P.bytesOf e:=Nat.mul_le_mul (Nat.le_add_right _ _) hb
      omega
    have hzi:∀i,i<len→∀k∈(D i).weights P e,k≤reachBytes:=fun i hi k hk=>by
      refine hz k (List.mem_cons_of_mem _ (List.mem_append_left _ ?_))
      exact weights_all (List.mem_map_of_mem (List.mem_range.2 hi)) k hk
    by_cases hp:0<len
    · have hspot : a = ⟨a.block, a.off, none⟩ ∧ a.block < w.heap.size := by
        obtain ⟨cs',hc,_⟩:=hel 0 (by omega)
        obtain ⟨_,hl,hat⟩:=World.cells?_some hc
        have h1:=hat 0 (by rw [hn];exact h0)
        have e:(a.add (0*P.cellsOf e)).add 0=a:=by simp [Addr.add]
        rw [e,List.getElem?_eq_getElem (by rw [hl,hn];exact h0)] at h1
        refine ⟨?_,World.block_lt_of_cell? w a h1⟩
        unfold World.cell? at h1
        split at h1
        · split at h1
          · cases h1
          · rename_i hs
            obtain ⟨ab,ao,asp⟩:=a
            cases asp with
            | none=>rfl
            | some k=>simp at hs
        · cases h1
      obtain ⟨xs,cells,h1,h2,h3⟩:=all2_collect (r:=fun a c=>R.rel w (fun b=>b<w.heap.size) a c∧Q a) (n:=R.n) (fun _ _ h=>R.len h.1) w a.block a.off len fun i hi=>by
        obtain ⟨cs',hc,ht'⟩:=hel i (by omega)
        obtain ⟨y,hy,hq⟩:=hR H enc w base spare held n cs' _ ht' (hzi i hi)
        obtain ⟨_,hl,hat⟩:=World.cells?_some hc
        refine ⟨y,cs',⟨hy,hq⟩,fun j u hu=>?_⟩
        have hj:j<P.cellsOf e:=by have:=(List.getElem?_eq_some_iff.1 hu).1;omega
        have:=hat j hj
        rw [hu,hn,hspot.1] at this
        rw [show ((⟨a.block,a.off,none⟩:Addr).add (i*R.n)).add j=⟨a.block,a.off+(i*R.n+j),none⟩ by
          unfold Addr.add
          by_cases h1:i*R.n=0 <;> by_cases h2:j=0 <;> simp [h1,h2,Nat.add_assoc]] at this
        exact this
      obtain ⟨g1,g2⟩:=all2_and h2
      exact ⟨xs,⟨_,rfl,some a,cap,by rw [h1],by omega,hcm,fun _=>⟨a.block,a.off,by rw [← hspot.1],hspot.2,hspot.2,cells,g1,h3⟩⟩,by rw [h1];exact hlen,g2⟩
    · obtain rfl:len=0:=by omega
      exact ⟨[],⟨_,rfl,some a,cap,rfl,Nat.zero_le _,hcm,fun h=>absurd h (Nat.lt_irrefl _)⟩,Nat.zero_le _,fun a ha=>by cases ha⟩
structure RdA {α:Type} (P:Program) (t:TypeId) (n:Nat) (enc:α→List AV) (Q:α→Prop):Prop where
 len:∀a,(enc a).length=n
 one:∀a,∀y∈enc a,y.one=true
 read:∀(H:Type) (e:TypeId × Value→H) (w:World) (base:Nat) (spare:Nat→Bool) (held:Bool) (fuel:Nat) (cs:List Value) (x:DataW H × List MemPlace),
  DataW.trod e P w base spare held fuel t cs=some x→(∀k∈x.1.weights P t,k≤reachBytes)→∃a:α,PWs w (fun b=>b<w.heap.size) (enc a) cs∧Q a
section
variable {P : Program} {t : TypeId}
theorem RdA.of {α:Type} {n:Nat} {enc:α→List AV} (h:ReadA P t n enc):RdA P t n enc (fun _=>True):=⟨h.len,h.one,fun H e w base spare held fuel cs x hx _=>by
 obtain ⟨a,ha⟩:=h.read H e w base spare held fuel cs x hx
 exact ⟨a,ha,trivial⟩⟩
theorem RdA.slice {α:Type} {e:TypeId} {n:Nat} {enc:α→List AV} {Q:α→Prop} (h:RdA P e n enc Q) (ht:P.underlying t=some (.slice e)) (hn:P.cellsOf e=n) (h0:0<n) (hb:0<P.bytesOf e):RdA P t 1 (fun l:List α=>[.sl (l.map enc)]) (fun l=>l.length≤reachBytes∧∀a∈l,Q a):=by
 have E:=(avR_enc h.len h.one).slice h0
 refine ⟨E.len,E.one,fun H e w base spare held fuel cs x hx hz=>?_⟩
 have hR:RdZ P _ (avR n enc h.len h.one) Q:=fun H e w base spare held fuel cs x hx hz=>h.read H e w base spare held fuel cs x hx hz
 obtain ⟨a,ha,hq⟩:=hR.slice ht hn h0 hb H e w base spare held fuel cs x hx hz
 exact ⟨a,⟨by rw [(avR n enc h.len h.one).slice.len ha,E.len],fun j y hj=>E.one a y (List.mem_of_getElem? hj),fun j y v hj hv=>E.to ha j y v hj hv⟩,hq⟩
theorem RdA.part {α:Type} {ty n off:Nat} {enc:α→List AV} {Q:α→Prop} (h:RdA P ty n enc Q) {H:Type} {e:TypeId × Value→H} {w:World} {base:Nat} {spare:Nat→Bool} {held:Bool} {cs:List Value} {m:Nat}
  (hp:∃y,DataW.trod e P w base spare held m ty ((cs.drop off).take n)=some y∧∀k∈y.1.weights P ty,k≤reachBytes):∃a:α,PWs w (fun b=>b<w.heap.size) (enc a) ((cs.drop off).take n)∧Q a:=by
 obtain ⟨y,hy,hz⟩:=hp
 exact h.read H e w base spare held m _ y hy hz
theorem struct_partZ {fs:Array Field} (ht:P.underlying t=some (.struct fs)) {H:Type} {enc:TypeId × Value→H} {w:World} {base:Nat} {spare:Nat→Bool} {held:Bool} {fuel:Nat} {cs:List Value} {x:DataW H × List MemPlace}
  (hx:DataW.trod enc P w base spare held fuel t cs=some x) (hz:∀k∈x.1.weights P t,k≤reachBytes):∃m,cs.length=P.cellsOf t∧∀(j ty off n:Nat),(fs[j]?).map (fun f=>(f.type,f.offset))=some (ty,off)→P.cellsOf ty=n →
   ∃y,DataW.trod enc P w base spare held m ty ((cs.drop off).take n)=some y∧∀k∈y.1.weights P ty,k≤reachBytes:=by
 obtain ⟨xs,n,_,rfl,hl,hxs,hf⟩:=DataW.trod_struct ht hx
 simp only [DataW.weights,ht] at hz
 refine ⟨n,hl,fun j ty off k hj hk=>?_⟩
 cases hfj:fs[j]? with
 | none=>rw [hfj] at hj;cases hj
 | some f =>
  rw [hfj] at hj
  simp only [Option.map_some,Option.some.injEq,Prod.mk.injEq] at hj
  have h:=hf j f hfj
  rw [hj.1,hj.2,hk] at h
  have hlt:j<xs.length:=by rw [hxs];exact (Array.getElem?_eq_some_iff.1 hfj).1
  refine ⟨xs[j],by rw [h,List.getElem?_eq_getElem hlt],fun n' hn'=>hz n' ?_⟩
  refine DataW.weights_mem_each (j:=j) (t:=ty) (d:=xs[j].1) ?_ ?_ n' hn'
  ·rw [List.getElem?_map,Array.getElem?_toList,hfj,Option.map_some,hj.1]
  ·rw [List.getElem?_map,List.getElem?_eq_getElem hlt];rfl
variable {H : Type} {e : TypeId × Value → H} {W : World} {base b0 : Nat} {spare : Nat → Bool} {held : Bool} {v : Value} {d : DataW H} {p : List MemPlace}
theorem RdA.arg_struct {α:Type} {n:Nat} {enc:α→List AV} {Q:α→Prop} (h:RdA P t n enc Q) {fs:Array Field} (ht:P.underlying t=some (.struct fs)) {ts:List TypeId} {ds:List (DataW H)} (hsz:(DataW.weightsEach P ts ds).all (·≤reachBytes)=true) (j:Nat) (hj:ts[j]?=some t) (hdj:ds[j]?=some d) (ho:Value.okWide P W .any b0 t v) (hd:DataW.Trod e P W base spare held t v d p) :
  ∃a:α,PRel W (fun b=>b<W.heap.size) (.agg (enc a)) v∧Q a:=by
 obtain ⟨cs,rfl,hs⟩:=okWide_struct ht ho
 obtain ⟨fuel,hf⟩:=hd
 obtain ⟨a,ha,hq⟩:=h.read H e W base spare held fuel _ _ hf fun k hk=>by
  have:=List.all_eq_true.1 hsz _ (DataW.weights_mem_each hj hdj k hk)
  simpa using this
 have hc:(Value.cells (.agg cs)).toList=cs.toList:=by simp [Value.cells]
 rw [hc] at ha
 refine ⟨a,?_,hq⟩
 have:=PRel.agg (W:=W) (F:=fun b=>b<W.heap.size) (enc a) cs.toList ha.len ha.one ha.rel
 simpa using this
end
def Cf.Lens (c:Cf):Prop:=∀t∈c.tables,∀l∈t,l.length≤reachBytes
theorem rz_Rls:RdA Tryz.prog 58 1 (fun l:List (Rl)=>[.sl (l.map cRl)]) (fun l=>l.length≤reachBytes∧∀a∈l,True):=(RdA.of ra_Rl).slice Tryz.underlying58 (by kernel_rfl) (by decide) (Nat.le_of_ble_eq_true (by kernel_rfl))
theorem rz_Tab:RdA Tryz.prog 57 1 (fun l:List (List Rl)=>[.sl (l.map cRls)]) (fun l=>l.length≤reachBytes∧∀a∈l,a.length≤reachBytes∧∀b∈a,True):=rz_Rls.slice Tryz.underlying57 (by kernel_rfl) (by decide) (Nat.le_of_ble_eq_true (by kernel_rfl))
theorem rz_Tabs:RdA Tryz.prog 29 1 (fun l:List (List (List Rl))=>[.sl (l.map cTab)]) (fun l=>l.length≤reachBytes∧∀a∈l,a.length≤reachBytes∧∀b∈a,b.length≤reachBytes∧∀c∈b,True):=rz_Tab.slice Tryz.underlying29 (by kernel_rfl) (by decide) (Nat.le_of_ble_eq_true (by kernel_rfl))
theorem rz_Cf:RdA Tryz.prog 31 5 (α:=Cf) cCf Cf.Lens:=by
 refine ⟨fun _=>rfl,fun a=>List.all_eq_true.1 rfl,fun H e w base spare held fuel cs x hx hz=>?_⟩
 obtain ⟨m,hl,hp⟩:=struct_partZ Tryz.underlying31 hx hz
 have hl:cs.length=5:=hl.trans (by kernel_rfl)
 obtain ⟨a0,h0,_⟩:=(RdA.of ra_Topo).part (hp 0 24 0 1 rfl (by kernel_rfl))
 obtain ⟨a1,h1,_⟩:=(RdA.of ra_Pol).part (hp 1 28 1 3 rfl (by kernel_rfl))
 obtain ⟨a2,h2,q2⟩:=rz_Tabs.part (hp 2 29 4 1 rfl (by kernel_rfl))
 refine ⟨⟨a0,a1,a2⟩,PWs.all ?_,fun t ht l hl=>((q2.2 t ht).2 l hl).1⟩
 exact h0.join rfl (h1.join rfl (h2.join rfl (PWs.nil hl)))
end Go.Proofs.YtahjjfhjjbgjaaaGreat.Sm
end
section
namespace Go.Proofs.YtahjjfhjjbgjaaaGreat.Sm
open Go.RowKit
def lnCube:Cb:=⟨⟨0,1⟩,⟨0,1⟩⟩
def lnDrop:Rl:=⟨0,Cb.zero,⟨1,0,0,Cb.zero⟩⟩
def lnR0:List Rl:=[⟨1,lnCube,⟨3,1,0,Cb.zero⟩⟩,lnDrop]
def lnR1:List Rl:=[⟨1,lnCube,⟨2,1,0,Cb.zero⟩⟩,lnDrop]
def lnPorts:List (List Pt):=[[⟨1,0,0,0,0⟩,⟨2,0,1,0,1⟩],[⟨2,0,0,1,1⟩,⟨1,0,0,0,0⟩]]
def lineC:Cf:=⟨⟨lnPorts⟩,⟨1,[],[]⟩,[[lnR0],[lnR1]]⟩
def lnB:List (Nat × SB):=[(300,⟨0,some (.box 57 [.ref 301 0 (.sl 0 1 1),.ref 302 0 (.sl 0 1 1)])⟩),(301,⟨0,some (.box 58 [.row 24 0 0 2])⟩),(302,⟨0,some (.box 58 [.row 30 0 0 2])⟩),(24,⟨0,some (.row 54 12 (lnR0.map cRl))⟩),(30,⟨0,some (.row 54 12 (lnR1.map cRl))⟩),(12,⟨0,some (.row 111 1 (lnPorts.map cPts))⟩)]
def lnV:AV:=.agg [.row 12 0 0 2,.i .i64 1,.sl [],.sl [],.ref 300 0 (.sl 0 2 2)]
def RmL (π:List (Nat × Nat)) (σ σ':Sto):List AV→List AV→Prop
 | [],[]=>True
 | x::xs,y::ys=>(Rm π σ σ' x y∧y.one=true)∧RmL π σ σ' xs ys
 | _,_=>False
theorem RmL.ok {π:List (Nat × Nat)} {σ σ':Sto}:∀{xs ys:List AV},RmL π σ σ' xs ys→ys.length=xs.length∧∀(j:Nat) (x y:AV),xs[j]?=some x→ys[j]?=some y→Rm π σ σ' x y∧y.one=true
 | [],[],_=>⟨rfl,fun j x y h=>by simp at h⟩
 | x::xs,y::ys,h=>by
  obtain ⟨h1,h2⟩:=h
  obtain ⟨g1,g2⟩:=RmL.ok h2
  refine ⟨by rw [List.length_cons,List.length_cons,g1],fun j a b ha hb=>?_⟩
  cases j with
  | zero =>
   obtain rfl:x=a:=by simpa using ha
   obtain rfl:y=b:=by simpa using hb
   exact h1
  | succ j=>exact g2 j a b (by simpa using ha) (by simpa using hb)
 | [],y::ys,h=>h.elim
 | x::xs,[],h=>h.elim
theorem Rm.aggL {π:List (Nat × Nat)} {σ σ':Sto} {z:AV} {xs ys:List AV} (e:z = .agg xs) (h:RmL π σ σ' xs ys):Rm π σ σ' z (.agg ys):=by
 subst e
 obtain ⟨g1,g2⟩:=h.ok
 refine .agg g1 (fun j y hy=>?_) fun j x y hx hy=>(g2 j x y hx hy).1
 obtain ⟨x,hx⟩:∃x,xs[j]?=some x:=⟨_,List.getElem?_eq_getElem (by rw [← g1];exact (List.getElem?_eq_some_iff.1 hy).1)⟩
 exact (g2 j x y hx hy).2
theorem Rm.refIs {π:List (Nat × Nat)} {σ σ':Sto} {x:AV} {id id' ep ep':Nat} {k:RK} {bd bd':Body} (e:x = .ref id ep k) (hm:lkP π id=some id') (h:σ id=⟨ep,some bd⟩) (h':σ' id'=⟨ep',some bd'⟩):Rm π σ σ' x (.ref id' ep' k):=e ▸ .ref (lkP_ok hm) h h'
theorem m_line16 (q:Nat→Option (Nat × Nat)):MDoes Tryz.prog 88 [] (gl q [] []) lnV (gl q [] lnB):=by
 refine MDoes.of_body Tryz.func88 rfl (by kernel_rfl) rfl rfl ?_
 (repeat first|apply wA|apply wB|apply wC|apply wE|(apply zM;·kernel_rfl))
 refine wF ?_;refine wH rfl ?_;(repeat first|apply wA|apply wB|apply wC|apply wE|(apply zM;·kernel_rfl))
 refine wF ?_;refine wH rfl ?_;(repeat first|apply wA|apply wB|apply wC|apply wE|(apply zM;·kernel_rfl))
 refine wF ?_;refine wH rfl ?_;(repeat first|apply wA|apply wB|apply wC|apply wE|(apply zM;·kernel_rfl))
 refine wF ?_;refine wH rfl ?_;(repeat first|apply wA|apply wB|apply wC|apply wE|(apply zM;·kernel_rfl))
 refine wF ?_;refine wH rfl ?_;(repeat first|apply wA|apply wB|apply wC|apply wE|(apply zM;·kernel_rfl))
 refine AW.text ?_
 refine RG.runG ty_ok 0 5 rfl ?_
 refine RG.opS rfl (op_buildRef (id:=301) rfl (tab_ok ty_ok rfl) rfl (tab_ok ty_ok rfl) rfl (by decide) rfl rfl rfl rfl rfl) rfl ?_
 refine RG.runG ty_ok 0 5 rfl ?_
 refine RG.opS rfl (op_buildRef (id:=302) rfl (tab_ok ty_ok rfl) rfl (tab_ok ty_ok rfl) rfl (by decide) rfl rfl rfl rfl rfl) rfl ?_
 refine RG.opS rfl (op_buildRef (id:=300) rfl (tab_ok ty_ok rfl) rfl (tab_ok ty_ok rfl) rfl (by decide) rfl rfl rfl rfl rfl) rfl ?_
 refine wH rfl ?_;(repeat first|apply wA|apply wB|apply wC|apply wE|(apply zM;·kernel_rfl)|refine zI rfl ?_|refine zJ rfl ?_)
 refine AW.ret (retMA ty_ok rfl rfl (Rm.aggL rfl ⟨⟨Rm.rowIs rfl rfl rfl rfl,rfl⟩,⟨Rm.is rfl rfl,rfl⟩,⟨.nil,rfl⟩,⟨.nil,rfl⟩,⟨Rm.refIs rfl rfl rfl rfl,rfl⟩,trivial⟩) ⟨.boxL rfl ⟨Rn.refIs rfl rfl rfl,Rn.refIs rfl rfl rfl,trivial⟩ rfl,.boxL rfl ⟨Rn.rowIs rfl rfl rfl,trivial⟩ rfl,.boxL rfl ⟨Rn.rowIs rfl rfl rfl,trivial⟩ rfl,.row rfl rfl,.row rfl rfl,.row rfl rfl,trivial⟩)
end Go.Proofs.YtahjjfhjjbgjaaaGreat.Sm
end
section
namespace Go.Proofs.YtahjjfhjjbgjaaaGreat.Sm
open Go.RowKit
theorem looks_of {c:Cf} (h:∀tb∈c.tables,∀l∈tb,Falls l∧l.length≤12):LooksOk c:=by
 intro n t
 have h0:LookOk []:=look_falls (fun k x y h=>by simp at h) (Nat.zero_le _)
 rw [tabOf,List.getD_eq_getElem?_getD,List.getD_eq_getElem?_getD]
 cases h1:c.tables[n]? with
 | none=>exact h0
 | some tb =>
  show LookOk (tb[t]?.getD [])
  cases h2:tb[t]? with
  | none=>exact h0
  | some l =>
   obtain ⟨g1,g2⟩:=h tb (List.mem_of_getElem? h1) l (List.mem_of_getElem? h2)
   exact look_falls g1 g2
theorem falls0:Falls lnR0:=by
 intro k x y hx hy
 match k with
 | 0 =>
  obtain rfl:=Option.some.inj hx
  obtain rfl:=Option.some.inj hy
  decide
 | k+1=>simp [lnR0] at hy
theorem falls1:Falls lnR1:=by
 intro k x y hx hy
 match k with
 | 0 =>
  obtain rfl:=Option.some.inj hx
  obtain rfl:=Option.some.inj hy
  decide
 | k+1=>simp [lnR1] at hy
theorem fallsT {l:List Rl}:Falls (l.take 1):=by
 intro k x y hx hy
 rw [List.getElem?_take] at hy
 rw [if_neg (by omega)] at hy
 cases hy
theorem lineC_looks:LooksOk lineC:=looks_of (by
 intro tb htb l hl
 simp only [lineC,List.mem_cons,List.not_mem_nil,or_false] at htb
 rcases htb with rfl | rfl
 ·simp only [List.mem_cons,List.not_mem_nil,or_false] at hl
  subst hl
  exact ⟨falls0,by decide⟩
 ·simp only [List.mem_cons,List.not_mem_nil,or_false] at hl
  subst hl
  exact ⟨falls1,by decide⟩)
def badD:Cf:=⟨⟨lnPorts⟩,⟨1,[],[]⟩,[[lnR0.take 1],[lnR1]]⟩
theorem badD_looks:LooksOk badD:=looks_of (by
 intro tb htb l hl
 simp only [badD,List.mem_cons,List.not_mem_nil,or_false] at htb
 rcases htb with rfl | rfl
 ·simp only [List.mem_cons,List.not_mem_nil,or_false] at hl
  subst hl
  exact ⟨fallsT,by decide⟩
 ·simp only [List.mem_cons,List.not_mem_nil,or_false] at hl
  subst hl
  exact ⟨falls1,by decide⟩)
end Go.Proofs.YtahjjfhjjbgjaaaGreat.Sm
end
section
namespace Go.Proofs.YtahjjfhjjbgjaaaGreat.Sm
open Go.RowKit
theorem small_of {c:Cf} (h:c.tables.all (fun t=>Nat.ble t.flatten.length 1000)=true):c.Small:=fun t ht=>by
 have:=Nat.le_of_ble_eq_true (List.all_eq_true.1 h t ht)
 omega
theorem d_JudgeC (c:Cf) (V:Int) (r:Vd) (hL:LooksOk c) (hs:c.tables.all (fun t=>Nat.ble t.flatten.length 1000)=true) (hl:Nat.blt (askedOf c V).length 20=true) (hr:judgeOf c V (insS (askedOf c V))=r):PDoes Tryz.prog 32 [.agg (cCf c),.i .i64 V] (.agg (cVd r)):=by
 subst hr
 exact d_Judge c V _ (fun _=>hL) (fun _=>small_of hs) (fun _=>insS_perm _) fun _ _=>sort_few _ (Nat.le_of_ble_eq_true hl)
end Go.Proofs.YtahjjfhjjbgjaaaGreat.Sm
end
section
namespace Go.Proofs.YtahjjfhjjbgjaaaGreat.Sm
open Go.RowKit
theorem flat_mem {α:Type} {l:List α}:∀{ls:List (List α)},l∈ls→l.length≤ls.flatten.length
 | x::ls,h=>by
  rw [List.flatten_cons,List.length_append]
  rcases List.mem_cons.1 h with rfl | h
  ·omega
  ·have:=flat_mem h
   omega
theorem Cf.small {c:Cf} (h0:c.sound=0) (hL:c.Lens):c.Small:=by
 have hc:=Cf.ok h0
 intro t ht
 obtain ⟨n,hn⟩:=List.mem_iff_getElem?.1 ht
 have h3:=(tabSound_ok (hc.tabs n t hn)).2.1
 have h4:=flat_bound t (hL t ht)
 have h5:reachBytes*t.length≤reachBytes*3:=Nat.mul_le_mul_left _ h3
 have h6:reachBytes*3≤1000000000000000:=by decide
 omega
theorem looks_any {c:Cf} (h0:c.sound=0) (hL:c.Lens):LooksOk c:=by
 have hc:=Cf.ok h0
 have hs:=Cf.small h0 hL
 intro n t
 have hnil:LookOk []:=look_any [] (by decide)
 rw [tabOf,List.getD_eq_getElem?_getD,List.getD_eq_getElem?_getD]
 cases h1:c.tables[n]? with
 | none=>exact hnil
 | some tb =>
  show LookOk (tb[t]?.getD [])
  cases h2:tb[t]? with
  | none=>exact hnil
  | some l =>
   have h3:=tabSound_ok (hc.tabs n tb h1)
   have h4:=hs tb (List.mem_of_getElem? h1)
   have h5:=countT_len tb 0 (by omega)
   have h6:=flat_mem (List.mem_of_getElem? h2)
   have h7:((0:Nat):Int)=0:=rfl
   rw [h7] at h5
   exact look_any l (by omega)
def sortG (l:List Cb):List Cb:=(stable ltC l.toArray).toList
theorem sortG_perm (l:List Cb):(sortG l).Perm l:=stable_perm l
def judgeG (c:Cf) (V:Int):Vd:=judgeOf c V (sortG (askedOf c V))
theorem malE_sound {c:Cf} {V:Int} (h:malE c V=0):c.sound=0:=by
 rw [malE] at h
 split at h
 ·assumption
 ·exact h
theorem d_JudgeG (c:Cf) (V:Int) (hL:c.Lens):PDoes Tryz.prog 32 [.agg (cCf c),.i .i64 V] (.agg (cVd (judgeG c V))) :=
 d_Judge c V _ (fun h=>looks_any (malE_sound h) hL) (fun h=>Cf.small (malE_sound h) hL) (fun _=>sortG_perm _) fun _ h=>sort_any _ (by omega)
theorem overA_cases (c:Cf) (V:Int) (s:Sp):∀(l:List Atom),(overA c V s l=none∧∀a∈l,wrongJ c s (runOf c s a.head V 10800)=0) ∨
  ∃a∈l,wrongJ c s (runOf c s a.head V 10800)≠0∧overA c V s l=some ⟨2,0,wrongJ c s (runOf c s a.head V 10800),s,a.head,runOf c s a.head V 10800⟩
 | []=>.inl ⟨rfl,fun a ha=>by cases ha⟩
 | a::l=>by
  rw [overA]
  by_cases h:wrongJ c s (runOf c s a.head V 10800)=0
  ·rw [decide_eq_true h,cond_true]
   rcases overA_cases c V s l with ⟨h1,h2⟩ | ⟨b,hb,h1,h2⟩
   ·refine .inl ⟨h1,fun b hb=>?_⟩
    rcases List.mem_cons.1 hb with rfl | hb
    ·exact h
    ·exact h2 b hb
   ·exact .inr ⟨b,List.mem_cons_of_mem _ hb,h1,h2⟩
  ·rw [decide_eq_false h,cond_false]
   exact .inr ⟨a,List.mem_cons_self,h,rfl⟩
theorem overE_cases (c:Cf) (V:Int) (l:List Atom):∀(ss:List Sp),(overE c V l ss=vdE 1 0∧∀s∈ss,∀a∈l,wrongJ c s (runOf c s a.head V 10800)=0) ∨
  ∃s∈ss,∃a∈l,wrongJ c s (runOf c s a.head V 10800)≠0∧overE c V l ss=⟨2,0,wrongJ c s (runOf c s a.head V 10800),s,a.head,runOf c s a.head V 10800⟩
 | []=>.inl ⟨rfl,fun s hs=>by cases hs⟩
 | s::ss=>by
  rw [overE]
  rcases overA_cases c V s l with ⟨h1,h2⟩ | ⟨a,ha,h1,h2⟩
  ·rw [h1]
   rcases overE_cases c V l ss with ⟨h3,h4⟩ | ⟨s',hs',a,ha,h3,h4⟩
   ·refine .inl ⟨h3,fun s' hs'=>?_⟩
    rcases List.mem_cons.1 hs' with rfl | hs'
    ·exact h2
    ·exact h4 s' hs'
   ·exact .inr ⟨s',List.mem_cons_of_mem _ hs',a,ha,h3,h4⟩
  ·rw [h2]
   exact .inr ⟨s,List.mem_cons_self,a,ha,h1,rfl⟩
theorem wrongJ_at {c:Cf} (h0:c.sound=0) {s:Sp} (hs:s∈edges c.topo.ports) (r:Run):wrongJ c s r=wrongOf c s r:=by
 have h:=(edgeOf_iff (Cf.ok h0).topo).2 hs
 rw [wrongJ,if_pos ⟨h0,by omega⟩]
theorem malE_zero {c:Cf} (h0:c.sound=0) {v:Nat} (hv:v≤255):malE c (v:Int)=0:=by
 rw [malE,if_pos h0,if_neg (by omega)]
theorem judgeG_cases (c:Cf) (v:Nat) (hv:v≤255) (h0:c.sound=0):(∃e:Int,(e=10∨e=11)∧judgeG c v=vdE 4 e) ∨
  (judgeG c v=vdE 1 0∧∀s∈edges c.topo.ports,∀h,wrongOf c s (runOf c s h v 10800)=0) ∨
  (∃s h,s∈edges c.topo.ports∧wrongOf c s (runOf c s h v 10800)≠0∧judgeG c v=⟨2,0,wrongOf c s (runOf c s h v 10800),s,h,runOf c s h v 10800⟩):=by
 have hc:=Cf.ok h0
 obtain ⟨hsnd,hask⟩:=askedOf_ok hc (v:Int)
 have hp:=sortG_perm (askedOf c (v:Int))
 rw [judgeG,judgeOf,decide_eq_true (malE_zero h0 hv),cond_true]
 by_cases h1:(askedOf c (v:Int)).length>500
 ·rw [decide_eq_true h1,cond_true]
  exact .inl ⟨10,.inl rfl,rfl⟩
 rw [decide_eq_false h1,cond_false]
 have hA:=hask (by omega)
 generalize askedOf c (v:Int)=ps at hsnd hp h1 hA
 generalize sortG ps=l' at hp
 obtain ⟨g1,g2⟩:=atomsOf_ok (ps:=l') (fun x hx=>hsnd x (hp.mem_iff.1 hx)) (by rw [hp.length_eq];omega)
 by_cases h2:(atomsOf l').2=0
 rotate_left
 ·rw [decide_eq_false h2,cond_false]
  rcases g1 with g | g | g
  ·exact absurd g h2
  ·rw [g];exact .inl ⟨10,.inl rfl,rfl⟩
  ·rw [g];exact .inl ⟨11,.inr rfl,rfl⟩
 rw [decide_eq_true h2,cond_true]
 have hP:=g2 h2
 generalize (atomsOf l').1=list at hP
 rw [overOf,decide_eq_true (malE_zero h0 hv),cond_true]
 rcases overE_cases c v list (edges c.topo.ports) with ⟨h3,h4⟩ | ⟨s,hs,a,ha,h3,h4⟩
 ·refine .inr (.inl ⟨h3,fun s hs h=>?_⟩)
  obtain ⟨a,ha,hh⟩:=hP.all h
  have hlike:Like ps h a.head:=fun p hpp=>hP.like a ha h a.head hh (hP.head a ha) p (hp.mem_iff.2 hpp)
  rw [(runOf_alike hc hA hs hlike 10800).wrong c s,← wrongJ_at h0 hs]
  exact h4 s hs a ha
 ·rw [wrongJ_at h0 hs] at h3 h4
  exact .inr (.inr ⟨s,a.head,hs,h3,h4⟩)
end Go.Proofs.YtahjjfhjjbgjaaaGreat.Sm
end
section
namespace Go.Proofs.YtahjjfhjjbgjaaaGreat.Sm
open Go.RowKit
def Hop.zero:Hop:=⟨0,0,0,Hd.zero⟩
def thereB (c:Cf) (h:Hop):Bool:=decide (0≤h.sw) && (decide (h.sw<(c.tables.length:Nat)) && (decide (0≤h.table) && (decide (h.table<((c.tables.getD h.sw.toNat []).length:Nat)) && (decide (-1≤h.rule) && decide (h.rule<((tabOf c h.sw.toNat h.table.toNat).length:Nat))))))
def firstB (rl p:Int) (k:Nat) (r:Rl):Bool:=decide (rl<0) || (decide (r.prio>p) || (decide (r.prio=p) && decide ((k:Int)<rl)))
def noneF (rl p:Int) (h:Hd):Nat→List Rl→Bool
 | _,[]=>true
 | k,r::rs=>bif firstB rl p k r && (!decide ((k:Int)=rl) && r.mat.has h) then false else noneF rl p h (k+1) rs
def matchB (c:Cf) (h:Hop):Bool:=noneF h.rule ((tabOf c h.sw.toNat h.table.toNat).getD h.rule.toNat Rl.zero).prio h.head 0 (tabOf c h.sw.toNat h.table.toNat) && (decide (h.rule<0) || ((tabOf c h.sw.toNat h.table.toNat).getD h.rule.toNat Rl.zero).mat.has h.head)
def ruleAt (c:Cf) (h:Hop):Rl:=(tabOf c h.sw.toNat h.table.toNat).getD h.rule.toNat Rl.zero
def nextH (c:Cf) (h:Hop):Hop:=if h.rule<0 then Hop.zero else if (ruleAt c h).act.kind=4 then ⟨h.sw,(ruleAt c h).act.table,0,h.head.set (ruleAt c h).act.set⟩ else if (ruleAt c h).act.kind=3 then ⟨(portAt c.topo.ports ⟨h.sw,(ruleAt c h).act.port⟩).peer,0,0,h.head.set (ruleAt c h).act.set⟩ else Hop.zero
def nextE (c:Cf) (h:Hop):Int:=if h.rule<0 then 3 else if (ruleAt c h).act.kind=4 then 0 else if (ruleAt c h).act.kind=3 then 0 else if (ruleAt c h).act.kind=2 then 2 else 1
def nextA (c:Cf) (h:Hop):Sp:=if h.rule<0 then Sp.zero else if (ruleAt c h).act.kind=2 then ⟨h.sw,(ruleAt c h).act.port⟩ else Sp.zero
def okB (c:Cf) (want h:Hop):Bool:=decide (h=⟨want.sw,want.table,h.rule,want.head⟩) && (thereB c h && matchB c h)
def lastE (i:Nat) (e:Int):Int:=if e=0∧i=10799 then 4 else e
def flw (c:Cf):Nat→Hop→Int→Sp→List Hop→Option (Int × Sp)
 | _,_,fin,a,[]=>some (fin,a)
 | i,want,fin,a,h::hs=>bif okB c want h && decide (fin=0) then flw c (i+1) (nextH c h) (lastE i (nextE c h)) (nextA c h) hs else none
def traceB (c:Cf) (s:Sp) (h:Hd) (V:Int) (r:Run):Bool :=
 bif decide (stampE c s V=0) then (match flw c 0 ⟨s.sw,0,0,h.set (stampOf c s V)⟩ 0 Sp.zero r.hops with
  | none=>false
  | some (f,a)=>decide (0<r.hops.length) && (decide (f=r.fin) && (!decide (f=0) && decide (a=r.at_)))) else false
theorem flw_stop {c:Cf} {i:Nat} {w:Hop} {fin:Int} {a:Sp} {xs:List Hop} (h:fin≠0):flw c i w fin a xs=if xs=[] then some (fin,a) else none:=by
 cases xs with
 | nil=>rfl
 | cons x xs=>rw [flw,decide_eq_false h,Bool.and_false];rfl
theorem noneF_iff {rl p:Int} {h:Hd}:∀(l:List Rl) (k:Nat),noneF rl p h k l=true↔∀(m:Nat) (r:Rl),l[m]?=some r→firstB rl p (k+m) r=true→((k+m:Nat):Int)≠rl→r.mat.has h=false
 | [],k=>by simp [noneF]
 | r::l,k=>by
  rw [noneF]
  cases hb:(firstB rl p k r && (!decide ((k:Int)=rl) && r.mat.has h))
  ·rw [cond_false,noneF_iff l (k+1)]
   constructor
   ·intro H m q hq hf hn
    cases m with
    | zero =>
     obtain rfl:r=q:=by simpa using hq
     rw [Nat.add_zero] at hf hn
     rw [hf,decide_eq_false hn] at hb
     simpa using hb
    | succ m=>exact H m q (by simpa using hq) (by rw [show k+1+m=k+(m+1) by omega];exact hf) (by rw [show k+1+m=k+(m+1) by omega];exact hn)
   ·intro H m q hq hf hn
    exact H (m+1) q (by simpa using hq) (by rw [show k+(m+1)=k+1+m by omega];exact hf) (by rw [show k+(m+1)=k+1+m by omega];exact hn)
  ·rw [cond_true]
   refine ⟨fun h=>(by cases h),fun H=>?_⟩
   simp only [Bool.and_eq_true,Bool.not_eq_true',decide_eq_false_iff_not] at hb
   have:=H 0 r rfl hb.1 hb.2.1
   rw [hb.2.2] at this
   cases this
theorem getR {l:List Rl} {m:Nat} {r:Rl} (h:l[m]?=some r):l.getD m Rl.zero=r:=by rw [List.getD_eq_getElem?_getD,h];rfl
def ruleOf (c:Cf) (n t:Nat) (h:Hd):Int:=match fnd (tabOf c n t) h with | none=>-1 | some r=>(r:Nat)
theorem fnd_better {l:List Rl} {h:Hd} {r:Nat} (H:fnd l h=some r):∀m,Hits l h m→Better l r m:=by
 have hi:=fndF_inv l h l 0 none rfl (Nat.zero_le _) fun m hm=>absurd hm (Nat.not_lt_zero m)
 rw [fnd] at H
 cases hf:fndF h 0 l none with
 | none=>rw [hf] at H;cases H
 | some x =>
  rw [hf] at H hi
  have e:x.1=r:=Option.some.inj H
  rw [← e]
  exact fun m hm=>hi.2.2.2 m hm.1 hm
theorem fnd_no {l:List Rl} {h:Hd} (H:fnd l h=none):∀m,¬Hits l h m:=by
 have hi:=fndF_inv l h l 0 none rfl (Nat.zero_le _) fun m hm=>absurd hm (Nat.not_lt_zero m)
 rw [fnd] at H
 cases hf:fndF h 0 l none with
 | none=>rw [hf] at hi;exact fun m hm=>hi m hm.1 hm
 | some x=>rw [hf] at H;cases H
theorem match_iff {c:Cf} {n t:Nat} {rl:Int} {h:Hd} (h1:-1≤rl) (h2:rl<((tabOf c n t).length:Nat)):matchB c ⟨n,t,rl,h⟩=true↔rl=ruleOf c n t h:=by
  rw [matchB,Bool.and_eq_true,noneF_iff,ruleOf]
  simp only [Int.toNat_natCast,Bool.or_eq_true,decide_eq_true_eq,Nat.zero_add]
  generalize tabOf c n t=l at h2
  by_cases h0:rl<0
  · obtain rfl:rl = -1:=by omega
    constructor
    · rintro ⟨H,_⟩
      rw [fnd_none fun m hm=>?_]
      obtain ⟨r,hr⟩:∃r,l[m]?=some r:=⟨_,List.getElem?_eq_getElem hm.1⟩
      have h4:=hm.2
      rw [getR hr,H m r hr (by simp [firstB]) (by omega)] at h4
      cases h4
    · intro e
      refine ⟨fun m r hr _ _=>?_,.inl (by omega)⟩
      cases hf:fnd l h with
      | some q=>rw [hf] at e;simp only at e;omega
      | none =>
        cases hh:r.mat.has h
        · rfl
        · exact absurd ⟨(List.getElem?_eq_some_iff.1 hr).1,by rw [getR hr];exact hh⟩ (fnd_no hf m)
  · obtain ⟨m,rfl⟩:∃m:Nat,rl=m:=⟨rl.toNat,by omega⟩
    have hml:m<l.length:=by omega
    simp only [Int.toNat_natCast]
    constructor
    · rintro ⟨H,hh⟩
      have hh:(l.getD m Rl.zero).mat.has h=true:=hh.resolve_left h0
      rw [fnd_best (r:=m) ⟨hml,hh⟩ fun k hk=>?_]
      obtain ⟨r,hr⟩:∃r,l[k]?=some r:=⟨_,List.getElem?_eq_getElem hk.1⟩
      have h4:=hk.2
      rw [getR hr] at h4
      rw [Better,getR hr]
      by_cases hkm:k=m
      · subst hkm
        rw [getR hr]
        exact .inr ⟨rfl,Nat.le_refl _⟩
      have hnf:¬firstB (m:Nat) (l.getD m Rl.zero).prio k r=true:=fun hf=>by
        have:=H k r hr hf (by omega)
        rw [this] at h4
        cases h4
      simp only [firstB,Bool.or_eq_true,Bool.and_eq_true,decide_eq_true_eq] at hnf
      omega
    · intro e
      cases hf:fnd l h with
      | none=>rw [hf] at e;simp only at e;omega
      | some q =>
        rw [hf] at e
        obtain rfl:m=q:=by
          have e':((m:Nat):Int)=(q:Nat):=e
          omega
        obtain ⟨g1,g2,g3⟩:=fnd_lt hf
        refine ⟨fun k r hr hfb hn=>?_,.inr g3⟩
        cases hh:r.mat.has h
        · rfl
        · have hb:=fnd_better hf k ⟨(List.getElem?_eq_some_iff.1 hr).1,by rw [getR hr];exact hh⟩
          rw [Better,getR hr] at hb
          simp only [firstB,Bool.or_eq_true,Bool.and_eq_true,decide_eq_true_eq] at hfb
          omega
theorem ruleOf_in {c:Cf} {n t:Nat} {h:Hd}:-1≤ruleOf c n t h∧ruleOf c n t h<((tabOf c n t).length:Nat):=by
 rw [ruleOf]
 cases hf:fnd (tabOf c n t) h with
 | none=>exact ⟨by simp,by simp only;omega⟩
 | some r =>
  have:=(fnd_lt hf).1
  exact ⟨by simp only;omega,by simp only;omega⟩
theorem ok_iff {c:Cf} {n t:Nat} {h:Hd} (hat:At c n t) {rl:Int} {x:Hop}:okB c ⟨n,t,rl,h⟩ x=true↔x=⟨n,t,ruleOf c n t h,h⟩:=by
 rw [okB,Bool.and_eq_true,Bool.and_eq_true,decide_eq_true_eq]
 obtain ⟨sw,tb,r,hd⟩:=x
 simp only [Hop.mk.injEq,true_and,and_true]
 constructor
 ·rintro ⟨⟨rfl,rfl,rfl⟩,h1,h2⟩
  simp only [thereB,Bool.and_eq_true,decide_eq_true_eq,Int.toNat_natCast] at h1
  exact ⟨rfl,rfl,(match_iff h1.2.2.2.2.1 h1.2.2.2.2.2).1 h2,rfl⟩
 ·rintro ⟨rfl,rfl,rfl,rfl⟩
  have hr:=ruleOf_in (c:=c) (n:=n) (t:=t) (h:=hd)
  refine ⟨⟨rfl,rfl,rfl⟩,?_,(match_iff hr.1 hr.2).2 rfl⟩
  simp only [thereB,Bool.and_eq_true,decide_eq_true_eq,Int.toNat_natCast]
  exact ⟨by omega,Int.ofNat_lt.2 hat.sw,by omega,Int.ofNat_lt.2 hat.tab,hr.1,hr.2⟩
theorem goF_pre {c:Cf}:∀(f n t:Nat) (h:Hd) (pre:List Hop),∃m,(goF c f n t h pre).hops=pre++m
 | 0,n,t,h,pre=>⟨[],by rw [goF,List.append_nil]⟩
 | f+1,n,t,h,pre=>by
  rw [goF]
  split
  ·exact ⟨_,rfl⟩
  ·rename_i r _
   split
   ·obtain ⟨m,hm⟩:=goF_pre f n ((tabOf c n t).getD r Rl.zero).act.table.toNat (h.set ((tabOf c n t).getD r Rl.zero).act.set) (pre++[⟨n,t,r,h⟩])
    exact ⟨_,by rw [hm,List.append_assoc]⟩
   split
   ·obtain ⟨m,hm⟩:=goF_pre f (portAt c.topo.ports ⟨n,((tabOf c n t).getD r Rl.zero).act.port⟩).peer.toNat 0 (h.set ((tabOf c n t).getD r Rl.zero).act.set) (pre++[⟨n,t,r,h⟩])
    exact ⟨_,by rw [hm,List.append_assoc]⟩
   split
   ·exact ⟨_,rfl⟩
   ·exact ⟨_,rfl⟩
theorem goF_one {c:Cf} {f n t:Nat} {h:Hd} {pre:List Hop}:∃m,(goF c (f+1) n t h pre).hops=pre++(⟨n,t,ruleOf c n t h,h⟩::m):=by
 rw [goF,ruleOf]
 split
 ·rename_i h0;exact ⟨[],by simp [h0]⟩
 ·rename_i r h0
  rw [h0]
  split
  ·obtain ⟨m,hm⟩:=goF_pre (c:=c) f n ((tabOf c n t).getD r Rl.zero).act.table.toNat (h.set ((tabOf c n t).getD r Rl.zero).act.set) (pre++[⟨n,t,r,h⟩])
   exact ⟨m,by rw [hm,List.append_assoc];rfl⟩
  split
  ·obtain ⟨m,hm⟩:=goF_pre (c:=c) f (portAt c.topo.ports ⟨n,((tabOf c n t).getD r Rl.zero).act.port⟩).peer.toNat 0 (h.set ((tabOf c n t).getD r Rl.zero).act.set) (pre++[⟨n,t,r,h⟩])
   exact ⟨m,by rw [hm,List.append_assoc];rfl⟩
  split
  ·exact ⟨[],rfl⟩
  ·exact ⟨[],rfl⟩
theorem run_ext {a b:Run} (h1:a.fin=b.fin) (h2:a.at_=b.at_) (h3:a.hops=b.hops):a=b:=by
 cases a;cases b;simp only at h1 h2 h3;subst h1 h2 h3;rfl
theorem stop_iff {c:Cf} {i:Nat} {w:Hop} {f:Int} {a:Sp} {xs pre:List Hop} {x:Hop} {fin:Int} {at_:Sp} (h:f≠0):(flw c i w f a xs=some (fin,at_)∧fin≠0)↔(⟨f,a,pre++[x]⟩:Run)=⟨fin,at_,pre++x::xs⟩:=by
 rw [flw_stop h]
 by_cases hx:xs=[]
 ·subst hx
  rw [if_pos rfl]
  simp only [Option.some.injEq,Prod.mk.injEq,Run.mk.injEq,and_true]
  exact ⟨fun H=>H.1,fun H=>⟨H,by rw [← H.1];exact h⟩⟩
 ·rw [if_neg hx]
  refine ⟨fun H=>(by cases H.1),fun H=>?_⟩
  have:=congrArg List.length (congrArg Run.hops H)
  simp only [List.length_append,List.length_cons,List.length_nil] at this
  exact absurd (List.length_eq_zero_iff.1 (show xs.length=0 by omega)) hx
theorem flw_go {c : Cf} (hc : c.Ok) : ∀ (f i : Nat), i + f = 10800 → 0 < f → ∀ (n t : Nat) (rl : Int) (h : Hd) (hs pre : List Hop) (fin : Int) (at_ : Sp), At c n t →
    ((flw c i ⟨n,t,rl,h⟩ 0 Sp.zero hs=some (fin,at_)∧fin≠0)↔goF c f n t h pre=⟨fin,at_,pre++hs⟩)
  | 0,i,_,h0,_,_,_,_,_,_,_,_,_=>absurd h0 (Nat.lt_irrefl 0)
  | f+1,i,hi,_,n,t,rl,h,[],pre,fin,at_,hat=>by
    rw [flw]
    obtain ⟨m,hm⟩:=goF_one (c:=c) (f:=f) (n:=n) (t:=t) (h:=h) (pre:=pre)
    constructor
    · rintro ⟨H,h1⟩
      cases H
      exact absurd rfl h1
    · intro H
      rw [H] at hm
      have:=congrArg List.length hm
      simp at this
  | f+1,i,hi,_,n,t,rl,h,x::hs,pre,fin,at_,hat=>by
    rw [flw,decide_eq_true (rfl:(0:Int)=0),Bool.and_true]
    cases hok:okB c ⟨n,t,rl,h⟩ x
    · rw [cond_false]
      refine ⟨fun H=>(by cases H.1),fun H=>?_⟩
      obtain ⟨m,hm⟩:=goF_one (c:=c) (f:=f) (n:=n) (t:=t) (h:=h) (pre:=pre)
      rw [H] at hm
      have:=List.append_cancel_left hm
      rw [List.cons.injEq] at this
      rw [(ok_iff hat).2 this.1] at hok
      cases hok
    · rw [cond_true]
      have hx:=(ok_iff hat).1 hok
      subst hx
      rw [goF]
      cases hf:fnd (tabOf c n t) h with
      | none =>
        have hr:ruleOf c n t h = -1:=by rw [ruleOf,hf]
        rw [hr]
        have e1:nextE c ⟨n,t,-1,h⟩=3:=by rw [nextE,if_pos (show (-1:Int)<0 by decide)]
        have e2:nextA c ⟨n,t,-1,h⟩=Sp.zero:=by rw [nextA,if_pos (show (-1:Int)<0 by decide)]
        rw [e1,e2,lastE,if_neg (by omega)]
        exact stop_iff (by decide)
      | some r =>
        have hr:ruleOf c n t h=(r:Nat):=by rw [ruleOf,hf]
        obtain ⟨k1,k2,k3⟩:=fnd_lt hf
        rw [hr]
        have hra:ruleAt c ⟨n,t,(r:Nat),h⟩=(tabOf c n t).getD r Rl.zero:=rfl
        simp only
        generalize hq:(tabOf c n t).getD r Rl.zero=q at k2 hra
        have hge:¬((r:Nat):Int)<0:=by omega
        by_cases q4:q.act.kind=4
        · have e1:nextE c ⟨n,t,(r:Nat),h⟩=0:=by rw [nextE,if_neg hge,hra,if_pos q4]
          have e2:nextA c ⟨n,t,(r:Nat),h⟩=Sp.zero:=by rw [nextA,if_neg hge,hra,if_neg (by omega)]
          have e3:nextH c ⟨n,t,(r:Nat),h⟩=⟨n,q.act.table.toNat,0,h.set q.act.set⟩:=by
            have:=(Rl.does_goto (Rl.sound_does (hat.rule hc k2).1).2.2 q4).1
            rw [nextH,if_neg hge,hra,if_pos q4]
            simp only [Hop.mk.injEq,true_and,and_true]
            omega
          rw [e1,e2,e3,if_pos q4,lastE]
          by_cases hl:i=10799
          · obtain rfl:f=0:=by omega
            rw [if_pos ⟨rfl,hl⟩,goF]
            exact stop_iff (by decide)
          · rw [if_neg fun h=>hl h.2,show pre++(⟨n,t,(r:Nat),h⟩:Hop)::hs=(pre++[⟨n,t,(r:Nat),h⟩])++hs by simp]
            exact flw_go hc f (i+1) (by omega) (by omega) _ _ _ _ _ _ _ _ (hat.goto hc k2 q4)
        rw [if_neg q4]
        by_cases q3:q.act.kind=3
        · have e1:nextE c ⟨n,t,(r:Nat),h⟩=0:=by rw [nextE,if_neg hge,hra,if_neg q4,if_pos q3]
          have e2:nextA c ⟨n,t,(r:Nat),h⟩=Sp.zero:=by rw [nextA,if_neg hge,hra,if_neg (by omega)]
          have e3:nextH c ⟨n,t,(r:Nat),h⟩=⟨(portAt c.topo.ports ⟨n,q.act.port⟩).peer.toNat,(0:Nat),0,h.set q.act.set⟩:=by
            have:=(hat.link hc k2 q3).1
            rw [nextH,if_neg hge,hra,if_neg q4,if_pos q3]
            simp only [Hop.mk.injEq,true_and,and_true]
            exact ⟨by omega,rfl⟩
          rw [e1,e2,e3,if_pos q3,lastE]
          by_cases hl:i=10799
          · obtain rfl:f=0:=by omega
            rw [if_pos ⟨rfl,hl⟩,goF]
            exact stop_iff (by decide)
          · rw [if_neg fun h=>hl h.2,show pre++(⟨n,t,(r:Nat),h⟩:Hop)::hs=(pre++[⟨n,t,(r:Nat),h⟩])++hs by simp]
            exact flw_go hc f (i+1) (by omega) (by omega) _ _ _ _ _ _ _ _ (hat.forward hc k2 q3)
        rw [if_neg q3]
        by_cases q2:q.act.kind=2
        · have e1:nextE c ⟨n,t,(r:Nat),h⟩=2:=by rw [nextE,if_neg hge,hra,if_neg q4,if_neg q3,if_pos q2]
          have e2:nextA c ⟨n,t,(r:Nat),h⟩=⟨n,q.act.port⟩:=by rw [nextA,if_neg hge,hra,if_pos q2]
          rw [e1,e2,if_pos q2,lastE,if_neg (by omega)]
          exact stop_iff (by decide)
        · have e1:nextE c ⟨n,t,(r:Nat),h⟩=1:=by rw [nextE,if_neg hge,hra,if_neg q4,if_neg q3,if_neg q2]
          have e2:nextA c ⟨n,t,(r:Nat),h⟩=Sp.zero:=by rw [nextA,if_neg hge,hra,if_neg q2]
          rw [e1,e2,if_neg q2,lastE,if_neg (by omega)]
          exact stop_iff (by decide)
theorem traceB_iff {c:Cf} {s:Sp} {h:Hd} {V:Int} {r:Run}:traceB c s h V r=true↔stampE c s V=0∧r=runOf c s h V 10800:=by
 rw [traceB]
 by_cases e:stampE c s V=0
 rotate_left
 ·rw [decide_eq_false e]
  exact ⟨fun H=>(by cases H),fun H=>absurd H.1 e⟩
 rw [decide_eq_true e,cond_true]
 have e':=e
 rw [stampE] at e'
 split at e'
 ·rename_i h0
  split at e'
  ·cases e'
  split at e'
  ·rename_i hs
   have hc:=Cf.ok h0
   obtain ⟨n,rr,a,p,hr,hp,hk,rfl⟩:=edges_mem.1 hs
   have hn:n<c.topo.ports.length:=(List.getElem?_eq_some_iff.1 hr).1
   have key:=fun fin at_=>flw_go hc 10800 0 rfl (by decide) n 0 0 (h.set (stampOf c ⟨n,a⟩ V)) r.hops [] fin at_ (At.start hc hn)
   have hro:runOf c ⟨n,a⟩ h V 10800=goF c 10800 n 0 (h.set (stampOf c ⟨n,a⟩ V)) []:=rfl
   rw [hro]
   simp only [List.nil_append] at key
   have hz:(⟨((n:Nat):Int),((0:Nat):Int),0,h.set (stampOf c ⟨n,a⟩ V)⟩:Hop)=⟨n,0,0,h.set (stampOf c ⟨n,a⟩ V)⟩:=rfl
   rw [hz] at key
   generalize goF c 10800 n 0 (h.set (stampOf c ⟨n,a⟩ V)) []=g at key
   simp only
   cases hf:flw c 0 ⟨n,0,0,h.set (stampOf c ⟨n,a⟩ V)⟩ 0 Sp.zero r.hops with
   | none =>
    refine ⟨fun H=>(by cases H),fun H=>?_⟩
    obtain ⟨_,rfl⟩:=H
    have:=(key r.fin r.at_).2 rfl
    rw [hf] at this
    cases this.1
   | some x =>
    obtain ⟨f,at_⟩:=x
    simp only [Bool.and_eq_true,Bool.not_eq_true',decide_eq_true_eq,decide_eq_false_iff_not]
    constructor
    ·rintro ⟨_,h1,h2,h3⟩
     refine ⟨e,?_⟩
     have:=(key f at_).1 ⟨hf,h2⟩
     rw [this]
     exact run_ext h1.symm h3.symm rfl
    ·rintro ⟨_,H⟩
     subst H
     have:=(key r.fin r.at_).2 rfl
     rw [hf] at this
     obtain ⟨h1,h2⟩:=this
     simp only [Option.some.injEq,Prod.mk.injEq] at h1
     refine ⟨?_,h1.1,by rw [h1.1];exact h2,h1.2⟩
     cases hh:r.hops with
     | nil =>
      rw [hh,flw] at hf
      simp only [Option.some.injEq,Prod.mk.injEq] at hf
      exact absurd (h1.1 ▸ hf.1.symm) h2
     | cons x xs=>simp
  ·cases e'
 ·rename_i h0
  exact absurd e' h0
end Go.Proofs.YtahjjfhjjbgjaaaGreat.Sm
end
section
namespace Go.Proofs.YtahjjfhjjbgjaaaGreat.Sm
open Go.RowKit
def cCk (c:Cf) (hops:List Hop):List AV:=[.sl (c.topo.ports.map cPts),.i .i64 c.pol.tenants,.sl (c.pol.peers.map cPr),.sl (c.pol.ways.map cWy),.sl (c.tables.map cTab),.sl (hops.map cHop)]
theorem d_there (c:Cf) (hops:List Hop) (h:Hop):PDoes Tryz.prog 137 [.agg (cCk c hops),.agg (cHop h)] (.b (thereB c h)):=by
 refine PDoes.of_bodyN Tryz.func137 rfl (by kernel_rfl) rfl rfl ?_
 obtain ⟨sw,tb,rl,hd⟩:=h
 have hl:(c.tables.map cTab).length=c.tables.length:=List.length_map ..
 (repeat first|apply wA|apply wB|apply wC|apply wE|(apply zM;·kernel_rfl));refine wF ?_;refine wH rfl ?_;(repeat first|apply wA|apply wB|apply wC|apply wE|(apply zM;·kernel_rfl))
 refine AW.draws mixed_ok ?_
 by_cases g1:sw<0
 ·have e:thereB c ⟨sw,tb,rl,hd⟩=false:=by
   rw [Bool.eq_false_iff];intro h;simp only [thereB,Bool.and_eq_true,decide_eq_true_eq] at h;omega
  rw [e]
  refine RG.runO ty_ok 0 [(7,.b true)] 400 rfl (by repeat' (first|exact trivial|apply And.intro|exact dT ‹_›|exact dF ‹_›|exact dN ‹_›|exact dM ‹_›|exact dI ‹_›)) ?_
  (repeat first|apply wA|apply wB|apply wC|apply wE|(apply zM;·kernel_rfl));refine AW.condT rfl ?_;(repeat first|apply wA|apply wB|apply wC|apply wE|(apply zM;·kernel_rfl)|refine zI rfl ?_|refine zJ rfl ?_)
  refine AW.ret (retQA ty_ok rfl rfl rfl ?_)
  rfl
 by_cases g2:sw≥(((c.tables.map cTab).length:Nat):Int)
 ·have e:thereB c ⟨sw,tb,rl,hd⟩=false:=by
   rw [Bool.eq_false_iff];intro h;simp only [thereB,Bool.and_eq_true,decide_eq_true_eq] at h;omega
  rw [e]
  refine RG.runO ty_ok 0 [(7,.b false),(15,.b true)] 400 rfl (by repeat' (first|exact trivial|apply And.intro|exact dT ‹_›|exact dF ‹_›|exact dN ‹_›|exact dM ‹_›|exact dI ‹_›)) ?_
  (repeat first|apply wA|apply wB|apply wC|apply wE|(apply zM;·kernel_rfl));refine AW.condT rfl ?_;(repeat first|apply wA|apply wB|apply wC|apply wE|(apply zM;·kernel_rfl)|refine zI rfl ?_|refine zJ rfl ?_)
  refine AW.ret (retQA ty_ok rfl rfl rfl ?_)
  rfl
 by_cases g3:tb<0
 ·have e:thereB c ⟨sw,tb,rl,hd⟩=false:=by
   rw [Bool.eq_false_iff];intro h;simp only [thereB,Bool.and_eq_true,decide_eq_true_eq] at h;omega
  rw [e]
  refine RG.runO ty_ok 0 [(7,.b false),(15,.b false),(20,.b true)] 400 rfl (by repeat' (first|exact trivial|apply And.intro|exact dT ‹_›|exact dF ‹_›|exact dN ‹_›|exact dM ‹_›|exact dI ‹_›)) ?_
  (repeat first|apply wA|apply wB|apply wC|apply wE|(apply zM;·kernel_rfl));refine AW.condT rfl ?_;(repeat first|apply wA|apply wB|apply wC|apply wE|(apply zM;·kernel_rfl)|refine zI rfl ?_|refine zJ rfl ?_)
  refine AW.ret (retQA ty_ok rfl rfl rfl ?_)
  rfl
 obtain ⟨n,rfl⟩:∃n:Nat,sw=n:=⟨sw.toNat,by omega⟩
 obtain ⟨t,rfl⟩:∃t:Nat,tb=t:=⟨tb.toNat,by omega⟩
 have hn:n<c.tables.length:=by omega
 obtain ⟨ts,hts⟩:∃ts,c.tables[n]?=some ts:=⟨_,List.getElem?_eq_getElem hn⟩
 have hx:(c.tables.map cTab)[n]?=some (cTab ts):=by rw [List.getElem?_map,hts];rfl
 have hg:c.tables.getD ((n:Nat):Int).toNat []=ts:=by rw [Int.toNat_natCast,List.getD_eq_getElem?_getD,hts];rfl
 have hl2:(ts.map cRls).length=ts.length:=List.length_map ..
 refine RG.runO ty_ok 0 [(7,.b false),(15,.b false),(20,.b false)] 400 rfl (by repeat' (first|exact trivial|apply And.intro|exact dT ‹_›|exact dF ‹_›|exact dN ‹_›|exact dM ‹_›|exact dI ‹_›)) ?_
 refine RG.opS rfl (op_index rfl (tab_ok ty_ok rfl) rfl (tab_ok ty_ok rfl) rfl rfl hx rfl) rfl ?_
 by_cases g4:((t:Nat):Int)≥(((ts.map cRls).length:Nat):Int)
 ·have e:thereB c ⟨(n:Nat),(t:Nat),rl,hd⟩=false:=by
   rw [Bool.eq_false_iff];intro h;simp only [thereB,Bool.and_eq_true,decide_eq_true_eq,hg] at h;omega
  rw [e]
  refine RG.runO ty_ok 0 [(33,.b true)] 400 rfl (by repeat' (first|exact trivial|apply And.intro|exact dT ‹_›|exact dF ‹_›|exact dN ‹_›|exact dM ‹_›|exact dI ‹_›)) ?_
  (repeat first|apply wA|apply wB|apply wC|apply wE|(apply zM;·kernel_rfl));refine AW.condT rfl ?_;(repeat first|apply wA|apply wB|apply wC|apply wE|(apply zM;·kernel_rfl)|refine zI rfl ?_|refine zJ rfl ?_)
  refine AW.ret (retQA ty_ok rfl rfl rfl ?_)
  rfl
 have ht:t<ts.length:=by omega
 obtain ⟨l,hlt⟩:∃l,ts[t]?=some l:=⟨_,List.getElem?_eq_getElem ht⟩
 have hy:(ts.map cRls)[t]?=some (cRls l):=by rw [List.getElem?_map,hlt];rfl
 have hg2:tabOf c ((n:Nat):Int).toNat ((t:Nat):Int).toNat=l:=by rw [tabOf,hg,Int.toNat_natCast,List.getD_eq_getElem?_getD,hlt];rfl
 have hl3:(l.map cRl).length=l.length:=List.length_map ..
 refine RG.runO ty_ok 0 [(33,.b false)] 400 rfl (by repeat' (first|exact trivial|apply And.intro|exact dT ‹_›|exact dF ‹_›|exact dN ‹_›|exact dM ‹_›|exact dI ‹_›)) ?_
 (repeat first|apply wA|apply wB|apply wC|apply wE|(apply zM;·kernel_rfl));refine AW.condF rfl ?_;(repeat first|apply wA|apply wB|apply wC|apply wE|(apply zM;·kernel_rfl))
 refine AW.draws mixed_ok ?_
 by_cases g5:rl≥-1
 ·have e:thereB c ⟨(n:Nat),(t:Nat),rl,hd⟩=decide (rl<(((l.map cRl).length:Nat):Int)):=by
   rw [Bool.eq_iff_iff]
   simp only [thereB,Bool.and_eq_true,decide_eq_true_eq,hg,hg2]
   omega
  rw [e]
  refine RG.runO ty_ok 0 [(37,.b true)] 400 rfl (by repeat' (first|exact trivial|apply And.intro|exact dT ‹_›|exact dF ‹_›|exact dN ‹_›|exact dM ‹_›|exact dI ‹_›)) ?_
  refine RG.opS rfl (op_index rfl (tab_ok ty_ok rfl) rfl (tab_ok ty_ok rfl) rfl rfl hx rfl) rfl ?_
  refine wH rfl ?_
  refine RG.opS rfl (op_index rfl (tab_ok ty_ok rfl) rfl (tab_ok ty_ok rfl) rfl rfl hy rfl) rfl ?_
  refine wH rfl ?_;(repeat first|apply wA|apply wB|apply wC|apply wE|(apply zM;·kernel_rfl)|refine zI rfl ?_|refine zJ rfl ?_)
  refine AW.ret (retQA ty_ok rfl rfl rfl ?_)
  rfl
 ·have e:thereB c ⟨(n:Nat),(t:Nat),rl,hd⟩=false:=by
   rw [Bool.eq_false_iff];intro h;simp only [thereB,Bool.and_eq_true,decide_eq_true_eq] at h;omega
  rw [e]
  refine RG.runO ty_ok 0 [(37,.b false)] 400 rfl (by repeat' (first|exact trivial|apply And.intro|exact dT ‹_›|exact dF ‹_›|exact dN ‹_›|exact dM ‹_›|exact dI ‹_›)) ?_
  (repeat first|apply wA|apply wB|apply wC|apply wE|(apply zM;·kernel_rfl)|refine zI rfl ?_|refine zJ rfl ?_)
  refine AW.ret (retQA ty_ok rfl rfl rfl ?_)
  rfl
theorem d_matches (c:Cf) (hops:List Hop) (n t:Nat) (rl:Int) (hd:Hd) (hat:At c n t) (h1:-1≤rl) (h2:rl<((tabOf c n t).length:Nat)):PDoes Tryz.prog 138 [.agg (cCk c hops),.agg (cHop ⟨n,t,rl,hd⟩)] (.b (matchB c ⟨n,t,rl,hd⟩)):=by
  refine PDoes.of_bodyN Tryz.func138 rfl (by kernel_rfl) rfl rfl ?_
  obtain ⟨ts,ht1,ht2⟩:=hat.get
  have hx:(c.tables.map cTab)[n]?=some (cTab ts):=by rw [List.getElem?_map,ht1];rfl
  have hy:(ts.map cRls)[t]?=some (cRls (tabOf c n t)):=by rw [List.getElem?_map,ht2];rfl
  rw [matchB]
  simp only [Int.toNat_natCast]
  generalize tabOf c n t=l at hy h2
  generalize hp:(l.getD rl.toNat Rl.zero).prio=p
  generalize hq:(decide (rl<0) || (l.getD rl.toNat Rl.zero).mat.has hd)=Q
  (repeat first|apply wA|apply wB|apply wC|apply wE|(apply zM;·kernel_rfl));refine wF ?_;refine wH rfl ?_;(repeat first|apply wA|apply wB|apply wC|apply wE|(apply zM;·kernel_rfl))
  refine AW.draws mixed_ok ?_
  refine wH rfl ?_
  refine RG.opS rfl (op_index rfl (tab_ok ty_ok rfl) rfl (tab_ok ty_ok rfl) rfl rfl hx rfl) rfl ?_
  refine wH rfl ?_
  refine RG.opS rfl (op_index rfl (tab_ok ty_ok rfl) rfl (tab_ok ty_ok rfl) rfl rfl hy rfl) rfl ?_
  refine wH rfl ?_;(repeat first|apply wA|apply wB|apply wC|apply wE|(apply zM;·kernel_rfl)|refine zI rfl ?_|refine zJ rfl ?_)
  refine AW.lens 20 rfl fun hm=>?_
  rw [List.length_map] at hm
  generalize hN:noneF rl p hd 0 l=N
  refine AW.loopL (ι:=Nat) (fun k=>[(2,.own 2 0 0),(3,.own 3 0 0),(5,.sl (l.map cRl)),(20,.sl (l.map cRl)),(21,.i .i64 (l.map cRl).length),(22,.i .i64 (k:Nat))]) (fun _=>[(2,⟨0,some (.box 149 (cCk c hops))⟩),(3,⟨0,some (.box 94 (cHop ⟨n,t,rl,hd⟩))⟩)]) (fun k=>k≤l.length∧noneF rl p hd k (l.drop k)=N) (fun k=>l.length - k) 0 ⟨Nat.zero_le _,hN⟩ (by repeat(first|exact trivial|refine ⟨rI rfl rfl,?_⟩|refine ⟨rO rfl rfl rfl,?_⟩|refine ⟨rR rfl rfl rfl,?_⟩|refine ⟨bR rfl rfl,?_⟩|refine ⟨bS rfl rfl rfl,?_⟩)) (by repeat(first|exact trivial|refine ⟨rI rfl rfl,?_⟩|refine ⟨rO rfl rfl rfl,?_⟩|refine ⟨rR rfl rfl rfl,?_⟩|refine ⟨bR rfl rfl,?_⟩|refine ⟨bS rfl rfl rfl,?_⟩)) fun k hk=>?_
  clear hN
  obtain ⟨hk,hf⟩:=hk
  (repeat first|apply wA|apply wB|apply wC|apply wE|(apply zM;·kernel_rfl)|refine zI rfl ?_|refine zJ rfl ?_)
  refine AW.cond rfl (fun h3=>?_) (fun h3=>?_)
  rotate_left
  · have h:¬k<l.length:=by simpa using h3
    obtain rfl:k=l.length:=by omega
    rw [List.drop_length,noneF] at hf
    rw [← hf,Bool.true_and,← hq]
    (repeat first|apply wA|apply wB|apply wC|apply wE|(apply zM;·kernel_rfl));refine AW.exit ?_;refine Eq.mpr (if_pos rfl) ?_;(repeat first|apply wA|apply wB|apply wC|apply wE|(apply zM;·kernel_rfl))
    refine AW.draws mixed_ok ?_
    by_cases g:rl<0
    · refine RG.runO ty_ok 0 [(75,.b true)] 400 rfl (by repeat' (first|exact trivial|apply And.intro|exact dT ‹_›|exact dF ‹_›|exact dN ‹_›|exact dM ‹_›|exact dI ‹_›)) ?_
      (repeat first|apply wA|apply wB|apply wC|apply wE|(apply zM;·kernel_rfl)|refine zI rfl ?_|refine zJ rfl ?_)
      refine AW.ret (retQA ty_ok rfl rfl rfl ?_)
      exact congrArg AV.b (by rw [decide_eq_true g];rfl)
    · obtain ⟨m,rfl⟩:∃m:Nat,rl=m:=⟨rl.toNat,by omega⟩
      obtain ⟨r,hr⟩:∃r,l[m]?=some r:=⟨_,List.getElem?_eq_getElem (by omega)⟩
      have hrx:(l.map cRl)[m]?=some (cRl r):=by rw [List.getElem?_map,hr];rfl
      rw [Int.toNat_natCast,getR hr]
      refine RG.runO ty_ok 0 [(75,.b false)] 400 rfl (by repeat' (first|exact trivial|apply And.intro|exact dT ‹_›|exact dF ‹_›|exact dN ‹_›|exact dM ‹_›|exact dI ‹_›)) ?_
      refine RG.opS rfl (op_index rfl (tab_ok ty_ok rfl) rfl (tab_ok ty_ok rfl) rfl rfl hrx rfl) rfl ?_
      refine wH rfl ?_
      refine RG.callS rfl rfl rfl rfl rfl (d_Has r.mat hd _ rfl) rfl rfl ?_;refine wH rfl ?_;(repeat first|apply wA|apply wB|apply wC|apply wE|(apply zM;·kernel_rfl)|refine zI rfl ?_|refine zJ rfl ?_)
      refine AW.ret (retQA ty_ok rfl rfl rfl ?_)
      exact congrArg AV.b (by rw [decide_eq_false g];rfl)
  have h:k<l.length:=by simpa using h3
  rw [List.drop_eq_getElem_cons h,noneF] at hf
  (repeat first|apply wA|apply wB|apply wC|apply wE|(apply zM;·kernel_rfl))
  refine AW.text ?_
  refine wH rfl ?_
  refine RG.opS rfl (op_index rfl (tab_ok ty_ok rfl) rfl (tab_ok ty_ok rfl) rfl rfl (show (l.map cRl)[k]?=some (cRl l[k]) by rw [List.getElem?_map,List.getElem?_eq_getElem (by assumption)];rfl) rfl) rfl ?_
  generalize l[k]=r at hf
  refine wH rfl ?_;(repeat first|apply wA|apply wB|apply wC|apply wE|(apply zM;·kernel_rfl))
  refine AW.cutT (ι:=Unit) (fun _=>[(2,.own 2 0 0),(3,.own 3 0 0),(5,.sl (l.map cRl)),(20,.sl (l.map cRl)),(21,.i .i64 (l.map cRl).length),(22,.i .i64 (k:Nat)),(6,.i .i64 (k:Nat)),(7,.own 7 0 0),(8,.b (firstB rl p k r))]) (fun _=>[(2,⟨0,some (.box 149 (cCk c hops))⟩),(3,⟨0,some (.box 94 (cHop ⟨n,t,rl,hd⟩))⟩),(7,⟨0,some (.box 54 (cRl r))⟩)]) (fun _=>True) ?_ fun _ _=>?_
  · skip
    refine AW.draws mixed_ok ?_
    by_cases g:rl<0
    · have e:true=firstB rl p k r:=by rw [firstB,decide_eq_true g];rfl
      refine RG.runO ty_ok 0 [(29,.b true)] 400 rfl (by repeat' (first|exact trivial|apply And.intro|exact dT ‹_›|exact dF ‹_›|exact dN ‹_›|exact dM ‹_›|exact dI ‹_›)) ?_
      (repeat first|apply wA|apply wB|apply wC|apply wE|(apply zM;·kernel_rfl)|refine zI rfl ?_|refine zJ rfl ?_)
      exact ⟨(),trivial,⟨rO rfl rfl rfl,rO rfl rfl rfl,rI rfl rfl,rI rfl rfl,rI rfl rfl,rI rfl rfl,rI rfl rfl,rO rfl rfl rfl,rI (congrArg AV.b e) rfl,trivial⟩,(by repeat(first|exact trivial|refine ⟨rI rfl rfl,?_⟩|refine ⟨rO rfl rfl rfl,?_⟩|refine ⟨rR rfl rfl rfl,?_⟩|refine ⟨bR rfl rfl,?_⟩|refine ⟨bS rfl rfl rfl,?_⟩))⟩
    · obtain ⟨m,rfl⟩:∃m:Nat,rl=m:=⟨rl.toNat,by omega⟩
      obtain ⟨x,hr⟩:∃r,l[m]?=some r:=⟨_,List.getElem?_eq_getElem (by omega)⟩
      have hrx:(l.map cRl)[m]?=some (cRl x):=by rw [List.getElem?_map,hr];rfl
      rw [Int.toNat_natCast,getR hr] at hp
      subst hp
      refine RG.runO ty_ok 0 [(29,.b false)] 400 rfl (by repeat' (first|exact trivial|apply And.intro|exact dT ‹_›|exact dF ‹_›|exact dN ‹_›|exact dM ‹_›|exact dI ‹_›)) ?_
      refine RG.opS rfl (op_index rfl (tab_ok ty_ok rfl) rfl (tab_ok ty_ok rfl) rfl rfl hrx rfl) rfl ?_
      by_cases g1:r.prio>x.prio
      · have e:true=firstB (m:Nat) x.prio k r:=by rw [firstB,decide_eq_true g1];simp
        refine RG.runO ty_ok 0 [(39,.b true)] 400 rfl (by repeat' (first|exact trivial|apply And.intro|exact dT ‹_›|exact dF ‹_›|exact dN ‹_›|exact dM ‹_›|exact dI ‹_›)) ?_
        (repeat first|apply wA|apply wB|apply wC|apply wE|(apply zM;·kernel_rfl)|refine zI rfl ?_|refine zJ rfl ?_)
        exact ⟨(),trivial,⟨rO rfl rfl rfl,rO rfl rfl rfl,rI rfl rfl,rI rfl rfl,rI rfl rfl,rI rfl rfl,rI rfl rfl,rO rfl rfl rfl,rI (congrArg AV.b e) rfl,trivial⟩,(by repeat(first|exact trivial|refine ⟨rI rfl rfl,?_⟩|refine ⟨rO rfl rfl rfl,?_⟩|refine ⟨rR rfl rfl rfl,?_⟩|refine ⟨bR rfl rfl,?_⟩|refine ⟨bS rfl rfl rfl,?_⟩))⟩
      refine RG.runO ty_ok 0 [(39,.b false)] 400 rfl (by repeat' (first|exact trivial|apply And.intro|exact dT ‹_›|exact dF ‹_›|exact dN ‹_›|exact dM ‹_›|exact dI ‹_›)) ?_
      refine RG.opS rfl (op_index rfl (tab_ok ty_ok rfl) rfl (tab_ok ty_ok rfl) rfl rfl hrx rfl) rfl ?_
      by_cases g2:r.prio=x.prio
      · have e:decide (((k:Nat):Int)<(m:Nat))=firstB (m:Nat) x.prio k r:=by rw [firstB,decide_eq_false g,decide_eq_false g1,decide_eq_true g2];rfl
        refine RG.runO ty_ok 0 [(50,.b true)] 400 rfl (by repeat' (first|exact trivial|apply And.intro|exact dT ‹_›|exact dF ‹_›|exact dN ‹_›|exact dM ‹_›|exact dI ‹_›)) ?_
        (repeat first|apply wA|apply wB|apply wC|apply wE|(apply zM;·kernel_rfl)|refine zI rfl ?_|refine zJ rfl ?_)
        exact ⟨(),trivial,⟨rO rfl rfl rfl,rO rfl rfl rfl,rI rfl rfl,rI rfl rfl,rI rfl rfl,rI rfl rfl,rI rfl rfl,rO rfl rfl rfl,rI (congrArg AV.b e) rfl,trivial⟩,(by repeat(first|exact trivial|refine ⟨rI rfl rfl,?_⟩|refine ⟨rO rfl rfl rfl,?_⟩|refine ⟨rR rfl rfl rfl,?_⟩|refine ⟨bR rfl rfl,?_⟩|refine ⟨bS rfl rfl rfl,?_⟩))⟩
      · have e:false=firstB (m:Nat) x.prio k r:=by rw [firstB,decide_eq_false g,decide_eq_false g1,decide_eq_false g2];rfl
        refine RG.runO ty_ok 0 [(50,.b false)] 400 rfl (by repeat' (first|exact trivial|apply And.intro|exact dT ‹_›|exact dF ‹_›|exact dN ‹_›|exact dM ‹_›|exact dI ‹_›)) ?_
        (repeat first|apply wA|apply wB|apply wC|apply wE|(apply zM;·kernel_rfl)|refine zI rfl ?_|refine zJ rfl ?_)
        exact ⟨(),trivial,⟨rO rfl rfl rfl,rO rfl rfl rfl,rI rfl rfl,rI rfl rfl,rI rfl rfl,rI rfl rfl,rI rfl rfl,rO rfl rfl rfl,rI (congrArg AV.b e) rfl,trivial⟩,(by repeat(first|exact trivial|refine ⟨rI rfl rfl,?_⟩|refine ⟨rO rfl rfl rfl,?_⟩|refine ⟨rR rfl rfl rfl,?_⟩|refine ⟨bR rfl rfl,?_⟩|refine ⟨bS rfl rfl rfl,?_⟩))⟩
  cases hb:firstB rl p k r
  · rw [hb] at hf
    (repeat first|apply wA|apply wB|apply wC|apply wE|(apply zM;·kernel_rfl)|refine zI rfl ?_|refine zJ rfl ?_)
    refine AW.condF rfl ?_;(repeat first|apply wA|apply wB|apply wC|apply wE|(apply zM;·kernel_rfl)|refine zI rfl ?_|refine zJ rfl ?_)
    exact ⟨k+1,⟨⟨h,hf⟩,by omega⟩,⟨rO rfl rfl rfl,rO rfl rfl rfl,rI rfl rfl,rI rfl rfl,rI rfl rfl,Rn.is (i64_next h hm) rfl,trivial⟩,(by repeat(first|exact trivial|refine ⟨rI rfl rfl,?_⟩|refine ⟨rO rfl rfl rfl,?_⟩|refine ⟨rR rfl rfl rfl,?_⟩|refine ⟨bR rfl rfl,?_⟩|refine ⟨bS rfl rfl rfl,?_⟩))⟩
  rw [hb,Bool.true_and] at hf
  (repeat first|apply wA|apply wB|apply wC|apply wE|(apply zM;·kernel_rfl))
  refine AW.text ?_
  by_cases g3:((k:Nat):Int)=rl
  · rw [decide_eq_true g3] at hf
    refine RG.runO ty_ok 0 [(63,.b false)] 400 rfl (by repeat' (first|exact trivial|apply And.intro|exact dT ‹_›|exact dF ‹_›|exact dN ‹_›|exact dM ‹_›|exact dI ‹_›)) ?_
    (repeat first|apply wA|apply wB|apply wC|apply wE|(apply zM;·kernel_rfl));refine AW.condF rfl ?_;(repeat first|apply wA|apply wB|apply wC|apply wE|(apply zM;·kernel_rfl)|refine zI rfl ?_|refine zJ rfl ?_)
    exact ⟨k+1,⟨⟨h,hf⟩,by omega⟩,⟨rO rfl rfl rfl,rO rfl rfl rfl,rI rfl rfl,rI rfl rfl,rI rfl rfl,Rn.is (i64_next h hm) rfl,trivial⟩,(by repeat(first|exact trivial|refine ⟨rI rfl rfl,?_⟩|refine ⟨rO rfl rfl rfl,?_⟩|refine ⟨rR rfl rfl rfl,?_⟩|refine ⟨bR rfl rfl,?_⟩|refine ⟨bS rfl rfl rfl,?_⟩))⟩
  rw [decide_eq_false g3] at hf
  refine RG.runO ty_ok 0 [(63,.b true)] 400 rfl (by repeat' (first|exact trivial|apply And.intro|exact dT ‹_›|exact dF ‹_›|exact dN ‹_›|exact dM ‹_›|exact dI ‹_›)) ?_
  cases hh:r.mat.has hd
  · rw [hh] at hf
    refine RG.callS rfl rfl rfl rfl rfl (d_Has r.mat hd _ hh) rfl rfl ?_;refine wH rfl ?_;(repeat first|apply wA|apply wB|apply wC|apply wE|(apply zM;·kernel_rfl)|refine zI rfl ?_|refine zJ rfl ?_)
    refine AW.condF rfl ?_;(repeat first|apply wA|apply wB|apply wC|apply wE|(apply zM;·kernel_rfl)|refine zI rfl ?_|refine zJ rfl ?_)
    exact ⟨k+1,⟨⟨h,hf⟩,by omega⟩,⟨rO rfl rfl rfl,rO rfl rfl rfl,rI rfl rfl,rI rfl rfl,rI rfl rfl,Rn.is (i64_next h hm) rfl,trivial⟩,(by repeat(first|exact trivial|refine ⟨rI rfl rfl,?_⟩|refine ⟨rO rfl rfl rfl,?_⟩|refine ⟨rR rfl rfl rfl,?_⟩|refine ⟨bR rfl rfl,?_⟩|refine ⟨bS rfl rfl rfl,?_⟩))⟩
  · rw [hh] at hf
    refine RG.callS rfl rfl rfl rfl rfl (d_Has r.mat hd _ hh) rfl rfl ?_;refine wH rfl ?_;(repeat first|apply wA|apply wB|apply wC|apply wE|(apply zM;·kernel_rfl)|refine zI rfl ?_|refine zJ rfl ?_)
    refine AW.condT rfl ?_;(repeat first|apply wA|apply wB|apply wC|apply wE|(apply zM;·kernel_rfl)|refine zI rfl ?_|refine zJ rfl ?_)
    refine AW.ret (retQA ty_ok rfl rfl rfl ?_)
    exact congrArg AV.b (by rw [← hf];rfl)
end Go.Proofs.YtahjjfhjjbgjaaaGreat.Sm
end
section
namespace Go.Proofs.YtahjjfhjjbgjaaaGreat.Sm
open Go.RowKit
def nextR (c:Cf) (h:Hop):AV:=.tup [.agg (cHop (nextH c h)),.i .i64 (nextE c h),.agg (cSp (nextA c h))]
theorem d_next (c:Cf) (hc:c.Ok) (hops:List Hop) (n t:Nat) (rl:Int) (hd:Hd) (hat:At c n t) (h1:-1≤rl) (h2:rl<((tabOf c n t).length:Nat)):PDoes Tryz.prog 139 [.agg (cCk c hops),.agg (cHop ⟨n,t,rl,hd⟩)] (nextR c ⟨n,t,rl,hd⟩):=by
 refine PDoes.of_bodyN Tryz.func139 rfl (by kernel_rfl) rfl rfl ?_
 obtain ⟨ts,ht1,ht2⟩:=hat.get
 have hx:(c.tables.map cTab)[n]?=some (cTab ts):=by rw [List.getElem?_map,ht1];rfl
 have hy:(ts.map cRls)[t]?=some (cRls (tabOf c n t)):=by rw [List.getElem?_map,ht2];rfl
 (repeat first|apply wA|apply wB|apply wC|apply wE|(apply zM;·kernel_rfl)|refine zI rfl ?_|refine zJ rfl ?_)
 refine AW.cond rfl (fun g=>?_) (fun g=>?_)
 ·have g:rl<0:=of_decide_eq_true g
  have e1:nextH c ⟨n,t,rl,hd⟩=Hop.zero:=by rw [nextH,if_pos g]
  have e2:nextE c ⟨n,t,rl,hd⟩=3:=by rw [nextE,if_pos g]
  have e3:nextA c ⟨n,t,rl,hd⟩=Sp.zero:=by rw [nextA,if_pos g]
  rw [nextR,e1,e2,e3]
  (repeat first|apply wA|apply wB|apply wC|apply wE|(apply zM;·kernel_rfl)|refine zI rfl ?_|refine zJ rfl ?_)
  refine AW.ret (retQA ty_ok rfl rfl rfl ?_)
  rfl
 have g:¬rl<0:=of_decide_eq_false g
 obtain ⟨m,rfl⟩:∃m:Nat,rl=m:=⟨rl.toNat,by omega⟩
 obtain ⟨x,hr⟩:∃r,(tabOf c n t)[m]?=some r:=⟨_,List.getElem?_eq_getElem (by omega)⟩
 have hrx:((tabOf c n t).map cRl)[m]?=some (cRl x):=by rw [List.getElem?_map,hr];rfl
 have hxm:x∈tabOf c n t:=List.mem_of_getElem? hr
 have hra:ruleAt c ⟨n,t,(m:Nat),hd⟩=x:=getR hr
 (repeat first|apply wA|apply wB|apply wC|apply wE|(apply zM;·kernel_rfl))
 refine AW.draws mixed_ok ?_
 refine wH rfl ?_
 refine RG.opS rfl (op_index rfl (tab_ok ty_ok rfl) rfl (tab_ok ty_ok rfl) rfl rfl hx rfl) rfl ?_
 refine wH rfl ?_
 refine RG.opS rfl (op_index rfl (tab_ok ty_ok rfl) rfl (tab_ok ty_ok rfl) rfl rfl hy rfl) rfl ?_
 refine wH rfl ?_
 refine RG.opS rfl (op_index rfl (tab_ok ty_ok rfl) rfl (tab_ok ty_ok rfl) rfl rfl hrx rfl) rfl ?_
 refine wH rfl ?_;(repeat first|apply wA|apply wB|apply wC|apply wE|(apply zM;·kernel_rfl)|refine zI rfl ?_|refine zJ rfl ?_)
 refine RG.callS rfl rfl rfl rfl rfl (d_Set hd x.act.set) rfl rfl ?_;refine wH rfl ?_;(repeat first|apply wA|apply wB|apply wC|apply wE|(apply zM;·kernel_rfl)|refine zI rfl ?_|refine zJ rfl ?_)
 refine AW.cond rfl (fun k4=>?_) (fun k4=>?_)
 ·have k4:x.act.kind=4:=of_decide_eq_true k4
  have e1:nextH c ⟨n,t,(m:Nat),hd⟩=⟨n,x.act.table,0,hd.set x.act.set⟩:=by rw [nextH,if_neg g,hra,if_pos k4]
  have e2:nextE c ⟨n,t,(m:Nat),hd⟩=0:=by rw [nextE,if_neg g,hra,if_pos k4]
  have e3:nextA c ⟨n,t,(m:Nat),hd⟩=Sp.zero:=by rw [nextA,if_neg g,hra,if_neg (by omega)]
  rw [nextR,e1,e2,e3]
  (repeat first|apply wA|apply wB|apply wC|apply wE|(apply zM;·kernel_rfl)|refine zI rfl ?_|refine zJ rfl ?_)
  refine AW.ret (retQA ty_ok rfl rfl rfl ?_)
  rfl
 have k4:¬x.act.kind=4:=of_decide_eq_false k4
 (repeat first|apply wA|apply wB|apply wC|apply wE|(apply zM;·kernel_rfl)|refine zI rfl ?_|refine zJ rfl ?_)
 refine AW.cond rfl (fun k3=>?_) (fun k3=>?_)
 ·have k3:x.act.kind=3:=of_decide_eq_true k3
  obtain ⟨p1,p2,_⟩:=Rl.does_forward (Rl.sound_does (hat.rule hc hxm).1).2.2 k3
  obtain ⟨a,ha⟩:∃a:Nat,x.act.port=a:=⟨x.act.port.toNat,by omega⟩
  have hn:n<c.topo.ports.length:=by rw [← hc.len];exact hat.sw
  obtain ⟨pr,hpr⟩:∃r,c.topo.ports[n]?=some r:=⟨_,List.getElem?_eq_getElem hn⟩
  have hg:c.topo.ports.getD n []=pr:=by rw [List.getD_eq_getElem?_getD,hpr];rfl
  rw [hg] at p2
  obtain ⟨pp,hpp⟩:∃r,pr[a]?=some r:=⟨_,List.getElem?_eq_getElem (by omega)⟩
  have hp1:(c.topo.ports.map cPts)[n]?=some (cPts pr):=by rw [List.getElem?_map,hpr];rfl
  have hp2:(pr.map cPt)[a]?=some (cPt pp):=by rw [List.getElem?_map,hpp];rfl
  have hpa:portAt c.topo.ports ⟨n,x.act.port⟩=pp:=by
   rw [ha,portAt,Int.toNat_natCast,hg,Int.toNat_natCast,List.getD_eq_getElem?_getD,hpp];rfl
  have e1:nextH c ⟨n,t,(m:Nat),hd⟩=⟨pp.peer,0,0,hd.set x.act.set⟩:=by rw [nextH,if_neg g,hra,if_neg k4,if_pos k3,hpa]
  have e2:nextE c ⟨n,t,(m:Nat),hd⟩=0:=by rw [nextE,if_neg g,hra,if_neg k4,if_pos k3]
  have e3:nextA c ⟨n,t,(m:Nat),hd⟩=Sp.zero:=by rw [nextA,if_neg g,hra,if_neg (by omega)]
  rw [nextR,e1,e2,e3]
  (repeat first|apply wA|apply wB|apply wC|apply wE|(apply zM;·kernel_rfl)|refine zI rfl ?_|refine zJ rfl ?_)
  refine RG.opS rfl (op_index rfl (tab_ok ty_ok rfl) rfl (tab_ok ty_ok rfl) rfl rfl hp1 rfl) rfl ?_
  refine wH rfl ?_
  refine RG.opS rfl (op_index rfl (tab_ok ty_ok rfl) rfl (tab_ok ty_ok rfl) rfl (congrArg (AV.i .i64) ha) hp2 rfl) rfl ?_
  refine wH rfl ?_;(repeat first|apply wA|apply wB|apply wC|apply wE|(apply zM;·kernel_rfl)|refine zI rfl ?_|refine zJ rfl ?_)
  refine AW.ret (retQA ty_ok rfl rfl rfl ?_)
  rfl
 have k3:¬x.act.kind=3:=of_decide_eq_false k3
 have e1:nextH c ⟨n,t,(m:Nat),hd⟩=Hop.zero:=by rw [nextH,if_neg g,hra,if_neg k4,if_neg k3]
 (repeat first|apply wA|apply wB|apply wC|apply wE|(apply zM;·kernel_rfl)|refine zI rfl ?_|refine zJ rfl ?_)
 refine AW.cond rfl (fun k2=>?_) (fun k2=>?_)
 ·have k2:x.act.kind=2:=of_decide_eq_true k2
  have e2:nextE c ⟨n,t,(m:Nat),hd⟩=2:=by rw [nextE,if_neg g,hra,if_neg k4,if_neg k3,if_pos k2]
  have e3:nextA c ⟨n,t,(m:Nat),hd⟩=⟨n,x.act.port⟩:=by rw [nextA,if_neg g,hra,if_pos k2]
  rw [nextR,e1,e2,e3]
  (repeat first|apply wA|apply wB|apply wC|apply wE|(apply zM;·kernel_rfl)|refine zI rfl ?_|refine zJ rfl ?_)
  refine AW.ret (retQA ty_ok rfl rfl rfl ?_)
  rfl
 ·have k2:¬x.act.kind=2:=of_decide_eq_false k2
  have e2:nextE c ⟨n,t,(m:Nat),hd⟩=1:=by rw [nextE,if_neg g,hra,if_neg k4,if_neg k3,if_neg k2]
  have e3:nextA c ⟨n,t,(m:Nat),hd⟩=Sp.zero:=by rw [nextA,if_neg g,hra,if_neg k2]
  rw [nextR,e1,e2,e3]
  (repeat first|apply wA|apply wB|apply wC|apply wE|(apply zM;·kernel_rfl)|refine zI rfl ?_|refine zJ rfl ?_)
  refine AW.ret (retQA ty_ok rfl rfl rfl ?_)
  rfl
def flwR (hops:List Hop):Option (Int × Sp)→AV
 | none=>.tup [.i .i64 0,.agg (cSp Sp.zero),.b false]
 | some (f,a)=>.tup [.i .i64 f,.agg (cSp a),.b (decide ((0:Int)<(((hops.map cHop).length:Nat):Int)))]
theorem there_at {c:Cf} {sw tb rl:Int} {hd:Hd} (h:thereB c ⟨sw,tb,rl,hd⟩=true):∃n t:Nat,sw=n∧tb=t∧At c n t∧-1≤rl∧rl<((tabOf c n t).length:Nat):=by
 simp only [thereB,Bool.and_eq_true,decide_eq_true_eq] at h
 obtain ⟨h1,h2,h3,h4,h5,h6⟩:=h
 obtain ⟨n,rfl⟩:∃n:Nat,sw=n:=⟨sw.toNat,by omega⟩
 obtain ⟨t,rfl⟩:∃t:Nat,tb=t:=⟨tb.toNat,by omega⟩
 rw [Int.toNat_natCast] at h4 h6
 rw [Int.toNat_natCast] at h6
 exact ⟨n,t,rfl,rfl,⟨by omega,by omega⟩,h5,h6⟩
theorem d_follows (c:Cf) (hc:c.Ok) (hops:List Hop) (first:Hop):PDoes Tryz.prog 86 [.agg (cCk c hops),.agg (cHop first)] (flwR hops (flw c 0 first 0 Sp.zero hops)):=by
  refine PDoes.of_bodyN Tryz.func86 rfl (by kernel_rfl) rfl rfl ?_
  generalize hR:flw c 0 first 0 Sp.zero hops=R
  (repeat first|apply wA|apply wB|apply wC|apply wE|(apply zM;·kernel_rfl)|refine zI rfl ?_|refine zJ rfl ?_)
  refine AW.lens 12 rfl fun hm=>?_
  rw [List.length_map] at hm
  refine AW.loopL (ι:=Nat × Hop × Int × Sp) (fun i=>[(2,.own 2 0 0),(4,.i .i64 i.2.2.1),(5,.own 5 0 0),(7,.own 7 0 0),(12,.sl (hops.map cHop)),(13,.i .i64 (hops.map cHop).length),(14,.i .i64 (i.1:Nat))]) (fun i=>[(2,⟨0,some (.box 149 (cCk c hops))⟩),(5,⟨0,some (.box 33 (cSp i.2.2.2))⟩),(7,⟨0,some (.box 94 (cHop i.2.1))⟩)]) (fun i=>i.1≤hops.length∧flw c i.1 i.2.1 i.2.2.1 i.2.2.2 (hops.drop i.1)=R) (fun i=>hops.length - i.1) (0,first,0,Sp.zero) ⟨Nat.zero_le _,hR⟩ (by repeat(first|exact trivial|refine ⟨rI rfl rfl,?_⟩|refine ⟨rO rfl rfl rfl,?_⟩|refine ⟨rR rfl rfl rfl,?_⟩|refine ⟨bR rfl rfl,?_⟩|refine ⟨bS rfl rfl rfl,?_⟩)) (by repeat(first|exact trivial|refine ⟨rI rfl rfl,?_⟩|refine ⟨rO rfl rfl rfl,?_⟩|refine ⟨rR rfl rfl rfl,?_⟩|refine ⟨bR rfl rfl,?_⟩|refine ⟨bS rfl rfl rfl,?_⟩)) fun i hi=>?_
  clear hR
  obtain ⟨k,w,fin,a⟩:=i
  obtain ⟨hk,hf⟩:=hi
  simp only at hk hf
  (repeat first|apply wA|apply wB|apply wC|apply wE|(apply zM;·kernel_rfl)|refine zI rfl ?_|refine zJ rfl ?_)
  refine AW.cond rfl (fun h3=>?_) (fun h3=>?_)
  rotate_left
  · have h:¬k<hops.length:=by simpa using h3
    obtain rfl:k=hops.length:=by omega
    rw [List.drop_length,flw] at hf
    subst hf
    (repeat first|apply wA|apply wB|apply wC|apply wE|(apply zM;·kernel_rfl)|refine zI rfl ?_|refine zJ rfl ?_)
    refine AW.exit ?_;refine Eq.mpr (if_pos rfl) ?_;(repeat first|apply wA|apply wB|apply wC|apply wE|(apply zM;·kernel_rfl)|refine zI rfl ?_|refine zJ rfl ?_)
    refine AW.ret (retQA ty_ok rfl rfl rfl ?_)
    rfl
  have h:k<hops.length:=by simpa using h3
  rw [List.drop_eq_getElem_cons h,flw] at hf
  (repeat first|apply wA|apply wB|apply wC|apply wE|(apply zM;·kernel_rfl))
  refine AW.text ?_
  refine wH rfl ?_
  refine RG.opS rfl (op_index rfl (tab_ok ty_ok rfl) rfl (tab_ok ty_ok rfl) rfl rfl (show (hops.map cHop)[k]?=some (cHop hops[k]) by rw [List.getElem?_map,List.getElem?_eq_getElem (by assumption)];rfl) rfl) rfl ?_
  generalize hops[k]=x at hf
  obtain ⟨sw,tb,rl,hd⟩:=x
  refine wH rfl ?_;(repeat first|apply wA|apply wB|apply wC|apply wE|(apply zM;·kernel_rfl));refine wF ?_;refine wH rfl ?_;(repeat first|apply wA|apply wB|apply wC|apply wE|(apply zM;·kernel_rfl))
  refine AW.text ?_
  refine wH rfl ?_
  by_cases e1:(⟨sw,tb,rl,hd⟩:Hop)=⟨w.sw,w.table,rl,w.head⟩
  rotate_left
  · have e:okB c w ⟨sw,tb,rl,hd⟩=false:=by rw [okB,decide_eq_false e1];rfl
    rw [e] at hf
    obtain rfl:=hf
    refine RG.opS rfl (op_neG rfl ty_ok (by kernel_rfl) (by kernel_rfl) rfl rfl (eq_Hop ⟨sw,tb,rl,hd⟩ ⟨w.sw,w.table,rl,w.head⟩) (congrArg Bool.not (decide_eq_false e1))) rfl ?_
    refine wH rfl ?_;(repeat first|apply wA|apply wB|apply wC|apply wE|(apply zM;·kernel_rfl))
    refine AW.condT rfl ?_;(repeat first|apply wA|apply wB|apply wC|apply wE|(apply zM;·kernel_rfl)|refine zI rfl ?_|refine zJ rfl ?_)
    refine AW.ret (retQA ty_ok rfl rfl rfl ?_)
    rfl
  refine RG.opS rfl (op_neG rfl ty_ok (by kernel_rfl) (by kernel_rfl) rfl rfl (eq_Hop ⟨sw,tb,rl,hd⟩ ⟨w.sw,w.table,rl,w.head⟩) (congrArg Bool.not (decide_eq_true e1))) rfl ?_
  refine wH rfl ?_
  cases e2:thereB c ⟨sw,tb,rl,hd⟩
  · have e:okB c w ⟨sw,tb,rl,hd⟩=false:=by rw [okB,e2,Bool.false_and,Bool.and_false]
    rw [e] at hf
    obtain rfl:=hf
    have hT:=d_there c hops ⟨sw,tb,rl,hd⟩
    rw [e2] at hT
    refine RG.callS rfl rfl rfl rfl rfl hT rfl rfl ?_
    refine wH rfl ?_;(repeat first|apply wA|apply wB|apply wC|apply wE|(apply zM;·kernel_rfl))
    refine AW.condT rfl ?_;(repeat first|apply wA|apply wB|apply wC|apply wE|(apply zM;·kernel_rfl)|refine zI rfl ?_|refine zJ rfl ?_)
    refine AW.ret (retQA ty_ok rfl rfl rfl ?_)
    rfl
  have hT:=d_there c hops ⟨sw,tb,rl,hd⟩
  rw [e2] at hT
  refine RG.callS rfl rfl rfl rfl rfl hT rfl rfl ?_
  refine wH rfl ?_
  obtain ⟨n,t,rfl,rfl,hat,r1,r2⟩:=there_at e2
  have hM:=d_matches c hops n t rl hd hat r1 r2
  cases e3:matchB c ⟨n,t,rl,hd⟩
  · have e:okB c w ⟨n,t,rl,hd⟩=false:=by rw [okB,e3,Bool.and_false,Bool.and_false]
    rw [e] at hf
    obtain rfl:=hf
    rw [e3] at hM
    refine RG.callS rfl rfl rfl rfl rfl hM rfl rfl ?_
    refine wH rfl ?_;(repeat first|apply wA|apply wB|apply wC|apply wE|(apply zM;·kernel_rfl))
    refine AW.condT rfl ?_;(repeat first|apply wA|apply wB|apply wC|apply wE|(apply zM;·kernel_rfl)|refine zI rfl ?_|refine zJ rfl ?_)
    refine AW.ret (retQA ty_ok rfl rfl rfl ?_)
    rfl
  rw [e3] at hM
  refine RG.callS rfl rfl rfl rfl rfl hM rfl rfl ?_
  have e:okB c w ⟨n,t,rl,hd⟩=true:=by rw [okB,e2,e3,decide_eq_true e1];rfl
  rw [e,Bool.true_and] at hf
  by_cases e4:fin=0
  rotate_left
  · rw [decide_eq_false e4] at hf
    obtain rfl:=hf
    refine RG.runO ty_ok 0 [(39,.b true)] 400 rfl (by repeat' (first|exact trivial|apply And.intro|exact dT ‹_›|exact dF ‹_›|exact dN ‹_›|exact dM ‹_›|exact dI ‹_›)) ?_
    (repeat first|apply wA|apply wB|apply wC|apply wE|(apply zM;·kernel_rfl));refine AW.condT rfl ?_;(repeat first|apply wA|apply wB|apply wC|apply wE|(apply zM;·kernel_rfl)|refine zI rfl ?_|refine zJ rfl ?_)
    refine AW.ret (retQA ty_ok rfl rfl rfl ?_)
    rfl
  rw [decide_eq_true e4,cond_true] at hf
  refine RG.runO ty_ok 0 [(39,.b false)] 400 rfl (by repeat' (first|exact trivial|apply And.intro|exact dT ‹_›|exact dF ‹_›|exact dN ‹_›|exact dM ‹_›|exact dI ‹_›)) ?_
  have hN:=d_next c hc hops n t rl hd hat r1 r2
  rw [nextR] at hN
  generalize nextH c ⟨n,t,rl,hd⟩=w' at hf hN
  generalize hE:nextE c ⟨n,t,rl,hd⟩=f' at hf hN
  generalize nextA c ⟨n,t,rl,hd⟩=a' at hf hN
  (repeat first|apply wA|apply wB|apply wC|apply wE|(apply zM;·kernel_rfl));refine AW.condF rfl ?_;(repeat first|apply wA|apply wB|apply wC|apply wE|(apply zM;·kernel_rfl))
  refine AW.text ?_
  refine wH rfl ?_
  refine RG.callS rfl rfl rfl rfl rfl hN rfl rfl ?_
  refine wH rfl ?_;(repeat first|apply wA|apply wB|apply wC|apply wE|(apply zM;·kernel_rfl))
  refine AW.text ?_
  by_cases e5:f'=0
  rotate_left
  · rw [lastE,if_neg fun h=>e5 h.1] at hf
    refine RG.runO ty_ok 0 [(50,.b false)] 400 rfl (by repeat' (first|exact trivial|apply And.intro|exact dT ‹_›|exact dF ‹_›|exact dN ‹_›|exact dM ‹_›|exact dI ‹_›)) ?_
    (repeat first|apply wA|apply wB|apply wC|apply wE|(apply zM;·kernel_rfl));refine AW.condF rfl ?_;(repeat first|apply wA|apply wB|apply wC|apply wE|(apply zM;·kernel_rfl)|refine zI rfl ?_|refine zJ rfl ?_)
    exact ⟨(k+1,w',f',a'),⟨⟨h,hf⟩,by show hops.length - (k+1)<hops.length - k;omega⟩,(by repeat(first|exact trivial|refine ⟨rI rfl rfl,?_⟩|refine ⟨rI (i64_next (by assumption) (by first|assumption|decide)) rfl,?_⟩|refine ⟨rO rfl rfl rfl,?_⟩|refine ⟨rR rfl rfl rfl,?_⟩|refine ⟨bR rfl rfl,?_⟩|refine ⟨bS rfl rfl rfl,?_⟩)),(by repeat(first|exact trivial|refine ⟨rI rfl rfl,?_⟩|refine ⟨rO rfl rfl rfl,?_⟩|refine ⟨rR rfl rfl rfl,?_⟩|refine ⟨bR rfl rfl,?_⟩|refine ⟨bS rfl rfl rfl,?_⟩))⟩
  by_cases e6:((k:Nat):Int)=10799
  · rw [lastE,if_pos ⟨e5,by omega⟩] at hf
    refine RG.runO ty_ok 0 [(50,.b true),(53,.b true)] 400 rfl (by repeat' (first|exact trivial|apply And.intro|exact dT ‹_›|exact dF ‹_›|exact dN ‹_›|exact dM ‹_›|exact dI ‹_›)) ?_
    (repeat first|apply wA|apply wB|apply wC|apply wE|(apply zM;·kernel_rfl));refine AW.condT rfl ?_;(repeat first|apply wA|apply wB|apply wC|apply wE|(apply zM;·kernel_rfl)|refine zI rfl ?_|refine zJ rfl ?_)
    exact ⟨(k+1,w',4,a'),⟨⟨h,hf⟩,by show hops.length - (k+1)<hops.length - k;omega⟩,(by repeat(first|exact trivial|refine ⟨rI rfl rfl,?_⟩|refine ⟨rI (i64_next (by assumption) (by first|assumption|decide)) rfl,?_⟩|refine ⟨rO rfl rfl rfl,?_⟩|refine ⟨rR rfl rfl rfl,?_⟩|refine ⟨bR rfl rfl,?_⟩|refine ⟨bS rfl rfl rfl,?_⟩)),(by repeat(first|exact trivial|refine ⟨rI rfl rfl,?_⟩|refine ⟨rO rfl rfl rfl,?_⟩|refine ⟨rR rfl rfl rfl,?_⟩|refine ⟨bR rfl rfl,?_⟩|refine ⟨bS rfl rfl rfl,?_⟩))⟩
  · rw [lastE,if_neg fun h=>e6 (by omega)] at hf
    refine RG.runO ty_ok 0 [(50,.b true),(53,.b false)] 400 rfl (by repeat' (first|exact trivial|apply And.intro|exact dT ‹_›|exact dF ‹_›|exact dN ‹_›|exact dM ‹_›|exact dI ‹_›)) ?_
    (repeat first|apply wA|apply wB|apply wC|apply wE|(apply zM;·kernel_rfl));refine AW.condF rfl ?_;(repeat first|apply wA|apply wB|apply wC|apply wE|(apply zM;·kernel_rfl)|refine zI rfl ?_|refine zJ rfl ?_)
    exact ⟨(k+1,w',f',a'),⟨⟨h,hf⟩,by show hops.length - (k+1)<hops.length - k;omega⟩,(by repeat(first|exact trivial|refine ⟨rI rfl rfl,?_⟩|refine ⟨rI (i64_next (by assumption) (by first|assumption|decide)) rfl,?_⟩|refine ⟨rO rfl rfl rfl,?_⟩|refine ⟨rR rfl rfl rfl,?_⟩|refine ⟨bR rfl rfl,?_⟩|refine ⟨bS rfl rfl rfl,?_⟩)),(by repeat(first|exact trivial|refine ⟨rI rfl rfl,?_⟩|refine ⟨rO rfl rfl rfl,?_⟩|refine ⟨rR rfl rfl rfl,?_⟩|refine ⟨bR rfl rfl,?_⟩|refine ⟨bS rfl rfl rfl,?_⟩))⟩
theorem d_Trace (c:Cf) (s:Sp) (h:Hd) (V:Int) (r:Run):PDoes Tryz.prog 46 [.agg (cCf c),.agg (cSp s),.agg (cHd h),.i .i64 V,.agg (cRun r)] (.b (traceB c s h V r)):=by
  refine PDoes.of_bodyN Tryz.func46 rfl (by kernel_rfl) rfl rfl ?_
  have hS:=d_CStamp c s V
  rw [traceB]
  by_cases e:stampE c s V=0
  rotate_left
  · rw [decide_eq_false e,cond_false]
    (repeat first|apply wA|apply wB|apply wC|apply wE|(apply zM;·kernel_rfl)|refine zI rfl ?_|refine zJ rfl ?_)
    refine RG.callS rfl rfl rfl rfl rfl hS rfl rfl ?_;refine wH rfl ?_;(repeat first|apply wA|apply wB|apply wC|apply wE|(apply zM;·kernel_rfl)|refine zI rfl ?_|refine zJ rfl ?_)
    refine AW.cond rfl (fun k=>?_) (fun k=>?_)
    · (repeat first|apply wA|apply wB|apply wC|apply wE|(apply zM;·kernel_rfl)|refine zI rfl ?_|refine zJ rfl ?_)
      refine AW.ret (retQA ty_ok rfl rfl rfl ?_)
      rfl
    · exact absurd (by simpa using k) e
  have hc:c.Ok:=by
    rw [stampE] at e
    split at e
    · rename_i h0;exact Cf.ok h0
    · rename_i h0;exact absurd e h0
  rw [stampC,if_pos e,e] at hS
  rw [decide_eq_true e,cond_true]
  have hF:=d_follows c hc r.hops ⟨s.sw,0,0,h.set (stampOf c s V)⟩
  have hl:(r.hops.map cHop).length=r.hops.length:=List.length_map ..
  (repeat first|apply wA|apply wB|apply wC|apply wE|(apply zM;·kernel_rfl)|refine zI rfl ?_|refine zJ rfl ?_)
  refine RG.callS rfl rfl rfl rfl rfl hS rfl rfl ?_;refine wH rfl ?_;(repeat first|apply wA|apply wB|apply wC|apply wE|(apply zM;·kernel_rfl)|refine zI rfl ?_|refine zJ rfl ?_)
  refine AW.condF rfl ?_;(repeat first|apply wA|apply wB|apply wC|apply wE|(apply zM;·kernel_rfl)|refine zI rfl ?_|refine zJ rfl ?_)
  refine RG.callS rfl rfl rfl rfl rfl (d_Set h (stampOf c s V)) rfl rfl ?_
  refine wH rfl ?_
  cases hf:flw c 0 ⟨s.sw,0,0,h.set (stampOf c s V)⟩ 0 Sp.zero r.hops with
  | none =>
    rw [hf] at hF
    refine RG.callS rfl rfl rfl rfl rfl hF rfl rfl ?_;refine wH rfl ?_;(repeat first|apply wA|apply wB|apply wC|apply wE|(apply zM;·kernel_rfl)|refine zI rfl ?_|refine zJ rfl ?_)
    refine AW.ret (retQA ty_ok rfl rfl rfl ?_)
    rfl
  | some x =>
    obtain ⟨f,a⟩:=x
    rw [hf] at hF
    simp only
    refine RG.callS rfl rfl rfl rfl rfl hF rfl rfl ?_
    refine wH rfl ?_;(repeat first|apply wA|apply wB|apply wC|apply wE|(apply zM;·kernel_rfl))
    refine AW.text ?_
    by_cases g1:(0:Int)<(((r.hops.map cHop).length:Nat):Int)
    rotate_left
    · refine RG.runO ty_ok 0 [(45,.b false)] 400 rfl (by repeat' (first|exact trivial|apply And.intro|exact dT ‹_›|exact dF ‹_›|exact dN ‹_›|exact dM ‹_›|exact dI ‹_›)) ?_
      (repeat first|apply wA|apply wB|apply wC|apply wE|(apply zM;·kernel_rfl)|refine zI rfl ?_|refine zJ rfl ?_)
      refine AW.ret (retQA ty_ok rfl rfl rfl ?_)
      exact congrArg AV.b (by rw [decide_eq_false (by omega)];rfl)
    rw [decide_eq_true (show 0<r.hops.length by omega),Bool.true_and]
    by_cases g2:f=r.fin
    rotate_left
    · refine RG.runO ty_ok 0 [(45,.b true),(50,.b false)] 400 rfl (by repeat' (first|exact trivial|apply And.intro|exact dT ‹_›|exact dF ‹_›|exact dN ‹_›|exact dM ‹_›|exact dI ‹_›)) ?_
      (repeat first|apply wA|apply wB|apply wC|apply wE|(apply zM;·kernel_rfl)|refine zI rfl ?_|refine zJ rfl ?_)
      refine AW.ret (retQA ty_ok rfl rfl rfl ?_)
      exact congrArg AV.b (by rw [decide_eq_false g2];rfl)
    rw [decide_eq_true g2,Bool.true_and]
    by_cases g3:f=0
    · refine RG.runO ty_ok 0 [(45,.b true),(50,.b true),(54,.b false)] 400 rfl (by repeat' (first|exact trivial|apply And.intro|exact dT ‹_›|exact dF ‹_›|exact dN ‹_›|exact dM ‹_›|exact dI ‹_›)) ?_
      (repeat first|apply wA|apply wB|apply wC|apply wE|(apply zM;·kernel_rfl)|refine zI rfl ?_|refine zJ rfl ?_)
      refine AW.ret (retQA ty_ok rfl rfl rfl ?_)
      exact congrArg AV.b (by rw [decide_eq_true g3];rfl)
    rw [decide_eq_false g3,Bool.not_false,Bool.true_and]
    refine RG.runO ty_ok 0 [(45,.b true),(50,.b true),(54,.b true)] 400 rfl (by repeat' (first|exact trivial|apply And.intro|exact dT ‹_›|exact dF ‹_›|exact dN ‹_›|exact dM ‹_›|exact dI ‹_›)) ?_
    refine RG.opS rfl (op_eqG rfl ty_ok (by kernel_rfl) (by kernel_rfl) rfl rfl (eq_Sp a r.at_) rfl) rfl ?_
    refine wH rfl ?_;(repeat first|apply wA|apply wB|apply wC|apply wE|(apply zM;·kernel_rfl)|refine zI rfl ?_|refine zJ rfl ?_)
    refine AW.ret (retQA ty_ok rfl rfl rfl ?_)
    rfl
end Go.Proofs.YtahjjfhjjbgjaaaGreat.Sm
end
section
namespace Go.Proofs.YtahjjfhjjbgjaaaGreat.Sm
open Go.RowKit
theorem d_wrongs:PDoes Tryz.prog 90 [] (.sl (([1,2,3,4]:List Int).map cI)):=by
 refine PDoes.of_bodyN Tryz.func90 rfl (by kernel_rfl) rfl rfl ?_
 (repeat first|apply wA|apply wB|apply wC|apply wE|(apply zM;·kernel_rfl)|refine zI rfl ?_|refine zJ rfl ?_)
 refine AW.ret (retQA ty_ok rfl rfl rfl ?_)
 rfl
def emptyB (v:Vd):Bool:=decide (v.why=0) && (decide (v.fro=Sp.zero) && (decide (v.head=Hd.zero) && (decide (v.run.fin=0) && (decide (v.run.at_=Sp.zero) && decide ((((v.run.hops.map cHop).length:Nat):Int)=0)))))
theorem d_empty (v:Vd):PDoes Tryz.prog 91 [.agg (cVd v)] (.b (emptyB v)):=by
 refine PDoes.of_bodyN Tryz.func91 rfl (by kernel_rfl) rfl rfl ?_
 rw [emptyB]
 (repeat first|apply wA|apply wB|apply wC|apply wE|(apply zM;·kernel_rfl));refine wF ?_;refine wH rfl ?_;(repeat first|apply wA|apply wB|apply wC|apply wE|(apply zM;·kernel_rfl))
 refine AW.text ?_
 by_cases g1:v.why=0
 rotate_left
 ·rw [decide_eq_false g1]
  refine RG.runO ty_ok 0 [(5,.b false)] 400 rfl (by repeat' (first|exact trivial|apply And.intro|exact dT ‹_›|exact dF ‹_›|exact dN ‹_›|exact dM ‹_›|exact dI ‹_›)) ?_
  (repeat first|apply wA|apply wB|apply wC|apply wE|(apply zM;·kernel_rfl)|refine zI rfl ?_|refine zJ rfl ?_)
  refine AW.ret (retQA ty_ok rfl rfl rfl ?_)
  rfl
 rw [decide_eq_true g1,Bool.true_and]
 refine RG.runO ty_ok 0 [(5,.b true)] 400 rfl (by repeat' (first|exact trivial|apply And.intro|exact dT ‹_›|exact dF ‹_›|exact dN ‹_›|exact dM ‹_›|exact dI ‹_›)) ?_
 by_cases g2:v.fro=Sp.zero
 rotate_left
 ·rw [decide_eq_false g2]
  refine RG.opS rfl (op_eqG rfl ty_ok (by kernel_rfl) (by kernel_rfl) rfl rfl (eq_Sp v.fro Sp.zero) (decide_eq_false g2)) rfl ?_
  refine wH rfl ?_;(repeat first|apply wA|apply wB|apply wC|apply wE|(apply zM;·kernel_rfl)|refine zI rfl ?_|refine zJ rfl ?_)
  refine AW.ret (retQA ty_ok rfl rfl rfl ?_)
  rfl
 rw [decide_eq_true g2,Bool.true_and]
 refine RG.opS rfl (op_eqG rfl ty_ok (by kernel_rfl) (by kernel_rfl) rfl rfl (eq_Sp v.fro Sp.zero) (decide_eq_true g2)) rfl ?_
 refine wH rfl ?_
 by_cases g3:v.head=Hd.zero
 rotate_left
 ·rw [decide_eq_false g3]
  refine RG.opS rfl (op_eqG rfl ty_ok (by kernel_rfl) (by kernel_rfl) rfl rfl (eq_Hd v.head Hd.zero) (decide_eq_false g3)) rfl ?_
  refine wH rfl ?_;(repeat first|apply wA|apply wB|apply wC|apply wE|(apply zM;·kernel_rfl)|refine zI rfl ?_|refine zJ rfl ?_)
  refine AW.ret (retQA ty_ok rfl rfl rfl ?_)
  rfl
 rw [decide_eq_true g3,Bool.true_and]
 refine RG.opS rfl (op_eqG rfl ty_ok (by kernel_rfl) (by kernel_rfl) rfl rfl (eq_Hd v.head Hd.zero) (decide_eq_true g3)) rfl ?_
 by_cases g4:v.run.fin=0
 rotate_left
 ·rw [decide_eq_false g4]
  refine RG.runO ty_ok 0 [(22,.b false)] 400 rfl (by repeat' (first|exact trivial|apply And.intro|exact dT ‹_›|exact dF ‹_›|exact dN ‹_›|exact dM ‹_›|exact dI ‹_›)) ?_
  (repeat first|apply wA|apply wB|apply wC|apply wE|(apply zM;·kernel_rfl)|refine zI rfl ?_|refine zJ rfl ?_)
  refine AW.ret (retQA ty_ok rfl rfl rfl ?_)
  rfl
 rw [decide_eq_true g4,Bool.true_and]
 refine RG.runO ty_ok 0 [(22,.b true)] 400 rfl (by repeat' (first|exact trivial|apply And.intro|exact dT ‹_›|exact dF ‹_›|exact dN ‹_›|exact dM ‹_›|exact dI ‹_›)) ?_
 by_cases g5:v.run.at_=Sp.zero
 rotate_left
 ·rw [decide_eq_false g5]
  refine RG.opS rfl (op_eqG rfl ty_ok (by kernel_rfl) (by kernel_rfl) rfl rfl (eq_Sp v.run.at_ Sp.zero) (decide_eq_false g5)) rfl ?_
  refine wH rfl ?_;(repeat first|apply wA|apply wB|apply wC|apply wE|(apply zM;·kernel_rfl)|refine zI rfl ?_|refine zJ rfl ?_)
  refine AW.ret (retQA ty_ok rfl rfl rfl ?_)
  rfl
 rw [decide_eq_true g5,Bool.true_and]
 refine RG.opS rfl (op_eqG rfl ty_ok (by kernel_rfl) (by kernel_rfl) rfl rfl (eq_Sp v.run.at_ Sp.zero) (decide_eq_true g5)) rfl ?_
 refine wH rfl ?_;(repeat first|apply wA|apply wB|apply wC|apply wE|(apply zM;·kernel_rfl)|refine zI rfl ?_|refine zJ rfl ?_)
 refine AW.ret (retQA ty_ok rfl rfl rfl ?_)
 rfl
def holdsB (c:Cf) (V:Int) (v:Vd):Bool :=
 if v.kind=2 then decide (v.e=0) && (decide (v.why∈([1,2,3,4]:List Int)) && (traceB c v.fro v.head V v.run && decide (wrongJ c v.fro v.run=v.why)))
 else if v.kind=3 then !decide (malE c V=0) && (decide (v.e=malE c V) && emptyB v) else false
theorem d_Holds (c:Cf) (V:Int) (v:Vd):PDoes Tryz.prog 48 [.agg (cCf c),.i .i64 V,.agg (cVd v)] (.b (holdsB c V v)):=by
  refine PDoes.of_bodyN Tryz.func48 rfl (by kernel_rfl) rfl rfl ?_
  rw [holdsB]
  (repeat first|apply wA|apply wB|apply wC|apply wE|(apply zM;·kernel_rfl)|refine zI rfl ?_|refine zJ rfl ?_)
  refine AW.cond rfl (fun k2=>?_) (fun k2=>?_)
  · have k2:v.kind=2:=of_decide_eq_true k2
    rw [if_pos k2]
    (repeat first|apply wA|apply wB|apply wC|apply wE|(apply zM;·kernel_rfl))
    refine AW.draws mixed_ok ?_
    by_cases g1:v.e=0
    rotate_left
    · rw [decide_eq_false g1]
      refine RG.runO ty_ok 0 [(14,.b false)] 400 rfl (by repeat' (first|exact trivial|apply And.intro|exact dT ‹_›|exact dF ‹_›|exact dN ‹_›|exact dM ‹_›|exact dI ‹_›)) ?_
      (repeat first|apply wA|apply wB|apply wC|apply wE|(apply zM;·kernel_rfl)|refine zI rfl ?_|refine zJ rfl ?_)
      refine AW.ret (retQA ty_ok rfl rfl rfl ?_)
      rfl
    rw [decide_eq_true g1,Bool.true_and]
    refine RG.runO ty_ok 0 [(14,.b true)] 400 rfl (by repeat' (first|exact trivial|apply And.intro|exact dT ‹_›|exact dF ‹_›|exact dN ‹_›|exact dM ‹_›|exact dI ‹_›)) ?_
    refine RG.callMS rfl rfl rfl rfl rfl rfl d_wrongs rfl ?_
    refine wH rfl ?_
    cases g2:decide (v.why∈([1,2,3,4]:List Int))
    · refine RG.callS rfl rfl rfl rfl rfl (d_Contains_Int v.why [1,2,3,4] _ g2) rfl rfl ?_;refine wH rfl ?_;(repeat first|apply wA|apply wB|apply wC|apply wE|(apply zM;·kernel_rfl)|refine zI rfl ?_|refine zJ rfl ?_)
      refine AW.ret (retQA ty_ok rfl rfl rfl ?_)
      rfl
    refine RG.callS rfl rfl rfl rfl rfl (d_Contains_Int v.why [1,2,3,4] _ g2) rfl rfl ?_
    refine wH rfl ?_
    have hT:=d_Trace c v.fro v.head V v.run
    rw [Bool.true_and]
    cases g3:traceB c v.fro v.head V v.run
    · rw [g3] at hT
      refine RG.callS rfl rfl rfl rfl rfl hT rfl rfl ?_;refine wH rfl ?_;(repeat first|apply wA|apply wB|apply wC|apply wE|(apply zM;·kernel_rfl)|refine zI rfl ?_|refine zJ rfl ?_)
      refine AW.ret (retQA ty_ok rfl rfl rfl ?_)
      rfl
    rw [g3] at hT
    refine RG.callS rfl rfl rfl rfl rfl hT rfl rfl ?_
    refine wH rfl ?_
    refine RG.callS rfl rfl rfl rfl rfl (d_JWrong c v.fro v.run) rfl rfl ?_;refine wH rfl ?_;(repeat first|apply wA|apply wB|apply wC|apply wE|(apply zM;·kernel_rfl)|refine zI rfl ?_|refine zJ rfl ?_)
    refine AW.ret (retQA ty_ok rfl rfl rfl ?_)
    rfl
  have k2:¬v.kind=2:=of_decide_eq_false k2
  rw [if_neg k2]
  (repeat first|apply wA|apply wB|apply wC|apply wE|(apply zM;·kernel_rfl)|refine zI rfl ?_|refine zJ rfl ?_)
  refine AW.cond rfl (fun k3=>?_) (fun k3=>?_)
  rotate_left
  · have k3:¬v.kind=3:=of_decide_eq_false k3
    rw [if_neg k3]
    (repeat first|apply wA|apply wB|apply wC|apply wE|(apply zM;·kernel_rfl)|refine zI rfl ?_|refine zJ rfl ?_)
    refine AW.ret (retQA ty_ok rfl rfl rfl ?_)
    rfl
  have k3:v.kind=3:=of_decide_eq_true k3
  rw [if_pos k3]
  by_cases h0:c.sound=0
  rotate_left
  · have e:malE c V=c.sound:=by rw [malE,if_neg h0]
    rw [e,decide_eq_false h0,Bool.not_false,Bool.true_and]
    (repeat first|apply wA|apply wB|apply wC|apply wE|(apply zM;·kernel_rfl)|refine zI rfl ?_|refine zJ rfl ?_)
    refine RG.callS rfl rfl rfl rfl rfl (d_CSound c) rfl rfl ?_
    refine wH rfl ?_;(repeat first|apply wA|apply wB|apply wC|apply wE|(apply zM;·kernel_rfl))
    refine AW.text ?_
    refine RG.runO ty_ok 0 [(48,.b false)] 400 rfl (by repeat' (first|exact trivial|apply And.intro|exact dT ‹_›|exact dF ‹_›|exact dN ‹_›|exact dM ‹_›|exact dI ‹_›)) ?_
    (repeat first|apply wA|apply wB|apply wC|apply wE|(apply zM;·kernel_rfl));refine AW.condF rfl ?_;(repeat first|apply wA|apply wB|apply wC|apply wE|(apply zM;·kernel_rfl))
    refine AW.text ?_
    by_cases g4:v.e=c.sound
    · rw [decide_eq_true g4,Bool.true_and]
      refine RG.runO ty_ok 0 [(58,.b true),(63,.b true)] 400 rfl (by repeat' (first|exact trivial|apply And.intro|exact dT ‹_›|exact dF ‹_›|exact dN ‹_›|exact dM ‹_›|exact dI ‹_›)) ?_
      refine RG.callS rfl rfl rfl rfl rfl (d_empty v) rfl rfl ?_;refine wH rfl ?_;(repeat first|apply wA|apply wB|apply wC|apply wE|(apply zM;·kernel_rfl)|refine zI rfl ?_|refine zJ rfl ?_)
      refine AW.ret (retQA ty_ok rfl rfl rfl ?_)
      rfl
    · rw [decide_eq_false g4]
      refine RG.runO ty_ok 0 [(58,.b true),(63,.b false)] 400 rfl (by repeat' (first|exact trivial|apply And.intro|exact dT ‹_›|exact dF ‹_›|exact dN ‹_›|exact dM ‹_›|exact dI ‹_›)) ?_
      (repeat first|apply wA|apply wB|apply wC|apply wE|(apply zM;·kernel_rfl)|refine zI rfl ?_|refine zJ rfl ?_)
      refine AW.ret (retQA ty_ok rfl rfl rfl ?_)
      rfl
  have hCS:=d_CSound c
  rw [h0] at hCS
  (repeat first|apply wA|apply wB|apply wC|apply wE|(apply zM;·kernel_rfl)|refine zI rfl ?_|refine zJ rfl ?_)
  refine RG.callS rfl rfl rfl rfl rfl hCS rfl rfl ?_
  refine wH rfl ?_;(repeat first|apply wA|apply wB|apply wC|apply wE|(apply zM;·kernel_rfl))
  refine AW.text ?_
  by_cases g1:V<0
  · refine RG.runO ty_ok 0 [(51,.b true)] 400 rfl (by repeat' (first|exact trivial|apply And.intro|exact dT ‹_›|exact dF ‹_›|exact dN ‹_›|exact dM ‹_›|exact dI ‹_›)) ?_
    have e:malE c V=4:=by rw [malE,if_pos h0,if_pos (by omega)]
    rw [e]
    (repeat first|apply wA|apply wB|apply wC|apply wE|(apply zM;·kernel_rfl));refine AW.condT rfl ?_;(repeat first|apply wA|apply wB|apply wC|apply wE|(apply zM;·kernel_rfl));refine wF ?_;refine wH rfl ?_;(repeat first|apply wA|apply wB|apply wC|apply wE|(apply zM;·kernel_rfl))
    refine AW.text ?_
    by_cases g4:v.e=4
    · rw [decide_eq_true g4]
      refine RG.runO ty_ok 0 [(63,.b true)] 400 rfl (by repeat' (first|exact trivial|apply And.intro|exact dT ‹_›|exact dF ‹_›|exact dN ‹_›|exact dM ‹_›|exact dI ‹_›)) ?_
      refine RG.callS rfl rfl rfl rfl rfl (d_empty v) rfl rfl ?_;refine wH rfl ?_;(repeat first|apply wA|apply wB|apply wC|apply wE|(apply zM;·kernel_rfl)|refine zI rfl ?_|refine zJ rfl ?_)
      refine AW.ret (retQA ty_ok rfl rfl rfl ?_)
      rfl
    · rw [decide_eq_false g4]
      refine RG.runO ty_ok 0 [(63,.b false)] 400 rfl (by repeat' (first|exact trivial|apply And.intro|exact dT ‹_›|exact dF ‹_›|exact dN ‹_›|exact dM ‹_›|exact dI ‹_›)) ?_
      (repeat first|apply wA|apply wB|apply wC|apply wE|(apply zM;·kernel_rfl)|refine zI rfl ?_|refine zJ rfl ?_)
      refine AW.ret (retQA ty_ok rfl rfl rfl ?_)
      rfl
  · by_cases g2:V>255
    · refine RG.runO ty_ok 0 [(51,.b false),(54,.b true)] 400 rfl (by repeat' (first|exact trivial|apply And.intro|exact dT ‹_›|exact dF ‹_›|exact dN ‹_›|exact dM ‹_›|exact dI ‹_›)) ?_
      have e:malE c V=4:=by rw [malE,if_pos h0,if_pos (by omega)]
      rw [e]
      (repeat first|apply wA|apply wB|apply wC|apply wE|(apply zM;·kernel_rfl));refine AW.condT rfl ?_;(repeat first|apply wA|apply wB|apply wC|apply wE|(apply zM;·kernel_rfl));refine wF ?_;refine wH rfl ?_;(repeat first|apply wA|apply wB|apply wC|apply wE|(apply zM;·kernel_rfl))
      refine AW.text ?_
      by_cases g4:v.e=4
      · rw [decide_eq_true g4]
        refine RG.runO ty_ok 0 [(63,.b true)] 400 rfl (by repeat' (first|exact trivial|apply And.intro|exact dT ‹_›|exact dF ‹_›|exact dN ‹_›|exact dM ‹_›|exact dI ‹_›)) ?_
        refine RG.callS rfl rfl rfl rfl rfl (d_empty v) rfl rfl ?_;refine wH rfl ?_;(repeat first|apply wA|apply wB|apply wC|apply wE|(apply zM;·kernel_rfl)|refine zI rfl ?_|refine zJ rfl ?_)
        refine AW.ret (retQA ty_ok rfl rfl rfl ?_)
        rfl
      · rw [decide_eq_false g4]
        refine RG.runO ty_ok 0 [(63,.b false)] 400 rfl (by repeat' (first|exact trivial|apply And.intro|exact dT ‹_›|exact dF ‹_›|exact dN ‹_›|exact dM ‹_›|exact dI ‹_›)) ?_
        (repeat first|apply wA|apply wB|apply wC|apply wE|(apply zM;·kernel_rfl)|refine zI rfl ?_|refine zJ rfl ?_)
        refine AW.ret (retQA ty_ok rfl rfl rfl ?_)
        rfl
    · refine RG.runO ty_ok 0 [(51,.b false),(54,.b false)] 400 rfl (by repeat' (first|exact trivial|apply And.intro|exact dT ‹_›|exact dF ‹_›|exact dN ‹_›|exact dM ‹_›|exact dI ‹_›)) ?_
      have e:malE c V=0:=by rw [malE,if_pos h0,if_neg (by omega)]
      rw [e]
      (repeat first|apply wA|apply wB|apply wC|apply wE|(apply zM;·kernel_rfl));refine AW.condF rfl ?_;(repeat first|apply wA|apply wB|apply wC|apply wE|(apply zM;·kernel_rfl)|refine zI rfl ?_|refine zJ rfl ?_)
      refine AW.ret (retQA ty_ok rfl rfl rfl ?_)
      rfl
end Go.Proofs.YtahjjfhjjbgjaaaGreat.Sm
end
section
namespace Go.Proofs.YtahjjfhjjbgjaaaGreat.Sm
open Go.RowKit
theorem d_awake16:PDoes Tryz.prog 47 [] (.b true):=by
 refine PDoes.of_bodyN Tryz.func47 rfl (by kernel_rfl) rfl rfl ?_
 have hJ:=d_JudgeC badD 0 _ badD_looks rfl (by kernel_rfl) rfl
 have e1:holdsB badD 0 (judgeOf badD 0 (insS (askedOf badD 0)))=true:=by kernel_rfl
 have e2:holdsB badD 0 { judgeOf badD 0 (insS (askedOf badD 0)) with why:=3 }=false:=by kernel_rfl
 have e3:holdsB badD 0 (vdE 1 0)=false:=by kernel_rfl
 have e4:traceB badD (judgeOf badD 0 (insS (askedOf badD 0))).fro (judgeOf badD 0 (insS (askedOf badD 0))).head 0 (judgeOf badD 0 (insS (askedOf badD 0))).run=true:=by kernel_rfl
 generalize judgeOf badD 0 (insS (askedOf badD 0))=v at hJ e1 e2 e4
 have h1:=d_Holds badD 0 v
 have h2:=d_Holds badD 0 { v with why:=3 }
 have h3:=d_Holds badD 0 (vdE 1 0)
 have h4:=d_Trace badD v.fro v.head 0 v.run
 rw [e1] at h1
 rw [e2] at h2
 rw [e3] at h3
 rw [e4] at h4
 (repeat first|apply wA|apply wB|apply wC|apply wE|(apply zM;·kernel_rfl)|refine zI rfl ?_|refine zJ rfl ?_)
 refine RG.ownN [] [(300,310),(301,311),(302,312),(24,324),(30,330),(12,313)] m_line16 rfl rfl rfl rfl rfl rfl rfl rfl rfl rfl ?_
 refine wH rfl ?_;(repeat first|apply wA|apply wB|apply wC|apply wE|(apply zM;·kernel_rfl)|refine zI rfl ?_|refine zJ rfl ?_)
 refine RG.opS rfl (op_indexRef 0 rfl (tab_ok ty_ok rfl) rfl (tab_ok ty_ok rfl) rfl rfl rfl rfl (by decide)) rfl ?_
 refine wH rfl ?_
 refine RG.opS rfl (op_indexRef 0 rfl (tab_ok ty_ok rfl) rfl (tab_ok ty_ok rfl) rfl rfl rfl rfl (by decide)) rfl ?_
 refine wH rfl ?_
 refine RG.opS rfl (op_indexRef 0 rfl (tab_ok ty_ok rfl) rfl (tab_ok ty_ok rfl) rfl rfl rfl rfl (by decide)) rfl ?_
 refine wH rfl ?_
 refine RG.opS rfl (op_sliceR (h:=1) rfl (tab_ok ty_ok rfl) rfl (tab_ok ty_ok rfl) rfl rfl .no (.at_ rfl) (by decide)) rfl ?_
 refine wH rfl ?_
 refine RG.opS rfl (op_indexRef 0 rfl (tab_ok ty_ok rfl) rfl (tab_ok ty_ok rfl) rfl rfl rfl rfl (by decide)) rfl ?_
 refine wH rfl ?_;(repeat first|apply wA|apply wB|apply wC|apply wE|(apply zM;·kernel_rfl))
 refine AW.freeze [310,311,312,324,330,313] [(1,.own 1 0 0)] [(1,⟨0,some (.box 31 (cCf badD))⟩)] ⟨.rn (Rn.ownIs rfl rfl rfl),trivial⟩ ⟨.boxL rfl ⟨.fzA rfl rfl rfl,RnF.is rfl rfl,RnF.is rfl rfl,RnF.is rfl rfl,.fzA rfl rfl rfl,trivial⟩ rfl,trivial⟩ rfl ?_
 (repeat first|apply wA|apply wB|apply wC|apply wE|(apply zM;·kernel_rfl)|refine zI rfl ?_|refine zJ rfl ?_)
 refine RG.callMS rfl rfl rfl rfl rfl rfl hJ rfl ?_;refine wH rfl ?_;(repeat first|apply wA|apply wB|apply wC|apply wE|(apply zM;·kernel_rfl)|refine zI rfl ?_|refine zJ rfl ?_)
 refine RG.callS rfl rfl rfl rfl rfl h1 rfl rfl ?_;refine wH rfl ?_;(repeat first|apply wA|apply wB|apply wC|apply wE|(apply zM;·kernel_rfl)|refine zI rfl ?_|refine zJ rfl ?_)
 refine RG.callS rfl rfl rfl rfl rfl h2 rfl rfl ?_
 refine wH rfl ?_
 refine RG.callS rfl rfl rfl rfl rfl h3 rfl rfl ?_
 refine wH rfl ?_
 refine RG.callS rfl rfl rfl rfl rfl h4 rfl rfl ?_;refine wH rfl ?_;(repeat first|apply wA|apply wB|apply wC|apply wE|(apply zM;·kernel_rfl)|refine zI rfl ?_|refine zJ rfl ?_)
 refine AW.ret (retQA ty_ok rfl rfl rfl ?_)
 rfl
theorem wrongOf_in {c:Cf} {s:Sp} {r:Run} (h:wrongOf c s r≠0):wrongOf c s r∈([1,2,3,4]:List Int):=by
 rw [wrongOf] at h ⊢
 split
 ·decide
 split
 ·decide
 rename_i h3 h4
 rw [if_neg h3,if_neg h4] at h
 split
 ·rename_i h2
  rw [if_pos h2] at h
  cases ha:allowed c.pol (edgeOf c.topo.ports s) (edgeOf c.topo.ports r.at_)
  ·show (3:Int)∈([1,2,3,4]:List Int);decide
  ·rw [ha,cond_true] at h
   rw [cond_true]
   cases hv:(vias c.pol (edgeOf c.topo.ports s) (edgeOf c.topo.ports r.at_)).any fun n=>!passed r n
   ·rw [hv] at h;exact absurd rfl h
   ·show (4:Int)∈([1,2,3,4]:List Int);decide
 ·rename_i h2
  rw [if_neg h2] at h
  exact absurd rfl h
theorem stamp_edge {c:Cf} {s:Sp} {V:Int} (e:stampE c s V=0):c.sound=0∧¬edgeOf c.topo.ports s<0:=by
 rw [stampE] at e
 split at e
 ·rename_i h0
  split at e
  ·cases e
  split at e
  ·rename_i hs
   have:=(edgeOf_iff (Cf.ok h0).topo).2 hs
   exact ⟨h0,by omega⟩
  ·cases e
 ·rename_i h0;exact absurd e h0
theorem holds2 {c:Cf} {V:Int} {v:Vd} (k:v.kind=2):holdsB c V v=(decide (v.e=0) && (!decide (v.why=0) && (bif decide (stampE c v.fro V=0) then runEq (runOf c v.fro v.head V 10800) v.run && decide (wrongOf c v.fro (runOf c v.fro v.head V 10800)=v.why) else false))):=by
 rw [holdsB,if_pos k]
 congr 1
 by_cases e:stampE c v.fro V=0
 ·rw [decide_eq_true e,cond_true]
  obtain ⟨h0,h1⟩:=stamp_edge e
  rw [Bool.eq_iff_iff]
  simp only [Bool.and_eq_true,decide_eq_true_eq,traceB_iff,runEq_iff,Bool.not_eq_true',decide_eq_false_iff_not]
  constructor
  ·rintro ⟨g1,⟨_,g2⟩,g3⟩
   rw [wrongJ,if_pos ⟨h0,h1⟩,g2] at g3
   refine ⟨fun hz=>?_,g2.symm,g3⟩
   rw [hz] at g1
   revert g1
   decide
  ·rintro ⟨g1,g2,g3⟩
   refine ⟨?_,⟨e,g2.symm⟩,?_⟩
   ·rw [← g3]
    exact wrongOf_in (by rw [g3];exact g1)
   ·rw [wrongJ,if_pos ⟨h0,h1⟩,← g2]
    exact g3
 ·rw [decide_eq_false e,cond_false,Bool.and_false]
  have:traceB c v.fro v.head V v.run=false:=by
   rw [Bool.eq_false_iff]
   exact fun H=>e (traceB_iff.1 H).1
  rw [this,Bool.false_and,Bool.and_false]
end Go.Proofs.YtahjjfhjjbgjaaaGreat.Sm
end
section
namespace Go.Proofs.YtahjjfhjjbgjaaaGreat.Sm
open Go.RowKit
theorem holds_mal {c:Cf} {V:Int} (h:malE c V≠0):holdsB c V (vdE 3 (malE c V))=true:=by
 rw [holdsB,if_neg (by show ¬(3:Int)=2;decide),if_pos (show (vdE 3 (malE c V)).kind=3 from rfl),decide_eq_false h]
 show (true && (decide (malE c V=malE c V) && emptyB (vdE 3 (malE c V))))=true
 rw [decide_eq_true rfl]
 rfl
theorem holds_rej {c:Cf} {v:Nat} (hv:v≤255) (h0:c.sound=0) {s:Sp} {h:Hd} (hs:s∈edges c.topo.ports) (hw:wrongOf c s (runOf c s h v 10800)≠0):holdsB c (v:Int) ⟨2,0,wrongOf c s (runOf c s h v 10800),s,h,runOf c s h v 10800⟩=true:=by
 rw [holds2 rfl]
 have e:stampE c s (v:Int)=0:=by
  have:=(edgeOf_iff (Cf.ok h0).topo).2 hs
  simp only [stampE]
  first
   | (rw [if_pos h0];split <;> first | rfl | omega)
   | (split <;> first | rfl | omega)
 show (decide ((0:Int)=0) && (!decide (wrongOf c s (runOf c s h v 10800)=0) && (bif decide (stampE c s (v:Int)=0) then runEq (runOf c s h v 10800) (runOf c s h v 10800) && decide (wrongOf c s (runOf c s h v 10800)=wrongOf c s (runOf c s h v 10800)) else false)))=true
 rw [decide_eq_true e,decide_eq_false hw,runEq_iff.2 rfl,decide_eq_true (rfl:wrongOf c s (runOf c s h v 10800)=_)]
 rfl
theorem malE_nat16 {c:Cf} {V:Int} (h:malE c V=0):∃v:Nat,V=v∧v≤255:=by
 rw [malE,if_pos (malE_sound h)] at h
 split at h
 ·cases h
 ·exact ⟨V.toNat,by omega,by omega⟩
theorem holds_kind {c:Cf} {V:Int} {v:Vd} (h2:v.kind≠2) (h3:v.kind≠3):holdsB c V v=false:=by
 rw [holdsB,if_neg h2,if_neg h3]
theorem ProofJudged_d (c:Cf) (V:Int) (hL:c.Lens):PDoes Tryz.prog 19 [.agg (cCf c),.i .i64 V] (.b true):=by
  refine PDoes.of_bodyN Tryz.func19 rfl (by kernel_rfl) rfl rfl ?_
  have hJ:=d_JudgeG c V hL
  have hH:=d_Holds c V (judgeG c V)
  by_cases h0:malE c V=0
  rotate_left
  · have e:judgeG c V=vdE 3 (malE c V):=by rw [judgeG,judgeOf,decide_eq_false h0];rfl
    rw [e] at hJ hH
    rw [holds_mal h0] at hH
    (repeat first|apply wA|apply wB|apply wC|apply wE|(apply zM;·kernel_rfl)|refine zI rfl ?_|refine zJ rfl ?_)
    refine RG.callMS rfl rfl rfl rfl rfl rfl hJ rfl ?_;refine wH rfl ?_;(repeat first|apply wA|apply wB|apply wC|apply wE|(apply zM;·kernel_rfl)|refine zI rfl ?_|refine zJ rfl ?_)
    refine RG.callS rfl rfl rfl rfl rfl d_awake16 rfl rfl ?_
    refine wH rfl ?_
    refine RG.callS rfl rfl rfl rfl rfl hH rfl rfl ?_;refine wH rfl ?_;(repeat first|apply wA|apply wB|apply wC|apply wE|(apply zM;·kernel_rfl)|refine zI rfl ?_|refine zJ rfl ?_)
    refine AW.ret (retQA ty_ok rfl rfl rfl ?_)
    rfl
  obtain ⟨v,rfl,hv⟩:=malE_nat16 h0
  have hs0:=malE_sound h0
  rcases judgeG_cases c v hv hs0 with ⟨e,he,hj⟩ | ⟨hj,hall⟩ | ⟨s',h',hs',hw,hj⟩
  · rw [hj] at hJ hH
    rw [holds_kind (by show (4:Int)≠2;decide) (by show (4:Int)≠3;decide)] at hH
    (repeat first|apply wA|apply wB|apply wC|apply wE|(apply zM;·kernel_rfl)|refine zI rfl ?_|refine zJ rfl ?_)
    refine RG.callMS rfl rfl rfl rfl rfl rfl hJ rfl ?_;refine wH rfl ?_;(repeat first|apply wA|apply wB|apply wC|apply wE|(apply zM;·kernel_rfl)|refine zI rfl ?_|refine zJ rfl ?_)
    refine RG.callS rfl rfl rfl rfl rfl d_awake16 rfl rfl ?_
    refine wH rfl ?_
    refine RG.callS rfl rfl rfl rfl rfl hH rfl rfl ?_;refine wH rfl ?_;(repeat first|apply wA|apply wB|apply wC|apply wE|(apply zM;·kernel_rfl)|refine zI rfl ?_|refine zJ rfl ?_)
    refine AW.ret (retQA ty_ok rfl rfl rfl ?_)
    rfl
  · rw [hj] at hJ hH
    rw [holds_kind (by show (1:Int)≠2;decide) (by show (1:Int)≠3;decide)] at hH
    (repeat first|apply wA|apply wB|apply wC|apply wE|(apply zM;·kernel_rfl)|refine zI rfl ?_|refine zJ rfl ?_)
    refine RG.callMS rfl rfl rfl rfl rfl rfl hJ rfl ?_;refine wH rfl ?_;(repeat first|apply wA|apply wB|apply wC|apply wE|(apply zM;·kernel_rfl)|refine zI rfl ?_|refine zJ rfl ?_)
    refine RG.callS rfl rfl rfl rfl rfl d_awake16 rfl rfl ?_
    refine wH rfl ?_
    refine RG.callS rfl rfl rfl rfl rfl hH rfl rfl ?_;refine wH rfl ?_;(repeat first|apply wA|apply wB|apply wC|apply wE|(apply zM;·kernel_rfl)|refine zI rfl ?_|refine zJ rfl ?_)
    refine AW.ret (retQA ty_ok rfl rfl rfl ?_)
    rfl
  · rw [hj] at hJ hH
    rw [holds_rej hv hs0 hs' hw] at hH
    (repeat first|apply wA|apply wB|apply wC|apply wE|(apply zM;·kernel_rfl)|refine zI rfl ?_|refine zJ rfl ?_)
    refine RG.callMS rfl rfl rfl rfl rfl rfl hJ rfl ?_;refine wH rfl ?_;(repeat first|apply wA|apply wB|apply wC|apply wE|(apply zM;·kernel_rfl)|refine zI rfl ?_|refine zJ rfl ?_)
    refine RG.callS rfl rfl rfl rfl rfl d_awake16 rfl rfl ?_
    refine wH rfl ?_
    refine RG.callS rfl rfl rfl rfl rfl hH rfl rfl ?_;refine wH rfl ?_;(repeat first|apply wA|apply wB|apply wC|apply wE|(apply zM;·kernel_rfl)|refine zI rfl ?_|refine zJ rfl ?_)
    refine AW.ret (retQA ty_ok rfl rfl rfl ?_)
    rfl
end Go.Proofs.YtahjjfhjjbgjaaaGreat.Sm
end
section
namespace Go.Proofs.YtahjjfhjjbgjaaaGreat
open Go.RowKit Go.WideShapes Go.ChangeShapes Go.Deep Sm
theorem ProofJudged_law {H:Type} {e:TypeId × Value→H} (W:World) (b0:Nat)
  (v0:Value) (d0:DataW H) (p0:List MemPlace) (ok0:Value.okWide Tryz.prog W .any b0 31 v0) (h0:DataW.Trod e Tryz.prog W 0 (fun _=>true) true 31 v0 d0 p0)
  (v1:Value) (d1:DataW H) (p1:List MemPlace) (ok1:Value.okWide Tryz.prog W .any b0 3 v1) (h1:DataW.Trod e Tryz.prog W 0 (fun _=>true) true 3 v1 d1 p1)
  (hsz:(DataW.weightsEach Tryz.prog [31,3] [d0,d1]).all (·≤reachBytes)=true)
  : Calls Tryz.prog 19 #[v0,v1] W fun e W'=>e = .returned (.bool true)∧Kp No W W':=by
 obtain ⟨a0,r0,q0⟩:=rz_Cf.arg_struct Tryz.underlying31 hsz 0 rfl rfl ok0 h0
 obtain ⟨a1,r1⟩:=ra_int.arg_int Tryz.underlying3 ok1 h1
 exact (ProofJudged_d a0 a1 q0).law (vs:=[v0,v1]) rfl (pw_cons r0 (pw_cons r1 (pw_nil)))
end Go.Proofs.YtahjjfhjjbgjaaaGreat
end
