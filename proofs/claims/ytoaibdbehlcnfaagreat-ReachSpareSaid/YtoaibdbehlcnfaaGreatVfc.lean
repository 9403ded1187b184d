/- Contracts of the program's functions over data, and the plain laws that they meet (part 3). No condition. -/
import Derived.Test.YtoaibdbehlcnfaaGreatVfb
import Derived.WalkKit
import Derived.WalkSpells
import Derived.WalkLawsBesides
import Derived.Lib.Hide
import Derived.Deep.RegionHeld3
import Derived.Maps.AppendAt
import Derived.KernelRfl
import Derived.Lib.AppendStr
import Derived.Orders
import Derived.LoopTactic
import Derived.Laws.CopyRow
import Derived.Laws.Cells
import Derived.OrdersIn
import Derived.Laws.Externs
import Derived.TacticsIn
import Derived.RangeFuncLeaves
import Derived.RangeFuncRecord
import Derived.Great.BuildSlice
import Derived.Laws.ResultCell
import Derived.Laws.StructEq
import Derived.Laws.MakeOwn
import Derived.Deep.Slices
import Derived.Deep.Fields
import Derived.ChangeSame
import Derived.ProofKit
import Derived.OpenShut
import Derived.SizedLaws
import Derived.Test.YtoaibdbehlcnfaaGreatProg
import Derived.Shelf.Spec.BitsCarry
set_option linter.unusedVariables false
set_option linter.unusedSimpArgs false
set_option maxRecDepth 100000
set_option maxHeartbeats 4000000
section
section
namespace Go.Proofs.YtoaibdbehlcnfaaGreat.Sm
open Go.RowKit
structure Enc {α:Type} (R:Rep α) (enc:α->List AV):Prop where
 len:∀x,(enc x).length=R.n
 one:∀x,∀y∈enc x,y.one=true
 to:∀{W:World} {F:Nat->Prop} {x:α} {cs:List Value},R.rel W F x cs->∀(j:Nat) (y:AV) (u:Value),(enc x)[j]?=some y->cs[j]?=some u->PRel W F y u
 of:∀{W:World} {F:Nat->Prop} {x:α} {cs:List Value},cs.length=R.n->(∀(j:Nat) (y:AV) (u:Value),(enc x)[j]?=some y->cs[j]?=some u->PRel W F y u)->R.rel W F x cs
theorem all2_build {α:Type} {r:α->List Value->Prop} {g:Nat->List Value}:∀(xs:List α) (k0:Nat),(∀(k:Nat) (x:α),xs[k]?=some x->r x (g (k0+k)))->All2 r xs ((List.range' k0 xs.length).flatMap g)
 | [],k0,_=>rfl
 | x::xs,k0,h=>by
  refine ⟨g k0,(List.range' (k0+1) xs.length).flatMap g,by simp [List.range'_succ],h 0 x rfl,all2_build xs (k0+1) fun k y hk=>?_⟩
  have:=h (k+1) y (by simpa using hk)
  rwa [show k0+(k+1)=k0+1+k by omega] at this
theorem flatMap_get {g:Nat->List Value} {n:Nat} (hg:∀k,(g k).length=n):∀(m k0 j:Nat) (u:Value),((List.range' k0 m).flatMap g)[j]?=some u->∃k i,k<m/\i<n/\j=k*n+i/\(g (k0+k))[i]?=some u
 | 0,k0,j,u,h=>by simp at h
 | m+1,k0,j,u,h=>by
  rw [List.range'_succ,List.flatMap_cons,List.getElem?_append,hg] at h
  split at h
  ·rename_i hlt
   exact ⟨0,j,by omega,hlt,by simp,by simpa using h⟩
  ·rename_i hge
   obtain ⟨k,i,h1,h2,h3,h4⟩:=flatMap_get hg m (k0+1) (j - n) u h
   refine ⟨k+1,i,by omega,h2,by rw [Nat.add_mul];omega,?_⟩
   rwa [show k0+(k+1)=k0+1+k by omega]
section
variable {α : Type} {R : Rep α} {enc : α -> List AV} {W : World} {F : Nat -> Prop} {xs : List α} {v : Value}
theorem Enc.sl (E:Enc R enc) (h:SliceAt R W F xs v):PRel W F (.sl (xs.map enc)) v:=by
  obtain ⟨A,c,rfl,hc,hm,h3⟩:=h
  have hlen:(xs.map enc).length=xs.length:=by simp
  have get:∀(k:Nat) (cs:List AV),(xs.map enc)[k]?=some cs->∃x,xs[k]?=some x/\enc x=cs:=fun k cs hk=>by
    rw [List.getElem?_map] at hk
    cases hx:xs[k]? with
    | none=>rw [hx] at hk;cases hk
    | some x=>rw [hx] at hk;exact ⟨x,rfl,by simpa using hk⟩
  by_cases hp:0<xs.length
  · obtain ⟨b,off,rfl,hF,hb,cells,ha,hcell⟩:=h3 hp
    have key := PRel.sl (W := W) (F := F) (xs.map enc) (some ⟨b, off, none⟩) c R.n b off (fun k j => cells.getD (k * R.n + j) undef) (by simpa using hc) hm (fun _ => ⟨rfl, hF, hb⟩) (fun k cs hk => by
        obtain ⟨x,_,rfl⟩:=get k cs hk
        exact E.len x) (fun k cs j y hk hj=>by
        obtain ⟨x,_,rfl⟩:=get k cs hk
        exact E.one x y (List.mem_of_getElem? hj)) (fun k cs j y hk hj=>?_) (fun k cs j y hk hj=>?_)
    · rw [hlen] at key
      exact key
    · obtain ⟨x,hx,rfl⟩:=get k cs hk
      obtain ⟨cs,hr,hg⟩:=ha.get (fun _ _=>R.len) hx
      obtain ⟨u,hu⟩:∃u,cs[j]?=some u:=⟨_,List.getElem?_eq_getElem (by rw [R.len hr,<- E.len x];exact (List.getElem?_eq_some_iff.1 hj).1)⟩
      have:cells.getD (k*R.n+j) undef=u:=by rw [List.getD_eq_getElem?_getD,hg j u hu];rfl
      rw [this]
      exact E.to hr j y u hj hu
    · obtain ⟨x,hx,rfl⟩:=get k cs hk
      obtain ⟨cs,hr,hg⟩:=ha.get (fun _ _=>R.len) hx
      obtain ⟨u,hu⟩:∃u,cs[j]?=some u:=⟨_,List.getElem?_eq_getElem (by rw [R.len hr,<- E.len x];exact (List.getElem?_eq_some_iff.1 hj).1)⟩
      have:cells.getD (k*R.n+j) undef=u:=by rw [List.getD_eq_getElem?_getD,hg j u hu];rfl
      rw [this]
      exact hcell _ u (hg j u hu)
  · obtain rfl:xs=[]:=List.eq_nil_of_length_eq_zero (by omega)
    exact .sl [] A c 0 0 0 (fun _ _=>undef) (Nat.zero_le _) hm (fun h=>absurd h (Nat.lt_irrefl _)) (by simp) (by simp) (by simp) (by simp)
theorem Enc.slice_of (E:Enc R enc) (h0:0<R.n) (h:PRel W F (.sl (xs.map enc)) v):SliceAt R W F xs v:=by
 cases h with
 | sl _ A c m b off cell hc hm hA hl hone hr hw =>
  have hlen:(xs.map enc).length=xs.length:=by simp
  rw [hlen] at hc hA ⊢
  refine ⟨A,c,rfl,hc,hm,fun hp=>?_⟩
  obtain ⟨rfl,hF,hb⟩:=hA hp
  have get:∀(k:Nat) (x:α),xs[k]?=some x->(xs.map enc)[k]?=some (enc x):=fun k x hk=>by rw [List.getElem?_map,hk];rfl
  have hmn:m=R.n:=by
   have h1:=get 0 _ (List.getElem?_eq_getElem hp)
   rw [<- hl 0 _ h1,E.len]
  subst hmn
  let g:Nat->List Value:=fun k=>(List.range R.n).map (cell k)
  have hg:∀k,(g k).length=R.n:=fun k=>by simp [g]
  have gget:∀(k i:Nat),i<R.n->(g k)[i]?=some (cell k i):=fun k i hi=>by simp [g,hi]
  refine ⟨b,off,rfl,hF,hb,(List.range' 0 xs.length).flatMap g,all2_build xs 0 fun k x hk=>?_,fun j u hj=>?_⟩
  ·rw [Nat.zero_add]
   refine E.of (hg k) fun j y u hj hu=>?_
   have hlt:j<R.n:=by rw [<- E.len x];exact (List.getElem?_eq_some_iff.1 hj).1
   rw [gget k j hlt] at hu
   obtain rfl:=Option.some.inj hu
   exact hr k _ j y (get k x hk) hj
  ·obtain ⟨k,i,h1,h2,rfl,h4⟩:=flatMap_get hg _ _ _ _ hj
   rw [Nat.zero_add,gget k i h2] at h4
   obtain rfl:=Option.some.inj h4
   obtain ⟨x,hx⟩:∃x,xs[k]?=some x:=⟨_,List.getElem?_eq_getElem h1⟩
   exact hw k _ i _ (get k x hx) (List.getElem?_eq_getElem (by rw [E.len];exact h2))
theorem Enc.slice (E:Enc R enc) (h0:0<R.n):Enc R.slice (fun l=>[.sl (l.map enc)]):=by
 refine ⟨fun _=>rfl,fun x y hy=>?_,fun {W F x cs} hr j y u hj hu=>?_,fun {W F x cs} hl hp=>?_⟩
 ·obtain rfl:=List.mem_singleton.1 hy
  rfl
 ·obtain ⟨v,rfl,hs⟩:=hr
  cases j with
  | zero =>
   obtain rfl:=Option.some.inj hj
   obtain rfl:=Option.some.inj hu
   exact E.sl hs
  | succ j=>simp at hj
 ·obtain ⟨u,rfl⟩:=List.length_eq_one_iff.1 (show cs.length=1 from hl)
  exact ⟨u,rfl,E.slice_of h0 (hp 0 _ u rfl rfl)⟩
end
section
variable {P : Program} {f : FuncId} {x y : AV} {r : AV}
end
end Go.Proofs.YtoaibdbehlcnfaaGreat.Sm
end
section
namespace Go.Proofs.YtoaibdbehlcnfaaGreat.Sm
open Go.RowKit Go.WideShapes Go.ChangeShapes Go.Deep
structure PWs (W:World) (F:Nat->Prop) (xs:List AV) (cs:List Value):Prop where
 len:cs.length=xs.length
 one:∀(j:Nat) (x:AV),xs[j]?=some x->x.one=true
 rel:∀(j:Nat) (x:AV) (v:Value),xs[j]?=some x->cs[j]?=some v->PRel W F x v
theorem PRel.one_cell {W:World} {F:Nat->Prop} {x:AV} {v:Value} (h:PRel W F x v) (h1:x.one=true):v.oneCell'=true:=by
 cases h <;> first | rfl | exact h1 | (simp [AV.one] at h1;done)
theorem PRel.widen {W:World} {F F':Nat->Prop} {x:AV} {v:Value} (h:PRel W F x v) (hF:∀b,b<W.heap.size->F b->F' b):PRel W F' x v:=h.keep (fun _ _ _=>rfl) fun b hb hlt=>hF b hlt hb
theorem PWs.single {W:World} {F:Nat->Prop} {x:AV} {v:Value} (h:PRel W F x v) (h1:x.one=true):PWs W F [x] [v]:=by
 refine ⟨rfl,fun j y hj=>?_,fun j y u hj hu=>?_⟩
 ·cases j with
  | zero=>obtain rfl:=Option.some.inj hj;exact h1
  | succ j=>simp at hj
 ·cases j with
  | zero=>obtain rfl:=Option.some.inj hj;obtain rfl:=Option.some.inj hu;exact h
  | succ j=>simp at hj
theorem PWs.nil {W:World} {F:Nat->Prop} {cs:List Value} {n:Nat} (h:cs.length=n):PWs W F [] (cs.drop n) :=
 ⟨by simp [h],fun j x hj=>by simp at hj,fun j x v hj _=>by simp at hj⟩
theorem PWs.join {W:World} {F:Nat->Prop} {xs ys:List AV} {cs:List Value} {o n:Nat} (h:PWs W F xs ((cs.drop o).take n)) (hn:xs.length=n) (h':PWs W F ys (cs.drop (o+n))):PWs W F (xs++ys) (cs.drop o):=by
 have hl:=h.len
 have hl':=h'.len
 rw [List.length_take,List.length_drop] at hl
 rw [List.length_drop] at hl'
 refine ⟨by simp only [List.length_drop,List.length_append];omega,fun j x hj=>?_,fun j x v hj hv=>?_⟩
 ·rw [List.getElem?_append] at hj
  split at hj
  ·exact h.one j x hj
  ·exact h'.one _ x hj
 ·rw [List.getElem?_append] at hj
  split at hj
  ·rename_i hlt
   refine h.rel j x v hj ?_
   rw [List.getElem?_take,if_pos (by omega)]
   exact hv
  ·rename_i hge
   refine h'.rel _ x v hj ?_
   rw [List.getElem?_drop] at hv ⊢
   rw [<- hv]
   congr 1
   omega
theorem PWs.all {W:World} {F:Nat->Prop} {xs:List AV} {cs:List Value} (h:PWs W F xs (cs.drop 0)):PWs W F xs cs:=by rwa [List.drop_zero] at h
structure ReadA {α:Type} (P:Program) (t:TypeId) (n:Nat) (enc:α->List AV):Prop where
 len:∀a,(enc a).length=n
 one:∀a,∀y∈enc a,y.one=true
 read:∀(H:Type) (e:TypeId × Value->H) (w:World) (base:Nat) (spare:Nat->Bool) (held:Bool) (fuel:Nat) (cs:List Value) (x:DataW H × List MemPlace),
  DataW.trod e P w base spare held fuel t cs=some x->∃a:α,PWs w (fun b=>b<w.heap.size) (enc a) cs
def avR {α:Type} (n:Nat) (enc:α->List AV) (hn:∀a,(enc a).length=n) (h1:∀a,∀y∈enc a,y.one=true):Rep α where
 n:=n
 rel:=fun W F x cs=>PWs W F (enc x) cs
 len:=fun h=>by rw [h.len];exact hn _
 one:=fun {w F x cs} h u hu=>by
  obtain ⟨j,hj⟩:=List.getElem?_of_mem hu
  obtain ⟨y,hy⟩:∃y,(enc x)[j]?=some y:=⟨_,List.getElem?_eq_getElem (by rw [<- h.len];exact (List.getElem?_eq_some_iff.1 hj).1)⟩
  exact (h.rel j y u hy hj).one_cell (h.one j y hy)
 keep:=fun h hk=>⟨h.len,h.one,fun j x v hj hv=>(h.rel j x v hj hv).keep hk fun b hb _=>hb⟩
 mono:=fun h hF=>⟨h.len,h.one,fun j x v hj hv=>(h.rel j x v hj hv).widen hF⟩
theorem avR_enc {α:Type} {n:Nat} {enc:α->List AV} (hn:∀a,(enc a).length=n) (h1:∀a,∀y∈enc a,y.one=true):Enc (avR n enc hn h1) enc :=
 ⟨hn,h1,fun h j y u hj hu=>h.rel j y u hj hu,fun {W F x cs} hl h=>⟨by rw [hl,hn];rfl,fun j y hj=>h1 x y (List.mem_of_getElem? hj),fun j y v hj hv=>h j y v hj hv⟩⟩
section
variable {P : Program} {t : TypeId}
theorem ReadA.readable {α:Type} {n:Nat} {enc:α->List AV} (h:ReadA P t n enc):Readable P t (avR n enc h.len h.one):=fun H e w base spare held fuel cs x hx=>h.read H e w base spare held fuel cs x hx
theorem ReadA.of {α:Type} {R:Rep α} {enc:α->List AV} (E:Enc R enc) (h:Readable P t R):ReadA P t R.n enc :=
 ⟨E.len,E.one,fun H e w base spare held fuel cs x hx=>by
  obtain ⟨a,ha⟩:=h H e w base spare held fuel cs x hx
  exact ⟨a,by rw [R.len ha,E.len],fun j y hj=>E.one a y (List.mem_of_getElem? hj),fun j y v hj hv=>E.to ha j y v hj hv⟩⟩
theorem ReadA.slice {α:Type} {e:TypeId} {n:Nat} {enc:α->List AV} (h:ReadA P e n enc) (ht:P.underlying t=some (.slice e)) (hn:P.cellsOf e=n) (h0:0<n):ReadA P t 1 (fun l:List α=>[.sl (l.map enc)]) :=
 .of (R:=(avR n enc h.len h.one).slice) ((avR_enc h.len h.one).slice h0) (h.readable.slice ht hn h0)
theorem ReadA.u64 (ht:P.underlying t=some (.int .u64)):ReadA P t 1 (fun x:UInt64=>[.u x]) :=
  ⟨fun _=>rfl,fun _ y hy=>by obtain rfl:=List.mem_singleton.1 hy;rfl,fun H e w base spare held fuel cs x hx=>by
    obtain ⟨n,rfl,_,hw⟩:=DataW.trod_int ht hx
    obtain ⟨y,rfl⟩:=wf_u64 hw
    exact ⟨y,.single (.u _) rfl⟩⟩
theorem ReadA.u8 (ht:P.underlying t=some (.int .u8)):ReadA P t 1 (fun x:UInt8=>[.y x]) :=
  ⟨fun _=>rfl,fun _ y hy=>by obtain rfl:=List.mem_singleton.1 hy;rfl,fun H e w base spare held fuel cs x hx=>by
    obtain ⟨n,rfl,_,hw⟩:=DataW.trod_int ht hx
    obtain ⟨y,rfl⟩:=wf_u8 hw
    exact ⟨y,.single (.y _) rfl⟩⟩
theorem ReadA.bool (ht:P.underlying t=some .bool):ReadA P t 1 (fun x:Bool=>[.b x]) :=
  ⟨fun _=>rfl,fun _ y hy=>by obtain rfl:=List.mem_singleton.1 hy;rfl,fun H e w base spare held fuel cs x hx=>by
    obtain ⟨b,rfl,_⟩:=DataW.trod_bool ht hx
    exact ⟨b,.single (.b _) rfl⟩⟩
theorem ReadA.part {α:Type} {ty n off:Nat} {enc:α->List AV} (h:ReadA P ty n enc) {H:Type} {e:TypeId × Value->H} {w:World} {base:Nat} {spare:Nat->Bool} {held:Bool} {cs:List Value} {m:Nat}
  (hp:∃y,DataW.trod e P w base spare held m ty ((cs.drop off).take n)=some y):∃a:α,PWs w (fun b=>b<w.heap.size) (enc a) ((cs.drop off).take n):=by
 obtain ⟨y,hy⟩:=hp
 exact h.read H e w base spare held m _ y hy
theorem array_part {n:Nat} {el:TypeId} (ht:P.underlying t=some (.array n el)) {H:Type} {e:TypeId × Value->H} {w:World} {base:Nat} {spare:Nat->Bool} {held:Bool} {fuel:Nat} {cs:List Value} {x:DataW H × List MemPlace}
  (hx:DataW.trod e P w base spare held fuel t cs=some x):∃m,cs.length=P.cellsOf t/\∀(j off k:Nat),j<n->P.cellsOf el=k->j*k=off->∃y,DataW.trod e P w base spare held m el ((cs.drop off).take k)=some y:=by
 obtain ⟨xs,m,_,_,hl,hxs,hf⟩:=DataW.trod_array ht hx
 refine ⟨m,hl,fun j off k hj hk ho=>?_⟩
 have h:=hf j hj
 subst hk ho
 exact ⟨xs[j]'(by omega),by rw [h,List.getElem?_eq_getElem (by omega)]⟩
variable {H : Type} {e : TypeId × Value -> H} {W : World} {base b0 : Nat} {spare : Nat -> Bool} {held : Bool} {v : Value} {d : DataW H} {p : List MemPlace}
theorem ReadA.arg_struct {α:Type} {n:Nat} {enc:α->List AV} (h:ReadA P t n enc) {fs:Array Field} (ht:P.underlying t=some (.struct fs)) (ho:Value.okWide P W .any b0 t v) (hd:DataW.Trod e P W base spare held t v d p) :
  ∃a:α,PRel W (fun b=>b<W.heap.size) (.agg (enc a)) v:=by
 obtain ⟨cs,rfl,hs⟩:=okWide_struct ht ho
 obtain ⟨fuel,hf⟩:=hd
 obtain ⟨a,ha⟩:=h.read H e W base spare held fuel _ _ hf
 have hc:(Value.cells (.agg cs)).toList=cs.toList:=by simp [Value.cells]
 rw [hc] at ha
 refine ⟨a,?_⟩
 have:=PRel.agg (W:=W) (F:=fun b=>b<W.heap.size) (enc a) cs.toList ha.len ha.one ha.rel
 simpa using this
theorem ReadA.arg_one {α:Type} {g:α->AV} (h:ReadA P t 1 (fun a=>[g a])) (hc:v.cells.toList=[v]) (hd:DataW.Trod e P W base spare held t v d p) :
  ∃a:α,PRel W (fun b=>b<W.heap.size) (g a) v:=by
 obtain ⟨fuel,hf⟩:=hd
 obtain ⟨a,ha⟩:=h.read H e W base spare held fuel _ _ hf
 rw [hc] at ha
 exact ⟨a,ha.rel 0 _ v rfl rfl⟩
theorem ReadA.arg_int {α:Type} {k:IntKind} {g:α->AV} (h:ReadA P t 1 (fun a=>[g a])) (ht:P.underlying t=some (.int k)) (ho:Value.okWide P W .any b0 t v) (hd:DataW.Trod e P W base spare held t v d p) :
  ∃a:α,PRel W (fun b=>b<W.heap.size) (g a) v:=by
 obtain ⟨n,rfl⟩:=okWide_int ht ho
 exact h.arg_one (by simp [Value.cells]) hd
theorem PDoes.law {f:FuncId} {args:List AV} {vs:List Value} (h:PDoes P f args (.b true)) (hl:vs.length=args.length)
  (hv:∀(j:Nat) (x:AV) (v:Value),args[j]?=some x->vs[j]?=some v->PRel W (fun b=>b<W.heap.size) x v):Calls P f vs.toArray W fun e W'=>e = .returned (.bool true)/\Kp No W W':=by
 refine (h.calls W (fun b=>b<W.heap.size) vs hl hv fun _ hb=>hb).mono ?_
 rintro e W' ⟨v,rfl,hk,hr⟩
 cases hr
 exact ⟨rfl,hk⟩
end
theorem i64_next {k n:Nat} (h:k<n) (hn:n<=9223372036854775807):AV.i .i64 (IntKind.i64.wrap ((k:Int)+1)) = .i .i64 ((k+1:Nat):Int):=by
 rw [show IntKind.i64.wrap ((k:Int)+1)=(k:Int)+1 by rw [IntKind.wrap_i64];omega]
 rfl
end Go.Proofs.YtoaibdbehlcnfaaGreat.Sm
end
end
section
namespace Go.Proofs.YtoaibdbehlcnfaaGreat.Sm
open Go.RowKit
def tyT:TT:=[(1,⟨.func,1,8,[.raw .nilFunc]⟩),
 (2,⟨(.int .i64),1,8,[.i .i64 0]⟩),
 (3,⟨(.int .i64),1,8,[.i .i64 0]⟩),
 (4,⟨.bool,1,1,[.b false]⟩),
 (5,⟨(.int .u8),1,1,[.y 0]⟩),
 (6,⟨(.int .u8),1,1,[.y 0]⟩),
 (7,⟨(.strct [(2,0),(3,1),(4,2),(6,3)]),4,24,[.i .i64 0,.i .i64 0,.b false,.y 0]⟩),
 (8,⟨(.strct [(2,0),(3,1),(4,2),(6,3)]),4,24,[.i .i64 0,.i .i64 0,.b false,.y 0]⟩),
 (9,⟨.str,1,16,[.s []]⟩),
 (10,⟨.str,1,16,[.s []]⟩),
 (11,⟨.str,1,16,[.s []]⟩),
 (12,⟨(.int .u64),1,8,[.u 0]⟩),
 (13,⟨(.strct [(9,0),(12,1)]),2,24,[.s [],.u 0]⟩),
 (14,⟨(.strct [(9,0),(12,1)]),2,24,[.s [],.u 0]⟩),
 (15,⟨.ptr,1,8,[.raw (.pointer none)]⟩),
 (16,⟨.ptr,1,8,[.raw (.pointer none)]⟩),
 (17,⟨.ptr,1,8,[.raw (.pointer none)]⟩),
 (18,⟨(.strct [(17,0)]),1,8,[.raw (.pointer none)]⟩),
 (19,⟨(.strct [(17,0)]),1,8,[.raw (.pointer none)]⟩),
 (21,⟨(.int .i32),1,4,[.i .i32 0]⟩),
 (22,⟨(.slice 115),1,24,[.raw (.slice none 0 0)]⟩),
 (23,⟨(.strct [(22,0)]),1,24,[.raw (.slice none 0 0)]⟩),
 (24,⟨(.strct [(22,0)]),1,24,[.raw (.slice none 0 0)]⟩),
 (25,⟨(.slice 158),1,24,[.raw (.slice none 0 0)]⟩),
 (26,⟨(.slice 160),1,24,[.raw (.slice none 0 0)]⟩),
 (27,⟨(.strct [(3,0),(25,1),(26,2)]),3,56,[.i .i64 0,.raw (.slice none 0 0),.raw (.slice none 0 0)]⟩),
 (28,⟨(.strct [(3,0),(25,1),(26,2)]),3,56,[.i .i64 0,.raw (.slice none 0 0),.raw (.slice none 0 0)]⟩),
 (29,⟨(.slice 47),1,24,[.raw (.slice none 0 0)]⟩),
 (30,⟨(.strct [(24,0),(28,1),(29,4)]),5,104,[.raw (.slice none 0 0),.i .i64 0,.raw (.slice none 0 0),.raw (.slice none 0 0),.raw (.slice none 0 0)]⟩),
 (31,⟨(.strct [(24,0),(28,1),(29,4)]),5,104,[.raw (.slice none 0 0),.i .i64 0,.raw (.slice none 0 0),.raw (.slice none 0 0),.raw (.slice none 0 0)]⟩),
 (32,⟨(.int .u64),1,8,[.u 0]⟩),
 (33,⟨(.strct [(32,0),(32,1)]),2,16,[.u 0,.u 0]⟩),
 (34,⟨(.strct [(32,0),(32,1)]),2,16,[.u 0,.u 0]⟩),
 (35,⟨(.strct [(34,0),(34,2)]),4,32,[.u 0,.u 0,.u 0,.u 0]⟩),
 (36,⟨(.strct [(34,0),(34,2)]),4,32,[.u 0,.u 0,.u 0,.u 0]⟩),
 (37,⟨(.strct [(3,0),(3,1),(3,2),(36,3)]),7,56,[.i .i64 0,.i .i64 0,.i .i64 0,.u 0,.u 0,.u 0,.u 0]⟩),
 (38,⟨(.strct [(3,0),(3,1),(3,2),(36,3)]),7,56,[.i .i64 0,.i .i64 0,.i .i64 0,.u 0,.u 0,.u 0,.u 0]⟩),
 (39,⟨(.strct [(3,0),(36,1),(38,5)]),12,96,[.i .i64 0,.u 0,.u 0,.u 0,.u 0,.i .i64 0,.i .i64 0,.i .i64 0,.u 0,.u 0,.u 0,.u 0]⟩),
 (40,⟨(.strct [(3,0),(36,1),(38,5)]),12,96,[.i .i64 0,.u 0,.u 0,.u 0,.u 0,.i .i64 0,.i .i64 0,.i .i64 0,.u 0,.u 0,.u 0,.u 0]⟩),
 (41,⟨(.strct [(3,0),(3,1)]),2,16,[.i .i64 0,.i .i64 0]⟩),
 (42,⟨(.strct [(3,0),(3,1)]),2,16,[.i .i64 0,.i .i64 0]⟩),
 (43,⟨.func,1,8,[.raw .nilFunc]⟩),
 (44,⟨(.int .i64),1,8,[.i .i64 0]⟩),
 (45,⟨.func,1,8,[.raw .nilFunc]⟩),
 (46,⟨.func,1,8,[.raw .nilFunc]⟩),
 (47,⟨(.slice 48),1,24,[.raw (.slice none 0 0)]⟩),
 (48,⟨(.slice 40),1,24,[.raw (.slice none 0 0)]⟩),
 (49,⟨.func,1,8,[.raw .nilFunc]⟩),
 (50,⟨.func,1,8,[.raw .nilFunc]⟩),
 (51,⟨(.slice 78),1,24,[.raw (.slice none 0 0)]⟩),
 (52,⟨(.strct [(3,0),(42,1),(51,3)]),4,48,[.i .i64 0,.i .i64 0,.i .i64 0,.raw (.slice none 0 0)]⟩),
 (53,⟨(.strct [(3,0),(42,1),(51,3)]),4,48,[.i .i64 0,.i .i64 0,.i .i64 0,.raw (.slice none 0 0)]⟩),
 (54,⟨(.strct [(3,0),(44,1),(3,2),(42,3),(34,5),(53,7)]),11,104,[.i .i64 0,.i .i64 0,.i .i64 0,.i .i64 0,.i .i64 0,.u 0,.u 0,.i .i64 0,.i .i64 0,.i .i64 0,.raw (.slice none 0 0)]⟩),
 (55,⟨(.strct [(3,0),(44,1),(3,2),(42,3),(34,5),(53,7)]),11,104,[.i .i64 0,.i .i64 0,.i .i64 0,.i .i64 0,.i .i64 0,.u 0,.u 0,.i .i64 0,.i .i64 0,.i .i64 0,.raw (.slice none 0 0)]⟩),
 (56,⟨.func,1,8,[.raw .nilFunc]⟩),
 (57,⟨(.slice 42),1,24,[.raw (.slice none 0 0)]⟩),
 (58,⟨.func,1,8,[.raw .nilFunc]⟩),
 (59,⟨.func,1,8,[.raw .nilFunc]⟩),
 (60,⟨(.slice 69),1,24,[.raw (.slice none 0 0)]⟩),
 (62,⟨.func,1,8,[.raw .nilFunc]⟩),
 (63,⟨.func,1,8,[.raw .nilFunc]⟩),
 (64,⟨.func,1,8,[.raw .nilFunc]⟩),
 (65,⟨.func,1,8,[.raw .nilFunc]⟩),
 (66,⟨.func,1,8,[.raw .nilFunc]⟩),
 (67,⟨.func,1,8,[.raw .nilFunc]⟩),
 (68,⟨(.strct [(42,0),(42,2),(34,4)]),6,48,[.i .i64 0,.i .i64 0,.i .i64 0,.i .i64 0,.u 0,.u 0]⟩),
 (69,⟨(.strct [(42,0),(42,2),(34,4)]),6,48,[.i .i64 0,.i .i64 0,.i .i64 0,.i .i64 0,.u 0,.u 0]⟩),
 (70,⟨.func,1,8,[.raw .nilFunc]⟩),
 (72,⟨.func,1,8,[.raw .nilFunc]⟩),
 (73,⟨.func,1,8,[.raw .nilFunc]⟩),
 (74,⟨(.slice 3),1,24,[.raw (.slice none 0 0)]⟩),
 (76,⟨.func,1,8,[.raw .nilFunc]⟩),
 (77,⟨(.strct [(3,0),(3,1),(3,2),(34,3)]),5,40,[.i .i64 0,.i .i64 0,.i .i64 0,.u 0,.u 0]⟩),
 (78,⟨(.strct [(3,0),(3,1),(3,2),(34,3)]),5,40,[.i .i64 0,.i .i64 0,.i .i64 0,.u 0,.u 0]⟩),
 (79,⟨.func,1,8,[.raw .nilFunc]⟩),
 (80,⟨.ptr,1,8,[.raw (.pointer none)]⟩),
 (82,⟨.func,1,8,[.raw .nilFunc]⟩),
 (84,⟨.func,1,8,[.raw .nilFunc]⟩),
 (85,⟨.func,1,8,[.raw .nilFunc]⟩),
 (86,⟨.func,1,8,[.raw .nilFunc]⟩),
 (87,⟨.func,1,8,[.raw .nilFunc]⟩),
 (88,⟨.func,1,8,[.raw .nilFunc]⟩),
 (89,⟨(.strct [(3,0),(3,1),(3,2),(4,3),(40,4)]),16,128,[.i .i64 0,.i .i64 0,.i .i64 0,.b false,.i .i64 0,.u 0,.u 0,.u 0,.u 0,.i .i64 0,.i .i64 0,.i .i64 0,.u 0,.u 0,.u 0,.u 0]⟩),
 (90,⟨(.strct [(3,0),(3,1),(3,2),(4,3),(40,4)]),16,128,[.i .i64 0,.i .i64 0,.i .i64 0,.b false,.i .i64 0,.u 0,.u 0,.u 0,.u 0,.i .i64 0,.i .i64 0,.i .i64 0,.u 0,.u 0,.u 0,.u 0]⟩),
 (91,⟨.func,1,8,[.raw .nilFunc]⟩),
 (92,⟨.func,1,8,[.raw .nilFunc]⟩),
 (93,⟨.func,1,8,[.raw .nilFunc]⟩),
 (94,⟨.func,1,8,[.raw .nilFunc]⟩),
 (95,⟨(.slice 96),1,24,[.raw (.slice none 0 0)]⟩),
 (96,⟨(.slice 90),1,24,[.raw (.slice none 0 0)]⟩),
 (97,⟨(.slice 102),1,24,[.raw (.slice none 0 0)]⟩),
 (98,⟨.func,1,8,[.raw .nilFunc]⟩),
 (99,⟨.func,1,8,[.raw .nilFunc]⟩),
 (100,⟨(.slice 36),1,24,[.raw (.slice none 0 0)]⟩),
 (101,⟨(.strct [(74,0),(34,1),(100,3)]),4,64,[.raw (.slice none 0 0),.u 0,.u 0,.raw (.slice none 0 0)]⟩),
 (102,⟨(.strct [(74,0),(34,1),(100,3)]),4,64,[.raw (.slice none 0 0),.u 0,.u 0,.raw (.slice none 0 0)]⟩),
 (103,⟨.func,1,8,[.raw .nilFunc]⟩),
 (104,⟨.func,1,8,[.raw .nilFunc]⟩),
 (106,⟨.func,1,8,[.raw .nilFunc]⟩),
 (107,⟨.func,1,8,[.raw .nilFunc]⟩),
 (108,⟨.func,1,8,[.raw .nilFunc]⟩),
 (110,⟨.func,1,8,[.raw .nilFunc]⟩),
 (111,⟨.func,1,8,[.raw .nilFunc]⟩),
 (112,⟨.func,1,8,[.raw .nilFunc]⟩),
 (113,⟨.func,1,8,[.raw .nilFunc]⟩),
 (114,⟨.func,1,8,[.raw .nilFunc]⟩),
 (115,⟨(.slice 126),1,24,[.raw (.slice none 0 0)]⟩),
 (116,⟨.func,1,8,[.raw .nilFunc]⟩),
 (118,⟨.func,1,8,[.raw .nilFunc]⟩),
 (120,⟨.func,1,8,[.raw .nilFunc]⟩),
 (122,⟨.func,1,8,[.raw .nilFunc]⟩),
 (123,⟨.func,1,8,[.raw .nilFunc]⟩),
 (124,⟨.func,1,8,[.raw .nilFunc]⟩),
 (125,⟨(.strct [(3,0),(3,1),(3,2),(3,3),(3,4)]),5,40,[.i .i64 0,.i .i64 0,.i .i64 0,.i .i64 0,.i .i64 0]⟩),
 (126,⟨(.strct [(3,0),(3,1),(3,2),(3,3),(3,4)]),5,40,[.i .i64 0,.i .i64 0,.i .i64 0,.i .i64 0,.i .i64 0]⟩),
 (127,⟨.ptr,1,8,[.raw (.pointer none)]⟩),
 (129,⟨.func,1,8,[.raw .nilFunc]⟩),
 (130,⟨.func,1,8,[.raw .nilFunc]⟩),
 (131,⟨.func,1,8,[.raw .nilFunc]⟩),
 (132,⟨.func,1,8,[.raw .nilFunc]⟩),
 (134,⟨.func,1,8,[.raw .nilFunc]⟩),
 (135,⟨.func,1,8,[.raw .nilFunc]⟩),
 (136,⟨.func,1,8,[.raw .nilFunc]⟩),
 (137,⟨.func,1,8,[.raw .nilFunc]⟩),
 (138,⟨(.slice 74),1,24,[.raw (.slice none 0 0)]⟩),
 (139,⟨.func,1,8,[.raw .nilFunc]⟩),
 (140,⟨.func,1,8,[.raw .nilFunc]⟩),
 (141,⟨.func,1,8,[.raw .nilFunc]⟩),
 (142,⟨.func,1,8,[.raw .nilFunc]⟩),
 (143,⟨.map,1,8,[.raw (.map none)]⟩),
 (144,⟨(.strct [(143,0),(3,1),(97,2)]),3,40,[.raw (.map none),.i .i64 0,.raw (.slice none 0 0)]⟩),
 (145,⟨(.strct [(143,0),(3,1),(97,2)]),3,40,[.raw (.map none),.i .i64 0,.raw (.slice none 0 0)]⟩),
 (147,⟨.func,1,8,[.raw .nilFunc]⟩),
 (148,⟨.ptr,1,8,[.raw (.pointer none)]⟩),
 (149,⟨.func,1,8,[.raw .nilFunc]⟩),
 (150,⟨(.strct [(31,0),(3,5),(145,6),(148,9)]),10,160,[.raw (.slice none 0 0),.i .i64 0,.raw (.slice none 0 0),.raw (.slice none 0 0),.raw (.slice none 0 0),.i .i64 0,.raw (.map none),.i .i64 0,.raw (.slice none 0 0),.raw (.pointer none)]⟩),
 (151,⟨(.strct [(31,0),(3,5),(145,6),(148,9)]),10,160,[.raw (.slice none 0 0),.i .i64 0,.raw (.slice none 0 0),.raw (.slice none 0 0),.raw (.slice none 0 0),.i .i64 0,.raw (.map none),.i .i64 0,.raw (.slice none 0 0),.raw (.pointer none)]⟩),
 (153,⟨.func,1,8,[.raw .nilFunc]⟩),
 (154,⟨(.slice 5),1,24,[.raw (.slice none 0 0)]⟩),
 (155,⟨.func,1,8,[.raw .nilFunc]⟩),
 (156,⟨.func,1,8,[.raw .nilFunc]⟩),
 (157,⟨.func,1,8,[.raw .nilFunc]⟩),
 (158,⟨(.arr 2 3),2,16,[.i .i64 0,.i .i64 0]⟩),
 (159,⟨(.strct [(3,0),(3,1),(3,2)]),3,24,[.i .i64 0,.i .i64 0,.i .i64 0]⟩),
 (160,⟨(.strct [(3,0),(3,1),(3,2)]),3,24,[.i .i64 0,.i .i64 0,.i .i64 0]⟩),
 (161,⟨.func,1,8,[.raw .nilFunc]⟩),
 (162,⟨.func,1,8,[.raw .nilFunc]⟩),
 (163,⟨.func,1,8,[.raw .nilFunc]⟩),
 (164,⟨.func,1,8,[.raw .nilFunc]⟩),
 (165,⟨.func,1,8,[.raw .nilFunc]⟩),
 (166,⟨(.strct [(31,0),(31,5),(3,10)]),11,216,[.raw (.slice none 0 0),.i .i64 0,.raw (.slice none 0 0),.raw (.slice none 0 0),.raw (.slice none 0 0),.raw (.slice none 0 0),.i .i64 0,.raw (.slice none 0 0),.raw (.slice none 0 0),.raw (.slice none 0 0),.i .i64 0]⟩),
 (167,⟨(.strct [(31,0),(31,5),(3,10)]),11,216,[.raw (.slice none 0 0),.i .i64 0,.raw (.slice none 0 0),.raw (.slice none 0 0),.raw (.slice none 0 0),.raw (.slice none 0 0),.i .i64 0,.raw (.slice none 0 0),.raw (.slice none 0 0),.raw (.slice none 0 0),.i .i64 0]⟩),
 (168,⟨.func,1,8,[.raw .nilFunc]⟩),
 (169,⟨.func,1,8,[.raw .nilFunc]⟩),
 (170,⟨.func,1,8,[.raw .nilFunc]⟩),
 (171,⟨.func,1,8,[.raw .nilFunc]⟩),
 (172,⟨.func,1,8,[.raw .nilFunc]⟩),
 (173,⟨.func,1,8,[.raw .nilFunc]⟩),
 (174,⟨.ptr,1,8,[.raw (.pointer none)]⟩),
 (175,⟨.func,1,8,[.raw .nilFunc]⟩),
 (176,⟨(.strct [(174,0)]),1,8,[.raw (.pointer none)]⟩),
 (177,⟨(.strct [(174,0)]),1,8,[.raw (.pointer none)]⟩),
 (178,⟨.func,1,8,[.raw .nilFunc]⟩),
 (179,⟨.func,1,8,[.raw .nilFunc]⟩),
 (180,⟨.map,1,8,[.raw (.map none)]⟩),
 (181,⟨(.strct [(100,0),(180,1)]),2,32,[.raw (.slice none 0 0),.raw (.map none)]⟩),
 (182,⟨(.strct [(100,0),(180,1)]),2,32,[.raw (.slice none 0 0),.raw (.map none)]⟩),
 (184,⟨.func,1,8,[.raw .nilFunc]⟩),
 (185,⟨.func,1,8,[.raw .nilFunc]⟩),
 (186,⟨.func,1,8,[.raw .nilFunc]⟩),
 (187,⟨.func,1,8,[.raw .nilFunc]⟩),
 (188,⟨.func,1,8,[.raw .nilFunc]⟩),
 (189,⟨.func,1,8,[.raw .nilFunc]⟩),
 (190,⟨.func,1,8,[.raw .nilFunc]⟩),
 (191,⟨.func,1,8,[.raw .nilFunc]⟩),
 (192,⟨.func,1,8,[.raw .nilFunc]⟩),
 (194,⟨.func,1,8,[.raw .nilFunc]⟩),
 (195,⟨.func,1,8,[.raw .nilFunc]⟩),
 (196,⟨.func,1,8,[.raw .nilFunc]⟩),
 (197,⟨.func,1,8,[.raw .nilFunc]⟩),
 (198,⟨.func,1,8,[.raw .nilFunc]⟩),
 (199,⟨.func,1,8,[.raw .nilFunc]⟩),
 (200,⟨.func,1,8,[.raw .nilFunc]⟩),
 (201,⟨(.strct [(31,0),(3,5),(97,6)]),7,136,[.raw (.slice none 0 0),.i .i64 0,.raw (.slice none 0 0),.raw (.slice none 0 0),.raw (.slice none 0 0),.i .i64 0,.raw (.slice none 0 0)]⟩),
 (202,⟨(.strct [(31,0),(3,5),(97,6)]),7,136,[.raw (.slice none 0 0),.i .i64 0,.raw (.slice none 0 0),.raw (.slice none 0 0),.raw (.slice none 0 0),.i .i64 0,.raw (.slice none 0 0)]⟩),
 (203,⟨.map,1,8,[.raw (.map none)]⟩),
 (205,⟨.func,1,8,[.raw .nilFunc]⟩),
 (206,⟨.func,1,8,[.raw .nilFunc]⟩),
 (207,⟨.func,1,8,[.raw .nilFunc]⟩),
 (208,⟨.func,1,8,[.raw .nilFunc]⟩),
 (209,⟨.func,1,8,[.raw .nilFunc]⟩),
 (210,⟨.func,1,8,[.raw .nilFunc]⟩),
 (211,⟨.func,1,8,[.raw .nilFunc]⟩),
 (212,⟨.func,1,8,[.raw .nilFunc]⟩),
 (213,⟨.func,1,8,[.raw .nilFunc]⟩),
 (214,⟨.func,1,8,[.raw .nilFunc]⟩),
 (215,⟨.func,1,8,[.raw .nilFunc]⟩),
 (216,⟨(.int .u64),1,8,[.u 0]⟩),
 (217,⟨.ptr,1,8,[.raw (.pointer none)]⟩),
 (218,⟨(.arr 3 217),3,24,[.raw (.pointer none),.raw (.pointer none),.raw (.pointer none)]⟩),
 (219,⟨(.strct [(218,0),(74,3)]),4,48,[.raw (.pointer none),.raw (.pointer none),.raw (.pointer none),.raw (.slice none 0 0)]⟩),
 (220,⟨(.strct [(218,0),(74,3)]),4,48,[.raw (.pointer none),.raw (.pointer none),.raw (.pointer none),.raw (.slice none 0 0)]⟩),
 (221,⟨.map,1,8,[.raw (.map none)]⟩),
 (222,⟨(.strct [(220,0),(221,4)]),5,56,[.raw (.pointer none),.raw (.pointer none),.raw (.pointer none),.raw (.slice none 0 0),.raw (.map none)]⟩),
 (223,⟨(.strct [(220,0),(221,4)]),5,56,[.raw (.pointer none),.raw (.pointer none),.raw (.pointer none),.raw (.slice none 0 0),.raw (.map none)]⟩),
 (224,⟨.func,1,8,[.raw .nilFunc]⟩),
 (225,⟨.func,1,8,[.raw .nilFunc]⟩),
 (226,⟨(.strct [(36,0)]),4,32,[.u 0,.u 0,.u 0,.u 0]⟩),
 (227,⟨(.strct [(36,0)]),4,32,[.u 0,.u 0,.u 0,.u 0]⟩),
 (228,⟨.func,1,8,[.raw .nilFunc]⟩),
 (229,⟨.ptr,1,8,[.raw (.pointer none)]⟩),
 (230,⟨.func,1,8,[.raw .nilFunc]⟩),
 (231,⟨.func,1,8,[.raw .nilFunc]⟩),
 (232,⟨.func,1,8,[.raw .nilFunc]⟩),
 (233,⟨.func,1,8,[.raw .nilFunc]⟩),
 (234,⟨(.slice 232),1,24,[.raw (.slice none 0 0)]⟩),
 (235,⟨.func,1,8,[.raw .nilFunc]⟩),
 (236,⟨.func,1,8,[.raw .nilFunc]⟩),
 (237,⟨.func,1,8,[.raw .nilFunc]⟩),
 (238,⟨.func,1,8,[.raw .nilFunc]⟩),
 (239,⟨(.slice 31),1,24,[.raw (.slice none 0 0)]⟩),
 (240,⟨.func,1,8,[.raw .nilFunc]⟩),
 (242,⟨.func,1,8,[.raw .nilFunc]⟩),
 (243,⟨.func,1,8,[.raw .nilFunc]⟩),
 (244,⟨.func,1,8,[.raw .nilFunc]⟩),
 (245,⟨.func,1,8,[.raw .nilFunc]⟩),
 (246,⟨.func,1,8,[.raw .nilFunc]⟩),
 (247,⟨.func,1,8,[.raw .nilFunc]⟩),
 (248,⟨.func,1,8,[.raw .nilFunc]⟩),
 (249,⟨.func,1,8,[.raw .nilFunc]⟩),
 (250,⟨.func,1,8,[.raw .nilFunc]⟩),
 (251,⟨.ptr,1,8,[.raw (.pointer none)]⟩),
 (252,⟨(.strct [(31,0),(42,5),(34,7),(53,9)]),13,184,[.raw (.slice none 0 0),.i .i64 0,.raw (.slice none 0 0),.raw (.slice none 0 0),.raw (.slice none 0 0),.i .i64 0,.i .i64 0,.u 0,.u 0,.i .i64 0,.i .i64 0,.i .i64 0,.raw (.slice none 0 0)]⟩),
 (253,⟨(.strct [(31,0),(42,5),(34,7),(53,9)]),13,184,[.raw (.slice none 0 0),.i .i64 0,.raw (.slice none 0 0),.raw (.slice none 0 0),.raw (.slice none 0 0),.i .i64 0,.i .i64 0,.u 0,.u 0,.i .i64 0,.i .i64 0,.i .i64 0,.raw (.slice none 0 0)]⟩),
 (254,⟨.func,1,8,[.raw .nilFunc]⟩),
 (255,⟨.func,1,8,[.raw .nilFunc]⟩),
 (256,⟨.func,1,8,[.raw .nilFunc]⟩),
 (257,⟨.func,1,8,[.raw .nilFunc]⟩),
 (258,⟨.func,1,8,[.raw .nilFunc]⟩),
 (259,⟨.func,1,8,[.raw .nilFunc]⟩),
 (260,⟨.func,1,8,[.raw .nilFunc]⟩),
 (261,⟨.func,1,8,[.raw .nilFunc]⟩),
 (262,⟨.func,1,8,[.raw .nilFunc]⟩),
 (263,⟨.func,1,8,[.raw .nilFunc]⟩),
 (264,⟨.func,1,8,[.raw .nilFunc]⟩),
 (265,⟨.ptr,1,8,[.raw (.pointer none)]⟩),
 (266,⟨.func,1,8,[.raw .nilFunc]⟩),
 (267,⟨.func,1,8,[.raw .nilFunc]⟩),
 (268,⟨.func,1,8,[.raw .nilFunc]⟩),
 (269,⟨.func,1,8,[.raw .nilFunc]⟩),
 (270,⟨.func,1,8,[.raw .nilFunc]⟩),
 (271,⟨.func,1,8,[.raw .nilFunc]⟩),
 (272,⟨.func,1,8,[.raw .nilFunc]⟩),
 (273,⟨.func,1,8,[.raw .nilFunc]⟩),
 (274,⟨.func,1,8,[.raw .nilFunc]⟩),
 (275,⟨(.strct [(31,0),(51,5)]),6,128,[.raw (.slice none 0 0),.i .i64 0,.raw (.slice none 0 0),.raw (.slice none 0 0),.raw (.slice none 0 0),.raw (.slice none 0 0)]⟩),
 (276,⟨(.strct [(31,0),(51,5)]),6,128,[.raw (.slice none 0 0),.i .i64 0,.raw (.slice none 0 0),.raw (.slice none 0 0),.raw (.slice none 0 0),.raw (.slice none 0 0)]⟩),
 (277,⟨.func,1,8,[.raw .nilFunc]⟩),
 (279,⟨.func,1,8,[.raw .nilFunc]⟩),
 (280,⟨.func,1,8,[.raw .nilFunc]⟩),
 (281,⟨.func,1,8,[.raw .nilFunc]⟩),
 (282,⟨.func,1,8,[.raw .nilFunc]⟩),
 (283,⟨.func,1,8,[.raw .nilFunc]⟩),
 (285,⟨.func,1,8,[.raw .nilFunc]⟩),
 (286,⟨.func,1,8,[.raw .nilFunc]⟩),
 (287,⟨.func,1,8,[.raw .nilFunc]⟩),
 (288,⟨.func,1,8,[.raw .nilFunc]⟩),
 (289,⟨.func,1,8,[.raw .nilFunc]⟩),
 (290,⟨(.strct [(32,0),(32,1)]),2,16,[.u 0,.u 0]⟩),
 (291,⟨.func,1,8,[.raw .nilFunc]⟩),
 (292,⟨.func,1,8,[.raw .nilFunc]⟩),
 (293,⟨.func,1,8,[.raw .nilFunc]⟩),
 (294,⟨.func,1,8,[.raw .nilFunc]⟩),
 (296,⟨.func,1,8,[.raw .nilFunc]⟩),
 (297,⟨.func,1,8,[.raw .nilFunc]⟩),
 (299,⟨.func,1,8,[.raw .nilFunc]⟩),
 (301,⟨.func,1,8,[.raw .nilFunc]⟩),
 (302,⟨.func,1,8,[.raw .nilFunc]⟩),
 (303,⟨.func,1,8,[.raw .nilFunc]⟩),
 (304,⟨.func,1,8,[.raw .nilFunc]⟩),
 (305,⟨(.int .i64),1,8,[.i .i64 0]⟩),
 (307,⟨.func,1,8,[.raw .nilFunc]⟩),
 (308,⟨.func,1,8,[.raw .nilFunc]⟩),
 (309,⟨.func,1,8,[.raw .nilFunc]⟩),
 (310,⟨.func,1,8,[.raw .nilFunc]⟩),
 (311,⟨.func,1,8,[.raw .nilFunc]⟩),
 (312,⟨.func,1,8,[.raw .nilFunc]⟩),
 (313,⟨(.int .u32),1,4,[.i .u32 0]⟩),
 (314,⟨.func,1,8,[.raw .nilFunc]⟩),
 (315,⟨.func,1,8,[.raw .nilFunc]⟩),
 (316,⟨.func,1,8,[.raw .nilFunc]⟩),
 (317,⟨.func,1,8,[.raw .nilFunc]⟩),
 (318,⟨(.strct [(3,0),(36,1),(38,5)]),12,96,[.i .i64 0,.u 0,.u 0,.u 0,.u 0,.i .i64 0,.i .i64 0,.i .i64 0,.u 0,.u 0,.u 0,.u 0]⟩),
 (319,⟨.func,1,8,[.raw .nilFunc]⟩),
 (320,⟨.func,1,8,[.raw .nilFunc]⟩),
 (321,⟨.func,1,8,[.raw .nilFunc]⟩),
 (322,⟨.func,1,8,[.raw .nilFunc]⟩),
 (323,⟨.func,1,8,[.raw .nilFunc]⟩),
 (324,⟨.func,1,8,[.raw .nilFunc]⟩),
 (326,⟨.func,1,8,[.raw .nilFunc]⟩),
 (327,⟨.func,1,8,[.raw .nilFunc]⟩),
 (328,⟨.func,1,8,[.raw .nilFunc]⟩),
 (329,⟨.func,1,8,[.raw .nilFunc]⟩),
 (330,⟨.func,1,8,[.raw .nilFunc]⟩),
 (331,⟨.func,1,8,[.raw .nilFunc]⟩),
 (332,⟨.func,1,8,[.raw .nilFunc]⟩),
 (333,⟨.func,1,8,[.raw .nilFunc]⟩),
 (334,⟨.func,1,8,[.raw .nilFunc]⟩),
 (335,⟨.func,1,8,[.raw .nilFunc]⟩),
 (336,⟨.func,1,8,[.raw .nilFunc]⟩),
 (337,⟨.func,1,8,[.raw .nilFunc]⟩),
 (338,⟨(.int .u64),1,8,[.u 0]⟩),
 (339,⟨.func,1,8,[.raw .nilFunc]⟩),
 (340,⟨.func,1,8,[.raw .nilFunc]⟩),
 (341,⟨.func,1,8,[.raw .nilFunc]⟩),
 (342,⟨.ptr,1,8,[.raw (.pointer none)]⟩),
 (343,⟨.func,1,8,[.raw .nilFunc]⟩),
 (344,⟨.func,1,8,[.raw .nilFunc]⟩),
 (345,⟨.func,1,8,[.raw .nilFunc]⟩),
 (346,⟨(.slice 3),1,24,[.raw (.slice none 0 0)]⟩),
 (347,⟨.func,1,8,[.raw .nilFunc]⟩),
 (348,⟨.func,1,8,[.raw .nilFunc]⟩),
 (349,⟨.func,1,8,[.raw .nilFunc]⟩),
 (351,⟨.func,1,8,[.raw .nilFunc]⟩),
 (352,⟨.func,1,8,[.raw .nilFunc]⟩),
 (353,⟨.func,1,8,[.raw .nilFunc]⟩),
 (354,⟨.ptr,1,8,[.raw (.pointer none)]⟩),
 (356,⟨.func,1,8,[.raw .nilFunc]⟩),
 (357,⟨.func,1,8,[.raw .nilFunc]⟩),
 (358,⟨.func,1,8,[.raw .nilFunc]⟩),
 (359,⟨.func,1,8,[.raw .nilFunc]⟩),
 (360,⟨.func,1,8,[.raw .nilFunc]⟩),
 (361,⟨.func,1,8,[.raw .nilFunc]⟩),
 (362,⟨(.slice 100),1,24,[.raw (.slice none 0 0)]⟩),
 (363,⟨.func,1,8,[.raw .nilFunc]⟩),
 (364,⟨.func,1,8,[.raw .nilFunc]⟩),
 (365,⟨.func,1,8,[.raw .nilFunc]⟩),
 (366,⟨.ptr,1,8,[.raw (.pointer none)]⟩),
 (367,⟨(.strct [(48,0),(74,1)]),2,48,[.raw (.slice none 0 0),.raw (.slice none 0 0)]⟩),
 (368,⟨(.strct [(48,0),(74,1)]),2,48,[.raw (.slice none 0 0),.raw (.slice none 0 0)]⟩),
 (369,⟨.func,1,8,[.raw .nilFunc]⟩),
 (370,⟨.func,1,8,[.raw .nilFunc]⟩),
 (371,⟨.func,1,8,[.raw .nilFunc]⟩),
 (372,⟨.func,1,8,[.raw .nilFunc]⟩),
 (373,⟨.func,1,8,[.raw .nilFunc]⟩),
 (374,⟨.func,1,8,[.raw .nilFunc]⟩),
 (375,⟨.func,1,8,[.raw .nilFunc]⟩),
 (376,⟨.func,1,8,[.raw .nilFunc]⟩),
 (377,⟨.func,1,8,[.raw .nilFunc]⟩),
 (378,⟨.func,1,8,[.raw .nilFunc]⟩),
 (379,⟨.func,1,8,[.raw .nilFunc]⟩),
 (380,⟨.func,1,8,[.raw .nilFunc]⟩),
 (381,⟨.func,1,8,[.raw .nilFunc]⟩),
 (382,⟨.func,1,8,[.raw .nilFunc]⟩),
 (383,⟨.func,1,8,[.raw .nilFunc]⟩),
 (384,⟨.func,1,8,[.raw .nilFunc]⟩),
 (385,⟨.func,1,8,[.raw .nilFunc]⟩),
 (386,⟨(.strct [(17,0),(17,1),(17,2),(9,3)]),4,40,[.raw (.pointer none),.raw (.pointer none),.raw (.pointer none),.s []]⟩),
 (387,⟨(.strct [(17,0),(17,1),(17,2),(9,3)]),4,40,[.raw (.pointer none),.raw (.pointer none),.raw (.pointer none),.s []]⟩),
 (388,⟨(.arr 0 16),0,0,[]⟩),
 (389,⟨(.strct [(388,0)]),0,0,[]⟩),
 (390,⟨(.strct [(388,0)]),0,0,[]⟩),
 (391,⟨.func,1,8,[.raw .nilFunc]⟩),
 (392,⟨(.int .u8),1,1,[.y 0]⟩),
 (393,⟨(.int .u8),1,1,[.y 0]⟩),
 (394,⟨.func,1,8,[.raw .nilFunc]⟩),
 (395,⟨.ptr,1,8,[.raw (.pointer none)]⟩),
 (396,⟨(.int .i32),1,4,[.i .i32 0]⟩),
 (397,⟨(.int .i32),1,4,[.i .i32 0]⟩),
 (398,⟨(.strct [(12,0),(12,1),(313,2),(392,3),(5,4),(5,5),(393,6),(394,7),(395,8),(396,9),(397,10)]),11,48,[.u 0,.u 0,.i .u32 0,.y 0,.y 0,.y 0,.y 0,.raw .nilFunc,.raw (.pointer none),.i .i32 0,.i .i32 0]⟩),
 (399,⟨(.strct [(12,0),(12,1),(313,2),(392,3),(5,4),(5,5),(393,6),(394,7),(395,8),(396,9),(397,10)]),11,48,[.u 0,.u 0,.i .u32 0,.y 0,.y 0,.y 0,.y 0,.raw .nilFunc,.raw (.pointer none),.i .i32 0,.i .i32 0]⟩),
 (400,⟨.func,1,8,[.raw .nilFunc]⟩)]
theorem ty_ok:tabB Tryz.prog tyT=true:=by kernel_rfl
theorem mixed_ok:Tryz.prog.follows .mixedOrders=true:=by kernel_rfl
theorem wA {P:Program} {N:Nat} {Q:Exit->St->Prop} {s:St} {x y:Code} (h:AW P N x (thenA (AW P N y Q) Q) s):AW P N (.seq x y) Q s:=AW.seq h
theorem wB {P:Program} {N:Nat} {Q:Exit->St->Prop} {s:St} (h:Q .normal s):AW P N .skip Q s:=AW.skip h
theorem wC {P:Program} {N:Nat} {Q:Exit->St->Prop} {s:St} {id:Nat} {c:Code} (h:AW P N c (inBlkA id Q) s):AW P N (.block id c) Q s:=AW.block h
theorem wD {P:Program} {N:Nat} {ops:Array Oper} {rest:List Oper} {s:St} {K:St->List Eff->Prop} (h:RG P N ops rest s K):RG P N ops rest s K:=h
theorem wE {P:Program} {N:Nat} {ops:Array Oper} {s:St} {K:St->List Eff->Prop} (h:K s []):RG P N ops [] s K:=RG.nil h
theorem wF {P:Program} {N id:Nat} {ops:Array Oper} {Q:Exit->St->Prop} {s:St} (h:RG P N ops ops.toList s fun s' _=>Q .normal s'):AW P N (.region id ops false) Q s:=AW.text h
theorem wG {N id:Nat} {ops:Array Oper} {Q:Exit->St->Prop} {s:St} (h:RG Tryz.prog N ops ops.toList s fun s' Es=>orderOk ops (ops.toList.zip Es)=true/\Q .normal s'):AW Tryz.prog N (.region id ops true) Q s:=AW.draws mixed_ok h
theorem wH {N:Nat} {ops:Array Oper} {rest:List Oper} {s:St} {K:St->List Eff->Prop} {r:List Oper} {s':St} {Es:List Eff} (h:runF tyT 0 N ops 400 rest s []=(r,s',Es)) (hr:RG Tryz.prog N ops r s' (fun s'' Fs=>K s'' (Es.reverseAux Fs))):RG Tryz.prog N ops rest s K:=RG.runG ty_ok 0 400 h hr
theorem zI {N id : Nat} {ops : Array Oper} {Q : Exit -> St -> Prop} {s : St} {r : List Oper} {s' : St} {Es : List Eff} (h : runF tyT 0 N ops 400 ops.toList s [] = (r, s', Es)) (hr : RG Tryz.prog N ops r s' (fun s'' Fs => Q .normal s'')) : AW Tryz.prog N (.region id ops false) Q s := wF (wH h hr)
theorem zJ {N id : Nat} {ops : Array Oper} {Q : Exit -> St -> Prop} {s : St} {r : List Oper} {s' : St} {Es : List Eff} (h : runF tyT 0 N ops 400 ops.toList s [] = (r, s', Es)) (hr : RG Tryz.prog N ops r s' (fun s'' Fs => orderOk ops (ops.toList.zip (Es.reverseAux Fs)) = true /\ Q .normal s'')) : AW Tryz.prog N (.region id ops true) Q s := wG (wH h hr)
theorem zM {ops : Array Oper} {L : List (Oper × Eff)} {q : Prop} (h1 : orderOk ops L = true) (h2 : q) : orderOk ops L = true /\ q := ⟨h1, h2⟩
theorem jA {p q:Prop} (h:q) (t:q -> p:=by intro h;(repeat first|apply wA|apply wB|apply wC|apply wE|(apply zM;·kernel_rfl)|refine zI rfl ?_|refine zJ rfl ?_);exact h):p:=t h
theorem jB {p q:Prop} (h:q) (t:q -> p:=by intro h;(repeat first|apply wA|apply wB|apply wC|apply wE|(apply zM;·kernel_rfl));exact h):p:=t h
theorem jD {p:Prop} (t:p:=by repeat' (first|exact trivial|apply And.intro|exact dT ‹_›|exact dF ‹_›|exact dN ‹_›|exact dM ‹_›|exact dI ‹_›)):p:=t
theorem jW {p:Prop} (t:p:=by repeat(first|exact trivial|refine ⟨rI rfl rfl,?_⟩|refine ⟨rO rfl rfl rfl,?_⟩|refine ⟨rR rfl rfl rfl,?_⟩|refine ⟨bR rfl rfl,?_⟩|refine ⟨bS rfl rfl rfl,?_⟩)):p:=t
theorem jV {p:Prop} (t:p:=by repeat(first|exact trivial|refine ⟨rI rfl rfl,?_⟩|refine ⟨rI (i64_next (by assumption) (by first|assumption|decide)) rfl,?_⟩|refine ⟨rO rfl rfl rfl,?_⟩|refine ⟨rR rfl rfl rfl,?_⟩|refine ⟨bR rfl rfl,?_⟩|refine ⟨bS rfl rfl rfl,?_⟩)):p:=t
theorem jX {p:Prop} (t:p:=by first | omega | (simp only [IntKind.wrap_i64,Int.ofNat_eq_natCast] <;> omega) | rfl):p:=t
theorem jE {p q:Prop} (h:q) (t:q -> p:=by intro h;refine AW.exit ?_;refine Eq.mpr (if_pos rfl) ?_;exact h):p:=t h
theorem tk {t:Nat} {ti:TI} (ht:tget tyT t=some ti):TiOk Tryz.prog t ti:=tab_ok ty_ok ht
theorem rI {σ σ':Sto} {x y:AV} (e:x=y) (h:y.pu1=true):Rn σ σ' x y:=Rn.is e h
theorem rO {σ σ':Sto} {x:AV} {id ep ep' off:Nat} {bd bd':Body} (e:x = .own id ep off) (h:σ id=⟨ep,some bd⟩) (h':σ' id=⟨ep',some bd'⟩):Rn σ σ' x (.own id ep' off):=Rn.ownIs e h h'
theorem rR {σ σ':Sto} {x:AV} {id ep ep' off n t m:Nat} {els:List (List AV)} (e:x = .row id ep off n) (h:σ id=⟨ep,some (.row t m els)⟩) (h':σ' id=⟨ep',some (.row t m els)⟩):Rn σ σ' x (.row id ep' off n):=Rn.rowIs e h h'
theorem dT {p:Prop} [Decidable p] (h:p):AV.b (decide p) = .b true:=congrArg AV.b (decide_eq_true h)
theorem dF {p:Prop} [Decidable p] (h:¬p):AV.b (decide p) = .b false:=congrArg AV.b (decide_eq_false h)
theorem dN {p:Prop} [Decidable p] (h:p):AV.b (!decide p) = .b false:=congrArg (fun b=>AV.b (!b)) (decide_eq_true h)
theorem dM {p:Prop} [Decidable p] (h:¬p):AV.b (!decide p) = .b true:=congrArg (fun b=>AV.b (!b)) (decide_eq_false h)
theorem dI {k:IntKind} {a b:Int} (h:a=b):AV.i k a = .i k b:=congrArg (AV.i k) h
theorem bR {s:St} {σ':Sto} {id:Nat} {t:TypeId} {m ep ep':Nat} {els els':List (List AV)} (h:s.σ id=⟨ep,some (.row t m els)⟩) (he:els=els'):WkB1 s σ' id ⟨ep',some (.row t m els')⟩:=.row h he
theorem bS {s:St} {σ':Sto} {id ep ep':Nat} {t:TypeId} {cs:List AV} (h:s.σ id=⟨ep,some (.box t cs)⟩) (h1:cs.all AV.one=true) (hp:cs.all AV.pu1=true):WkB1 s σ' id ⟨ep',some (.box t cs)⟩:=.same h h1 hp
end Go.Proofs.YtoaibdbehlcnfaaGreat.Sm
end
section
namespace Go.Proofs.YtoaibdbehlcnfaaGreat.Sm
open Go.RowKit Go.WideShapes Go.ChangeShapes Go.Deep
theorem ReadA.iint {P:Program} {t:TypeId} (ht:P.underlying t=some (.int .i64)):ReadA P t 1 (fun x:Int=>[.i .i64 x]) :=
  ⟨fun _=>rfl,fun _ y hy=>by obtain rfl:=List.mem_singleton.1 hy;rfl,fun H e w base spare held fuel cs x hx=>by
    obtain ⟨n,rfl,_,hw⟩:=DataW.trod_int ht hx
    exact ⟨n,.single (.i _ _) rfl⟩⟩
theorem ra_int:ReadA Tryz.prog 3 1 (fun x:Int=>[.i .i64 x]):=.iint Tryz.underlying3
theorem ra_u64:ReadA Tryz.prog 32 1 (fun x:UInt64=>[.u x]):=.u64 Tryz.underlying32
theorem ra_u8:ReadA Tryz.prog 5 1 (fun x:UInt8=>[.y x]):=.u8 Tryz.underlying5
structure Hd where
 hi:UInt64
 lo:UInt64
theorem Hd.eq_iff (a b:Hd):a=b↔a.hi=b.hi/\a.lo=b.lo:=by
 cases a;cases b;simp
instance:DecidableEq Hd:=fun a b=>decidable_of_iff _ (Hd.eq_iff a b).symm
def cHd (x:Hd):List AV:=[.u x.hi,.u x.lo]
theorem ra_Hd:ReadA Tryz.prog 34 2 (α:=Hd) cHd:=by
 refine ⟨fun _=>rfl,fun a=>List.all_eq_true.1 rfl,fun H e w base spare held fuel cs x hx=>?_⟩
 obtain ⟨m,hl,hp⟩:=struct_part Tryz.underlying34 hx
 have hl:cs.length=2:=hl.trans (by kernel_rfl)
 obtain ⟨a0,h0⟩:=ra_u64.part (hp 0 32 0 1 rfl (by kernel_rfl))
 obtain ⟨a1,h1⟩:=ra_u64.part (hp 1 32 1 1 rfl (by kernel_rfl))
 refine ⟨⟨a0,a1⟩,PWs.all ?_⟩
 exact h0.join rfl (h1.join rfl (PWs.nil hl))
structure Cb where
 value:Hd
 care:Hd
theorem Cb.eq_iff (a b:Cb):a=b↔a.value=b.value/\a.care=b.care:=by
 cases a;cases b;simp
instance:DecidableEq Cb:=fun a b=>decidable_of_iff _ (Cb.eq_iff a b).symm
def cCb (x:Cb):List AV:=[.u x.value.hi,.u x.value.lo,.u x.care.hi,.u x.care.lo]
theorem ra_Cb:ReadA Tryz.prog 36 4 (α:=Cb) cCb:=by
 refine ⟨fun _=>rfl,fun a=>List.all_eq_true.1 rfl,fun H e w base spare held fuel cs x hx=>?_⟩
 obtain ⟨m,hl,hp⟩:=struct_part Tryz.underlying36 hx
 have hl:cs.length=4:=hl.trans (by kernel_rfl)
 obtain ⟨a0,h0⟩:=ra_Hd.part (hp 0 34 0 2 rfl (by kernel_rfl))
 obtain ⟨a1,h1⟩:=ra_Hd.part (hp 1 34 2 2 rfl (by kernel_rfl))
 refine ⟨⟨a0,a1⟩,PWs.all ?_⟩
 exact h0.join rfl (h1.join rfl (PWs.nil hl))
structure Ac where
 kind:Int
 port:Int
 table:Int
 set:Cb
theorem Ac.eq_iff (a b:Ac):a=b↔a.kind=b.kind/\a.port=b.port/\a.table=b.table/\a.set=b.set:=by
 cases a;cases b;simp
instance:DecidableEq Ac:=fun a b=>decidable_of_iff _ (Ac.eq_iff a b).symm
def cAc (x:Ac):List AV:=[.i .i64 x.kind,.i .i64 x.port,.i .i64 x.table,.u x.set.value.hi,.u x.set.value.lo,.u x.set.care.hi,.u x.set.care.lo]
theorem ra_Ac:ReadA Tryz.prog 38 7 (α:=Ac) cAc:=by
 refine ⟨fun _=>rfl,fun a=>List.all_eq_true.1 rfl,fun H e w base spare held fuel cs x hx=>?_⟩
 obtain ⟨m,hl,hp⟩:=struct_part Tryz.underlying38 hx
 have hl:cs.length=7:=hl.trans (by kernel_rfl)
 obtain ⟨a0,h0⟩:=ra_int.part (hp 0 3 0 1 rfl (by kernel_rfl))
 obtain ⟨a1,h1⟩:=ra_int.part (hp 1 3 1 1 rfl (by kernel_rfl))
 obtain ⟨a2,h2⟩:=ra_int.part (hp 2 3 2 1 rfl (by kernel_rfl))
 obtain ⟨a3,h3⟩:=ra_Cb.part (hp 3 36 3 4 rfl (by kernel_rfl))
 refine ⟨⟨a0,a1,a2,a3⟩,PWs.all ?_⟩
 exact h0.join rfl (h1.join rfl (h2.join rfl (h3.join rfl (PWs.nil hl))))
structure Rl where
 prio:Int
 mat:Cb
 act:Ac
theorem Rl.eq_iff (a b:Rl):a=b↔a.prio=b.prio/\a.mat=b.mat/\a.act=b.act:=by
 cases a;cases b;simp
instance:DecidableEq Rl:=fun a b=>decidable_of_iff _ (Rl.eq_iff a b).symm
def cRl (x:Rl):List AV:=[.i .i64 x.prio,.u x.mat.value.hi,.u x.mat.value.lo,.u x.mat.care.hi,.u x.mat.care.lo,.i .i64 x.act.kind,.i .i64 x.act.port,.i .i64 x.act.table,.u x.act.set.value.hi,.u x.act.set.value.lo,.u x.act.set.care.hi,.u x.act.set.care.lo]
theorem ra_Rl:ReadA Tryz.prog 40 12 (α:=Rl) cRl:=by
 refine ⟨fun _=>rfl,fun a=>List.all_eq_true.1 rfl,fun H e w base spare held fuel cs x hx=>?_⟩
 obtain ⟨m,hl,hp⟩:=struct_part Tryz.underlying40 hx
 have hl:cs.length=12:=hl.trans (by kernel_rfl)
 obtain ⟨a0,h0⟩:=ra_int.part (hp 0 3 0 1 rfl (by kernel_rfl))
 obtain ⟨a1,h1⟩:=ra_Cb.part (hp 1 36 1 4 rfl (by kernel_rfl))
 obtain ⟨a2,h2⟩:=ra_Ac.part (hp 2 38 5 7 rfl (by kernel_rfl))
 refine ⟨⟨a0,a1,a2⟩,PWs.all ?_⟩
 exact h0.join rfl (h1.join rfl (h2.join rfl (PWs.nil hl)))
structure Pt where
 kind:Int
 tenant:Int
 peer:Int
 at_:Int
 cost:Int
theorem Pt.eq_iff (a b:Pt):a=b↔a.kind=b.kind/\a.tenant=b.tenant/\a.peer=b.peer/\a.at_=b.at_/\a.cost=b.cost:=by
 cases a;cases b;simp
instance:DecidableEq Pt:=fun a b=>decidable_of_iff _ (Pt.eq_iff a b).symm
def cPt (x:Pt):List AV:=[.i .i64 x.kind,.i .i64 x.tenant,.i .i64 x.peer,.i .i64 x.at_,.i .i64 x.cost]
theorem ra_Pt:ReadA Tryz.prog 126 5 (α:=Pt) cPt:=by
 refine ⟨fun _=>rfl,fun a=>List.all_eq_true.1 rfl,fun H e w base spare held fuel cs x hx=>?_⟩
 obtain ⟨m,hl,hp⟩:=struct_part Tryz.underlying126 hx
 have hl:cs.length=5:=hl.trans (by kernel_rfl)
 obtain ⟨a0,h0⟩:=ra_int.part (hp 0 3 0 1 rfl (by kernel_rfl))
 obtain ⟨a1,h1⟩:=ra_int.part (hp 1 3 1 1 rfl (by kernel_rfl))
 obtain ⟨a2,h2⟩:=ra_int.part (hp 2 3 2 1 rfl (by kernel_rfl))
 obtain ⟨a3,h3⟩:=ra_int.part (hp 3 3 3 1 rfl (by kernel_rfl))
 obtain ⟨a4,h4⟩:=ra_int.part (hp 4 3 4 1 rfl (by kernel_rfl))
 refine ⟨⟨a0,a1,a2,a3,a4⟩,PWs.all ?_⟩
 exact h0.join rfl (h1.join rfl (h2.join rfl (h3.join rfl (h4.join rfl (PWs.nil hl)))))
structure Sp where
 sw:Int
 port:Int
theorem Sp.eq_iff (a b:Sp):a=b↔a.sw=b.sw/\a.port=b.port:=by
 cases a;cases b;simp
instance:DecidableEq Sp:=fun a b=>decidable_of_iff _ (Sp.eq_iff a b).symm
def cSp (x:Sp):List AV:=[.i .i64 x.sw,.i .i64 x.port]
theorem ra_Sp:ReadA Tryz.prog 42 2 (α:=Sp) cSp:=by
 refine ⟨fun _=>rfl,fun a=>List.all_eq_true.1 rfl,fun H e w base spare held fuel cs x hx=>?_⟩
 obtain ⟨m,hl,hp⟩:=struct_part Tryz.underlying42 hx
 have hl:cs.length=2:=hl.trans (by kernel_rfl)
 obtain ⟨a0,h0⟩:=ra_int.part (hp 0 3 0 1 rfl (by kernel_rfl))
 obtain ⟨a1,h1⟩:=ra_int.part (hp 1 3 1 1 rfl (by kernel_rfl))
 refine ⟨⟨a0,a1⟩,PWs.all ?_⟩
 exact h0.join rfl (h1.join rfl (PWs.nil hl))
structure Wy where
 fro:Int
 to:Int
 via:Int
theorem Wy.eq_iff (a b:Wy):a=b↔a.fro=b.fro/\a.to=b.to/\a.via=b.via:=by
 cases a;cases b;simp
instance:DecidableEq Wy:=fun a b=>decidable_of_iff _ (Wy.eq_iff a b).symm
def cWy (x:Wy):List AV:=[.i .i64 x.fro,.i .i64 x.to,.i .i64 x.via]
theorem ra_Wy:ReadA Tryz.prog 160 3 (α:=Wy) cWy:=by
 refine ⟨fun _=>rfl,fun a=>List.all_eq_true.1 rfl,fun H e w base spare held fuel cs x hx=>?_⟩
 obtain ⟨m,hl,hp⟩:=struct_part Tryz.underlying160 hx
 have hl:cs.length=3:=hl.trans (by kernel_rfl)
 obtain ⟨a0,h0⟩:=ra_int.part (hp 0 3 0 1 rfl (by kernel_rfl))
 obtain ⟨a1,h1⟩:=ra_int.part (hp 1 3 1 1 rfl (by kernel_rfl))
 obtain ⟨a2,h2⟩:=ra_int.part (hp 2 3 2 1 rfl (by kernel_rfl))
 refine ⟨⟨a0,a1,a2⟩,PWs.all ?_⟩
 exact h0.join rfl (h1.join rfl (h2.join rfl (PWs.nil hl)))
def cPr (x:Int × Int):List AV:=[.i .i64 x.1,.i .i64 x.2]
theorem ra_Pr:ReadA Tryz.prog 158 2 (α:=Int × Int) cPr:=by
 refine ⟨fun _=>rfl,fun a=>List.all_eq_true.1 rfl,fun H e w base spare held fuel cs x hx=>?_⟩
 obtain ⟨m,hl,hp⟩:=array_part Tryz.underlying158 hx
 have hl:cs.length=2:=hl.trans (by kernel_rfl)
 obtain ⟨a0,h0⟩:=ra_int.part (hp 0 0 1 (by omega) (by kernel_rfl) rfl)
 obtain ⟨a1,h1⟩:=ra_int.part (hp 1 1 1 (by omega) (by kernel_rfl) rfl)
 exact ⟨(a0,a1),PWs.all (h0.join rfl (h1.join rfl (PWs.nil hl)))⟩
def cPts (l:List Pt):List AV:=[.sl (l.map cPt)]
def cRls (l:List Rl):List AV:=[.sl (l.map cRl)]
def cTab (l:List (List Rl)):List AV:=[.sl (l.map cRls)]
structure Topo where
 ports:List (List Pt)
def cTopo (x:Topo):List AV:=[.sl (x.ports.map cPts)]
structure Pol where
 tenants:Int
 peers:List (Int × Int)
 ways:List Wy
def cPol (x:Pol):List AV:=[.i .i64 x.tenants,.sl (x.peers.map cPr),.sl (x.ways.map cWy)]
structure Cf where
 topo:Topo
 pol:Pol
 tables:List (List (List Rl))
def cCf (x:Cf):List AV:=[.sl (x.topo.ports.map cPts),.i .i64 x.pol.tenants,.sl (x.pol.peers.map cPr),.sl (x.pol.ways.map cWy),.sl (x.tables.map cTab)]
structure Hop where
 sw:Int
 table:Int
 rule:Int
 head:Hd
theorem Hop.eq_iff (a b:Hop):a=b↔a.sw=b.sw/\a.table=b.table/\a.rule=b.rule/\a.head=b.head:=by
 cases a;cases b;simp
instance:DecidableEq Hop:=fun a b=>decidable_of_iff _ (Hop.eq_iff a b).symm
def cHop (x:Hop):List AV:=[.i .i64 x.sw,.i .i64 x.table,.i .i64 x.rule,.u x.head.hi,.u x.head.lo]
structure Run where
 fin:Int
 at_:Sp
 hops:List Hop
def cRun (x:Run):List AV:=[.i .i64 x.fin,.i .i64 x.at_.sw,.i .i64 x.at_.port,.sl (x.hops.map cHop)]
def cI (x:Int):List AV:=[.i .i64 x]
structure Atom where
 ids:List Int
 head:Hd
 pile:List Cb
def cAtom (x:Atom):List AV:=[.sl (x.ids.map cI),.u x.head.hi,.u x.head.lo,.sl (x.pile.map cCb)]
end Go.Proofs.YtoaibdbehlcnfaaGreat.Sm
end
section
namespace Go.Proofs.YtoaibdbehlcnfaaGreat.Sm
open Go.RowKit
def sb64 (a b:UInt64):UInt64:=UInt64.ofNat ((a.toNat+18446744073709551616 - b.toNat) % 18446744073709551616)
def bw64 (a b:UInt64):UInt64:=UInt64.ofNat (if a.toNat<b.toNat then 1 else 0)
theorem op_sub64 {P:Program} {N:Nat} {o:Oper} {s:St} {c:Call} {f:FuncId} {fn:Func} {x y z:Operand} {a b:UInt64} (ho:o.op = .call c) (hc:c.callee = .value (.func f)) (ha:c.args = #[x,y,z]) (hx:s.ev x = .u a) (hy:s.ev y = .u b) (hz:s.ev z = .u 0)
  (hf : P.funcs[f]? = some fn) (hname : (fn.name == "runtime.NumGoroutine") = false) (hb : fn.body.isNone = true) (hn : Extern.findNext fn = none) (he : Extern.find fn = some sub64Entry) : OpLoc P N o s ⟨.tup [.u (sb64 a b), .u (bw64 a b)], [], []⟩ := by
 refine oploc_val [] _ fun s' W F μ ac g1 g2 hs=>?_
 have opers:o.op.operands.toList=[.func f,x,y,z]:=by rw [ho];simp [Op.operands,Call.operands,hc,ha]
 have ex:=hs.ev x
 rw [g1 x (by rw [opers];simp),hx] at ex
 have ey:=hs.ev y
 rw [g1 y (by rw [opers];simp),hy] at ey
 have ez:=hs.ev z
 rw [g1 z (by rw [opers];simp),hz] at ez
 have key:=run_sub64 (P:=P) a.toNat b.toNat 0 (by omega) W
 have h1:(sb64 a b).toNat=(a.toNat+18446744073709551616 - b.toNat - 0) % 18446744073709551616:=by
  rw [sb64,UInt64.toNat_ofNat']
  omega
 have h2:(bw64 a b).toNat=(if a.toNat<b.toNat+0 then 1 else 0):=by
  rw [bw64,UInt64.toNat_ofNat',Nat.add_zero]
  split <;> rfl
 rw [<- h1,<- h2] at key
 refine ⟨_,?_,.tup [.u _,.u _] [_,_] rfl (pw_cons (.pure (.u _)) (pw_cons (.pure (.u _)) pw_nil))⟩
 have e0:(.int .u64 ((0:UInt64).toNat:Int):Value) = .int .u64 ((0:Nat):Int):=rfl
 have ef:ac.eval (.func f) = .func (.func f) #[] #[]:=rfl
 simp only [execOp,ho,resolve,hc,ha,List.map_toArray,List.map_cons,List.map_nil,Sem.run_bind,invoke,ex.u',ey.u',ez.u',e0,ef]
 show Sem.run P (callFunc f #[.int .u64 (a.toNat:Int),.int .u64 (b.toNat:Int),.int .u64 ((0:Nat):Int)]) W=_
 rw [run_callFunc_extern hf hname hb hn he,key]
 rfl
def Hd.and (a b:Hd):Hd:=⟨a.hi &&& b.hi,a.lo &&& b.lo⟩
def Hd.or (a b:Hd):Hd:=⟨a.hi ||| b.hi,a.lo ||| b.lo⟩
def Hd.xor (a b:Hd):Hd:=⟨a.hi ^^^ b.hi,a.lo ^^^ b.lo⟩
def Hd.less (a b:Hd):Hd:=⟨a.hi &&& ~~~b.hi,a.lo &&& ~~~b.lo⟩
theorem d_Bits_and (a b:Hd):PDoes Tryz.prog 252 [.agg (cHd a),.agg (cHd b)] (.agg (cHd (a.and b))):=by
 refine PDoes.of_bodyN Tryz.func252 rfl (by kernel_rfl) rfl rfl ?_
 refine jA ?_
 refine AW.ret (retQA ty_ok rfl rfl rfl ?_)
 rfl
theorem d_Bits_or (a b:Hd):PDoes Tryz.prog 251 [.agg (cHd a),.agg (cHd b)] (.agg (cHd (a.or b))):=by
 refine PDoes.of_bodyN Tryz.func251 rfl (by kernel_rfl) rfl rfl ?_
 refine jA ?_
 refine AW.ret (retQA ty_ok rfl rfl rfl ?_)
 rfl
theorem d_Bits_xor (a b:Hd):PDoes Tryz.prog 253 [.agg (cHd a),.agg (cHd b)] (.agg (cHd (a.xor b))):=by
 refine PDoes.of_bodyN Tryz.func253 rfl (by kernel_rfl) rfl rfl ?_
 refine jA ?_
 refine AW.ret (retQA ty_ok rfl rfl rfl ?_)
 rfl
theorem d_Bits_less (a b:Hd):PDoes Tryz.prog 200 [.agg (cHd a),.agg (cHd b)] (.agg (cHd (a.less b))):=by
 refine PDoes.of_bodyN Tryz.func200 rfl (by kernel_rfl) rfl rfl ?_
 refine jA ?_
 refine AW.ret (retQA ty_ok rfl rfl rfl ?_)
 rfl
theorem d_both (f:Nat) (a b c:Hd) (h:PDoes Tryz.prog f [.agg (cHd a),.agg (cHd b)] (.agg (cHd c))):PDoes Tryz.prog 199 [.fn f [] [],.agg (cHd a),.agg (cHd b)] (.agg (cHd c)):=by
 refine PDoes.of_bodyN Tryz.func199 rfl (by kernel_rfl) rfl rfl ?_
 refine jA ?_
 refine RG.callS rfl rfl rfl rfl rfl h rfl rfl ?_
 refine wH rfl ?_;refine jA ?_
 refine AW.ret (retQA ty_ok rfl rfl rfl ?_)
 rfl
theorem d_And (a b:Hd):PDoes Tryz.prog 197 [.agg (cHd a),.agg (cHd b)] (.agg (cHd (a.and b))):=by
 refine PDoes.of_bodyN Tryz.func197 rfl (by kernel_rfl) rfl rfl ?_
 refine jA ?_
 refine RG.callS rfl rfl rfl rfl rfl (d_both _ a b _ (d_Bits_and a b)) rfl rfl ?_
 refine wH rfl ?_;refine jA ?_
 refine AW.ret (retQA ty_ok rfl rfl rfl ?_)
 rfl
theorem d_Or (a b:Hd):PDoes Tryz.prog 208 [.agg (cHd a),.agg (cHd b)] (.agg (cHd (a.or b))):=by
 refine PDoes.of_bodyN Tryz.func208 rfl (by kernel_rfl) rfl rfl ?_
 refine jA ?_
 refine RG.callS rfl rfl rfl rfl rfl (d_both _ a b _ (d_Bits_or a b)) rfl rfl ?_
 refine wH rfl ?_;refine jA ?_
 refine AW.ret (retQA ty_ok rfl rfl rfl ?_)
 rfl
theorem d_Xor (a b:Hd):PDoes Tryz.prog 198 [.agg (cHd a),.agg (cHd b)] (.agg (cHd (a.xor b))):=by
 refine PDoes.of_bodyN Tryz.func198 rfl (by kernel_rfl) rfl rfl ?_
 refine jA ?_
 refine RG.callS rfl rfl rfl rfl rfl (d_both _ a b _ (d_Bits_xor a b)) rfl rfl ?_
 refine wH rfl ?_;refine jA ?_
 refine AW.ret (retQA ty_ok rfl rfl rfl ?_)
 rfl
theorem d_Less (a b:Hd):PDoes Tryz.prog 154 [.agg (cHd a),.agg (cHd b)] (.agg (cHd (a.less b))):=by
 refine PDoes.of_bodyN Tryz.func154 rfl (by kernel_rfl) rfl rfl ?_
 refine jA ?_
 refine RG.callS rfl rfl rfl rfl rfl (d_both _ a b _ (d_Bits_less a b)) rfl rfl ?_
 refine wH rfl ?_;refine jA ?_
 refine AW.ret (retQA ty_ok rfl rfl rfl ?_)
 rfl
def Hd.left (a:Hd) (n:Nat):Hd:=if 64<=n then ⟨shl64 a.lo (n - 64),0⟩ else ⟨shl64 a.hi n ||| shr64 a.lo (64 - n),shl64 a.lo n⟩
def Hd.right (a:Hd) (n:Nat):Hd:=if 64<=n then ⟨0,shr64 a.hi (n - 64)⟩ else ⟨shr64 a.hi n,shr64 a.lo n ||| shl64 a.hi (64 - n)⟩
theorem shI {z:Int} {k:Nat} (h:z=(k:Nat)) (hk:k<=128):(ofI64 z).toNat=k:=by
 have:=ofI64_nat z
 rw [IntKind.wrap_u64] at this
 omega
theorem shn (n k:Nat) (h:n<=128) (hk:k<=n):(ofI64 (IntKind.i64.wrap ((n:Int) - Int.ofNat k))).toNat=n - k:=by
 refine shI ?_ (by omega)
 rw [IntKind.wrap_i64]
 simp only [Int.ofNat_eq_natCast]
 omega
theorem shk (n k:Nat) (h:k<=128) (hk:n<=k):(ofI64 (IntKind.i64.wrap (Int.ofNat k - (n:Int)))).toNat=k - n:=by
 refine shI ?_ (by omega)
 rw [IntKind.wrap_i64]
 simp only [Int.ofNat_eq_natCast]
 omega
theorem sh0 (n:Nat) (h:n<=128):(ofI64 (n:Int)).toNat=n:=shI rfl h
theorem d_left (a:Hd) (n:Nat) (hn:n<=128):PDoes Tryz.prog 250 [.agg (cHd a),.i .i64 n] (.agg (cHd (a.left n))):=by
 refine PDoes.of_bodyN Tryz.func250 rfl (by kernel_rfl) rfl rfl ?_
 refine jA ?_
 refine AW.cond rfl (fun h=>?_) (fun h=>?_)
 ·have h:64<=n:=Int.ofNat_le.1 (of_decide_eq_true h)
  refine jA ?_
  refine AW.ret (retQA ty_ok rfl rfl rfl ?_)
  rw [Hd.left,if_pos h,shn n 64 hn h]
  rfl
 ·have h:¬64<=n:=fun h'=>of_decide_eq_false h (Int.ofNat_le.2 h')
  refine jA ?_
  refine AW.ret (retQA ty_ok rfl rfl rfl ?_)
  rw [Hd.left,if_neg h,shk n 64 (by omega) (by omega),sh0 n hn]
  rfl
theorem d_right (a:Hd) (n:Nat) (hn:n<=128):PDoes Tryz.prog 269 [.agg (cHd a),.i .i64 n] (.agg (cHd (a.right n))):=by
 refine PDoes.of_bodyN Tryz.func269 rfl (by kernel_rfl) rfl rfl ?_
 refine jA ?_
 refine AW.cond rfl (fun h=>?_) (fun h=>?_)
 ·have h:64<=n:=Int.ofNat_le.1 (of_decide_eq_true h)
  refine jA ?_
  refine AW.ret (retQA ty_ok rfl rfl rfl ?_)
  rw [Hd.right,if_pos h,shn n 64 hn h]
  rfl
 ·have h:¬64<=n:=fun h'=>of_decide_eq_false h (Int.ofNat_le.2 h')
  refine jA ?_
  refine AW.ret (retQA ty_ok rfl rfl rfl ?_)
  rw [Hd.right,if_neg h,shk n 64 (by omega) (by omega),sh0 n hn]
  rfl
theorem d_field (at_ size most:Nat) (h1:size<=most) (h2:at_+size<=128):PDoes Tryz.prog 248 [.i .i64 at_,.i .i64 size,.i .i64 most] (.b true):=by
 refine PDoes.of_bodyN Tryz.func248 rfl (by kernel_rfl) rfl rfl ?_
 refine jB ?_;refine wF ?_;refine wH rfl ?_;refine jB ?_
 refine AW.text ?_
 have e3:IntKind.i64.wrap (Int.ofNat 128 - (size:Int))=128 - (size:Int):=by rw [IntKind.wrap_i64];simp only [Int.ofNat_eq_natCast];omega
 refine RG.runO ty_ok 0 [(8,.b true),(11,.b true),(16,.b true),(22,.b true)] 400 rfl ⟨congrArg AV.b (decide_eq_true ?_),congrArg AV.b (decide_eq_true ?_),congrArg AV.b (decide_eq_true ?_),congrArg AV.b (decide_eq_true ?_),trivial⟩ ?_
 ·rw [e3];omega
 ·omega
 ·exact Int.natCast_nonneg _
 ·exact Int.natCast_nonneg _
 refine jB ?_
 refine AW.ret (retQB rfl rfl ?_)
 rfl
def lowH (n:Nat):Hd:=if 128<=n then ⟨18446744073709551615,18446744073709551615⟩ else ⟨((Hd.mk 0 1).left n).hi - bw64 ((Hd.mk 0 1).left n).lo 1,sb64 ((Hd.mk 0 1).left n).lo 1⟩
theorem d_low (n:Nat) (hn:n<=128):PDoes Tryz.prog 249 [.i .i64 n] (.agg (cHd (lowH n))):=by
 refine PDoes.of_bodyN Tryz.func249 rfl (by kernel_rfl) rfl rfl ?_
 refine jA ?_
 refine AW.cond rfl (fun h=>?_) (fun h=>?_)
 ·have h:128<=n:=Int.ofNat_le.1 (of_decide_eq_true h)
  refine jA ?_
  refine AW.ret (retQA ty_ok rfl rfl rfl ?_)
  rw [lowH,if_pos h]
  rfl
 ·have h:¬128<=n:=fun h'=>of_decide_eq_false h (Int.ofNat_le.2 h')
  refine jA ?_
  refine RG.callS rfl rfl rfl rfl rfl (d_left ⟨0,1⟩ n hn) rfl rfl ?_
  refine wH rfl ?_;refine jA ?_
  refine RG.opE rfl (.inr (.inr ⟨_,_,_,_,rfl,rfl,Tryz.func281,by kernel_rfl,by kernel_rfl,by kernel_rfl,(by kernel_rfl:_=some sub64Entry)⟩)) (op_sub64 rfl rfl rfl rfl rfl rfl Tryz.func281 (by kernel_rfl) (by kernel_rfl) (by kernel_rfl) (by kernel_rfl)) rfl ?_
  refine wH rfl ?_;refine jA ?_
  refine AW.ret (retQA ty_ok rfl rfl rfl ?_)
  rw [lowH,if_neg h]
  rfl
def maskH (at_ size:Nat):Hd:=(lowH size).left at_
theorem d_Mask (at_ size:Nat) (h:at_+size<=128):PDoes Tryz.prog 195 [.i .i64 at_,.i .i64 size] (.tup [.agg (cHd (maskH at_ size)),.i .i64 0]):=by
 refine PDoes.of_bodyN Tryz.func195 rfl (by kernel_rfl) rfl rfl ?_
 refine jA ?_
 refine RG.callS rfl rfl rfl rfl rfl (d_field at_ size 128 (by omega) h) rfl rfl ?_
 refine wH rfl ?_;refine jA ?_;refine AW.condF rfl ?_;refine jA ?_
 refine RG.callS rfl rfl rfl rfl rfl (d_low size (by omega)) rfl rfl ?_
 refine wH rfl ?_;refine jA ?_
 refine RG.callS rfl rfl rfl rfl rfl (d_left _ at_ (by omega)) rfl rfl ?_
 refine wH rfl ?_;refine jA ?_
 refine AW.ret (retQA ty_ok rfl rfl rfl ?_)
 rfl
def Hd.bit (a:Hd) (n:Nat):Bool:=decide ((a.right n).lo &&& 1=1)
theorem d_Bit (a:Hd) (n:Nat) (hn:n<128):PDoes Tryz.prog 225 [.agg (cHd a),.i .i64 n] (.b (a.bit n)):=by
 refine PDoes.of_bodyN Tryz.func225 rfl (by kernel_rfl) rfl rfl ?_
 refine jB ?_;refine wF ?_;refine wH rfl ?_;refine jB ?_
 refine AW.text ?_
 refine RG.runO ty_ok 0 [(6,.b true),(9,.b true)] 400 rfl ⟨congrArg AV.b (decide_eq_true ?_),congrArg AV.b (decide_eq_true ?_),trivial⟩ ?_
 ·exact Int.ofNat_lt.2 hn
 ·exact Int.natCast_nonneg _
 refine RG.callS rfl rfl rfl rfl rfl (d_right a n (by omega)) rfl rfl ?_
 refine wH rfl ?_;refine jA ?_
 refine AW.ret (retQA ty_ok rfl rfl rfl ?_)
 rfl
def Hd.put (a:Hd) (at_ size:Nat) (v:UInt64):Hd:=(a.less (maskH at_ size)).or ((Hd.mk 0 v).left at_)
theorem d_Put (a:Hd) (at_ size:Nat) (v:UInt64) (h:at_+size<=128) (h2:size<=64) (hv:v &&& ~~~(lowH size).lo=0):PDoes Tryz.prog 196 [.agg (cHd a),.i .i64 at_,.i .i64 size,.u v] (.tup [.agg (cHd (a.put at_ size v)),.i .i64 0]):=by
 refine PDoes.of_bodyN Tryz.func196 rfl (by kernel_rfl) rfl rfl ?_
 refine jA ?_
 refine RG.callS rfl rfl rfl rfl rfl (d_field at_ size 64 h2 h) rfl rfl ?_
 refine wH rfl ?_;refine jA ?_;refine AW.condF rfl ?_;refine jA ?_
 refine RG.callS rfl rfl rfl rfl rfl (d_low size (by omega)) rfl rfl ?_
 refine RG.runO ty_ok 0 [(23,.b false)] 400 rfl ⟨congrArg (fun b=>AV.b (!b)) (decide_eq_true hv),trivial⟩ ?_
 refine jA ?_;refine AW.condF rfl ?_;refine jA ?_
 refine RG.callS rfl rfl rfl rfl rfl (d_low size (by omega)) rfl rfl ?_
 refine wH rfl ?_;refine jA ?_
 refine RG.callS rfl rfl rfl rfl rfl (d_left _ at_ (by omega)) rfl rfl ?_
 refine wH rfl ?_;refine jA ?_
 refine RG.callS rfl rfl rfl rfl rfl (d_Bits_less a _) rfl rfl ?_
 refine wH rfl ?_;refine jA ?_
 refine RG.callS rfl rfl rfl rfl rfl (d_left ⟨0,v⟩ at_ (by omega)) rfl rfl ?_
 refine wH rfl ?_;refine jA ?_
 refine RG.callS rfl rfl rfl rfl rfl (d_Bits_or _ _) rfl rfl ?_
 refine wH rfl ?_;refine jA ?_
 refine AW.ret (retQA ty_ok rfl rfl rfl ?_)
 rfl
def ones64 (a:UInt64):UInt64 :=
 let x1:=(shr64 a 1 &&& 6148914691236517205)+(a &&& 6148914691236517205)
 let x2:=(shr64 x1 2 &&& 3689348814741910323)+(x1 &&& 3689348814741910323)
 let x3:=(shr64 x2 4+x2) &&& 1085102592571150095
 let x4:=x3+shr64 x3 8
 let x5:=x4+shr64 x4 16
 x5+shr64 x5 32
def onesI (a:UInt64):Int:=IntKind.i64.wrap ((BitVec.ofInt 64 (IntKind.i64.wrap (ones64 a).toNat) &&& BitVec.ofInt 64 127).toNat)
theorem d_OnesCount (a:UInt64):PDoes Tryz.prog 203 [.u a] (.i .i64 (onesI a)):=by
 refine PDoes.of_bodyN Tryz.func203 rfl (by kernel_rfl) rfl rfl ?_
 refine jA ?_
 refine AW.ret (retQA ty_ok rfl rfl rfl ?_)
 rfl
def Hd.ones (a:Hd):Int:=IntKind.i64.wrap (onesI a.hi+onesI a.lo)
theorem d_Ones (a:Hd):PDoes Tryz.prog 156 [.agg (cHd a)] (.i .i64 a.ones):=by
 refine PDoes.of_bodyN Tryz.func156 rfl (by kernel_rfl) rfl rfl ?_
 refine jB ?_;refine wF ?_;refine wH rfl ?_;refine jB ?_
 refine AW.draws mixed_ok ?_
 refine wH rfl ?_
 refine RG.callS rfl rfl rfl rfl rfl (d_OnesCount a.hi) rfl rfl ?_
 refine wH rfl ?_
 refine RG.callS rfl rfl rfl rfl rfl (d_OnesCount a.lo) rfl rfl ?_
 refine wH rfl ?_;refine jA ?_
 refine AW.ret (retQA ty_ok rfl rfl rfl ?_)
 rfl
end Go.Proofs.YtoaibdbehlcnfaaGreat.Sm
end
section
namespace Go.Proofs.YtoaibdbehlcnfaaGreat.Sm
open Go.RowKit
theorem eq_Hd (a b:Hd):eqA tyT 6 34 (.agg (cHd a)) (.agg (cHd b))=some (decide (a=b)):=by
 show some (decide (a.hi=b.hi) && (decide (a.lo=b.lo) && true))=_
 congr 1
 rw [Bool.eq_iff_iff]
 simp [Hd.eq_iff,and_assoc]
theorem eq_Cb (a b:Cb):eqA tyT 6 36 (.agg (cCb a)) (.agg (cCb b))=some (decide (a=b)):=by
 show some ((decide (a.value.hi=b.value.hi) && (decide (a.value.lo=b.value.lo) && true)) && ((decide (a.care.hi=b.care.hi) && (decide (a.care.lo=b.care.lo) && true)) && true))=_
 congr 1
 rw [Bool.eq_iff_iff]
 simp [Cb.eq_iff,Hd.eq_iff,and_assoc]
theorem eq_Pt (a b:Pt):eqA tyT 6 126 (.agg (cPt a)) (.agg (cPt b))=some (decide (a=b)):=by
 show some (decide (a.kind=b.kind) && (decide (a.tenant=b.tenant) && (decide (a.peer=b.peer) && (decide (a.at_=b.at_) && (decide (a.cost=b.cost) && true)))))=_
 congr 1
 rw [Bool.eq_iff_iff]
 simp [Pt.eq_iff,and_assoc]
theorem eq_Sp (a b:Sp):eqA tyT 6 42 (.agg (cSp a)) (.agg (cSp b))=some (decide (a=b)):=by
 show some (decide (a.sw=b.sw) && (decide (a.port=b.port) && true))=_
 congr 1
 rw [Bool.eq_iff_iff]
 simp [Sp.eq_iff,and_assoc]
end Go.Proofs.YtoaibdbehlcnfaaGreat.Sm
end
section
namespace Go.Proofs.YtoaibdbehlcnfaaGreat.Sm
open Go.RowKit
def Hd.zero:Hd:=⟨0,0⟩
def Hd.none (h:Hd):Bool:=decide (h=Hd.zero)
theorem d_none (h:Hd) (r:Bool) (hr:h.none=r):PDoes Tryz.prog 151 [.agg (cHd h)] (.b r):=by
 refine PDoes.of_bodyN Tryz.func151 rfl (by kernel_rfl) rfl rfl ?_
 refine jA ?_
 refine RG.opS rfl (op_eqG rfl ty_ok (by kernel_rfl) (by kernel_rfl) rfl rfl (eq_Hd h Hd.zero) hr) rfl ?_
 refine wH rfl ?_;refine jA ?_
 refine AW.ret (retQA ty_ok rfl rfl rfl ?_)
 rfl
def Cb.zero:Cb:=⟨Hd.zero,Hd.zero⟩
def Cb.sound (c:Cb):Bool:=(c.value.less c.care).none
theorem d_Sound (c:Cb) (r:Bool) (hr:c.sound=r):PDoes Tryz.prog 105 [.agg (cCb c)] (.b r):=by
 refine PDoes.of_bodyN Tryz.func105 rfl (by kernel_rfl) rfl rfl ?_
 refine jA ?_
 refine RG.callS rfl rfl rfl rfl rfl (d_Less c.value c.care) rfl rfl ?_;refine wH rfl ?_;refine jA ?_
 refine RG.callS rfl rfl rfl rfl rfl (d_none _ r hr) rfl rfl ?_;refine wH rfl ?_;refine jA ?_
 refine AW.ret (retQA ty_ok rfl rfl rfl ?_)
 rfl
theorem d_All:PDoes Tryz.prog 106 [] (.agg (cCb Cb.zero)):=by
 refine PDoes.of_bodyN Tryz.func106 rfl (by kernel_rfl) rfl rfl ?_
 refine jA ?_
 refine AW.ret (retQA ty_ok rfl rfl rfl ?_)
 rfl
def Cb.make (value care:Hd):Cb:=⟨value.and care,care⟩
theorem d_Make (value care:Hd):PDoes Tryz.prog 153 [.agg (cHd value),.agg (cHd care)] (.agg (cCb (Cb.make value care))):=by
 refine PDoes.of_bodyN Tryz.func153 rfl (by kernel_rfl) rfl rfl ?_
 refine jA ?_
 refine RG.callS rfl rfl rfl rfl rfl (d_And value care) rfl rfl ?_;refine wH rfl ?_;refine jA ?_
 refine AW.ret (retQA ty_ok rfl rfl rfl ?_)
 rfl
def Cb.has (c:Cb) (h:Hd):Bool:=c.sound && decide (h.and c.care=c.value)
theorem d_Has (c:Cb) (h:Hd) (r:Bool) (hr:c.has h=r):PDoes Tryz.prog 280 [.agg (cCb c),.agg (cHd h)] (.b r):=by
 subst hr
 refine PDoes.of_bodyN Tryz.func280 rfl (by kernel_rfl) rfl rfl ?_
 refine jA ?_
 cases h1:c.sound
 ·refine RG.callS rfl rfl rfl rfl rfl (d_Sound c _ h1) rfl rfl ?_;refine wH rfl ?_;refine jA ?_
  refine AW.ret (retQA ty_ok rfl rfl rfl ?_)
  exact congrArg AV.b (by simp [Cb.has,h1])
 ·refine RG.callS rfl rfl rfl rfl rfl (d_Sound c _ h1) rfl rfl ?_;refine wH rfl ?_;refine jA ?_
  refine RG.callS rfl rfl rfl rfl rfl (d_And h c.care) rfl rfl ?_;refine wH rfl ?_;refine jA ?_
  refine RG.opS rfl (op_eqG rfl ty_ok (by kernel_rfl) (by kernel_rfl) rfl rfl (eq_Hd (h.and c.care) c.value) rfl) rfl ?_
  refine wH rfl ?_;refine jA ?_
  refine AW.ret (retQA ty_ok rfl rfl rfl ?_)
  exact congrArg AV.b (by simp [Cb.has,h1])
def Cb.apart (a b:Cb):Hd:=(a.value.xor b.value).and (a.care.and b.care)
theorem d_apart (a b:Cb):PDoes Tryz.prog 152 [.agg (cCb a),.agg (cCb b)] (.agg (cHd (a.apart b))):=by
 refine PDoes.of_bodyN Tryz.func152 rfl (by kernel_rfl) rfl rfl ?_
 refine jA ?_
 refine RG.callS rfl rfl rfl rfl rfl (d_Xor a.value b.value) rfl rfl ?_;refine wH rfl ?_;refine jA ?_
 refine RG.callS rfl rfl rfl rfl rfl (d_And a.care b.care) rfl rfl ?_;refine wH rfl ?_;refine jA ?_
 refine RG.callS rfl rfl rfl rfl rfl (d_And _ _) rfl rfl ?_;refine wH rfl ?_;refine jA ?_
 refine AW.ret (retQA ty_ok rfl rfl rfl ?_)
 rfl
def Cb.meets (a b:Cb):Bool:=a.sound && b.sound && (a.apart b).none
def Cb.met (a b:Cb):Cb:=⟨a.value.or b.value,a.care.or b.care⟩
theorem d_Meet (a b:Cb) (r:Bool) (hr:a.meets b=r):PDoes Tryz.prog 256 [.agg (cCb a),.agg (cCb b)] (.tup [.agg (cCb (cond r (a.met b) Cb.zero)),.b r]):=by
  subst hr
  refine PDoes.of_bodyN Tryz.func256 rfl (by kernel_rfl) rfl rfl ?_
  refine jA ?_
  cases h1:a.sound
  · rw [show a.meets b=false by simp [Cb.meets,h1]]
    refine RG.callS rfl rfl rfl rfl rfl (d_Sound a _ h1) rfl rfl ?_;refine wH rfl ?_;refine jA ?_
    refine AW.condT rfl ?_;refine jA ?_
    refine AW.ret (retQA ty_ok rfl rfl rfl ?_)
    rfl
  refine RG.callS rfl rfl rfl rfl rfl (d_Sound a _ h1) rfl rfl ?_;refine wH rfl ?_;refine jA ?_
  cases h2:b.sound
  · rw [show a.meets b=false by simp [Cb.meets,h2]]
    refine RG.callS rfl rfl rfl rfl rfl (d_Sound b _ h2) rfl rfl ?_;refine wH rfl ?_;refine jA ?_
    refine AW.condT rfl ?_;refine jA ?_
    refine AW.ret (retQA ty_ok rfl rfl rfl ?_)
    rfl
  refine RG.callS rfl rfl rfl rfl rfl (d_Sound b _ h2) rfl rfl ?_;refine wH rfl ?_;refine jA ?_
  refine RG.callS rfl rfl rfl rfl rfl (d_apart a b) rfl rfl ?_;refine wH rfl ?_;refine jA ?_
  cases h3:(a.apart b).none
  · rw [show a.meets b=false by simp [Cb.meets,h3]]
    refine RG.callS rfl rfl rfl rfl rfl (d_none _ _ h3) rfl rfl ?_;refine wH rfl ?_;refine jA ?_
    refine AW.condT rfl ?_;refine jA ?_
    refine AW.ret (retQA ty_ok rfl rfl rfl ?_)
    rfl
  rw [show a.meets b=true by simp [Cb.meets,h1,h2,h3]]
  refine RG.callS rfl rfl rfl rfl rfl (d_none _ _ h3) rfl rfl ?_;refine wH rfl ?_;refine jA ?_
  refine AW.condF rfl ?_;refine jA ?_
  refine RG.callS rfl rfl rfl rfl rfl (d_Or a.value b.value) rfl rfl ?_;refine wH rfl ?_;refine jA ?_
  refine RG.callS rfl rfl rfl rfl rfl (d_Or a.care b.care) rfl rfl ?_;refine wH rfl ?_;refine jA ?_
  refine AW.ret (retQA ty_ok rfl rfl rfl ?_)
  rfl
def Cb.within (a b:Cb):Bool:=a.sound && b.sound && (b.care.less a.care).none && (a.apart b).none
theorem d_Within (a b:Cb) (r:Bool) (hr:a.within b=r):PDoes Tryz.prog 305 [.agg (cCb a),.agg (cCb b)] (.b r):=by
 subst hr
 refine PDoes.of_bodyN Tryz.func305 rfl (by kernel_rfl) rfl rfl ?_
 refine jA ?_
 cases h1:a.sound
 ·refine RG.callS rfl rfl rfl rfl rfl (d_Sound a _ h1) rfl rfl ?_;refine wH rfl ?_;refine jA ?_
  refine AW.ret (retQA ty_ok rfl rfl rfl ?_)
  exact congrArg AV.b (by simp [Cb.within,h1])
 refine RG.callS rfl rfl rfl rfl rfl (d_Sound a _ h1) rfl rfl ?_;refine wH rfl ?_;refine jA ?_
 cases h2:b.sound
 ·refine RG.callS rfl rfl rfl rfl rfl (d_Sound b _ h2) rfl rfl ?_;refine wH rfl ?_;refine jA ?_
  refine AW.ret (retQA ty_ok rfl rfl rfl ?_)
  exact congrArg AV.b (by simp [Cb.within,h2])
 refine RG.callS rfl rfl rfl rfl rfl (d_Sound b _ h2) rfl rfl ?_;refine wH rfl ?_;refine jA ?_
 refine RG.callS rfl rfl rfl rfl rfl (d_Less b.care a.care) rfl rfl ?_;refine wH rfl ?_;refine jA ?_
 cases h3:(b.care.less a.care).none
 ·refine RG.callS rfl rfl rfl rfl rfl (d_none _ _ h3) rfl rfl ?_;refine wH rfl ?_;refine jA ?_
  refine AW.ret (retQA ty_ok rfl rfl rfl ?_)
  exact congrArg AV.b (by simp [Cb.within,h3])
 refine RG.callS rfl rfl rfl rfl rfl (d_none _ _ h3) rfl rfl ?_;refine wH rfl ?_;refine jA ?_
 refine RG.callS rfl rfl rfl rfl rfl (d_apart a b) rfl rfl ?_;refine wH rfl ?_;refine jA ?_
 refine RG.callS rfl rfl rfl rfl rfl (d_none _ _ rfl) rfl rfl ?_;refine wH rfl ?_;refine jA ?_
 refine AW.ret (retQA ty_ok rfl rfl rfl ?_)
 exact congrArg AV.b (by simp [Cb.within,h1,h2,h3])
def Hd.set (h:Hd) (c:Cb):Hd:=(h.less c.care).or (c.value.and c.care)
theorem d_Set (h:Hd) (c:Cb):PDoes Tryz.prog 159 [.agg (cHd h),.agg (cCb c)] (.agg (cHd (h.set c))):=by
 refine PDoes.of_bodyN Tryz.func159 rfl (by kernel_rfl) rfl rfl ?_
 refine jA ?_
 refine RG.callS rfl rfl rfl rfl rfl (d_Less h c.care) rfl rfl ?_;refine wH rfl ?_;refine jA ?_
 refine RG.callS rfl rfl rfl rfl rfl (d_And c.value c.care) rfl rfl ?_;refine wH rfl ?_;refine jA ?_
 refine RG.callS rfl rfl rfl rfl rfl (d_Or _ _) rfl rfl ?_;refine wH rfl ?_;refine jA ?_
 refine AW.ret (retQA ty_ok rfl rfl rfl ?_)
 rfl
def Cb.hits (c set:Cb):Bool:=c.sound && (c.apart (Cb.make set.value set.care)).none
def Cb.before (c set:Cb):Cb:=Cb.make c.value (c.care.less set.care)
theorem d_Before (c set:Cb) (r:Bool) (hr:c.hits set=r):PDoes Tryz.prog 99 [.agg (cCb c),.agg (cCb set)] (.tup [.agg (cCb (cond r (c.before set) Cb.zero)),.b r]):=by
  subst hr
  refine PDoes.of_bodyN Tryz.func99 rfl (by kernel_rfl) rfl rfl ?_
  refine jA ?_
  cases h1:c.sound
  · rw [show c.hits set=false by simp [Cb.hits,h1]]
    refine RG.callS rfl rfl rfl rfl rfl (d_Sound c _ h1) rfl rfl ?_;refine wH rfl ?_;refine jA ?_
    refine AW.condT rfl ?_;refine jA ?_
    refine AW.ret (retQA ty_ok rfl rfl rfl ?_)
    rfl
  refine RG.callS rfl rfl rfl rfl rfl (d_Sound c _ h1) rfl rfl ?_;refine wH rfl ?_;refine jA ?_
  refine RG.callS rfl rfl rfl rfl rfl (d_Make set.value set.care) rfl rfl ?_;refine wH rfl ?_;refine jA ?_
  refine RG.callS rfl rfl rfl rfl rfl (d_apart c (Cb.make set.value set.care)) rfl rfl ?_;refine wH rfl ?_;refine jA ?_
  cases h3:(c.apart (Cb.make set.value set.care)).none
  · rw [show c.hits set=false by simp [Cb.hits,h3]]
    refine RG.callS rfl rfl rfl rfl rfl (d_none _ _ h3) rfl rfl ?_;refine wH rfl ?_;refine jA ?_
    refine AW.condT rfl ?_;refine jA ?_
    refine AW.ret (retQA ty_ok rfl rfl rfl ?_)
    rfl
  rw [show c.hits set=true by simp [Cb.hits,h1,h3]]
  refine RG.callS rfl rfl rfl rfl rfl (d_none _ _ h3) rfl rfl ?_;refine wH rfl ?_;refine jA ?_
  refine AW.condF rfl ?_;refine jA ?_
  refine RG.callS rfl rfl rfl rfl rfl (d_Less c.care set.care) rfl rfl ?_;refine wH rfl ?_;refine jA ?_
  refine RG.callS rfl rfl rfl rfl rfl (d_Make c.value _) rfl rfl ?_;refine wH rfl ?_;refine jA ?_
  refine AW.ret (retQA ty_ok rfl rfl rfl ?_)
  rfl
theorem i64_dec (k:Nat) (h:k<=1000000000):AV.i .i64 (IntKind.i64.wrap ((k:Int) - Int.ofNat 1)) = .i .i64 ((k:Int) - 1):=by
 rw [IntKind.wrap_i64]
 simp only [Int.ofNat_eq_natCast]
 congr 1
 omega
def lessF (b:Cb) (more:Hd):Nat->Cb->List Cb->List Cb
 | 0,_,out=>out
 | n+1,rest,out=>cond (more.bit n) (lessF b more n ⟨rest.value.or (b.value.and (maskH n 1)),rest.care.or (maskH n 1)⟩ (out++[⟨(rest.value.or (b.value.and (maskH n 1))).xor (maskH n 1),rest.care.or (maskH n 1)⟩])) (lessF b more n rest out)
def Cb.less (a b:Cb):List Cb:=cond (a.sound && b.sound) (cond (a.meets b) (lessF b (b.care.less a.care) 128 a []) [a]) []
theorem d_CLess (a b:Cb):PDoes Tryz.prog 260 [.agg (cCb a),.agg (cCb b)] (.sl ((a.less b).map cCb)):=by
  refine PDoes.of_bodyN Tryz.func260 rfl (by kernel_rfl) rfl rfl ?_
  refine jA ?_
  cases h1:a.sound
  · rw [show a.less b=[] by simp [Cb.less,h1]]
    refine RG.callS rfl rfl rfl rfl rfl (d_Sound a _ h1) rfl rfl ?_;refine wH rfl ?_;refine jA ?_
    refine AW.condT rfl ?_;refine jA ?_
    refine AW.ret (retQA ty_ok rfl rfl rfl ?_)
    rfl
  refine RG.callS rfl rfl rfl rfl rfl (d_Sound a _ h1) rfl rfl ?_;refine wH rfl ?_;refine jA ?_
  cases h2:b.sound
  · rw [show a.less b=[] by simp [Cb.less,h2]]
    refine RG.callS rfl rfl rfl rfl rfl (d_Sound b _ h2) rfl rfl ?_;refine wH rfl ?_;refine jA ?_
    refine AW.condT rfl ?_;refine jA ?_
    refine AW.ret (retQA ty_ok rfl rfl rfl ?_)
    rfl
  refine RG.callS rfl rfl rfl rfl rfl (d_Sound b _ h2) rfl rfl ?_;refine wH rfl ?_;refine jA ?_
  refine AW.condF rfl ?_;refine jA ?_
  cases h3:a.meets b
  · rw [show a.less b=[a] by simp [Cb.less,h1,h2,h3]]
    refine RG.callS rfl rfl rfl rfl rfl (d_Meet a b _ h3) rfl rfl ?_;refine wH rfl ?_;refine jA ?_
    refine AW.condT rfl ?_;refine jA ?_
    refine AW.ret (retQA ty_ok rfl rfl rfl ?_)
    rfl
  rw [show a.less b=lessF b (b.care.less a.care) 128 a [] by simp [Cb.less,h1,h2,h3]]
  refine RG.callS rfl rfl rfl rfl rfl (d_Meet a b _ h3) rfl rfl ?_
  refine wH rfl ?_;refine jB ?_;refine wF ?_;refine wH rfl ?_;refine jB ?_;refine AW.condF rfl ?_;refine jB ?_
  refine AW.text ?_
  refine RG.opS rfl (op_nilRow 7 36 4 rfl) rfl ?_
  refine wH rfl ?_;refine jA ?_
  refine RG.callS rfl rfl rfl rfl rfl (d_Less b.care a.care) rfl rfl ?_;refine wH rfl ?_;refine jA ?_
  generalize b.care.less a.care=more
  refine AW.loopL (ι:=Nat × Cb × List Cb) (fun i=>[(3,.own 3 0 0),(7,.row 7 0 0 (i.2.2.map cCb).length),(8,.own 8 0 0),(9,.own 9 0 0),(10,.i .i64 ((i.1:Int) - 1))]) (fun i=>[(3,⟨0,some (.box 36 (cCb b))⟩),(7,⟨0,some (.row 36 4 (i.2.2.map cCb))⟩),(8,⟨0,some (.box 34 (cHd more))⟩),(9,⟨0,some (.box 36 (cCb i.2.1))⟩)]) (fun i=>i.1<=128/\i.2.2.length<=128 - i.1/\lessF b more i.1 i.2.1 i.2.2=lessF b more 128 a []) (fun i=>i.1) (128,a,[]) ⟨Nat.le_refl _,Nat.le_refl _,rfl⟩ jW jW fun i hi=>?_
  obtain ⟨n,rest,out⟩:=i
  obtain ⟨hn,hl,hf⟩:=hi
  simp only at hn hl hf
  refine jA ?_
  refine AW.cond rfl (fun h=>?_) (fun h=>?_)
  · obtain ⟨k,rfl⟩:∃k,n=k+1:=⟨n - 1,by have:=of_decide_eq_true h;simp only [Int.ofNat_eq_natCast] at this;omega⟩
    have hnx:AV.i .i64 (IntKind.i64.wrap ((((k+1:Nat):Int) - 1) - 1)) = .i .i64 ((k:Nat) - 1:Int):=by
      rw [IntKind.wrap_i64]
      congr 1
      omega
    have hk:(((k+1:Nat):Int) - 1)=(k:Nat):=by omega
    refine AW.only [(3,.own 3 0 0),(7,.row 7 0 0 (out.map cCb).length),(8,.own 8 0 0),(9,.own 9 0 0),(10,.i .i64 (k:Nat))] [(3,⟨0,some (.box 36 (cCb b))⟩),(7,⟨0,some (.row 36 4 (out.map cCb))⟩),(8,⟨0,some (.box 34 (cHd more))⟩),(9,⟨0,some (.box 36 (cCb rest))⟩)] ⟨Rn.ownIs rfl rfl rfl,Rn.rowIs rfl rfl rfl,Rn.ownIs rfl rfl rfl,Rn.ownIs rfl rfl rfl,.is (congrArg _ hk) rfl,trivial⟩ jW ?_
    have hb:=d_Bit more k (by omega)
    generalize hq:more.bit k=q at hb
    rw [lessF,hq] at hf
    refine jA ?_
    refine RG.callS rfl rfl rfl rfl rfl hb rfl rfl ?_;refine wH rfl ?_;refine jA ?_
    cases q
    · refine AW.condT rfl ?_;refine jA ?_
      refine jE ?_;refine jA ?_
      exact ⟨(k,rest,out),⟨⟨(show k<=128 by omega),(show out.length<=128 - k by omega),hf⟩,Nat.lt_succ_self k⟩,⟨Rn.ownIs rfl rfl rfl,Rn.rowIs rfl rfl rfl,Rn.ownIs rfl rfl rfl,Rn.ownIs rfl rfl rfl,.is (i64_dec k (by omega)) rfl,trivial⟩,jW⟩
    · refine AW.condF rfl ?_;refine jA ?_
      refine RG.callS rfl rfl rfl rfl rfl (d_Mask k 1 (by omega)) rfl rfl ?_;refine wH rfl ?_;refine jA ?_
      refine RG.callS rfl rfl rfl rfl rfl (d_And b.value (maskH k 1)) rfl rfl ?_;refine wH rfl ?_;refine jA ?_
      refine RG.callS rfl rfl rfl rfl rfl (d_Or rest.value _) rfl rfl ?_;refine wH rfl ?_;refine jA ?_
      refine RG.callS rfl rfl rfl rfl rfl (d_Or rest.care (maskH k 1)) rfl rfl ?_;refine wH rfl ?_;refine jA ?_
      refine RG.callS rfl rfl rfl rfl rfl (d_Xor _ (maskH k 1)) rfl rfl ?_;refine wH rfl ?_;refine jA ?_
      refine RG.opS rfl (op_app1 cCb out ⟨(rest.value.or (b.value.and (maskH k 1))).xor (maskH k 1),rest.care.or (maskH k 1)⟩ (by omega) rfl rfl rfl rfl (tk rfl) rfl (tk rfl) rfl rfl ⟨_,rfl,rfl⟩ rfl rfl) rfl ?_;refine wH rfl ?_;refine jA ?_
      exact ⟨(k,_,_),⟨⟨by omega,by simp only [List.length_append,List.length_singleton];omega,hf⟩,Nat.lt_succ_self k⟩,⟨Rn.ownIs rfl rfl rfl,Rn.rowIs rfl rfl rfl,Rn.ownIs rfl rfl rfl,Rn.ownIs rfl rfl rfl,.is (i64_dec k (by omega)) rfl,trivial⟩,jW⟩
  · obtain rfl : n = 0 := by
      have:=of_decide_eq_false h
      simp only [Int.ofNat_eq_natCast] at this
      omega
    refine jA ?_
    refine jE ?_;refine jA ?_
    refine AW.ret (retQA ty_ok rfl rfl rfl ?_)
    exact rowAll (congrArg (List.map cCb) hf)
end Go.Proofs.YtoaibdbehlcnfaaGreat.Sm
end
section
namespace Go.Proofs.YtoaibdbehlcnfaaGreat.Sm
open Go.RowKit
def Hd.b (h:Hd) (i:Nat):Bool:=if i<64 then h.lo.toBitVec.getLsbD i else h.hi.toBitVec.getLsbD (i - 64)
theorem Hd.b_hi (h:Hd) (i:Nat) (hi:128<=i):h.b i=false:=by
 rw [Hd.b,if_neg (by omega)]
 exact BitVec.getLsbD_of_ge _ _ (by omega)
theorem Hd.ext_b {h g:Hd} (H:∀i,h.b i=g.b i):h=g:=by
 obtain ⟨h1,h2⟩:=h
 obtain ⟨g1,g2⟩:=g
 rw [Hd.eq_iff]
 constructor
 ·apply UInt64.toBitVec_inj.1
  apply BitVec.eq_of_getLsbD_eq
  intro i hi
  have:=H (i+64)
  rw [Hd.b,Hd.b,if_neg (by omega),if_neg (by omega)] at this
  simpa using this
 ·apply UInt64.toBitVec_inj.1
  apply BitVec.eq_of_getLsbD_eq
  intro i hi
  have:=H i
  simpa [Hd.b,hi] using this
theorem Hd.b_and (x y:Hd) (i:Nat):(x.and y).b i=(x.b i && y.b i):=by
 simp only [Hd.b,Hd.and];split <;> simp
theorem Hd.b_or (x y:Hd) (i:Nat):(x.or y).b i=(x.b i || y.b i):=by
 simp only [Hd.b,Hd.or];split <;> simp
theorem Hd.b_xor (x y:Hd) (i:Nat):(x.xor y).b i=(x.b i ^^ y.b i):=by
 simp only [Hd.b,Hd.xor];split <;> simp
theorem gb_not (x y:BitVec 64) (i:Nat):(x &&& ~~~y).getLsbD i=(x.getLsbD i && !y.getLsbD i):=by
 rw [BitVec.getLsbD_and,BitVec.getLsbD_not]
 by_cases h:i<64
 ·simp [h]
 ·rw [BitVec.getLsbD_of_ge x i (by omega)];simp
theorem Hd.b_less (x y:Hd) (i:Nat):(x.less y).b i=(x.b i && !y.b i):=by
 simp only [Hd.b,Hd.less]
 split
 ·rw [<- gb_not];rfl
 ·rw [<- gb_not];rfl
theorem Hd.b_zero (i:Nat):Hd.zero.b i=false:=by
 simp only [Hd.b,Hd.zero];split <;> simp
theorem Hd.none_iff (h:Hd):h.none=true↔∀i,h.b i=false:=by
 rw [Hd.none,decide_eq_true_eq]
 exact ⟨fun e i=>by rw [e,Hd.b_zero],fun H=>Hd.ext_b fun i=>by rw [H,Hd.b_zero]⟩
theorem Cb.sound_iff (c:Cb):c.sound=true↔∀i,(c.value.b i && !c.care.b i)=false:=by
 rw [Cb.sound,Hd.none_iff];simp only [Hd.b_less]
theorem Cb.has_iff (c:Cb) (h:Hd):c.has h=true↔∀i,(h.b i && c.care.b i)=c.value.b i:=by
 rw [Cb.has,Bool.and_eq_true,Cb.sound_iff,decide_eq_true_eq]
 constructor
 ·intro ⟨_,e⟩ i
  rw [<- e,Hd.b_and]
 ·intro H
  refine ⟨fun i=>?_,Hd.ext_b fun i=>by rw [Hd.b_and,H]⟩
  have:=H i
  revert this
  cases h.b i <;> cases c.care.b i <;> cases c.value.b i <;> decide
theorem Cb.has_sound {c:Cb} {h:Hd} (H:c.has h=true):c.sound=true:=by
 rw [Cb.has,Bool.and_eq_true] at H;exact H.1
theorem Cb.has_zero (h:Hd):Cb.zero.has h=true:=by
 rw [Cb.has_iff];intro i;simp [Cb.zero,Hd.b_zero]
theorem Cb.has_value {c:Cb} (H:c.sound=true):c.has c.value=true:=by
 rw [Cb.sound_iff] at H
 rw [Cb.has_iff]
 intro i
 have:=H i
 revert this
 cases c.care.b i <;> cases c.value.b i <;> decide
theorem Cb.apart_b (a c:Cb) (i:Nat):(a.apart c).b i=((a.value.b i ^^ c.value.b i) && (a.care.b i && c.care.b i)):=by
 simp only [Cb.apart,Hd.b_and,Hd.b_xor]
theorem Cb.meets_iff (a c:Cb):a.meets c=true↔a.sound=true/\c.sound=true/\∀i,((a.value.b i ^^ c.value.b i) && (a.care.b i && c.care.b i))=false:=by
 rw [Cb.meets,Bool.and_eq_true,Bool.and_eq_true,Hd.none_iff,and_assoc];simp only [Cb.apart_b]
theorem Cb.meets_of {a c:Cb} {h:Hd} (h1:a.has h=true) (h2:c.has h=true):a.meets c=true:=by
 rw [Cb.meets_iff]
 refine ⟨Cb.has_sound h1,Cb.has_sound h2,fun i=>?_⟩
 have e1:=(Cb.has_iff _ _).1 h1 i
 have e2:=(Cb.has_iff _ _).1 h2 i
 rw [<- e1,<- e2]
 cases h.b i <;> cases a.care.b i <;> cases c.care.b i <;> rfl
theorem Cb.met_has {a c:Cb} {h:Hd} (hm:a.meets c=true):(a.met c).has h=(a.has h && c.has h):=by
 rw [Bool.eq_iff_iff,Bool.and_eq_true,Cb.has_iff,Cb.has_iff,Cb.has_iff]
 obtain ⟨s1,s2,m⟩:=(Cb.meets_iff _ _).1 hm
 rw [Cb.sound_iff] at s1 s2
 have key:∀i,((h.b i && (a.met c).care.b i)=(a.met c).value.b i)↔((h.b i && a.care.b i)=a.value.b i/\(h.b i && c.care.b i)=c.value.b i):=by
  intro i
  have e1:=s1 i
  have e2:=s2 i
  have e3:=m i
  simp only [Cb.met,Hd.b_or]
  revert e1 e2 e3
  cases h.b i <;> cases a.care.b i <;> cases a.value.b i <;> cases c.care.b i <;> cases c.value.b i <;> decide
 exact ⟨fun H=>⟨fun i=>((key i).1 (H i)).1,fun i=>((key i).1 (H i)).2⟩,fun H i=>(key i).2 ⟨H.1 i,H.2 i⟩⟩
theorem Cb.has_set (c set:Cb) (h:Hd):c.has (h.set set)=(c.hits set && (c.before set).has h):=by
 rw [Bool.eq_iff_iff,Bool.and_eq_true,Cb.has_iff,Cb.has_iff,Cb.hits,Bool.and_eq_true,Cb.sound_iff,Hd.none_iff]
 have key:∀i,(((h.set set).b i && c.care.b i)=c.value.b i)↔((c.value.b i && !c.care.b i)=false/\(c.apart (Cb.make set.value set.care)).b i=false)/\(h.b i && (c.before set).care.b i)=(c.before set).value.b i:=by
  intro i
  simp only [Cb.apart_b,Cb.before,Cb.make,Hd.set,Hd.b_and,Hd.b_or,Hd.b_less]
  cases h.b i <;> cases c.care.b i <;> cases c.value.b i <;> cases set.care.b i <;> cases set.value.b i <;> decide
 exact ⟨fun H=>⟨⟨fun i=>((key i).1 (H i)).1.1,fun i=>((key i).1 (H i)).1.2⟩,fun i=>((key i).1 (H i)).2⟩,fun H i=>(key i).2 ⟨⟨H.1.1 i,H.1.2 i⟩,H.2 i⟩⟩
theorem Cb.make_sound (v c:Hd):(Cb.make v c).sound=true:=by
 rw [Cb.sound_iff];intro i
 simp only [Cb.make,Hd.b_and]
 cases v.b i <;> cases c.b i <;> rfl
theorem Hd.set_zero (h:Hd):h.set Cb.zero=h:=by
 refine Hd.ext_b fun i=>?_
 simp [Hd.set,Cb.zero,Hd.b_or,Hd.b_less,Hd.b_and,Hd.b_zero]
theorem Cb.within_has {a c:Cb} (hw:a.within c=true) {h:Hd} (hh:a.has h=true):c.has h=true:=by
 rw [Cb.within] at hw
 simp only [Bool.and_eq_true,Hd.none_iff,Cb.apart_b,Hd.b_less] at hw
 obtain ⟨⟨⟨s1,s2⟩,h1⟩,h2⟩:=hw
 rw [Cb.sound_iff] at s1 s2
 rw [Cb.has_iff] at hh ⊢
 intro i
 have e1:=s1 i
 have e2:=s2 i
 have e3:=h1 i
 have e4:=h2 i
 have e5:=hh i
 revert e1 e2 e3 e4 e5
 cases h.b i <;> cases a.care.b i <;> cases a.value.b i <;> cases c.care.b i <;> cases c.value.b i <;> decide
def Cb.cares (c:Cb):Nat:=((List.range 128).filter fun i=>c.care.b i).length
theorem filter_le {α:Type} {p q:α->Bool}:∀(l:List α),(∀x∈l,p x=true->q x=true)->(l.filter p).length<=(l.filter q).length
  | [],_=>Nat.le_refl _
  | x::l,h=>by
    have ih:=filter_le l fun y hy=>h y (List.mem_cons_of_mem _ hy)
    have hx:=h x List.mem_cons_self
    cases hp:p x
    · rw [List.filter_cons_of_neg (by simp [hp])]
      cases hq:q x
      · rw [List.filter_cons_of_neg (by simp [hq])];exact ih
      · rw [List.filter_cons_of_pos hq];exact Nat.le_succ_of_le ih
    · rw [List.filter_cons_of_pos hp,List.filter_cons_of_pos (hx hp)]
      exact Nat.succ_le_succ ih
theorem filter_lt {α:Type} {p q:α->Bool}:∀(l:List α),(∀x∈l,p x=true->q x=true)->(∃x∈l,p x=false/\q x=true)->(l.filter p).length<(l.filter q).length
  | [],_,⟨_,h,_⟩=>by cases h
  | x::l,h,⟨y,hy,h1,h2⟩=>by
    have hx:=h x List.mem_cons_self
    have hl:=fun y hy=>h y (List.mem_cons_of_mem _ hy)
    rcases List.mem_cons.1 hy with rfl | hy
    · rw [List.filter_cons_of_neg (by simp [h1]),List.filter_cons_of_pos h2]
      exact Nat.lt_succ_of_le (filter_le l hl)
    · have ih:=filter_lt l hl ⟨y,hy,h1,h2⟩
      cases hp:p x
      · rw [List.filter_cons_of_neg (by simp [hp])]
        cases hq:q x
        · rw [List.filter_cons_of_neg (by simp [hq])];exact ih
        · rw [List.filter_cons_of_pos hq];exact Nat.lt_succ_of_lt ih
      · rw [List.filter_cons_of_pos hp,List.filter_cons_of_pos (hx hp)]
        exact Nat.succ_lt_succ ih
theorem Cb.within_cares {a c:Cb} (hw:a.within c=true):c.cares<=a.cares/\(a≠c->c.cares<a.cares):=by
 rw [Cb.within] at hw
 simp only [Bool.and_eq_true,Hd.none_iff,Cb.apart_b,Hd.b_less] at hw
 obtain ⟨⟨⟨s1,s2⟩,h1⟩,h2⟩:=hw
 rw [Cb.sound_iff] at s1 s2
 have hle:∀i,c.care.b i=true->a.care.b i=true:=by
  intro i h
  have:=h1 i
  rw [h] at this
  simpa using this
 refine ⟨filter_le _ fun i _ h=>hle i h,fun hne=>?_⟩
 refine filter_lt _ (fun i _ h=>hle i h) ?_
 refine Classical.byContradiction fun hn=>hne ?_
 have hc:a.care=c.care:=Hd.ext_b fun i=>by
  by_cases hi:i<128
  ·cases h:c.care.b i
   ·cases h':a.care.b i
    ·rfl
    ·exact (hn ⟨i,List.mem_range.2 hi,h,h'⟩).elim
   ·exact hle i h
  ·rw [Hd.b_hi _ _ (by omega),Hd.b_hi _ _ (by omega)]
 have hv:a.value=c.value:=Hd.ext_b fun i=>by
  have e1:=s1 i
  have e2:=s2 i
  have e4:=h2 i
  rw [hc] at e1 e4
  revert e1 e2 e4
  cases a.value.b i <;> cases c.care.b i <;> cases c.value.b i <;> decide
 exact (Cb.eq_iff _ _).2 ⟨hv,hc⟩
theorem one_b (k i:Nat) (hk:k<64):(shl64 1 k).toBitVec.getLsbD i=decide (i=k):=by
 have h:(shl64 1 k).toBitVec.toNat=2 ^ k:=by
  show (shl64 1 k).toNat=_
  rw [shl64,UInt64.toNat_ofNat',Nat.min_eq_left (by omega),show (1:UInt64).toNat=1 from rfl,Nat.one_mul]
  exact Nat.mod_eq_of_lt (Nat.pow_lt_pow_right (by omega) hk)
 rw [BitVec.getLsbD,h,Nat.testBit_two_pow]
 exact decide_eq_decide.2 eq_comm
theorem mask_is:∀k,k<128->maskH k 1=if k<64 then ⟨0,shl64 1 k⟩ else ⟨shl64 1 (k - 64),0⟩:=by decide
theorem mask_b (k i:Nat) (hk:k<128):(maskH k 1).b i=decide (i=k):=by
  rw [mask_is k hk]
  by_cases h:k<64
  · rw [if_pos h]
    by_cases hi:i<64
    · rw [Hd.b,if_pos hi];exact one_b k i h
    · rw [Hd.b,if_neg hi]
      rw [decide_eq_false (by omega)]
      exact BitVec.getLsbD_zero
  · rw [if_neg h]
    by_cases hi:i<64
    · rw [Hd.b,if_pos hi,decide_eq_false (by omega)]
      exact BitVec.getLsbD_zero
    · rw [Hd.b,if_neg hi]
      refine (one_b (k - 64) (i - 64) (by omega)).trans (decide_eq_decide.2 (by omega))
theorem shr_lo (a:UInt64) (k:Nat) (hk:k<64):decide (shr64 a k &&& 1=1)=a.toBitVec.getLsbD k:=by
 have h:(shr64 a k &&& 1).toNat=a.toNat / 2 ^ k % 2:=by
  rw [UInt64.toNat_and,shr64,UInt64.toNat_ofNat_of_lt' (Nat.lt_of_le_of_lt (Nat.div_le_self _ _) (UInt64.toNat_lt a)),Nat.min_eq_left (by omega)]
  exact Nat.and_one_is_mod _
 rw [BitVec.getLsbD,Nat.testBit_eq_decide_div_mod_eq]
 refine decide_eq_decide.2 ?_
 rw [<- UInt64.toNat_inj,h]
 rfl
theorem Hd.bit_b (a:Hd) (k:Nat) (hk:k<128):a.bit k=a.b k:=by
  rw [Hd.bit,Hd.right,Hd.b]
  by_cases h:64<=k
  · rw [if_pos h,if_neg (by omega)]
    exact shr_lo a.hi (k - 64) (by omega)
  · rw [if_neg h,if_pos (by omega)]
    rw [<- shr_lo a.lo k (by omega)]
    refine decide_eq_decide.2 ?_
    rw [<- UInt64.toNat_inj,<- UInt64.toNat_inj,UInt64.toNat_and,UInt64.toNat_and,UInt64.toNat_or,show (1:UInt64).toNat=1 from rfl,Nat.and_one_is_mod,Nat.and_one_is_mod,Nat.or_mod_two_eq_one]
    have h2:(shl64 a.hi (64 - k)).toNat % 2=0:=by
      rw [shl64,UInt64.toNat_ofNat',Nat.min_eq_left (by omega),show 64 - k=(63 - k)+1 by omega,Nat.pow_succ,<- Nat.mul_assoc]
      generalize a.hi.toNat*2 ^ (63 - k)=q
      omega
    omega
theorem lessF_has (c : Cb) (hc : c.sound = true) (more : Hd) (h : Hd) : ∀ (n : Nat) (rest : Cb) (out : List Cb), n <= 128 -> rest.sound = true -> (∀ i < n, more.b i = true -> rest.care.b i = false /\ c.care.b i = true) ->
    ((∃x∈lessF c more n rest out,x.has h=true)↔(∃x∈out,x.has h=true)\/(rest.has h=true/\∃i<n,more.b i=true/\h.b i≠c.value.b i))
  | 0,rest,out,hn,hr,hm=>by
    rw [lessF]
    exact ⟨Or.inl,fun H=>H.elim id fun ⟨_,i,hi,_⟩=>absurd hi (Nat.not_lt_zero i)⟩
  | n+1,rest,out,hn,hr,hm=>by
    rw [lessF,Hd.bit_b more n (by omega)]
    cases hb:more.b n
    · rw [cond_false,lessF_has c hc more h n rest out (by omega) hr fun i hi=>hm i (by omega)]
      refine or_congr Iff.rfl (and_congr Iff.rfl ⟨fun ⟨i,hi,H⟩=>⟨i,by omega,H⟩,fun ⟨i,hi,H⟩=>⟨i,?_,H⟩⟩)
      have:i≠n:=fun e=>by rw [e,hb] at H;exact Bool.false_ne_true H.1
      omega
    · have hcare:=(hm n (by omega) hb).1
      have hcc:=(hm n (by omega) hb).2
      rw [Cb.sound_iff] at hr
      have hval:rest.value.b n=false:=by
        have:=hr n
        rw [hcare] at this
        simpa using this
      have s1:(Cb.mk (rest.value.or (c.value.and (maskH n 1))) (rest.care.or (maskH n 1))).sound=true:=by
        rw [Cb.sound_iff]
        intro i
        have:=hr i
        simp only [Hd.b_or,Hd.b_and,mask_b n i (by omega)]
        revert this
        by_cases e:i=n
        · simp [e]
        · simp [e]
      have h1:(Cb.mk (rest.value.or (c.value.and (maskH n 1))) (rest.care.or (maskH n 1))).has h=true↔rest.has h=true/\h.b n=c.value.b n:=by
        rw [Cb.has_iff,Cb.has_iff]
        simp only [Hd.b_or,Hd.b_and,mask_b n _ (show n<128 by omega)]
        constructor
        · intro H
          constructor
          · intro i
            have:=H i
            by_cases e:i=n
            · rw [e,hcare,hval];simp
            · simpa [e] using this
          · have:=H n
            simpa [hval,hcare] using this
        · intro ⟨H,e0⟩ i
          have:=H i
          by_cases e:i=n
          · rw [e,hval,hcare,e0];simp
          · simpa [e] using this
      have h2:(Cb.mk ((rest.value.or (c.value.and (maskH n 1))).xor (maskH n 1)) (rest.care.or (maskH n 1))).has h=true↔rest.has h=true/\h.b n≠c.value.b n:=by
        rw [Cb.has_iff,Cb.has_iff]
        simp only [Hd.b_or,Hd.b_and,Hd.b_xor,mask_b n _ (show n<128 by omega)]
        constructor
        · intro H
          constructor
          · intro i
            have:=H i
            by_cases e:i=n
            · rw [e,hcare,hval];simp
            · simpa [e] using this
          · have:=H n
            rw [hval,hcare,decide_eq_true (rfl:n=n)] at this
            revert this
            cases h.b n <;> cases c.value.b n <;> decide
        · intro ⟨H,e0⟩ i
          have:=H i
          by_cases e:i=n
          · rw [e,hval,hcare,decide_eq_true (rfl:n=n)]
            revert e0
            cases h.b n <;> cases c.value.b n <;> decide
          · simpa [e] using this
      rw [cond_true,lessF_has c hc more h n _ _ (by omega) s1 fun i hi hmi=>⟨by
        have:=(hm i (by omega) hmi).1
        simp [Hd.b_or,mask_b n i (by omega),this,show ¬i=n by omega],(hm i (by omega) hmi).2⟩]
      rw [h1]
      constructor
      · rintro (⟨x,hx,hh⟩ | ⟨⟨g1,g2⟩,i,hi,H⟩)
        · rcases List.mem_append.1 hx with hx | hx
          · exact Or.inl ⟨x,hx,hh⟩
          · rw [List.mem_singleton.1 hx] at hh
            exact Or.inr ⟨(h2.1 hh).1,n,by omega,hb,(h2.1 hh).2⟩
        · exact Or.inr ⟨g1,i,by omega,H⟩
      · rintro (⟨x,hx,hh⟩ | ⟨g1,i,hi,H⟩)
        · exact Or.inl ⟨x,List.mem_append_left _ hx,hh⟩
        · by_cases e:h.b n=c.value.b n
          · have:i≠n:=fun e'=>by rw [e'] at H;exact H.2 e
            exact Or.inr ⟨⟨g1,e⟩,i,by omega,H⟩
          · exact Or.inl ⟨_,List.mem_append_right _ (List.mem_singleton.2 rfl),h2.2 ⟨g1,e⟩⟩
theorem Cb.less_has (a c:Cb) (h:Hd) (ha:a.sound=true) (hc:c.sound=true):(∃x∈a.less c,x.has h=true)↔a.has h=true/\c.has h=false:=by
 rw [Cb.less,ha,hc,Bool.and_true,cond_true]
 cases hm:a.meets c
 ·rw [cond_false]
  constructor
  ·rintro ⟨x,hx,hh⟩
   rw [List.mem_singleton.1 hx] at hh
   refine ⟨hh,?_⟩
   cases hq:c.has h
   ·rfl
   ·rw [Cb.meets_of hh hq] at hm;cases hm
  ·exact fun H=>⟨a,List.mem_singleton.2 rfl,H.1⟩
 ·rw [cond_true,lessF_has c hc _ h 128 a [] (Nat.le_refl _) ha fun i _ H=>by
   rw [Hd.b_less] at H
   revert H
   cases c.care.b i <;> cases a.care.b i <;> decide]
  obtain ⟨_,_,m⟩:=(Cb.meets_iff _ _).1 hm
  constructor
  ·rintro (⟨x,hx,_⟩ | ⟨g1,i,hi,g2,g3⟩)
   ·cases hx
   ·refine ⟨g1,?_⟩
    cases hq:c.has h
    ·rfl
    ·have e:=(Cb.has_iff _ _).1 hq i
     rw [Hd.b_less] at g2
     revert g2 g3 e
     cases c.care.b i <;> cases a.care.b i <;> cases h.b i <;> cases c.value.b i <;> decide
  ·rintro ⟨g1,g2⟩
   refine Or.inr ⟨g1,Classical.byContradiction fun hn=>?_⟩
   have:c.has h=true:=by
    rw [Cb.has_iff]
    intro i
    have e1:=(Cb.has_iff _ _).1 g1 i
    have e2:=m i
    have e3:=(Cb.sound_iff _).1 hc i
    by_cases hi:i<128
    ·by_cases hmo:(c.care.less a.care).b i=true
     ·have e4:h.b i=c.value.b i:=Classical.byContradiction fun hne=>hn ⟨i,hi,hmo,hne⟩
      rw [Hd.b_less] at hmo
      revert e1 e2 e3 e4 hmo
      cases c.care.b i <;> cases a.care.b i <;> cases h.b i <;> cases c.value.b i <;> cases a.value.b i <;> decide
     ·rw [Hd.b_less] at hmo
      revert e1 e2 e3 hmo
      cases c.care.b i <;> cases a.care.b i <;> cases h.b i <;> cases c.value.b i <;> cases a.value.b i <;> decide
    ·rw [Hd.b_hi _ _ (by omega),Hd.b_hi _ _ (by omega),Hd.b_hi _ _ (by omega)];rfl
   rw [this] at g2
   cases g2
end Go.Proofs.YtoaibdbehlcnfaaGreat.Sm
end
section
namespace Go.Proofs.YtoaibdbehlcnfaaGreat.Sm
open Go.RowKit
def accI {α β:Type} (f:Nat->α->List β):Nat->List α->List β->List β
 | _,[],out=>out
 | n,x::l,out=>accI f (n+1) l (out++f n x)
theorem accI_eq {α β:Type} {f:Nat->α->List β}:∀(n:Nat) (l:List α) (out:List β),accI f n l out=out++accI f n l []
 | n,[],out=>by rw [accI,accI,List.append_nil]
 | n,x::l,out=>by rw [accI,accI,accI_eq (n+1) l (out++f n x),accI_eq (n+1) l ([]++f n x),List.nil_append,List.append_assoc]
theorem accI_mem {α β:Type} {f:Nat->α->List β} {y:β}:∀(n:Nat) (l:List α),y∈accI f n l []↔∃(i:Nat) (x:α),l[i]?=some x/\y∈f (n+i) x
 | n,[]=>by simp [accI]
 | n,x::l=>by
  rw [accI,accI_eq,List.nil_append,List.mem_append,accI_mem (n+1) l]
  constructor
  ·rintro (h | ⟨i,z,hz,h⟩)
   ·exact ⟨0,x,rfl,h⟩
   ·exact ⟨i+1,z,hz,by rw [show n+(i+1)=n+1+i by omega];exact h⟩
  ·rintro ⟨i,z,hz,h⟩
   cases i with
   | zero=>rw [List.getElem?_cons_zero] at hz;rw [Option.some.inj hz];exact Or.inl h
   | succ i=>exact Or.inr ⟨i,z,hz,by rw [show n+1+i=n+(i+1) by omega];exact h⟩
theorem accI_len {α β:Type} {f:Nat->α->List β} {m:Nat} (hf:∀n x,(f n x).length<=m):∀(n:Nat) (l:List α) (out:List β),(accI f n l out).length<=out.length+m*l.length
 | n,[],out=>by simp [accI]
 | n,x::l,out=>by
  have:=accI_len hf (n+1) l (out++f n x)
  have h2:=hf n x
  rw [List.length_append] at this
  rw [accI,List.length_cons,Nat.mul_add,Nat.mul_one]
  omega
def pileSound (p:List Cb):Bool:=decide (p.length<=200) && p.all Cb.sound
def pileHas (p:List Cb) (h:Hd):Bool:=p.any fun c=>c.has h
theorem pileHas_iff {p:List Cb} {h:Hd}:pileHas p h=true↔∃x∈p,x.has h=true:=by simp [pileHas]
def spareF (x:Cb) (n:Nat):Nat->List Cb->Bool
 | _,[]=>!x.sound
 | i,c::r=>bif decide (i≠n) && x.within c && (decide (x≠c) || decide (i<n)) then true else spareF x n (i+1) r
theorem spareF_no {x:Cb} {n:Nat}:∀{i:Nat} {l:List Cb},spareF x n i l=false->x.sound=true
 | i,[],h=>by simpa [spareF] using h
 | i,c::r,h=>by
  rw [spareF] at h
  cases hb:(decide (i≠n) && x.within c && (decide (x≠c) || decide (i<n)))
  ·rw [hb,cond_false] at h;exact spareF_no h
  ·rw [hb] at h;cases h
theorem spareF_yes {x:Cb} {n:Nat}:∀{i:Nat} {l:List Cb},spareF x n i l=true->x.sound=false\/∃j c,l[j]?=some c/\x.within c=true/\(x≠c\/i+j<n)
 | i,[],h=>by left;simpa [spareF] using h
 | i,c::r,h=>by
  rw [spareF] at h
  cases hb:(decide (i≠n) && x.within c && (decide (x≠c) || decide (i<n)))
  ·rw [hb,cond_false] at h
   rcases spareF_yes h with h | ⟨j,d,h1,h2,h3⟩
   ·exact Or.inl h
   ·exact Or.inr ⟨j+1,d,h1,h2,h3.imp id fun h=>by omega⟩
  ·simp only [Bool.and_eq_true,Bool.or_eq_true,decide_eq_true_eq] at hb
   exact Or.inr ⟨0,c,rfl,hb.1.2,hb.2⟩
def leanI (p:List Cb) (n:Nat) (c:Cb):List Cb:=bif spareF c n 0 p then [] else [c]
def leanP (p:List Cb):List Cb:=accI (leanI p) 0 p []
theorem leanP_mem {p:List Cb} {x:Cb}:x∈leanP p↔∃n,p[n]?=some x/\spareF x n 0 p=false:=by
 rw [leanP,accI_mem]
 constructor
 ·rintro ⟨i,y,hy,h⟩
  rw [Nat.zero_add,leanI] at h
  cases hs:spareF y i 0 p
  ·rw [hs,cond_false] at h
   rw [List.mem_singleton.1 h]
   exact ⟨i,hy,hs⟩
  ·rw [hs] at h;cases h
 ·rintro ⟨n,h1,h2⟩
  refine ⟨n,x,h1,?_⟩
  rw [Nat.zero_add,leanI,h2]
  exact List.mem_singleton.2 rfl
theorem leanP_sound {p:List Cb}:∀x∈leanP p,x.sound=true:=fun x hx=>by
 obtain ⟨n,_,h⟩:=leanP_mem.1 hx
 exact spareF_no h
theorem leanP_has {p:List Cb} {h:Hd}:pileHas (leanP p) h=pileHas p h:=by
 rw [Bool.eq_iff_iff,pileHas_iff,pileHas_iff]
 constructor
 ·rintro ⟨x,hx,hh⟩
  obtain ⟨n,hn,_⟩:=leanP_mem.1 hx
  exact ⟨x,List.mem_of_getElem? hn,hh⟩
 ·rintro ⟨x,hx,hh⟩
  have key:∀(m:Nat) (x:Cb) (n:Nat),p[n]?=some x->x.has h=true->x.cares*(p.length+1)+n<=m->∃x∈leanP p,x.has h=true:=by
   intro m
   induction m with
   | zero =>
    intro x n h1 h2 h3
    cases hs:spareF x n 0 p
    ·exact ⟨x,leanP_mem.2 ⟨n,h1,hs⟩,h2⟩
    ·rcases spareF_yes hs with g | ⟨j,c,g1,g2,g3⟩
     ·rw [Cb.has_sound h2] at g;cases g
     ·exfalso
      have hc:=Cb.within_cares g2
      have hn:n=0:=by omega
      have hx0:x.cares*(p.length+1)=0:=by omega
      rcases g3 with g3 | g3
      ·have:=hc.2 g3
       have:1*(p.length+1)<=x.cares*(p.length+1):=Nat.mul_le_mul_right _ (by omega)
       omega
      ·omega
   | succ m ih =>
    intro x n h1 h2 h3
    cases hs:spareF x n 0 p
    ·exact ⟨x,leanP_mem.2 ⟨n,h1,hs⟩,h2⟩
    ·rcases spareF_yes hs with g | ⟨j,c,g1,g2,g3⟩
     ·rw [Cb.has_sound h2] at g;cases g
     ·have hc:=Cb.within_cares g2
      have hj:j<p.length:=(List.getElem?_eq_some_iff.1 g1).1
      refine ih c j g1 (Cb.within_has g2 h2) ?_
      by_cases e:x=c
      ·subst e
       have:j<n:=by
        rcases g3 with g3 | g3
        ·exact absurd rfl g3
        ·omega
       omega
      ·have:=hc.2 e
       have:(c.cares+1)*(p.length+1)<=x.cares*(p.length+1):=Nat.mul_le_mul_right _ (by omega)
       rw [Nat.add_mul,Nat.one_mul] at this
       omega
  obtain ⟨n,hn⟩:=List.mem_iff_getElem?.1 hx
  exact key _ x n hn hh (Nat.le_refl _)
theorem leanP_len (p:List Cb):(leanP p).length<=p.length:=by
 have:=accI_len (f:=leanI p) (m:=1) (fun n x=>by rw [leanI];cases spareF x n 0 p <;> simp) 0 p []
 simpa [leanP] using this
def leanE (p:List Cb):List Cb × Int:=bif decide ((leanP p).length>200) then ([],10) else (leanP p,0)
theorem leanE_err {p:List Cb} (h:(leanE p).2≠0):leanE p=([],10):=by
 rw [leanE] at h ⊢
 cases hb:decide ((leanP p).length>200)
 ·rw [hb] at h;exact absurd rfl h
 ·rfl
theorem leanE_ok {p:List Cb} (h:(leanE p).2=0):leanE p=(leanP p,0)/\(leanP p).length<=200:=by
 rw [leanE] at h ⊢
 cases hb:decide ((leanP p).length>200)
 ·exact ⟨rfl,by have:=of_decide_eq_false hb;omega⟩
 ·rw [hb] at h;cases h
theorem leanE_sound {p:List Cb}:pileSound (leanE p).1=true:=by
 by_cases h:(leanE p).2=0
 ·obtain ⟨e,hl⟩:=leanE_ok h
  rw [e,pileSound,Bool.and_eq_true,decide_eq_true_eq,List.all_eq_true]
  exact ⟨hl,leanP_sound⟩
 ·rw [leanE_err h];rfl
def meetI (x:Cb) (n:Nat) (y:Cb):List Cb:=bif x.meets y then [x.met y] else []
def meetRow (q:List Cb) (n:Nat) (x:Cb):List Cb:=accI (meetI x) 0 q []
def meetAll (p q:List Cb):List Cb:=accI (meetRow q) 0 p []
def pileMeet (p q:List Cb):List Cb × Int:=bif pileSound p && pileSound q then leanE (meetAll p q) else ([],2)
theorem meetAll_has {p q:List Cb} {h:Hd}:pileHas (meetAll p q) h=(pileHas p h && pileHas q h):=by
 rw [Bool.eq_iff_iff,Bool.and_eq_true,pileHas_iff,pileHas_iff,pileHas_iff]
 constructor
 ·rintro ⟨x,hx,hh⟩
  obtain ⟨i,y,hy,hx⟩:=(accI_mem _ _).1 hx
  obtain ⟨j,z,hz,hx⟩:=(accI_mem _ _).1 hx
  rw [meetI] at hx
  cases hm:y.meets z
  ·rw [hm] at hx;cases hx
  ·rw [hm,cond_true] at hx
   rw [List.mem_singleton.1 hx,Cb.met_has hm,Bool.and_eq_true] at hh
   exact ⟨⟨y,List.mem_of_getElem? hy,hh.1⟩,⟨z,List.mem_of_getElem? hz,hh.2⟩⟩
 ·rintro ⟨⟨y,hy,h1⟩,⟨z,hz,h2⟩⟩
  obtain ⟨i,hi⟩:=List.mem_iff_getElem?.1 hy
  obtain ⟨j,hj⟩:=List.mem_iff_getElem?.1 hz
  have hm:=Cb.meets_of h1 h2
  refine ⟨y.met z,(accI_mem _ _).2 ⟨i,y,hi,(accI_mem _ _).2 ⟨j,z,hj,?_⟩⟩,by rw [Cb.met_has hm,h1,h2];rfl⟩
  rw [meetI,hm]
  exact List.mem_singleton.2 rfl
def lessRow (y:Cb) (n:Nat) (x:Cb):List Cb:=x.less y
def lessAll (y:Cb) (out:List Cb):List Cb:=accI (lessRow y) 0 out []
def lessL:List Cb->List Cb->List Cb × Int
 | out,[]=>(out,0)
 | out,y::q=>bif decide ((leanE (lessAll y out)).2=0) then lessL (leanE (lessAll y out)).1 q else ([],(leanE (lessAll y out)).2)
def pileLess (p q:List Cb):List Cb × Int:=bif pileSound p && pileSound q then lessL p q else ([],2)
theorem lessAll_has {y:Cb} {out:List Cb} {h:Hd} (ho:∀x∈out,x.sound=true) (hy:y.sound=true):pileHas (lessAll y out) h=(pileHas out h && !y.has h):=by
 rw [Bool.eq_iff_iff,Bool.and_eq_true,pileHas_iff,pileHas_iff]
 constructor
 ·rintro ⟨x,hx,hh⟩
  obtain ⟨i,z,hz,hx⟩:=(accI_mem _ _).1 hx
  have hz:=List.mem_of_getElem? hz
  obtain ⟨g1,g2⟩:=(Cb.less_has z y h (ho z hz) hy).1 ⟨x,hx,hh⟩
  exact ⟨⟨z,hz,g1⟩,by rw [g2];rfl⟩
 ·rintro ⟨⟨z,hz,g1⟩,g2⟩
  obtain ⟨x,hx,hh⟩:=(Cb.less_has z y h (ho z hz) hy).2 ⟨g1,by simpa using g2⟩
  obtain ⟨i,hi⟩:=List.mem_iff_getElem?.1 hz
  exact ⟨x,(accI_mem _ _).2 ⟨i,z,hi,hx⟩,hh⟩
theorem lessL_err:∀(q out:List Cb),(lessL out q).2≠0->lessL out q=([],10)
 | [],out,h=>absurd rfl h
 | y::q,out,h=>by
  rw [lessL] at h ⊢
  by_cases e:(leanE (lessAll y out)).2=0
  ·rw [decide_eq_true e,cond_true] at h ⊢
   exact lessL_err q _ h
  ·rw [decide_eq_false e,cond_false,leanE_err e]
theorem lessL_ok:∀(q out:List Cb),(lessL out q).2=0->(∀y∈q,y.sound=true)->pileSound out=true->pileSound (lessL out q).1=true/\∀h,pileHas (lessL out q).1 h=(pileHas out h && !pileHas q h)
 | [],out,_,_,ho=>⟨ho,fun h=>by simp [lessL,pileHas]⟩
 | y::q,out,h,hq,ho=>by
  rw [lessL] at h ⊢
  by_cases e:(leanE (lessAll y out)).2=0
  ·rw [decide_eq_true e,cond_true] at h ⊢
   obtain ⟨g1,g2⟩:=lessL_ok q _ h (fun y hy=>hq y (List.mem_cons_of_mem _ hy)) leanE_sound
   refine ⟨g1,fun hd=>?_⟩
   rw [g2,(leanE_ok e).1]
   show (pileHas (leanP (lessAll y out)) hd && _)=_
   have ho':∀x∈out,x.sound=true:=by
    rw [pileSound,Bool.and_eq_true,List.all_eq_true] at ho
    exact ho.2
   rw [leanP_has,lessAll_has ho' (hq y List.mem_cons_self)]
   simp only [pileHas,List.any_cons]
   cases out.any (fun c=>c.has hd) <;> cases y.has hd <;> cases q.any (fun c=>c.has hd) <;> rfl
  ·rw [decide_eq_false e,cond_false] at h
   exact absurd h e
def pick (p:List Cb):Option Cb:=p.find? Cb.sound
theorem pick_sound {p:List Cb} (h:pileSound p=true):pick p=p.head?:=by
 rw [pileSound,Bool.and_eq_true,List.all_eq_true] at h
 cases p with
 | nil=>rfl
 | cons x l=>rw [pick,List.find?_cons_of_pos (h.2 x List.mem_cons_self)];rfl
def partIn (a:Atom) (id:Int) (c:Cb):List Cb->List Atom
 | []=>[]
 | x::p=>[⟨a.ids++[id],x.value,x::p⟩]
def partOut (a:Atom):List Cb->List Atom
 | []=>[]
 | x::p=>[⟨a.ids,x.value,x::p⟩]
def partA (a:Atom) (id:Int) (c:Cb):List Atom × Int :=
 bif decide ((pileMeet a.pile [c]).2=0) then (bif decide ((pileLess a.pile [c]).2=0) then (partIn a id c (pileMeet a.pile [c]).1++partOut a (pileLess a.pile [c]).1,0) else ([],(pileLess a.pile [c]).2)) else ([],(pileMeet a.pile [c]).2)
def splitL (id:Int) (c:Cb):List Atom->List Atom->List Atom × Int
 | [],out=>bif decide (out.length>600) then ([],11) else (out,0)
 | a::l,out=>bif decide ((partA a id c).2=0) then splitL id c l (out++(partA a id c).1) else ([],(partA a id c).2)
def splitF:Nat->List Cb->List Atom->List Atom × Int
 | _,[],out=>(out,0)
 | id,c::l,out=>bif decide ((splitL id c out []).2=0) then splitF (id+1) l (splitL id c out []).1 else ([],(splitL id c out []).2)
def atom0:Atom:=⟨[],Hd.zero,[Cb.zero]⟩
def atomsOf (preds:List Cb):List Atom × Int:=bif decide (preds.length>500) then ([],6) else bif preds.all Cb.sound then splitF 0 preds [atom0] else ([],2)
structure AtomOk (n:Nat) (a:Atom):Prop where
 pile:pileSound a.pile=true
 ids:∀i∈a.ids,i<n
 up:a.ids.Pairwise (· < ·)
theorem single_sound {c:Cb} (h:c.sound=true):pileSound [c]=true:=by simp [pileSound,h]
theorem pileMeet_ok {p:List Cb} {c:Cb} (hp:pileSound p=true) (hc:c.sound=true):((pileMeet p [c]).2=0\/pileMeet p [c]=([],10))/\((pileMeet p [c]).2=0->pileSound (pileMeet p [c]).1=true/\∀h,pileHas (pileMeet p [c]).1 h=(pileHas p h && c.has h)):=by
 rw [pileMeet,hp,single_sound hc,Bool.and_true,cond_true]
 refine ⟨?_,fun e=>⟨leanE_sound,fun h=>?_⟩⟩
 ·by_cases e:(leanE (meetAll p [c])).2=0
  ·exact Or.inl e
  ·exact Or.inr (leanE_err e)
 ·rw [(leanE_ok e).1]
  show pileHas (leanP _) h=_
  rw [leanP_has,meetAll_has]
  simp [pileHas]
theorem pileLess_ok {p:List Cb} {c:Cb} (hp:pileSound p=true) (hc:c.sound=true):((pileLess p [c]).2=0\/pileLess p [c]=([],10))/\((pileLess p [c]).2=0->pileSound (pileLess p [c]).1=true/\∀h,pileHas (pileLess p [c]).1 h=(pileHas p h && !c.has h)):=by
  rw [pileLess,hp,single_sound hc,Bool.and_true,cond_true]
  refine ⟨?_,fun e=>?_⟩
  · by_cases e:(lessL p [c]).2=0
    · exact Or.inl e
    · exact Or.inr (lessL_err _ _ e)
  · obtain ⟨g1,g2⟩:=lessL_ok [c] p e (fun y hy=>by rw [List.mem_singleton.1 hy];exact hc) hp
    exact ⟨g1,fun h=>by rw [g2];simp [pileHas]⟩
structure Parts (cs:List Cb) (l:List Atom):Prop where
 all:∀h,∃a∈l,pileHas a.pile h=true
 like:∀a∈l,∀h g,pileHas a.pile h=true->pileHas a.pile g=true->∀c∈cs,c.has h=c.has g
 ok:∀a∈l,AtomOk cs.length a
 head:∀a∈l,pileHas a.pile a.head=true
 len:l.length<=600
theorem partA_mem {a:Atom} {id:Int} {c:Cb} {x:Atom} (h0:(partA a id c).2=0) (hp:pileSound a.pile=true) (hc:c.sound=true) (hx:x∈(partA a id c).1) :
  pileSound x.pile=true/\pileHas x.pile x.head=true/\((x.ids=a.ids++[id]/\∀h,pileHas x.pile h=(pileHas a.pile h && c.has h))\/(x.ids=a.ids/\∀h,pileHas x.pile h=(pileHas a.pile h && !c.has h))):=by
 rw [partA] at h0 hx
 by_cases e1:(pileMeet a.pile [c]).2=0
 ·by_cases e2:(pileLess a.pile [c]).2=0
  ·rw [decide_eq_true e1,decide_eq_true e2,cond_true,cond_true] at hx
   obtain ⟨m1,m2⟩:=(pileMeet_ok hp hc).2 e1
   obtain ⟨l1,l2⟩:=(pileLess_ok hp hc).2 e2
   have hd:∀(y:Cb) (p:List Cb),pileSound (y::p)=true->pileHas (y::p) y.value=true:=by
    intro y p h
    rw [pileSound,Bool.and_eq_true,List.all_eq_true] at h
    rw [pileHas_iff]
    exact ⟨y,List.mem_cons_self,Cb.has_value (h.2 y List.mem_cons_self)⟩
   rcases List.mem_append.1 hx with hx | hx
   ·revert hx m1 m2
    generalize (pileMeet a.pile [c]).1=p
    intro m1 m2 hx
    cases p with
    | nil=>cases hx
    | cons y p =>
     rw [partIn] at hx
     rw [List.mem_singleton.1 hx]
     exact ⟨m1,hd y p m1,Or.inl ⟨rfl,m2⟩⟩
   ·revert hx l1 l2
    generalize (pileLess a.pile [c]).1=p
    intro m1 m2 hx
    cases p with
    | nil=>cases hx
    | cons y p =>
     rw [partOut] at hx
     rw [List.mem_singleton.1 hx]
     exact ⟨m1,hd y p m1,Or.inr ⟨rfl,m2⟩⟩
  ·rw [decide_eq_true e1,decide_eq_false e2,cond_true,cond_false] at h0
   exact absurd h0 e2
 ·rw [decide_eq_false e1,cond_false] at h0
  exact absurd h0 e1
theorem partA_all {a:Atom} {id:Int} {c:Cb} {h:Hd} (h0:(partA a id c).2=0) (hp:pileSound a.pile=true) (hc:c.sound=true) (hh:pileHas a.pile h=true):∃x∈(partA a id c).1,pileHas x.pile h=true:=by
 rw [partA] at h0 ⊢
 by_cases e1:(pileMeet a.pile [c]).2=0
 ·by_cases e2:(pileLess a.pile [c]).2=0
  ·rw [decide_eq_true e1,decide_eq_true e2,cond_true,cond_true]
   have m2:=((pileMeet_ok hp hc).2 e1).2 h
   have l2:=((pileLess_ok hp hc).2 e2).2 h
   rw [hh] at m2 l2
   cases hq:c.has h
   ·rw [hq] at l2
    revert l2
    generalize (pileLess a.pile [c]).1=p
    intro l2
    cases p with
    | nil=>cases l2
    | cons y p=>exact ⟨_,List.mem_append_right _ (List.mem_singleton.2 rfl),l2⟩
   ·rw [hq] at m2
    revert m2
    generalize (pileMeet a.pile [c]).1=p
    intro l2
    cases p with
    | nil=>cases l2
    | cons y p=>exact ⟨_,List.mem_append_left _ (List.mem_singleton.2 rfl),l2⟩
  ·rw [decide_eq_true e1,decide_eq_false e2,cond_true,cond_false] at h0
   exact absurd h0 e2
 ·rw [decide_eq_false e1,cond_false] at h0
  exact absurd h0 e1
theorem partA_err {a:Atom} {id:Int} {c:Cb} (hp:pileSound a.pile=true) (hc:c.sound=true):(partA a id c).2=0\/partA a id c=([],10):=by
 rw [partA]
 rcases (pileMeet_ok hp hc).1 with e1 | e1
 ·rw [decide_eq_true e1,cond_true]
  rcases (pileLess_ok hp hc).1 with e2 | e2
  ·rw [decide_eq_true e2];exact Or.inl rfl
  ·rw [e2];exact Or.inr rfl
 ·rw [e1];exact Or.inr rfl
theorem splitL_ok {id:Int} {c:Cb} (hc:c.sound=true):∀(l out:List Atom),(∀a∈l,pileSound a.pile=true)->((splitL id c l out).2=0\/splitL id c l out=([],10)\/splitL id c l out=([],11)) /\
  ((splitL id c l out).2=0->(splitL id c l out).1.length<=600/\(∀x∈(splitL id c l out).1,x∈out\/∃a∈l,(partA a id c).2=0/\x∈(partA a id c).1)/\(∀x∈out,x∈(splitL id c l out).1)/\(∀a∈l,(partA a id c).2=0/\∀x∈(partA a id c).1,x∈(splitL id c l out).1))
 | [],out,hl=>by
  rw [splitL]
  by_cases e:out.length>600
  ·rw [decide_eq_true e]
   exact ⟨Or.inr (Or.inr rfl),fun h=>by cases h⟩
  ·rw [decide_eq_false e]
   exact ⟨Or.inl rfl,fun _=>⟨by show out.length<=600;omega,fun x hx=>Or.inl hx,fun x hx=>hx,fun a ha=>by cases ha⟩⟩
 | a::l,out,hl=>by
  rw [splitL]
  rcases partA_err (id:=id) (hl a List.mem_cons_self) hc with e | e
  ·rw [decide_eq_true e,cond_true]
   obtain ⟨g1,g2⟩:=splitL_ok hc l (out++(partA a id c).1) fun b hb=>hl b (List.mem_cons_of_mem _ hb)
   refine ⟨g1,fun h0=>?_⟩
   obtain ⟨k1,k2,k3,k4⟩:=g2 h0
   refine ⟨k1,fun x hx=>?_,fun x hx=>k3 x (List.mem_append_left _ hx),fun b hb=>?_⟩
   ·rcases k2 x hx with hx | ⟨b,hb,h⟩
    ·rcases List.mem_append.1 hx with hx | hx
     ·exact Or.inl hx
     ·exact Or.inr ⟨a,List.mem_cons_self,e,hx⟩
    ·exact Or.inr ⟨b,List.mem_cons_of_mem _ hb,h⟩
   ·rcases List.mem_cons.1 hb with rfl | hb
    ·exact ⟨e,fun x hx=>k3 x (List.mem_append_right _ hx)⟩
    ·exact k4 b hb
  ·rw [e]
   exact ⟨Or.inr (Or.inl rfl),fun h=>by cases h⟩
theorem splitF_ok:∀(l cs:List Cb) (out:List Atom),(∀c∈l,c.sound=true)->Parts cs out->((splitF cs.length l out).2=0\/splitF cs.length l out=([],10)\/splitF cs.length l out=([],11))/\((splitF cs.length l out).2=0->Parts (cs++l) (splitF cs.length l out).1)
 | [],cs,out,hl,hP=>⟨Or.inl rfl,fun _=>by rw [List.append_nil];exact hP⟩
 | c::l,cs,out,hl,hP=>by
  have hc:=hl c List.mem_cons_self
  rw [splitF]
  obtain ⟨g1,g2⟩:=splitL_ok (id:=cs.length) hc out [] fun a ha=>(hP.ok a ha).pile
  rcases g1 with e | e | e
  ·rw [decide_eq_true e,cond_true]
   obtain ⟨k1,k2,k3,k4⟩:=g2 e
   have hN:Parts (cs++[c]) (splitL cs.length c out []).1:=by
    have hm:∀x∈(splitL cs.length c out []).1,∃a∈out,(partA a cs.length c).2=0/\x∈(partA a cs.length c).1:=fun x hx=>(k2 x hx).elim (fun h=>by cases h) id
    refine ⟨fun h=>?_,fun x hx h g hh hg d hd=>?_,fun x hx=>?_,fun x hx=>?_,k1⟩
    ·obtain ⟨a,ha,hh⟩:=hP.all h
     obtain ⟨x,hx,hh⟩:=partA_all (k4 a ha).1 (hP.ok a ha).pile hc hh
     exact ⟨x,(k4 a ha).2 x hx,hh⟩
    ·obtain ⟨a,ha,h0,hx⟩:=hm x hx
     obtain ⟨_,_,hq⟩:=partA_mem h0 (hP.ok a ha).pile hc hx
     rcases List.mem_append.1 hd with hd | hd
     ·refine hP.like a ha h g ?_ ?_ d hd
      ·rcases hq with ⟨_,hq⟩ | ⟨_,hq⟩
       ·rw [hq,Bool.and_eq_true] at hh;exact hh.1
       ·rw [hq,Bool.and_eq_true] at hh;exact hh.1
      ·rcases hq with ⟨_,hq⟩ | ⟨_,hq⟩
       ·rw [hq,Bool.and_eq_true] at hg;exact hg.1
       ·rw [hq,Bool.and_eq_true] at hg;exact hg.1
     ·rw [List.mem_singleton.1 hd]
      rcases hq with ⟨_,hq⟩ | ⟨_,hq⟩
      ·rw [hq,Bool.and_eq_true] at hh hg;rw [hh.2,hg.2]
      ·rw [hq,Bool.and_eq_true,Bool.not_eq_true'] at hh hg;rw [hh.2,hg.2]
    ·obtain ⟨a,ha,h0,hx⟩:=hm x hx
     obtain ⟨h1,h2,hq⟩:=partA_mem h0 (hP.ok a ha).pile hc hx
     have hi:=(hP.ok a ha).ids
     have hu:=(hP.ok a ha).up
     rw [List.length_append,List.length_singleton]
     refine ⟨h1,?_,?_⟩
     ·rcases hq with ⟨hq,_⟩ | ⟨hq,_⟩
      ·rw [hq]
       intro i hi'
       rcases List.mem_append.1 hi' with hi' | hi'
       ·have:=hi i hi';omega
       ·rw [List.mem_singleton.1 hi'];omega
      ·rw [hq]
       intro i hi'
       have:=hi i hi';omega
     ·rcases hq with ⟨hq,_⟩ | ⟨hq,_⟩
      ·rw [hq,List.pairwise_append]
       exact ⟨hu,List.pairwise_singleton _ _,fun x hx y hy=>by rw [List.mem_singleton.1 hy];exact hi x hx⟩
      ·rw [hq];exact hu
    ·obtain ⟨a,ha,h0,hx⟩:=hm x hx
     exact (partA_mem h0 (hP.ok a ha).pile hc hx).2.1
   have:=splitF_ok l (cs++[c]) (splitL cs.length c out []).1 (fun d hd=>hl d (List.mem_cons_of_mem _ hd)) hN
   rw [List.length_append,List.length_singleton,List.append_assoc] at this
   exact this
  ·rw [e]
   exact ⟨Or.inr (Or.inl rfl),fun h=>by cases h⟩
  ·rw [e]
   exact ⟨Or.inr (Or.inr rfl),fun h=>by cases h⟩
theorem parts0:Parts [] [atom0]:=by
 refine ⟨fun h=>⟨atom0,List.mem_singleton.2 rfl,?_⟩,fun a ha h g _ _ c hc=>(by cases hc),fun a ha=>?_,fun a ha=>?_,by decide⟩
 ·simp [atom0,pileHas,Cb.has_zero]
 ·rw [List.mem_singleton.1 ha]
  exact ⟨by decide,fun i hi=>(by cases hi),List.Pairwise.nil⟩
 ·rw [List.mem_singleton.1 ha]
  simp [atom0,pileHas,Cb.has_zero]
theorem atomsOf_ok {ps:List Cb} (hp:∀c∈ps,c.sound=true) (hl:ps.length<=500):((atomsOf ps).2=0\/atomsOf ps=([],10)\/atomsOf ps=([],11))/\((atomsOf ps).2=0->Parts ps (atomsOf ps).1):=by
 rw [atomsOf,decide_eq_false (by omega),cond_false,List.all_eq_true.2 hp,cond_true]
 exact splitF_ok ps [] [atom0] hp parts0
end Go.Proofs.YtoaibdbehlcnfaaGreat.Sm
end
section
namespace Go.Proofs.YtoaibdbehlcnfaaGreat.Sm
open Go.RowKit
def Pt.zero:Pt:=⟨0,0,0,0,0⟩
def Rl.portIs (r:Rl) (kind:Int) (ports:List Pt):Bool:=decide (r.act.table=0) && decide (0<=r.act.port) && decide (r.act.port<ports.length) && decide ((ports.getD r.act.port.toNat Pt.zero).kind=kind)
theorem d_port (r:Rl) (kind:Int) (ports:List Pt):PDoes Tryz.prog 271 [.agg (cRl r),.i .i64 kind,.sl (ports.map cPt)] (.b (r.portIs kind ports)):=by
  refine PDoes.of_bodyN Tryz.func271 rfl (by kernel_rfl) rfl rfl ?_
  refine jB ?_;refine wF ?_;refine wH rfl ?_;refine jB ?_;refine wF ?_;refine wH rfl ?_;refine jB ?_
  refine AW.text ?_
  have hlen:(ports.map cPt).length=ports.length:=List.length_map ..
  by_cases h1:r.act.table=0
  · by_cases h2:0<=r.act.port
    · obtain ⟨n,hn⟩:=Int.eq_ofNat_of_zero_le h2
      by_cases h3:r.act.port<((ports.map cPt).length:Nat)
      · have h4:n<ports.length:=by rw [hlen] at h3;omega
        refine RG.runO ty_ok 0 [(14,.b true),(17,.b true),(23,.b true),(27,.i .i64 (n:Nat))] 400 rfl jD ?_
        refine RG.opS rfl (op_index rfl (tk rfl) rfl (tk rfl) rfl rfl (show (ports.map cPt)[n]?=some (cPt ports[n]) by rw [List.getElem?_map,List.getElem?_eq_getElem h4];rfl) rfl) rfl ?_
        refine wH rfl ?_;refine jA ?_
        refine AW.ret (retQA ty_ok rfl rfl rfl ?_)
        exact congrArg AV.b (by rw [hlen] at h3;simp [Rl.portIs,h1,h2,h3,hn,h4])
      · refine RG.runO ty_ok 0 [(14,.b true),(17,.b true),(23,.b false)] 400 rfl jD ?_
        refine wH rfl ?_;refine jA ?_
        refine AW.ret (retQA ty_ok rfl rfl rfl ?_)
        exact congrArg AV.b (by rw [hlen] at h3;simp [Rl.portIs,h3])
    · refine RG.runO ty_ok 0 [(14,.b true),(17,.b false)] 400 rfl jD ?_
      refine wH rfl ?_;refine jA ?_
      refine AW.ret (retQA ty_ok rfl rfl rfl ?_)
      exact congrArg AV.b (by simp [Rl.portIs,h2])
  · refine RG.runO ty_ok 0 [(14,.b false)] 400 rfl jD ?_
    refine wH rfl ?_;refine jA ?_
    refine AW.ret (retQA ty_ok rfl rfl rfl ?_)
    exact congrArg AV.b (by simp [Rl.portIs,h1])
def Rl.does (r:Rl) (table:Int) (ports:List Pt):Bool :=
 if r.act.kind=1 then decide (r.act.port=0) && decide (r.act.table=0)
 else if r.act.kind=2 then r.portIs 1 ports
 else if r.act.kind=3 then r.portIs 2 ports
 else if r.act.kind=4 then decide (r.act.port=0) && decide (table<r.act.table) && decide (r.act.table<3)
 else false
theorem d_does (r:Rl) (table:Int) (ports:List Pt):PDoes Tryz.prog 228 [.agg (cRl r),.i .i64 table,.sl (ports.map cPt)] (.b (r.does table ports)):=by
  refine PDoes.of_bodyN Tryz.func228 rfl (by kernel_rfl) rfl rfl ?_
  refine jA ?_
  refine AW.cond rfl (fun h=>?_) (fun h=>?_)
  · have h1:r.act.kind=1:=of_decide_eq_true h
    refine jB ?_
    refine AW.text ?_
    by_cases h2:r.act.port=0
    · refine RG.runO ty_ok 0 [(15,.b true)] 400 rfl jD ?_
      refine wH rfl ?_;refine jA ?_
      refine AW.ret (retQA ty_ok rfl rfl rfl ?_)
      exact congrArg AV.b (by simp [Rl.does,h1,h2])
    · refine RG.runO ty_ok 0 [(15,.b false)] 400 rfl jD ?_
      refine wH rfl ?_;refine jA ?_
      refine AW.ret (retQA ty_ok rfl rfl rfl ?_)
      exact congrArg AV.b (by simp [Rl.does,h1,h2])
  have h1:¬r.act.kind=1:=of_decide_eq_false h
  clear h
  refine jA ?_
  refine AW.cond rfl (fun h=>?_) (fun h=>?_)
  · have h2:r.act.kind=2:=of_decide_eq_true h
    refine jA ?_
    refine RG.callS rfl rfl rfl rfl rfl (d_port r 1 ports) rfl rfl ?_;refine wH rfl ?_;refine jA ?_
    refine AW.ret (retQA ty_ok rfl rfl rfl ?_)
    exact congrArg AV.b (by simp [Rl.does,h2])
  have h2:¬r.act.kind=2:=of_decide_eq_false h
  clear h
  refine jA ?_
  refine AW.cond rfl (fun h=>?_) (fun h=>?_)
  · have h3:r.act.kind=3:=of_decide_eq_true h
    refine jA ?_
    refine RG.callS rfl rfl rfl rfl rfl (d_port r 2 ports) rfl rfl ?_;refine wH rfl ?_;refine jA ?_
    refine AW.ret (retQA ty_ok rfl rfl rfl ?_)
    exact congrArg AV.b (by simp [Rl.does,h3])
  have h3:¬r.act.kind=3:=of_decide_eq_false h
  clear h
  refine jA ?_
  refine AW.cond rfl (fun h=>?_) (fun h=>?_)
  · have h4:r.act.kind=4:=of_decide_eq_true h
    refine jB ?_
    refine AW.text ?_
    by_cases h5:r.act.port=0
    · by_cases h6:table<r.act.table
      · refine RG.runO ty_ok 0 [(37,.b true),(43,.b true)] 400 rfl jD ?_
        refine wH rfl ?_;refine jA ?_
        refine AW.ret (retQA ty_ok rfl rfl rfl ?_)
        exact congrArg AV.b (by simp [Rl.does,h4,h5,h6])
      · refine RG.runO ty_ok 0 [(37,.b true),(43,.b false)] 400 rfl jD ?_
        refine wH rfl ?_;refine jA ?_
        refine AW.ret (retQA ty_ok rfl rfl rfl ?_)
        exact congrArg AV.b (by simp [Rl.does,h4,h6])
    · refine RG.runO ty_ok 0 [(37,.b false)] 400 rfl jD ?_
      refine wH rfl ?_;refine jA ?_
      refine AW.ret (retQA ty_ok rfl rfl rfl ?_)
      exact congrArg AV.b (by simp [Rl.does,h4,h5])
  have h4:¬r.act.kind=4:=of_decide_eq_false h
  clear h
  refine jA ?_
  refine AW.ret (retQA ty_ok rfl rfl rfl ?_)
  exact congrArg AV.b (by simp [Rl.does,h1,h2,h3,h4])
def Rl.sound (r:Rl) (table:Int) (ports:List Pt):Bool:=decide (0<=r.prio) && decide (r.prio<=1048576) && r.mat.sound && r.act.set.sound && r.does table ports
theorem d_RSound (r:Rl) (table:Int) (ports:List Pt) (q:Bool) (hq:r.sound table ports=q):PDoes Tryz.prog 180 [.agg (cRl r),.i .i64 table,.sl (ports.map cPt)] (.b q):=by
  subst hq
  refine PDoes.of_bodyN Tryz.func180 rfl (by kernel_rfl) rfl rfl ?_
  refine jB ?_;refine wF ?_;refine wH rfl ?_;refine jB ?_
  refine AW.text ?_
  by_cases h1:0<=r.prio
  · by_cases h2:r.prio<=1048576
    · refine RG.runO ty_ok 0 [(9,.b true),(13,.b true)] 400 rfl jD ?_
      cases h3:r.mat.sound
      · refine RG.callS rfl rfl rfl rfl rfl (d_Sound r.mat _ h3) rfl rfl ?_;refine wH rfl ?_;refine jA ?_
        refine AW.ret (retQA ty_ok rfl rfl rfl ?_)
        exact congrArg AV.b (by simp [Rl.sound,h3])
      · refine RG.callS rfl rfl rfl rfl rfl (d_Sound r.mat _ h3) rfl rfl ?_;refine wH rfl ?_;refine jA ?_
        cases h4:r.act.set.sound
        · refine RG.callS rfl rfl rfl rfl rfl (d_Sound r.act.set _ h4) rfl rfl ?_;refine wH rfl ?_;refine jA ?_
          refine AW.ret (retQA ty_ok rfl rfl rfl ?_)
          exact congrArg AV.b (by simp [Rl.sound,h4])
        · refine RG.callS rfl rfl rfl rfl rfl (d_Sound r.act.set _ h4) rfl rfl ?_;refine wH rfl ?_;refine jA ?_
          refine RG.callS rfl rfl rfl rfl rfl (d_does r table ports) rfl rfl ?_;refine wH rfl ?_;refine jA ?_
          refine AW.ret (retQA ty_ok rfl rfl rfl ?_)
          exact congrArg AV.b (by simp [Rl.sound,h1,h2,h3,h4])
    · refine RG.runO ty_ok 0 [(9,.b true),(13,.b false)] 400 rfl jD ?_
      refine wH rfl ?_;refine jA ?_
      refine AW.ret (retQA ty_ok rfl rfl rfl ?_)
      exact congrArg AV.b (by simp [Rl.sound,h2])
  · refine RG.runO ty_ok 0 [(9,.b false)] 400 rfl jD ?_
    refine wH rfl ?_;refine jA ?_
    refine AW.ret (retQA ty_ok rfl rfl rfl ?_)
    exact congrArg AV.b (by simp [Rl.sound,h1])
theorem d_RSet (r:Rl) (h:Hd):PDoes Tryz.prog 262 [.agg (cRl r),.agg (cHd h)] (.agg (cHd (h.set r.act.set))):=by
 refine PDoes.of_bodyN Tryz.func262 rfl (by kernel_rfl) rfl rfl ?_
 refine jA ?_
 refine RG.callS rfl rfl rfl rfl rfl (d_Set h r.act.set) rfl rfl ?_;refine wH rfl ?_;refine jA ?_
 refine AW.ret (retQA ty_ok rfl rfl rfl ?_)
 rfl
theorem d_isNaN (a:Int):PDoes Tryz.prog 268 [.i .i64 a] (.b false):=by
 refine PDoes.of_bodyN Tryz.func268 rfl (by kernel_rfl) rfl rfl ?_
 refine jA ?_
 refine AW.ret (retQA ty_ok rfl rfl rfl ?_)
 exact congrArg AV.b (by simp)
def cmpI (a b:Int):Int:=if a<b then -1 else if b<a then 1 else 0
theorem d_Compare (a b:Int):PDoes Tryz.prog 308 [.i .i64 a,.i .i64 b] (.i .i64 (cmpI a b)):=by
 refine PDoes.of_bodyN Tryz.func308 rfl (by kernel_rfl) rfl rfl ?_
 refine jA ?_
 refine RG.callS rfl rfl rfl rfl rfl (d_isNaN a) rfl rfl ?_;refine wH rfl ?_;refine jA ?_
 refine RG.callS rfl rfl rfl rfl rfl (d_isNaN b) rfl rfl ?_;refine wH rfl ?_;refine jA ?_
 refine AW.condF rfl ?_;refine jA ?_
 refine AW.condF rfl ?_;refine jA ?_
 refine AW.cond rfl (fun h=>?_) (fun h=>?_)
 ·refine jA ?_
  refine AW.ret (retQA ty_ok rfl rfl rfl ?_)
  rw [cmpI,if_pos (of_decide_eq_true h)]
  rfl
 ·have h1:=of_decide_eq_false h
  clear h
  refine jA ?_
  refine AW.cond rfl (fun h=>?_) (fun h=>?_)
  ·refine jA ?_
   refine AW.ret (retQA ty_ok rfl rfl rfl ?_)
   rw [cmpI,if_neg h1,if_pos (of_decide_eq_true h)]
   rfl
  ·refine jA ?_
   refine AW.ret (retQA ty_ok rfl rfl rfl ?_)
   rw [cmpI,if_neg h1,if_neg (of_decide_eq_false h)]
   rfl
def orI:List Int->Int
 | []=>0
 | x::xs=>if x≠0 then x else orI xs
theorem d_Or2 (l:List Int):PDoes Tryz.prog 307 [.sl (l.map cI)] (.i .i64 (orI l)):=by
  refine PDoes.of_bodyN Tryz.func307 rfl (by kernel_rfl) rfl rfl ?_
  refine jA ?_
  refine AW.lens 6 rfl fun hm=>?_
  rw [List.length_map] at hm
  refine AW.loopL (ι:=Nat) (fun k=>[(3,.i .i64 0),(6,.sl (l.map cI)),(7,.i .i64 (l.map cI).length),(8,.i .i64 (k:Nat))]) (fun k=>[]) (fun k=>k<=l.length/\orI (l.drop k)=orI l) (fun k=>l.length - k) 0 ⟨Nat.zero_le _,rfl⟩ jW trivial fun k hk=>?_
  obtain ⟨hk,hf⟩:=hk
  refine jA ?_
  refine AW.cond rfl (fun h=>?_) (fun h=>?_)
  · have h:k<l.length:=by simpa using h
    rw [List.drop_eq_getElem_cons h,orI] at hf
    refine jA ?_
    refine RG.opS rfl (op_index rfl (tk rfl) rfl (tk rfl) rfl rfl (show (l.map cI)[k]?=some (cI l[k]) by simp [h]) rfl) rfl ?_
    refine wH rfl ?_;refine jA ?_
    refine AW.cond rfl (fun hne=>?_) (fun hne=>?_)
    · have hne:l[k]≠0:=by simpa using hne
      refine jA ?_
      refine AW.ret (retQA ty_ok rfl rfl rfl ?_)
      rw [if_pos hne] at hf
      rw [<- hf]
      rfl
    · have hne:¬l[k]≠0:=by simpa using hne
      rw [if_neg hne] at hf
      refine jA ?_
      exact ⟨k+1,⟨⟨by omega,hf⟩,by omega⟩,jV,trivial⟩
  · have h:¬k<l.length:=by simpa using h
    obtain rfl:k=l.length:=by omega
    refine jA ?_
    refine jE ?_;refine jA ?_
    refine AW.ret (retQA ty_ok rfl rfl rfl ?_)
    rw [List.drop_length] at hf
    rw [<- hf]
    rfl
end Go.Proofs.YtoaibdbehlcnfaaGreat.Sm
end
section
namespace Go.Proofs.YtoaibdbehlcnfaaGreat.Sm
open Go.RowKit
def Sp.zero:Sp:=⟨0,0⟩
def Ac.zero:Ac:=⟨0,0,0,Cb.zero⟩
def Rl.zero:Rl:=⟨0,Cb.zero,Ac.zero⟩
def countT:List (List Rl)->Int->Int
 | [],n=>n
 | l::t,n=>countT t (IntKind.i64.wrap (n+(l.length:Nat)))
def rulesOk (n:Nat) (m:Nat) (ports:List Pt):List Rl->Bool
 | []=>true
 | r::l=>bif r.sound n ports && decide (r.act.table<(m:Nat)) then rulesOk n m ports l else false
def tablesOk (m:Nat) (ports:List Pt):Nat->List (List Rl)->Bool
 | _,[]=>true
 | n,l::t=>bif rulesOk n m ports l then tablesOk m ports (n+1) t else false
def tabSound (t:List (List Rl)) (ports:List Pt):Int :=
 if t.length=0\/t.length>3 then 4 else if countT t 0>96 then 12 else if tablesOk t.length ports 0 t then 0 else 2
def linkOk (t:List (List Pt)) (n a:Nat) (p:Pt):Bool :=
 decide (p.tenant=0) && (decide (1<=p.cost) && (decide (p.cost<=1000) && (decide (0<=p.peer) && (decide (p.peer<t.length) && (decide (p.peer≠n) && (decide (0<=p.at_) && (decide (p.at_<(t.getD p.peer.toNat []).length) && decide ((t.getD p.peer.toNat []).getD p.at_.toNat Pt.zero=⟨2,0,n,a,p.cost⟩))))))))
def portOk (t:List (List Pt)) (n a:Nat) (p:Pt):Bool :=
 if p.kind=0 then decide (p=Pt.zero) else if p.kind=1 then decide (p=⟨1,p.tenant,0,0,0⟩) && (decide (0<=p.tenant) && decide (p.tenant<4)) else if p.kind=2 then linkOk t n a p else false
def rowFits:List (List Pt)->Bool
 | []=>true
 | r::l=>bif decide (r.length>6) then false else rowFits l
def rowOk (t:List (List Pt)) (n:Nat):Nat->List Pt->Bool
 | _,[]=>true
 | a,p::l=>bif portOk t n a p then rowOk t n (a+1) l else false
def rowsOk (t:List (List Pt)):Nat->List (List Pt)->Bool
 | _,[]=>true
 | n,r::l=>bif rowOk t n 0 r then rowsOk t (n+1) l else false
def topoSound (t:List (List Pt)):Int :=
 if t.length=0\/t.length>6 then 4 else if rowFits t then (if rowsOk t 0 t then 0 else 2) else 4
def edgeI (n:Nat) (a:Nat) (p:Pt):List Sp:=bif decide (p.kind=1) then [⟨n,a⟩] else []
def edgeRow (n:Nat) (r:List Pt):List Sp:=accI (edgeI n) 0 r []
def edges (t:List (List Pt)):List Sp:=accI edgeRow 0 t []
def portAt (t:List (List Pt)) (s:Sp):Pt:=(t.getD s.sw.toNat []).getD s.port.toNat Pt.zero
def spotIn (t:List (List Pt)) (s:Sp):Bool:=decide (0<=s.sw) && (decide (s.sw<t.length) && (decide (0<=s.port) && decide (s.port<(t.getD s.sw.toNat []).length)))
def edgeOf (t:List (List Pt)) (s:Sp):Int:=bif spotIn t s && decide ((portAt t s).kind=1) then (portAt t s).tenant else -1
def tenantOk (p:Pol) (n:Int):Bool:=decide (0<=n) && decide (n<p.tenants)
def edgesFit (c:Cf):List Sp->Bool
 | []=>true
 | s::l=>bif tenantOk c.pol (portAt c.topo.ports s).tenant then edgesFit c l else false
def sizesOk (c:Cf):Bool:=decide (1<=c.pol.tenants) && (decide (c.pol.tenants<=4) && (decide (c.pol.peers.length<=16) && (decide (c.pol.ways.length<=4) && edgesFit c (edges c.topo.ports))))
def peersOk (p:Pol):List (Int × Int)->Bool
 | []=>true
 | x::l=>bif tenantOk p x.1 && tenantOk p x.2 then peersOk p l else false
def waysOk (p:Pol) (m:Nat):List Wy->Bool
 | []=>true
 | w::l=>bif tenantOk p w.fro && (tenantOk p w.to && (decide (0<=w.via) && decide (w.via<(m:Nat)))) then waysOk p m l else false
def polOk (c:Cf):Bool:=peersOk c.pol c.pol.peers && waysOk c.pol c.topo.ports.length c.pol.ways
def tabsSound (ports:List (List Pt)):Nat->List (List (List Rl))->Int
 | _,[]=>0
 | n,t::l=>if tabSound t (ports.getD n [])=0 then tabsSound ports (n+1) l else tabSound t (ports.getD n [])
def Cf.sound (c:Cf):Int :=
 if topoSound c.topo.ports=0 then (bif sizesOk c then (bif polOk c then (if c.tables.length=c.topo.ports.length then tabsSound c.topo.ports 0 c.tables else 4) else 2) else 4) else topoSound c.topo.ports
def stampOf (c:Cf) (s:Sp) (v:Int):Cb:=Cb.make (((Hd.zero.put 88 24 (ofI64 ((portAt c.topo.ports s).tenant+1))).put 112 8 (ofI64 v))) (maskH 88 40)
def fndF (h:Hd):Nat->List Rl->Option (Nat × Int)->Option (Nat × Int)
 | _,[],b=>b
 | i,r::l,b=>fndF h (i+1) l (bif r.mat.has h && b.all (fun q=>decide (q.2<r.prio)) then some (i,r.prio) else b)
def fnd (l:List Rl) (h:Hd):Option Nat:=(fndF h 0 l none).map (·.1)
def tabOf (c:Cf) (n t:Nat):List Rl:=(c.tables.getD n []).getD t []
def goF (c:Cf):Nat->Nat->Nat->Hd->List Hop->Run
 | 0,_,_,_,hops=>⟨4,Sp.zero,hops⟩
 | f+1,n,t,h,hops =>
  match fnd (tabOf c n t) h with
  | none=>⟨3,Sp.zero,hops++[⟨n,t,-1,h⟩]⟩
  | some r =>
   if ((tabOf c n t).getD r Rl.zero).act.kind=4 then goF c f n ((tabOf c n t).getD r Rl.zero).act.table.toNat (h.set ((tabOf c n t).getD r Rl.zero).act.set) (hops++[⟨n,t,r,h⟩])
   else if ((tabOf c n t).getD r Rl.zero).act.kind=3 then goF c f (portAt c.topo.ports ⟨n,((tabOf c n t).getD r Rl.zero).act.port⟩).peer.toNat 0 (h.set ((tabOf c n t).getD r Rl.zero).act.set) (hops++[⟨n,t,r,h⟩])
   else if ((tabOf c n t).getD r Rl.zero).act.kind=2 then ⟨2,⟨n,((tabOf c n t).getD r Rl.zero).act.port⟩,hops++[⟨n,t,r,h⟩]⟩
   else ⟨1,Sp.zero,hops++[⟨n,t,r,h⟩]⟩
def runOf (c:Cf) (s:Sp) (h:Hd) (v:Int) (most:Nat):Run:=goF c most s.sw.toNat 0 (h.set (stampOf c s v)) []
def addC (l:List Cb) (x:Cb):List Cb:=bif decide (x∈l) then l else l++[x]
def addAll:List Cb->List Cb->List Cb
 | l,[]=>l
 | l,x::xs=>addAll (addC l x) xs
def rulesOf (c:Cf):List Rl:=c.tables.flatten.flatten
def setsR:List Cb->List Rl->List Cb
 | l,[]=>l
 | l,r::rs=>setsR (bif decide (r.act.set=Cb.zero) then l else addC l r.act.set) rs
def setsOf (c:Cf) (v:Int):List Cb:=setsR (addAll [] ((edges c.topo.ports).map fun s=>stampOf c s v)) (rulesOf c)
def closeRow (p:Cb):List Cb->List Cb->List Cb
 | [],all=>all
 | s::sets,all=>closeRow p sets (bif p.hits s then addC all (p.before s) else all)
def closeF (sets:List Cb):Nat->Nat->List Cb->List Cb
 | 0,_,all=>all
 | f+1,n,all=>bif decide (n<all.length) && decide (all.length<=500) then closeF sets f (n+1) (closeRow (all.getD n Cb.zero) sets all) else all
def askedOf (c:Cf) (v:Int):List Cb:=closeF (setsOf c v) 501 0 (addAll [] ((rulesOf c).map Rl.mat))
end Go.Proofs.YtoaibdbehlcnfaaGreat.Sm
end
section
namespace Go.Proofs.YtoaibdbehlcnfaaGreat.Sm
open Go.RowKit
theorem addC_mem {l:List Cb} {x y:Cb}:y∈addC l x↔y∈l\/y=x:=by
 rw [addC]
 by_cases h:x∈l
 ·rw [decide_eq_true h,cond_true]
  exact ⟨Or.inl,fun H=>H.elim id fun e=>e ▸ h⟩
 ·rw [decide_eq_false h,cond_false,List.mem_append,List.mem_singleton]
theorem addC_pre {l:List Cb} {x:Cb}:∃m,addC l x=l++m:=by
 rw [addC]
 by_cases h:x∈l
 ·exact ⟨[],by rw [decide_eq_true h,cond_true,List.append_nil]⟩
 ·exact ⟨[x],by rw [decide_eq_false h,cond_false]⟩
theorem addAll_mem {y:Cb}:∀{xs l:List Cb},y∈addAll l xs↔y∈l\/y∈xs
 | [],l=>by simp [addAll]
 | x::xs,l=>by rw [addAll,addAll_mem,addC_mem,List.mem_cons,or_assoc]
theorem setsR_mem {y:Cb}:∀{rs:List Rl} {l:List Cb},y∈setsR l rs↔y∈l\/∃r∈rs,r.act.set=y/\y≠Cb.zero
 | [],l=>by simp [setsR]
 | r::rs,l=>by
  rw [setsR,setsR_mem]
  by_cases h:r.act.set=Cb.zero
  ·rw [decide_eq_true h,cond_true]
   refine or_congr Iff.rfl ⟨fun ⟨q,hq,H⟩=>⟨q,List.mem_cons_of_mem _ hq,H⟩,fun ⟨q,hq,H⟩=>?_⟩
   rcases List.mem_cons.1 hq with rfl | hq
   ·exact absurd (H.1.symm.trans h) H.2
   ·exact ⟨q,hq,H⟩
  ·rw [decide_eq_false h,cond_false,addC_mem,or_assoc]
   refine or_congr Iff.rfl ⟨?_,fun ⟨q,hq,H⟩=>?_⟩
   ·rintro (e | ⟨q,hq,H⟩)
    ·exact ⟨r,List.mem_cons_self,e.symm,by rw [e];exact h⟩
    ·exact ⟨q,List.mem_cons_of_mem _ hq,H⟩
   ·rcases List.mem_cons.1 hq with rfl | hq
    ·exact Or.inl H.1.symm
    ·exact Or.inr ⟨q,hq,H⟩
theorem setsOf_mem {c:Cf} {v:Int} {y:Cb}:y∈setsOf c v↔(∃s∈edges c.topo.ports,stampOf c s v=y)\/∃r∈rulesOf c,r.act.set=y/\y≠Cb.zero:=by
 rw [setsOf,setsR_mem,addAll_mem,List.mem_map]
 simp
theorem closeRow_pre (p:Cb):∀(sets all:List Cb),∃m,closeRow p sets all=all++m
 | [],all=>⟨[],by rw [closeRow,List.append_nil]⟩
 | s::sets,all=>by
  rw [closeRow]
  obtain ⟨m,hm⟩:=closeRow_pre p sets (bif p.hits s then addC all (p.before s) else all)
  rw [hm]
  cases p.hits s
  ·exact ⟨m,rfl⟩
  ·obtain ⟨m',hm'⟩:=addC_pre (l:=all) (x:=p.before s)
   exact ⟨m'++m,by rw [cond_true,hm',List.append_assoc]⟩
theorem closeRow_in (p:Cb):∀(sets all:List Cb),∀s∈sets,p.hits s=true->p.before s∈closeRow p sets all
 | s::sets,all,t,ht,hh=>by
  rw [closeRow]
  rcases List.mem_cons.1 ht with rfl | ht
  ·rw [hh,cond_true]
   obtain ⟨m,hm⟩:=closeRow_pre p sets (addC all (p.before t))
   rw [hm]
   exact List.mem_append_left _ (addC_mem.2 (Or.inr rfl))
  ·exact closeRow_in p sets _ t ht hh
theorem closeRow_sound (p:Cb):∀(sets all:List Cb),(∀x∈all,x.sound=true)->∀x∈closeRow p sets all,x.sound=true
 | [],all,h,x,hx=>h x hx
 | s::sets,all,h,x,hx=>by
  rw [closeRow] at hx
  refine closeRow_sound p sets _ (fun y hy=>?_) x hx
  cases hh:p.hits s
  ·rw [hh,cond_false] at hy;exact h y hy
  ·rw [hh,cond_true,addC_mem] at hy
   rcases hy with hy | rfl
   ·exact h y hy
   ·exact Cb.make_sound _ _
theorem getD_pre {l m:List Cb} {i:Nat} (h:i<l.length):(l++m).getD i Cb.zero=l.getD i Cb.zero:=by
 rw [List.getD_eq_getElem?_getD,List.getD_eq_getElem?_getD,List.getElem?_append_left h]
theorem closeF_ok (sets : List Cb) : ∀ (f n : Nat) (all : List Cb), n + f = 501 -> n <= all.length -> (∀ x ∈ all, x.sound = true) -> (∀ i < n, ∀ s ∈ sets, (all.getD i Cb.zero).hits s = true -> (all.getD i Cb.zero).before s ∈ all) ->
    (∀x∈closeF sets f n all,x.sound=true)/\(∀x∈all,x∈closeF sets f n all)/\((closeF sets f n all).length<=500->∀x∈closeF sets f n all,∀s∈sets,x.hits s=true->x.before s∈closeF sets f n all)
  | 0,n,all,hn,hl,hs,hc=>by
    rw [closeF]
    exact ⟨hs,fun x hx=>hx,fun h=>by omega⟩
  | f+1,n,all,hn,hl,hs,hc=>by
    rw [closeF]
    by_cases h:n<all.length/\all.length<=500
    · rw [decide_eq_true h.1,decide_eq_true h.2,Bool.and_true,cond_true]
      obtain ⟨m,hm⟩:=closeRow_pre (all.getD n Cb.zero) sets all
      have hin:=closeRow_in (all.getD n Cb.zero) sets all
      have hso:=closeRow_sound (all.getD n Cb.zero) sets all hs
      rw [hm] at hin hso ⊢
      obtain ⟨g1,g2,g3⟩:=closeF_ok sets f (n+1) (all++m) (by omega) (by rw [List.length_append];omega) hso fun i hi s hsi hh=>by
        rw [getD_pre (by omega)] at hh ⊢
        by_cases e:i=n
        · subst e;exact hin s hsi hh
        · exact List.mem_append_left _ (hc i (by omega) s hsi hh)
      exact ⟨g1,fun x hx=>g2 x (List.mem_append_left _ hx),g3⟩
    · rw [<- Bool.decide_and,decide_eq_false h,cond_false]
      refine ⟨hs,fun x hx=>hx,fun hle x hx s hsi hh=>?_⟩
      obtain ⟨i,hi⟩:=List.mem_iff_getElem?.1 hx
      have hil:=(List.getElem?_eq_some_iff.1 hi).1
      have:=hc i (by omega) s hsi
      rw [List.getD_eq_getElem?_getD,hi] at this
      exact this hh
theorem rulesOk_mem {n m:Nat} {ports:List Pt}:∀{l:List Rl},rulesOk n m ports l=true->∀r∈l,r.sound n ports=true/\r.act.table<(m:Nat)
 | r::l,h,q,hq=>by
  rw [rulesOk] at h
  cases hb:(r.sound n ports && decide (r.act.table<(m:Nat)))
  ·rw [hb] at h;cases h
  ·rw [hb,cond_true] at h
   rw [Bool.and_eq_true,decide_eq_true_eq] at hb
   rcases List.mem_cons.1 hq with rfl | hq
   ·exact hb
   ·exact rulesOk_mem h q hq
theorem tablesOk_mem {m:Nat} {ports:List Pt}:∀{t:List (List Rl)} {n:Nat},tablesOk m ports n t=true->∀(i:Nat) (l:List Rl),t[i]?=some l->rulesOk (n+i) m ports l=true
 | l::t,n,h,i,q,hq=>by
  rw [tablesOk] at h
  cases hb:rulesOk n m ports l
  ·rw [hb] at h;cases h
  ·rw [hb,cond_true] at h
   cases i with
   | zero=>rw [List.getElem?_cons_zero] at hq;rw [<- Option.some.inj hq];exact hb
   | succ i=>rw [show n+(i+1)=n+1+i by omega];exact tablesOk_mem h i q hq
theorem tabSound_ok {t:List (List Rl)} {ports:List Pt} (h:tabSound t ports=0):1<=t.length/\t.length<=3/\countT t 0<=96/\∀(i:Nat) (l:List Rl),t[i]?=some l->∀r∈l,r.sound i ports=true/\r.act.table<(t.length:Nat):=by
 rw [tabSound] at h
 split at h
 ·cases h
 rename_i h1
 split at h
 ·cases h
 rename_i h2
 split at h
 ·rename_i h3
  refine ⟨by omega,by omega,by omega,fun i l hl r hr=>?_⟩
  have:=rulesOk_mem (tablesOk_mem h3 i l hl) r hr
  rw [Nat.zero_add] at this
  exact this
 ·cases h
theorem rowOk_mem {t:List (List Pt)} {n:Nat}:∀{r:List Pt} {a:Nat},rowOk t n a r=true->∀(i:Nat) (p:Pt),r[i]?=some p->portOk t n (a+i) p=true
 | q::r,a,h,i,p,hp=>by
  rw [rowOk] at h
  cases hb:portOk t n a q
  ·rw [hb] at h;cases h
  ·rw [hb,cond_true] at h
   cases i with
   | zero=>rw [List.getElem?_cons_zero] at hp;rw [<- Option.some.inj hp];exact hb
   | succ i=>rw [show a+(i+1)=a+1+i by omega];exact rowOk_mem h i p hp
theorem rowsOk_mem {t:List (List Pt)}:∀{l:List (List Pt)} {n:Nat},rowsOk t n l=true->∀(i:Nat) (r:List Pt),l[i]?=some r->rowOk t (n+i) 0 r=true
 | q::l,n,h,i,r,hr=>by
  rw [rowsOk] at h
  cases hb:rowOk t n 0 q
  ·rw [hb] at h;cases h
  ·rw [hb,cond_true] at h
   cases i with
   | zero=>rw [List.getElem?_cons_zero] at hr;rw [<- Option.some.inj hr];exact hb
   | succ i=>rw [show n+(i+1)=n+1+i by omega];exact rowsOk_mem h i r hr
theorem rowFits_mem:∀{l:List (List Pt)},rowFits l=true->∀r∈l,r.length<=6
 | q::l,h,r,hr=>by
  rw [rowFits] at h
  by_cases hq:q.length>6
  ·rw [decide_eq_true hq] at h;cases h
  ·rw [decide_eq_false hq,cond_false] at h
   rcases List.mem_cons.1 hr with rfl | hr
   ·omega
   ·exact rowFits_mem h r hr
theorem topoSound_ok {t:List (List Pt)} (h:topoSound t=0):1<=t.length/\t.length<=6/\(∀r∈t,r.length<=6)/\∀(n:Nat) (r:List Pt),t[n]?=some r->∀(a:Nat) (p:Pt),r[a]?=some p->portOk t n a p=true:=by
 rw [topoSound] at h
 split at h
 ·cases h
 rename_i h1
 split at h
 ·rename_i h2
  split at h
  ·rename_i h3
   refine ⟨by omega,by omega,rowFits_mem h2,fun n r hr a p hp=>?_⟩
   have:=rowsOk_mem h3 n r hr
   rw [Nat.zero_add] at this
   have:=rowOk_mem this a p hp
   rw [Nat.zero_add] at this
   exact this
  ·cases h
 ·cases h
theorem tabsSound_ok {ports:List (List Pt)}:∀{l:List (List (List Rl))} {n:Nat},tabsSound ports n l=0->∀(i:Nat) (t:List (List Rl)),l[i]?=some t->tabSound t (ports.getD (n+i) [])=0
 | q::l,n,h,i,t,ht=>by
  rw [tabsSound] at h
  split at h
  ·rename_i h1
   cases i with
   | zero=>rw [List.getElem?_cons_zero] at ht;rw [<- Option.some.inj ht];exact h1
   | succ i=>rw [show n+(i+1)=n+1+i by omega];exact tabsSound_ok h i t ht
  ·rename_i h1
   exact absurd h h1
structure Cf.Ok (c:Cf):Prop where
 topo:topoSound c.topo.ports=0
 sizes:sizesOk c=true
 pol:polOk c=true
 len:c.tables.length=c.topo.ports.length
 tabs:∀(n:Nat) (t:List (List Rl)),c.tables[n]?=some t->tabSound t (c.topo.ports.getD n [])=0
theorem Cf.ok {c:Cf} (h:c.sound=0):c.Ok:=by
 rw [Cf.sound] at h
 split at h
 ·rename_i h1
  cases h2:sizesOk c
  ·rw [h2] at h;cases h
  rw [h2,cond_true] at h
  cases h3:polOk c
  ·rw [h3] at h;cases h
  rw [h3,cond_true] at h
  split at h
  ·rename_i h4
   refine ⟨h1,h2,h3,h4,fun n t ht=>?_⟩
   have:=tabsSound_ok h n t ht
   rw [Nat.zero_add] at this
   exact this
  ·cases h
 ·rename_i h1
  exact absurd h h1
structure At (c:Cf) (n t:Nat):Prop where
 sw:n<c.tables.length
 tab:t<(c.tables.getD n []).length
theorem At.start {c:Cf} (hc:c.Ok) {n:Nat} (h:n<c.topo.ports.length):At c n 0:=by
 have hn:n<c.tables.length:=by rw [hc.len];exact h
 refine ⟨hn,?_⟩
 have:=(tabSound_ok (hc.tabs n _ (List.getElem?_eq_getElem hn))).1
 rw [List.getD_eq_getElem?_getD,List.getElem?_eq_getElem hn]
 exact this
theorem At.get {c:Cf} {n t:Nat} (h:At c n t):∃ts,c.tables[n]?=some ts/\ts[t]?=some (tabOf c n t):=by
 have h1:=h.tab
 rw [List.getD_eq_getElem?_getD,List.getElem?_eq_getElem h.sw] at h1
 refine ⟨_,List.getElem?_eq_getElem h.sw,?_⟩
 rw [tabOf,List.getD_eq_getElem?_getD,List.getD_eq_getElem?_getD,List.getElem?_eq_getElem h.sw]
 have h1:t<(c.tables[n]'h.sw).length:=h1
 show (c.tables[n]'h.sw)[t]?=some (((c.tables[n]'h.sw)[t]?).getD [])
 rw [List.getElem?_eq_getElem h1]
 rfl
theorem At.rule {c:Cf} (hc:c.Ok) {n t:Nat} (h:At c n t) {r:Rl} (hr:r∈tabOf c n t):r.sound t (c.topo.ports.getD n [])=true/\r.act.table<((c.tables.getD n []).length:Nat):=by
 obtain ⟨ts,h1,h2⟩:=h.get
 have:=(tabSound_ok (hc.tabs n ts h1)).2.2.2 t _ h2 r hr
 rw [List.getD_eq_getElem?_getD (l:=c.tables),h1]
 exact this
theorem Rl.sound_does {r:Rl} {t:Int} {ports:List Pt} (h:r.sound t ports=true):r.mat.sound=true/\r.act.set.sound=true/\r.does t ports=true:=by
 rw [Rl.sound] at h
 simp only [Bool.and_eq_true] at h
 exact ⟨h.1.1.2,h.1.2,h.2⟩
theorem Rl.does_goto {r:Rl} {t:Int} {ports:List Pt} (h:r.does t ports=true) (hk:r.act.kind=4):t<r.act.table/\r.act.table<3:=by
 rw [Rl.does] at h
 simp only [hk] at h
 simp at h
 omega
theorem Rl.does_forward {r:Rl} {t:Int} {ports:List Pt} (h:r.does t ports=true) (hk:r.act.kind=3):0<=r.act.port/\r.act.port<ports.length/\(ports.getD r.act.port.toNat Pt.zero).kind=2:=by
 rw [Rl.does] at h
 simp only [hk] at h
 simp [Rl.portIs] at h
 exact ⟨h.1.1.2,h.1.2,h.2⟩
theorem Rl.does_deliver {r:Rl} {t:Int} {ports:List Pt} (h:r.does t ports=true) (hk:r.act.kind=2):0<=r.act.port/\r.act.port<ports.length/\(ports.getD r.act.port.toNat Pt.zero).kind=1:=by
 rw [Rl.does] at h
 simp only [hk] at h
 simp [Rl.portIs] at h
 exact ⟨h.1.1.2,h.1.2,h.2⟩
theorem Rl.does_kind {r:Rl} {t:Int} {ports:List Pt} (h:r.does t ports=true):r.act.kind=1\/r.act.kind=2\/r.act.kind=3\/r.act.kind=4:=by
 rw [Rl.does] at h
 split at h
 ·rename_i h1;exact Or.inl h1
 split at h
 ·rename_i h1;exact Or.inr (Or.inl h1)
 split at h
 ·rename_i h1;exact Or.inr (Or.inr (Or.inl h1))
 split at h
 ·rename_i h1;exact Or.inr (Or.inr (Or.inr h1))
 cases h
theorem At.link {c:Cf} (hc:c.Ok) {n t:Nat} (h:At c n t) {r:Rl} (hr:r∈tabOf c n t) (hk:r.act.kind=3) :
  0<=(portAt c.topo.ports ⟨n,r.act.port⟩).peer/\(portAt c.topo.ports ⟨n,r.act.port⟩).peer<c.topo.ports.length/\(portAt c.topo.ports ⟨n,r.act.port⟩).kind=2:=by
 obtain ⟨h1,h2,h3⟩:=Rl.does_forward (Rl.sound_does (h.rule hc hr).1).2.2 hk
 have hn:n<c.topo.ports.length:=by rw [<- hc.len];exact h.sw
 have e1:(c.topo.ports.getD n [])=c.topo.ports[n]:=by rw [List.getD_eq_getElem?_getD,List.getElem?_eq_getElem hn];rfl
 have e2:portAt c.topo.ports ⟨n,r.act.port⟩=(c.topo.ports.getD n []).getD r.act.port.toNat Pt.zero:=by rw [portAt,Int.toNat_natCast]
 rw [e2]
 rw [e1] at h2 h3 ⊢
 have hp:r.act.port.toNat<c.topo.ports[n].length:=by omega
 have e3:c.topo.ports[n].getD r.act.port.toNat Pt.zero=c.topo.ports[n][r.act.port.toNat]:=by rw [List.getD_eq_getElem?_getD,List.getElem?_eq_getElem hp];rfl
 have h4:=(topoSound_ok hc.topo).2.2.2 n _ (List.getElem?_eq_getElem hn) _ _ (List.getElem?_eq_getElem hp)
 rw [e3] at h3 ⊢
 rw [portOk] at h4
 simp only [h3] at h4
 simp [linkOk] at h4
 exact ⟨by omega,by omega,h3⟩
theorem At.forward {c:Cf} (hc:c.Ok) {n t:Nat} (h:At c n t) {r:Rl} (hr:r∈tabOf c n t) (hk:r.act.kind=3):At c (portAt c.topo.ports ⟨n,r.act.port⟩).peer.toNat 0:=by
 obtain ⟨h1,h2,_⟩:=h.link hc hr hk
 exact At.start hc (by omega)
theorem At.goto {c:Cf} (hc:c.Ok) {n t:Nat} (h:At c n t) {r:Rl} (hr:r∈tabOf c n t) (hk:r.act.kind=4):At c n r.act.table.toNat:=by
 obtain ⟨h1,h2⟩:=h.rule hc hr
 obtain ⟨h3,h4⟩:=Rl.does_goto (Rl.sound_does h1).2.2 hk
 exact ⟨h.sw,by omega⟩
def Like (ps:List Cb) (h g:Hd):Prop:=∀p∈ps,p.has h=p.has g
theorem fndF_like {h g:Hd}:∀{l:List Rl} {i:Nat} {b:Option (Nat × Int)},(∀r∈l,r.mat.has h=r.mat.has g)->fndF h i l b=fndF g i l b
 | [],_,_,_=>rfl
 | r::l,i,b,H=>by
  rw [fndF,fndF,H r List.mem_cons_self]
  exact fndF_like fun q hq=>H q (List.mem_cons_of_mem _ hq)
theorem fndF_lt {h:Hd}:∀{l:List Rl} {i:Nat} {b:Option (Nat × Int)} {x:Nat × Int},fndF h i l b=some x->(b=some x)\/(i<=x.1/\x.1<i+l.length/\∃r,l[x.1 - i]?=some r/\r.mat.has h=true)
  | [],i,b,x,H=>Or.inl H
  | r::l,i,b,x,H=>by
    rw [fndF] at H
    rcases fndF_lt H with e | ⟨h1,h2,q,h3,h4⟩
    · cases hb:(r.mat.has h && b.all fun q=>decide (q.2<r.prio))
      · rw [hb,cond_false] at e;exact Or.inl e
      · rw [hb,cond_true] at e
        rw [<- Option.some.inj e]
        rw [Bool.and_eq_true] at hb
        exact Or.inr ⟨Nat.le_refl _,by rw [List.length_cons];show i<_;omega,r,by simp,hb.1⟩
    · refine Or.inr ⟨by omega,by rw [List.length_cons];omega,q,?_,h4⟩
      rw [show x.1 - i=(x.1 - (i+1))+1 by omega,List.getElem?_cons_succ]
      exact h3
theorem fnd_lt {l:List Rl} {h:Hd} {r:Nat} (H:fnd l h=some r):r<l.length/\l.getD r Rl.zero∈l/\(l.getD r Rl.zero).mat.has h=true:=by
 rw [fnd] at H
 cases hf:fndF h 0 l none with
 | none=>rw [hf] at H;cases H
 | some x =>
  rw [hf] at H
  have e:x.1=r:=Option.some.inj H
  rcases fndF_lt hf with h1 | ⟨_,h2,q,h3,h4⟩
  ·cases h1
  ·rw [e] at h2 h3
   rw [Nat.zero_add] at h2
   rw [Nat.sub_zero] at h3
   rw [List.getD_eq_getElem?_getD,h3]
   exact ⟨h2,List.mem_of_getElem? h3,h4⟩
structure Asked (c:Cf) (v:Int) (ps:List Cb):Prop where
 mats:∀r∈rulesOf c,r.mat∈ps
 closed:∀p∈ps,∀s∈setsOf c v,p.hits s=true->p.before s∈ps
theorem askedOf_ok {c:Cf} (hc:c.Ok) (v:Int):(∀p∈askedOf c v,p.sound=true)/\((askedOf c v).length<=500->Asked c v (askedOf c v)):=by
 have hm:∀r∈rulesOf c,r.mat.sound=true:=by
  intro r hr
  obtain ⟨l,hl,hr⟩:=List.mem_flatten.1 hr
  obtain ⟨t,ht,hl⟩:=List.mem_flatten.1 hl
  obtain ⟨n,hn⟩:=List.mem_iff_getElem?.1 ht
  obtain ⟨i,hi⟩:=List.mem_iff_getElem?.1 hl
  exact (Rl.sound_does ((tabSound_ok (hc.tabs n t hn)).2.2.2 i l hi r hr).1).1
 obtain ⟨g1,g2,g3⟩:=closeF_ok (setsOf c v) 501 0 (addAll [] ((rulesOf c).map Rl.mat)) rfl (Nat.zero_le _) (fun x hx=>by
  rw [addAll_mem,List.mem_map] at hx
  rcases hx with hx | ⟨r,hr,rfl⟩
  ·cases hx
  ·exact hm r hr) fun i hi=>absurd hi (Nat.not_lt_zero i)
 refine ⟨g1,fun hl=>⟨fun r hr=>g2 _ ?_,g3 hl⟩⟩
 rw [addAll_mem,List.mem_map]
 exact Or.inr ⟨r,hr,rfl⟩
theorem Like.set {c:Cf} {v:Int} {ps:List Cb} (hA:Asked c v ps) {h g:Hd} (H:Like ps h g) {s:Cb} (hs:s∈setsOf c v\/s=Cb.zero):Like ps (h.set s) (g.set s):=by
 rcases hs with hs | rfl
 ·intro p hp
  rw [Cb.has_set,Cb.has_set]
  cases hh:p.hits s
  ·rfl
  ·rw [H _ (hA.closed p hp s hs hh)]
 ·rw [Hd.set_zero,Hd.set_zero];exact H
def hopKey (x:Hop):Int × Int × Int:=(x.sw,x.table,x.rule)
structure Run.Alike (x y:Run):Prop where
 fin:x.fin=y.fin
 at_:x.at_=y.at_
 hops:x.hops.map hopKey=y.hops.map hopKey
theorem goF_alike {c:Cf} (hc:c.Ok) {v:Int} {ps:List Cb} (hA:Asked c v ps):∀(f:Nat) (n t:Nat) (h g:Hd) (xs ys:List Hop),At c n t->Like ps h g->xs.map hopKey=ys.map hopKey->(goF c f n t h xs).Alike (goF c f n t g ys)
 | 0,n,t,h,g,xs,ys,hat,hl,he=>⟨rfl,rfl,he⟩
 | f+1,n,t,h,g,xs,ys,hat,hl,he=>by
  obtain ⟨ts,ht1,ht2⟩:=hat.get
  have hin:∀r∈tabOf c n t,r∈rulesOf c:=fun r hr=>List.mem_flatten.2 ⟨_,List.mem_flatten.2 ⟨ts,List.mem_of_getElem? ht1,List.mem_of_getElem? ht2⟩,hr⟩
  have hf:fnd (tabOf c n t) h=fnd (tabOf c n t) g:=by
   rw [fnd,fnd,fndF_like fun r hr=>hl _ (hA.mats r (hin r hr))]
  rw [goF,goF,hf]
  cases hq:fnd (tabOf c n t) g with
  | none=>exact ⟨rfl,rfl,by simp [he,hopKey]⟩
  | some r =>
   obtain ⟨_,hr,_⟩:=fnd_lt hq
   have hap:(xs++[(⟨n,t,r,h⟩:Hop)]).map hopKey=(ys++[(⟨n,t,r,g⟩:Hop)]).map hopKey:=by simp [he,hopKey]
   dsimp only
   revert hr
   generalize (tabOf c n t).getD r Rl.zero=q
   intro hr
   have hs:Like ps (h.set q.act.set) (g.set q.act.set):=hl.set hA (by
    by_cases e:q.act.set=Cb.zero
    ·exact Or.inr e
    ·exact Or.inl (setsOf_mem.2 (Or.inr ⟨q,hin q hr,rfl,e⟩)))
   by_cases k4:q.act.kind=4
   ·rw [if_pos k4,if_pos k4]
    exact goF_alike hc hA f _ _ _ _ _ _ (hat.goto hc hr k4) hs hap
   rw [if_neg k4,if_neg k4]
   by_cases k3:q.act.kind=3
   ·rw [if_pos k3,if_pos k3]
    exact goF_alike hc hA f _ _ _ _ _ _ (hat.forward hc hr k3) hs hap
   rw [if_neg k3,if_neg k3]
   by_cases k2:q.act.kind=2
   ·rw [if_pos k2,if_pos k2]
    exact ⟨rfl,rfl,hap⟩
   rw [if_neg k2,if_neg k2]
   exact ⟨rfl,rfl,hap⟩
theorem edges_mem {t:List (List Pt)} {s:Sp}:s∈edges t↔∃(n:Nat) (r:List Pt) (a:Nat) (p:Pt),t[n]?=some r/\r[a]?=some p/\p.kind=1/\s=⟨n,a⟩:=by
 rw [edges,accI_mem]
 constructor
 ·rintro ⟨n,r,hr,h⟩
  rw [edgeRow,accI_mem] at h
  obtain ⟨a,p,hp,h⟩:=h
  rw [Nat.zero_add,Nat.zero_add,edgeI] at h
  by_cases hk:p.kind=1
  ·rw [decide_eq_true hk,cond_true] at h
   exact ⟨n,r,a,p,hr,hp,hk,List.mem_singleton.1 h⟩
  ·rw [decide_eq_false hk] at h;cases h
 ·rintro ⟨n,r,a,p,hr,hp,hk,rfl⟩
  refine ⟨n,r,hr,?_⟩
  rw [edgeRow,accI_mem]
  refine ⟨a,p,hp,?_⟩
  rw [Nat.zero_add,Nat.zero_add,edgeI,decide_eq_true hk]
  exact List.mem_singleton.2 rfl
theorem edgeOf_iff {t:List (List Pt)} (ht:topoSound t=0) {s:Sp}:0<=edgeOf t s↔s∈edges t:=by
 rw [edges_mem]
 constructor
 ·intro h
  rw [edgeOf] at h
  cases hb:(spotIn t s && decide ((portAt t s).kind=1))
  ·rw [hb] at h;simp at h
  ·simp only [spotIn,Bool.and_eq_true,decide_eq_true_eq] at hb
   obtain ⟨⟨h1,h2,h3,h4⟩,h5⟩:=hb
   obtain ⟨sw,port⟩:=s
   obtain ⟨n,rfl⟩:=Int.eq_ofNat_of_zero_le h1
   obtain ⟨a,rfl⟩:=Int.eq_ofNat_of_zero_le h3
   simp only [portAt,Int.toNat_natCast] at h4 h5
   have h2:((n:Nat):Int)<t.length:=h2
   have hn:n<t.length:=by omega
   have e1:t.getD n []=t[n]:=by rw [List.getD_eq_getElem?_getD,List.getElem?_eq_getElem hn];rfl
   rw [e1] at h4 h5
   have ha:a<t[n].length:=by omega
   have e2:t[n].getD a Pt.zero=t[n][a]:=by rw [List.getD_eq_getElem?_getD,List.getElem?_eq_getElem ha];rfl
   rw [e2] at h5
   exact ⟨n,_,a,_,List.getElem?_eq_getElem hn,List.getElem?_eq_getElem ha,h5,rfl⟩
 ·rintro ⟨n,r,a,p,hr,hp,hk,rfl⟩
  have hok:=(topoSound_ok ht).2.2.2 n r hr a p hp
  have e1:t.getD n []=r:=by rw [List.getD_eq_getElem?_getD,hr];rfl
  have e2:r.getD a Pt.zero=p:=by rw [List.getD_eq_getElem?_getD,hp];rfl
  have hn:=(List.getElem?_eq_some_iff.1 hr).1
  have ha:=(List.getElem?_eq_some_iff.1 hp).1
  rw [portOk] at hok
  simp only [hk] at hok
  simp at hok
  simp only [edgeOf,spotIn,portAt,Int.toNat_natCast,e1,e2,hk]
  rw [decide_eq_true (by omega),decide_eq_true (by omega),decide_eq_true (by omega),decide_eq_true (by omega)]
  exact hok.2.1
theorem edgeOf_neg {t:List (List Pt)} (ht:topoSound t=0) {s:Sp} (h:s∉edges t):edgeOf t s = -1:=by
 have h1:¬0<=edgeOf t s:=fun h'=>h ((edgeOf_iff ht).1 h')
 have h2:=h
 rw [edges_mem] at h2
 rw [edgeOf] at h1 ⊢
 cases hb:(spotIn t s && decide ((portAt t s).kind=1))
 ·rfl
 ·exfalso
  simp only [spotIn,Bool.and_eq_true,decide_eq_true_eq] at hb
  obtain ⟨⟨h1,h2',h3,h4⟩,h5⟩:=hb
  obtain ⟨sw,port⟩:=s
  obtain ⟨n,rfl⟩:=Int.eq_ofNat_of_zero_le h1
  obtain ⟨a,rfl⟩:=Int.eq_ofNat_of_zero_le h3
  simp only [portAt,Int.toNat_natCast] at h4 h5
  have h2':((n:Nat):Int)<t.length:=h2'
  have hn:n<t.length:=by omega
  have e1:t.getD n []=t[n]:=by rw [List.getD_eq_getElem?_getD,List.getElem?_eq_getElem hn];rfl
  rw [e1] at h4 h5
  have ha:a<t[n].length:=by omega
  have e2:t[n].getD a Pt.zero=t[n][a]:=by rw [List.getD_eq_getElem?_getD,List.getElem?_eq_getElem ha];rfl
  rw [e2] at h5
  exact h2 ⟨n,_,a,_,List.getElem?_eq_getElem hn,List.getElem?_eq_getElem ha,h5,rfl⟩
theorem runOf_alike {c:Cf} (hc:c.Ok) {v:Int} {ps:List Cb} (hA:Asked c v ps) {s:Sp} (hs:s∈edges c.topo.ports) {h g:Hd} (H:Like ps h g) (most:Nat):(runOf c s h v most).Alike (runOf c s g v most):=by
 rw [runOf,runOf]
 obtain ⟨n,r,a,p,hr,hp,hk,rfl⟩:=edges_mem.1 hs
 refine goF_alike hc hA most _ _ _ _ _ _ (At.start hc ?_) (H.set hA (Or.inl (setsOf_mem.2 (Or.inl ⟨_,hs,rfl⟩)))) rfl
 exact (List.getElem?_eq_some_iff.1 hr).1
end Go.Proofs.YtoaibdbehlcnfaaGreat.Sm
end
section
namespace Go.Proofs.YtoaibdbehlcnfaaGreat.Sm
open Go.RowKit
theorem shr_rem (a:UInt64) (k:Nat) (hk:k<64):decide (shr64 a k % 2=1)=a.toBitVec.getLsbD k:=by
 have h:(shr64 a k % 2).toNat=a.toNat / 2 ^ k % 2:=by
  rw [UInt64.toNat_mod,shr64,UInt64.toNat_ofNat_of_lt' (Nat.lt_of_le_of_lt (Nat.div_le_self _ _) (UInt64.toNat_lt a)),Nat.min_eq_left (by omega)]
  rfl
 rw [BitVec.getLsbD,Nat.testBit_eq_decide_div_mod_eq]
 refine decide_eq_decide.2 ?_
 rw [<- UInt64.toNat_inj,h]
 rfl
def ti158:TI:=⟨.arr 128 4,128,128,bA fun _=>false⟩
theorem ti158_ok:TiOk Tryz.prog 152 ti158:=tiB_ok (by kernel_rfl)
theorem d_Bits (h:Hd):PDoes Tryz.prog 75 [.agg (cHd h)] (.agg (bA h.b)):=by
  refine PDoes.of_bodyN Tryz.func75 rfl (by kernel_rfl) rfl rfl ?_
  refine jA ?_
  refine RG.opS rfl (op_allocB (id:=2) rfl ti158_ok rfl) rfl ?_
  refine jB ?_
  refine AW.text ?_
  refine RG.opS rfl (op_buildB rfl ti158_ok rfl (tk rfl) rfl) rfl ?_
  refine RG.opS rfl (op_allocB (id:=3) rfl ti158_ok rfl) rfl ?_
  refine RG.opS rfl (op_storeBs (bA_len _) rfl ti158_ok rfl rfl rfl rfl) rfl ?_
  refine wH rfl ?_;refine jA ?_
  refine AW.loopL (ι:=Nat × (Nat->Bool)) (fun i=>[(1,.own 1 0 0),(2,.own 2 0 0),(3,.own 3 0 0),(4,.i .i64 (i.1:Nat))]) (fun i=>[(1,⟨0,some (.box 34 (cHd h))⟩),(2,⟨0,some (.box 152 (bA fun _=>false))⟩),(3,⟨0,some (.box 152 (bA i.2))⟩)]) (fun i=>i.1<=128/\∀j<i.1,i.2 j=h.b j) (fun i=>128 - i.1) (0,fun _=>false) ⟨Nat.zero_le _,fun j hj=>absurd hj (Nat.not_lt_zero j)⟩ jW jW fun i hi=>?_
  obtain ⟨k,f⟩:=i
  obtain ⟨hk,hf⟩:=hi
  simp only at hk hf
  refine jA ?_
  refine AW.cond rfl (fun h'=>?_) (fun h'=>?_)
  · have h':k<128:=Int.ofNat_lt.1 (of_decide_eq_true h')
    have hm:(128:Nat)<=9223372036854775807:=by decide
    refine jA ?_
    refine AW.cond rfl (fun h2=>?_) (fun h2=>?_)
    · have h2:k<64:=Int.ofNat_lt.1 (of_decide_eq_true h2)
      refine jA ?_
      refine RG.opS rfl (op_addrB k h' rfl ti158_ok rfl (tk rfl) rfl rfl rfl rfl) rfl ?_
      refine RG.opS rfl (op_storeB k h' rfl (tk rfl) rfl rfl rfl rfl) rfl ?_
      refine wH rfl ?_;refine jA ?_
      refine ⟨(k+1,upB f k _),⟨⟨h',fun j hj=>?_⟩,by show 128 - (k+1)<128 - k;omega⟩,jV,jW⟩
      show upB f k _ j=_
      rw [upB]
      by_cases e:j=k
      · rw [if_pos e,e,sh0 k (by omega),Hd.b,if_pos h2]
        exact shr_rem h.lo k h2
      · rw [if_neg e];exact hf j (by show j<k;have:j<k+1:=hj;omega)
    · have h2:¬k<64:=fun h3=>of_decide_eq_false h2 (Int.ofNat_lt.2 h3)
      refine jA ?_
      refine RG.opS rfl (op_addrB k h' rfl ti158_ok rfl (tk rfl) rfl rfl rfl rfl) rfl ?_
      refine RG.opS rfl (op_storeB k h' rfl (tk rfl) rfl rfl rfl rfl) rfl ?_
      refine wH rfl ?_;refine jA ?_
      refine ⟨(k+1,upB f k _),⟨⟨h',fun j hj=>?_⟩,by show 128 - (k+1)<128 - k;omega⟩,jV,jW⟩
      show upB f k _ j=_
      rw [upB]
      by_cases e:j=k
      · rw [if_pos e,e,shn k 64 (by omega) (by omega),Hd.b,if_neg h2]
        exact shr_rem h.hi (k - 64) (by omega)
      · rw [if_neg e];exact hf j (by show j<k;have:j<k+1:=hj;omega)
  · have h':¬k<128:=fun h3=>of_decide_eq_false h' (Int.ofNat_lt.2 h3)
    obtain rfl:k=128:=by omega
    refine jA ?_
    refine jE ?_;refine jA ?_
    refine RG.opS rfl (op_loadBs rfl ti158_ok rfl rfl rfl rfl) rfl ?_
    refine RG.opS rfl (op_storeBs (bA_len _) rfl ti158_ok rfl rfl rfl rfl) rfl ?_
    refine wH rfl ?_;refine jA ?_
    refine AW.ret (retBs rfl ti158_ok rfl rfl rfl rfl ?_)
    rw [bA_congr hf]
theorem dbl_b (x:UInt64) (q:Bool) (j:Nat) (hj:j<64):(x*2+(bif q then 1 else 0)).toBitVec.getLsbD j=if j=0 then q else x.toBitVec.getLsbD (j - 1):=by
 have h:(x*2+(bif q then 1 else 0)).toNat=(2*x.toNat+(bif q then 1 else 0)) % 2 ^ 64:=by
  cases q <;> (rw [UInt64.toNat_add,UInt64.toNat_mul];simp;omega)
 show (x*2+(bif q then 1 else 0)).toNat.testBit j=_
 rw [h,Nat.testBit_mod_two_pow,decide_eq_true hj,Bool.true_and]
 by_cases e:j=0
 ·rw [if_pos e,e,Nat.testBit_zero]
  cases q <;> simp <;> omega
 ·rw [if_neg e]
  obtain ⟨i,rfl⟩:∃i,j=i+1:=⟨j - 1,by omega⟩
  rw [Nat.testBit_succ,Nat.add_sub_cancel]
  show _=x.toNat.testBit i
  congr 1
  cases q <;> simp <;> omega
structure HeadAt (f:Nat->Bool) (n:Nat) (h:Hd):Prop where
 lo:∀j<64,h.lo.toBitVec.getLsbD j=(decide (n+j<64) && f (n+j))
 hi:∀j<64,h.hi.toBitVec.getLsbD j=(decide (max n 64+j<128) && f (max n 64+j))
theorem HeadAt.step_lo {f:Nat->Bool} {n:Nat} {h:Hd} (H:HeadAt f (n+1) h) (hn:n<64):HeadAt f n ⟨h.hi,h.lo*2+(bif f n then 1 else 0)⟩:=by
 refine ⟨fun j hj=>?_,fun j hj=>?_⟩
 ·show (h.lo*2+(bif f n then 1 else 0)).toBitVec.getLsbD j=_
  rw [dbl_b _ _ _ hj]
  by_cases e:j=0
  ·rw [if_pos e,e,Nat.add_zero,decide_eq_true hn,Bool.true_and]
  ·rw [if_neg e,H.lo _ (by omega),show n+1+(j - 1)=n+j by omega]
 ·have:=H.hi j hj
  rw [show max (n+1) 64=max n 64 by omega] at this
  exact this
theorem HeadAt.step_hi {f:Nat->Bool} {n:Nat} {h:Hd} (H:HeadAt f (n+1) h) (hn:¬n<64) (hn2:n<128):HeadAt f n ⟨h.hi*2+(bif f n then 1 else 0),h.lo⟩:=by
 refine ⟨fun j hj=>?_,fun j hj=>?_⟩
 ·have:=H.lo j hj
  rw [decide_eq_false (by omega),Bool.false_and] at this
  rw [decide_eq_false (by omega),Bool.false_and]
  exact this
 ·show (h.hi*2+(bif f n then 1 else 0)).toBitVec.getLsbD j=_
  rw [dbl_b _ _ _ hj]
  by_cases e:j=0
  ·rw [if_pos e,e,Nat.add_zero,show max n 64=n by omega,decide_eq_true hn2,Bool.true_and]
  ·rw [if_neg e,H.hi _ (by omega),show max (n+1) 64+(j - 1)=max n 64+j by omega]
theorem HeadAt.done {f:Nat->Bool} {h g:Hd} (H:HeadAt f 0 h) (hg:∀i<128,g.b i=f i):h=g:=by
 refine Hd.ext_b fun i=>?_
 by_cases hi:i<128
 ·rw [hg i hi,Hd.b]
  by_cases h6:i<64
  ·rw [if_pos h6,H.lo i h6,Nat.zero_add,decide_eq_true h6,Bool.true_and]
  ·rw [if_neg h6,H.hi (i - 64) (by omega),show max 0 64+(i - 64)=i by omega,decide_eq_true hi,Bool.true_and]
 ·rw [Hd.b_hi _ _ (by omega),Hd.b_hi _ _ (by omega)]
theorem d_Head (f:Nat->Bool) (g:Hd) (hg:∀i<128,g.b i=f i):PDoes Tryz.prog 116 [.agg (bA f)] (.agg (cHd g)):=by
  refine PDoes.of_bodyN Tryz.func116 rfl (by kernel_rfl) rfl rfl ?_
  refine jB ?_
  refine AW.text ?_
  refine RG.opS rfl (op_box (id:=1) (cs:=bA f) rfl rfl (bA_one f)) rfl ?_
  refine wH rfl ?_;refine jA ?_
  refine AW.loopL (ι:=Nat × Hd) (fun i=>[(1,.own 1 0 0),(2,.own 2 0 0),(3,.own 3 0 0),(4,.i .i64 ((i.1:Int) - 1))]) (fun i=>[(1,⟨0,some (.box 152 (bA f))⟩),(2,⟨0,some (.box 34 (cHd Hd.zero))⟩),(3,⟨0,some (.box 34 (cHd i.2))⟩)]) (fun i=>i.1<=128/\HeadAt f i.1 i.2) (fun i=>i.1) (128,Hd.zero) ⟨Nat.le_refl _,⟨fun j hj=>by rw [decide_eq_false (show ¬128+j<64 by omega)];exact BitVec.getLsbD_zero,fun j hj=>by rw [decide_eq_false (show ¬max 128 64+j<128 by omega)];exact BitVec.getLsbD_zero⟩⟩ jW jW fun i hi=>?_
  obtain ⟨n,h⟩:=i
  obtain ⟨hn,hf⟩:=hi
  simp only at hn hf
  refine jA ?_
  refine AW.cond rfl (fun h'=>?_) (fun h'=>?_)
  · obtain ⟨k,rfl⟩:∃k,n=k+1:=⟨n - 1,by have:=of_decide_eq_true h';simp only [Int.ofNat_eq_natCast] at this;omega⟩
    have hk:(((k+1:Nat):Int) - 1)=(k:Nat):=by omega
    have hk8:k<128:=by omega
    refine AW.only [(1,.own 1 0 0),(2,.own 2 0 0),(3,.own 3 0 0),(4,.i .i64 (k:Nat))] [(1,⟨0,some (.box 152 (bA f))⟩),(2,⟨0,some (.box 34 (cHd Hd.zero))⟩),(3,⟨0,some (.box 34 (cHd h))⟩)] ⟨Rn.ownIs rfl rfl rfl,Rn.ownIs rfl rfl rfl,Rn.ownIs rfl rfl rfl,.is (congrArg _ hk) rfl,trivial⟩ jW ?_
    refine jA ?_
    refine RG.opS rfl (op_addrB (k) hk8 rfl ti158_ok rfl (tk rfl) rfl rfl rfl rfl) rfl ?_
    refine RG.opS rfl (op_loadB (k) hk8 rfl (tk rfl) rfl rfl rfl) rfl ?_
    refine jB ?_
    refine AW.cond rfl (fun hq=>?_) (fun hq=>?_)
    · refine jA ?_
      refine AW.cond rfl (fun h2=>?_) (fun h2=>?_)
      · have h2:k<64:=Int.ofNat_lt.1 (of_decide_eq_true h2)
        refine jA ?_
        have H:=hf.step_lo h2
        rw [hq] at H
        exact ⟨(k,_),⟨⟨by show k<=128;omega,H⟩,Nat.lt_succ_self k⟩,⟨Rn.ownIs rfl rfl rfl,Rn.ownIs rfl rfl rfl,Rn.ownIs rfl rfl rfl,.is (i64_dec k (by omega)) rfl,trivial⟩,jW⟩
      · have h2:¬k<64:=fun h3=>of_decide_eq_false h2 (Int.ofNat_lt.2 h3)
        refine jA ?_
        have H:=hf.step_hi h2 hk8
        rw [hq] at H
        exact ⟨(k,_),⟨⟨by show k<=128;omega,H⟩,Nat.lt_succ_self k⟩,⟨Rn.ownIs rfl rfl rfl,Rn.ownIs rfl rfl rfl,Rn.ownIs rfl rfl rfl,.is (i64_dec k (by omega)) rfl,trivial⟩,jW⟩
    · refine jA ?_
      refine AW.cond rfl (fun h2=>?_) (fun h2=>?_)
      · have h2:k<64:=Int.ofNat_lt.1 (of_decide_eq_true h2)
        refine jA ?_
        have H:=hf.step_lo h2
        rw [hq] at H
        exact ⟨(k,_),⟨⟨by show k<=128;omega,H⟩,Nat.lt_succ_self k⟩,⟨Rn.ownIs rfl rfl rfl,Rn.ownIs rfl rfl rfl,Rn.ownIs rfl rfl rfl,.is (i64_dec k (by omega)) rfl,trivial⟩,jW⟩
      · have h2:¬k<64:=fun h3=>of_decide_eq_false h2 (Int.ofNat_lt.2 h3)
        refine jA ?_
        have H:=hf.step_hi h2 hk8
        rw [hq] at H
        exact ⟨(k,_),⟨⟨by show k<=128;omega,H⟩,Nat.lt_succ_self k⟩,⟨Rn.ownIs rfl rfl rfl,Rn.ownIs rfl rfl rfl,Rn.ownIs rfl rfl rfl,.is (i64_dec k (by omega)) rfl,trivial⟩,jW⟩
  · obtain rfl : n = 0 := by
      have:=of_decide_eq_false h'
      simp only [Int.ofNat_eq_natCast] at this
      omega
    refine jA ?_
    refine jE ?_;refine jA ?_
    refine AW.ret (retQA ty_ok rfl rfl rfl ?_)
    rw [hf.done hg]
    rfl
end Go.Proofs.YtoaibdbehlcnfaaGreat.Sm
end
section
namespace Go.Proofs.YtoaibdbehlcnfaaGreat.Sm
open Go.RowKit
theorem op_loadBv {P:Program} {N:Nat} {o:Oper} {s:St} (k:Nat) {t id ep:Nat} {ti:TI} {p:Operand} {ty:Nat} {f:Nat->Bool} {v:Bool} (hk:k<128) (hv:f k=v) (ho:o.op = .load t p) (ht:TiOk P t ti) (hti:ti.k.ag=false) (hp:s.ev p = .own id ep k) (hid:s.σ id=⟨ep,some (.box ty (bA f))⟩) :
  OpLoc P N o s ⟨.b v,[],[id]⟩:=by
 rw [<- hv]
 exact op_loadB k hk ho ht hti hp hid
theorem Hd.set_b (h:Hd) (c:Cb) (i:Nat):(h.set c).b i=bif c.care.b i then c.value.b i else h.b i:=by
 simp only [Hd.set,Hd.b_or,Hd.b_less,Hd.b_and]
 cases c.care.b i <;> cases h.b i <;> cases c.value.b i <;> rfl
theorem d_rSet (h:Hd) (c:Cb):PDoes Tryz.prog 64 [.agg (cHd h),.agg (cCb c)] (.agg (cHd (h.set c))):=by
 refine PDoes.of_bodyN Tryz.func64 rfl (by kernel_rfl) rfl rfl ?_
 refine jB ?_;refine wF ?_;refine wH rfl ?_;refine jB ?_
 refine AW.draws mixed_ok ?_
 refine wH rfl ?_
 refine RG.callS rfl rfl rfl rfl rfl (d_Bits h) (flat_bA _) rfl ?_
 refine wH rfl ?_
 refine RG.callS rfl rfl rfl rfl rfl (d_Bits c.value) (flat_bA _) rfl ?_
 refine wH rfl ?_
 refine RG.callS rfl rfl rfl rfl rfl (d_Bits c.care) (flat_bA _) rfl ?_
 refine RG.opS rfl (op_allocB (id:=5) rfl ti158_ok rfl) rfl ?_
 refine RG.opS rfl (op_allocB (id:=6) rfl ti158_ok rfl) rfl ?_
 refine RG.opS rfl (op_allocB (id:=7) rfl ti158_ok rfl) rfl ?_
 refine RG.opS rfl (op_storeBs (bA_len _) rfl ti158_ok rfl rfl rfl rfl) rfl ?_
 refine RG.opS rfl (op_storeBs (bA_len _) rfl ti158_ok rfl rfl rfl rfl) rfl ?_
 refine RG.opS rfl (op_storeBs (bA_len _) rfl ti158_ok rfl rfl rfl rfl) rfl ?_
 refine wH rfl ?_;refine jA ?_
 refine AW.loopL (ι:=Nat × (Nat->Bool)) (fun i=>[(4,.own 4 0 0),(5,.own 5 0 0),(6,.own 6 0 0),(7,.own 7 0 0),(8,.i .i64 (i.1:Nat))]) (fun i=>[(4,⟨0,some (.box 34 (cHd Hd.zero))⟩),(5,⟨0,some (.box 152 (bA i.2))⟩),(6,⟨0,some (.box 152 (bA c.value.b))⟩),(7,⟨0,some (.box 152 (bA c.care.b))⟩)]) (fun i=>i.1<=128/\∀j,i.2 j=bif decide (j<i.1) && c.care.b j then c.value.b j else h.b j) (fun i=>128 - i.1) (0,h.b) ⟨Nat.zero_le _,fun j=>by rw [decide_eq_false (Nat.not_lt_zero j)];rfl⟩ jW jW fun i hi=>?_
 obtain ⟨k,f⟩:=i
 obtain ⟨hk,hf⟩:=hi
 simp only at hk hf
 refine jA ?_
 refine AW.cond rfl (fun h'=>?_) (fun h'=>?_)
 ·have h':k<128:=Int.ofNat_lt.1 (of_decide_eq_true h')
  have hm:(128:Nat)<=9223372036854775807:=by decide
  refine jA ?_
  refine RG.opS rfl (op_addrB (k) h' rfl ti158_ok rfl (tk rfl) rfl rfl rfl rfl) rfl ?_
  refine RG.opS rfl (op_loadB (k) h' rfl (tk rfl) rfl rfl rfl) rfl ?_
  refine jB ?_
  refine AW.cond rfl (fun hq=>?_) (fun hq=>?_)
  ·refine jA ?_
   refine RG.opS rfl (op_addrB (k) h' rfl ti158_ok rfl (tk rfl) rfl rfl rfl rfl) rfl ?_
   refine RG.opS rfl (op_loadB (k) h' rfl (tk rfl) rfl rfl rfl) rfl ?_
   refine RG.opS rfl (op_addrB (k) h' rfl ti158_ok rfl (tk rfl) rfl rfl rfl rfl) rfl ?_
   refine RG.opS rfl (op_storeB (k) h' rfl (tk rfl) rfl rfl rfl rfl) rfl ?_
   refine wH rfl ?_;refine jA ?_
   refine ⟨(k+1,upB f k (c.value.b k)),⟨⟨h',fun j=>?_⟩,by show 128 - (k+1)<128 - k;omega⟩,jV,jW⟩
   show upB f k _ j=_
   rw [upB]
   by_cases e:j=k
   ·rw [if_pos e,e,decide_eq_true (show k<k+1 by omega),hq];rfl
   ·rw [if_neg e,hf j]
    by_cases e2:j<k
    ·rw [decide_eq_true e2,decide_eq_true (show j<k+1 by omega)]
    ·rw [decide_eq_false e2,decide_eq_false (show ¬j<k+1 by omega)]
  ·refine jA ?_
   refine ⟨(k+1,f),⟨⟨h',fun j=>?_⟩,by show 128 - (k+1)<128 - k;omega⟩,jV,jW⟩
   show f j=_
   rw [hf j]
   by_cases e:j=k
   ·rw [e,hq,Bool.and_false,Bool.and_false]
   ·by_cases e2:j<k
    ·rw [decide_eq_true e2,decide_eq_true (show j<k+1 by omega)]
    ·rw [decide_eq_false e2,decide_eq_false (show ¬j<k+1 by omega)]
 ·have h':¬k<128:=fun h3=>of_decide_eq_false h' (Int.ofNat_lt.2 h3)
  obtain rfl:k=128:=by omega
  refine jA ?_
  refine jE ?_;refine jA ?_
  refine RG.opS rfl (op_loadBs rfl ti158_ok rfl rfl rfl rfl) rfl ?_
  refine RG.callS rfl rfl rfl (callB_fz _) rfl (d_Head f (h.set c) fun i hi=>by rw [hf i,Hd.set_b,decide_eq_true hi,Bool.true_and]) rfl rfl ?_
  refine wH rfl ?_;refine jA ?_
  refine AW.ret (retQA ty_ok rfl rfl rfl ?_)
  rfl
def sgn (c:Cb) (i:Nat):UInt8:=bif c.care.b i then (bif c.value.b i then 49 else 48) else 120
def textOf (c:Cb):List UInt8:=(List.range 128).map fun i=>sgn c (127 - i)
theorem textOf_len (c:Cb):(textOf c).length=128:=by simp [textOf]
theorem textOf_get (c:Cb) (k:Nat) (hk:k<128):(textOf c)[k]?=some (sgn c (127 - k)):=by
 rw [textOf,List.getElem?_map,List.getElem?_range hk];rfl
theorem w127 (k:Nat) (hk:k<128):IntKind.i64.wrap (Int.ofNat 127 - (k:Int))=((127 - k:Nat):Int):=by
 rw [IntKind.wrap_i64]
 simp only [Int.ofNat_eq_natCast]
 omega
theorem yA_take (g:Nat->UInt8):((yA g).drop 0).take 128=yA g:=by
 rw [List.drop_zero]
 exact List.take_of_length_le (by rw [yA_len];exact Nat.le_refl _)
theorem d_Text (c:Cb) (q:Bool) (hq:c.sound=q):PDoes Tryz.prog 32 [.agg (cCb c)] (.tup [.s (bif q then textOf c else []),.b q]):=by
 subst hq
 refine PDoes.of_bodyN Tryz.func32 rfl (by kernel_rfl) rfl rfl ?_
 refine jB ?_;refine wF ?_;refine wH rfl ?_;refine jB ?_
 refine AW.draws mixed_ok ?_
 refine wH rfl ?_
 refine RG.callS rfl rfl rfl rfl rfl (d_Bits c.value) (flat_bA _) rfl ?_
 refine wH rfl ?_
 refine RG.callS rfl rfl rfl rfl rfl (d_Bits c.care) (flat_bA _) rfl ?_
 refine RG.opS rfl (op_allocB (id:=4) rfl ti158_ok rfl) rfl ?_
 refine RG.opS rfl (op_allocB (id:=5) rfl ti158_ok rfl) rfl ?_
 refine RG.opS rfl (op_storeBs (bA_len _) rfl ti158_ok rfl rfl rfl rfl) rfl ?_
 refine RG.opS rfl (op_storeBs (bA_len _) rfl ti158_ok rfl rfl rfl rfl) rfl ?_
 refine wH rfl ?_;refine jA ?_
 refine RG.opS rfl (op_makeY (id:=6) rfl (tk rfl) rfl (tk rfl) rfl rfl rfl) rfl ?_
 refine wH rfl ?_;refine jA ?_
 refine AW.loopL (ι:=Nat × (Nat->UInt8)) (fun i=>[(4,.own 4 0 0),(5,.own 5 0 0),(6,.row 6 0 0 128),(7,.i .i64 (i.1:Nat))]) (fun i=>[(4,⟨0,some (.box 152 (bA c.value.b))⟩),(5,⟨0,some (.box 152 (bA c.care.b))⟩),(6,⟨0,some (.row 5 1 (yA i.2))⟩)]) (fun i=>i.1<=128/\(∀j<i.1,(c.value.b j && !c.care.b j)=false)/\∀j<i.1,i.2 (127 - j)=sgn c j) (fun i=>128 - i.1) (0,fun _=>0) ⟨Nat.zero_le _,fun j hj=>absurd hj (Nat.not_lt_zero j),fun j hj=>absurd hj (Nat.not_lt_zero j)⟩ jW jW fun i hi=>?_
 obtain ⟨k,g⟩:=i
 obtain ⟨hk,hs,hg⟩:=hi
 simp only at hk hs hg
 refine jA ?_
 refine AW.cond rfl (fun h'=>?_) (fun h'=>?_)
 ·have h':k<128:=Int.ofNat_lt.1 (of_decide_eq_true h')
  have hm:(128:Nat)<=9223372036854775807:=by decide
  have hw:=w127 k h'
  have h7:127 - k<128:=by omega
  have fin:∀v,v=sgn c k->(c.value.b k && !c.care.b k)=false->(∀j<k+1,(c.value.b j && !c.care.b j)=false)/\∀j<k+1,upY g (127 - k) v (127 - j)=sgn c j:=fun v hv hb=>by
   refine ⟨fun j hj=>?_,fun j hj=>?_⟩
   ·by_cases e:j=k
    ·rw [e];exact hb
    ·exact hs j (by omega)
   ·rw [upY]
    by_cases e:j=k
    ·rw [if_pos (by omega),e];exact hv
    ·rw [if_neg (by omega)];exact hg j (by omega)
  cases hv:c.value.b k
  ·refine jA ?_
   refine RG.opS rfl (op_addrB (k) h' rfl ti158_ok rfl (tk rfl) rfl rfl rfl rfl) rfl ?_;refine RG.opS rfl (op_loadBv (k) h' hv rfl (tk rfl) rfl rfl rfl) rfl ?_
   refine wH rfl ?_;refine jA ?_;refine AW.condF rfl ?_;refine jA ?_
   cases hc:c.care.b k
   ·refine RG.opS rfl (op_addrB (k) h' rfl ti158_ok rfl (tk rfl) rfl rfl rfl rfl) rfl ?_;refine RG.opS rfl (op_loadBv (k) h' hc rfl (tk rfl) rfl rfl rfl) rfl ?_
    refine wH rfl ?_;refine jA ?_;refine AW.condF rfl ?_;refine jA ?_
    refine RG.opS rfl (op_addrB (k) h' rfl ti158_ok rfl (tk rfl) rfl rfl rfl rfl) rfl ?_;refine RG.opS rfl (op_loadBv (k) h' hc rfl (tk rfl) rfl rfl rfl) rfl ?_
    refine wH rfl ?_;refine jB ?_;refine AW.condF rfl ?_
    refine jB ?_
    refine AW.text ?_
    refine RG.runO ty_ok 0 [(48,.i .i64 (127 - k:Nat))] 400 rfl jD ?_
    refine RG.opS rfl (op_addrY (127 - k) h7 rfl (tk rfl) rfl (tk rfl) rfl rfl rfl rfl) rfl ?_
    refine RG.opS rfl (op_storeY (127 - k) h7 rfl (tk rfl) rfl rfl rfl rfl) rfl ?_
    refine wH rfl ?_;refine jA ?_
    obtain ⟨F1,F2⟩:=fin _ (by rw [sgn,hc,hv];try rfl) (by rw [hc,hv];try rfl)
    exact ⟨(k+1,upY g (127 - k) _),⟨⟨h',F1,F2⟩,by show 128 - (k+1)<128 - k;omega⟩,jV,jW⟩
   ·refine RG.opS rfl (op_addrB (k) h' rfl ti158_ok rfl (tk rfl) rfl rfl rfl rfl) rfl ?_;refine RG.opS rfl (op_loadBv (k) h' hc rfl (tk rfl) rfl rfl rfl) rfl ?_
    refine wH rfl ?_
    refine RG.opS rfl (op_addrB (k) h' rfl ti158_ok rfl (tk rfl) rfl rfl rfl rfl) rfl ?_;refine RG.opS rfl (op_loadBv (k) h' hv rfl (tk rfl) rfl rfl rfl) rfl ?_
    refine wH rfl ?_;refine jA ?_;refine AW.condF rfl ?_;refine jA ?_
    refine RG.opS rfl (op_addrB (k) h' rfl ti158_ok rfl (tk rfl) rfl rfl rfl rfl) rfl ?_;refine RG.opS rfl (op_loadBv (k) h' hc rfl (tk rfl) rfl rfl rfl) rfl ?_
    refine wH rfl ?_
    refine RG.opS rfl (op_addrB (k) h' rfl ti158_ok rfl (tk rfl) rfl rfl rfl rfl) rfl ?_;refine RG.opS rfl (op_loadBv (k) h' hv rfl (tk rfl) rfl rfl rfl) rfl ?_
    refine wH rfl ?_;refine jB ?_;refine AW.condT rfl ?_;refine jB ?_;refine wF ?_;refine wH rfl ?_;refine jB ?_
    refine jB ?_
    refine AW.text ?_
    refine RG.runO ty_ok 0 [(48,.i .i64 (127 - k:Nat))] 400 rfl jD ?_
    refine RG.opS rfl (op_addrY (127 - k) h7 rfl (tk rfl) rfl (tk rfl) rfl rfl rfl rfl) rfl ?_
    refine RG.opS rfl (op_storeY (127 - k) h7 rfl (tk rfl) rfl rfl rfl rfl) rfl ?_
    refine wH rfl ?_;refine jA ?_
    obtain ⟨F1,F2⟩:=fin _ (by rw [sgn,hc,hv];try rfl) (by rw [hc,hv];try rfl)
    exact ⟨(k+1,upY g (127 - k) _),⟨⟨h',F1,F2⟩,by show 128 - (k+1)<128 - k;omega⟩,jV,jW⟩
  ·cases hc:c.care.b k
   ·refine jA ?_
    refine RG.opS rfl (op_addrB (k) h' rfl ti158_ok rfl (tk rfl) rfl rfl rfl rfl) rfl ?_;refine RG.opS rfl (op_loadBv (k) h' hv rfl (tk rfl) rfl rfl rfl) rfl ?_
    refine wH rfl ?_
    refine RG.opS rfl (op_addrB (k) h' rfl ti158_ok rfl (tk rfl) rfl rfl rfl rfl) rfl ?_;refine RG.opS rfl (op_loadBv (k) h' hc rfl (tk rfl) rfl rfl rfl) rfl ?_
    refine wH rfl ?_;refine jA ?_;refine AW.condT rfl ?_;refine jA ?_
    have hn:c.sound=false:=by
     cases hs':c.sound
     ·rfl
     ·have:=(Cb.sound_iff c).1 hs' k
      rw [hv,hc] at this
      cases this
    refine AW.ret (retQA ty_ok rfl rfl rfl ?_)
    rw [hn]
    rfl
   ·refine jA ?_
    refine RG.opS rfl (op_addrB (k) h' rfl ti158_ok rfl (tk rfl) rfl rfl rfl rfl) rfl ?_;refine RG.opS rfl (op_loadBv (k) h' hv rfl (tk rfl) rfl rfl rfl) rfl ?_
    refine wH rfl ?_
    refine RG.opS rfl (op_addrB (k) h' rfl ti158_ok rfl (tk rfl) rfl rfl rfl rfl) rfl ?_;refine RG.opS rfl (op_loadBv (k) h' hc rfl (tk rfl) rfl rfl rfl) rfl ?_
    refine wH rfl ?_;refine jA ?_;refine AW.condF rfl ?_;refine jA ?_
    refine RG.opS rfl (op_addrB (k) h' rfl ti158_ok rfl (tk rfl) rfl rfl rfl rfl) rfl ?_;refine RG.opS rfl (op_loadBv (k) h' hc rfl (tk rfl) rfl rfl rfl) rfl ?_
    refine wH rfl ?_
    refine RG.opS rfl (op_addrB (k) h' rfl ti158_ok rfl (tk rfl) rfl rfl rfl rfl) rfl ?_;refine RG.opS rfl (op_loadBv (k) h' hv rfl (tk rfl) rfl rfl rfl) rfl ?_
    refine wH rfl ?_;refine jA ?_;refine AW.condT rfl ?_;refine jA ?_
    refine RG.opS rfl (op_addrB (k) h' rfl ti158_ok rfl (tk rfl) rfl rfl rfl rfl) rfl ?_;refine RG.opS rfl (op_loadBv (k) h' hc rfl (tk rfl) rfl rfl rfl) rfl ?_
    refine wH rfl ?_
    refine RG.opS rfl (op_addrB (k) h' rfl ti158_ok rfl (tk rfl) rfl rfl rfl rfl) rfl ?_;refine RG.opS rfl (op_loadBv (k) h' hv rfl (tk rfl) rfl rfl rfl) rfl ?_
    refine wH rfl ?_;refine jB ?_;refine AW.condF rfl ?_
    refine jB ?_
    refine AW.text ?_
    refine RG.runO ty_ok 0 [(48,.i .i64 (127 - k:Nat))] 400 rfl jD ?_
    refine RG.opS rfl (op_addrY (127 - k) h7 rfl (tk rfl) rfl (tk rfl) rfl rfl rfl rfl) rfl ?_
    refine RG.opS rfl (op_storeY (127 - k) h7 rfl (tk rfl) rfl rfl rfl rfl) rfl ?_
    refine wH rfl ?_;refine jA ?_
    obtain ⟨F1,F2⟩:=fin _ (by rw [sgn,hc,hv];try rfl) (by rw [hc,hv];try rfl)
    exact ⟨(k+1,upY g (127 - k) _),⟨⟨h',F1,F2⟩,by show 128 - (k+1)<128 - k;omega⟩,jV,jW⟩
 ·have h':¬k<128:=fun h3=>of_decide_eq_false h' (Int.ofNat_lt.2 h3)
  obtain rfl:k=128:=by omega
  have hq:c.sound=true:=by
   rw [Cb.sound_iff]
   intro i
   by_cases hi:i<128
   ·exact hs i hi
   ·rw [Hd.b_hi _ _ (by omega)];rfl
  have hy:yA g=byteEls (textOf c):=by
   rw [yA,byteEls,textOf,List.map_map]
   refine List.map_congr_left fun i hi=>?_
   have hi:=List.mem_range.1 hi
   have:=hg (127 - i) (by omega)
   rw [show 127 - (127 - i)=i by omega] at this
   show [AV.y (g i)]=[AV.y (sgn c (127 - i))]
   rw [this]
  rw [hq]
  refine jB ?_
  refine AW.exit ?_
  refine Eq.mpr (if_pos rfl) ?_
  refine jB ?_
  refine AW.freeze [6] [(6,.sl (byteEls (textOf c)))] [] ⟨RnF.fzA rfl rfl (congrArg AV.sl ((yA_take g).trans hy)),trivial⟩ trivial rfl ?_
  refine jA ?_
  refine RG.opS rfl (op_str rfl (tk rfl) rfl (tk rfl) rfl (tk rfl) rfl rfl) rfl ?_
  refine wH rfl ?_;refine jA ?_
  refine AW.ret (retQA ty_ok rfl rfl rfl ?_)
  rfl
theorem has_bits (c:Cb) (h:Hd) (k:Nat) (H:((h.b k && c.care.b k)=c.value.b k)=False):c.has h=false:=by
 cases hq:c.has h
 ·rfl
 ·have:=(Cb.has_iff c h).1 hq k
  rw [H] at this
  exact this.elim
theorem d_rHas (c:Cb) (h:Hd) (hs:c.sound=true) (q:Bool) (hq:c.has h=q):PDoes Tryz.prog 86 [.s (textOf c),.agg (cHd h)] (.b q):=by
  subst hq
  refine PDoes.of_bodyN Tryz.func86 rfl (by kernel_rfl) rfl rfl ?_
  refine jA ?_
  refine RG.callS rfl rfl rfl rfl rfl (d_Bits h) (flat_bA _) rfl ?_
  refine RG.opS rfl (op_allocB (id:=5) rfl ti158_ok rfl) rfl ?_
  refine RG.opS rfl (op_storeBs (bA_len _) rfl ti158_ok rfl rfl rfl rfl) rfl ?_
  refine wH rfl ?_;refine jA ?_
  refine AW.loopL (ι:=Nat) (fun k=>[(0,.s (textOf c)),(5,.own 5 0 0),(6,.i .i64 (k:Nat))]) (fun _=>[(5,⟨0,some (.box 152 (bA h.b))⟩)]) (fun k=>k<=128/\∀j<k,(h.b (127 - j) && c.care.b (127 - j))=c.value.b (127 - j)) (fun k=>128 - k) 0 ⟨Nat.zero_le _,fun j hj=>absurd hj (Nat.not_lt_zero j)⟩ jW jW fun k hk=>?_
  obtain ⟨hk,hg⟩:=hk
  refine jA ?_
  refine AW.cond rfl (fun h'=>?_) (fun h'=>?_)
  · have h' : k < 128 := by
      have:=of_decide_eq_true h'
      rw [textOf_len] at this
      omega
    have hm:(128:Nat)<=9223372036854775807:=by decide
    have hw:=w127 k h'
    have h7:127 - k<128:=by omega
    have hget:=textOf_get c k h'
    have hsk:=(Cb.sound_iff c).1 hs (127 - k)
    have fin:(h.b (127 - k) && c.care.b (127 - k))=c.value.b (127 - k)->∀j<k+1,(h.b (127 - j) && c.care.b (127 - j))=c.value.b (127 - j):=fun H j hj=>by
      by_cases e:j=k
      · rw [e];exact H
      · exact hg j (by omega)
    have hno:=has_bits c h (127 - k)
    rw [sgn] at hget
    revert hget hsk fin hno
    cases hc:c.care.b (127 - k)
    · cases hv:c.value.b (127 - k)
      · intro hget hsk fin hno
        refine jA ?_
        refine RG.opS rfl (op_indexS rfl (tk rfl) rfl rfl rfl hget) rfl ?_
        refine wH rfl ?_
        refine RG.opS rfl (op_indexS rfl (tk rfl) rfl rfl rfl hget) rfl ?_
        refine wH rfl ?_;refine jA ?_;refine AW.condF rfl ?_;refine jA ?_
        exact ⟨k+1,⟨⟨h',fin (Bool.and_false _)⟩,by omega⟩,jV,jW⟩
      · intro hget hsk fin hno
        cases hsk
    · cases hv:c.value.b (127 - k)
      · intro hget hsk fin hno
        refine jA ?_
        refine RG.opS rfl (op_indexS rfl (tk rfl) rfl rfl rfl hget) rfl ?_
        refine wH rfl ?_
        refine RG.opS rfl (op_indexS rfl (tk rfl) rfl rfl rfl hget) rfl ?_
        refine RG.runO ty_ok 0 [(33,.i .i64 (127 - k:Nat))] 400 rfl jD ?_
        cases hb:h.b (127 - k)
        · refine RG.opS rfl (op_addrB (127 - k) h7 rfl ti158_ok rfl (tk rfl) rfl rfl rfl rfl) rfl ?_;refine RG.opS rfl (op_loadBv (127 - k) h7 hb rfl (tk rfl) rfl rfl rfl) rfl ?_
          refine wH rfl ?_;refine jA ?_;refine AW.condF rfl ?_;refine jA ?_
          exact ⟨k+1,⟨⟨h',fin (by rw [hb];rfl)⟩,by omega⟩,jV,jW⟩
        · refine RG.opS rfl (op_addrB (127 - k) h7 rfl ti158_ok rfl (tk rfl) rfl rfl rfl rfl) rfl ?_;refine RG.opS rfl (op_loadBv (127 - k) h7 hb rfl (tk rfl) rfl rfl rfl) rfl ?_
          refine wH rfl ?_;refine jA ?_;refine AW.condT rfl ?_;refine jA ?_
          refine AW.ret (retQA ty_ok rfl rfl rfl ?_)
          rw [hno (by rw [hb];simp)]
          rfl
      · intro hget hsk fin hno
        refine jA ?_
        refine RG.opS rfl (op_indexS rfl (tk rfl) rfl rfl rfl hget) rfl ?_
        refine RG.runO ty_ok 0 [(21,.i .i64 (127 - k:Nat))] 400 rfl jD ?_
        cases hb:h.b (127 - k)
        · refine RG.opS rfl (op_addrB (127 - k) h7 rfl ti158_ok rfl (tk rfl) rfl rfl rfl rfl) rfl ?_;refine RG.opS rfl (op_loadBv (127 - k) h7 hb rfl (tk rfl) rfl rfl rfl) rfl ?_
          refine wH rfl ?_;refine jA ?_;refine AW.condT rfl ?_;refine jA ?_
          refine AW.ret (retQA ty_ok rfl rfl rfl ?_)
          rw [hno (by rw [hb];simp)]
          rfl
        · refine RG.opS rfl (op_addrB (127 - k) h7 rfl ti158_ok rfl (tk rfl) rfl rfl rfl rfl) rfl ?_;refine RG.opS rfl (op_loadBv (127 - k) h7 hb rfl (tk rfl) rfl rfl rfl) rfl ?_
          refine wH rfl ?_
          refine RG.opS rfl (op_indexS rfl (tk rfl) rfl rfl rfl hget) rfl ?_
          refine wH rfl ?_;refine jA ?_;refine AW.condF rfl ?_;refine jA ?_
          exact ⟨k+1,⟨⟨h',fin (by rw [hb];rfl)⟩,by omega⟩,jV,jW⟩
  · have h' : ¬ k < 128 := by
      have:=of_decide_eq_false h'
      rw [textOf_len] at this
      omega
    obtain rfl:k=128:=by omega
    have e:c.has h=true:=by
      rw [Cb.has_iff]
      intro i
      by_cases hi:i<128
      · have:=hg (127 - i) (by omega)
        rw [show 127 - (127 - i)=i by omega] at this
        exact this
      · rw [Hd.b_hi _ _ (by omega),Hd.b_hi _ _ (by omega),Hd.b_hi _ _ (by omega)];rfl
    rw [e]
    refine jA ?_
    refine jE ?_;refine jA ?_
    refine AW.ret (retQA ty_ok rfl rfl rfl ?_)
    rfl
end Go.Proofs.YtoaibdbehlcnfaaGreat.Sm
end
section
namespace Go.Proofs.YtoaibdbehlcnfaaGreat.Sm
open Go.RowKit
theorem d_TSound (t:List (List Rl)) (ports:List Pt):PDoes Tryz.prog 137 [.sl (t.map cRls),.sl (ports.map cPt)] (.i .i64 (tabSound t ports)):=by
  refine PDoes.of_bodyN Tryz.func137 rfl (by kernel_rfl) rfl rfl ?_
  have hlen:(t.map cRls).length=t.length:=List.length_map ..
  refine jB ?_;refine wF ?_;refine wH rfl ?_;refine jB ?_
  refine AW.text ?_
  by_cases h1:(((t.map cRls).length:Nat):Int)=0
  · refine RG.runO ty_ok 0 [(14,.b true)] 400 rfl jD ?_
    refine wH rfl ?_;refine jA ?_;refine AW.condT rfl ?_;refine jA ?_
    refine AW.ret (retQA ty_ok rfl rfl rfl ?_)
    rw [tabSound,if_pos (by omega)]
    rfl
  · by_cases h2:(((t.map cRls).length:Nat):Int)>3
    · refine RG.runO ty_ok 0 [(14,.b false),(18,.b true)] 400 rfl jD ?_
      refine wH rfl ?_;refine jA ?_;refine AW.condT rfl ?_;refine jA ?_
      refine AW.ret (retQA ty_ok rfl rfl rfl ?_)
      rw [tabSound,if_pos (by omega)]
      rfl
    · refine RG.runO ty_ok 0 [(14,.b false),(18,.b false)] 400 rfl jD ?_
      refine wH rfl ?_;refine jA ?_;refine AW.condF rfl ?_;refine jA ?_
      refine AW.lens 20 rfl fun hm=>?_
      rw [hlen] at hm
      refine AW.loopL (ι:=Nat × Int) (fun i=>[(0,.sl (t.map cRls)),(1,.sl (ports.map cPt)),(4,.i .i64 0),(5,.i .i64 i.2),(20,.sl (t.map cRls)),(21,.i .i64 (t.map cRls).length),(22,.i .i64 (i.1:Nat))]) (fun _=>[]) (fun i=>i.1<=t.length/\countT (t.drop i.1) i.2=countT t 0) (fun i=>t.length - i.1) (0,0) ⟨Nat.zero_le _,rfl⟩ jW trivial fun i hi=>?_
      obtain ⟨k,n⟩:=i
      obtain ⟨hk,hf⟩:=hi
      simp only at hk hf
      refine jA ?_
      refine AW.cond rfl (fun h=>?_) (fun h=>?_)
      · have h:k<t.length:=by simpa using h
        rw [List.drop_eq_getElem_cons h,countT] at hf
        refine jA ?_
        refine RG.opS rfl (op_index rfl (tk rfl) rfl (tk rfl) rfl rfl (show (t.map cRls)[k]?=some (cRls t[k]) by rw [List.getElem?_map,List.getElem?_eq_getElem (by assumption)];rfl) rfl) rfl ?_
        refine wH rfl ?_;refine jA ?_
        exact ⟨(k+1,IntKind.i64.wrap (n+((t[k].map cRl).length:Nat))),⟨⟨h,by rw [List.length_map];exact hf⟩,by show t.length - (k+1)<t.length - k;omega⟩,jV,trivial⟩
      have h:¬k<t.length:=by simpa using h
      obtain rfl:k=t.length:=by omega
      rw [List.drop_length] at hf
      refine jA ?_
      refine jE ?_;refine jA ?_
      refine AW.cond rfl (fun hc=>?_) (fun hc=>?_)
      · have hc:n>96:=of_decide_eq_true hc
        refine jA ?_
        refine AW.ret (retQA ty_ok rfl rfl rfl ?_)
        rw [tabSound,if_neg (by omega),<- hf,countT,if_pos hc]
        rfl
      have hc:¬n>96:=of_decide_eq_false hc
      have e1:tabSound t ports=if tablesOk t.length ports 0 t then 0 else 2:=by rw [tabSound,if_neg (by omega),<- hf,countT,if_neg hc]
      refine jA ?_
      refine AW.loopL (ι:=Nat) (fun k=>[(0,.sl (t.map cRls)),(1,.sl (ports.map cPt)),(33,.sl (t.map cRls)),(34,.i .i64 (t.map cRls).length),(35,.i .i64 (k:Nat))]) (fun _=>[]) (fun k=>k<=t.length/\tablesOk t.length ports k (t.drop k)=tablesOk t.length ports 0 t) (fun k=>t.length - k) 0 ⟨Nat.zero_le _,rfl⟩ jW trivial fun k hk=>?_
      obtain ⟨hk,hg⟩:=hk
      refine jA ?_
      refine AW.cond rfl (fun h=>?_) (fun h=>?_)
      · have h:k<t.length:=by simpa using h
        rw [List.drop_eq_getElem_cons h,tablesOk] at hg
        refine jA ?_
        refine RG.opS rfl (op_index rfl (tk rfl) rfl (tk rfl) rfl rfl (show (t.map cRls)[k]?=some (cRls t[k]) by rw [List.getElem?_map,List.getElem?_eq_getElem (by assumption)];rfl) rfl) rfl ?_
        refine wH rfl ?_;refine jA ?_
        generalize hl:t[k]=l at hg
        refine AW.lens 40 rfl fun hml=>?_
        rw [List.length_map] at hml
        refine AW.loopL (ι:=Nat) (fun j=>[(0,.sl (t.map cRls)),(1,.sl (ports.map cPt)),(8,.i .i64 (k:Nat)),(33,.sl (t.map cRls)),(34,.i .i64 (t.map cRls).length),(35,.i .i64 (k:Nat)),(40,.sl (l.map cRl)),(41,.i .i64 (l.map cRl).length),(42,.i .i64 (j:Nat))]) (fun _=>[]) (fun j=>j<=l.length/\(bif rulesOk k t.length ports (l.drop j) then tablesOk t.length ports (k+1) (t.drop (k+1)) else false)=tablesOk t.length ports 0 t) (fun j=>l.length - j) 0 ⟨Nat.zero_le _,hg⟩ jW trivial fun j hj=>?_
        clear hg
        obtain ⟨hj,hg⟩:=hj
        refine jA ?_
        refine AW.cond rfl (fun h'=>?_) (fun h'=>?_)
        · have h':j<l.length:=by simpa using h'
          rw [List.drop_eq_getElem_cons h',rulesOk] at hg
          refine jA ?_
          refine RG.opS rfl (op_index rfl (tk rfl) rfl (tk rfl) rfl rfl (show (l.map cRl)[j]?=some (cRl l[j]) by rw [List.getElem?_map,List.getElem?_eq_getElem (by assumption)];rfl) rfl) rfl ?_
          refine wH rfl ?_;refine jA ?_
          cases hq:l[j].sound k ports
          · refine RG.callS rfl rfl rfl rfl rfl (d_RSound l[j] k ports _ hq) rfl rfl ?_;refine wH rfl ?_;refine jA ?_
            refine AW.condT rfl ?_;refine jA ?_
            refine AW.ret (retQA ty_ok rfl rfl rfl ?_)
            rw [hq] at hg
            rw [e1,<- hg]
            rfl
          · refine RG.callS rfl rfl rfl rfl rfl (d_RSound l[j] k ports _ hq) rfl rfl ?_;refine wH rfl ?_;refine jA ?_
            rw [hq,Bool.true_and] at hg
            refine AW.cond rfl (fun hr=>?_) (fun hr=>?_)
            · have hr:l[j].act.table>=(((t.map cRls).length:Nat):Int):=of_decide_eq_true hr
              rw [decide_eq_false (by omega)] at hg
              refine jA ?_
              refine AW.ret (retQA ty_ok rfl rfl rfl ?_)
              rw [e1,<- hg]
              rfl
            · have hr:¬l[j].act.table>=(((t.map cRls).length:Nat):Int):=of_decide_eq_false hr
              rw [decide_eq_true (by omega)] at hg
              refine jA ?_
              exact ⟨j+1,⟨⟨h',hg⟩,by omega⟩,jV,trivial⟩
        · have h':¬j<l.length:=by simpa using h'
          obtain rfl:j=l.length:=by omega
          rw [List.drop_length,rulesOk] at hg
          refine jA ?_
          refine jE ?_;refine jA ?_
          exact ⟨k+1,⟨⟨h,hg⟩,by omega⟩,jV,trivial⟩
      · have h:¬k<t.length:=by simpa using h
        obtain rfl:k=t.length:=by omega
        rw [List.drop_length] at hg
        refine jA ?_
        refine jE ?_;refine jA ?_
        refine AW.ret (retQA ty_ok rfl rfl rfl ?_)
        rw [e1,<- hg]
        rfl
theorem getD_at {α:Type} {l:List α} {n:Nat} {x d:α} (h:l[n]?=some x):l.getD n d=x:=by rw [List.getD_eq_getElem?_getD,h];rfl
theorem d_TPort (t:List (List Pt)) (n a:Nat) (r:List Pt) (p:Pt) (hr:t[n]?=some r) (hp:r[a]?=some p) (q:Bool) (hq:portOk t n a p=q):PDoes Tryz.prog 179 [.agg (cTopo ⟨t⟩),.i .i64 n,.i .i64 a] (.b q):=by
  subst hq
  refine PDoes.of_bodyN Tryz.func179 rfl (by kernel_rfl) rfl rfl ?_
  have hlen:(t.map cPts).length=t.length:=List.length_map ..
  refine jA ?_
  refine RG.opS rfl (op_index rfl (tk rfl) rfl (tk rfl) rfl rfl (show (t.map cPts)[n]?=some (cPts r) by rw [List.getElem?_map,hr];rfl) rfl) rfl ?_
  refine wH rfl ?_
  refine RG.opS rfl (op_index rfl (tk rfl) rfl (tk rfl) rfl rfl (show (r.map cPt)[a]?=some (cPt p) by rw [List.getElem?_map,hp];rfl) rfl) rfl ?_
  refine wH rfl ?_;refine jA ?_
  refine AW.cond rfl (fun h0=>?_) (fun h0=>?_)
  · have h0:p.kind=0:=of_decide_eq_true h0
    refine jA ?_
    refine RG.opS rfl (op_eqG rfl ty_ok (by kernel_rfl) (by kernel_rfl) rfl rfl (eq_Pt p Pt.zero) rfl) rfl ?_
    refine wH rfl ?_;refine jA ?_
    refine AW.ret (retQA ty_ok rfl rfl rfl ?_)
    exact congrArg AV.b (by rw [portOk,if_pos h0])
  have h0:¬p.kind=0:=of_decide_eq_false h0
  refine jA ?_
  refine AW.cond rfl (fun h1=>?_) (fun h1=>?_)
  · have h1:p.kind=1:=of_decide_eq_true h1
    refine jB ?_
    refine AW.text ?_
    refine wH rfl ?_
    by_cases g1:p=⟨1,p.tenant,0,0,0⟩
    · refine RG.opS rfl (op_eqG rfl ty_ok (by kernel_rfl) (by kernel_rfl) rfl rfl (eq_Pt p ⟨1,p.tenant,0,0,0⟩) (decide_eq_true g1)) rfl ?_
      by_cases q1:p.tenant>=0
      · refine RG.runO ty_ok 0 [(34,.b true)] 400 rfl jD ?_
        refine jB ?_
        refine AW.ret (retQA ty_ok rfl rfl rfl ?_)
        exact congrArg AV.b (by rw [portOk,if_neg h0,if_pos h1,decide_eq_true g1,Bool.true_and,decide_eq_true (show 0<=p.tenant from q1)];rfl)
      · refine RG.runO ty_ok 0 [(34,.b false)] 400 rfl jD ?_
        refine jB ?_
        refine AW.ret (retQA ty_ok rfl rfl rfl ?_)
        exact congrArg AV.b (by rw [portOk,if_neg h0,if_pos h1,decide_eq_false (show ¬0<=p.tenant from q1),Bool.false_and,Bool.and_false])
    · refine RG.opS rfl (op_eqG rfl ty_ok (by kernel_rfl) (by kernel_rfl) rfl rfl (eq_Pt p ⟨1,p.tenant,0,0,0⟩) (decide_eq_false g1)) rfl ?_
      refine wH rfl ?_;refine jA ?_
      refine AW.ret (retQA ty_ok rfl rfl rfl ?_)
      exact congrArg AV.b (by rw [portOk,if_neg h0,if_pos h1,decide_eq_false g1];rfl)
  have h1:¬p.kind=1:=of_decide_eq_false h1
  refine jA ?_
  refine AW.cond rfl (fun h2=>?_) (fun h2=>?_)
  · have h2:p.kind=2:=of_decide_eq_true h2
    have e0:portOk t n a p=linkOk t n a p:=by rw [portOk,if_neg h0,if_neg h1,if_pos h2]
    refine jB ?_
    refine AW.text ?_
    by_cases g1:p.tenant=0
    · by_cases g2:p.cost<1
      · refine RG.runO ty_ok 0 [(45,.b false),(49,.b true)] 400 rfl jD ?_
        refine wH rfl ?_;refine jA ?_;refine AW.condT rfl ?_;refine jA ?_
        refine AW.ret (retQA ty_ok rfl rfl rfl ?_)
        rw [e0]
        exact congrArg AV.b (by rw [hlen] at *;simp [linkOk];omega)
      · by_cases g3:p.cost>1000
        · refine RG.runO ty_ok 0 [(45,.b false),(49,.b false),(54,.b true)] 400 rfl jD ?_
          refine wH rfl ?_;refine jA ?_;refine AW.condT rfl ?_;refine jA ?_
          refine AW.ret (retQA ty_ok rfl rfl rfl ?_)
          rw [e0]
          exact congrArg AV.b (by rw [hlen] at *;simp [linkOk];omega)
        · by_cases g4:p.peer<0
          · refine RG.runO ty_ok 0 [(45,.b false),(49,.b false),(54,.b false),(59,.b true)] 400 rfl jD ?_
            refine wH rfl ?_;refine jA ?_;refine AW.condT rfl ?_;refine jA ?_
            refine AW.ret (retQA ty_ok rfl rfl rfl ?_)
            rw [e0]
            exact congrArg AV.b (by rw [hlen] at *;simp [linkOk];omega)
          · by_cases g5:p.peer>=(((t.map cPts).length:Nat):Int)
            · refine RG.runO ty_ok 0 [(45,.b false),(49,.b false),(54,.b false),(59,.b false),(67,.b true)] 400 rfl jD ?_
              refine wH rfl ?_;refine jA ?_;refine AW.condT rfl ?_;refine jA ?_
              refine AW.ret (retQA ty_ok rfl rfl rfl ?_)
              rw [e0]
              exact congrArg AV.b (by rw [hlen] at *;simp [linkOk];omega)
            · by_cases g6:p.peer=(n:Int)
              · refine RG.runO ty_ok 0 [(45,.b false),(49,.b false),(54,.b false),(59,.b false),(67,.b false),(73,.b true)] 400 rfl jD ?_
                refine wH rfl ?_;refine jA ?_;refine AW.condT rfl ?_;refine jA ?_
                refine AW.ret (retQA ty_ok rfl rfl rfl ?_)
                rw [e0]
                exact congrArg AV.b (by rw [hlen] at *;simp [linkOk];omega)
              · refine RG.runO ty_ok 0 [(45,.b false),(49,.b false),(54,.b false),(59,.b false),(67,.b false),(73,.b false)] 400 rfl jD ?_
                refine wH rfl ?_;refine jB ?_;refine AW.condF rfl ?_;refine jB ?_
                obtain ⟨m,hm⟩:=Int.eq_ofNat_of_zero_le (show 0<=p.peer by omega)
                have hml:m<t.length:=by omega
                refine AW.text ?_
                refine RG.runO ty_ok 0 [(78,.i .i64 (m:Nat))] 400 rfl jD ?_
                refine RG.opS rfl (op_index rfl (tk rfl) rfl (tk rfl) rfl rfl (show (t.map cPts)[m]?=some (cPts t[m]) by rw [List.getElem?_map,List.getElem?_eq_getElem (by assumption)];rfl) rfl) rfl ?_
                refine wH rfl ?_;refine jB ?_
                have hl2:(t[m].map cPt).length=t[m].length:=List.length_map ..
                have e1:t.getD p.peer.toNat []=t[m]:=by rw [hm,Int.toNat_natCast];exact getD_at (List.getElem?_eq_getElem hml)
                have e2:portOk t n a p=(decide (0<=p.at_) && (decide (p.at_<t[m].length) && decide (t[m].getD p.at_.toNat Pt.zero=⟨2,0,n,a,p.cost⟩))):=by
                  rw [e0,linkOk,e1]
                  rw [hlen] at *
                  rw [decide_eq_true (by omega),decide_eq_true (by omega),decide_eq_true (by omega),decide_eq_true (by omega),decide_eq_true (by omega),decide_eq_true (show p.peer≠n by omega)]
                  simp only [Bool.true_and]
                refine AW.draws mixed_ok ?_
                by_cases q1:p.at_>=0
                · obtain ⟨b,hb⟩:=Int.eq_ofNat_of_zero_le q1
                  by_cases q2:p.at_<(((t[m].map cPt).length:Nat):Int)
                  · have hbl:b<t[m].length:=by omega
                    refine RG.runO ty_ok 0 [(83,.b true),(89,.b true),(94,.i .i64 (b:Nat))] 400 rfl jD ?_
                    refine RG.opS rfl (op_index rfl (tk rfl) rfl (tk rfl) rfl rfl (show (t[m].map cPt)[b]?=some (cPt t[m][b]) by simp [*]) rfl) rfl ?_
                    refine wH rfl ?_
                    refine RG.opS rfl (op_eqG rfl ty_ok (by kernel_rfl) (by kernel_rfl) rfl rfl (eq_Pt t[m][b] ⟨2,0,n,a,p.cost⟩) rfl) rfl ?_
                    refine wH rfl ?_;refine jA ?_
                    refine AW.ret (retQA ty_ok rfl rfl rfl ?_)
                    exact congrArg AV.b (by rw [e2,decide_eq_true (show 0<=p.at_ from q1),decide_eq_true (show p.at_<t[m].length by omega),hb,Int.toNat_natCast,getD_at (List.getElem?_eq_getElem hbl)];rfl)
                  · refine RG.runO ty_ok 0 [(83,.b true),(89,.b false)] 400 rfl jD ?_
                    refine wH rfl ?_;refine jA ?_
                    refine AW.ret (retQA ty_ok rfl rfl rfl ?_)
                    exact congrArg AV.b (by rw [e2,decide_eq_false (show ¬p.at_<t[m].length by omega),Bool.false_and,Bool.and_false])
                · refine RG.runO ty_ok 0 [(83,.b false)] 400 rfl jD ?_
                  refine wH rfl ?_;refine jA ?_
                  refine AW.ret (retQA ty_ok rfl rfl rfl ?_)
                  exact congrArg AV.b (by rw [e2,decide_eq_false (show ¬0<=p.at_ by omega),Bool.false_and])
    · refine RG.runO ty_ok 0 [(45,.b true)] 400 rfl jD ?_
      refine wH rfl ?_;refine jA ?_;refine AW.condT rfl ?_;refine jA ?_
      refine AW.ret (retQA ty_ok rfl rfl rfl ?_)
      rw [e0]
      exact congrArg AV.b (by rw [hlen] at *;simp [linkOk];omega)
  have h2:¬p.kind=2:=of_decide_eq_false h2
  refine jA ?_
  refine AW.ret (retQA ty_ok rfl rfl rfl ?_)
  exact congrArg AV.b (by simp [portOk, *])
theorem d_TopSound (t:List (List Pt)):PDoes Tryz.prog 134 [.agg (cTopo ⟨t⟩)] (.i .i64 (topoSound t)):=by
  refine PDoes.of_bodyN Tryz.func134 rfl (by kernel_rfl) rfl rfl ?_
  have hlen:(t.map cPts).length=t.length:=List.length_map ..
  refine jB ?_;refine wF ?_;refine wH rfl ?_;refine jB ?_
  refine AW.text ?_
  by_cases h1:(((t.map cPts).length:Nat):Int)=0
  · refine RG.runO ty_ok 0 [(11,.b true)] 400 rfl jD ?_
    refine wH rfl ?_;refine jA ?_;refine AW.condT rfl ?_;refine jA ?_
    refine AW.ret (retQA ty_ok rfl rfl rfl ?_)
    rw [topoSound,if_pos (by omega)]
    rfl
  · by_cases h2:(((t.map cPts).length:Nat):Int)>6
    · refine RG.runO ty_ok 0 [(11,.b false),(16,.b true)] 400 rfl jD ?_
      refine wH rfl ?_;refine jA ?_;refine AW.condT rfl ?_;refine jA ?_
      refine AW.ret (retQA ty_ok rfl rfl rfl ?_)
      rw [topoSound,if_pos (by omega)]
      rfl
    · refine RG.runO ty_ok 0 [(11,.b false),(16,.b false)] 400 rfl jD ?_
      refine wH rfl ?_;refine jA ?_;refine AW.condF rfl ?_;refine jA ?_
      have e1:topoSound t=if rowFits t then (if rowsOk t 0 t then 0 else 2) else 4:=by rw [topoSound,if_neg (by omega)]
      refine AW.loopL (ι:=Nat) (fun k=>[(1,.own 1 0 0),(19,.sl (t.map cPts)),(20,.i .i64 (t.map cPts).length),(21,.i .i64 (k:Nat))]) (fun _=>[(1,⟨0,some (.box 24 (cTopo ⟨t⟩))⟩)]) (fun k=>k<=t.length/\rowFits (t.drop k)=rowFits t) (fun k=>t.length - k) 0 ⟨Nat.zero_le _,rfl⟩ jW jW fun k hk=>?_
      obtain ⟨hk,hg⟩:=hk
      refine jA ?_
      refine AW.cond rfl (fun h=>?_) (fun h=>?_)
      · have h:k<t.length:=by simpa using h
        have hm:t.length<=6:=by omega
        rw [List.drop_eq_getElem_cons h,rowFits] at hg
        refine jA ?_
        refine RG.opS rfl (op_index rfl (tk rfl) rfl (tk rfl) rfl rfl (show (t.map cPts)[k]?=some (cPts t[k]) by rw [List.getElem?_map,List.getElem?_eq_getElem (by assumption)];rfl) rfl) rfl ?_
        refine wH rfl ?_;refine jA ?_
        refine AW.cond rfl (fun h'=>?_) (fun h'=>?_)
        · have h':(((t[k].map cPt).length:Nat):Int)>6:=of_decide_eq_true h'
          rw [List.length_map] at h'
          rw [decide_eq_true (by omega),cond_true] at hg
          refine jA ?_
          refine AW.ret (retQA ty_ok rfl rfl rfl ?_)
          rw [e1,<- hg]
          rfl
        · have h':¬(((t[k].map cPt).length:Nat):Int)>6:=of_decide_eq_false h'
          rw [List.length_map] at h'
          rw [decide_eq_false (by omega),cond_false] at hg
          refine jA ?_
          have hm:t.length<=9223372036854775807:=by omega
          exact ⟨k+1,⟨⟨h,hg⟩,by omega⟩,jV,jW⟩
      have h:¬k<t.length:=by simpa using h
      obtain rfl:k=t.length:=by omega
      rw [List.drop_length,rowFits] at hg
      rw [<- hg,if_pos rfl] at e1
      refine jA ?_
      refine jE ?_;refine jA ?_
      refine AW.loopL (ι:=Nat) (fun k=>[(1,.own 1 0 0),(30,.sl (t.map cPts)),(31,.i .i64 (t.map cPts).length),(32,.i .i64 (k:Nat))]) (fun _=>[(1,⟨0,some (.box 24 (cTopo ⟨t⟩))⟩)]) (fun k=>k<=t.length/\rowsOk t k (t.drop k)=rowsOk t 0 t) (fun k=>t.length - k) 0 ⟨Nat.zero_le _,rfl⟩ jW jW fun k hk=>?_
      clear hg
      obtain ⟨hk,hg⟩:=hk
      refine jA ?_
      refine AW.cond rfl (fun h=>?_) (fun h=>?_)
      · have h:k<t.length:=by simpa using h
        have hm:t.length<=9223372036854775807:=by omega
        rw [List.drop_eq_getElem_cons h,rowsOk] at hg
        refine jA ?_
        refine RG.opS rfl (op_index rfl (tk rfl) rfl (tk rfl) rfl rfl (show (t.map cPts)[k]?=some (cPts t[k]) by rw [List.getElem?_map,List.getElem?_eq_getElem (by assumption)];rfl) rfl) rfl ?_
        refine wH rfl ?_;refine jA ?_
        have hr:t[k]?=some t[k]:=List.getElem?_eq_getElem h
        generalize t[k]=r at hg hr
        refine AW.lens 37 rfl fun hml=>?_
        rw [List.length_map] at hml
        refine AW.loopL (ι:=Nat) (fun j=>[(1,.own 1 0 0),(5,.i .i64 (k:Nat)),(30,.sl (t.map cPts)),(31,.i .i64 (t.map cPts).length),(32,.i .i64 (k:Nat)),(37,.sl (r.map cPt)),(38,.i .i64 (r.map cPt).length),(39,.i .i64 (j:Nat))]) (fun _=>[(1,⟨0,some (.box 24 (cTopo ⟨t⟩))⟩)]) (fun j=>j<=r.length/\(bif rowOk t k j (r.drop j) then rowsOk t (k+1) (t.drop (k+1)) else false)=rowsOk t 0 t) (fun j=>r.length - j) 0 ⟨Nat.zero_le _,hg⟩ jW jW fun j hj=>?_
        clear hg
        obtain ⟨hj,hg⟩:=hj
        refine jA ?_
        refine AW.cond rfl (fun h'=>?_) (fun h'=>?_)
        · have h':j<r.length:=by simpa using h'
          rw [List.drop_eq_getElem_cons h',rowOk] at hg
          refine jA ?_
          cases hq:portOk t k j r[j]
          · refine RG.callS rfl rfl rfl rfl rfl (d_TPort t k j r r[j] hr (List.getElem?_eq_getElem h') _ hq) rfl rfl ?_;refine wH rfl ?_;refine jA ?_
            rw [hq] at hg
            refine AW.condT rfl ?_;refine jA ?_
            refine AW.ret (retQA ty_ok rfl rfl rfl ?_)
            rw [e1,<- hg]
            rfl
          · refine RG.callS rfl rfl rfl rfl rfl (d_TPort t k j r r[j] hr (List.getElem?_eq_getElem h') _ hq) rfl rfl ?_;refine wH rfl ?_;refine jA ?_
            rw [hq] at hg
            refine AW.condF rfl ?_;refine jA ?_
            exact ⟨j+1,⟨⟨h',hg⟩,by omega⟩,jV,jW⟩
        · have h':¬j<r.length:=by simpa using h'
          obtain rfl:j=r.length:=by omega
          rw [List.drop_length,rowOk] at hg
          refine jA ?_
          refine jE ?_;refine jA ?_
          exact ⟨k+1,⟨⟨h,hg⟩,by omega⟩,jV,jW⟩
      · have h:¬k<t.length:=by simpa using h
        obtain rfl:k=t.length:=by omega
        rw [List.drop_length] at hg
        refine jA ?_
        refine jE ?_;refine jA ?_
        refine AW.ret (retQA ty_ok rfl rfl rfl ?_)
        rw [e1,<- hg]
        rfl
end Go.Proofs.YtoaibdbehlcnfaaGreat.Sm
end
