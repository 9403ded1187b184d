/- Contracts of the program's functions over data, and the plain laws that they meet (part 1). No condition. -/
import Derived.WalkKit
import Derived.WalkSpells
import Derived.WalkLawsBesides
import Derived.Lib.Hide
import Derived.Deep.RegionHeld3
import Derived.Maps.AppendAt
import Derived.KernelRfl
import Derived.Lib.AppendStr
import Derived.Orders
import Derived.LoopTactic
import Derived.Laws.CopyRow
import Derived.Laws.Cells
import Derived.OrdersIn
import Derived.Laws.Externs
import Derived.TacticsIn
import Derived.RangeFuncLeaves
import Derived.RangeFuncRecord
namespace Go.Proofs.YtdidjpohnopihaaGreat
open Go
theorem kA0:type_of% @IntKind.wrap_i64:=@IntKind.wrap_i64
theorem kA1:type_of% @Result.andThen_ok:=@Result.andThen_ok
theorem kA2:type_of% @Sem.run_bind:=@Sem.run_bind
theorem kA3:type_of% @Sem.run_pure:=@Sem.run_pure
theorem kA4:type_of% @Lib.hid:=@Lib.hid
theorem kA5:type_of% @heap_alloc_new:=@heap_alloc_new
theorem kA6:type_of% @block_lt_of_cell:=@block_lt_of_cell
theorem kA7:type_of% @World.cell?_of_block:=@World.cell?_of_block
theorem kA8:type_of% @setRow_heap:=@setRow_heap
theorem kA9:type_of% @run_underlying:=@run_underlying
theorem kB0:type_of% @cell_of_row:=@cell_of_row
theorem kB1:type_of% @wpList_plain:=@wpList_plain
theorem kB2:type_of% @Nat.mod_lt:=@Nat.mod_lt
theorem kB3:type_of% @Nat.min_eq_left:=@Nat.min_eq_left
end Go.Proofs.YtdidjpohnopihaaGreat
namespace Go.Proofs.YtdidjpohnopihaaGreat
theorem qA:type_of% @List.getElem?_eq_getElem:=@List.getElem?_eq_getElem
theorem qB:type_of% @Option.some.inj:=@Option.some.inj
theorem qC:type_of% @decide_eq_false:=@decide_eq_false
theorem qD:type_of% @List.getElem?_eq_some_iff:=@List.getElem?_eq_some_iff
theorem qE:type_of% @decide_eq_true:=@decide_eq_true
theorem qF:type_of% @List.getElem?_map:=@List.getElem?_map
theorem qG:type_of% @List.length_map:=@List.length_map
theorem qH:type_of% @Int.ofNat_eq_natCast:=@Int.ofNat_eq_natCast
theorem qI:type_of% @Array.getElem?_eq_some_iff:=@Array.getElem?_eq_some_iff
theorem qJ:type_of% @Nat.le_refl:=@Nat.le_refl
theorem qK:type_of% @List.length_append:=@List.length_append
theorem qL:type_of% @Array.length_toList:=@Array.length_toList
theorem qM:type_of% @List.getD_eq_getElem?_getD:=@List.getD_eq_getElem?_getD
theorem qN:type_of% @List.mem_of_getElem?:=@List.mem_of_getElem?
theorem qO:type_of% @List.exists_cons_of_length_pos:=@List.exists_cons_of_length_pos
theorem qP:type_of% @List.mem_singleton:=@List.mem_singleton
theorem qQ:type_of% @Bool.and_eq_true:=@Bool.and_eq_true
theorem qR:type_of% @Nat.zero_le:=@Nat.zero_le
theorem qS:type_of% @List.length_cons:=@List.length_cons
theorem qT:type_of% @List.drop_eq_getElem_cons:=@List.drop_eq_getElem_cons
theorem qU:type_of% @Option.some.injEq:=@Option.some.injEq
theorem qV:type_of% @List.all_eq_true:=@List.all_eq_true
theorem qW:type_of% @Nat.le_of_ble_eq_true:=@Nat.le_of_ble_eq_true
theorem qX:type_of% @List.mem_map_of_mem:=@List.mem_map_of_mem
theorem qY:type_of% @Nat.eq_of_beq_eq_true:=@Nat.eq_of_beq_eq_true
theorem qZ:type_of% @List.mem_cons_of_mem:=@List.mem_cons_of_mem
theorem vA:type_of% @List.mem_cons:=@List.mem_cons
theorem vB:type_of% @List.mem_append:=@List.mem_append
theorem vC:type_of% @Prod.mk.injEq:=@Prod.mk.injEq
theorem vD:type_of% @List.mem_cons_self:=@List.mem_cons_self
theorem vE:type_of% @List.map_cons:=@List.map_cons
theorem vF:type_of% @List.length_set:=@List.length_set
theorem vG:type_of% @List.length_take:=@List.length_take
theorem vH:type_of% @Nat.le_trans:=@Nat.le_trans
theorem vI:type_of% @List.mem_map:=@List.mem_map
theorem vJ:type_of% @List.drop_length:=@List.drop_length
theorem vK:type_of% @Nat.lt_of_lt_of_le:=@Nat.lt_of_lt_of_le
theorem vL:type_of% @List.take_of_length_le:=@List.take_of_length_le
theorem vM:type_of% @decide_eq_true_eq:=@decide_eq_true_eq
theorem vN:type_of% @Nat.zero_add:=@Nat.zero_add
theorem vO:type_of% @Array.getElem?_toList:=@Array.getElem?_toList
theorem vP:type_of% @List.length_singleton:=@List.length_singleton
theorem vQ:type_of% @Int.toNat_natCast:=@Int.toNat_natCast
theorem vR:type_of% @List.getElem_mem:=@List.getElem_mem
theorem vS:type_of% @List.mem_append_left:=@List.mem_append_left
theorem vT:type_of% @Option.map_eq_some_iff:=@Option.map_eq_some_iff
theorem vU:type_of% @Array.getD_eq_getD_getElem?:=@Array.getD_eq_getD_getElem?
theorem vV:type_of% @List.nodup_cons:=@List.nodup_cons
theorem vW:type_of% @List.length_drop:=@List.length_drop
theorem vX:type_of% @List.getElem?_eq_none:=@List.getElem?_eq_none
theorem vY:type_of% @Option.isSome_iff_exists:=@Option.isSome_iff_exists
theorem vZ:type_of% @List.getElem?_append:=@List.getElem?_append
theorem uA:type_of% @List.append_nil:=@List.append_nil
theorem uB:type_of% @List.map_append:=@List.map_append
theorem uC:type_of% @List.getElem?_drop:=@List.getElem?_drop
theorem uD:type_of% @List.length_eq_zero_iff:=@List.length_eq_zero_iff
theorem uE:type_of% @Bool.true_and:=@Bool.true_and
theorem uF:type_of% @List.getElem?_take:=@List.getElem?_take
theorem uG:type_of% @List.getElem?_toArray:=@List.getElem?_toArray
theorem uH:type_of% @List.size_toArray:=@List.size_toArray
theorem uI:type_of% @Bool.false_and:=@Bool.false_and
theorem uJ:type_of% @List.getElem?_take_of_lt:=@List.getElem?_take_of_lt
theorem uK:type_of% @List.append_assoc:=@List.append_assoc
theorem uL:type_of% @Array.getElem?_eq_getElem:=@Array.getElem?_eq_getElem
theorem uM:type_of% @List.take_length:=@List.take_length
theorem uN:type_of% @List.flatten_cons:=@List.flatten_cons
theorem uO:type_of% @Nat.not_lt_zero:=@Nat.not_lt_zero
theorem uP:type_of% @List.mem_flatten:=@List.mem_flatten
theorem uQ:type_of% @List.nodup_append:=@List.nodup_append
theorem uR:type_of% @List.drop_zero:=@List.drop_zero
theorem uS:type_of% @List.getElem?_cons_succ:=@List.getElem?_cons_succ
theorem uT:type_of% @List.nil_append:=@List.nil_append
theorem uU:type_of% @List.take_append_drop:=@List.take_append_drop
theorem uV:type_of% @List.mem_range:=@List.mem_range
theorem uW:type_of% @List.getElem?_replicate:=@List.getElem?_replicate
theorem uX:type_of% @List.cons_append:=@List.cons_append
theorem uY:type_of% @List.foldl_cons:=@List.foldl_cons
theorem uZ:type_of% @Bool.and_true:=@Bool.and_true
theorem yB:type_of% @List.all_cons:=@List.all_cons
end Go.Proofs.YtdidjpohnopihaaGreat
set_option linter.unusedVariables false
set_option linter.unusedSimpArgs false
set_option maxRecDepth 100000
set_option maxHeartbeats 4000000
section
namespace Go.Proofs.YtdidjpohnopihaaGreat
open Go.RowKit
structure Kp (S:Nat->Prop)(w w':World):Prop where
 os:w'.os=w.os
 tape:w'.tape=w.tape
 output:w'.output=w.output
 size:w.heap.size<=w'.heap.size
 block:∀k,k<w.heap.size->¬S k->w'.heap[k]?=w.heap[k]?
theorem Kp.refl (S:Nat->Prop)(w:World):Kp S w w:=⟨rfl,rfl,rfl,qJ _,fun _ _ _=>rfl⟩
theorem Kp.trans {S:Nat->Prop}{a b c:World}(h:Kp S a b)(k:Kp S b c):Kp S a c :=
 ⟨k.os.trans h.os,k.tape.trans h.tape,k.output.trans h.output,vH h.size k.size,
  fun i hi hn=>(k.block i (vK hi h.size) hn).trans (h.block i hi hn)⟩
theorem Kp.mono {S S':Nat->Prop}{a b:World}(h:Kp S a b)(hs:∀k,k<a.heap.size->S k->S' k):Kp S' a b :=
 ⟨h.os,h.tape,h.output,h.size,fun i hi hn=>h.block i hi fun hs'=>hn (hs i hi hs')⟩
theorem Kp.trans2 {S S':Nat->Prop}{a b c:World}(h:Kp S a b)(k:Kp S' b c)(hs:∀g,g<a.heap.size->S' g->S g):Kp S a c :=
 ⟨k.os.trans h.os,k.tape.trans h.tape,k.output.trans h.output,vH h.size k.size,
  fun i hi hn=>(k.block i (vK hi h.size) (fun h'=>hn (hs i hi h'))).trans (h.block i hi hn)⟩
theorem Kp.drew {S:Nat->Prop}{a w:World}(h:Kp S a w):Kp S a w.drew:=⟨h.os,h.tape,h.output,h.size,h.block⟩
theorem Kp.drewN {S:Nat->Prop}{a w:World}(h:Kp S a w)(n:Nat):Kp S a (w.drewN n):=⟨h.os,h.tape,h.output,h.size,h.block⟩
theorem Kp.alloc {S:Nat->Prop}{a w:World}(h:Kp S a w)(o:Obj):Kp S a (w.alloc o) :=
 h.trans ⟨rfl,rfl,rfl,by simp,fun k hk _=>Below.heap_alloc _ _ _ hk⟩
theorem Kp.setCell {S:Nat->Prop}{a w:World}(h:Kp S a w){p:Addr}(hp:S p.block\/a.heap.size<=p.block)(u:Value):Kp S a (w.setCell p u) :=
 ⟨h.os,h.tape,h.output,by simpa [World.setCell] using h.size,fun k hk hn=>(Below.heap_setCell _ _ _ _ (by
  rintro rfl
  rcases hp with hp|hp
  ·exact hn hp
  ·omega)).trans (h.block k hk hn)⟩
theorem Kp.set1 (w:World)(p i:Nat)(u:Value):Kp (fun b=>b=p) w (w.setCell ⟨p,i,none⟩ u):=(Kp.refl (fun b=>b=p) w).setCell (p:=⟨p,i,none⟩) (.inl rfl) u
theorem Kp.grown {S:Nat->Prop}{a w w':World}{row:Option Nat}(h:Kp S a w)(hg:w.grownBy w' row)(hr:∀k,row=some k->S k\/a.heap.size<=k):Kp S a w' :=
 ⟨hg.os.trans h.os,hg.tape.trans h.tape,hg.output.trans h.output,vH h.size hg.size,fun k hk hn=>(hg.block k (vK hk h.size) (fun e=>by
  rcases hr k e.symm with hp|hp
  ·exact hn hp
  ·omega)).trans (h.block k hk hn)⟩
theorem Kp.below {S:Nat->Prop}{B:Nat}{w w':World}(h:Kp S w w')(hB:B<=w.heap.size)(hs:∀k,k<B->¬S k):Below B w w' :=
 ⟨h.os,h.tape,h.output,h.size,fun k hk=>h.block k (by omega) (hs k hk)⟩
theorem Kp.cell {S:Nat->Prop}{w w':World}(h:Kp S w w'){p:Addr}{u:Value}(hc:w.cell? p=some u)(hp:¬S p.block):w'.cell? p=some u :=
 (kA7 (w:=w) (h.block p.block (World.block_lt_of_cell? w p hc) hp)).trans hc
theorem Kp.heap {S:Nat->Prop}{w w':World}(h:Kp S w w'){b:Nat}{o:Obj}(hc:w.heap[b]?=some o)(hp:¬S b):w'.heap[b]?=some o :=
 (h.block b (qI.1 hc).1 hp).trans hc
def No:Nat->Prop:=fun _=>False
def Or (S:Nat->Prop)(B:Nat):Nat->Prop:=fun b=>S b\/B<=b
theorem aF (b:Nat):¬No b:=id
def eo {α:Type}(r:α->List Value->Prop):List α->List Value->Prop
 |[],cs=>cs=[]
 |x::xs,cs=>∃c1 c2,cs=c1++c2/\r x c1/\eo r xs c2
theorem eo.snoc {α:Type}{r:α->List Value->Prop}:∀{xs:List α} {cs:List Value} {x:α} {c:List Value},eo r xs cs->r x c->eo r (xs++[x]) (cs++c)
 |[],cs,x,c,h,hx=>by
  simp only [eo] at h
  subst h
  exact⟨c,[],by simp,hx,rfl⟩
 |y::ys,cs,x,c,h,hx=>by
  obtain⟨c1,c2,rfl,h1,h2⟩:=h
  exact⟨c1,c2++c,by simp,h1,h2.snoc hx⟩
theorem eo.mono {α:Type}{r r':α->List Value->Prop}(hr:∀x c,r x c->r' x c):∀{xs:List α} {cs:List Value},eo r xs cs->eo r' xs cs
 |[],_,h=>h
 |_::_,_,h=>by
  obtain⟨c1,c2,rfl,h1,h2⟩:=h
  exact⟨c1,c2,rfl,hr _ _ h1,h2.mono hr⟩
theorem eo.length {α:Type}{r:α->List Value->Prop}{n:Nat}(hn:∀x c,r x c->c.length=n):∀{xs:List α} {cs:List Value},eo r xs cs->cs.length=xs.length*n
 |[],_,h=>by
  simp only [eo] at h
  subst h
  simp
 |x::xs,_,h=>by
  obtain⟨c1,c2,rfl,h1,h2⟩:=h
  have e:=h2.length hn
  have e1:=hn _ _ h1
  rw [qK,e,e1,qS,Nat.add_mul,Nat.one_mul,Nat.add_comm]
theorem eo.get {α:Type}{r:α->List Value->Prop}{n:Nat}(hn:∀x c,r x c->c.length=n):∀{xs:List α} {cs:List Value},eo r xs cs->∀{k:Nat} {x:α},xs[k]?=some x ->
  ∃c,r x c/\∀j u,c[j]?=some u->cs[k*n+j]?=some u
 |[],_,_,k,x,hk=>by simp at hk
 |y::ys,_,h,k,x,hk=>by
  obtain⟨c1,c2,rfl,h1,h2⟩:=h
  have e1:=hn _ _ h1
  cases k with
  |zero=>
   obtain rfl:y=x:=by simpa using hk
   refine⟨c1,h1,fun j u hu=>?_⟩
   have hj:j<c1.length:=(qD.1 hu).1
   rw [Nat.zero_mul,vN,List.getElem?_append_left hj,hu]
  |succ k=>
   obtain⟨c,hc,hg⟩:=h2.get hn (k:=k) (x:=x) (by simpa using hk)
   refine⟨c,hc,fun j u hu=>?_⟩
   rw [List.getElem?_append_right (by rw [e1,Nat.add_mul];omega),<- hg j u hu]
   congr 1
   rw [e1,Nat.add_mul]
   omega
theorem eo.take {α:Type}{r:α->List Value->Prop}{n:Nat}(hn:∀x c,r x c->c.length=n):∀{xs:List α} {cs:List Value} (k:Nat),eo r xs cs->eo r (xs.take k) (cs.take (k*n))
 |[],_,k,h=>by
  simp only [eo] at h
  subst h
  simp [eo]
 |y::ys,_,0,h=>by simp [eo]
 |y::ys,_,k+1,h=>by
  obtain⟨c1,c2,rfl,h1,h2⟩:=h
  refine⟨c1,c2.take (k*n),?_,h1,h2.take hn k⟩
  rw [List.take_append,hn _ _ h1]
  have e1:=hn _ _ h1
  rw [vL (by rw [e1,Nat.add_mul];omega)]
  congr 2
  rw [Nat.add_mul]
  omega
structure Rep (α:Type) where
 n:Nat
 rel:World->(Nat->Prop)->α->List Value->Prop
 len:∀{w F x cs},rel w F x cs->cs.length=n
 one:∀{w F x cs},rel w F x cs->∀u∈cs,u.oneCell'=true
 keep:∀{w w' F x cs},rel w F x cs->(∀b,F b->b<w.heap.size->w'.heap[b]?=w.heap[b]?)->rel w' F x cs
 mono:∀{w F F' x cs},rel w F x cs->(∀b,b<w.heap.size->F b->F' b)->rel w F' x cs
theorem Rep.kp {α:Type}(R:Rep α){w w':World}{F S:Nat->Prop}{x:α}{cs:List Value}(h:R.rel w F x cs)(hk:Kp S w w')(hd:∀b,F b->¬S b):R.rel w' F x cs :=
 R.keep h fun b hb hlt=>hk.block b hlt (hd b hb)
def Rep.plain {α:Type}(n:Nat)(enc:α->List Value)(hn:∀x,(enc x).length=n)(h1:∀x,∀u∈enc x,u.oneCell'=true):Rep α where
 n:=n
 rel:=fun _ _ x cs=>cs=enc x
 len:=fun h=>by rw [h];exact hn _
 one:=fun h=>by rw [h];exact h1 _
 keep:=fun h _=>h
 mono:=fun h _=>h
def bb {α:Type}(R:Rep α)(w:World)(F:Nat->Prop)(xs:List α)(v:Value):Prop :=
 ∃A c,v = .slice A xs.length c/\xs.length<=c/\c<=maxLen /\
  (0<xs.length->∃b off,A=some ⟨b,off,none⟩/\F b/\b<w.heap.size /\
   ∃cells,eo (R.rel w F) xs cells/\∀j u,cells[j]?=some u->w.cell? ⟨b,off+j,none⟩=some u)
section
variable {α:Type} {R:Rep α} {w w':World} {F F' S:Nat -> Prop} {xs:List α} {v:Value}
theorem bb.nil (R:Rep α)(w:World)(F:Nat->Prop):bb R w F [] (.slice none 0 0):=⟨none,0,rfl,qJ _,qR _,fun h=>absurd h (Nat.lt_irrefl _)⟩
theorem bb.keep (h:bb R w F xs v)(hk:∀b,F b->b<w.heap.size->w'.heap[b]?=w.heap[b]?):bb R w' F xs v:=by
 obtain⟨A,c,rfl,h1,h2,h3⟩:=h
 refine⟨A,c,rfl,h1,h2,fun hp=>?_⟩
 obtain⟨b,off,rfl,hb,hlt,cells,ha,hc⟩:=h3 hp
 have e:=hk b hb hlt
 refine⟨b,off,rfl,hb,?_,cells,ha.mono fun x c hx=>R.keep hx hk,fun j u hu=>(kA7 (w:=w) (a:=⟨b,off+j,none⟩) e).trans (hc j u hu)⟩
 rw [uL hlt] at e
 exact (qI.1 e).1
theorem bb.mono (h:bb R w F xs v)(hk:∀b,b<w.heap.size->F b->F' b):bb R w F' xs v:=by
 obtain⟨A,c,rfl,h1,h2,h3⟩:=h
 refine⟨A,c,rfl,h1,h2,fun hp=>?_⟩
 obtain⟨b,off,rfl,hb,hlt,cells,ha,hc⟩:=h3 hp
 exact⟨b,off,rfl,hk b hlt hb,hlt,cells,ha.mono fun x c hx=>R.mono hx hk,hc⟩
theorem bb.kp (h:bb R w F xs v)(hk:Kp S w w')(hd:∀b,F b->¬S b):bb R w' F xs v:=h.keep fun b hb hlt=>hk.block b hlt (hd b hb)
theorem bb.len (h:bb R w F xs v):xs.length<=9223372036854775807:=by
 obtain⟨A,c,rfl,h1,h2,h3⟩:=h
 unfold maxLen at h2
 omega
theorem bb.zero (R:Rep α)(w:World)(F:Nat->Prop)(A:Option Addr){n c:Nat}(hn:n=0)(hc:c<=9223372036854775807):bb R w F [] (.slice A n c) :=
 ⟨A,c,by rw [hn];rfl,qR _,by unfold maxLen;omega,fun h=>absurd h (Nat.lt_irrefl _)⟩
theorem bb.take {A:Option Addr}{n c k:Nat}(h:bb R w F xs (.slice A n c))(hk:k<=n):bb R w F (xs.take k) (.slice A k c):=by
 obtain⟨A',c',e,h1,h2,h3⟩:=h
 injection e with e1 e2 e3
 subst e1 e2 e3
 have hl:(xs.take k).length=k:=by rw [vG];omega
 refine⟨A,c,by rw [hl],by omega,h2,fun hp=>?_⟩
 obtain⟨b,off,e,hb,hlt,cells,ha,hc⟩:=h3 (by omega)
 refine⟨b,off,e,hb,hlt,_,ha.take (n:=R.n) (fun _ _=>R.len) k,fun j u hu=>hc j u ?_⟩
 rw [uF] at hu
 split at hu
 ·exact hu
 ·cases hu
end
def Rep.slice {α:Type}(R:Rep α):Rep (List α) where
 n:=1
 rel:=fun w F xs cs=>∃v,cs=[v]/\bb R w F xs v
 len:=fun h=>by obtain⟨v,rfl,_⟩:=h;rfl
 one:=fun h=>by
  obtain⟨v,rfl,A,c,rfl,_⟩:=h
  simp [Value.oneCell']
 keep:=fun h hk=>by obtain⟨v,rfl,h⟩:=h;exact⟨v,rfl,h.keep hk⟩
 mono:=fun h hk=>by obtain⟨v,rfl,h⟩:=h;exact⟨v,rfl,h.mono hk⟩
def fj {α:Type}(R:Rep α)(e:TypeId)(w:World)(E O:Nat->Prop)(xs:List α)(v:Value):Prop :=
 ∃cells,w.ownsRow 0 e R.n v xs.length cells/\eo (R.rel w E) xs cells/\∀g,v.ownBlock=some g->O g/\¬E g
section
variable {α:Type} {R:Rep α} {e:TypeId} {w w':World} {E E' O O' S:Nat -> Prop} {xs:List α} {v:Value}
theorem fj.nil (R:Rep α)(e:TypeId)(w:World)(E O:Nat->Prop):fj R e w E O [] (.slice none 0 0) :=
 ⟨[],World.ownsRow_nil w 0 e R.n,rfl,fun g h=>by simp [Value.ownBlock] at h⟩
theorem fj.mono (h:fj R e w E O xs v)(hk:∀b,b<w.heap.size->O b->O' b):fj R e w E O' xs v:=by
 obtain⟨cells,h1,h2,h3⟩:=h
 exact⟨cells,h1,h2,fun g hg=>⟨hk g (h1.lt g hg).2 (h3 g hg).1,(h3 g hg).2⟩⟩
theorem fj.kp (h:fj R e w E O xs v)(hk:Kp S w w')(hE:∀b,E b->¬S b)(hO:∀b,O b->¬S b):fj R e w' E O xs v:=by
 obtain⟨cells,⟨hl,h1⟩,h2,h3⟩:=h
 refine⟨cells,⟨hl,?_⟩,h2.mono fun x c hx=>R.kp hx hk hE,h3⟩
 rcases h1 with h1|⟨g,cap,cur,rfl,hb,hg,rest⟩
 ·exact .inl h1
 ·exact .inr ⟨g,cap,cur,rfl,hb,hk.heap hg (hO g (h3 g rfl).1),rest⟩
theorem fj.slice (h:fj R e w E O xs v):bb R w (fun b=>E b\/O b) xs v:=by
 obtain⟨cells,⟨hl,h1⟩,h2,h3⟩:=h
 rcases h1 with⟨rfl,h0⟩|⟨g,cap,cur,rfl,hb,hg,hnc,hcm,hcs,ht⟩
 ·refine⟨none,0,by rw [h0],by omega,qR _,fun hp=>absurd h0 (by omega)⟩
 ·refine⟨_,cap,rfl,hnc,hcm,fun hp=>⟨g,0,rfl,.inr (h3 g rfl).1,(qI.1 hg).1,cells,h2.mono fun x c hx=>R.mono hx fun b _ hb=>.inl hb,fun j u hu=>?_⟩⟩
  rw [vN,kB0 w g j cur e (0,0) hg]
  rw [<- ht,uF] at hu
  split at hu
  ·simpa using hu
  ·cases hu
theorem fj.alloc (h:fj R e w E O xs v)(o:Obj):fj R e (w.alloc o) E O xs v:=h.kp ((Kp.refl No w).alloc o) (fun _ _=>id) (fun _ _=>id)
theorem fj.len (h:fj R e w E O xs v):xs.length<=9223372036854775807:=h.slice.len
end
section
variable {P:Program} {α:Type} {R:Rep α} {w:World} {E O:Nat -> Prop} {xs:List α} {v:Value}
def Ae (R:Rep α)(w:World)(E:Nat->Prop)(ys:List α)(A:Option Addr):Prop :=
 ∃news,eo (R.rel w E) ys news/\(0<ys.length->∃ad,A=some ad/\∀j u,news[j]?=some u->w.cell? (ad.add j)=some u)
theorem Ae.one {x:α}{cs:List Value}{t:TypeId}{w:World}(h:R.rel (w.alloc (.cells cs.toArray t)) E x cs):Ae R (w.alloc (.cells cs.toArray t)) E [x] (some ⟨w.heap.size,0,none⟩):=by
 refine⟨cs,⟨cs,[],by simp,h,rfl⟩,fun _=>⟨_,rfl,fun j u hu=>?_⟩⟩
 rw [show (⟨w.heap.size,0,none⟩:Addr).add j=⟨w.heap.size,j,none⟩ by unfold Addr.add;split <;> simp_all]
 rw [kB0 _ w.heap.size j cs.toArray t (0,0) (kA5 w _)]
 simpa using hu
end
end Go.Proofs.YtdidjpohnopihaaGreat
end
section
namespace Go.Proofs.YtdidjpohnopihaaGreat.Sm
def Be:Nat:=0
def ID (h:Nat->Option Obj):Prop:=True
def kR (W:World)(F:Nat->Prop):Prop:=(∀g,g<Be->F g)/\ID fun g=>bif decide (g<Be) then W.heap[g]? else none
theorem kR.go {W W':World}{F F':Nat->Prop}(h:kR W F)(hF:∀b,F b->F' b)(hW:∀b,F b->W'.heap[b]?=W.heap[b]?):kR W' F':=by
 refine⟨fun g hg=>hF g (h.1 g hg),?_⟩
 have e:(fun g=>bif decide (g<Be) then W'.heap[g]? else none)=fun g=>bif decide (g<Be) then W.heap[g]? else none:=by
  funext g
  by_cases hg:g<Be
  ·rw [qE hg,cond_true,cond_true,hW g (h.1 g hg)]
  ·rw [qC hg,cond_false,cond_false]
 rw [e]
 exact h.2
theorem kR.keep {W W':World}{F F':Nat->Prop}(h:kR W F)(ho:∀b,F b->b<W.heap.size)(hF:∀b,F b->F' b)(hW:∀b,F b->b<W.heap.size->W'.heap[b]?=W.heap[b]?):kR W' F':=h.go hF fun b hb=>hW b hb (ho b hb)
theorem eT (W:World)(F:Nat->Prop):kR W F:=⟨fun g h=>absurd h (uO g),trivial⟩
end Go.Proofs.YtdidjpohnopihaaGreat.Sm
end
section
namespace Go.Proofs.YtdidjpohnopihaaGreat
open Go.RowKit
theorem nV (x:UInt64):x.toNat<18446744073709551616:=x.toNat_lt
theorem pE (x:UInt8):x.toNat<256:=x.toNat_lt
theorem sy (n:Nat):IntKind.u64.wrap (n:Int)=((UInt64.ofNat n).toNat:Int):=by
 rw [IntKind.wrap_u64,UInt64.toNat_ofNat']
 omega
theorem q9 (n:Nat):IntKind.u8.wrap (n:Int)=((UInt8.ofNat n).toNat:Int):=by
 rw [IntKind.wrap_u8',UInt8.toNat_ofNat']
 omega
theorem xU {n:Nat}(h:n<18446744073709551616):(n:Int)=((UInt64.ofNat n).toNat:Int):=by
 rw [UInt64.toNat_ofNat']
 omega
theorem oG (x:UInt64):IntKind.u64.wrap (x.toNat:Int)=(x.toNat:Int):=by rw [sy,UInt64.ofNat_toNat]
theorem th (x:UInt8):IntKind.u64.wrap (x.toNat:Int)=(x.toUInt64.toNat:Int):=by
 rw [IntKind.wrap_u64,UInt8.toNat_toUInt64]
 have:=pE x
 omega
theorem Ex (x y:UInt64):IntKind.u64.wrap ((x.toNat:Int)*(y.toNat:Int))=((x*y).toNat:Int):=by
 rw [IntKind.wrap_u64,UInt64.toNat_mul,<- Int.natCast_mul]
 omega
theorem DM (x y:UInt64):IntKind.u64.wrap ((x.toNat:Int)+(y.toNat:Int))=((x+y).toNat:Int):=by
 rw [IntKind.wrap_u64,UInt64.toNat_add]
 omega
def u8R:Rep UInt8:=Rep.plain 1 (fun x=>[.int .u8 x.toNat]) (fun _=>rfl) (by simp [Value.oneCell'])
theorem jg {α:Type}{l:List α}{k:Nat}{x:α}(h:l[k]?=some x):l.take (k+1)=l.take k++[x]:=by
 rw [List.take_add_one,h];rfl
theorem oq {r:World}{F:Nat->Prop}:∀{l:List UInt8} {cs:List Value},eo (u8R.rel r F) l cs->cs=l.map fun b=>Value.int .u8 b.toNat
 |[],_,h=>h
 |x::l,_,h=>by
  obtain⟨c1,c2,rfl,h1,h2⟩:=h
  have e1:c1=[.int .u8 x.toNat]:=h1
  rw [e1,oq h2]
  rfl
def bs (l:List UInt8):ByteArray:=⟨l.toArray⟩
theorem rD {P:Program}{src dst e:TypeId}(hs:P.underlying src = some (.slice e))(he:P.underlying e = some (.int .u8))(hd:P.underlying dst = some .string)
  {w:World} {F:Nat->Prop} {l:List UInt8} {v:Value} (h:bb u8R w F l v):(convert src dst v).run P w = .ok (.string (bs l)) w:=by
 obtain⟨A,c,rfl,h1,h2,h3⟩:=h
 by_cases hp:0<l.length
 ·obtain⟨b,off,rfl,_,_,cells,ha,hc⟩:=h3 hp
  refine run_convert_bytes_back w src dst e ⟨b,off,none⟩ c l hs he hd fun j hj=>?_
  rw [show (⟨b,off,none⟩:Addr).add j=⟨b,off+j,none⟩ by unfold Addr.add;split <;> simp_all]
  refine hc j _ ?_
  rw [oq ha]
  simp [hj]
 ·have h0:l=[]:=List.eq_nil_of_length_eq_zero (by omega)
  subst h0
  cases A with
  |none=>exact run_convert_bytes_nil (P:=P) (w:=w) src e hs he _ _ dst hd
  |some a=>exact run_convert_bytes_back w src dst e a c [] hs he hd (by simp)
end Go.Proofs.YtdidjpohnopihaaGreat
end
section
section
namespace Go.Proofs.YtdidjpohnopihaaGreat.Sm
open Go.RowKit
inductive RK where
 |map
 |sl (off n cap:Nat)
def RK.val:RK->Nat->Value
 | .map,b=>.map (some b)
 | .sl off n cap,b=>.slice (some ⟨b,off,none⟩) n cap
inductive AV where
 |b (x:Bool)
 |i (k:IntKind) (n:Int)
 |u (x:UInt64)
 |y (x:UInt8)
 |s (l:List UInt8)
 |raw (v:Value)
 |sl (els:List (List AV))
 |ro (cs:List AV)
 |agg (cs:List AV)
 |tup (vs:List AV)
 |fn (f:FuncId) (first caps:List AV)
 |own (id ep off:Nat)
 |el (id ep k j:Nat)
 |row (id ep off n:Nat)
 |ref (id ep:Nat) (k:RK)
 |any
def AV.one:AV->Bool
 | .raw v=>v.oneCell'
 | .agg _ | .tup _ | .any=>false
 |_=>true
inductive au (W:World)(F:Nat->Prop):AV->Value->Prop where
 |b (x:Bool):au W F (.b x) (.bool x)
 |i (k:IntKind) (n:Int):au W F (.i k n) (.int k n)
 |u (x:UInt64):au W F (.u x) (.int .u64 x.toNat)
 |y (x:UInt8):au W F (.y x) (.int .u8 x.toNat)
 |s (l:List UInt8):au W F (.s l) (.string ⟨l.toArray⟩)
 |raw (v:Value):au W F (.raw v) v
 |any (v:Value):au W F .any v
 |sl (els:List (List AV)) (A:Option Addr) (c m b off:Nat) (cell:Nat->Nat->Value) (hc:els.length<=c) (hm:c<=maxLen)
   (hA:0<els.length->A=some ⟨b,off,none⟩/\F b/\b<W.heap.size)
   (hl:∀(k:Nat) (cs:List AV),els[k]?=some cs->cs.length=m)
   (h1:∀(k:Nat) (cs:List AV) (j:Nat) (x:AV),els[k]?=some cs->cs[j]?=some x->x.one=true)
   (hr:∀(k:Nat) (cs:List AV) (j:Nat) (x:AV),els[k]?=some cs->cs[j]?=some x->au W F x (cell k j))
   (hw:∀(k:Nat) (cs:List AV) (j:Nat) (x:AV),els[k]?=some cs->cs[j]?=some x->W.cell? ⟨b,off+(k*m+j),none⟩=some (cell k j)) :
   au W F (.sl els) (.slice A els.length c)
 |ro (cs:List AV) (b off:Nat) (cell:Nat->Value) (hF:F b) (hb:b<W.heap.size)
   (h1:∀(j:Nat) (x:AV),cs[j]?=some x->x.one=true)
   (hr:∀(j:Nat) (x:AV),cs[j]?=some x->au W F x (cell j))
   (hw:∀(j:Nat) (x:AV),cs[j]?=some x->W.cell? ⟨b,off+j,none⟩=some (cell j)) :
   au W F (.ro cs) (.pointer (some ⟨b,off,none⟩))
 |agg (cs:List AV) (vs:List Value) (hl:vs.length=cs.length) (h1:∀(j:Nat) (x:AV),cs[j]?=some x->x.one=true)
   (hr:∀(j:Nat) (x:AV) (v:Value),cs[j]?=some x->vs[j]?=some v->au W F x v):au W F (.agg cs) (.agg vs.toArray)
 |tup (cs:List AV) (vs:List Value) (hl:vs.length=cs.length)
   (hr:∀(j:Nat) (x:AV) (v:Value),cs[j]?=some x->vs[j]?=some v->au W F x v):au W F (.tup cs) (.tuple vs.toArray)
 |fn (f:FuncId) (first caps:List AV) (fs cs:List Value) (hf:fs.length=first.length) (hc:cs.length=caps.length)
   (hr:∀(j:Nat) (x:AV) (v:Value),first[j]?=some x->fs[j]?=some v->au W F x v)
   (hr':∀(j:Nat) (x:AV) (v:Value),caps[j]?=some x->cs[j]?=some v->au W F x v):au W F (.fn f first caps) (.func (.func f) fs.toArray cs.toArray)
theorem au.keep {W W':World}{F F':Nat->Prop}{x:AV}{v:Value}(h:au W F x v)(hk:∀b,F b->b<W.heap.size->W'.heap[b]?=W.heap[b]?)(hF:∀b,F b->b<W.heap.size->F' b):au W' F' x v:=by
 have lt:∀b,F b->b<W.heap.size->b<W'.heap.size:=fun b h1 h2=>by
  have e:=hk b h1 h2
  rw [uL h2] at e
  exact (qI.1 e).1
 have cell:∀{b o:Nat} {u:Value},F b->b<W.heap.size->W.cell? ⟨b,o,none⟩=some u->W'.cell? ⟨b,o,none⟩=some u:=fun {b o u} h1 h2 h3=>
  (kA7 (w:=W) (a:=⟨b,o,none⟩) (hk b h1 h2)).trans h3
 induction h with
 |b x=>exact .b x
 |i k n=>exact .i k n
 |u x=>exact .u x
 |y x=>exact .y x
 |s l=>exact .s l
 |raw v=>exact .raw v
 |any v=>exact .any v
 |sl els A c m b off cl hc hm hA hl h1 hr hw ih=>
  refine .sl els A c m b off cl hc hm (fun hp=>?_) hl h1 ih (fun k cs j x hk' hj=>?_)
  ·obtain⟨e,h2,h3⟩:=hA hp
   exact⟨e,hF b h2 h3,lt b h2 h3⟩
  ·have hp:0<els.length:=by have:=(qD.1 hk').1;omega
   obtain⟨_,h2,h3⟩:=hA hp
   exact cell h2 h3 (hw k cs j x hk' hj)
 |ro cs b off cl hF' hb h1 hr hw ih=>exact .ro cs b off cl (hF b hF' hb) (lt b hF' hb) h1 ih (fun j x hj=>cell hF' hb (hw j x hj))
 |agg cs vs hl h1 hr ih=>exact .agg cs vs hl h1 ih
 |tup cs vs hl hr ih=>exact .tup cs vs hl ih
 |fn f first caps fs cs hf hc hr hr' ih ih'=>exact .fn f first caps fs cs hf hc ih ih'
inductive aE where
 |box (t:TypeId) (cs:List AV)
 |row (t:TypeId) (m:Nat) (els:List (List AV))
 /-- No block: where a block lay when this was written. -/
 |ghost (id ep:Nat) (q:Option (Nat × Nat))
 /-- Just this object (a map whose keys and elements are no memory). -/
 |obj (o:Obj)
 /-- A row of single cells that may refer to other blocks of the store. -/
 |nest (t:TypeId) (els:List AV)
structure SB where
 ep:Nat
 body:Option aE
abbrev Sto:=Nat->SB
abbrev Mu:=Nat->Option (Nat × Nat)
def aE.sh:aE->Bool × Nat × Nat × Nat
 | .box t cs=>(true,t,cs.length,0)
 | .row t m els=>(false,t,m,els.length)
 | .ghost _ _ _=>(true,0,0,1)
 | .obj _=>(true,0,0,2)
 | .nest t els=>(true,t,els.length,3)
def aE.rowL:aE->Option (Nat × Nat)
 | .row _ m els=>some (m,els.length)
 | .nest _ els=>some (1,els.length)
 |_=>none
def FZ (p:Option (Nat × Nat))(m off n len:Nat)(v:Value):Prop :=
 off+n<=len/\match p with
  |none=>v = .slice none 0 0
  |some (b,cap)=>v = .slice (some ⟨b,off*m,none⟩) n (cap-off)
inductive Rel (W:World)(F:Nat->Prop)(μ:Mu)(σ:Sto):AV->Value->Prop where
 |pure {x:AV} {v:Value} (h:au W F x v):Rel W F μ σ x v
 |own (id ep off:Nat) (v:Value) (he:ep<=(σ id).ep) (h1:v.oneCell'=true) (h:∀bd,σ id=⟨ep,some bd⟩->∃b c,μ id=some (b,c)/\v = .pointer (some ⟨b,off,none⟩)):Rel W F μ σ (.own id ep off) v
 |el (id ep k j:Nat) (v:Value) (he:ep<=(σ id).ep) (h1:v.oneCell'=true) (h:∀bd m len,σ id=⟨ep,some bd⟩->bd.rowL=some (m,len)->∃b c,μ id=some (b,c)/\v = .pointer (some ⟨b,k*m+j,none⟩)):Rel W F μ σ (.el id ep k j) v
 |row (id ep off n:Nat) (v:Value) (he:ep<=(σ id).ep) (h1:v.oneCell'=true) (h:∀bd m len,σ id=⟨ep,some bd⟩->bd.rowL=some (m,len)->FZ (μ id) m off n len v):Rel W F μ σ (.row id ep off n) v
 |ref (id ep:Nat) (k:RK) (v:Value) (he:ep<=(σ id).ep) (h1:v.oneCell'=true) (h:∀bd,σ id=⟨ep,some bd⟩->∃b c,μ id=some (b,c)/\v=k.val b):Rel W F μ σ (.ref id ep k) v
 |agg (cs:List AV) (vs:List Value) (hl:vs.length=cs.length) (h1:∀(j:Nat) (x:AV),cs[j]?=some x->x.one=true)
   (hr:∀(j:Nat) (x:AV) (v:Value),cs[j]?=some x->vs[j]?=some v->Rel W F μ σ x v):Rel W F μ σ (.agg cs) (.agg vs.toArray)
 |tup (cs:List AV) (vs:List Value) (hl:vs.length=cs.length)
   (hr:∀(j:Nat) (x:AV) (v:Value),cs[j]?=some x->vs[j]?=some v->Rel W F μ σ x v):Rel W F μ σ (.tup cs) (.tuple vs.toArray)
 |fn (f:FuncId) (first caps:List AV) (fs cs:List Value) (hf:fs.length=first.length) (hc:cs.length=caps.length)
   (hr:∀(j:Nat) (x:AV) (v:Value),first[j]?=some x->fs[j]?=some v->Rel W F μ σ x v)
   (hr':∀(j:Nat) (x:AV) (v:Value),caps[j]?=some x->cs[j]?=some v->Rel W F μ σ x v):Rel W F μ σ (.fn f first caps) (.func (.func f) fs.toArray cs.toArray)
 |any (v:Value):Rel W F μ σ .any v
def aM (W:World)(F:Nat->Prop)(μ:Mu)(σ:Sto)(p:Option (Nat × Nat)):aE->Prop
 | .box t cs=>∃b c vs,p=some (b,c)/\W.heap[b]?=some (.cells (List.toArray vs) t (0,0))/\vs.length=cs.length /\
   ∀(j:Nat) (x:AV) (v:Value),cs[j]?=some x->vs[j]?=some v->x.one=true/\Rel W F μ σ x v
 | .row t m els=>(p=none/\els=[])\/∃b cap cur,p=some (b,cap)/\W.heap[b]?=some (.cells cur t (0,0))/\els.length<=cap/\cap<=maxLen/\cur.size=cap*m /\
   (∀(k:Nat) (cs:List AV),els[k]?=some cs->cs.length=m)/\∀(k:Nat) (cs:List AV) (j:Nat) (x:AV),els[k]?=some cs->cs[j]?=some x->x.one=true/\∃v,cur[k*m+j]?=some v/\au W F x v
 | .ghost id ep q=>p=none/\ep<=(σ id).ep/\∀bd,σ id=⟨ep,some bd⟩->μ id=q
 | .obj o=>∃b c,p=some (b,c)/\W.heap[b]?=some o
 | .nest t els=>(p=none/\els=[])\/∃b cap cur,p=some (b,cap)/\W.heap[b]?=some (.cells cur t (0,0))/\els.length<=cap/\cap<=maxLen/\cur.size=cap /\
   ∀(k:Nat) (x:AV),els[k]?=some x->x.one=true/\∃v,cur[k]?=some v/\Rel W F μ σ x v
def Own (μ:Mu)(σ:Sto)(b:Nat):Prop:=∃id ep bd c,σ id=⟨ep,some bd⟩/\μ id=some (b,c)
structure Inv (W:World)(F:Nat->Prop)(μ:Mu)(σ:Sto):Prop where
 body:∀id ep bd,σ id=⟨ep,some bd⟩->aM W F μ σ (μ id) bd
 apart:∀b,Own μ σ b->b<W.heap.size/\¬F b
 inj:∀id id' b c c',(σ id).body.isSome=true->(σ id').body.isSome=true->μ id=some (b,c)->μ id'=some (b,c')->id=id'
 old:∀b,F b->b<W.heap.size
 lay:kR W F
structure Stp (W:World)(F:Nat->Prop)(μ:Mu)(σ:Sto)(W':World)(F':Nat->Prop)(μ':Mu)(σ':Sto):Prop where
 kp:Kp (Own μ σ) W W'
 fro:∀b,F b->F' b
 new:∀b,F' b->F b\/Own μ σ b\/W.heap.size<=b
 own:∀b,Own μ' σ' b->Own μ σ b\/W.heap.size<=b
 ep:∀id,(σ id).ep<=(σ' id).ep
 same:∀id,(σ' id).ep=(σ id).ep->∀bd',(σ' id).body=some bd'->∃bd,(σ id).body=some bd/\bd'.sh=bd.sh/\μ' id=μ id
theorem Stp.refl (W:World)(F:Nat->Prop)(μ:Mu)(σ:Sto):Stp W F μ σ W F μ σ :=
 ⟨Kp.refl _ _,fun _ h=>h,fun _ h=>.inl h,fun _ h=>.inl h,fun _=>qJ _,fun _ _ bd h=>⟨bd,h,rfl,rfl⟩⟩
theorem Stp.trans {W W' W'':World}{F F' F'':Nat->Prop}{μ μ' μ'':Mu}{σ σ' σ'':Sto}(h:Stp W F μ σ W' F' μ' σ')(k:Stp W' F' μ' σ' W'' F'' μ'' σ''):Stp W F μ σ W'' F'' μ'' σ'':=by
 have own:∀b,Own μ' σ' b->b<W.heap.size->Own μ σ b:=fun b hb hlt=>(h.own b hb).resolve_right (by omega)
 have size:=h.kp.size
 refine⟨h.kp.trans2 k.kp fun g hlt hg=>own g hg hlt,fun b hb=>k.fro b (h.fro b hb),fun b hb=>?_,fun b hb=>?_,fun id=>vH (h.ep id) (k.ep id),fun id he bd'' hb''=>?_⟩
 ·rcases k.new b hb with h1|h1|h1
  ·exact h.new b h1
  ·rcases h.own b h1 with h2|h2
   ·exact .inr (.inl h2)
   ·exact .inr (.inr h2)
  ·exact .inr (.inr (by omega))
 ·rcases k.own b hb with h1|h1
  ·exact h.own b h1
  ·exact .inr (by omega)
 ·have e1:=h.ep id
  have e2:=k.ep id
  obtain⟨bd',h1,h2,h3⟩:=k.same id (by omega) bd'' hb''
  obtain⟨bd,g1,g2,g3⟩:=h.same id (by omega) bd' h1
  exact⟨bd,g1,h2.trans g2,h3.trans g3⟩
theorem SB.eta {σ:Sto}{id ep:Nat}{bd:aE}(h:σ id=⟨ep,some bd⟩):(σ id).ep=ep/\(σ id).body=some bd:=by rw [h];exact⟨rfl,rfl⟩
theorem SB.mk' {σ:Sto}{id ep:Nat}{bd:aE}(h1:(σ id).ep=ep)(h2:(σ id).body=some bd):σ id=⟨ep,some bd⟩:=by
 cases h:σ id with
 |mk e b=>
  rw [h] at h1 h2
  simp only at h1 h2
  rw [h1,h2]
structure Stq (W:World)(F:Nat->Prop)(μ:Mu)(σ:Sto)(W':World)(F':Nat->Prop)(μ':Mu)(σ':Sto):Prop where
 kp:Kp (Own μ σ) W W'
 fro:∀b,F b->F' b
 new:∀b,F' b->F b\/Own μ σ b\/W.heap.size<=b
 own:∀b,Own μ' σ' b->Own μ σ b\/W.heap.size<=b
theorem Stp.q {W W':World}{F F':Nat->Prop}{μ μ':Mu}{σ σ':Sto}(h:Stp W F μ σ W' F' μ' σ'):Stq W F μ σ W' F' μ' σ':=⟨h.kp,h.fro,h.new,h.own⟩
theorem Stq.refl (W:World)(F:Nat->Prop)(μ:Mu)(σ:Sto):Stq W F μ σ W F μ σ:=(Stp.refl W F μ σ).q
theorem Stq.trans {W W' W'':World}{F F' F'':Nat->Prop}{μ μ' μ'':Mu}{σ σ' σ'':Sto}(h:Stq W F μ σ W' F' μ' σ')(k:Stq W' F' μ' σ' W'' F'' μ'' σ''):Stq W F μ σ W'' F'' μ'' σ'':=by
 have own:∀b,Own μ' σ' b->b<W.heap.size->Own μ σ b:=fun b hb hlt=>(h.own b hb).resolve_right (by omega)
 have size:=h.kp.size
 refine⟨h.kp.trans2 k.kp fun g hlt hg=>own g hg hlt,fun b hb=>k.fro b (h.fro b hb),fun b hb=>?_,fun b hb=>?_⟩
 ·rcases k.new b hb with h1|h1|h1
  ·exact h.new b h1
  ·rcases h.own b h1 with h2|h2
   ·exact .inr (.inl h2)
   ·exact .inr (.inr h2)
  ·exact .inr (.inr (by omega))
 ·rcases k.own b hb with h1|h1
  ·exact h.own b h1
  ·exact .inr (by omega)
theorem au.stp {W W':World}{F F':Nat->Prop}{μ μ':Mu}{σ σ':Sto}(hi:Inv W F μ σ)(h:Stp W F μ σ W' F' μ' σ'){x:AV}{v:Value}(hx:au W F x v):au W' F' x v :=
 hx.keep (fun b hb hlt=>h.kp.block b hlt fun ho=>(hi.apart b ho).2 hb) (fun b hb _=>h.fro b hb)
theorem aE.row_of_sh {bd:aE}{t m n:Nat}(h:bd.sh=(false,t,m,n)):∃els,bd = .row t m els/\els.length=n:=by
 cases bd with
 |box t' cs=>simp [aE.sh] at h
 |ghost=>simp [aE.sh] at h
 |obj=>simp [aE.sh] at h
 |nest=>simp [aE.sh] at h
 |row t' m' els=>
  simp only [aE.sh,vC,true_and] at h
  obtain⟨rfl,rfl,h⟩:=h
  exact⟨els,rfl,h⟩
theorem aE.rowL_of_sh {bd bd':aE}(h:bd'.sh=bd.sh){m len:Nat}(hL:bd'.rowL=some (m,len)):bd.rowL=some (m,len):=by
 cases bd' with
 |row t m' els=>
  obtain⟨els0,rfl,hl⟩:=aE.row_of_sh h.symm
  simp only [aE.rowL] at hL ⊢
  rw [hl]
  exact hL
 |nest t els=>
  cases bd with
  |nest t' els'=>
   simp only [aE.sh,vC,true_and,and_true] at h
   simp only [aE.rowL] at hL ⊢
   rw [<- h.2]
   exact hL
  |row=>simp [aE.sh] at h
  |box=>simp [aE.sh] at h
  |ghost=>simp [aE.sh] at h
  |obj=>simp [aE.sh] at h
 |box=>cases hL
 |ghost=>cases hL
 |obj=>cases hL
theorem Rel.stp {W W':World}{F F':Nat->Prop}{μ μ':Mu}{σ σ':Sto}(hi:Inv W F μ σ)(h:Stp W F μ σ W' F' μ' σ'){x:AV}{v:Value}(hx:Rel W F μ σ x v):Rel W' F' μ' σ' x v:=by
 induction hx with
 |pure hp=>exact .pure (hp.stp hi h)
 |own id ep off v he h1 hv=>
  refine .own id ep off v (vH he (h.ep id)) h1 fun bd' hb'=>?_
  obtain⟨e1,e2⟩:=SB.eta hb'
  have:=h.ep id
  obtain⟨bd,g1,g2,g3⟩:=h.same id (by omega) bd' e2
  rw [g3]
  exact hv bd (SB.mk' (by omega) g1)
 |el id ep k j v he h1 hv=>
  refine .el id ep k j v (vH he (h.ep id)) h1 fun bd' m len hb' hL=>?_
  obtain⟨e1,e2⟩:=SB.eta hb'
  have:=h.ep id
  obtain⟨bd,g1,g2,g3⟩:=h.same id (by omega) _ e2
  rw [g3]
  exact hv bd m len (SB.mk' (by omega) g1) (aE.rowL_of_sh g2 hL)
 |row id ep off n v he h1 hv=>
  refine .row id ep off n v (vH he (h.ep id)) h1 fun bd' m len hb' hL=>?_
  obtain⟨e1,e2⟩:=SB.eta hb'
  have:=h.ep id
  obtain⟨bd,g1,g2,g3⟩:=h.same id (by omega) _ e2
  rw [g3]
  exact hv bd m len (SB.mk' (by omega) g1) (aE.rowL_of_sh g2 hL)
 |ref id ep k v he h1 hv=>
  refine .ref id ep k v (vH he (h.ep id)) h1 fun bd' hb'=>?_
  obtain⟨e1,e2⟩:=SB.eta hb'
  have:=h.ep id
  obtain⟨bd,g1,g2,g3⟩:=h.same id (by omega) bd' e2
  rw [g3]
  exact hv bd (SB.mk' (by omega) g1)
 |agg cs vs hl h1 hr ih=>exact .agg cs vs hl h1 ih
 |tup cs vs hl hr ih=>exact .tup cs vs hl ih
 |fn f first caps fs cs hf hc hr hr' ih ih'=>exact .fn f first caps fs cs hf hc ih ih'
 |any v=>exact .any v
theorem au.one {W:World}{F:Nat->Prop}{x:AV}{v:Value}(h:au W F x v)(h1:x.one=true):v.oneCell'=true:=by
 cases h <;> first|rfl|exact h1|(simp [AV.one] at h1)
theorem Rel.one {W:World}{F:Nat->Prop}{μ:Mu}{σ:Sto}{x:AV}{v:Value}(h:Rel W F μ σ x v)(h1:x.one=true):v.oneCell'=true:=by
 cases h with
 |pure h=>exact h.one h1
 |own _ _ _ _ _ h _=>exact h
 |el _ _ _ _ _ _ h _=>exact h
 |row _ _ _ _ _ _ h _=>exact h
 |ref _ _ _ _ _ h _=>exact h
 |agg=>simp [AV.one] at h1
 |tup=>simp [AV.one] at h1
 |fn=>rfl
 |any=>simp [AV.one] at h1
theorem aM.stp {W W':World}{F F':Nat->Prop}{μ μ':Mu}{σ σ':Sto}(hi:Inv W F μ σ)(h:Stp W F μ σ W' F' μ' σ'){p:Option (Nat × Nat)}{bd:aE}(hb:aM W F μ σ p bd)
  (hk:∀b c,p=some (b,c)->W'.heap[b]?=W.heap[b]?):aM W' F' μ' σ' p bd:=by
 cases bd with
 |box t cs=>
  obtain⟨b,c,vs,hp,hh,hl,hr⟩:=hb
  exact⟨b,c,vs,hp,(hk b c hp).trans hh,hl,fun j x v h1 h2=>⟨(hr j x v h1 h2).1,(hr j x v h1 h2).2.stp hi h⟩⟩
 |row t m els=>
  rcases hb with hb|⟨b,cap,cur,hp,hh,h1,h2,h3,h4,h5⟩
  ·exact .inl hb
  ·refine .inr ⟨b,cap,cur,hp,(hk b cap hp).trans hh,h1,h2,h3,h4,fun k cs j x g1 g2=>?_⟩
   obtain⟨q1,v,q2,q3⟩:=h5 k cs j x g1 g2
   exact⟨q1,v,q2,q3.stp hi h⟩
 |ghost id ep q=>
  obtain⟨g1,g2,g3⟩:=hb
  refine⟨g1,vH g2 (h.ep id),fun bd hbd=>?_⟩
  have e:(σ' id).ep=(σ id).ep:=by
   have:=h.ep id
   rw [hbd] at this ⊢
   exact Nat.le_antisymm g2 this
  obtain⟨bd0,h1,_,h3⟩:=h.same id e bd (by rw [hbd])
  rw [h3]
  refine g3 bd0 ?_
  rw [hbd] at e
  simp only at e
  rw [<- h1,e]
 |obj o=>
  obtain⟨b,c,hp,hh⟩:=hb
  exact⟨b,c,hp,(hk b c hp).trans hh⟩
 |nest t els=>
  rcases hb with hb|⟨b,cap,cur,hp,hh,h1,h2,h3,h5⟩
  ·exact .inl hb
  ·refine .inr ⟨b,cap,cur,hp,(hk b cap hp).trans hh,h1,h2,h3,fun k x g1=>?_⟩
   obtain⟨q1,v,q2,q3⟩:=h5 k x g1
   exact⟨q1,v,q2,q3.stp hi h⟩
theorem zc {a b:Nat}(h:a<b):Nat.blt a b=true:=Nat.ble_eq_true_of_le h
theorem zg {a b:Nat}(h:¬a<b):Nat.blt a b=false:=by
 cases e:Nat.blt a b with
 |false=>rfl
 |true=>exact absurd (qW e) h
theorem nQ {a b:Nat}(h:¬a=b):Nat.beq a b=false:=by
 cases e:Nat.beq a b with
 |false=>rfl
 |true=>exact absurd (qY e) h
theorem si (a:Nat):Nat.beq a a=true:=Nat.beq_refl a
def eH (N:Nat)(ts:Nat->AV)(d:Option Nat)(v:AV):Nat->AV :=
 match d with
 |none=>ts
 |some d=>cond (Nat.blt d N) (fun t=>cond (Nat.beq t d) v (ts t)) ts
def up1 (σ:Sto)(id:Nat)(sb:SB):Sto:=fun j=>cond (Nat.beq j id) sb (σ j)
def ups (σ:Sto):List (Nat × SB)->Sto
 |[]=>σ
 |p::l=>ups (up1 σ p.1 p.2) l
structure St where
 ts:Nat->AV
 σ:Sto
theorem St.ext' {a b:St}(h1:∀t,a.ts t=b.ts t)(h2:∀i,a.σ i=b.σ i):a=b:=by
 cases a
 cases b
 congr
 ·exact funext h1
 ·exact funext h2
theorem pS (N:Nat)(ts:Nat->AV)(d:Option Nat)(v:AV)(t:Nat):eH N ts d v t=if d=some t/\t<N then v else ts t:=by
 cases d with
 |none=>simp [eH]
 |some d=>
  show (cond (Nat.blt d N) (fun t=>cond (Nat.beq t d) v (ts t)) ts) t=_
  by_cases h:d<N
  ·rw [zc h,cond_true]
   by_cases e:t=d
   ·subst e
    simp [h]
   ·simp [nQ e,Ne.symm e]
  ·rw [zg h]
   simp only [cond_false]
   rw [if_neg]
   rintro⟨h1,h2⟩
   injection h1 with h1
   omega
theorem bi (σ:Sto)(id:Nat)(sb:SB)(j:Nat):up1 σ id sb j=if j=id then sb else σ j:=by
 unfold up1
 by_cases e:j=id
 ·subst e;simp
 ·simp [nQ e,e]
theorem mz {l:List (Nat × SB)}{σ:Sto}{j:Nat}(h:∀p∈l,p.1≠j):ups σ l j=σ j:=by
 induction l generalizing σ with
 |nil=>rfl
 |cons p l ih=>
  rw [ups,ih fun q hq=>h q (by simp [hq]),bi,if_neg fun e=>h p (by simp) e.symm]
theorem o4 {l:List (Nat × SB)}{σ σ':Sto}{j:Nat}(h:σ j=σ' j):ups σ l j=ups σ' l j:=by
 induction l generalizing σ σ' with
 |nil=>exact h
 |cons p l ih=>
  refine ih ?_
  rw [bi,bi]
  split
  ·rfl
  ·exact h
theorem AN {l:List (Nat × SB)}{σ σ':Sto}{j:Nat}(h:∃p∈l,p.1=j):ups σ l j=ups σ' l j:=by
 induction l generalizing σ σ' with
 |nil=>obtain⟨p,hp,_⟩:=h;cases hp
 |cons p l ih=>
  by_cases e:p.1=j
  ·rw [ups,ups]
   refine o4 ?_
   rw [bi,bi,if_pos e.symm,if_pos e.symm]
  ·rw [ups,ups]
   refine ih ?_
   obtain⟨q,hq,he⟩:=h
   rcases vA.1 hq with rfl|hq
   ·exact absurd he e
   ·exact⟨q,hq,he⟩
def AV.ofV:Value->AV
 | .bool x=>.b x
 | .int k (.ofNat n)=>match k with
  | .u64=>cond (Nat.blt n 18446744073709551616) (.u (UInt64.ofNat n)) (.i .u64 (.ofNat n))
  | .u8=>cond (Nat.blt n 256) (.y (UInt8.ofNat n)) (.i .u8 (.ofNat n))
  |k=>.i k (.ofNat n)
 | .int k n=>.i k n
 | .string str=>.s str.data.toList
 |v=>.raw v
theorem C6 (W:World)(F:Nat->Prop)(v:Value):au W F (.ofV v) v:=by
 cases v with
 |int k n=>
  cases n with
  |negSucc n=>exact .i k _
  |ofNat n=>
   have hu:au W F (cond (Nat.blt n 18446744073709551616) (.u (UInt64.ofNat n)) (.i .u64 (.ofNat n))) (.int .u64 (.ofNat n)):=by
    by_cases h:n<18446744073709551616
    ·rw [zc h,cond_true]
     have:=au.u (W:=W) (F:=F) (UInt64.ofNat n)
     rwa [UInt64.toNat_ofNat_of_lt' h] at this
    ·rw [zg h,cond_false]
     exact .i _ _
   have hy:au W F (cond (Nat.blt n 256) (.y (UInt8.ofNat n)) (.i .u8 (.ofNat n))) (.int .u8 (.ofNat n)):=by
    by_cases h:n<256
    ·rw [zc h,cond_true]
     have:=au.y (W:=W) (F:=F) (UInt8.ofNat n)
     rwa [UInt8.toNat_ofNat_of_lt' h] at this
    ·rw [zg h,cond_false]
     exact .i _ _
   cases k with
   |u64=>exact hu
   |u8=>exact hy
   |_=>exact .i _ _
 |bool x=>exact .b x
 |string s=>exact .s s.data.toList
 |_=>exact .raw _
def St.ev (s:St):Operand->AV
 | .tmp t=>s.ts t
 | .const v=>.ofV v
 | .global g=>.raw (.pointer (some ⟨g,0,none⟩))
 | .func f=>.fn f [] []
def gY (W:World)(F:Nat->Prop)(μ:Mu)(σ:Sto)(ds:List Deferred):Prop :=
 ∃Ds:List Nat,Ds.Nodup/\ds=Ds.map (fun D=>{ target:=.collected D,args:=#[] })/\∀D∈Ds,W.heap[D]?=some (.deferred (some []))/\¬F D/\¬Own μ σ D
theorem gY.nil {W:World}{F:Nat->Prop}{μ:Mu}{σ:Sto}:gY W F μ σ []:=⟨[],.nil,rfl,by simp⟩
theorem gY.go {W W':World}{F F':Nat->Prop}{μ μ':Mu}{σ σ':Sto}{ds:List Deferred}(h:gY W F μ σ ds)(hs:Stq W F μ σ W' F' μ' σ'):gY W' F' μ' σ' ds:=by
 obtain⟨Ds,h1,h2,h3⟩:=h
 refine⟨Ds,h1,h2,fun D hD=>?_⟩
 obtain⟨ha,hb,hc⟩:=h3 D hD
 have lt:D<W.heap.size:=(qI.1 ha).1
 refine⟨(hs.kp.block D lt hc).trans ha,fun hf=>?_,fun ho=>?_⟩
 ·rcases hs.new D hf with x|x|x
  ·exact hb x
  ·exact hc x
  ·omega
 ·rcases hs.own D ho with x|x
  ·exact hc x
  ·omega
structure RS (N:Nat)(W:World)(F:Nat->Prop)(μ:Mu)(s:St)(a:Act):Prop where
 ts:∀t,Rel W F μ s.σ (s.ts t) (a.tmps.getD t undef)
 defers:gY W F μ s.σ a.defers
 n:a.tmps.size=N
 inv:Inv W F μ s.σ
theorem RS.ev {N:Nat}{W:World}{F:Nat->Prop}{μ:Mu}{s:St}{a:Act}(h:RS N W F μ s a)(x:Operand):Rel W F μ s.σ (s.ev x) (a.eval x):=by
 cases x with
 |tmp t=>exact h.ts t
 |const v=>exact .pure (C6 W F v)
 |global g=>exact .pure (.raw _)
 |func f=>exact .pure (.fn f [] [] [] [] rfl rfl (by simp) (by simp))
theorem so (a:Act)(dst:Option Tmp)(v:Value)(t:Nat):(a.put dst v).tmps.getD t undef=if dst=some t/\t<a.tmps.size then v else a.tmps.getD t undef:=by
 cases dst with
 |none=>simp [Act.put]
 |some d=>
  simp only [Act.put]
  by_cases e:d=t
  ·subst e
   by_cases h:d<a.tmps.size
   ·simp [h]
   ·simp [h]
  ·simp [Array.getElem?_setIfInBounds_ne e,e]
theorem BL (a:Act)(dst:Option Tmp)(v:Value):(a.put dst v).tmps.size=a.tmps.size:=by cases dst <;> simp [Act.put]
theorem ej (a:Act)(dst:Option Tmp)(v:Value):(a.put dst v).defers=a.defers:=by cases dst <;> rfl
theorem RS.put {N:Nat}{W W':World}{F F':Nat->Prop}{μ μ':Mu}{s:St}{σ':Sto}{a:Act}(h:RS N W F μ s a)(hs:Stp W F μ s.σ W' F' μ' σ')(hi:Inv W' F' μ' σ'){dst:Option Tmp}{x:AV}{v:Value}(hx:Rel W' F' μ' σ' x v) :
  RS N W' F' μ' ⟨eH N s.ts dst x,σ'⟩ (a.put dst v):=by
 refine⟨fun t=>?_,by rw [ej];exact h.defers.go hs.q,(BL _ _ _).trans h.n,hi⟩
 show Rel W' F' μ' σ' (eH N s.ts dst x t) _
 rw [pS,so,h.n]
 split
 ·exact hx
 ·exact (h.ts t).stp h.inv hs
structure Eff where
 val:AV
 up:List (Nat × SB)
 rd:List Nat
def Eff.skip:Eff:=⟨.tup [],[],[]⟩
def Eff.ap (E:Eff)(N:Nat)(dst:Option Nat)(s:St):St:=⟨eH N s.ts dst E.val,ups s.σ E.up⟩
def HV (P:Program)(N:Nat)(o:Oper)(s:St)(E:Eff):Prop :=
 ∀W F μ a,RS N W F μ s a->∀(K:Act->World->Prop) (Q:Exit->Act->World->Prop),
  (∀W' F' μ' a',RS N W' F' μ' (E.ap N o.dst s) a'->Stp W F μ s.σ W' F' μ' (ups s.σ E.up)->K a' W')->o.wp P a W K Q
def ax (P:Program)(N:Nat)(o:Oper)(s:St)(E:Eff):Prop :=
 ∀s':St,(∀x∈o.op.operands.toList,s'.ev x=s.ev x)->(∀id∈E.rd,s'.σ id=s.σ id)->(∀p∈E.up,s'.σ p.1=s.σ p.1)->HV P N o s' E
theorem ax.ok {P:Program}{N:Nat}{o:Oper}{s:St}{E:Eff}(h:ax P N o s E):HV P N o s E:=h s (fun _ _=>rfl) (fun _ _=>rfl) (fun _ _=>rfl)
def gdB (want:Bool):AV->Option Bool
 | .b x=>some (x == want)
 | .tup []=>some false
 |_=>none
def nS:Oper->Bool
 |⟨_,.defer _,_,_,_,_⟩=>false
 |⟨_,.call ⟨.invoke _ _,_,_⟩,_,_,_,_⟩=>false
 |⟨_,.call ⟨.builtin .print,_,_⟩,_,_,_,_⟩=>false
 |⟨_,.call ⟨.builtin .println,_,_⟩,_,_,_,_⟩=>false
 |_=>true
def sr:Oper->Bool
 |⟨_,.call ⟨.value _,_,_⟩,_,_,_,_⟩=>true
 |_=>false
def gd0 (ops:Array Oper)(s:St)(o:Oper):Option Bool :=
 match o.guard with
 |none=>some true
 |some (j,want)=>match (ops[j]?).bind (·.dst) with
  |some d=>gdB want (s.ts d)
  |none=>none
def gd (ops:Array Oper)(s:St)(o:Oper):Option Bool:=cond (nS o) (gd0 ops s o) none
theorem GR {ops:Array Oper}{s:St}{o:Oper}{x:Bool}(h:gd ops s o=some x):gd0 ops s o=some x/\nS o=true:=by
 unfold gd at h
 cases hn:nS o with
 |false=>rw [hn] at h;cases h
 |true=>rw [hn] at h;exact⟨h,rfl⟩
def za (ops:Array Oper)(o:Oper):Option Nat :=
 match o.guard with
 |none=>none
 |some (j,_)=>(ops[j]?).bind (·.dst)
section
variable {W:World} {F:Nat -> Prop} {μ:Mu} {σ:Sto} {v:Value}
theorem Rel.b' {z:Bool}(h:Rel W F μ σ (.b z) v):v = .bool z:=by cases h with|pure h=>cases h;rfl
theorem Rel.i' {k:IntKind}{n:Int}(h:Rel W F μ σ (.i k n) v):v = .int k n:=by cases h with|pure h=>cases h;rfl
theorem Rel.u' {x:UInt64}(h:Rel W F μ σ (.u x) v):v = .int .u64 x.toNat:=by cases h with|pure h=>cases h;rfl
theorem Rel.y' {x:UInt8}(h:Rel W F μ σ (.y x) v):v = .int .u8 x.toNat:=by cases h with|pure h=>cases h;rfl
theorem Rel.s' {l:List UInt8}(h:Rel W F μ σ (.s l) v):v = .string ⟨l.toArray⟩:=by cases h with|pure h=>cases h;rfl
theorem Rel.raw' {x:Value}(h:Rel W F μ σ (.raw x) v):v=x:=by cases h with|pure h=>cases h;rfl
theorem Rel.tup' {cs:List AV}(h:Rel W F μ σ (.tup cs) v):∃vs:List Value,v = .tuple vs.toArray/\vs.length=cs.length/\∀(j:Nat) (x:AV) (u:Value),cs[j]?=some x->vs[j]?=some u->Rel W F μ σ x u:=by
 cases h with
 |pure h=>cases h with|tup _ vs hl hr=>exact⟨vs,rfl,hl,fun j x u h1 h2=>.pure (hr j x u h1 h2)⟩
 |tup _ vs hl hr=>exact⟨vs,rfl,hl,hr⟩
theorem Rel.agg' {cs:List AV}(h:Rel W F μ σ (.agg cs) v):∃vs:List Value,v = .agg vs.toArray/\vs.length=cs.length/\(∀(j:Nat) (x:AV),cs[j]?=some x->x.one=true)/\∀(j:Nat) (x:AV) (u:Value),cs[j]?=some x->vs[j]?=some u->Rel W F μ σ x u:=by
 cases h with
 |pure h=>cases h with|agg _ vs hl h1 hr=>exact⟨vs,rfl,hl,h1,fun j x u h1 h2=>.pure (hr j x u h1 h2)⟩
 |agg _ vs hl h1 hr=>exact⟨vs,rfl,hl,h1,hr⟩
theorem Rel.fn' {f:FuncId}{first caps:List AV}(h:Rel W F μ σ (.fn f first caps) v):∃fs cs:List Value,v = .func (.func f) fs.toArray cs.toArray/\fs.length=first.length/\cs.length=caps.length/\(∀(j:Nat) (x:AV) (u:Value),first[j]?=some x->fs[j]?=some u->Rel W F μ σ x u)/\∀(j:Nat) (x:AV) (u:Value),caps[j]?=some x->cs[j]?=some u->Rel W F μ σ x u:=by
 cases h with
 |pure h=>cases h with|fn _ _ _ fs cs hf hc hr hr'=>exact⟨fs,cs,rfl,hf,hc,fun j x u h1 h2=>.pure (hr j x u h1 h2),fun j x u h1 h2=>.pure (hr' j x u h1 h2)⟩
 |fn _ _ _ fs cs hf hc hr hr'=>exact⟨fs,cs,rfl,hf,hc,hr,hr'⟩
theorem Rel.sl' {els:List (List AV)}(h:Rel W F μ σ (.sl els) v):au W F (.sl els) v:=by cases h with|pure h=>exact h
theorem Rel.ro' {cs:List AV}(h:Rel W F μ σ (.ro cs) v):au W F (.ro cs) v:=by cases h with|pure h=>exact h
end
theorem i7 {ops:Array Oper}{N:Nat}{W:World}{F:Nat->Prop}{μ:Mu}{s:St}{a:Act}{o:Oper}{x:Bool}(h:RS N W F μ s a)(hg:gd ops s o=some x):Region.wanted o (yielded ops a.tmps)=x:=by
 replace hg:=(GR hg).1
 unfold gd0 at hg
 unfold Region.wanted
 split at hg
 ·rename_i e
  rw [e]
  injection hg
 ·rename_i j want e
  rw [e]
  show (yielded ops a.tmps j == some want)=x
  split at hg
  ·rename_i d hd
   have ht:=h.ts d
   unfold yielded
   rw [hd]
   simp only [Option.bind_some]
   generalize s.ts d=y at *
   cases y with
   |b z=>
    simp only [gdB,qU] at hg
    have hv:a.tmps.getD d undef = .bool z:=ht.b'
    have:a.tmps[d]?=some (.bool z):=by
     cases hq:a.tmps[d]? with
     |none=>
      rw [vU,hq] at hv
      cases hv
     |some q=>
      rw [vU,hq] at hv
      rw [<- hv]
      rfl
    rw [this]
    exact hg
   |tup l=>
    cases l with
    |cons=>simp [gdB] at hg
    |nil=>
     simp only [gdB,qU] at hg
     have hv:a.tmps.getD d undef = .tuple #[]:=by
      obtain⟨vs,e,hl,_⟩:=ht.tup'
      rw [e,uD.1 hl]
     subst hg
     cases hq:a.tmps[d]? with
     |none=>rfl
     |some q=>
      rw [vU,hq] at hv
      simp only [Option.getD_some] at hv
      subst hv
      rfl
   |_=>simp [gdB] at hg
  ·cases hg
def mo (ro:Option Nat):Fence:={ Fence.wide with round:=ro }
theorem zG {o:Oper}(h:nS o=true):∀c,o.op≠.defer c:=by
 obtain⟨dst,op,ty,pos,after,guard⟩:=o
 cases op with
 |defer c=>cases h
 |_=>intro c hc;cases hc
theorem Bs {n:Nat}{P:Program}{f:FuncId}{args:Array Value}{w:World}{R:Ending->World->Prop}(ro:Option Nat):CallsIn (mo ro) n P f args w R↔Calls P f args w R:=callsIn_wide (n:=n)
theorem kU {P:Program}{o:Oper}{c:Call}{fop:Operand}(ho:o.op = .call c)(hc:c.callee = .value fop){a:Act}{g:FuncId}{fs cs:List Value}(hf:a.eval fop = .func (.func g) fs.toArray cs.toArray)
  {fn : Func} {bd : Code} (h1 : P.funcs[g]? = some fn) (h2 : fn.body = some bd) (h3 : (fn.name == "runtime.NumGoroutine") = false) (W : World) :
  (execOp a.eval o).run P W = .ok (.enter g (fs++(c.args.toList.map a.eval++cs)).toArray) W:=by
 obtain⟨dst,op,ty,pos,after,guard⟩:=o
 simp only at ho
 subst ho
 have h3' : ¬ fn.name = "runtime.NumGoroutine" := by simpa using h3
 have e:(fs.toArray++c.args.map a.eval++cs.toArray:Array Value)=(fs++(c.args.toList.map a.eval++cs)).toArray:=by
  apply Array.toList_inj.1
  simp
 simp [execOp,resolve,hc,hf,Deferred.ofValue,invoke,callFunc,program,h1,h2,h3',e,Sem.run]
def Cbd (P:Program)(o:Oper)(s:St):Prop :=
 sr o = false \/ (∃ (c : Call) (fop : Operand) (f : FuncId) (x y : List AV) (fn : Func) (bd : Code), o.op = .call c /\ c.callee = .value fop /\ s.ev fop = .fn f x y /\ P.funcs[f]? = some fn /\ fn.body = some bd /\ (fn.name == "runtime.NumGoroutine") = false) \/
 ∃ (c : Call) (f : FuncId) (fn : Func) (e : Array Value -> Sem Value), o.op = .call c /\ c.callee = .value (.func f) /\ P.funcs[f]? = some fn /\ (fn.name == "runtime.NumGoroutine") = false /\ fn.body.isNone = true /\ Extern.findNext fn = none /\ Extern.find fn = some e
theorem EW {P:Program}{W W':World}{s:Sem Value}{d:Deferred}:Sem.run P (do pure (Next.value (<- s)):Sem Next) W = .ok (.defer d) W'->False:=by
 intro h
 rw [kA2] at h
 cases hs:s.run P W with
 |ok x w=>rw [hs] at h;simp [Result.andThen] at h
 |halt x w=>rw [hs] at h;simp [Result.andThen] at h
theorem Hy {P:Program}{W W':World}{s:Sem Unit}{d:Deferred}:Sem.run P (do s;pure Next.skip:Sem Next) W = .ok (.defer d) W'->False:=by
 intro h
 rw [kA2] at h
 cases hs:s.run P W with
 |ok x w=>rw [hs] at h;simp [Result.andThen] at h
 |halt x w=>rw [hs] at h;simp [Result.andThen] at h
theorem Bw {P:Program}{W W':World}{α:Type}{s:Sem α}{f:α->Next}{d:Deferred}(hf:∀a,f a≠.defer d):Sem.run P (do pure (f (<- s)):Sem Next) W = .ok (.defer d) W'->False:=by
 intro h
 rw [kA2] at h
 cases hs:s.run P W with
 |ok x w=>
  rw [hs] at h
  simp only [Result.andThen,kA3,Result.ok.injEq] at h
  exact hf _ h.1
 |halt x w=>rw [hs] at h;simp [Result.andThen] at h
theorem zm {P:Program}{W W':World}{α:Type}{s:Sem α}{f:α->Sem Next}{d:Deferred}(hf:∀a w,(f a).run P w = .ok (.defer d) W'->False):Sem.run P (s >>= f) W = .ok (.defer d) W'->False:=by
 intro h
 rw [kA2] at h
 cases hs:s.run P W with
 |ok x w=>rw [hs] at h;exact hf _ _ h
 |halt x w=>rw [hs] at h;simp [Result.andThen] at h
theorem sZ {P:Program}{N:Nat}{W W':World}{F:Nat->Prop}{μ:Mu}{s:St}{a:Act}{o:Oper}{d:Deferred}(hr:RS N W F μ s a)(hd:nS o=true)(hb:Cbd P o s):(execOp a.eval o).run P W≠.ok (.defer d) W':=by
 rcases hb with hv|⟨c,fop,f,x,y,fn,bd,h1,h2,h3,h4,h5,h6⟩|⟨c,f,fn,e,h1,h2,h3,h4,h5,h6,h7⟩
 ·intro h
  obtain⟨dst,op,ty,pos,after,guard⟩:=o
  cases op with
  |call c=>
   obtain⟨callee,args,at'⟩:=c
   cases callee with
   |value f=>cases hv
   |invoke r n=>cases hd
   |builtin b=>
    cases b <;> first|(cases hd;done)|exact EW h|(simp [execOp,resolve,invoke,builtin,stuck,unsupported] at h;done)|exact Bw (fun _ h=>by cases h) h
  |defer c=>cases hd
  |nilCheck x=>
   simp only [execOp] at h
   split at h <;> first|(simp [runtimePanic] at h;done)|skip
   split at h <;> first|(simp [runtimePanic] at h;done)|skip
   refine zm (fun b w hb=>?_) h
   revert hb
   refine zm fun c w hb=>?_
   split at hb
   ·simp [unsupported] at hb
   ·simp at hb
  |_=>first
   |exact EW h
   |exact Hy h
   |exact Bw (fun _ h=>by cases h) h
   |(simp [execOp] at h;done)
   |(refine zm (fun b w hb=>?_) h;first|(simp at hb;done)|(split at hb <;> first|exact Bw (fun _ h=>by cases h) hb|(simp [stuck] at hb;done)))
 ·have hfv:=hr.ev fop
  rw [h3] at hfv
  obtain⟨fs,cs,hfe,_⟩:=hfv.fn'
  rw [kU h1 h2 hfe h4 h5 h6]
  intro h
  cases h
 ·obtain⟨dst,op,ty,pos,after,guard⟩:=o
  simp only at h1
  subst h1
  intro h
  have e0:(execOp a.eval ⟨dst,.call c,ty,pos,after,guard⟩).run P W=(callFunc f (c.args.map a.eval)).run P W:=by
   have ef:a.eval (.func f) = .func (.func f) #[] #[]:=rfl
   simp [execOp,resolve,h2,ef,Deferred.ofValue,invoke]
  rw [e0,run_callFunc_extern h3 h4 h5 h6 h7] at h
  cases hs:(e (c.args.map a.eval)).run P W with
  |ok x w=>rw [hs] at h;simp [Result.andThen] at h
  |halt x w=>rw [hs] at h;simp [Result.andThen] at h
theorem Cbd.like {P:Program}{o:Oper}{s s':St}(h:Cbd P o s)(hev:∀x∈o.op.operands.toList,s'.ev x=s.ev x):Cbd P o s':=by
 rcases h with h|⟨c,fop,f,x,y,fn,bd,h1,h2,h3,h4,h5,h6⟩|h
 ·exact .inl h
 rotate_left
 ·exact .inr (.inr h)
 ·refine .inr (.inl ⟨c,fop,f,x,y,fn,bd,h1,h2,(hev fop ?_).trans h3,h4,h5,h6⟩)
  rw [h1]
  simp [Op.operands,Call.operands,h2]
theorem EN {P:Program}{N:Nat}{ro:Option Nat}{o:Oper}{s:St}{a:Act}{W:World}{F:Nat->Prop}{μ:Mu}{K:Act->World->Prop}{Q:Exit->Act->World->Prop}(hrs:RS N W F μ s a)(hd:nS o=true)(hb:Cbd P o s)(h:o.wp P a W (fun a' W'=>a'.defers=a.defers->K a' W') Q):o.wpIn (mo ro) 0 P a W K Q:=by
 refine⟨fun _ _=>trivial,?_⟩
 have e:Oper.semAt (mo ro).round a.eval o=execOp a.eval o:=by
  cases ro with
  |none=>rfl
  |some l=>exact Oper.semAt_some l _ _ (zG hd)
 rw [e]
 unfold Oper.wp at h
 generalize hr:(execOp a.eval o).run P W=r at *
 cases r with
 |ok x w'=>
  cases x <;> simp only [Oper.upon,Oper.uponIn] at h ⊢ <;>
   first
    |exact h (ej _ _ _)
    |exact⟨fun x=>(by cases x),(Bs ro).2 (Calls.mono h fun e w'' he=>by cases e <;> first|exact he (ej _ _ _)|exact he)⟩
    |exact⟨fun x=>(by cases x),fun c cs _=>let ⟨v,w'',q,st⟩:=h c cs;⟨v,w'',q (ej _ _ _),stepsIn_wide.2 st⟩⟩
    |exact h.elim
    |exact (sZ hrs hd hb hr).elim
 |halt x w'=>cases x <;> simp only [Oper.upon,Oper.uponIn] at h ⊢ <;> exact h
inductive gj (P:Program)(N:Nat)(ops:Array Oper):List Oper->St->List Eff->St->Prop where
 |nil (s:St):gj P N ops [] s [] s
 |op {o:Oper} {rest:List Oper} {s s':St} {E:Eff} {Es:List Eff} (hg:gd ops s o=some true) (hb:Cbd P o s) (h:ax P N o s E) (hr:gj P N ops rest (E.ap N o.dst s) Es s'):gj P N ops (o::rest) s (E::Es) s'
 |skip {o:Oper} {rest:List Oper} {s s':St} {Es:List Eff} (hg:gd ops s o=some false) (hr:gj P N ops rest (Eff.skip.ap N o.dst s) Es s'):gj P N ops (o::rest) s (Eff.skip::Es) s'
theorem RS.skip {N:Nat}{W:World}{F:Nat->Prop}{μ:Mu}{s:St}{a:Act}(h:RS N W F μ s a)(dst:Option Tmp):RS N W F μ (Eff.skip.ap N dst s) (a.put dst undef) :=
 h.put (Stp.refl _ _ _ _) h.inv (.pure (.tup [] [] rfl (by simp)))
theorem vi {P:Program}{N:Nat}{ops:Array Oper}{l:List Oper}{s s':St}{Es:List Eff}(h:gj P N ops l s Es s') :
  ∀(W:World) F μ a,RS N W F μ s a->∀(ro:Option Nat) (Q:Exit->Act->World->Prop),(∀W' F' μ' a',RS N W' F' μ' s' a'->Stp W F μ s.σ W' F' μ' s'.σ->a'.defers=a.defers->Q .normal a' W')->wpListIn (mo ro) 0 P ops Q l a W:=by
 induction h with
 |nil s=>exact fun W F μ a hr ro Q hq=>hq W F μ a hr (Stp.refl _ _ _ _) rfl
 |op hg hb h _ ih=>
  intro W F μ a hr ro Q hq
  unfold wpListIn
  rw [if_pos (i7 hr hg)]
  exact EN hr (GR hg).2 hb (h.ok W F μ a hr _ _ fun W' F' μ' a' hr' hs hd=>ih W' F' μ' a' hr' ro Q fun W'' F'' μ'' a'' hr'' hs' hd'=>hq W'' F'' μ'' a'' hr'' (hs.trans hs') (hd'.trans hd))
 |skip hg _ ih=>
  intro W F μ a hr ro Q hq
  unfold wpListIn
  rw [if_neg (by rw [i7 hr hg];simp)]
  exact⟨fun _ _=>trivial,ih W F μ _ (hr.skip _) ro Q fun W' F' μ' a' h1 h2 h3=>hq W' F' μ' a' h1 h2 (h3.trans (ej _ _ _))⟩
def stX (N:Nat):List (Oper × Eff)->(Nat->Bool)->Nat->St->St
 |[],_,_,s=>s
 |p::l,X,k,s=>stX N l X (k+1) (cond (X k) (p.2.ap N p.1.dst s) s)
theorem gp {N:Nat}{l:List (Oper × Eff)}{X Y:Nat->Bool}{k:Nat}{s:St}(h:∀j,k<=j->j<k+l.length->X j=Y j):stX N l X k s=stX N l Y k s:=by
 induction l generalizing k s with
 |nil=>rfl
 |cons p l ih=>
  rw [stX,stX,h k (qJ _) (by simp),ih fun j h1 h2=>h j (by omega) (by simp only [qS];omega)]
theorem nR {N:Nat}{l:List (Oper × Eff)}{X:Nat->Bool}{k:Nat}{s:St}(h:∀j,k<=j->X j=false):stX N l X k s=s:=by
 induction l generalizing k s with
 |nil=>rfl
 |cons p l ih=>rw [stX,h k (qJ _),cond_false,ih fun j hj=>h j (by omega)]
theorem oh (E:Eff)(N:Nat)(dst:Option Nat)(s:St)(t:Nat):(E.ap N dst s).ts t=if dst=some t/\t<N then E.val else s.ts t:=pS _ _ _ _ _
theorem FR {N:Nat}{t:Nat}{l:List (Oper × Eff)}{X Y:Nat->Bool}{k:Nat}{s s':St}(h:∀i p,l[i]?=some p->p.1.dst=some t->X (k+i)=Y (k+i))(hs:s.ts t=s'.ts t):(stX N l X k s).ts t=(stX N l Y k s').ts t:=by
 induction l generalizing k s s' with
 |nil=>exact hs
 |cons p l ih=>
  rw [stX,stX]
  refine ih (fun i q hq hd=>?_) ?_
  ·have:=h (i+1) q (by simpa using hq) hd
   rwa [show k+(i+1)=k+1+i by omega] at this
  ·by_cases e:p.1.dst=some t
   ·have:=h 0 p rfl e
    rw [Nat.add_zero] at this
    rw [this]
    cases Y k
    ·exact hs
    ·rw [cond_true,cond_true,oh,oh,hs]
   ·have ho (x:Bool) (s:St):(cond x (p.2.ap N p.1.dst s) s).ts t = s.ts t := by
     cases x
     ·rfl
     ·rw [cond_true,oh,if_neg fun h=>e h.1]
    rw [ho,ho,hs]
theorem Ie {N:Nat}{id:Nat}{l:List (Oper × Eff)}{X Y:Nat->Bool}{k:Nat}{s s':St}(h:∀i p,l[i]?=some p->(∃q∈p.2.up,q.1=id)->X (k+i)=Y (k+i))(hs:s.σ id=s'.σ id):(stX N l X k s).σ id=(stX N l Y k s').σ id:=by
 induction l generalizing k s s' with
 |nil=>exact hs
 |cons p l ih=>
  rw [stX,stX]
  refine ih (fun i q hq hd=>?_) ?_
  ·have:=h (i+1) q (by simpa using hq) hd
   rwa [show k+(i+1)=k+1+i by omega] at this
  ·by_cases e:∃q∈p.2.up,q.1=id
   ·have:=h 0 p rfl e
    rw [Nat.add_zero] at this
    rw [this]
    cases Y k
    ·exact hs
    ·exact AN e
   ·have ho (x:Bool) (s:St):(cond x (p.2.ap N p.1.dst s) s).σ id = s.σ id := by
     cases x
     ·rfl
     ·exact mz fun q hq he=>e ⟨q,hq,he⟩
    rw [ho,ho,hs]
theorem Cm {N:Nat}{E G:Eff}{d e:Option Nat}{s:St}(h1:∀t,d=some t->e≠some t)(h2:∀p∈E.up,∀q∈G.up,p.1≠q.1):G.ap N e (E.ap N d s)=E.ap N d (G.ap N e s):=by
 refine St.ext' (fun t=>?_) (fun id=>?_)
 ·rw [oh,oh,oh,oh]
  by_cases hd:d=some t/\t<N
  ·have he:¬(e=some t/\t<N):=fun h=>h1 t hd.1 h.1
   rw [if_neg he,if_pos hd,if_pos hd]
  ·rw [if_neg hd,if_neg hd]
 ·show ups (ups s.σ E.up) G.up id=ups (ups s.σ G.up) E.up id
  by_cases hG:∃q∈G.up,q.1=id
  ·have hE:∀p∈E.up,p.1≠id:=fun p hp e=>by
    obtain⟨q,hq,e'⟩:=hG
    exact h2 p hp q hq (e.trans e'.symm)
   rw [mz hE]
   exact AN hG
  ·have hG':∀q∈G.up,q.1≠id:=fun q hq e=>hG ⟨q,hq,e⟩
   rw [mz hG']
   exact o4 (mz hG').symm
theorem Fp {N:Nat}{E:Eff}{d:Option Nat}{l:List (Oper × Eff)}{X:Nat->Bool}{k:Nat}{s:St}
  (h:∀i p,l[i]?=some p->X (k+i)=true->(∀t,d=some t->p.1.dst≠some t)/\∀q∈E.up,∀r∈p.2.up,q.1≠r.1):stX N l X k (E.ap N d s)=E.ap N d (stX N l X k s):=by
 induction l generalizing k s with
 |nil=>rfl
 |cons p l ih=>
  rw [stX,stX]
  have h':∀i q,l[i]?=some q->X (k+1+i)=true->(∀t,d=some t->q.1.dst≠some t)/\∀x∈E.up,∀r∈q.2.up,x.1≠r.1:=fun i q hq hx=>
   h (i+1) q (by simpa using hq) (by rwa [show k+(i+1)=k+1+i by omega])
  cases hx:X k with
  |false=>exact ih h'
  |true=>
   obtain⟨g1,g2⟩:=h 0 p rfl (by simpa using hx)
   rw [cond_true,cond_true,Cm g1 g2,ih h']
theorem EG {N:Nat}{l:List (Oper × Eff)}{X:Nat -> Bool}{k i:Nat}{s:St}{p:Oper × Eff}(hp:l[i]? = some p)(hX:X (k + i) = false)
  (h:∀j q,i<j->l[j]?=some q->X (k+j)=true->(∀t,p.1.dst=some t->q.1.dst≠some t)/\∀x∈p.2.up,∀r∈q.2.up,x.1≠r.1) :
  stX N l (fun j=>X j || j == k+i) k s=p.2.ap N p.1.dst (stX N l X k s):=by
 induction l generalizing k i s with
 |nil=>cases hp
 |cons q l ih=>
  cases i with
  |zero=>
   obtain rfl:q=p:=by simpa using hp
   rw [stX,stX]
   rw [show X k=false from hX]
   simp only [Nat.add_zero,beq_self_eq_true,Bool.or_true,cond_true,cond_false]
   rw [<- Fp (k:=k+1)]
   ·exact gp fun j h1 _=>by
     have:(j == k)=false:=by simp;omega
     rw [this,Bool.or_false]
   ·intro j r hr hx
    exact h (j+1) r (by omega) (by simpa using hr) (by rwa [show k+(j+1)=k+1+j by omega])
  |succ i=>
   rw [stX,stX]
   have e:(k == k+(i+1))=false:=by simp
   rw [e,Bool.or_false]
   have h':=ih (k:=k+1) (i:=i) (s:=cond (X k) (q.2.ap N q.1.dst s) s) (by simpa using hp) (by rwa [show k+1+i=k+(i+1) by omega]) fun j r hj hr hx=>
    h (j+1) r (by omega) (by simpa using hr) (by rwa [show k+(j+1)=k+1+j by omega])
   rw [<- h']
   exact gp fun j _ _=>by rw [show k+1+i=k+(i+1) by omega]
def Cy (P:Program)(N:Nat)(ops:Array Oper)(p:Oper × Eff)(s:St):Prop :=
 (gd ops s p.1=some true/\Cbd P p.1 s/\ax P N p.1 s p.2)\/(gd ops s p.1=some false/\p.2=Eff.skip)
theorem sQ {P:Program}{N:Nat}{ops:Array Oper}{l:List Oper}{s s':St}{Es:List Eff}(h:gj P N ops l s Es s') :
  Es.length=l.length/\(∀k X,(∀j,X j=true)->stX N (l.zip Es) X k s=s')/\∀k i p,(l.zip Es)[i]?=some p->Cy P N ops p (stX N (l.zip Es) (fun j=>decide (j<k+i)) k s):=by
 have main:∀{o:Oper} {E:Eff} {rest:List Oper} {Es:List Eff} {s s':St},Cy P N ops (o,E) s ->
   (Es.length=rest.length/\(∀k X,(∀j,X j=true)->stX N (rest.zip Es) X k (E.ap N o.dst s)=s')/\∀k i p,(rest.zip Es)[i]?=some p->Cy P N ops p (stX N (rest.zip Es) (fun j=>decide (j<k+i)) k (E.ap N o.dst s))) ->
   ((E::Es).length=(o::rest).length/\(∀k X,(∀j,X j=true)->stX N ((o::rest).zip (E::Es)) X k s=s')/\∀k i p,((o::rest).zip (E::Es))[i]?=some p->Cy P N ops p (stX N ((o::rest).zip (E::Es)) (fun j=>decide (j<k+i)) k s)):=by
  intro o E rest Es s s' hf ⟨h1,h2,h3⟩
  refine⟨by simp [h1],fun k X hX=>?_,fun k i p hp=>?_⟩
  ·rw [List.zip_cons_cons,stX,hX k,cond_true]
   exact h2 (k+1) X hX
  ·rw [List.zip_cons_cons] at hp ⊢
   cases i with
   |zero=>
    obtain rfl:(o,E)=p:=by simpa using hp
    rw [nR fun j hj=>by simp;omega]
    exact hf
   |succ i=>
    rw [stX]
    have:decide (k<k+(i+1))=true:=by simp
    rw [this,cond_true]
    have:=h3 (k+1) i p (by simpa using hp)
    rwa [show k+1+i=k+(i+1) by omega] at this
 induction h with
 |nil s=>exact⟨rfl,fun _ _ _=>rfl,fun k i p hp=>by simp at hp⟩
 |op hg hb h _ ih=>exact main (.inl ⟨hg,hb,h⟩) ih
 |skip hg _ ih=>exact main (.inr ⟨hg,rfl⟩) ih
def BC (o:Oper):List Nat:=o.op.operands.toList.filterMap fun | .tmp t=>some t|_=>none
def sC (ops:Array Oper)(o:Oper):List Nat:=(za ops o).toList++BC o
def ids (E:Eff):List Nat:=E.up.map (·.1)
def ig (ops:Array Oper)(p q:Oper × Eff):Bool :=
 (match q.1.dst with|some d=>(sC ops p.1).contains d || p.1.dst == some d|none=>false) ||
 (match p.1.dst with|some d=>(sC ops q.1).contains d|none=>false) ||
 (ids q.2).any (fun id=>p.2.rd.contains id || (ids p.2).contains id) || (ids p.2).any (fun id=>q.2.rd.contains id)
def og (ops:Array Oper)(j i:Nat):Prop:=∃o e,ops[j]?=some o/\e∈o.after/\Region.binds .any e=true/\e.on=i
inductive Anc (ops:Array Oper):Nat->Nat->Prop where
 |one {j i:Nat} (h:og ops j i):Anc ops j i
 |more {j k i:Nat} (h:og ops j k) (r:Anc ops k i):Anc ops j i
def wQ:List Oper->List Nat->List Nat
 |[],acc=>acc
 |o::l,acc=>wQ l (acc++[o.after.toList.foldl (fun m e=>cond (Region.binds .any e) (m ||| (1 <<< e.on) ||| acc.getD e.on 0) m) 0])
theorem s6 {acc:List Nat}{i:Nat}:∀ {l:List Edge} {m:Nat},(l.foldl (fun m e=>cond (Region.binds .any e) (m ||| (1 <<< e.on) ||| acc.getD e.on 0) m) m).testBit i = true ->
  m.testBit i=true\/∃e∈l,Region.binds .any e=true/\(e.on=i\/(acc.getD e.on 0).testBit i=true)
 |[],m,h=>.inl h
 |e::l,m,h=>by
  rw [uY] at h
  rcases s6 h with h|⟨e',h1,h2⟩
  ·cases hb:Region.binds .any e with
   |false=>rw [hb,cond_false] at h;exact .inl h
   |true=>
    rw [hb,cond_true,Nat.testBit_or,Nat.testBit_or,Bool.or_eq_true,Bool.or_eq_true] at h
    rcases h with (h|h)|h
    ·exact .inl h
    ·refine .inr ⟨e,by simp,hb,.inl ?_⟩
     rw [Nat.one_shiftLeft,Nat.testBit_two_pow] at h
     exact of_decide_eq_true h
    ·exact .inr ⟨e,by simp,hb,.inr h⟩
  ·exact .inr ⟨e',by simp [h1],h2⟩
theorem lQ {ops:Array Oper}:∀(l:List Oper) (acc:List Nat),(∀j,l[j]?=ops[acc.length+j]?)->(∀j i,(acc.getD j 0).testBit i=true->Anc ops j i)->∀j i,((wQ l acc).getD j 0).testBit i=true->Anc ops j i
 |[],acc,_,h=>h
 |o::l,acc,hl,h=>by
  rw [wQ]
  refine lQ l _ (fun j=>?_) (fun j i hj=>?_)
  ·have:=hl (j+1)
   rw [qK,vP,Nat.add_assoc,Nat.add_comm 1 j,<- this]
   rfl
  ·rcases Nat.lt_trichotomy j acc.length with hlt|rfl|hgt
   ·refine h j i ?_
    simpa [qM,List.getElem?_append_left hlt] using hj
   ·have ho:ops[acc.length]?=some o:=by have:=hl 0;simpa using this.symm
    rw [qM,List.getElem?_append_right (qJ _),Nat.sub_self] at hj
    rcases s6 hj with h0|⟨e,h1,h2,h3⟩
    ·simp at h0
    ·have he:og ops acc.length e.on:=⟨o,e,ho,by simpa using h1,h2,rfl⟩
     rcases h3 with h3|h3
     ·exact .one (h3 ▸ he)
     ·exact .more he (h _ _ h3)
   ·have:((acc ++ [o.after.toList.foldl (fun m e=>cond (Region.binds .any e) (m ||| (1 <<< e.on) ||| acc.getD e.on 0) m) 0]).getD j 0) = 0 := by
     rw [qM,vX (by simp;omega)]
     rfl
    rw [this] at hj
    simp at hj
def dC (ops:Array Oper)(L:List (Oper × Eff)):Bool :=
 let m:=wQ ops.toList []
 (ops.toList.zipIdx.all fun p=>p.1.after.toList.all fun e=>!Region.binds .any e || Nat.blt e.on p.2) &&
 L.zipIdx.all fun q=>L.zipIdx.all fun p=>!(Nat.blt p.2 q.2) || !ig ops p.1 q.1 || (m.getD q.2 0).testBit p.2
theorem gR {ops:Array Oper}{L:List (Oper × Eff)}(h:dC ops L=true){j i:Nat}(he:og ops j i):i<j:=by
 simp only [dC,qQ,qV,Bool.or_eq_true,Bool.not_eq_true'] at h
 obtain⟨o,e,h1,h2,h3,rfl⟩:=he
 have h4:=h.1 (o,j) (by rw [List.mem_zipIdx_iff_getElem?];simpa using h1) e (by simpa using h2)
 rw [h3] at h4
 simpa using h4
theorem fT {ops:Array Oper}{L:List (Oper × Eff)}(h:dC ops L=true){i j:Nat}{p q:Oper × Eff}(hp:L[i]?=some p)(hq:L[j]?=some q)(hij:i<j)(hc:ig ops p q=true):Anc ops j i:=by
 simp only [dC,qQ,qV,Bool.or_eq_true,Bool.not_eq_true'] at h
 have h4:=h.2 (q,j) (by rw [List.mem_zipIdx_iff_getElem?];exact hq) (p,i) (by rw [List.mem_zipIdx_iff_getElem?];exact hp)
 have hb:Nat.blt i j=true:=by simpa using hij
 rw [hb,hc] at h4
 refine lQ ops.toList [] (fun k=>by simp) (fun k i hk=>by simp at hk) j i ?_
 simpa using h4
def unl (X:Nat->Bool):Nat->Nat
 |0=>0
 |n+1=>unl X n+cond (X n) 0 1
theorem zw {X Y:Nat->Bool}(h:∀j,X j=true->Y j=true):∀n,unl Y n<=unl X n
 |0=>qJ _
 |n+1=>by
  have:=zw h n
  rw [unl,unl]
  cases hx:X n with
  |true=>rw [h n hx];simpa using this
  |false=>cases Y n <;> simp <;> omega
theorem AO {X Y:Nat->Bool}(h:∀j,X j=true->Y j=true){i:Nat}(h1:X i=false)(h2:Y i=true):∀n,i<n->unl Y n<unl X n
 |0,hi=>absurd hi (uO _)
 |n+1,hi=>by
  rw [unl,unl]
  by_cases e:i=n
  ·subst e
   have:=zw h i
   rw [h1,h2]
   simp
   omega
  ·have:=AO h h1 h2 n (by omega)
   cases hx:X n with
   |true=>rw [h n hx];simpa using this
   |false=>cases Y n <;> simp <;> omega
theorem kL {X:Nat->Bool}:∀n,unl X n=0->∀j,j<n->X j=true
 |0,_,j,hj=>absurd hj (uO _)
 |n+1,h,j,hj=>by
  rw [unl] at h
  by_cases e:j=n
  ·subst e
   cases hx:X j with
   |true=>rfl
   |false=>rw [hx] at h;simp at h
  ·exact kL n (by omega) j (by omega)
theorem wh {X:Nat->Bool}:∀n,unl X n≠0->∃j,j<n/\X j=false/\∀i,i<j->X i=true
 |0,h=>absurd rfl h
 |n+1,h=>by
  by_cases h0:unl X n=0
  ·rw [unl,h0] at h
   refine⟨n,by omega,?_,kL n h0⟩
   cases hx:X n with
   |false=>rfl
   |true=>rw [hx] at h;simp at h
  ·obtain⟨j,h1,h2,h3⟩:=wh n h0
   exact⟨j,by omega,h2,h3⟩
theorem DO {s s':St}{x:Operand}(h:∀t,x = .tmp t->s'.ts t=s.ts t):s'.ev x=s.ev x:=by
 cases x with
 |tmp t=>exact h t rfl
 |_=>rfl
theorem DB {ops:Array Oper}{o:Oper}{s s':St}(h:∀t,za ops o=some t->s'.ts t=s.ts t):gd ops s' o=gd ops s o:=by
 unfold gd
 congr 1
 unfold gd0
 unfold za at h
 cases hg:o.guard with
 |none=>rfl
 |some jw=>
  obtain⟨j,want⟩:=jw
  rw [hg] at h
  simp only at h ⊢
  cases hd:(ops[j]?).bind (·.dst) with
  |none=>rfl
  |some d=>simp only;rw [h d hd]
theorem yb {P:Program}{N:Nat}{ops:Array Oper}{s s':St}{Es:List Eff}(hc:gj P N ops ops.toList s Es s')(hok:dC ops (ops.toList.zip Es) = true)
  {W0:World} {F0:Nat->Prop} {μ0:Mu} {d0:List Deferred} {ro:Option Nat} {Q:Exit->Act->World->Prop} (hQ:∀W' F' μ' a',RS N W' F' μ' s' a'->Stp W0 F0 μ0 s.σ W' F' μ' s'.σ->a'.defers=d0->Q .normal a' W') :
  ∀(fuel:Nat) (listed:Array Bool) (W:World) F μ a,a.defers=d0->listed.size=ops.size->unl (fun j=>listed.getD j true) ops.size<=fuel ->
   (∀j i,og ops j i->listed.getD j true=true->j<ops.size->listed.getD i true=true) ->
   RS N W F μ (stX N (ops.toList.zip Es) (fun j=>listed.getD j true) 0 s) a->Stp W0 F0 μ0 s.σ W F μ (stX N (ops.toList.zip Es) (fun j=>listed.getD j true) 0 s).σ ->
   wpAnyIn (mo ro) 0 P .any ops Q fuel listed a W:=by
 obtain⟨hlen,hfin,hfact⟩:=sQ hc
 have hL:(ops.toList.zip Es).length=ops.size:=by simp [hlen]
 -- all listed: the end
 have fin:∀ (listed:Array Bool) (W:World) F μ a,a.defers = d0 -> (∀ j,j < ops.size -> listed.getD j true = true) ->
   RS N W F μ (stX N (ops.toList.zip Es) (fun j=>listed.getD j true) 0 s) a->Stp W0 F0 μ0 s.σ W F μ (stX N (ops.toList.zip Es) (fun j=>listed.getD j true) 0 s).σ->Q .normal a W:=by
  intro listed W F μ a hd0 hall hr hs
  have e:stX N (ops.toList.zip Es) (fun j=>listed.getD j true) 0 s=s':=by
   rw [<- hfin 0 (fun _=>true) fun _=>rfl]
   exact gp fun j _ hj=>hall j (by omega)
  rw [e] at hr hs
  exact hQ W F μ a hr hs hd0
 have ready0:∀(listed:Array Bool),listed.size=ops.size->Region.ready .any ops listed=[]->unl (fun j=>listed.getD j true) ops.size=0:=by
  intro listed hsz hr
  refine Classical.byContradiction fun hne=>?_
  obtain⟨j,h1,h2,h3⟩:=wh _ hne
  have:j∈Region.ready .any ops listed:=by
   rw [mem_ready]
   refine⟨h2,ops[j],uL h1,fun e he hb=>?_⟩
   have hlt:=gR hok ⟨ops[j],e,uL h1,he,hb,rfl⟩
   have:=h3 e.on hlt
   simp only [vU] at this ⊢
   rw [uL (by omega)] at this ⊢
   exact this
  rw [hr] at this
  cases this
 intro fuel
 induction fuel with
 |zero=>
  intro listed W F μ a hd0 hsz hu hdown hr hs
  have h0:=kL _ (Nat.le_zero.1 hu)
  refine⟨?_,fin listed W F μ a hd0 h0 hr hs⟩
  refine List.eq_nil_iff_forall_not_mem.2 fun j hj=>?_
  obtain⟨h1,o,h2,_⟩:=mem_ready.1 hj
  have:=h0 j (qI.1 h2).1
  rw [h1] at this
  cases this
 |succ fuel ih=>
  intro listed W F μ a hd0 hsz hu hdown hr hs
  refine⟨fun h0=>fin listed W F μ a hd0 (kL _ (ready0 listed hsz h0)) hr hs,fun i hi=>?_⟩
  obtain⟨hX,o,ho,hpre⟩:=mem_ready.1 hi
  have hilt:i<ops.size:=(qI.1 ho).1
  obtain⟨p,hp⟩:∃p,(ops.toList.zip Es)[i]?=some p:=⟨_,qA (by omega)⟩
  have hpo:p.1=o:=by
   rw [List.getElem?_zip_eq_some] at hp
   have h1:=hp.1
   rw [vO,ho] at h1
   exact (qB h1).symm
  subst hpo
  have hpre':∀k,og ops i k->listed.getD k true=true:=by
   rintro k ⟨o',e,h1,h2,h3,rfl⟩
   obtain rfl:o'=p.1:=qB (h1.symm.trans ho)
   have:=hpre e h2 h3
   simp only [vU] at this ⊢
   cases hq:listed[e.on]? with
   |none=>rfl
   |some b=>rw [hq] at this;exact this
  have up:∀j k,Anc ops j k->j<ops.size->listed.getD j true=true->listed.getD k true=true:=by
   intro j k hanc
   induction hanc with
   |one he=>exact fun h1 h2=>hdown _ _ he h2 h1
   |more he _ ih'=>exact fun h1 h2=>ih' (Nat.lt_trans (gR hok he) h1) (hdown _ _ he h2 h1)
  have ahead:∀k,Anc ops i k->listed.getD k true=true:=by
   intro k hanc
   cases hanc with
   |one he=>exact hpre' _ he
   |more he r=>exact up _ _ r (Nat.lt_trans (gR hok he) hilt) (hpre' _ he)
  -- where an operation clashes with this one, it is listed just if it stands ahead
  have agree:∀j q,(ops.toList.zip Es)[j]?=some q->j≠i->(j<i->ig ops q p=true)->(i<j->ig ops p q=true)->listed.getD j true=decide (j<i):=by
   intro j q hq hne h1 h2
   rcases Nat.lt_or_ge j i with hlt|hge
   ·rw [qE hlt]
    exact ahead j (fT hok hq hp hlt (h1 hlt))
   ·have hlt:i<j:=by omega
    have hjlt:j<ops.size:=by have:=(qD.1 hq).1;omega
    rw [qC (by omega)]
    cases hx:listed.getD j true with
    |false=>rfl
    |true=>exact absurd (up j i (fT hok hp hq hlt (h2 hlt)) hjlt hx) (by rw [hX];simp)
  have sameT:∀t,(t∈sC ops p.1\/p.1.dst=some t)->(stX N (ops.toList.zip Es) (fun j=>listed.getD j true) 0 s).ts t=(stX N (ops.toList.zip Es) (fun j=>decide (j<0+i)) 0 s).ts t:=by
   intro t ht
   refine FR (fun j q hq hd=>?_) rfl
   rw [vN,vN]
   by_cases e:j=i
   ·subst e
    rw [hX,qC (Nat.lt_irrefl _)]
   ·refine agree j q hq e (fun _=>?_) (fun _=>?_)
    ·unfold ig
     rcases ht with ht|ht
     ·simp [hd,ht]
     ·simp [ht,hd]
    ·unfold ig
     rcases ht with ht|ht
     ·simp [hd,ht]
     ·simp [ht,hd]
  have sameI:∀id,(id∈p.2.rd\/id∈ids p.2)->(stX N (ops.toList.zip Es) (fun j=>listed.getD j true) 0 s).σ id=(stX N (ops.toList.zip Es) (fun j=>decide (j<0+i)) 0 s).σ id:=by
   intro id hid
   refine Ie (fun j q hq hd=>?_) rfl
   rw [vN,vN]
   obtain⟨r,hr1,rfl⟩:=hd
   have hin:r.1∈ids q.2:=qX hr1
   by_cases e:j=i
   ·subst e
    rw [hX,qC (Nat.lt_irrefl _)]
   ·refine agree j q hq e (fun _=>?_) (fun _=>?_)
    ·unfold ig
     simp only [Bool.or_eq_true,List.any_eq_true,List.contains_iff_mem]
     rcases hid with h|h
     ·exact .inr ⟨r.1,hin,h⟩
     ·exact .inl (.inr ⟨r.1,h,.inr hin⟩)
    ·unfold ig
     simp only [Bool.or_eq_true,List.any_eq_true,List.contains_iff_mem]
     exact .inl (.inr ⟨r.1,hin,hid⟩)
  have hnew:(fun j=>(listed.setIfInBounds i true).getD j true)=fun j=>(listed.getD j true || j == 0+i):=by
   funext j
   rw [vN]
   by_cases e:j=i
   ·subst e
    simp [hsz,hilt]
   ·have:(j == i)=false:=by simpa using e
    rw [getD_set_ne true (Ne.symm e),this,Bool.or_false]
  have hst:stX N (ops.toList.zip Es) (fun j=>(listed.setIfInBounds i true).getD j true) 0 s=p.2.ap N p.1.dst (stX N (ops.toList.zip Es) (fun j=>listed.getD j true) 0 s):=by
   rw [hnew]
   refine EG hp (by rw [vN];exact hX) fun j q hij hq hx=>?_
   rw [vN] at hx
   have no:ig ops p q=false:=by
    cases hcl:ig ops p q with
    |false=>rfl
    |true=>
     have hjlt:j<ops.size:=by have:=(qD.1 hq).1;omega
     exact absurd (up j i (fT hok hp hq hij hcl) hjlt hx) (by rw [hX];simp)
   refine⟨fun t h1 h2=>?_,fun x hx r hr e=>?_⟩
   ·unfold ig at no
    simp [h1,h2] at no
   ·unfold ig at no
    simp only [Bool.or_eq_false_iff,List.any_eq_false,Bool.or_eq_true,List.contains_iff_mem] at no
    exact no.1.2 r.1 (qX hr) (.inr (e ▸ qX hx))
  have hu':unl (fun j=>(listed.setIfInBounds i true).getD j true) ops.size<=fuel:=by
   have:=AO (X:=fun j=>listed.getD j true) (Y:=fun j=>(listed.setIfInBounds i true).getD j true) (fun j hj=>(congrFun hnew j).trans (by show (listed.getD j true || j == 0+i)=true;rw [show listed.getD j true=true from hj,Bool.true_or])) (i:=i) hX ((congrFun hnew i).trans (by simp)) ops.size hilt
   omega
  have hdown':∀j k,og ops j k->(listed.setIfInBounds i true).getD j true=true->j<ops.size->(listed.setIfInBounds i true).getD k true=true:=by
   intro j k he hj hlt
   have hj':(listed.setIfInBounds i true).getD j true=(listed.getD j true || j == 0+i):=congrFun hnew j
   have hk':(listed.setIfInBounds i true).getD k true=(listed.getD k true || k == 0+i):=congrFun hnew k
   rw [hj'] at hj
   rw [hk']
   rw [vN,Bool.or_eq_true] at hj
   rcases hj with hj|hj
   ·rw [hdown j k he hj hlt,Bool.true_or]
   ·obtain rfl:j=i:=by simpa using hj
    rw [hpre' k he,Bool.true_or]
  have sz':(listed.setIfInBounds i true).size=ops.size:=by simp [hsz]
  have hf:=hfact 0 i p hp
  have hgs:=DB (ops:=ops) (o:=p.1) (s:=stX N (ops.toList.zip Es) (fun j=>decide (j<0+i)) 0 s) (s':=stX N (ops.toList.zip Es) (fun j=>listed.getD j true) 0 s)
   fun t ht=>sameT t (.inl (by simp [sC,ht]))
  unfold wpOpIn
  rw [ho]
  simp only
  rcases hf with⟨hg,hbd,hloc⟩|⟨hg,hskip⟩
  ·rw [if_pos (i7 hr (hgs.trans hg))]
   have hev:∀x∈p.1.op.operands.toList,(stX N (ops.toList.zip Es) (fun j=>listed.getD j true) 0 s).ev x=(stX N (ops.toList.zip Es) (fun j=>decide (j<0+i)) 0 s).ev x:=fun x hx=>DO fun t ht=>sameT t (.inl (by
    subst ht
    simp only [sC,BC,vB,List.mem_filterMap]
    exact .inr ⟨_,hx,rfl⟩))
   refine EN hr (GR hg).2 (hbd.like hev) (hloc _ hev (fun id hid=>sameI id (.inl hid)) (fun q hq=>sameI q.1 (.inr (qX hq))) W F μ a hr _ _ fun W' F' μ' a' hr' hs' hd'=>?_)
   refine ih _ W' F' μ' a' (hd'.trans hd0) sz' hu' hdown' ?_ ?_
   ·rw [hst];exact hr'
   ·rw [hst];exact hs.trans hs'
  ·rw [if_neg (by rw [i7 hr (hgs.trans hg)];simp)]
   refine⟨fun _ _=>trivial,ih _ W F μ _ ((ej _ _ _).trans hd0) sz' hu' hdown' ?_ ?_⟩
   ·rw [hst,hskip];exact hr.skip _
   ·rw [hst,hskip];exact hs
theorem RS.drew {N:Nat}{W:World}{F:Nat->Prop}{μ:Mu}{s:St}{a:Act}(h:RS N W F μ s a):RS N { W with drawn:=W.drawn+1 } F μ s a/\Stp W F μ s.σ { W with drawn:=W.drawn+1 } F μ s.σ:=by
 have hs:Stp W F μ s.σ { W with drawn:=W.drawn+1 } F μ s.σ:=⟨(Kp.refl _ W).drew,fun _ h=>h,fun _ h=>.inl h,fun _ h=>.inl h,fun _=>qJ _,fun _ _ bd h=>⟨bd,h,rfl,rfl⟩⟩
 refine⟨⟨fun t=>(h.ts t).stp h.inv hs,h.defers.go hs.q,h.n,?_⟩,hs⟩
 exact⟨fun id ep bd hb=>(h.inv.body id ep bd hb).stp h.inv hs fun _ _ _=>rfl,h.inv.apart,h.inv.inj,h.inv.old,h.inv.lay.go (fun _ h=>h) fun _ _=>rfl⟩
theorem region_any {P:Program}(hm:P.follows .mixedOrders=true){N id:Nat}{ops:Array Oper}{s s':St}{Es:List Eff}(hc:gj P N ops ops.toList s Es s')(hok:dC ops (ops.toList.zip Es)=true)
  {W:World} {F:Nat->Prop} {μ:Mu} {a:Act} (hr:RS N W F μ s a) {ro:Option Nat} {Q:Exit->Act->World->Prop} (hQ:∀W' F' μ' a',RS N W' F' μ' s' a'->Stp W F μ s.σ W' F' μ' s'.σ->a'.defers=a.defers->Q .normal a' W'):(Code.region id ops true).wpIn (mo ro) 0 P Q a W:=by
 obtain⟨hr',hs⟩:=hr.drew
 refine wpIn_region_any hm (yb hc hok (fun W' F' μ' a' h1 h2 h3=>hQ W' F' μ' a' h1 h2 h3) ops.size _ _ F μ a rfl (by simp) ?_ ?_ ?_ ?_)
 ·have:∀(X:Nat->Bool) n,unl X n<=n:=by
   intro X n
   induction n with
   |zero=>exact qJ _
   |succ n ih=>rw [unl];cases X n <;> simp <;> omega
  exact this _ _
 ·intro j i he h1 h2
  simp [h2] at h1
 ·rw [gp (Y:=fun _=>false),nR fun _ _=>rfl]
  ·exact hr'
  ·intro j _ hj
   have:j<ops.size:=by simp at hj;omega
   simp [this]
 ·rw [gp (Y:=fun _=>false),nR fun _ _=>rfl]
  ·exact hs
  ·intro j _ hj
   have:j<ops.size:=by simp at hj;omega
   simp [this]
theorem region_text {P:Program}{N id:Nat}{ops:Array Oper}{s s':St}{Es:List Eff}(hc:gj P N ops ops.toList s Es s')
  {W:World} {F:Nat->Prop} {μ:Mu} {a:Act} (hr:RS N W F μ s a) {ro:Option Nat} {Q:Exit->Act->World->Prop} (hQ:∀W' F' μ' a',RS N W' F' μ' s' a'->Stp W F μ s.σ W' F' μ' s'.σ->a'.defers=a.defers->Q .normal a' W'):(Code.region id ops false).wpIn (mo ro) 0 P Q a W :=
 wpIn_region_list (vi hc W F μ a hr ro Q hQ)
abbrev hZ (K:St->Prop)(Q:Exit->St->Prop):Exit->St->Prop
 | .normal,s=>K s
 |e,s=>Q e s
abbrev jS (id:Nat)(Q:Exit->St->Prop):Exit->St->Prop
 | .exit id',s=>if id'=id then Q .normal s else Q (.exit id') s
 |e,s=>Q e s
def GQ (W:World)(ds ds':List Deferred):Prop:=∀d∈ds',d∈ds\/∃D,d = { target:=.collected D,args:=#[] }/\W.heap.size<=D
structure Std (W:World)(F:Nat->Prop)(μ:Mu)(σ:Sto)(a:Act)(W':World)(F':Nat->Prop)(μ':Mu)(σ':Sto)(a':Act):Prop extends Stq W F μ σ W' F' μ' σ' where
 nw:GQ W a.defers a'.defers
theorem Stq.d {W W':World}{F F':Nat->Prop}{μ μ':Mu}{σ σ':Sto}{a a':Act}(h:Stq W F μ σ W' F' μ' σ')(ha:a'.defers=a.defers):Std W F μ σ a W' F' μ' σ' a':=⟨h,fun _ hd=>.inl (ha ▸ hd)⟩
theorem Std.refl (W:World)(F:Nat->Prop)(μ:Mu)(σ:Sto)(a:Act):Std W F μ σ a W F μ σ a:=(Stq.refl W F μ σ).d rfl
theorem Std.trans {W W' W'':World}{F F' F'':Nat->Prop}{μ μ' μ'':Mu}{σ σ' σ'':Sto}{a a' a'':Act}(h:Std W F μ σ a W' F' μ' σ' a')(k:Std W' F' μ' σ' a' W'' F'' μ'' σ'' a''):Std W F μ σ a W'' F'' μ'' σ'' a'' :=
 ⟨h.toStq.trans k.toStq,fun d hd=>(k.nw d hd).elim (h.nw d) fun ⟨D,e,hD⟩=>.inr ⟨D,e,vH h.kp.size hD⟩⟩
def eP:Code->Bool
 | .seq x y=>eP x || eP y
 | .cond _ x y=>eP x || eP y
 | .block _ x=>eP x
 | .loop x=>eP x
 | .rangeFunc _ _ _ _=>true
 |_=>false
def Code.wpA (c:Code)(P:Program)(Q:Exit->Act->World->Prop)(a:Act)(W:World):Prop:=∀ro,(eP c=true->ro=none)->Code.wpIn (mo ro) 0 P c Q a W
theorem Code.wpA_mono {P:Program}{c:Code}{Q Q':Exit->Act->World->Prop}{a:Act}{W:World}(hq:∀e a w,Q e a w->Q' e a w)(h:Code.wpA c P Q a W):Code.wpA c P Q' a W:=fun ro hn=>wpIn_mono (h ro hn) hq
def AW (P:Program)(N:Nat)(c:Code)(Q:Exit->St->Prop)(s:St):Prop :=
 ∀W F μ a,RS N W F μ s a->Code.wpA c P (fun e a' W'=>∃F' μ' s',Q e s'/\RS N W' F' μ' s' a'/\Std W F μ s.σ a W' F' μ' s'.σ a') a W
section
variable {P:Program} {N:Nat} {Q Q':Exit -> St -> Prop} {s s':St}
theorem AW.mono {c:Code}(h:AW P N c Q s)(hq:∀e s,Q e s->Q' e s):AW P N c Q' s :=
 fun W F μ a hr=>Code.wpA_mono (fun _ _ _ ⟨F',μ',s',h1,h2⟩=>⟨F',μ',s',hq _ _ h1,h2⟩) (h W F μ a hr)
theorem AW.skip (h:Q .normal s):AW P N .skip Q s:=fun W F μ _ hr _ _=>wpIn_skip ⟨F,μ,s,h,hr,Std.refl _ _ _ _ _⟩
theorem AW.exit {id:Nat}(h:Q (.exit id) s):AW P N (.exit id) Q s:=fun W F μ _ hr _ _=>wpIn_exit ⟨F,μ,s,h,hr,Std.refl _ _ _ _ _⟩
theorem AW.ret (h:Q .ret s):AW P N .ret Q s:=fun W F μ _ hr _ _=>wpIn_ret ⟨F,μ,s,h,hr,Std.refl _ _ _ _ _⟩
theorem AW.seq {x y:Code}(h:AW P N x (hZ (AW P N y Q) Q) s):AW P N (.seq x y) Q s:=by
 intro W F μ a hr ro hn
 refine wpIn_seq (wpIn_mono (h W F μ a hr ro fun e=>hn (by simp [eP,e])) ?_)
 rintro e a' W' ⟨F',μ',s',hq,hr',hs⟩
 cases e with
 |normal=>exact wpIn_mono (hq W' F' μ' a' hr' ro fun e=>hn (by simp [eP,e])) (fun e a'' W'' ⟨F'',μ'',s'',q,r,st⟩=>⟨F'',μ'',s'',q,r,hs.trans st⟩)
 |_=>exact⟨F',μ',s',hq,hr',hs⟩
theorem AW.cond {x:Operand}{y z:Code}{t:Bool}(hc:s.ev x = .b t)(h1:t=true->AW P N y Q s)(h2:t=false->AW P N z Q s):AW P N (.cond x y z) Q s:=by
 intro W F μ a hr ro hn
 have hv:=hr.ev x
 rw [hc] at hv
 refine wpIn_cond_split hv.b' (fun e=>h1 e W F μ a hr ro fun e=>hn (by simp [eP,e])) (fun e=>h2 e W F μ a hr ro fun e=>hn (by simp [eP,e]))
theorem AW.block {id:Nat}{c:Code}(h:AW P N c (jS id Q) s):AW P N (.block id c) Q s:=by
 intro W F μ a hr ro hn
 refine wpIn_block (wpIn_mono (h W F μ a hr ro hn) ?_)
 rintro e a' W' ⟨F',μ',s',hq,hr',hs⟩
 cases e with
 |exit id'=>
  show if id'=id then _ else _
  simp only [jS] at hq
  split
  ·rename_i e
   rw [if_pos e] at hq
   exact⟨F',μ',s',hq,hr',hs⟩
  ·rename_i e
   rw [if_neg e] at hq
   exact⟨F',μ',s',hq,hr',hs⟩
 |_=>exact⟨F',μ',s',hq,hr',hs⟩
theorem AW.region_text {id:Nat}{ops:Array Oper}{Es:List Eff}(hc:gj P N ops ops.toList s Es s')(h:Q .normal s'):AW P N (.region id ops false) Q s :=
 fun _ _ _ _ hr _ _=>Go.Proofs.YtdidjpohnopihaaGreat.Sm.region_text hc hr fun W' F' μ' a' h1 h2 h3=>⟨F',μ',s',h,h1,h2.q.d h3⟩
theorem AW.region_any (hm:P.follows .mixedOrders=true){id:Nat}{ops:Array Oper}{Es:List Eff}(hc:gj P N ops ops.toList s Es s')(ho:dC ops (ops.toList.zip Es)=true)(h:Q .normal s'):AW P N (.region id ops true) Q s :=
 fun _ _ _ _ hr _ _=>Go.Proofs.YtdidjpohnopihaaGreat.Sm.region_any hm hc ho hr fun W' F' μ' a' h1 h2 h3=>⟨F',μ',s',h,h1,h2.q.d h3⟩
theorem AB (R:Nat->Prop)(h:∃n,R n):∃n,R n/\∀k,R k->n<=k:=by
 obtain⟨n,hn⟩:=h
 induction n using Nat.strongRecOn with
 |_ n ih=>
  by_cases hx:∃k,k<n/\R k
  ·obtain⟨k,h1,h2⟩:=hx
   exact ih k h1 h2
  ·exact⟨n,hn,fun k hk=>Nat.le_of_not_lt fun hlt=>hx ⟨k,hlt,hk⟩⟩
end
mutual
inductive Fz (σ:Sto):AV->AV->List Nat->Prop where
 |b (x:Bool):Fz σ (.b x) (.b x) []
 |i (k:IntKind) (n:Int):Fz σ (.i k n) (.i k n) []
 |u (x:UInt64):Fz σ (.u x) (.u x) []
 |y (x:UInt8):Fz σ (.y x) (.y x) []
 |s (l:List UInt8):Fz σ (.s l) (.s l) []
 |nils:Fz σ (.raw (.slice none 0 0)) (.sl []) []
 |raw (v:Value):Fz σ (.raw v) (.raw v) []
 |any:Fz σ .any .any []
 |sl (els:List (List AV)):Fz σ (.sl els) (.sl els) []
 |ro (cs:List AV):Fz σ (.ro cs) (.ro cs) []
 |row {id ep off n t m:Nat} {els els':List (List AV)} (h:σ id=⟨ep,some (.row t m els)⟩) (he:(els.drop off).take n=els'):Fz σ (.row id ep off n) (.sl els') [id]
 |own {id ep off t:Nat} {cs cs':List AV} {l:List Nat} (h:σ id=⟨ep,some (.box t cs)⟩) (he:FzL σ cs cs' l):Fz σ (.own id ep off) (.ro (cs'.drop off)) (id::l)
 |refsl {id ep off n cap t:Nat} {cs cs':List AV} {l:List Nat} (h:σ id=⟨ep,some (.box t cs)⟩) (he:FzL σ cs cs' l) (h1:off+n<=cs.length) (h2:n<=cap) (h3:cap<=maxLen):Fz σ (.ref id ep (.sl off n cap)) (.sl (((cs'.drop off).take n).map fun c=>[c])) (id::l)
 |agg {cs cs':List AV} {l:List Nat} (h:FzL σ cs cs' l):Fz σ (.agg cs) (.agg cs') l
 |tup {cs cs':List AV} {l:List Nat} (h:FzL σ cs cs' l):Fz σ (.tup cs) (.tup cs') l
 |fn {f:FuncId} {a a' c c':List AV} {l l':List Nat} (h:FzL σ a a' l) (h':FzL σ c c' l'):Fz σ (.fn f a c) (.fn f a' c') (l++l')
 |nest {id ep t:Nat} {els ys:List AV} {l:List Nat} (h:σ id=⟨ep,some (.nest t els)⟩) (he:FzL σ els ys l):Fz σ (.row id ep 0 els.length) (.sl (ys.map fun y=>[y])) (id::l)
 |rowref {id ep n t m:Nat} {els:List (List AV)} (h:σ id=⟨ep,some (.row t m els)⟩) (hn:els.length=n):Fz σ (.ref id ep (.sl 0 n n)) (.sl els) [id]
inductive FzL (σ:Sto):List AV->List AV->List Nat->Prop where
 |nil:FzL σ [] [] []
 |cons {x y:AV} {xs ys:List AV} {l l':List Nat} (h:Fz σ x y l) (t:FzL σ xs ys l'):FzL σ (x::xs) (y::ys) (l++l')
end
theorem Fz.congr {σ σ':Sto}{x y:AV}{l:List Nat}(h:Fz σ x y l):(∀id∈l,σ' id=σ id)->Fz σ' x y l:=by
 refine Fz.rec (motive_1:=fun x y l _=>(∀id∈l,σ' id=σ id)->Fz σ' x y l) (motive_2:=fun xs ys l _=>(∀id∈l,σ' id=σ id)->FzL σ' xs ys l) ?_ ?_ ?_ ?_ ?_ ?_ ?_ ?_ ?_ ?_ ?_ ?_ ?_ ?_ ?_ ?_ ?_ ?_ ?_ ?_ h
 ·exact fun x _=>.b x
 ·exact fun k n _=>.i k n
 ·exact fun x _=>.u x
 ·exact fun x _=>.y x
 ·exact fun l _=>.s l
 ·exact fun _=>.nils
 ·exact fun v _=>.raw v
 ·exact fun _=>.any
 ·exact fun els _=>.sl els
 ·exact fun cs _=>.ro cs
 ·exact fun h he hl=>.row ((hl _ (by simp)).trans h) he
 ·exact fun h _ ih hl=>.own ((hl _ (by simp)).trans h) (ih fun id hid=>hl id (by simp [hid]))
 ·exact fun h _ h1 h2 h3 ih hl=>.refsl ((hl _ (by simp)).trans h) (ih fun id hid=>hl id (by simp [hid])) h1 h2 h3
 ·exact fun _ ih hl=>.agg (ih hl)
 ·exact fun _ ih hl=>.tup (ih hl)
 ·exact fun _ _ ih ih' hl=>.fn (ih fun id hid=>hl id (by simp [hid])) (ih' fun id hid=>hl id (by simp [hid]))
 ·exact fun h _ ih hl=>.nest ((hl _ (by simp)).trans h) (ih fun id hid=>hl id (by simp [hid]))
 ·exact fun h hn hl=>.rowref ((hl _ (by simp)).trans h) hn
 ·exact fun _=>.nil
 ·exact fun _ _ ih ih' hl=>.cons (ih fun id hid=>hl id (by simp [hid])) (ih' fun id hid=>hl id (by simp [hid]))
theorem FzL.congr {σ σ':Sto}{xs ys:List AV}{l:List Nat}(h:FzL σ xs ys l)(hl:∀id∈l,σ' id=σ id):FzL σ' xs ys l:=by
 have h1:=(Fz.tup h).congr (σ':=σ') hl
 cases h1 with
 |tup h1=>exact h1
def Beh (μ:Mu)(σ:Sto)(l:List Nat)(b:Nat):Prop:=∃id,id∈l/\∃ep bd c,σ id=⟨ep,some bd⟩/\μ id=some (b,c)
theorem au.to {W:World}{F F':Nat->Prop}{x:AV}{v:Value}(h:au W F x v)(hF:∀b,F b->F' b):au W F' x v:=h.keep (fun _ _ _=>rfl) fun b hb _=>hF b hb
theorem Fz.rel {W:World}{F:Nat->Prop}{μ:Mu}{σ:Sto}(hi:Inv W F μ σ){x y:AV}{l:List Nat}(h:Fz σ x y l):∀{v:Value},Rel W F μ σ x v->au W (fun b=>F b\/Beh μ σ l b) y v/\(x.one=true->y.one=true):=by
 refine Fz.rec (motive_1:=fun x y l _=>∀{v:Value},Rel W F μ σ x v->au W (fun b=>F b\/Beh μ σ l b) y v/\(x.one=true->y.one=true))
  (motive_2:=fun xs ys l _=>ys.length=xs.length/\∀(j:Nat) (x y:AV) (v:Value),xs[j]?=some x->ys[j]?=some y->Rel W F μ σ x v->au W (fun b=>F b\/Beh μ σ l b) y v/\(x.one=true->y.one=true)) ?_ ?_ ?_ ?_ ?_ ?_ ?_ ?_ ?_ ?_ ?_ ?_ ?_ ?_ ?_ ?_ ?_ ?_ ?_ ?_ h
 ·intro x v hv;rw [hv.b'];exact⟨.b x,id⟩
 ·intro k n v hv;rw [hv.i'];exact⟨.i k n,id⟩
 ·intro x v hv;rw [hv.u'];exact⟨.u x,id⟩
 ·intro x v hv;rw [hv.y'];exact⟨.y x,id⟩
 ·intro l v hv;rw [hv.s'];exact⟨.s l,id⟩
 ·intro v hv
  rw [hv.raw']
  exact⟨.sl [] none 0 0 0 0 (fun _ _=>undef) (qJ _) (qR _) (fun h=>absurd h (Nat.lt_irrefl _)) (by simp) (by simp) (by simp) (by simp),fun _=>rfl⟩
 ·intro u v hv;rw [hv.raw'];exact⟨.raw u,id⟩
 ·intro v hv;exact⟨.any v,id⟩
 ·intro els v hv;exact⟨hv.sl'.to fun b hb=>.inl hb,id⟩
 ·intro cs v hv;exact⟨hv.ro'.to fun b hb=>.inl hb,id⟩
 ·intro id ep off n t m els els' h he v hv
  refine⟨?_,fun _=>rfl⟩
  cases hv with
  |pure hp=>cases hp
  |row _ _ _ _ _ _ _ hrv=>
   have hb:=hi.body id ep _ h
   obtain⟨hle,hv⟩:=hrv _ _ _ h rfl
   have hlen:els'.length=n:=by rw [<- he,vG,vW];omega
   have hget:∀(k:Nat) (cs:List AV),els'[k]?=some cs->els[off+k]?=some cs:=fun k cs hk=>by
    rw [<- he,uF,uC] at hk
    split at hk
    ·exact hk
    ·cases hk
   rcases hb with⟨hn,rfl⟩|⟨b,cap,cur,hp,hh,h1,h2,h3,h4,h5⟩
   ·rw [hn] at hv
    subst hv
    obtain rfl:els'=[]:=by rw [<- he];simp
    exact .sl [] none 0 0 0 0 (fun _ _=>undef) (qJ _) (qR _) (fun h=>absurd h (Nat.lt_irrefl _)) (by simp) (by simp) (by simp) (by simp)
   ·rw [hp] at hv
    obtain rfl:v = .slice (some ⟨b,off*m,none⟩) n (cap-off):=hv
    have hbeh:F b\/Beh μ σ [id] b:=.inr ⟨id,by simp,ep,_,cap,h,hp⟩
    rw [<- hlen]
    refine .sl els' _ (cap-off) m b (off*m) (fun k j=>cur.getD ((off+k)*m+j) undef) (by omega) (by omega) (fun _=>⟨rfl,hbeh,(qI.1 hh).1⟩) (fun k cs hk=>h4 _ cs (hget k cs hk)) (fun k cs j x hk hj=>(h5 _ cs j x (hget k cs hk) hj).1) (fun k cs j x hk hj=>?_) (fun k cs j x hk hj=>?_)
    ·obtain⟨_,u,hu,hr⟩:=h5 _ cs j x (hget k cs hk) hj
     have:cur.getD ((off+k)*m+j) undef=u:=by rw [vU,hu];rfl
     rw [this]
     exact hr.to fun b hb=>.inl hb
    ·obtain⟨_,u,hu,hr⟩:=h5 _ cs j x (hget k cs hk) hj
     rw [kB0 _ b _ cur t (0,0) hh,vU,show off*m+(k*m+j)=(off+k)*m+j by rw [Nat.add_mul];omega,hu]
     rfl
 ·intro id ep off t cs cs' l h hz ih v hv
  refine⟨?_,fun _=>rfl⟩
  cases hv with
  |pure hp=>cases hp
  |own _ _ _ _ _ _ hrv=>
   obtain⟨b,c,hp,rfl⟩:=hrv _ h
   obtain⟨b',c',vs,hp',hh,hl,hr⟩:=hi.body id ep _ h
   obtain⟨rfl,rfl⟩:b=b'/\c=c':=by rw [hp] at hp';simpa using hp'
   have hbeh:F b\/Beh μ σ (id::l) b:=.inr ⟨id,by simp,ep,_,c,h,hp⟩
   have get:∀(j:Nat) (y:AV),(cs'.drop off)[j]?=some y->∃x u,cs[off+j]?=some x/\vs[off+j]?=some u/\x.one=true/\Rel W F μ σ x u/\au W (fun b=>F b\/Beh μ σ l b) y u/\y.one=true:=fun j y hj=>by
    rw [uC] at hj
    have hlt:off+j<cs'.length:=(qD.1 hj).1
    rw [ih.1] at hlt
    have h1:cs[off+j]?=some cs[off+j]:=qA hlt
    have h2:vs[off+j]?=some vs[off+j]:=qA (by omega)
    obtain⟨g1,g2⟩:=hr _ _ _ h1 h2
    obtain⟨g3,g4⟩:=ih.2 _ _ _ _ h1 hj g2
    exact⟨_,_,h1,h2,g1,g2,g3,g4 g1⟩
   refine .ro _ b off (fun j=>vs.getD (off+j) undef) hbeh (qI.1 hh).1 (fun j y hj=>?_) (fun j y hj=>?_) (fun j y hj=>?_)
   ·obtain⟨_,_,_,_,_,_,_,h⟩:=get j y hj
    exact h
   ·obtain⟨_,u,_,hu,_,_,hq,_⟩:=get j y hj
    rw [qM,hu]
    exact hq.to fun b hb=>hb.imp (fun h=>h) fun ⟨q,hq',r⟩=>⟨q,by simp [hq'],r⟩
   ·obtain⟨_,u,_,hu,_⟩:=get j y hj
    rw [kB0 _ b _ _ t (0,0) hh,qM,hu]
    simpa using hu
 ·intro id ep off n cap t cs cs' l h hz hb1 hb2 hb3 ih v hv
  refine⟨?_,fun _=>rfl⟩
  cases hv with
  |pure hp=>cases hp
  |ref _ _ _ _ _ _ hrv=>
   obtain⟨b,c,hp,rfl⟩:=hrv _ h
   obtain⟨b',c',vs,hp',hh,hl,hr⟩:=hi.body id ep _ h
   obtain⟨rfl,rfl⟩:b=b'/\c=c':=by rw [hp] at hp';simpa using hp'
   have hbeh:F b\/Beh μ σ (id::l) b:=.inr ⟨id,by simp,ep,_,c,h,hp⟩
   have get:∀(k:Nat) (ds:List AV),(((cs'.drop off).take n).map fun c=>[c])[k]?=some ds->∃y x u,ds=[y]/\cs'[off+k]?=some y/\cs[off+k]?=some x/\vs[off+k]?=some u/\x.one=true/\Rel W F μ σ x u/\au W (fun b=>F b\/Beh μ σ l b) y u/\y.one=true:=fun k ds hk=>by
    rw [qF,uF,uC] at hk
    split at hk
    case isFalse=>cases hk
    obtain⟨y,hy,rfl⟩:=vT.1 hk
    have hlt:off+k<cs'.length:=(qD.1 hy).1
    rw [ih.1] at hlt
    have h1:cs[off+k]?=some cs[off+k]:=qA hlt
    have h2:vs[off+k]?=some vs[off+k]:=qA (by omega)
    obtain⟨g1,g2⟩:=hr _ _ _ h1 h2
    obtain⟨g3,g4⟩:=ih.2 _ _ _ _ h1 hy g2
    exact⟨y,_,_,rfl,hy,h1,h2,g1,g2,g3,g4 g1⟩
   have hlen:(((cs'.drop off).take n).map fun c=>[c]).length=n:=by
    rw [qG,vG,vW,ih.1]
    omega
   have hone:∀(k:Nat) (ds:List AV) (j:Nat) (x:AV),(((cs'.drop off).take n).map fun c=>[c])[k]?=some ds->ds[j]?=some x->j=0/\∃u,vs[off+k]?=some u/\au W (fun b=>F b\/Beh μ σ l b) x u/\x.one=true:=fun k ds j x hk hj=>by
    obtain⟨y,x',u,rfl,_,_,hu,_,_,hq,ho⟩:=get k ds hk
    cases j with
    |zero=>
     obtain rfl:y=x:=by simpa using hj
     exact⟨rfl,u,hu,hq,ho⟩
    |succ j=>simp at hj
   show au W _ _ (.slice (some ⟨b,off,none⟩) n cap)
   conv=>arg 4;rw [<- hlen]
   refine .sl _ _ cap 1 b off (fun k j=>vs.getD (off+k) undef) (by rw [hlen];exact hb2) hb3 (fun _=>⟨rfl,hbeh,(qI.1 hh).1⟩) (fun k ds hk=>?_) (fun k ds j x hk hj=>?_) (fun k ds j x hk hj=>?_) (fun k ds j x hk hj=>?_)
   ·obtain⟨y,_,_,rfl,_⟩:=get k ds hk
    rfl
   ·exact (hone k ds j x hk hj).2.choose_spec.2.2
   ·obtain⟨_,u,hu,hq,_⟩:=hone k ds j x hk hj
    rw [qM,hu]
    exact hq.to fun b hb=>hb.imp (fun h=>h) fun ⟨q,hq',r⟩=>⟨q,by simp [hq'],r⟩
   ·obtain⟨rfl,u,hu,hq,_⟩:=hone k ds j x hk hj
    rw [kB0 _ b _ _ t (0,0) hh,qM,hu]
    simpa using hu
 ·intro cs cs' l hz ih v hv
  refine⟨?_,fun h=>by simp [AV.one] at h⟩
  obtain⟨vs,rfl,hl,h1,hr⟩:=hv.agg'
  have get:∀(j:Nat) (y:AV),cs'[j]?=some y->∃x,cs[j]?=some x:=fun j y hj=>by
   have hlt:j<cs'.length:=(qD.1 hj).1
   exact⟨_,qA (by rw [<- ih.1];exact hlt)⟩
  refine .agg cs' vs (hl.trans ih.1.symm) (fun j y hj=>?_) (fun j y u hj hu=>?_)
  ·obtain⟨x,hx⟩:=get j y hj
   obtain⟨u,hu⟩:∃u,vs[j]?=some u:=⟨_,qA (by have:=(qD.1 hx).1;omega)⟩
   exact (ih.2 j x y u hx hj (hr j x u hx hu)).2 (h1 j x hx)
  ·obtain⟨x,hx⟩:=get j y hj
   exact (ih.2 j x y u hx hj (hr j x u hx hu)).1
 ·intro cs cs' l hz ih v hv
  refine⟨?_,fun h=>by simp [AV.one] at h⟩
  obtain⟨vs,rfl,hl,hr⟩:=hv.tup'
  refine .tup cs' vs (hl.trans ih.1.symm) (fun j y u hj hu=>?_)
  obtain⟨x,hx⟩:∃x,cs[j]?=some x:=⟨_,qA (by have:=(qD.1 hj).1;omega)⟩
  exact (ih.2 j x y u hx hj (hr j x u hx hu)).1
 ·intro f a a' c c' l l' hz hz' ih ih' v hv
  refine⟨?_,fun _=>rfl⟩
  obtain⟨fs,cs,rfl,hf,hc,hr,hr'⟩:=hv.fn'
  refine .fn f a' c' fs cs (hf.trans ih.1.symm) (hc.trans ih'.1.symm) (fun j y u hj hu=>?_) (fun j y u hj hu=>?_)
  ·obtain⟨x,hx⟩:∃x,a[j]?=some x:=⟨_,qA (by have:=(qD.1 hj).1;omega)⟩
   exact (ih.2 j x y u hx hj (hr j x u hx hu)).1.to fun b hb=>hb.imp (fun h=>h) fun ⟨q,hq',r⟩=>⟨q,by simp [hq'],r⟩
  ·obtain⟨x,hx⟩:∃x,c[j]?=some x:=⟨_,qA (by have:=(qD.1 hj).1;omega)⟩
   exact (ih'.2 j x y u hx hj (hr' j x u hx hu)).1.to fun b hb=>hb.imp (fun h=>h) fun ⟨q,hq',r⟩=>⟨q,by simp [hq'],r⟩
 ·intro id ep t els ys l h hz ih v hv
  refine⟨?_,fun _=>rfl⟩
  cases hv with
  |pure hp=>cases hp
  |row _ _ _ _ _ _ _ hrv=>
   obtain⟨_,hv⟩:=hrv _ _ _ h rfl
   have hlen:(ys.map fun c=>[c]).length=els.length:=by rw [qG,ih.1]
   rcases hi.body id ep _ h with⟨hn,rfl⟩|⟨b,cap,cur,hp,hh,h1,h2,h3,h4⟩
   ·rw [hn] at hv
    subst hv
    obtain rfl:ys=[]:=uD.1 ih.1
    exact .sl [] none 0 0 0 0 (fun _ _=>undef) (qJ _) (qR _) (fun h=>absurd h (Nat.lt_irrefl _)) (by simp) (by simp) (by simp) (by simp)
   ·rw [hp] at hv
    obtain rfl:v = .slice (some ⟨b,0*1,none⟩) els.length (cap-0):=hv
    have hbeh:F b\/Beh μ σ (id::l) b:=.inr ⟨id,by simp,ep,_,cap,h,hp⟩
    have get:∀(k:Nat) (ds:List AV) (j:Nat) (x:AV),(ys.map fun c=>[c])[k]?=some ds->ds[j]?=some x->j=0/\∃u,cur[k]?=some u/\au W (fun b=>F b\/Beh μ σ l b) x u/\x.one=true:=fun k ds j x hk hj=>by
     rw [qF] at hk
     obtain⟨y,hy,rfl⟩:=vT.1 hk
     cases j with
     |succ j=>simp at hj
     |zero=>
      obtain rfl:y=x:=by simpa using hj
      obtain⟨x0,hx0⟩:∃x0,els[k]?=some x0:=⟨_,qA (by rw [<- ih.1];exact (qD.1 hy).1)⟩
      obtain⟨g1,u,g2,g3⟩:=h4 k x0 hx0
      obtain⟨g4,g5⟩:=ih.2 _ _ _ _ hx0 hy g3
      exact⟨rfl,u,g2,g4,g5 g1⟩
    rw [<- hlen]
    refine .sl _ _ (cap-0) 1 b (0*1) (fun k j=>cur.getD k undef) (by rw [hlen];omega) (by omega) (fun _=>⟨rfl,hbeh,(qI.1 hh).1⟩) (fun k ds hk=>?_) (fun k ds j x hk hj=>?_) (fun k ds j x hk hj=>?_) (fun k ds j x hk hj=>?_)
    ·rw [qF] at hk
     obtain⟨y,_,rfl⟩:=vT.1 hk
     rfl
    ·exact (get k ds j x hk hj).2.choose_spec.2.2
    ·obtain⟨_,u,hu,hq,_⟩:=get k ds j x hk hj
     rw [vU,hu]
     exact hq.to fun b hb=>hb.imp (fun h=>h) fun ⟨q,hq',r⟩=>⟨q,by simp [hq'],r⟩
    ·obtain⟨rfl,u,hu,_⟩:=get k ds j x hk hj
     rw [kB0 _ b _ cur t (0,0) hh,vU,show 0*1+(k*1+0)=k by omega,hu]
     rfl
 ·intro id ep n t m els h hn v hv
  refine⟨?_,fun _=>rfl⟩
  cases hv with
  |pure hp=>cases hp
  |ref _ _ _ _ _ _ hrv=>
   obtain⟨b,c,hp,rfl⟩:=hrv _ h
   rcases hi.body id ep _ h with⟨hno,_⟩|⟨b',cap,cur,hp',hh,h1,h2,h3,h4,h5⟩
   ·rw [hp] at hno;cases hno
   ·obtain⟨rfl,rfl⟩:b=b'/\c=cap:=by rw [hp] at hp';simpa using hp'
    have hbeh:F b\/Beh μ σ [id] b:=.inr ⟨id,by simp,ep,_,c,h,hp⟩
    subst hn
    show au W _ _ (.slice (some ⟨b,0,none⟩) els.length els.length)
    refine .sl els _ els.length m b 0 (fun k j=>cur.getD (k*m+j) undef) (qJ _) (vH h1 h2) (fun _=>⟨rfl,hbeh,(qI.1 hh).1⟩) (fun k cs hk=>h4 k cs hk) (fun k cs j x hk hj=>(h5 k cs j x hk hj).1) (fun k cs j x hk hj=>?_) (fun k cs j x hk hj=>?_)
    ·obtain⟨_,u,hu,hr⟩:=h5 k cs j x hk hj
     have:cur.getD (k*m+j) undef=u:=by rw [vU,hu];rfl
     rw [this]
     exact hr.to fun b hb=>.inl hb
    ·obtain⟨_,u,hu,hr⟩:=h5 k cs j x hk hj
     rw [kB0 _ b _ cur t (0,0) hh,vU,vN,hu]
     rfl
 ·exact⟨rfl,fun j x y v hx=>by simp at hx⟩
 ·intro x y xs ys l l' _ _ ih ih'
  refine⟨by simp [ih'.1],fun j x' y' v hx hy hv=>?_⟩
  cases j with
  |zero=>
   obtain rfl:x=x':=by simpa using hx
   obtain rfl:y=y':=by simpa using hy
   have:=ih hv
   exact⟨this.1.to fun b hb=>hb.imp (fun h=>h) fun ⟨q,hq',r⟩=>⟨q,by simp [hq'],r⟩,this.2⟩
  |succ j=>
   have:=ih'.2 j x' y' v (by simpa using hx) (by simpa using hy) hv
   exact⟨this.1.to fun b hb=>hb.imp (fun h=>h) fun ⟨q,hq',r⟩=>⟨q,by simp [hq'],r⟩,this.2⟩
theorem FzL.rel {W:World}{F:Nat->Prop}{μ:Mu}{σ:Sto}(hi:Inv W F μ σ){xs ys:List AV}{l:List Nat}(h:FzL σ xs ys l){vs:List Value}(hl:vs.length=xs.length)
  (hv:∀(j:Nat) (x:AV) (v:Value),xs[j]?=some x->vs[j]?=some v->Rel W F μ σ x v):ys.length=vs.length/\∀(j:Nat) (y:AV) (v:Value),ys[j]?=some y->vs[j]?=some v->au W (fun b=>F b\/Beh μ σ l b) y v:=by
 have h1:=((Fz.tup h).rel hi (Rel.tup xs vs hl hv)).1
 generalize hq:Value.tuple vs.toArray=q at h1
 cases h1 with
 |tup _ vs' hl' hr'=>
  obtain rfl:vs=vs':=by simpa using hq
  exact⟨hl'.symm,hr'⟩
structure aa (P:Program)(f:FuncId)(args:List AV)(r:AV):Prop where
 fn : ∃ fn c, P.funcs[f]? = some fn /\ fn.body = some c /\ (fn.name == "runtime.NumGoroutine") = false
 calls:∀(W:World) (F:Nat->Prop) (vs:List Value),vs.length=args.length->(∀(j:Nat) (x:AV) (v:Value),args[j]?=some x->vs[j]?=some v->au W F x v)->(∀b,F b->b<W.heap.size)->kR W F ->
  Calls P f vs.toArray W fun e W'=>∃v,e = .returned v/\Kp No W W'/\au W' (fun b=>F b\/(W.heap.size<=b/\b<W'.heap.size)) r v
theorem xi {P : Program} {f : FuncId} (h : ∃ fn c, P.funcs[f]? = some fn /\ fn.body = some c /\ (fn.name == "runtime.NumGoroutine") = false) {o : Oper} {s : St} {c : Call} {fop : Operand} {x y : List AV} (ho : o.op = .call c) (hc : c.callee = .value fop) (hf : s.ev fop = .fn f x y) : Cbd P o s := by
 obtain⟨fn,bd,h1,h2,h3⟩:=h
 exact .inr (.inl ⟨c,fop,f,x,y,fn,bd,ho,hc,hf,h1,h2,h3⟩)
theorem aa.bd {P:Program}{f:FuncId}{args:List AV}{r:AV}(h:aa P f args r){o:Oper}{s:St}{c:Call}{fop:Operand}{x y:List AV}(ho:o.op = .call c)(hc:c.callee = .value fop)(hf:s.ev fop = .fn f x y):Cbd P o s:=xi h.fn ho hc hf
def AV.flat1:AV->Bool
 | .b _ | .i _ _ | .u _ | .y _ | .s _ | .raw _ | .any=>true
 |_=>false
def AV.flat2:AV->Bool
 | .agg cs=>cs.all AV.flat1
 |x=>x.flat1
def AV.flat:AV->Bool
 | .tup vs=>vs.all AV.flat2
 |x=>x.flat2
theorem lf {W W':World}{F F':Nat->Prop}{x:AV}{v:Value}(h:x.flat1=true)(hx:au W F x v):au W' F' x v:=by
 cases hx <;> first|(simp [AV.flat1] at h;done)|constructor
theorem o9 {W W':World}{F F':Nat->Prop}{x:AV}{v:Value}(h:x.flat2=true)(hx:au W F x v):au W' F' x v:=by
 cases x with
 |agg cs=>
  cases hx with
  |agg _ vs hl h1 hr=>
   have h':cs.all AV.flat1=true:=h
   rw [qV] at h'
   exact .agg cs vs hl h1 fun j x v hj hv=>lf (h' x (qN hj)) (hr j x v hj hv)
 |_=>exact lf h hx
theorem zf {W W':World}{F F':Nat->Prop}{x:AV}{v:Value}(h:x.flat=true)(hx:au W F x v):au W' F' x v:=by
 cases x with
 |tup cs=>
  cases hx with
  |tup _ vs hl hr=>
   have h':cs.all AV.flat2=true:=h
   rw [qV] at h'
   exact .tup cs vs hl fun j x v hj hv=>o9 (h' x (qN hj)) (hr j x v hj hv)
 |_=>exact o9 h hx
def eR (σ:Sto)(l:List Nat):List (Nat × SB):=l.map fun id=>(id,⟨(σ id).ep,none⟩)
theorem sM {σ:Sto}{l:List Nat}:∀{τ:Sto} {j:Nat},ups τ (eR σ l) j=if j∈l then ⟨(σ j).ep,none⟩ else τ j:=by
 induction l with
 |nil=>intro τ j;rfl
 |cons a l ih=>
  intro τ j
  show ups (up1 τ a ⟨(σ a).ep,none⟩) (eR σ l) j=_
  rw [ih,bi]
  by_cases h1:j∈l
  ·rw [if_pos h1,if_pos (by simp [h1])]
  ·rw [if_neg h1]
   by_cases h2:j=a
   ·rw [if_pos h2,if_pos (by simp [h2]),h2]
   ·rw [if_neg h2,if_neg (by simp [h1,h2])]
theorem RS.ext {N:Nat}{W W':World}{F:Nat->Prop}{μ:Mu}{s:St}{a:Act}(hr:RS N W F μ s a)(hk:Kp No W W')(l:List Nat){σ':Sto}(hσ:σ'=ups s.σ (eR s.σ l)) :
  Stp W F μ s.σ W' (fun b=>(F b\/Beh μ s.σ l b)\/(W.heap.size<=b/\b<W'.heap.size)) μ σ'/\Inv W' (fun b=>(F b\/Beh μ s.σ l b)\/(W.heap.size<=b/\b<W'.heap.size)) μ σ':=by
 have hi:=hr.inv
 have hj:∀j,σ' j=if j∈l then ⟨(s.σ j).ep,none⟩ else s.σ j:=fun j=>by rw [hσ,sM]
 have alive:∀id ep bd,σ' id=⟨ep,some bd⟩->id∉l/\s.σ id=⟨ep,some bd⟩:=fun id ep bd h=>by
  rw [hj] at h
  split at h
  ·cases h
  ·exact⟨by assumption,h⟩
 have own:∀b,Own μ σ' b->Own μ s.σ b:=fun b ⟨id,ep,bd,c,h1,h2⟩=>⟨id,ep,bd,c,(alive id ep bd h1).2,h2⟩
 have hs:Stp W F μ s.σ W' (fun b=>(F b\/Beh μ s.σ l b)\/(W.heap.size<=b/\b<W'.heap.size)) μ σ':=by
  refine⟨hk.mono fun k _ h=>h.elim,fun b hb=>.inl (.inl hb),fun b hb=>?_,fun b hb=>.inl (own b hb),fun id=>?_,fun id he bd' hb'=>?_⟩
  ·rcases hb with (hb|⟨id,_,ep,bd,c,h1,h2⟩)|hb
   ·exact .inl hb
   ·exact .inr (.inl ⟨id,ep,bd,c,h1,h2⟩)
   ·exact .inr (.inr hb.1)
  ·rw [hj]
   split <;> exact qJ _
  ·have h:=alive id (σ' id).ep bd' (SB.mk' rfl hb')
   exact⟨bd',by rw [h.2],rfl,rfl⟩
 refine⟨hs,fun id ep bd h=>?_,fun b hb=>?_,fun id id' b c c' h1 h2=>?_,fun b hb=>?_,hi.lay.keep hi.old (fun b h=>.inl (.inl h)) fun b _ hlt=>hk.block b hlt id_no⟩
 ·refine (hi.body id ep bd (alive id ep bd h).2).stp hi hs fun b c hp=>?_
  exact hk.block b (hi.apart b ⟨id,ep,bd,c,(alive id ep bd h).2,hp⟩).1 id_no
 ·obtain⟨id,ep,bd,c,h1,h2⟩:=hb
  obtain⟨g1,g2⟩:=alive id ep bd h1
  have h3:=hi.apart b ⟨id,ep,bd,c,g2,h2⟩
  refine⟨vK h3.1 hk.size,?_⟩
  rintro ((h|⟨id',hin,ep',bd',c',h4,h5⟩)|h)
  ·exact h3.2 h
  ·exact g1 (hi.inj id id' b c c' (by rw [g2];rfl) (by rw [h4];rfl) h2 h5 ▸ hin)
  ·omega
 ·refine hi.inj id id' b c c' ?_ ?_
  ·obtain⟨bd,hbd⟩:=vY.1 h1
   rw [(alive id _ bd (SB.mk' rfl hbd)).2];rfl
  ·obtain⟨bd,hbd⟩:=vY.1 h2
   rw [(alive id' _ bd (SB.mk' rfl hbd)).2];rfl
 ·rcases hb with (hb|⟨id,_,ep,bd,c,h1,h2⟩)|hb
  ·exact vK (hi.old b hb) hk.size
  ·exact vK (hi.apart b ⟨id,ep,bd,c,h1,h2⟩).1 hk.size
  ·exact hb.2
where
 id_no {b:Nat}:¬No b:=fun h=>h
theorem ml {P:Program}{N:Nat}{o:Oper}{c:Call}{fop:Operand}{s:St}{f:FuncId}{first caps ys:List AV}{l:List Nat}{r:AV}(ho:o.op = .call c)(hc:c.callee = .value fop)(hf:s.ev fop = .fn f first caps)
  (hz:FzL s.σ (first++(c.args.toList.map s.ev++caps)) ys l) (h:aa P f ys r) {E:Eff} (hE:E.val=r) (hrd:∀id∈l,id∈E.rd\/∃p∈E.up,p.1=id) {kl:List Nat} (hup:E.up=eR s.σ kl)
  (hfit:kl=l\/r.flat=true):ax P N o s E:=by
 intro s' hev hid hid' W F μ a hr K Q hK
 have hl':∀id∈l,s'.σ id=s.σ id:=fun id hin=>by
  rcases hrd id hin with h|⟨p,hp,rfl⟩
  ·exact hid id h
  ·exact hid' p hp
 have hopers:o.op.operands.toList=fop::c.args.toList:=by
  rw [ho]
  simp [Op.operands,Call.operands,hc]
 have hf':s'.ev fop = .fn f first caps:=(hev fop (by rw [hopers];simp)).trans hf
 have hargs:c.args.toList.map s'.ev=c.args.toList.map s.ev:=List.map_congr_left fun x hx=>hev x (by rw [hopers];simp [hx])
 have hz':=hz.congr hl'
 rw [<- hargs] at hz'
 have hfv:=hr.ev fop
 rw [hf'] at hfv
 obtain⟨fs,cs,hfe,hfl,hcl,hfr,hcr⟩:=hfv.fn'
 obtain⟨fn,bd,g1,g2,g3⟩:=h.fn
 unfold Oper.wp
 rw [kU ho hc hfe g1 g2 g3]
 show Calls P f _ W _
 have hrel:=hz'.rel (W:=W) (F:=F) (μ:=μ) hr.inv (vs:=fs++(c.args.toList.map a.eval++cs)) (by simp [hfl,hcl]) (fun j x v hx hv=>by
  rw [vZ] at hx hv
  rw [hfl] at hv
  split at hx
  ·rename_i hlt
   rw [if_pos hlt] at hv
   exact hfr j x v hx hv
  ·rename_i hlt
   rw [if_neg hlt] at hv
   rw [vZ] at hx hv
   simp only [qG] at hx hv
   split at hx
   ·rename_i hlt2
    rw [if_pos hlt2] at hv
    rw [qF] at hx hv
    cases hq:c.args.toList[j-first.length]? with
    |none=>rw [hq] at hx;cases hx
    |some q=>
     rw [hq] at hx hv
     obtain rfl:s'.ev q=x:=by simpa using hx
     obtain rfl:a.eval q=v:=by simpa using hv
     exact hr.ev q
   ·rename_i hlt2
    rw [if_neg hlt2] at hv
    exact hcr _ x v hx hv)
 refine (h.calls W _ _ hrel.1.symm hrel.2 (fun b hb=>?_) (hr.inv.lay.go (fun _ h=>.inl h) fun _ _=>rfl)).mono ?_
 ·rcases hb with hb|⟨id,_,ep,bd,c,h1,h2⟩
  ·exact hr.inv.old b hb
  ·exact (hr.inv.apart b ⟨id,ep,bd,c,h1,h2⟩).1
 ·rintro e W' ⟨v,rfl,hk,hv⟩
  have hup':ups s'.σ E.up=ups s'.σ (eR s'.σ kl):=by
   rw [hup]
   unfold eR
   congr 1
   refine List.map_congr_left fun id hin=>?_
   have:s'.σ id=s.σ id:=hid' (id,⟨(s.σ id).ep,none⟩) (by rw [hup];exact qX (f:=fun id=>(id,(⟨(s.σ id).ep,none⟩:SB))) hin)
   rw [this]
  obtain⟨hs,hi⟩:=hr.ext hk kl (σ':=ups s'.σ E.up) hup'
  refine hK W' _ μ _ (hr.put hs hi (dst:=o.dst) (x:=E.val) (v:=v) (.pure ?_)) hs
  rw [hE]
  rcases hfit with rfl|hflat
  ·exact hv.to fun b hb=>hb
  ·exact zf hflat hv
theorem vg {P:Program}{N:Nat}{o:Oper}{c:Call}{fop:Operand}{s:St}{f:FuncId}{first caps ys:List AV}{l:List Nat}{r:AV}(ho:o.op = .call c)(hc:c.callee = .value fop)(hf:s.ev fop = .fn f first caps)
  (hz:FzL s.σ (first++(c.args.toList.map s.ev++caps)) ys l) (h:aa P f ys r) (hflat:r.flat=true):ax P N o s ⟨r,[],l⟩ :=
 ml ho hc hf hz h rfl (fun id hin=>.inl hin) (kl:=[]) rfl (.inr hflat)
theorem tc {P:Program}{N:Nat}{o:Oper}{c:Call}{fop:Operand}{s:St}{f:FuncId}{first caps ys:List AV}{l:List Nat}{r:AV}(ho:o.op = .call c)(hc:c.callee = .value fop)(hf:s.ev fop = .fn f first caps)
  (hz:FzL s.σ (first++(c.args.toList.map s.ev++caps)) ys l) (h:aa P f ys r):ax P N o s ⟨r,eR s.σ l,[]⟩ :=
 ml ho hc hf hz h rfl (fun id hin=>.inr ⟨_,qX (f:=fun id=>(id,(⟨(s.σ id).ep,none⟩:SB))) hin,rfl⟩) (kl:=l) rfl (.inl rfl)
def nP (Ds:List Nat)(W:World):World:=Ds.foldl (fun w D=>w.putObj D (.deferred none)) W
theorem rz:∀(Ds:List Nat) (W:World),Kp (fun b=>b∈Ds) W (nP Ds W)
 |[],W=>Kp.refl _ W
 |D::Ds,W=>by
  have h1:Kp (fun b=>b=D) W (W.putObj D (.deferred none)):=(Kp.refl _ W).grown (grownBy_put W D _) (fun k e=>.inl (by cases e;rfl))
  exact (h1.mono fun k _ e=>by subst e;exact vD).trans2 (rz Ds _) fun g _ h=>qZ _ h
where
 grownBy_put (W:World) (l:Nat) (o:Obj):W.grownBy (W.putObj l o) (some l):=⟨rfl,rfl,rfl,by simp,fun k _ hk=>World.putObj_heap_other (fun e=>hk (by rw [e]))⟩
theorem gC {P:Program}{fn:Func}{tmps:Array Value}{R:Ending->World->Prop}:∀(Ds:List Nat) (W:World),Ds.Nodup->(∀D∈Ds,W.heap[D]?=some (.deferred (some []))) ->
  (∃v,(results fn tmps).run P (nP Ds W) = .ok v (nP Ds W)/\R (.returned v) (nP Ds W))->LeavesInM Fence.wide 0 P fn tmps R (Ds.map fun D=>{ target:=.collected D,args:=#[] }) .returning W
 |[],W,_,_,h=>h
 |D::Ds,W,hn,hD,h=>by
  refine⟨by simp,.inl ⟨D,_,rfl,run_takeDeferred (hD D vD),gC Ds _ (vV.1 hn).2 (fun D' hD'=>?_) h⟩⟩
  rw [World.putObj_heap_other (fun e:D'=D=>(vV.1 hn).1 (e ▸ hD'))]
  exact hD D' (qZ _ hD')
theorem Rel.heap {W W':World}{F:Nat->Prop}{μ:Mu}{σ:Sto}(hk:∀b,F b->b<W.heap.size->W'.heap[b]?=W.heap[b]?){x:AV}{v:Value}(hx:Rel W F μ σ x v):Rel W' F μ σ x v:=by
 induction hx with
 |pure hp=>exact .pure (hp.keep hk fun _ h _=>h)
 |own id ep off v he h1 hv=>exact .own id ep off v he h1 hv
 |el id ep k j v he h1 hv=>exact .el id ep k j v he h1 hv
 |row id ep off n v he h1 hv=>exact .row id ep off n v he h1 hv
 |ref id ep k v he h1 hv=>exact .ref id ep k v he h1 hv
 |agg cs vs hl h1 hr ih=>exact .agg cs vs hl h1 ih
 |tup cs vs hl hr ih=>exact .tup cs vs hl ih
 |fn f first caps fs cs hf hc hr hr' ih ih'=>exact .fn f first caps fs cs hf hc ih ih'
 |any v=>exact .any v
theorem aM.heap {W W':World}{F:Nat->Prop}{μ:Mu}{σ:Sto}(hk:∀b,F b->b<W.heap.size->W'.heap[b]?=W.heap[b]?){p:Option (Nat × Nat)}{bd:aE}(hb:aM W F μ σ p bd)
  (ho:∀b c,p=some (b,c)->W'.heap[b]?=W.heap[b]?):aM W' F μ σ p bd:=by
 cases bd with
 |box t cs=>
  obtain⟨b,c,vs,hp,hh,hl,hr⟩:=hb
  exact⟨b,c,vs,hp,(ho b c hp).trans hh,hl,fun j x v h1 h2=>⟨(hr j x v h1 h2).1,(hr j x v h1 h2).2.heap hk⟩⟩
 |row t m els=>
  rcases hb with hb|⟨b,cap,cur,hp,hh,h1,h2,h3,h4,h5⟩
  ·exact .inl hb
  ·refine .inr ⟨b,cap,cur,hp,(ho b cap hp).trans hh,h1,h2,h3,h4,fun k cs j x g1 g2=>?_⟩
   obtain⟨q1,v,q2,q3⟩:=h5 k cs j x g1 g2
   exact⟨q1,v,q2,q3.keep hk fun _ h _=>h⟩
 |ghost id ep q=>exact hb
 |obj o=>
  obtain⟨b,c,hp,hh⟩:=hb
  exact⟨b,c,hp,(ho b c hp).trans hh⟩
 |nest t els=>
  rcases hb with hb|⟨b,cap,cur,hp,hh,h1,h2,h3,h5⟩
  ·exact .inl hb
  ·refine .inr ⟨b,cap,cur,hp,(ho b cap hp).trans hh,h1,h2,h3,fun k x g1=>?_⟩
   obtain⟨q1,v,q2,q3⟩:=h5 k x g1
   exact⟨q1,v,q2,q3.heap hk⟩
theorem RS.heap {N:Nat}{W W':World}{F:Nat->Prop}{μ:Mu}{s:St}{a:Act}(hr:RS N W F μ s a)(hz:W.heap.size<=W'.heap.size)(hk:∀b,b<W.heap.size->F b\/Own μ s.σ b->W'.heap[b]?=W.heap[b]?){ds:List Deferred}(hd:gY W' F μ s.σ ds) :
  RS N W' F μ s { a with defers:=ds }:=by
 have hF:∀b,F b->b<W.heap.size->W'.heap[b]?=W.heap[b]?:=fun b h1 h2=>hk b h2 (.inl h1)
 refine⟨fun t=>(hr.ts t).heap hF,hd,hr.n,⟨fun id ep bd hb=>(hr.inv.body id ep bd hb).heap hF fun b c hp=>?_,fun b hb=>⟨vK (hr.inv.apart b hb).1 hz,(hr.inv.apart b hb).2⟩,hr.inv.inj,fun b hb=>vK (hr.inv.old b hb) hz,hr.inv.lay.keep hr.inv.old (fun _ h=>h) hF⟩⟩
 have ho:Own μ s.σ b:=⟨id,ep,bd,c,hb,hp⟩
 exact hk b (hr.inv.apart b ho).1 (.inr ho)
theorem jG {P:Program}{f:FuncId}{fn:Func}{c:Code}{N:Nat}{W:World}{F:Nat -> Prop}{μ:Mu}{σ:Sto}{args:Array Value}{Q:Exit -> St -> Prop}{R:Ending -> World -> Prop}(hf:P.funcs[f]? = some fn)(hb:fn.body = some c)
  (h:Code.wpA c P (fun e a' W'=>∃F' μ' s',Q e s'/\RS N W' F' μ' s' a'/\Std W F μ σ { tmps:=args++Array.replicate (fn.ntmps-args.size) undef,defers:=[] } W' F' μ' s'.σ a') { tmps:=args++Array.replicate (fn.ntmps-args.size) undef,defers:=[] } W)
  (hQ:∀e s',Q e s'->e = .normal\/e = .ret)
  (hR:∀e W' F' μ' s' a',Q e s'->RS N W' F' μ' s' a'->Stq W F μ σ W' F' μ' s'.σ->∃v,(results fn a'.tmps).run P W' = .ok v W'/\R (.returned v) W'):Calls P f args W R:=by
 refine (callsIn_wide (n:=0)).1 (callsIn_of_wp_marks hf hb trivial (wpIn_mono (h none fun _=>rfl) ?_))
 rintro e a' W' ⟨F',μ',s',hq,hr,hs⟩
 have key:LeavesInM Fence.wide 0 P fn a'.tmps R a'.defers .returning W':=by
  obtain⟨Ds,h1,h2,h3⟩:=hr.defers
  rw [h2]
  refine gC Ds W' h1 (fun D hD=>(h3 D hD).1) ?_
  have hkp:=rz Ds W'
  have hr':RS N (nP Ds W') F' μ' s' { a' with defers:=[] }:=hr.heap hkp.size (fun b hlt hb=>hkp.block b hlt fun hin=>hb.elim (h3 b hin).2.1 (h3 b hin).2.2) .nil
  refine hR e _ F' μ' s' { a' with defers:=[] } hq hr' ⟨hs.kp.trans2 hkp fun g hlt hin=>?_,hs.fro,hs.new,hs.own⟩
  rcases hs.nw { target:=.collected g,args:=#[] } (by rw [h2];exact qX hin) with hx|⟨D,e,hD⟩
  ·cases hx
  ·obtain rfl:g=D:=by simpa using e
   omega
 rcases hQ e s' hq with rfl|rfl <;> exact key
def st0 (args:List AV):St:=⟨fun t=>args.getD t (.tup []),fun _=>⟨0,none⟩⟩
def m8 (P:Program)(fn:Func)(s:St)(x:AV):Prop :=
 ∀W F μ a,RS fn.ntmps W F μ s a->∃v,(results fn a.tmps).run P W = .ok v W/\Rel W F μ s.σ x v
def yx (P:Program)(fn:Func)(r:AV)(e:Exit)(s:St):Prop:=(e = .normal\/e = .ret)/\∃x l,m8 P fn s x/\Fz s.σ x r l
theorem aa.of_body {P : Program} {f : FuncId} {fn : Func} {c : Code} {args : List AV} {r : AV} (hf : P.funcs[f]? = some fn) (hb : fn.body = some c) (hn : (fn.name == "runtime.NumGoroutine") = false) (hlen : args.length <= fn.ntmps)
  (h:AW P fn.ntmps c (yx P fn r) (st0 args)):aa P f args r:=by
 refine⟨⟨fn,c,hf,hb,hn⟩,fun W F vs hl hv hF hL=>?_⟩
 have hi:Inv W F (fun _=>none) (fun _=>⟨0,none⟩):=⟨fun _ _ _ h=>(by cases h),fun b ⟨_,_,_,_,h,_⟩=>(by cases h),fun _ _ _ _ _ h=>(by cases h),hF,hL⟩
 have hr:RS fn.ntmps W F (fun _=>none) (st0 args) { tmps:=vs.toArray++Array.replicate (fn.ntmps-vs.toArray.size) undef,defers:=[] }:=by
  refine⟨fun t=>?_,.nil,by simp;omega,hi⟩
  show Rel W F _ _ (args.getD t (.tup [])) _
  rw [vU,Array.getElem?_append,qM]
  by_cases ht:t<args.length
  ·have h1:args[t]?=some args[t]:=qA ht
   have h2:vs[t]?=some vs[t]:=qA (by omega)
   rw [if_pos (by simp;omega),uG,h1,h2]
   exact .pure (hv t _ _ h1 h2)
  ·rw [if_neg (by simp;omega),vX (by omega)]
   have:(Array.replicate (fn.ntmps-vs.toArray.size) undef)[t-vs.toArray.size]?.getD undef=undef:=by
    rw [Array.getElem?_replicate]
    split <;> rfl
   rw [this]
   exact .pure (.tup [] [] rfl (by simp))
 refine jG hf hb (h W F _ _ hr) (fun _ _ h=>h.1) ?_
 rintro e W' F' μ' s' a' ⟨he,x,l,hres,hz⟩ hr' hs
 obtain⟨v,hrun,hx⟩:=hres W' F' μ' a' hr'
 have hno:∀b,¬Own (fun _=>none) (fun _=>(⟨0,none⟩:SB)) b:=fun b ⟨_,_,_,_,h,_⟩=>(by cases h)
 have hfin:∃v,e≠.outgrown/\Ending.returned v = .returned v/\(results fn a'.tmps).run P W' = .ok v W'/\Kp No W W'/\au W' (fun b=>F b\/(W.heap.size<=b/\b<W'.heap.size)) r v:=by
  refine⟨v,by rcases he with rfl|rfl <;> simp,rfl,hrun,hs.kp.mono fun b _ hb=>(hno b hb).elim,((hz.rel hr'.inv hx).1).to fun b hb=>?_⟩
  rcases hb with hb|⟨id,_,ep,bd,c,h1,h2⟩
  ·rcases hs.new b hb with h|h|h
   ·exact .inl h
   ·exact (hno b h).elim
   ·exact .inr ⟨h,hr'.inv.old b hb⟩
  ·have ho:Own μ' s'.σ b:=⟨id,ep,bd,c,h1,h2⟩
   rcases hs.own b ho with h|h
   ·exact (hno b h).elim
   ·exact .inr ⟨h,(hr'.inv.apart b ho).1⟩
 obtain⟨v,_,_,h1,h2,h3⟩:=hfin
 exact⟨v,h1,v,rfl,h2,h3⟩
theorem pV {P:Program}{fn:Func}{t:Tmp}(h:fn.results = #[.tmp t])(s:St):m8 P fn s (s.ts t) :=
 fun W F μ a hr=>⟨_,results_tmp h _ _ _,hr.ts t⟩
theorem rN {P:Program}{fn:Func}(h:fn.results = #[])(s:St):m8 P fn s (.tup []) :=
 fun W F μ a hr=>⟨_,results_none h _ _ _,.pure (.tup [] [] rfl (by simp))⟩
theorem cP {α β:Type}{R:α->β->Prop}:∀(j:Nat) (x:α) (v:β),([]:List α)[j]?=some x->([]:List β)[j]?=some v->R x v:=fun j x v h=>by simp at h
theorem aQ {α β:Type}{R:α->β->Prop}{x:α}{v:β}{xs:List α}{vs:List β}(h:R x v)(t:∀(j:Nat) (x:α) (v:β),xs[j]?=some x->vs[j]?=some v->R x v):∀(j:Nat) (y:α) (u:β),(x::xs)[j]?=some y->(v::vs)[j]?=some u->R y u:=by
 intro j y u h1 h2
 cases j with
 |zero=>
  obtain rfl:x=y:=by simpa using h1
  obtain rfl:v=u:=by simpa using h2
  exact h
 |succ j=>exact t j y u (by simpa using h1) (by simpa using h2)
theorem BJ {P:Program}{fn:Func}{t u:Tmp}(h:fn.results = #[.tmp t,.tmp u])(s:St):m8 P fn s (.tup [s.ts t,s.ts u]) :=
 fun W F μ a hr=>⟨_,results_tmp2 h _ _ _,.tup [s.ts t,s.ts u] [a.tmps.getD t undef,a.tmps.getD u undef] rfl (aQ (hr.ts t) (aQ (hr.ts u) cP))⟩
def AV.val?:AV->Option Value
 | .b x=>some (.bool x)
 | .i k n=>some (.int k n)
 | .u x=>some (.int .u64 x.toNat)
 | .y x=>some (.int .u8 x.toNat)
 | .s l=>some (.string ⟨l.toArray⟩)
 | .raw v=>some v
 |_=>none
theorem Ej {W:World}{F:Nat->Prop}{x:AV}{v:Value}(h:x.val?=some v):au W F x v:=by
  cases x with
  | b x => obtain rfl : Value.bool x = v := by simpa [AV.val?] using h
           exact .b x
  | i k n => obtain rfl : Value.int k n = v := by simpa [AV.val?] using h
             exact .i k n
  | u x => obtain rfl : Value.int .u64 x.toNat = v := by simpa [AV.val?] using h
           exact .u x
  | y x => obtain rfl : Value.int .u8 x.toNat = v := by simpa [AV.val?] using h
           exact .y x
  | s l => obtain rfl : Value.string ⟨l.toArray⟩ = v := by simpa [AV.val?] using h
           exact .s l
  | raw v' => obtain rfl : v' = v := by simpa [AV.val?] using h
              exact .raw v'
  |_=>simp [AV.val?] at h
theorem ug {W:World}{F:Nat->Prop}{μ:Mu}{σ:Sto}{x:AV}{v u:Value}(h:x.val?=some u)(hr:Rel W F μ σ x v):v=u:=by
 cases x with
 |b x=>rw [hr.b'];simpa [AV.val?] using h
 |i k n=>rw [hr.i'];simpa [AV.val?] using h
 |u x=>rw [hr.u'];simpa [AV.val?] using h
 |y x=>rw [hr.y'];simpa [AV.val?] using h
 |s l=>rw [hr.s'];simpa [AV.val?] using h
 |raw v'=>rw [hr.raw'];simpa [AV.val?] using h
 |_=>simp [AV.val?] at h
def ct (a:UInt64)(n:Nat):UInt64:=UInt64.ofNat (a.toNat*2 ^ min n 64)
def cj (a:UInt64)(n:Nat):UInt64:=UInt64.ofNat (a.toNat / 2 ^ min n 64)
def H7 (a:UInt8)(n:Nat):UInt8:=UInt8.ofNat (a.toNat*2 ^ min n 8)
def Im (a:UInt8)(n:Nat):UInt8:=UInt8.ofNat (a.toNat / 2 ^ min n 8)
def AH (op:BinOp)(a b:UInt64):Option AV :=
 match op with
 | .add=>some (.u (a+b))
 | .sub=>some (.u (a-b))
 | .mul=>some (.u (a*b))
 | .and=>some (.u (a &&& b))
 | .or=>some (.u (a ||| b))
 | .xor=>some (.u (a ^^^ b))
 | .andNot=>some (.u (a &&& ~~~b))
 | .quo=>cond (b == 0) none (some (.u (a / b)))
 | .rem=>cond (b == 0) none (some (.u (a % b)))
 | .eql=>some (.b (decide (a=b)))
 | .neq=>some (.b (!decide (a=b)))
 | .lss=>some (.b (decide (a<b)))
 | .leq=>some (.b (decide (a<=b)))
 | .gtr=>some (.b (decide (b<a)))
 | .geq=>some (.b (decide (b<=a)))
 |_=>none
def Bu (op:BinOp)(a b:UInt8):Option AV :=
 match op with
 | .add=>some (.y (a+b))
 | .sub=>some (.y (a-b))
 | .and=>some (.y (a &&& b))
 | .or=>some (.y (a ||| b))
 | .quo=>cond (b == 0) none (some (.y (a / b)))
 | .rem=>cond (b == 0) none (some (.y (a % b)))
 | .eql=>some (.b (decide (a=b)))
 | .neq=>some (.b (!decide (a=b)))
 | .lss=>some (.b (decide (a<b)))
 | .leq=>some (.b (decide (a<=b)))
 | .gtr=>some (.b (decide (b<a)))
 | .geq=>some (.b (decide (b<=a)))
 |_=>none
def D2 (k:IntKind)(op:BinOp)(a b:Int):Option AV :=
 match op with
 | .add=>some (.i k (k.wrap (a+b)))
 | .sub=>some (.i k (k.wrap (a-b)))
 | .mul=>some (.i k (k.wrap (a*b)))
 | .quo=>cond (decide (b=0)) none (some (.i k (k.wrap (a.tdiv b))))
 | .rem=>cond (decide (b=0)) none (some (.i k (a.tmod b)))
 | .and=>some (.i k (k.wrap (BitVec.ofInt k.bits a &&& BitVec.ofInt k.bits b).toNat))
 | .or=>some (.i k (k.wrap (BitVec.ofInt k.bits a ||| BitVec.ofInt k.bits b).toNat))
 | .eql=>some (.b (decide (a=b)))
 | .neq=>some (.b (!decide (a=b)))
 | .lss=>some (.b (decide (a<b)))
 | .leq=>some (.b (decide (a<=b)))
 | .gtr=>some (.b (decide (b<a)))
 | .geq=>some (.b (decide (b<=a)))
 |_=>none
def Gb (op:BinOp)(a b:List UInt8):Option AV :=
 match op with
 | .eql=>some (.b (decide (a=b)))
 | .neq=>some (.b (!decide (a=b)))
 | .lss=>some (.b (Op.bytesLess a b))
 |_=>none
def AV.cnt:AV->Option Nat
 | .i _ (.ofNat n)=>some n
 | .u n=>some n.toNat
 |_=>none
def shA (op:BinOp)(x:AV)(n:Nat):Option AV :=
 match x,op with
 | .u a,.shl=>some (.u (ct a n))
 | .u a,.shr=>some (.u (cj a n))
 | .y a,.shl=>some (.y (H7 a n))
 | .y a,.shr=>some (.y (Im a n))
 | .i k a,.shl=>some (.i k (k.wrap (a*2 ^ min n k.bits)))
 | .i k a,.shr=>some (.i k (a.fdiv (2 ^ min n k.bits)))
 |_,_=>none
def nD:BinOp->Bool
 | .shl | .shr=>true
 |_=>false
def yK (op:BinOp)(x y:AV):Option AV :=
 cond (nD op) (match y.cnt with|some n=>shA op x n|none=>none) <|
 match x,y with
 | .i k a,.i k' b=>if k=k' then D2 k op a b else none
 | .u a,.u b=>AH op a b
 | .y a,.y b=>Bu op a b
 | .s a,.s b=>Gb op a b
 |_,_=>none
theorem dp (x:UInt64):BitVec.ofInt 64 (x.toNat:Int)=x.toBitVec:=by
 apply BitVec.eq_of_toNat_eq
 rw [BitVec.toNat_ofInt]
 have:=nV x
 show ((x.toNat:Int) % ((2 ^ 64:Nat):Int)).toNat=x.toNat
 omega
theorem kt (x:UInt8):BitVec.ofInt 8 (x.toNat:Int)=x.toBitVec:=by
 apply BitVec.eq_of_toNat_eq
 rw [BitVec.toNat_ofInt]
 have:=pE x
 show ((x.toNat:Int) % ((2 ^ 8:Nat):Int)).toNat=x.toNat
 omega
theorem gv (v:BitVec 64):IntKind.u64.wrap ((v.toNat:Nat):Int)=((UInt64.ofBitVec v).toNat:Int):=by
 rw [IntKind.wrap_u64]
 have:=v.isLt
 show _=((v.toNat:Nat):Int)
 omega
theorem sx (v:BitVec 8):IntKind.u8.wrap ((v.toNat:Nat):Int)=((UInt8.ofBitVec v).toNat:Int):=by
 rw [IntKind.wrap_u8']
 have:=v.isLt
 show _=((v.toNat:Nat):Int)
 omega
theorem j8 (a b:UInt64):((a.toNat:Int)=(b.toNat:Int))=(a=b):=propext ⟨fun h=>UInt64.toNat_inj.1 (Int.ofNat.inj h),fun h=>by rw [h]⟩
theorem li (a b:UInt8):((a.toNat:Int)=(b.toNat:Int))=(a=b):=propext ⟨fun h=>UInt8.toNat_inj.1 (Int.ofNat.inj h),fun h=>by rw [h]⟩
theorem vc (a b:UInt64):((a.toNat:Int)<(b.toNat:Int))=(a<b):=propext (by rw [UInt64.lt_iff_toNat_lt];omega)
theorem uo (a b:UInt64):((a.toNat:Int)<=(b.toNat:Int))=(a<=b):=propext (by rw [UInt64.le_iff_toNat_le];omega)
theorem yE (a b:UInt8):((a.toNat:Int)<(b.toNat:Int))=(a<b):=propext (by rw [UInt8.lt_iff_toNat_lt];omega)
theorem yJ (a b:UInt8):((a.toNat:Int)<=(b.toNat:Int))=(a<=b):=propext (by rw [UInt8.le_iff_toNat_le];omega)
theorem Ag (x y:UInt64):IntKind.u64.wrap ((x.toNat:Int)-(y.toNat:Int))=((x-y).toNat:Int):=by
 rw [IntKind.wrap_u64,UInt64.toNat_sub]
 have:=nV x
 have:=nV y
 omega
theorem zi (x y:UInt64):IntKind.u64.wrap ((x.toNat:Int).tdiv (y.toNat:Int))=((x / y).toNat:Int):=by
 rw [IntKind.wrap_u64,UInt64.toNat_div,<- Int.ofNat_tdiv]
 have h1:=nV x
 have h2:=Nat.div_le_self x.toNat y.toNat
 generalize x.toNat / y.toNat=z at *
 omega
theorem Am (x y:UInt64):(x.toNat:Int).tmod (y.toNat:Int)=((x % y).toNat:Int):=by rw [UInt64.toNat_mod];rfl
theorem CD (x y:UInt8):IntKind.u8.wrap ((x.toNat:Int)+(y.toNat:Int))=((x+y).toNat:Int):=by
 rw [IntKind.wrap_u8',UInt8.toNat_add]
 omega
theorem DP (x y:UInt8):IntKind.u8.wrap ((x.toNat:Int)-(y.toNat:Int))=((x-y).toNat:Int):=by
 rw [IntKind.wrap_u8',UInt8.toNat_sub]
 have:=pE x
 have:=pE y
 omega
theorem DU (x y:UInt8):IntKind.u8.wrap ((x.toNat:Int).tdiv (y.toNat:Int))=((x / y).toNat:Int):=by
 rw [IntKind.wrap_u8',UInt8.toNat_div,<- Int.ofNat_tdiv]
 have h1:=pE x
 have h2:=Nat.div_le_self x.toNat y.toNat
 generalize x.toNat / y.toNat=z at *
 omega
theorem Ez (x y:UInt8):(x.toNat:Int).tmod (y.toNat:Int)=((x % y).toNat:Int):=by rw [UInt8.toNat_mod];rfl
theorem El (a b:UInt64):((a.toNat:Int) == (b.toNat:Int))=decide (a=b):=by show decide _=_;simp only [j8]
theorem Cs (a b:UInt64):((a.toNat:Int) != (b.toNat:Int)) = !decide (a=b):=by show (!decide _)=_;simp only [j8]
theorem wP (a b:UInt64):decide ((a.toNat:Int)<(b.toNat:Int))=decide (a<b):=by simp only [vc]
theorem xe (a b:UInt64):decide ((a.toNat:Int)<=(b.toNat:Int))=decide (a<=b):=by simp only [uo]
theorem Fi (a b:UInt8):((a.toNat:Int) == (b.toNat:Int))=decide (a=b):=by show decide _=_;simp only [li]
theorem FU (a b:UInt8):((a.toNat:Int) != (b.toNat:Int)) = !decide (a=b):=by show (!decide _)=_;simp only [li]
theorem BF (a b:UInt8):decide ((a.toNat:Int)<(b.toNat:Int))=decide (a<b):=by simp only [yE]
theorem Bh (a b:UInt8):decide ((a.toNat:Int)<=(b.toNat:Int))=decide (a<=b):=by simp only [yJ]
section
variable {P:Program} {W:World}
theorem Eo {op:BinOp}{t:TypeId}{a b:UInt64}{r:AV}(hs:nD op=false)(h:AH op a b=some r):∃v,r.val?=some v/\(binOp op t (.int .u64 a.toNat) (.int .u64 b.toNat)).run P W = .ok v W:=by
 cases op with
 |add=>
  obtain rfl:=qB h
  refine⟨_,rfl,?_⟩
  show Result.ok (Value.int .u64 (IntKind.u64.wrap ((a.toNat:Int)+(b.toNat:Int)))) W=_
  rw [DM]
 |sub=>
  obtain rfl:=qB h
  refine⟨_,rfl,?_⟩
  show Result.ok (Value.int .u64 (IntKind.u64.wrap ((a.toNat:Int)-(b.toNat:Int)))) W=_
  rw [Ag]
 |mul=>
  obtain rfl:=qB h
  refine⟨_,rfl,?_⟩
  show Result.ok (Value.int .u64 (IntKind.u64.wrap ((a.toNat:Int)*(b.toNat:Int)))) W=_
  rw [Ex]
 |and=>
  obtain rfl:=qB h
  refine⟨_,rfl,?_⟩
  show Result.ok (Value.int .u64 (IntKind.u64.wrap (BitVec.toNat (BitVec.ofInt 64 (a.toNat:Int) &&& BitVec.ofInt 64 (b.toNat:Int))))) W=_
  rw [dp,dp,gv]
  rfl
 |or=>
  obtain rfl:=qB h
  refine⟨_,rfl,?_⟩
  show Result.ok (Value.int .u64 (IntKind.u64.wrap (BitVec.toNat (BitVec.ofInt 64 (a.toNat:Int) ||| BitVec.ofInt 64 (b.toNat:Int))))) W=_
  rw [dp,dp,gv]
  rfl
 |xor=>
  obtain rfl:=qB h
  refine⟨_,rfl,?_⟩
  show Result.ok (Value.int .u64 (IntKind.u64.wrap (BitVec.toNat (BitVec.ofInt 64 (a.toNat:Int) ^^^ BitVec.ofInt 64 (b.toNat:Int))))) W=_
  rw [dp,dp,gv]
  rfl
 |andNot=>
  obtain rfl:=qB h
  refine⟨_,rfl,?_⟩
  show Result.ok (Value.int .u64 (IntKind.u64.wrap (BitVec.toNat (BitVec.ofInt 64 (a.toNat:Int) &&& ~~~BitVec.ofInt 64 (b.toNat:Int))))) W=_
  rw [dp,dp,gv]
  rfl
 |eql=>
  obtain rfl:=qB h
  refine⟨_,rfl,?_⟩
  show Result.ok (Value.bool ((a.toNat:Int) == (b.toNat:Int))) W=_
  rw [El]
 |neq=>
  obtain rfl:=qB h
  refine⟨_,rfl,?_⟩
  show Result.ok (Value.bool ((a.toNat:Int) != (b.toNat:Int))) W=_
  rw [Cs]
 |lss=>
  obtain rfl:=qB h
  refine⟨_,rfl,?_⟩
  show Result.ok (Value.bool (decide ((a.toNat:Int)<(b.toNat:Int)))) W=_
  rw [wP]
 |leq=>
  obtain rfl:=qB h
  refine⟨_,rfl,?_⟩
  show Result.ok (Value.bool (decide ((a.toNat:Int)<=(b.toNat:Int)))) W=_
  rw [xe]
 |gtr=>
  obtain rfl:=qB h
  refine⟨_,rfl,?_⟩
  show Result.ok (Value.bool (decide ((b.toNat:Int)<(a.toNat:Int)))) W=_
  rw [wP]
 |geq=>
  obtain rfl:=qB h
  refine⟨_,rfl,?_⟩
  show Result.ok (Value.bool (decide ((b.toNat:Int)<=(a.toNat:Int)))) W=_
  rw [xe]
 |quo=>
  simp only [AH] at h
  cases hb:(b == 0) with
  |true=>rw [hb] at h;cases h
  |false=>
   rw [hb,cond_false,qU] at h
   subst h
   have h0:¬(b.toNat:Int)=0:=fun e=>by
    have:b=0:=UInt64.toNat_inj.1 (Int.ofNat.inj e)
    subst this
    simp at hb
   refine⟨_,rfl,?_⟩
   simp only [binOp,Op.intDiv,ne_eq,not_true_eq_false,if_false,if_neg h0,kA3,zi]
 |rem=>
  simp only [AH] at h
  cases hb:(b == 0) with
  |true=>rw [hb] at h;cases h
  |false=>
   rw [hb,cond_false,qU] at h
   subst h
   have h0:¬(b.toNat:Int)=0:=fun e=>by
    have:b=0:=UInt64.toNat_inj.1 (Int.ofNat.inj e)
    subst this
    simp at hb
   refine⟨_,rfl,?_⟩
   simp only [binOp,Op.intDiv,ne_eq,not_true_eq_false,if_false,if_neg h0,kA3,Am]
 |_=>first|(simp [nD] at hs;done)|(simp [AH] at h;done)
theorem Ew {op:BinOp}{t:TypeId}{a b:UInt8}{r:AV}(hs:nD op=false)(h:Bu op a b=some r):∃v,r.val?=some v/\(binOp op t (.int .u8 a.toNat) (.int .u8 b.toNat)).run P W = .ok v W:=by
 cases op with
 |add=>
  obtain rfl:=qB h
  refine⟨_,rfl,?_⟩
  show Result.ok (Value.int .u8 (IntKind.u8.wrap ((a.toNat:Int)+(b.toNat:Int)))) W=_
  rw [CD]
 |sub=>
  obtain rfl:=qB h
  refine⟨_,rfl,?_⟩
  show Result.ok (Value.int .u8 (IntKind.u8.wrap ((a.toNat:Int)-(b.toNat:Int)))) W=_
  rw [DP]
 |and=>
  obtain rfl:=qB h
  refine⟨_,rfl,?_⟩
  show Result.ok (Value.int .u8 (IntKind.u8.wrap (BitVec.toNat (BitVec.ofInt 8 (a.toNat:Int) &&& BitVec.ofInt 8 (b.toNat:Int))))) W=_
  rw [kt,kt,sx]
  rfl
 |or=>
  obtain rfl:=qB h
  refine⟨_,rfl,?_⟩
  show Result.ok (Value.int .u8 (IntKind.u8.wrap (BitVec.toNat (BitVec.ofInt 8 (a.toNat:Int) ||| BitVec.ofInt 8 (b.toNat:Int))))) W=_
  rw [kt,kt,sx]
  rfl
 |eql=>
  obtain rfl:=qB h
  refine⟨_,rfl,?_⟩
  show Result.ok (Value.bool ((a.toNat:Int) == (b.toNat:Int))) W=_
  rw [Fi]
 |neq=>
  obtain rfl:=qB h
  refine⟨_,rfl,?_⟩
  show Result.ok (Value.bool ((a.toNat:Int) != (b.toNat:Int))) W=_
  rw [FU]
 |lss=>
  obtain rfl:=qB h
  refine⟨_,rfl,?_⟩
  show Result.ok (Value.bool (decide ((a.toNat:Int)<(b.toNat:Int)))) W=_
  rw [BF]
 |leq=>
  obtain rfl:=qB h
  refine⟨_,rfl,?_⟩
  show Result.ok (Value.bool (decide ((a.toNat:Int)<=(b.toNat:Int)))) W=_
  rw [Bh]
 |gtr=>
  obtain rfl:=qB h
  refine⟨_,rfl,?_⟩
  show Result.ok (Value.bool (decide ((b.toNat:Int)<(a.toNat:Int)))) W=_
  rw [BF]
 |geq=>
  obtain rfl:=qB h
  refine⟨_,rfl,?_⟩
  show Result.ok (Value.bool (decide ((b.toNat:Int)<=(a.toNat:Int)))) W=_
  rw [Bh]
 |quo=>
  simp only [Bu] at h
  cases hb:(b == 0) with
  |true=>rw [hb] at h;cases h
  |false=>
   rw [hb,cond_false,qU] at h
   subst h
   have h0:¬(b.toNat:Int)=0:=fun e=>by
    have:b=0:=UInt8.toNat_inj.1 (Int.ofNat.inj e)
    subst this
    simp at hb
   refine⟨_,rfl,?_⟩
   simp only [binOp,Op.intDiv,ne_eq,not_true_eq_false,if_false,if_neg h0,kA3,DU]
 |rem=>
  simp only [Bu] at h
  cases hb:(b == 0) with
  |true=>rw [hb] at h;cases h
  |false=>
   rw [hb,cond_false,qU] at h
   subst h
   have h0:¬(b.toNat:Int)=0:=fun e=>by
    have:b=0:=UInt8.toNat_inj.1 (Int.ofNat.inj e)
    subst this
    simp at hb
   refine⟨_,rfl,?_⟩
   simp only [binOp,Op.intDiv,ne_eq,not_true_eq_false,if_false,if_neg h0,kA3,Ez]
 |_=>first|(simp [nD] at hs;done)|(simp [Bu] at h;done)
theorem Cz {op:BinOp}{t:TypeId}{k:IntKind}{a b:Int}{r:AV}(hs:nD op=false)(h:D2 k op a b=some r):∃v,r.val?=some v/\(binOp op t (.int k a) (.int k b)).run P W = .ok v W:=by
 have e:∀op,nD op=false->binOp op t (.int k a) (.int k b)=match op with
   | .add | .sub | .mul=>Op.intArith op k a b
   | .quo | .rem=>Op.intDiv op k a b
   | .and | .or | .xor | .andNot=>Op.intBits op k a b
   |_=>Op.intCmp op a b:=fun op hs=>by
  cases op <;> first|(simp [nD] at hs;done)|simp only [binOp,ne_eq,not_true_eq_false,if_false]
 rw [e op hs]
 cases op with
 |add|sub|mul|and|or|eql|neq|lss|leq|gtr|geq=>
  obtain rfl:=qB h
  exact⟨_,rfl,rfl⟩
 |quo|rem=>
  simp only [D2] at h
  by_cases h0:b=0
  ·simp [h0] at h
  ·simp only [h0,decide_false,cond_false,qU] at h
   subst h
   refine⟨_,rfl,?_⟩
   simp only [Op.intDiv,if_neg h0,kA3]
 |_=>first|(simp [nD] at hs;done)|(simp [D2] at h;done)
theorem D6 {op:BinOp}{t:TypeId}{a b:List UInt8}{r:AV}(h:Gb op a b=some r):∃v,r.val?=some v/\(binOp op t (.string ⟨a.toArray⟩) (.string ⟨b.toArray⟩)).run P W = .ok v W:=by
 have hl (l:List UInt8):(⟨l.toArray⟩:ByteArray).toList=l:=by rw [ByteArray.toList_eq]
 cases op with
 |eql=>
  obtain rfl:=qB h
  refine⟨_,rfl,?_⟩
  show Result.ok (Value.bool ((⟨a.toArray⟩:ByteArray).toList == (⟨b.toArray⟩:ByteArray).toList)) W=_
  rw [hl,hl]
  congr 2
  by_cases e:a=b <;> simp [e]
 |neq=>
  obtain rfl:=qB h
  refine⟨_,rfl,?_⟩
  show Result.ok (Value.bool (!((⟨a.toArray⟩:ByteArray).toList == (⟨b.toArray⟩:ByteArray).toList))) W=_
  rw [hl,hl]
  congr 3
  by_cases e:a=b <;> simp [e]
 |lss=>
  obtain rfl:=qB h
  refine⟨_,rfl,?_⟩
  show Result.ok (Value.bool (Op.bytesLess (⟨a.toArray⟩:ByteArray).toList (⟨b.toArray⟩:ByteArray).toList)) W=_
  rw [hl,hl]
 |_=>simp [Gb] at h
theorem Az {op:BinOp}{t:TypeId}{x:AV}{n:Nat}{vx:Value}{ky:IntKind}{r:AV}(hx:x.val?=some vx)(h:shA op x n=some r):∃v,r.val?=some v/\(binOp op t vx (.int ky (n:Int))).run P W = .ok v W:=by
 have h0:¬(n:Int)<0:=by omega
 have hp (m:Nat):((2:Int) ^ m)=((2 ^ m:Nat):Int):=by simp
 cases x <;> cases op <;> simp only [shA,qU,reduceCtorEq] at h
 all_goals (
  subst h
  simp only [AV.val?,qU] at hx
  subst hx
  refine⟨_,rfl,?_⟩
  simp only [binOp,Op.shift,h0,if_false,IntKind.bits,vQ,kA3])
 ·rw [hp,<- Int.natCast_mul,sy,ct]
 ·rw [hp,Int.fdiv_eq_ediv_of_nonneg _ (Int.natCast_nonneg _),<- Int.natCast_ediv,cj,UInt64.toNat_ofNat_of_lt' (Nat.lt_of_le_of_lt (Nat.div_le_self _ _) (nV _))]
 ·rw [hp,<- Int.natCast_mul,q9,H7]
 ·rw [hp,Int.fdiv_eq_ediv_of_nonneg _ (Int.natCast_nonneg _),<- Int.natCast_ediv,Im,UInt8.toNat_ofNat_of_lt' (Nat.lt_of_le_of_lt (Nat.div_le_self _ _) (pE _))]
theorem CP {op:BinOp}{t:TypeId}{x y:AV}{vx vy:Value}{r:AV}(hx:x.val?=some vx)(hy:y.val?=some vy)(h:yK op x y=some r):∃v,r.val?=some v/\(binOp op t vx vy).run P W = .ok v W:=by
 unfold yK at h
 cases hs:nD op with
 |true=>
  rw [hs,cond_true] at h
  cases hc:y.cnt with
  |none=>rw [hc] at h;cases h
  |some n=>
   rw [hc] at h
   cases y <;> first|(simp [AV.cnt] at hc;done)|skip
   ·rename_i k m
    cases m with
    |negSucc m=>simp [AV.cnt] at hc
    |ofNat m=>
     obtain rfl:m=n:=by simpa [AV.cnt] using hc
     obtain rfl:Value.int k (m:Int)=vy:=by simpa [AV.val?] using hy
     exact Az hx h
   ·rename_i m
    obtain rfl:m.toNat=n:=by simpa [AV.cnt] using hc
    obtain rfl:Value.int .u64 (m.toNat:Int)=vy:=by simpa [AV.val?] using hy
    exact Az hx h
 |false=>
  rw [hs,cond_false] at h
  split at h
  ·split at h
   ·rename_i e
    subst e
    simp only [AV.val?,qU] at hx hy
    subst hx hy
    exact Cz hs h
   ·cases h
  ·simp only [AV.val?,qU] at hx hy
   subst hx hy
   exact Eo hs h
  ·simp only [AV.val?,qU] at hx hy
   subst hx hy
   exact Ew hs h
  ·simp only [AV.val?,qU] at hx hy
   subst hx hy
   exact D6 h
  ·cases h
end
end Go.Proofs.YtdidjpohnopihaaGreat.Sm
end
section
namespace Go.Proofs.YtdidjpohnopihaaGreat.Sm
open Go.RowKit
inductive TK where
 |bool|int (k:IntKind)|str|slice (e:Nat)|arr (n e:Nat)|strct (fs:List (Nat × Nat))|ptr|map|func|other
structure TI where
 k:TK
 n:Nat
 sz:Nat
 z:List AV
abbrev TT:=List (Nat × TI)
def dZ:TT->Nat->Option TI
 |[],_=>none
 |p::l,t=>cond (Nat.beq p.1 t) (some p.2) (dZ l t)
def TK.ag:TK->Bool
 | .arr _ _ | .strct _=>true
 |_=>false
def kOk:TypeDesc->TK->Bool
 | .bool,.bool=>true
 | .int k,.int k'=>decide (k=k')
 | .string,.str=>true
 | .slice e,.slice e'=>decide (e=e')
 | .array n e,.arr n' e'=>decide (n=n') && decide (e=e')
 | .struct fs,.strct l=>decide (fs.toList.map (fun f=>(f.type,f.offset))=l)
 | .pointer _,.ptr=>true
 | .map _ _,.map=>true
 | .func _ _ _,.func=>true
 | .struct _,.other=>false
 | .array _ _,.other=>false
 |_,.other=>true
 |_,_=>false
def zOk:Value->AV->Bool
 | .bool false,.b false=>true
 | .int k (.ofNat 0),.i k' (.ofNat 0)=>decide (k=k')
 | .int .u64 (.ofNat 0),.u x=>x == 0
 | .int .u8 (.ofNat 0),.y x=>x == 0
 | .string str,.s []=>str.data.toList.isEmpty
 | .slice none 0 0,.raw (.slice none 0 0)=>true
 | .pointer none,.raw (.pointer none)=>true
 | .map none,.raw (.map none)=>true
 | .nilFunc,.raw .nilFunc=>true
 | .nilIface,.raw .nilIface=>true
 |_,_=>false
theorem EB {W:World}{F:Nat->Prop}{v:Value}{x:AV}(h:zOk v x=true):au W F x v/\x.one=true:=by
 unfold zOk at h
 split at h
 ·exact⟨.b _,rfl⟩
 ·obtain rfl:=of_decide_eq_true h
  exact⟨.i _ _,rfl⟩
 ·obtain rfl:=eq_of_beq h
  exact⟨.u 0,rfl⟩
 ·obtain rfl:=eq_of_beq h
  exact⟨.y 0,rfl⟩
 ·rename_i str
  have e:str=⟨([]:List UInt8).toArray⟩:=by
   cases str with
   |mk d=>
    cases d with
    |mk l=>
     have:l=[]:=by simpa using h
     rw [this]
  rw [e]
  exact⟨.s [],rfl⟩
 all_goals first|exact⟨.raw _,rfl⟩|cases h
def tq:List Value->List AV->Bool
 |[],[]=>true
 |v::vs,x::xs=>zOk v x && tq vs xs
 |_,_=>false
theorem da {W:World}{F:Nat->Prop}:∀{vs:List Value} {xs:List AV},tq vs xs=true->vs.length=xs.length/\∀(j:Nat) (x:AV) (v:Value),xs[j]?=some x->vs[j]?=some v->au W F x v/\x.one=true
 |[],[],_=>⟨rfl,fun j x v h=>by simp at h⟩
 |v::vs,x::xs,h=>by
  unfold tq at h
  rw [qQ] at h
  obtain⟨h1,h2⟩:=da (W:=W) (F:=F) h.2
  refine⟨by simp [h1],fun j y u hy hu=>?_⟩
  cases j with
  |zero=>
   obtain rfl:x=y:=by simpa using hy
   obtain rfl:v=u:=by simpa using hu
   exact EB h.1
  |succ j=>exact h2 j y u (by simpa using hy) (by simpa using hu)
 |[],_::_,h=>by simp [tq] at h
 |_::_,[],h=>by simp [tq] at h
def tiB (P:Program)(t:Nat)(ti:TI):Bool :=
 match P.info? t,P.underlying t with
 |some inf,some d=>decide (inf.size=ti.n) && decide (inf.bytes=ti.sz) && kOk d ti.k && (match inf.zero with|some z=>tq z.cells.toList ti.z|none=>false) && decide (ti.z.length=ti.n)
 |_,_=>false
structure aB (P:Program)(t:Nat)(ti:TI):Prop where
 zl:ti.z.length=ti.n
 h:∃inf d z,P.info? t=some inf/\P.underlying t=some d/\inf.size=ti.n/\inf.bytes=ti.sz/\kOk d ti.k=true/\inf.zero=some z/\tq z.cells.toList ti.z=true
theorem zP {P:Program}{t:Nat}{ti:TI}(h:tiB P t ti=true):aB P t ti:=by
 unfold tiB at h
 split at h
 ·rename_i inf d h1 h2
  simp only [qQ,vM] at h
  obtain⟨⟨⟨⟨a,b⟩,c⟩,e⟩,hzl⟩:=h
  split at e
  ·rename_i z hz
   exact⟨hzl,inf,d,z,h1,h2,a,b,c,hz,e⟩
  ·cases e
 ·cases h
def fW (P:Program)(T:TT):Bool:=T.all fun p=>tiB P p.1 p.2
theorem aW {P:Program}{T:TT}(h:fW P T=true){t:Nat}{ti:TI}(ht:dZ T t=some ti):aB P t ti:=by
 induction T with
 |nil=>cases ht
 |cons p l ih=>
  unfold fW at h
  rw [yB,qQ] at h
  unfold dZ at ht
  cases e:Nat.beq p.1 t with
  |true=>
   rw [e,cond_true] at ht
   injection ht with ht
   rw [<- ht,<- qY e]
   exact zP h.1
  |false=>
   rw [e,cond_false] at ht
   exact ih h.2 ht
def dAg:TypeDesc->Bool
 | .struct _ | .array _ _=>true
 |_=>false
section
variable {P:Program} {t:Nat} {ti:TI} (W:World)
theorem aB.size (h:aB P t ti):(sizeOf t).run P W = .ok ti.n W:=by
 obtain⟨inf,d,z,h1,h2,h3,_⟩:=h.h
 simp [sizeOf,typeInfo,h1,h3]
theorem aB.cells (h:aB P t ti):P.cellsOf t=ti.n:=by
 obtain⟨inf,d,z,h1,h2,h3,_⟩:=h.h
 simp [Program.cellsOf,h1,h3]
theorem aB.agg (h:aB P t ti):(isAgg t).run P W = .ok ti.k.ag W:=by
 obtain⟨inf,d,z,h1,h2,h3,h4,h5,_⟩:=h.h
 have e:(isAgg t).run P W = .ok (dAg d) W:=by
  simp only [isAgg,kA2,kA9 h2,kA1]
  cases d <;> rfl
 rw [e]
 congr 1
 generalize ti.k=k at h5
 cases d <;> cases k <;> first|rfl|(simp [kOk] at h5;done)
theorem aB.slice {e:Nat}(h:aB P t ti)(hk:ti.k = .slice e):P.underlying t=some (.slice e):=by
 obtain⟨inf,d,z,h1,h2,h3,h4,h5,_⟩:=h.h
 rw [hk] at h5
 cases d <;> first|(simp [kOk] at h5;done)|skip
 rw [h2]
 simpa [kOk] using h5
theorem aB.array {n e:Nat}(h:aB P t ti)(hk:ti.k = .arr n e):P.underlying t=some (.array n e):=by
 obtain⟨inf,d,z,h1,h2,h3,h4,h5,_⟩:=h.h
 rw [hk] at h5
 cases d <;> first|(simp [kOk] at h5;done)|skip
 rw [h2]
 simpa [kOk] using h5
theorem aB.int {k:IntKind}(h:aB P t ti)(hk:ti.k = .int k):P.underlying t=some (.int k):=by
 obtain⟨inf,d,z,h1,h2,h3,h4,h5,_⟩:=h.h
 rw [hk] at h5
 cases d <;> first|(simp [kOk] at h5;done)|skip
 rw [h2]
 simpa [kOk] using h5
theorem aB.str (h:aB P t ti)(hk:ti.k = .str):P.underlying t=some .string:=by
 obtain⟨inf,d,z,h1,h2,h3,h4,h5,_⟩:=h.h
 rw [hk] at h5
 cases d <;> first|(simp [kOk] at h5;done)|exact h2
theorem aB.bool (h:aB P t ti)(hk:ti.k = .bool):P.underlying t=some .bool:=by
 obtain⟨inf,d,z,h1,h2,h3,h4,h5,_⟩:=h.h
 rw [hk] at h5
 cases d <;> first|(simp [kOk] at h5;done)|exact h2
theorem aB.ptr (h:aB P t ti)(hk:ti.k = .ptr):∃e,P.underlying t=some (.pointer e):=by
 obtain⟨inf,d,z,h1,h2,h3,h4,h5,_⟩:=h.h
 rw [hk] at h5
 cases d <;> first|(simp [kOk] at h5;done)|exact⟨_,h2⟩
theorem aB.strct {fs:List (Nat × Nat)}(h:aB P t ti)(hk:ti.k = .strct fs):∃fs',P.underlying t=some (.struct fs')/\fs'.toList.map (fun f=>(f.type,f.offset))=fs:=by
 obtain⟨inf,d,z,h1,h2,h3,h4,h5,_⟩:=h.h
 rw [hk] at h5
 cases d <;> first|(simp [kOk] at h5;done)|skip
 exact⟨_,h2,by simpa [kOk] using h5⟩
theorem aB.zero (h:aB P t ti):∃z,(zeroValue t).run P W = .ok z W/\tq z.cells.toList ti.z=true:=by
 obtain⟨inf,d,z,h1,h2,h3,h4,h5,h6,h7⟩:=h.h
 exact⟨z,by simp [zeroValue,typeInfo,h1,h6],h7⟩
end
def upm (μ:Mu)(id:Nat)(p:Option (Nat × Nat)):Mu:=fun j=>if j=id then p else μ j
theorem dE (μ:Mu)(id:Nat)(p:Option (Nat × Nat))(j:Nat):upm μ id p j=if j=id then p else μ j:=rfl
theorem cy {W W':World}{F:Nat->Prop}{μ:Mu}{σ:Sto}(hi:Inv W F μ σ)(id:Nat)(p':Option (Nat × Nat))(ep':Nat)(bd':aE)
  (hk:Kp (fun b=>(σ id).body.isSome=true/\∃c,μ id=some (b,c)) W W')
  (hp:∀b c,p'=some (b,c)->b<W'.heap.size/\(W.heap.size<=b\/((σ id).body.isSome=true/\∃c',μ id=some (b,c'))))
  (hep:(σ id).ep<ep'\/(ep'=(σ id).ep/\∃bd,(σ id).body=some bd/\bd'.sh=bd.sh/\p'=μ id))
  (hb:Stp W F μ σ W' F (upm μ id p') (up1 σ id ⟨ep',some bd'⟩)->aM W' F (upm μ id p') (up1 σ id ⟨ep',some bd'⟩) p' bd') :
  Stp W F μ σ W' F (upm μ id p') (up1 σ id ⟨ep',some bd'⟩)/\Inv W' F (upm μ id p') (up1 σ id ⟨ep',some bd'⟩):=by
 have own0:∀b,((σ id).body.isSome=true/\∃c,μ id=some (b,c))->Own μ σ b:=fun b ⟨h1,c,h2⟩=>by
  obtain⟨bd,hbd⟩:=vY.1 h1
  exact⟨id,_,bd,c,SB.mk' rfl hbd,h2⟩
 have hs:Stp W F μ σ W' F (upm μ id p') (up1 σ id ⟨ep',some bd'⟩):=by
  refine⟨hk.mono fun b _ h=>own0 b h,fun _ h=>h,fun _ h=>.inl h,fun b hb=>?_,fun j=>?_,fun j he bd'' hbd=>?_⟩
  ·obtain⟨j,ep,bd,c,h1,h2⟩:=hb
   rw [bi] at h1
   rw [dE] at h2
   by_cases e:j=id
   ·rw [if_pos e] at h2
    rcases (hp b c h2).2 with h|h
    ·exact .inr h
    ·exact .inl (own0 b h)
   ·rw [if_neg e] at h1 h2
    exact .inl ⟨j,ep,bd,c,h1,h2⟩
  ·rw [bi]
   split
   ·rename_i e
    rw [e]
    rcases hep with h|h
    ·exact Nat.le_of_lt h
    ·exact Nat.le_of_eq h.1.symm
   ·exact qJ _
  ·rw [bi] at he hbd
   by_cases e:j=id
   ·rw [if_pos e] at he hbd
    rw [dE,if_pos e]
    obtain rfl:bd'=bd'':=by simpa using hbd
    rcases hep with h|⟨h1,bd,h2,h3,h4⟩
    ·rw [e] at he
     simp only at he
     omega
    ·exact⟨bd,by rw [e];exact h2,h3,by rw [h4,e]⟩
   ·rw [if_neg e] at he hbd
    rw [dE,if_neg e]
    exact⟨bd'',hbd,rfl,rfl⟩
 refine⟨hs,fun j ep bd hj=>?_,fun b hb=>?_,fun j j' b c c' h1 h2 h3 h4=>?_,fun b hb=>vK (hi.old b hb) hk.size,hi.lay.keep hi.old (fun _ h=>h) fun b hF hlt=>hk.block b hlt fun ⟨g1,c,g2⟩=>(hi.apart b (own0 b ⟨g1,c,g2⟩)).2 hF⟩
 ·by_cases e:j=id
  ·subst e
   rw [dE,if_pos rfl]
   rw [bi,if_pos rfl] at hj
   injection hj with h1 h2
   injection h2 with h2
   rw [<- h2]
   exact hb hs
  ·rw [dE,if_neg e]
   rw [bi,if_neg e] at hj
   refine (hi.body j ep bd hj).stp hi hs fun b c hm=>hk.block b (hi.apart b ⟨j,ep,bd,c,hj,hm⟩).1 ?_
   rintro⟨h1,c',h2⟩
   exact e (hi.inj j id b c c' (by rw [hj];rfl) h1 hm h2)
 ·obtain⟨j,ep,bd,c,h1,h2⟩:=hb
  rw [bi] at h1
  rw [dE] at h2
  by_cases e:j=id
  ·rw [if_pos e] at h2
   refine⟨(hp b c h2).1,fun hF=>?_⟩
   rcases (hp b c h2).2 with h|h
   ·exact absurd (hi.old b hF) (by omega)
   ·exact (hi.apart b (own0 b h)).2 hF
  ·rw [if_neg e] at h1 h2
   have:=hi.apart b ⟨j,ep,bd,c,h1,h2⟩
   exact⟨vK this.1 hk.size,this.2⟩
 ·have one:∀j b c c',j≠id->(up1 σ id ⟨ep',some bd'⟩ j).body.isSome=true->p'=some (b,c)->μ j=some (b,c')->False:=fun j b c c' hne h1 h2 h3=>by
   rw [bi,if_neg hne] at h1
   obtain⟨bd,hbd⟩:=vY.1 h1
   have hlt:=(hi.apart b ⟨j,_,bd,c',SB.mk' rfl hbd,h3⟩).1
   rcases (hp b c h2).2 with h|⟨h4,c'',h5⟩
   ·omega
   ·exact hne (hi.inj j id b c' c'' h1 h4 h3 h5)
  rw [dE] at h3 h4
  by_cases e:j=id
  ·by_cases e':j'=id
   ·rw [e,e']
   ·rw [if_pos e] at h3
    rw [if_neg e'] at h4
    exact (one j' b c c' e' h2 h3 h4).elim
  ·by_cases e':j'=id
   ·rw [if_neg e] at h3
    rw [if_pos e'] at h4
    exact (one j b c' c e h1 h4 h3).elim
   ·rw [if_neg e] at h3
    rw [if_neg e'] at h4
    rw [bi,if_neg e] at h1
    rw [bi,if_neg e'] at h2
    exact hi.inj j j' b c c' h1 h2 h3 h4
section
variable {P:Program} {N:Nat} {o:Oper} {s:St}
theorem az (rd:List Nat)(x:AV)(h:∀(s':St) W F μ a,(∀y∈o.op.operands.toList,s'.ev y=s.ev y)->(∀id∈rd,s'.σ id=s.σ id)->RS N W F μ s' a->∃v,(execOp a.eval o).run P W = .ok (.value v) W/\Rel W F μ s'.σ x v) :
  ax P N o s ⟨x,[],rd⟩:=by
 intro s' h1 h2 h3 W F μ a hr K Q hK
 obtain⟨v,hrun,hv⟩:=h s' W F μ a h1 h2 hr
 unfold Oper.wp
 rw [hrun]
 exact hK W F μ _ (hr.put (Stp.refl _ _ _ _) hr.inv hv) (Stp.refl _ _ _ _)
theorem Ei {x:Operand}(ho:o.op = .move x):ax P N o s ⟨s.ev x,[],[]⟩:=by
 refine az [] _ fun s' W F μ a h1 h2 hr=>⟨a.eval x,?_,?_⟩
 ·simp only [execOp,ho,kA3]
 ·rw [<- h1 x (by rw [ho];simp [Op.operands])]
  exact hr.ev x
theorem yQ {x:Operand}(ho:o.op = .assign x):ax P N o s ⟨s.ev x,[],[]⟩:=by
 refine az [] _ fun s' W F μ a h1 h2 hr=>⟨a.eval x,?_,?_⟩
 ·simp only [execOp,ho,kA3]
 ·rw [<- h1 x (by rw [ho];simp [Op.operands])]
  exact hr.ev x
theorem CW {c x y:Operand}{z:Bool}(ho:o.op = .pick c x y)(hc:s.ev c = .b z):ax P N o s ⟨cond z (s.ev x) (s.ev y),[],[]⟩:=by
 refine az [] _ fun s' W F μ a h1 h2 hr=>⟨if z then a.eval x else a.eval y,?_,?_⟩
 ·have hv:=hr.ev c
  rw [h1 c (by rw [ho];simp [Op.operands]),hc] at hv
  simp [execOp,ho,hv.b',asBool]
 ·have hx:=hr.ev x
  have hy:=hr.ev y
  rw [h1 x (by rw [ho];simp [Op.operands])] at hx
  rw [h1 y (by rw [ho];simp [Op.operands])] at hy
  cases z
  ·exact hy
  ·exact hx
theorem dY {op:BinOp}{t:TypeId}{x y:Operand}{u v:Value}{W:World}(h1:u.oneCell'=true)(h2:u≠.nilIface):(eqGuard op t x y u v).run P W = .ok () W:=by
 unfold eqGuard
 cases op <;> first|rfl|skip
 all_goals cases u <;> first|rfl|(simp at h2;done)|(simp [Value.oneCell'] at h1;done)
def AV.sc:AV->Bool
 | .b _ | .i _ _ | .u _ | .y _ | .s _=>true
 |_=>false
theorem Dc {op:BinOp}{x y r:AV}(h:yK op x y=some r):x.sc=true/\y.sc=true:=by
 unfold yK at h
 cases hs:nD op with
 |true=>
  rw [hs,cond_true] at h
  cases hc:y.cnt with
  |none=>rw [hc] at h;cases h
  |some n=>
   rw [hc] at h
   refine⟨?_,?_⟩
   ·cases x <;> first|rfl|(cases op <;> simp [shA] at h;done)
   ·cases y <;> first|rfl|(simp [AV.cnt] at hc;done)
 |false=>
  rw [hs,cond_false] at h
  split at h <;> first|exact⟨rfl,rfl⟩|cases h
theorem zy {x:AV}(h:x.sc=true):∃v,x.val?=some v/\v.oneCell'=true/\v≠.nilIface:=by
 cases x <;> first|exact⟨_,rfl,rfl,by simp⟩|(simp [AV.sc] at h;done)
theorem Gq {op:BinOp}{t yt:TypeId}{x y:Operand}{r:AV}(ho:o.op = .binOp op t x y yt)(h:yK op (s.ev x) (s.ev y)=some r):ax P N o s ⟨r,[],[]⟩:=by
 refine az [] _ fun s' W F μ a h1 h2 hr=>?_
 obtain⟨c1,c2⟩:=Dc h
 obtain⟨vx,hx,hx1,hx2⟩:=zy c1
 obtain⟨vy,hy,_,_⟩:=zy c2
 have ex:=hr.ev x
 have ey:=hr.ev y
 rw [h1 x (by rw [ho];simp [Op.operands])] at ex
 rw [h1 y (by rw [ho];simp [Op.operands])] at ey
 obtain⟨v,hv,hrun⟩:=CP (P:=P) (W:=W) (t:=t) hx hy h
 refine⟨v,?_,.pure (Ej hv)⟩
 simp only [execOp,ho,ug hx ex,ug hy ey,kA2,dY hx1 hx2,kA1,hrun,kA3]
theorem oR {t:TypeId}(hu:P.underlying t=some .bool)(W:World)(d:Nat)(p q:Bool):(Op.equalIn (d+1) t (.bool p) (.bool q)).run P W = .ok (p == q) W:=by
 rw [Op.equalIn]
 simp only [kA2,kA9 hu,kA1,kA3]
def Bb (σ:Sto):AV->Option (Bool × List Nat)
 | .raw (.pointer none)=>some (true,[])
 | .ro _=>some (false,[])
 | .own id ep off=>match σ id with
  |⟨ep',some _⟩=>cond (Nat.beq ep' ep) (some (false,[id])) none
  |_=>none
 |_=>none
theorem Er {σ σ':Sto}{x:AV}{b:Bool}{l:List Nat}(h:Bb σ x=some (b,l))(hl:∀id∈l,σ' id=σ id){W:World}{F:Nat->Prop}{μ:Mu}{v:Value}(hv:Rel W F μ σ' x v):∃p,v = .pointer p/\p.isNone=b:=by
 unfold Bb at h
 split at h
 ·obtain⟨rfl,rfl⟩:true=b/\[]=l:=by simpa using h
  exact⟨none,hv.raw',rfl⟩
 ·obtain⟨rfl,rfl⟩:false=b/\[]=l:=by simpa using h
  cases hv with
  |pure hv=>
   cases hv with
   |ro _ b off=>exact⟨_,rfl,rfl⟩
 ·split at h
  ·rename_i id ep off sb ep' bd e
   cases hb:Nat.beq ep' ep with
   |false=>rw [hb] at h;cases h
   |true=>
    rw [hb,cond_true] at h
    obtain⟨rfl,rfl⟩:false=b/\[id]=l:=by simpa using h
    obtain rfl:=qY hb
    cases hv with
    |pure hv=>cases hv
    |own _ _ _ _ he h1 hv=>
     obtain⟨b,c,_,rfl⟩:=hv bd ((hl id (by simp)).trans e)
     exact⟨_,rfl,rfl⟩
  ·cases h
 ·cases h
theorem AT {t e:TypeId}(hu:P.underlying t=some (.pointer e))(W:World)(d:Nat)(p:Option Addr):(Op.equalIn (d+1) t (.pointer p) (.pointer none)).run P W = .ok p.isNone W:=by
 rw [Op.equalIn]
 cases p <;> simp only [kA2,kA9 hu,kA1,kA3] <;> rfl
theorem Dl {t e:TypeId}(hu:P.underlying t=some (.slice e))(W:World)(d:Nat)(A:Option Addr)(n c:Nat):(Op.equalIn (d+1) t (.slice A n c) (.slice none 0 0)).run P W = .ok A.isNone W:=by
 rw [Op.equalIn]
 cases A <;> simp only [kA2,kA9 hu,kA1,kA3] <;> rfl
theorem Ad {op:BinOp}{t yt:TypeId}{ti:TI}{x y:Operand}{b:Bool}{l:List Nat}(ho:o.op = .binOp op t x y yt)(ht:aB P t ti)(hk:ti.k = .ptr)(hx:Bb s.σ (s.ev x) = some (b,l))(hy:s.ev y = .raw (.pointer none)){r:Bool}
  (hop:(op = .eql/\r=b)\/(op = .neq/\r = !b)):ax P N o s ⟨.b r,[],l⟩:=by
 refine az l _ fun s' W F μ a h1 h2 hr=>⟨.bool r,?_,.pure (.b r)⟩
 have ex:=hr.ev x
 have ey:=hr.ev y
 rw [h1 x (by rw [ho];simp [Op.operands])] at ex
 rw [h1 y (by rw [ho];simp [Op.operands]),hy] at ey
 obtain⟨p,hp,hb⟩:=Er hx h2 ex
 obtain⟨e,hu⟩:=ht.ptr hk
 have he:(Op.equal t (.pointer p) (.pointer none)).run P W = .ok p.isNone W:=AT hu W 9999 p
 have hg:=dY (op:=op) (t:=t) (x:=x) (y:=y) (u:=.pointer p) (v:=.pointer none) (W:=W) (P:=P) rfl (by simp)
 rcases hop with⟨rfl,rfl⟩|⟨rfl,rfl⟩
 ·have e:binOp .eql t (.pointer p) (.pointer none)=(do pure (.bool (<- Op.equal t (.pointer p) (.pointer none)))):=by cases p <;> rfl
  simp only [execOp,ho,hp,ey.raw',kA2,hg,kA1,e,he,kA3,hb]
 ·have e:binOp .neq t (.pointer p) (.pointer none)=(do pure (.bool (!(<- Op.equal t (.pointer p) (.pointer none))))):=by cases p <;> rfl
  simp only [execOp,ho,hp,ey.raw',kA2,hg,kA1,e,he,kA3,hb]
def z8:AV->Option Bool
 | .raw (.slice A _ _)=>some A.isNone
 | .sl (_::_)=>some false
 |_=>none
theorem CL {σ:Sto}{x:AV}{b:Bool}(h:z8 x=some b){W:World}{F:Nat->Prop}{μ:Mu}{v:Value}(hv:Rel W F μ σ x v):∃A n c,v = .slice A n c/\A.isNone=b:=by
 unfold z8 at h
 split at h
 ·obtain rfl:=qB h
  exact⟨_,_,_,hv.raw',rfl⟩
 ·obtain rfl:=qB h
  cases hv.sl' with
  |sl _ A c m b off cell hc hm hA=>exact⟨A,_,c,rfl,by rw [(hA (by simp)).1];rfl⟩
 ·cases h
theorem xj {op:BinOp}{t yt:TypeId}{ti:TI}{e0:Nat}{x y:Operand}{b:Bool}(ho:o.op = .binOp op t x y yt)(ht:aB P t ti)(hk:ti.k = .slice e0)(hx:z8 (s.ev x) = some b)(hy:s.ev y = .raw (.slice none 0 0)){r:Bool}
  (hop:(op = .eql/\r=b)\/(op = .neq/\r = !b)):ax P N o s ⟨.b r,[],[]⟩:=by
 refine az [] _ fun s' W F μ a h1 h2 hr=>⟨.bool r,?_,.pure (.b r)⟩
 have ex:=hr.ev x
 have ey:=hr.ev y
 rw [h1 x (by rw [ho];simp [Op.operands])] at ex
 rw [h1 y (by rw [ho];simp [Op.operands]),hy] at ey
 obtain⟨A,n,c,hp,hb⟩:=CL hx ex
 have hu:=ht.slice hk
 have he:(Op.equal t (.slice A n c) (.slice none 0 0)).run P W = .ok A.isNone W:=Dl hu W 9999 A n c
 have hg:=dY (op:=op) (t:=t) (x:=x) (y:=y) (u:=.slice A n c) (v:=.slice none 0 0) (W:=W) (P:=P) rfl (by simp)
 rcases hop with⟨rfl,rfl⟩|⟨rfl,rfl⟩
 ·have e:binOp .eql t (.slice A n c) (.slice none 0 0)=(do pure (.bool (<- Op.equal t (.slice A n c) (.slice none 0 0)))):=by cases A <;> rfl
  simp only [execOp,ho,hp,ey.raw',kA2,hg,kA1,e,he,kA3,hb]
 ·have e:binOp .neq t (.slice A n c) (.slice none 0 0)=(do pure (.bool (!(<- Op.equal t (.slice A n c) (.slice none 0 0))))):=by cases A <;> rfl
  simp only [execOp,ho,hp,ey.raw',kA2,hg,kA1,e,he,kA3,hb]
theorem zO {op:BinOp}{t yt:TypeId}{ti:TI}{x y:Operand}{p q:Bool}(ho:o.op = .binOp op t x y yt)(ht:aB P t ti)(hk:ti.k = .bool)(hx:s.ev x = .b p)(hy:s.ev y = .b q){r:Bool}
  (hop:(op = .eql/\r=(p == q))\/(op = .neq/\r = !(p == q))):ax P N o s ⟨.b r,[],[]⟩:=by
 refine az [] _ fun s' W F μ a h1 h2 hr=>⟨.bool r,?_,.pure (.b r)⟩
 have ex:=hr.ev x
 have ey:=hr.ev y
 rw [h1 x (by rw [ho];simp [Op.operands]),hx] at ex
 rw [h1 y (by rw [ho];simp [Op.operands]),hy] at ey
 have hu:=ht.bool hk
 have he:(Op.equal t (.bool p) (.bool q)).run P W = .ok (p == q) W:=oR hu W 9999 p q
 have hg:=dY (op:=op) (t:=t) (x:=x) (y:=y) (u:=.bool p) (v:=.bool q) (W:=W) (P:=P) rfl (by simp)
 rcases hop with⟨rfl,rfl⟩|⟨rfl,rfl⟩
 ·have e:binOp .eql t (.bool p) (.bool q)=(do pure (.bool (<- Op.equal t (.bool p) (.bool q)))):=rfl
  simp only [execOp,ho,ex.b',ey.b',kA2,hg,kA1,e,he,kA3]
 ·have e:binOp .neq t (.bool p) (.bool q)=(do pure (.bool (!(<- Op.equal t (.bool p) (.bool q))))):=rfl
  simp only [execOp,ho,ex.b',ey.b',kA2,hg,kA1,e,he,kA3]
def unA (op:UnOp)(x:AV):Option AV :=
 match op,x with
 | .not,.b p=>some (.b (!p))
 | .neg,.i k n=>some (.i k (k.wrap (0-n)))
 | .xor,.u x=>some (.u (~~~x))
 |_,_=>none
theorem Hi {op:UnOp}{t:TypeId}{x:Operand}{r:AV}(ho:o.op = .unOp op t x)(h:unA op (s.ev x)=some r):ax P N o s ⟨r,[],[]⟩:=by
 refine az [] _ fun s' W F μ a h1 h2 hr=>?_
 have ex:=hr.ev x
 rw [h1 x (by rw [ho];simp [Op.operands])] at ex
 generalize s.ev x=y at *
 unfold unA at h
 split at h
 ·obtain rfl:=qB h
  exact⟨_,by simp [execOp,ho,ex.b',Op.unary],.pure (.b _)⟩
 ·obtain rfl:=qB h
  refine⟨_,?_,.pure (.i _ _)⟩
  simp only [execOp,ho,ex.i',Op.unary,Op.intArith,kA2,kA3,kA1]
 ·rename_i z
  obtain rfl:=qB h
  refine⟨_,?_,.pure (.u _)⟩
  simp only [execOp,ho,ex.u',Op.unary,kA2]
  have hx:(Op.intBits .xor .u64 (if IntKind.u64.signed=true then -1 else IntKind.u64.max) (z.toNat:Int)).run P W = .ok (.int .u64 ((~~~z).toNat:Int)) W:=by
   show Result.ok (Value.int .u64 (IntKind.u64.wrap (BitVec.toNat (BitVec.ofInt 64 IntKind.u64.max ^^^ BitVec.ofInt 64 (z.toNat:Int))))) W=_
   rw [dp,gv]
   have e:BitVec.ofInt 64 IntKind.u64.max ^^^ z.toBitVec = ~~~z.toBitVec:=by
    have:BitVec.ofInt 64 IntKind.u64.max=BitVec.allOnes 64:=by decide
    rw [this,BitVec.allOnes_xor]
   rw [e]
   rfl
  rw [hx]
  rfl
 ·cases h
theorem tT {x:Operand}{i:Nat}{xs:List AV}{r:AV}(ho:o.op = .extract x i)(hx:s.ev x = .tup xs)(hr':xs[i]?=some r):ax P N o s ⟨r,[],[]⟩:=by
 refine az [] _ fun s' W F μ a h1 h2 hr=>?_
 have ex:=hr.ev x
 rw [h1 x (by rw [ho];simp [Op.operands]),hx] at ex
 obtain⟨vs,hv,hl,hp⟩:=ex.tup'
 obtain⟨v,hvi⟩:∃v,vs[i]?=some v:=⟨_,qA (by have:=(qD.1 hr').1;omega)⟩
 exact⟨v,by simp [execOp,ho,hv,Instr.extract,hvi],hp i r v hr' hvi⟩
theorem r9 {f:FuncId}{first caps:Array Operand}(ho:o.op = .makeFunc (.func f) first caps):ax P N o s ⟨.fn f (first.toList.map s.ev) (caps.toList.map s.ev),[],[]⟩:=by
 refine az [] _ fun s' W F μ a h1 h2 hr=>⟨.func (.func f) (first.toList.map a.eval).toArray (caps.toList.map a.eval).toArray,?_,?_⟩
 ·have e:∀l:Array Operand,l.map a.eval=(l.toList.map a.eval).toArray:=fun l=>by apply Array.toList_inj.1;simp
  simp only [execOp,ho,Instr.makeFunc,kA2,kA3,kA1,e]
 ·have ops:o.op.operands.toList=first.toList++caps.toList:=by rw [ho];simp [Op.operands]
  refine .fn f _ _ _ _ (by simp) (by simp) (fun j x v hx hv=>?_) (fun j x v hx hv=>?_)
  ·rw [qF] at hx hv
   cases hq:first.toList[j]? with
   |none=>rw [hq] at hx;cases hx
   |some q=>
    rw [hq] at hx hv
    obtain rfl:s.ev q=x:=by simpa using hx
    obtain rfl:a.eval q=v:=by simpa using hv
    rw [<- h1 q (by rw [ops];exact vS _ (qN hq))]
    exact hr.ev q
  ·rw [qF] at hx hv
   cases hq:caps.toList[j]? with
   |none=>rw [hq] at hx;cases hx
   |some q=>
    rw [hq] at hx hv
    obtain rfl:s.ev q=x:=by simpa using hx
    obtain rfl:a.eval q=v:=by simpa using hv
    rw [<- h1 q (by rw [ops];exact List.mem_append_right _ (qN hq))]
    exact hr.ev q
end
end Go.Proofs.YtdidjpohnopihaaGreat.Sm
end
end
